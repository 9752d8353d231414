/- Rules for walks, pure facts of the program, contracts of its functions: Pure Bits RefA Round Stripe Plan Parts Parts2 Work Do AwakeP. -/
import Derived.Test.YtkgboabmjahndaaGreatDoorMB
import Derived.Test.YtkgboabmjahndaaGreatDoorMX
import Derived.Laws.BitsAllLaws
import Derived.Laws.BitsLemmas
import Derived.Lib.ItoaNum
import Derived.WalkKit
set_option linter.unusedVariables false
namespace Go.Fx
open Go Go.Proofs

theorem mixed : Tryz.prog.follows .mixedOrders = true := by kernel_rfl
/-! ### The program's data, as plain data -/
abbrev I (z : Int) : AV := .val (.int .i64 z)
abbrev B (p : Prop) [Decidable p] : AV := .val (.bool (decide p))
abbrev u8 (b : UInt8) : AV := .val (.int .u8 (b.toNat : Int))
abbrev str (s : ByteArray) : AV := .val (.string s)
abbrev intRows (l : List Int) : List (List AV) := l.map fun z => [I z]
abbrev ints (l : List Int) : AV := .sl 1 (intRows l)
abbrev byteRows (l : List UInt8) : List (List AV) := l.map fun b => [u8 b]
abbrev bytes (l : List UInt8) : AV := .sl 1 (byteRows l)

structure Layout where
  u : Int
  c : Int
  o : Int
  deriving DecidableEq
abbrev Layout.cells (l : Layout) : List AV := [I l.u, I l.c, I l.o]
def Layout.May (l : Layout) : Prop := 1 ≤ l.u ∧ 1 ≤ l.c ∧ l.c ≤ 8 ∧ l.u ≤ l.o ∧ l.o ≤ 64 ∧ l.o % l.u = 0
instance (l : Layout) : Decidable l.May := by unfold Layout.May; infer_instance
def layoutErr (l : Layout) : Int := if l.May then 0 else 1

/-- Where a byte lies: the object, and where in it. -/
def placeO (l : Layout) (off : Int) : Int := off / l.u / (l.o / l.u * l.c) * l.c + off / l.u % (l.o / l.u * l.c) % l.c
def placeK (l : Layout) (off : Int) : Int := off / l.u % (l.o / l.u * l.c) / l.c * l.u + off % l.u

theorem mul_le_mul' {a b c d : Int} (h1 : 0 ≤ a) (h2 : a ≤ c) (h3 : 0 ≤ b) (h4 : b ≤ d) : 0 ≤ a * b ∧ a * b ≤ c * d :=
  ⟨Int.mul_nonneg h1 h3, Int.mul_le_mul h2 h4 h3 (by omega)⟩
theorem div_facts {a b m : Int} (h0 : 0 ≤ a) (h1 : a ≤ m) (h2 : 1 ≤ b) : 0 ≤ a / b ∧ a / b ≤ m ∧ a / b ≤ a := by
  have h3 : 0 ≤ a / b := Int.ediv_nonneg h0 (by omega)
  have h4 : a / b ≤ a := Int.ediv_le_self b h0
  omega
theorem mod_facts {a b : Int} (h2 : 1 ≤ b) : 0 ≤ a % b ∧ a % b < b := ⟨Int.emod_nonneg a (by omega), Int.emod_lt_of_pos a (by omega)⟩
structure PlaceFacts (l : Layout) (off : Int) : Prop where
  each : 1 ≤ l.o / l.u ∧ l.o / l.u ≤ 64
  row : 1 ≤ l.o / l.u * l.c ∧ l.o / l.u * l.c ≤ 512
  unit : 0 ≤ off / l.u ∧ off / l.u ≤ off
  inr : 0 ≤ off / l.u % (l.o / l.u * l.c) ∧ off / l.u % (l.o / l.u * l.c) < l.o / l.u * l.c
  q : 0 ≤ off / l.u / (l.o / l.u * l.c) ∧ off / l.u / (l.o / l.u * l.c) ≤ off
  qc : 0 ≤ off / l.u / (l.o / l.u * l.c) * l.c ∧ off / l.u / (l.o / l.u * l.c) * l.c ≤ off * 8
  ic : 0 ≤ off / l.u % (l.o / l.u * l.c) % l.c ∧ off / l.u % (l.o / l.u * l.c) % l.c < 8
  ik : 0 ≤ off / l.u % (l.o / l.u * l.c) / l.c ∧ off / l.u % (l.o / l.u * l.c) / l.c < 512
  iu : 0 ≤ off / l.u % (l.o / l.u * l.c) / l.c * l.u ∧ off / l.u % (l.o / l.u * l.c) / l.c * l.u ≤ 512 * 64
  ou : 0 ≤ off % l.u ∧ off % l.u < 64
theorem placeFacts {l : Layout} {off : Int} (h : l.May) (h0 : 0 ≤ off) : PlaceFacts l off := by
  obtain ⟨q1, q2, q3, q4, q5, q6⟩ := h
  have e1 := div_facts (a := l.o) (b := l.u) (m := 64) (by omega) (by omega) q1
  have e2 : 1 ≤ l.o / l.u := by rw [Int.le_ediv_iff_mul_le (by omega)]; omega
  have e3 := mul_le_mul' (a := l.o / l.u) (b := l.c) (c := 64) (d := 8) (by omega) (by omega) (by omega) q3
  have e4 : 1 ≤ l.o / l.u * l.c := Int.le_trans (show (1 : Int) ≤ 1 * 1 by decide) (Int.mul_le_mul e2 q2 (by decide) (by omega))
  have e5 := div_facts (a := off) (b := l.u) (m := off) h0 (Int.le_refl _) q1
  have e6 := mod_facts (a := off / l.u) (b := l.o / l.u * l.c) e4
  have e7 := div_facts (a := off / l.u) (b := l.o / l.u * l.c) (m := off) e5.1 e5.2.1 e4
  have e8 := mul_le_mul' (a := off / l.u / (l.o / l.u * l.c)) (b := l.c) (c := off) (d := 8) e7.1 e7.2.1 (by omega) q3
  have e9 := mod_facts (a := off / l.u % (l.o / l.u * l.c)) (b := l.c) q2
  have e10 := div_facts (a := off / l.u % (l.o / l.u * l.c)) (b := l.c) (m := 511) e6.1 (by omega) q2
  have e11 := mul_le_mul' (a := off / l.u % (l.o / l.u * l.c) / l.c) (b := l.u) (c := 512) (d := 64) e10.1 (by omega) (by omega) (by omega)
  have e12 := mod_facts (a := off) (b := l.u) q1
  exact ⟨⟨e2, e1.2.1⟩, ⟨e4, e3.2⟩, ⟨e5.1, e5.2.1⟩, e6, ⟨e7.1, e7.2.1⟩, e8, ⟨e9.1, by omega⟩, ⟨e10.1, by omega⟩, e11, ⟨e12.1, by omega⟩⟩

def right (n : Int) : Prop := 0 ≤ n ∧ n ≤ 2
instance (n : Int) : Decidable (right n) := by unfold right; infer_instance
def mget (m : List Int) (i : Int) : Int := if 0 ≤ i ∧ i < (m.length : Int) ∧ i < 512 ∧ right (m.getD i.toNat 0) then m.getD i.toNat 0 else 0
/-- A number in the reach of the layouts. -/
def inFar (n : Int) : Prop := 0 ≤ n ∧ n ≤ 1099511627776
instance (n : Int) : Decidable (inFar n) := by unfold inFar; infer_instance
def wide (w : Int) : Int := min (max w 1) 7
/-- Without the noughts at the end, of the first n. -/
def trim (l : List Int) : Nat → List Int
  | 0 => []
  | n + 1 => if l.getD n 0 = 0 then trim l n else l.take (n + 1)
def cleanL (l : List Int) : List Int := trim l l.length
theorem trim_stop {l : List Int} {n : Nat} (h : n = 0 ∨ l.getD (n - 1) 0 ≠ 0) : trim l n = l.take n := by
  cases n with
  | zero => rfl
  | succ n =>
    rcases h with h | h
    · omega
    · rw [trim, if_neg (by simpa using h)]
/-- A row that is filled in, one by one. -/
def filled (f : Nat → Int) (N s : Nat) : List Int := (List.range s).map f ++ List.replicate (N - s) 0
theorem filled_len (f : Nat → Int) {N s : Nat} (h : s ≤ N) : (filled f N s).length = N := by simp [filled]; omega
theorem filled_step (f : Nat → Int) {N s : Nat} (h : s < N) : (filled f N s).set s (f s) = filled f N (s + 1) := by
  unfold filled
  rw [show N - s = (N - (s + 1)) + 1 by omega, List.replicate_succ, List.range_succ, List.set_append]
  simp
theorem filled_get (f : Nat → Int) {N s : Nat} (h : s < N) : (filled f N s)[s]? = some 0 := by
  unfold filled
  rw [show N - s = (N - (s + 1)) + 1 by omega, List.replicate_succ]
  simp
theorem filled_all (f : Nat → Int) (N : Nat) : filled f N N = (List.range N).map f := by simp [filled]
theorem intRows_set (l : List Int) (i : Nat) (x : Int) : (intRows l).set i [I x] = intRows (l.set i x) := by simp [intRows, List.map_set]
theorem byteRows_set (l : List UInt8) (i : Nat) (x : UInt8) : (byteRows l).set i [u8 x] = byteRows (l.set i x) := by simp [byteRows, List.map_set]
theorem intRows_get {l : List Int} {i : Nat} {x : Int} (h : l[i]? = some x) : (intRows l)[i]? = some [I x] := by simp [intRows, h]
theorem intRows_getz {l : List Int} {z : Int} {x : Int} (h : l[z.toNat]? = some x) : (intRows l)[z.toNat]? = some [I x] := intRows_get h
theorem intRows_take (l : List Int) (n : Nat) : (intRows l).take n = intRows (l.take n) := by simp [intRows, List.map_take]
theorem getD_of {l : List Int} {n : Nat} {x d : Int} (h : l[n]? = some x) : l.getD n d = x := by simp [List.getD_eq_getElem?_getD, h]
/-- A row whose first s are changed. -/
def mapped (f : Nat → Int → Int) (l : List Int) (s : Nat) : List Int := l.mapIdx fun i x => if i < s then f i x else x
theorem mapped_len (f : Nat → Int → Int) (l : List Int) (s : Nat) : (mapped f l s).length = l.length := by simp [mapped]
theorem mapped_zero (f : Nat → Int → Int) (l : List Int) : mapped f l 0 = l := by
  apply List.ext_getElem? ; intro i; simp [mapped]
theorem mapped_all (f : Nat → Int → Int) (l : List Int) : mapped f l l.length = l.mapIdx f := by
  apply List.ext_getElem
  · simp [mapped]
  · intro i h1 h2
    simp only [mapped, List.length_mapIdx] at h1
    simp [mapped, h1]
theorem mapped_get (f : Nat → Int → Int) {l : List Int} {s : Nat} {x : Int} (h : (mapped f l s)[s]? = some x) : l[s]? = some x := by
  simpa [mapped] using h
theorem mapped_set (f : Nat → Int → Int) {l : List Int} {s : Nat} {x y : Int} (h : l[s]? = some x) (hy : f s x = y) : (mapped f l s).set s y = mapped f l (s + 1) := by
  subst hy
  apply List.ext_getElem
  · simp [mapped]
  · intro i h1 h2
    obtain ⟨h3, h4⟩ := List.getElem?_eq_some_iff.1 h
    simp only [mapped, List.getElem_set, List.getElem_mapIdx]
    by_cases e : s = i
    · subst e; simp [h4]
    · rw [if_neg e]
      by_cases h5 : i < s
      · rw [if_pos h5, if_pos (by omega)]
      · rw [if_neg h5, if_neg (by omega)]
theorem mapped_same (f : Nat → Int → Int) {l : List Int} {s : Nat} {x : Int} (h : l[s]? = some x) (hy : f s x = x) : mapped f l s = mapped f l (s + 1) := by
  rw [← mapped_set f h hy]
  have : (mapped f l s)[s]? = some x := by simpa [mapped] using h
  apply List.ext_getElem?
  intro i
  rw [List.getElem?_set]
  by_cases e : s = i
  · subst e
    obtain ⟨h3, _⟩ := List.getElem?_eq_some_iff.1 this
    rw [if_pos rfl, if_pos h3, this]
  · rw [if_neg e]
/-- Where the first stands that is so; below 0: none is. -/
def idx {α : Type} (p : α → Bool) : List α → Int
  | [] => -1
  | x :: l => if p x then 0 else if idx p l < 0 then -1 else idx p l + 1
theorem idx_range {α : Type} (p : α → Bool) : ∀ l : List α, -1 ≤ idx p l ∧ idx p l < (l.length : Int)
  | [] => by simp [idx]
  | x :: l => by
    have := idx_range p l
    unfold idx
    split
    · simp
    · split
      · simp; omega
      · simp; omega
theorem idx_hit {α : Type} {p : α → Bool} : ∀ {l : List α} {s : Nat} {x : α}, l[s]? = some x → p x = true → (∀ y ∈ l.take s, p y = false) → idx p l = (s : Int)
  | [], s, x, h, _, _ => by simp at h
  | z :: l, 0, x, h, hp, _ => by simp at h; subst h; simp [idx, hp]
  | z :: l, s + 1, x, h, hp, ha => by
    have ih := idx_hit (l := l) (s := s) (x := x) (by simpa using h) hp (fun y hy => ha y (by simp [hy]))
    have hz := ha z (by simp)
    unfold idx
    rw [if_neg (by simp [hz]), ih, if_neg (by omega)]
    rfl
theorem idx_miss {α : Type} {p : α → Bool} : ∀ {l : List α}, (∀ y ∈ l, p y = false) → idx p l = -1
  | [], _ => rfl
  | z :: l, ha => by
    have hz := ha z (by simp)
    unfold idx
    rw [if_neg (by simp [hz]), idx_miss (fun y hy => ha y (by simp [hy]))]
    rfl
theorem idx_neg {α : Type} {p : α → Bool} {l : List α} : ¬ 0 ≤ idx p l ↔ ∀ y ∈ l, p y = false := by
  constructor
  · intro h y hy
    induction l with
    | nil => cases hy
    | cons z l ih =>
      unfold idx at h
      by_cases hz : p z = true
      · rw [if_pos hz] at h; exact absurd (Int.le_refl 0) h
      · rw [if_neg hz] at h
        rcases List.mem_cons.1 hy with rfl | hy
        · simpa using hz
        · by_cases h0 : idx p l < 0
          · exact ih (by omega) hy
          · rw [if_neg h0] at h; omega
  · intro h; rw [idx_miss h]; decide
theorem idx_right {m : List Int} : ¬ 0 ≤ idx (fun x => decide (¬ right x)) m ↔ ∀ x ∈ m, right x := by
  rw [idx_neg]
  exact ⟨fun h y hy => by simpa using h y hy, fun h y hy => by simpa using h y hy⟩
theorem take_more {α : Type} {p : α → Bool} {l : List α} {s : Nat} {x : α} (hx : l[s]? = some x) (hp : p x = false) (h : ∀ y ∈ l.take s, p y = false) : ∀ y ∈ l.take (s + 1), p y = false := by
  intro y hy
  rw [List.take_add_one, hx] at hy
  rcases List.mem_append.1 hy with hy | hy
  · exact h y hy
  · simp at hy; subst hy; exact hp
/-- May a map be? -/
def MapMay (m : List Int) : Prop := m.length ≤ 512 ∧ (∀ x ∈ m, right x) ∧ (m.length = 0 ∨ m.getD (m.length - 1) 0 ≠ 0)
instance (m : List Int) : Decidable (MapMay m) := by unfold MapMay; infer_instance
def b8 (z : Int) : UInt8 := UInt8.ofNat (z % 256).toNat
theorem b8_wrap (z : Int) : IntKind.u8.wrap z = ((b8 z).toNat : Int) := by
  have h : (z % 256).toNat < 256 := by omega
  have h2 : (b8 z).toNat = (z % 256).toNat := by
    unfold b8; rw [UInt8.toNat_ofNat']; exact Nat.mod_eq_of_lt h
  rw [h2]
  show z % 256 = _
  omega
theorem u8_lt (b : UInt8) : (b.toNat : Int) < 256 := by have := b.toNat_lt; omega
theorem u8_i64 (b : UInt8) : IntKind.i64.wrap (b.toNat : Int) = (b.toNat : Int) := i64_id (by omega) (by have := u8_lt b; omega)
def rowL (m : List Int) : List Int := cleanL ((List.range (min m.length 512)).map fun i : Nat => mget m i)
def setL (m : List Int) (i state : Int) : List Int :=
  if 0 ≤ i ∧ i < 512 ∧ right state then cleanL ((List.range (max (min m.length 512) (i.toNat + 1))).map fun k : Nat => if (k : Int) = i then state else mget m k) else rowL m
def freshL (m : List Int) : List Int := (rowL m).mapIdx fun _ x => if x = 1 then 2 else x
def mergeL (older newer : List Int) : List Int := (rowL newer).mapIdx fun i x => if x = 2 ∧ mget older i = 1 then 1 else x
theorem if_t {α : Type} {p : Prop} [Decidable p] {a b : α} (h : p) : a = if p then a else b := by rw [if_pos h]
theorem if_f {α : Type} {p : Prop} [Decidable p] {a b : α} (h : ¬ p) : b = if p then a else b := by rw [if_neg h]
theorem B_t {p : Prop} [Decidable p] (h : p) : AV.val (.bool true) = B p := by unfold B; rw [decide_eq_true h]
theorem B_f {p : Prop} [Decidable p] (h : ¬ p) : AV.val (.bool false) = B p := by unfold B; rw [decide_eq_false h]
theorem B_c {p q : Prop} [Decidable p] [Decidable q] (h : p ↔ q) : B p = B q := by unfold B; rw [decide_eq_decide.2 h]
theorem I_c {a b : Int} (h : a = b) : I a = I b := by rw [h]
end Go.Fx
set_option linter.unusedVariables false
namespace Go.Fx
open Go

theorem u8_or_b (x y : UInt8) : bits .or .u8 (x.toNat : Int) (y.toNat : Int) = ((x ||| y).toNat : Int) := by
  rw [u8_or_nat _ _ x.toNat_lt y.toNat_lt, UInt8.toNat_or]
theorem i64_or_n (a b : Nat) (ha : a < 9223372036854775808) (hb : b < 9223372036854775808) : bits .or .i64 (a : Int) (b : Int) = ((a ||| b : Nat) : Int) := by
  have hx : a ||| b < 2 ^ 63 := Nat.or_lt_two_pow (by omega) (by omega)
  have h1 : (BitVec.ofInt 64 (a : Int)).toNat = a := by
    rw [BitVec.ofInt_natCast, BitVec.toNat_ofNat]; exact Nat.mod_eq_of_lt (by omega)
  have h2 : (BitVec.ofInt 64 (b : Int)).toNat = b := by
    rw [BitVec.ofInt_natCast, BitVec.toNat_ofNat]; exact Nat.mod_eq_of_lt (by omega)
  show IntKind.i64.wrap ((BitVec.ofInt 64 (a : Int) ||| BitVec.ofInt 64 (b : Int)).toNat : Int) = _
  rw [BitVec.toNat_or, h1, h2, i64_id (by omega) (by omega)]
/-- A byte behind a number. -/
theorem i64_join {z : Int} (b : UInt8) (h0 : 0 ≤ z) (h1 : z < 36028797018963968) : bits .or .i64 (z * 256) (b.toNat : Int) = z * 256 + (b.toNat : Int) := by
  obtain ⟨n, rfl⟩ := Int.eq_ofNat_of_zero_le h0
  have hb := b.toNat_lt
  have e : (n : Int) * 256 = ((256 * n : Nat) : Int) := by omega
  rw [e, i64_or_n _ _ (by omega) (by omega)]
  have := Nat.two_pow_add_eq_or_of_lt (i := 8) (b := b.toNat) (by omega) n
  rw [show (256 * n) = 2 ^ 8 * n by omega, ← this]
  omega
theorem i64_and3 {z : Int} (h0 : 0 ≤ z) (h1 : z < 9223372036854775808) : bits .and .i64 z 3 = z % 4 := by
  obtain ⟨n, rfl⟩ := Int.eq_ofNat_of_zero_le h0
  have h3 : (BitVec.ofInt 64 3).toNat = 2 ^ 2 - 1 := by decide
  have h2 : (BitVec.ofInt 64 (n : Int)).toNat = n := by
    rw [BitVec.ofInt_natCast, BitVec.toNat_ofNat]; exact Nat.mod_eq_of_lt (by omega)
  show IntKind.i64.wrap ((BitVec.ofInt 64 (n : Int) &&& BitVec.ofInt 64 3).toNat : Nat) = (n : Int) % 4
  rw [BitVec.toNat_and, h3, h2, Nat.and_two_pow_sub_one_eq_mod, i64_id (by omega) (by omega)]
  omega
theorem u8_shr (b : UInt8) {k : Nat} (hk : k < 8) : ((b.toNat : Int) / 2 ^ k) = ((b >>> UInt8.ofNat k).toNat : Int) := by
  rw [UInt8.toNat_shiftRight, Nat.shiftRight_eq_div_pow]
  have h1 : (UInt8.ofNat k).toNat % 8 = k := by
    rw [UInt8.toNat_ofNat']; omega
  rw [h1]
  norm_cast

/-! ### Numbers as bytes -/
def numPow (w : Int) : Nat := 2 ^ (8 * wide w).toNat
theorem wide_range (w : Int) : 1 ≤ wide w ∧ wide w ≤ 7 := by unfold wide; omega
theorem pow_range {k : Nat} (h : k ≤ 56) : (1 : Int) ≤ 2 ^ k ∧ (2 : Int) ^ k ≤ 72057594037927936 := by
  have h1 : 1 ≤ 2 ^ k := Nat.one_le_two_pow
  have h2 : 2 ^ k ≤ 2 ^ 56 := Nat.pow_le_pow_right (by decide) h
  have h3 : (2 : Nat) ^ 56 = 72057594037927936 := by decide
  constructor
  · exact_mod_cast h1
  · have : ((2 ^ k : Nat) : Int) ≤ ((2 ^ 56 : Nat) : Int) := Int.ofNat_le.2 h2
    rw [h3] at this
    simpa using this
def numClamp (w n : Int) : Int := min (max n 0) (2 ^ (8 * wide w).toNat - 1)
/-- A number of so many bytes. -/
def numAt (w n : Int) (i : Nat) : UInt8 := b8 (numClamp w n / 2 ^ (8 * (wide w - 1 - (i : Int))).toNat)
def numB (w n : Int) : List UInt8 := (List.range (wide w).toNat).map (numAt w n)
def blobB (x : List UInt8) : List UInt8 := numB 2 ((x.take 65535).length : Int) ++ x.take 65535
theorem blob_take (x : List UInt8) : (byteRows x).take (min (x.length : Int) 65535).toNat = byteRows (x.take 65535) := by
  have : (min (x.length : Int) 65535).toNat = min x.length 65535 := by omega
  rw [this, byteRows, byteRows, List.map_take]
  by_cases h : x.length ≤ 65535
  · rw [Nat.min_eq_left h, List.take_of_length_le (by simp), List.take_of_length_le (by simpa using h)]
  · rw [Nat.min_eq_right (by omega)]

theorem byteRows_get {l : List UInt8} {i : Nat} {x : UInt8} (h : l[i]? = some x) : (byteRows l)[i]? = some [u8 x] := by simp [byteRows, h]
theorem byteRows_getz {l : List UInt8} {z : Int} {x : UInt8} (h : l[z.toNat]? = some x) : (byteRows l)[z.toNat]? = some [u8 x] := byteRows_get h
/-- The i-th state of a map's bytes. -/
def unpAt (l : List UInt8) (i : Nat) : Int := (((l.getD (2 + i / 4) 0).toNat / 2 ^ (i % 4 * 2) % 4 : Nat) : Int)
theorem unp_exp (i : Nat) : ((i : Int) % 4 * 2).toNat = i % 4 * 2 := by omega
theorem unp_shr (x : UInt8) (i : Nat) : 0 ≤ (x.toNat : Int) / 2 ^ ((i : Int) % 4 * 2).toNat ∧ (x.toNat : Int) / 2 ^ ((i : Int) % 4 * 2).toNat < 256 := by
  have hx := u8_lt x
  have hp := (pow_range (k := ((i : Int) % 4 * 2).toNat) (by omega)).1
  have := div_facts (a := (x.toNat : Int)) (b := 2 ^ ((i : Int) % 4 * 2).toNat) (m := 255) (by omega) (by omega) hp
  omega
theorem unp_eq {l : List UInt8} {i : Nat} {x : UInt8} (h : l[2 + i / 4]? = some x) : (x.toNat : Int) / 2 ^ ((i : Int) % 4 * 2).toNat % 4 = unpAt l i := by
  unfold unpAt
  rw [List.getD_eq_getElem?_getD, h, unp_exp, Option.getD_some]
  push_cast
  rfl
def unpN (l : List UInt8) : Nat := (l.getD 0 0).toNat * 256 + (l.getD 1 0).toNat
def unpM (l : List UInt8) : List Int := (List.range ((unpN l + 3) / 4 * 4)).map (unpAt l)
theorem unpM_len (l : List UInt8) : (unpM l).length = (unpN l + 3) / 4 * 4 := by simp [unpM]
def UnpOk (l : List UInt8) : Prop := 2 ≤ l.length ∧ unpN l ≤ 512 ∧ l.length = 2 + (unpN l + 3) / 4 ∧ (∀ x ∈ (unpM l).drop (unpN l), x = 0) ∧ MapMay ((unpM l).take (unpN l))
instance (l : List UInt8) : Decidable (UnpOk l) := by unfold UnpOk; infer_instance
def unpackV (l : List UInt8) : List Int := if UnpOk l then (unpM l).take (unpN l) else []
theorem unp_no {l : List UInt8} (h : ¬ UnpOk l) : AV.tup [AV.sl 1 [], .val (.bool false)] = .tup [ints (unpackV l), B (UnpOk l)] := by
  rw [unpackV, if_neg h, ← B_f h]; rfl
theorem unp_yes {l : List UInt8} (h : UnpOk l) : AV.tup [ints ((unpM l).take (unpN l)), .val (.bool true)] = .tup [ints (unpackV l), B (UnpOk l)] := by
  rw [unpackV, if_pos h, ← B_t h]
theorem idx_zero {m : List Int} : ¬ 0 ≤ idx (fun x => decide (x ≠ 0)) m ↔ ∀ x ∈ m, x = 0 := by
  rw [idx_neg]
  exact ⟨fun h y hy => by simpa using h y hy, fun h y hy => by simpa using h y hy⟩
theorem unpN_of {l : List UInt8} {x y : UInt8} (hx : l[0]? = some x) (hy : l[1]? = some y) : (x.toNat : Int) * 256 + (y.toNat : Int) = (unpN l : Int) := by
  unfold unpN
  rw [List.getD_eq_getElem?_getD, List.getD_eq_getElem?_getD, hx, hy, Option.getD_some, Option.getD_some, Int.natCast_add, Int.natCast_mul]
  rfl
theorem far_more {l : List Int} {s : Nat} {x : Int} (hx : l[s]? = some x) (hp : inFar x) (h : ∀ y ∈ l.take s, inFar y) : ∀ y ∈ l.take (s + 1), inFar y := by
  intro y hy
  rw [List.take_add_one, hx] at hy
  rcases List.mem_append.1 hy with hy | hy
  · exact h y hy
  · simp at hy; subst hy; exact hp
theorem far_end {l : Layout} {ns : List Int} {s : Nat} (h : ∀ y ∈ ns.take s, inFar y) (hs : ns.length ≤ s) : AV.val (.bool (decide (layoutErr l = 0))) = B ((∀ n ∈ ns, inFar n) ∧ l.May) := by
  rw [List.take_of_length_le hs] at h
  refine B_c ⟨fun e => ⟨h, ?_⟩, fun e => ?_⟩
  · unfold layoutErr at e
    by_cases hm : l.May
    · exact hm
    · rw [if_neg hm] at e; cases e
  · unfold layoutErr; rw [if_pos e.2]
/-! ### A reader of bytes -/
def beNum (l : List UInt8) : Int := l.foldl (fun n c => n * 256 + (c.toNat : Int)) 0
theorem beNum_step {l : List UInt8} {s : Nat} {c : UInt8} (h : l[s]? = some c) : beNum (l.take (s + 1)) = beNum (l.take s) * 256 + (c.toNat : Int) := by
  unfold beNum
  rw [List.take_add_one, h, List.foldl_append]
  rfl
theorem beNum_range (l : List UInt8) : 0 ≤ beNum l ∧ beNum l < 256 ^ l.length := by
  have key : ∀ (l : List UInt8) (n : Int), 0 ≤ n → 0 ≤ l.foldl (fun n c => n * 256 + (c.toNat : Int)) n ∧ l.foldl (fun n c => n * 256 + (c.toNat : Int)) n < (n + 1) * 256 ^ l.length := by
    intro l
    induction l with
    | nil => intro n h; simp; omega
    | cons c l ih =>
      intro n h
      have hc := u8_lt c
      have := ih (n * 256 + (c.toNat : Int)) (by omega)
      refine ⟨this.1, Int.lt_of_lt_of_le this.2 ?_⟩
      rw [List.length_cons, Int.pow_succ, Int.mul_comm (256 ^ l.length) 256, ← Int.mul_assoc]
      exact Int.mul_le_mul_of_nonneg_right (by omega) (Int.pow_nonneg (by decide))
  have := key l 0 (by decide)
  rw [Int.zero_add, Int.one_mul] at this
  exact this
theorem pow256 : ∀ {a b : Nat}, a ≤ b → (256 : Int) ^ a ≤ 256 ^ b := by
  intro a b h
  obtain ⟨c, rfl⟩ := Nat.exists_eq_add_of_le h
  have h1 : (1 : Int) ≤ 256 ^ c := by
    induction c with
    | zero => exact Int.le_refl _
    | succ c ih => rw [Int.pow_succ]; have := ih (by omega); omega
  have h2 : (0 : Int) ≤ 256 ^ a := Int.pow_nonneg (by decide)
  rw [Int.pow_add]
  have := Int.mul_le_mul_of_nonneg_left h1 h2
  rwa [Int.mul_one] at this
theorem beNum_small {l : List UInt8} {k : Nat} (h : l.length ≤ k) : beNum l < 256 ^ k := Int.lt_of_lt_of_le (beNum_range l).2 (pow256 h)
theorem numB_len (w n : Int) : ((numB w n).length : Int) = wide w := by have := wide_range w; simp [numB]; omega
structure Rdr where
  b : List UInt8
  e : Int
abbrev Rdr.cells (r : Rdr) : List AV := [bytes r.b, I r.e]
def Rdr.fail (r : Rdr) (e : Int) : Rdr := if r.e = 0 ∧ e ≠ 0 then ⟨[], e⟩ else r
def Rdr.take (r : Rdr) (n : Int) : Rdr × List UInt8 :=
  if r.e ≠ 0 then (r, []) else if (r.b.length : Int) < n then (r.fail 10, []) else (⟨r.b.drop n.toNat, r.e⟩, r.b.take n.toNat)
def Rdr.num (r : Rdr) (w : Int) : Rdr × Int := ((r.take (wide w)).1, beNum (r.take (wide w)).2)
def Rdr.blob (r : Rdr) (most : Int) : Rdr × List UInt8 :=
  let x := r.num 2
  (if x.2 > max most 0 then x.1.fail 11 else x.1).take x.2
theorem Rdr.take_len (r : Rdr) (n : Int) : ((r.take n).2.length : Int) ≤ max n 0 := by
  unfold Rdr.take
  split
  · simp; omega
  · split
    · simp; omega
    · simp; omega
theorem Rdr.num_range (r : Rdr) {w : Int} {k : Nat} (h : wide w ≤ k) : 0 ≤ (r.num w).2 ∧ (r.num w).2 < 256 ^ k :=
  ⟨(beNum_range _).1, beNum_small (by have := r.take_len (wide w); have := wide_range w; omega)⟩
def Rdr.end_ (r : Rdr) : Rdr := if 0 < r.b.length then r.fail 11 else r

/-! ### A map as bytes -/
def packSt (r : List Int) : Nat → List UInt8
  | 0 => ((List.replicate (2 + ((r.length : Int) + 3) / 4).toNat 0).set (0 : Int).toNat (b8 ((r.length : Int) / 2 ^ (8 : Int).toNat))).set (1 : Int).toNat (b8 (r.length : Int))
  | s + 1 => (packSt r s).set (2 + (s : Int) / 4).toNat ((packSt r s).getD (2 + (s : Int) / 4).toNat 0 ||| b8 (r.getD s 0 * 2 ^ ((s : Int) % 4 * 2).toNat))
theorem packSt_len (r : List Int) : ∀ s, (packSt r s).length = 2 + (r.length + 3) / 4
  | 0 => by simp [packSt]; omega
  | s + 1 => by rw [packSt, List.length_set, packSt_len r s]
def mapB (m : List Int) : List UInt8 := packSt (rowL m) (rowL m).length
theorem getD_ofb {l : List UInt8} {n : Nat} {x d : UInt8} (h : l[n]? = some x) : l.getD n d = x := by simp [List.getD_eq_getElem?_getD, h]
theorem packSt_step {r : List Int} {s : Nat} {x : UInt8} {y : Int} (hx : (packSt r s)[(2 + (s : Int) / 4).toNat]? = some x) (hy : r[s]? = some y) :
    (packSt r s).set (2 + (s : Int) / 4).toNat (x ||| b8 (y * 2 ^ ((s : Int) % 4 * 2).toNat)) = packSt r (s + 1) := by
  rw [packSt, getD_ofb hx, getD_of hy]
theorem rep_bytes (n : Nat) : List.replicate n (List.map AV.val [Value.int .u8 0]) = byteRows (List.replicate n 0) := by simp only [byteRows, List.map_replicate]; rfl
theorem trim_sub (l : List Int) : ∀ n, ∀ x ∈ trim l n, x ∈ l
  | 0, x, h => by cases h
  | n + 1, x, h => by
    unfold trim at h
    split at h
    · exact trim_sub l n x h
    · exact List.mem_of_mem_take h
theorem mget_right (m : List Int) (i : Int) : right (mget m i) := by
  unfold mget
  split
  · rename_i h; exact h.2.2.2
  · exact ⟨by decide, by decide⟩
theorem rowL_right {m : List Int} : ∀ x ∈ rowL m, right x := by
  intro x hx
  have := trim_sub _ _ x hx
  obtain ⟨i, _, rfl⟩ := List.mem_map.1 this
  exact mget_right m i
theorem trim_len (l : List Int) : ∀ n, (trim l n).length ≤ n
  | 0 => Nat.le_refl _
  | n + 1 => by
    unfold trim
    split
    · exact Nat.le_succ_of_le (trim_len l n)
    · rw [List.length_take]; omega
theorem rowL_len (m : List Int) : (rowL m).length ≤ 512 := by
  have := trim_len ((List.range (min m.length 512)).map fun i : Nat => mget m i) ((List.range (min m.length 512)).map fun i : Nat => mget m i).length
  have h2 : ((List.range (min m.length 512)).map fun i : Nat => mget m i).length = min m.length 512 := by simp
  unfold rowL cleanL
  omega
theorem pow6 {s : Nat} : (1 : Int) ≤ 2 ^ ((s : Int) % 4 * 2).toNat ∧ (2 : Int) ^ ((s : Int) % 4 * 2).toNat ≤ 64 := by
  have h : ((s : Int) % 4 * 2).toNat = 0 ∨ ((s : Int) % 4 * 2).toNat = 2 ∨ ((s : Int) % 4 * 2).toNat = 4 ∨ ((s : Int) % 4 * 2).toNat = 6 := by omega
  rcases h with h | h | h | h <;> rw [h] <;> decide
theorem shl_range {y : Int} {s : Nat} (h : right y) : 0 ≤ y * 2 ^ ((s : Int) % 4 * 2).toNat ∧ y * 2 ^ ((s : Int) % 4 * 2).toNat ≤ 128 := by
  have hp := pow6 (s := s)
  obtain ⟨h1, h2⟩ := h
  exact mul_le_mul' (a := y) (b := 2 ^ ((s : Int) % 4 * 2).toNat) (c := 2) (d := 64) h1 h2 (by omega) hp.2

/-! ### How many objects an image has; heads -/
def objN (l : Layout) (size : Int) : Int :=
  if inFar size ∧ l.May ∧ size ≠ 0 ∧ size ≤ 512 then
    (size + l.u - 1) / l.u / (l.o / l.u * l.c) * l.c + min ((size + l.u - 1) / l.u % (l.o / l.u * l.c)) l.c
  else 0
structure Snap where
  id : Int
  size : Int
  map : List Int
structure Head where
  layout : Layout
  size : Int
  map : List Int
  snaps : List Snap
  last : Int
  seq : Int
abbrev Snap.cells (s : Snap) : List AV := [I s.id, I s.size, ints s.map]
abbrev snapRows (l : List Snap) : List (List AV) := l.map Snap.cells
abbrev Head.cells (h : Head) : List AV := [I h.layout.u, I h.layout.c, I h.layout.o, I h.size, ints h.map, .sl 3 (snapRows h.snaps), I h.last, I h.seq]
def sizedMay (l : Layout) (size : Int) (m : List Int) : Prop := 0 ≤ size ∧ size ≤ 512 ∧ MapMay m ∧ (m.length : Int) ≤ objN l size
instance (l : Layout) (size : Int) (m : List Int) : Decidable (sizedMay l size m) := by unfold sizedMay; infer_instance
/-- The snapshots, from a number on that is ahead. -/
def snapsMay (l : Layout) (last : Int) : Int → List Snap → Prop
  | _, [] => True
  | ahead, s :: r => ahead < s.id ∧ s.id ≤ last ∧ sizedMay l s.size s.map ∧ snapsMay l last s.id r
instance snapsDec (l : Layout) (last : Int) : ∀ (ahead : Int) (r : List Snap), Decidable (snapsMay l last ahead r)
  | _, [] => isTrue trivial
  | ahead, s :: r => by unfold snapsMay; haveI := snapsDec l last s.id r; infer_instance
def Head.May (h : Head) : Prop := h.layout.May ∧ sizedMay h.layout h.size h.map ∧ h.snaps.length ≤ 4 ∧ 0 ≤ h.last ∧ h.last ≤ 100 ∧ 0 ≤ h.seq ∧ h.seq ≤ 1099511627776 ∧ snapsMay h.layout h.last 0 h.snaps
instance (h : Head) : Decidable h.May := by unfold Head.May; infer_instance
def headErr (h : Head) : Int := if h.May then 0 else 60
def Head.newest (h : Head) : Int := match h.snaps[h.snaps.length - 1]? with | some s => s.id | none => 0
theorem layoutErr_ok {l : Layout} (h : l.May) : layoutErr l = 0 := if_pos h
theorem layoutErr_may {l : Layout} (h : layoutErr l = 0) : l.May := by
  unfold layoutErr at h
  split at h
  · assumption
  · cases h
theorem drop_cons {α : Type} {l : List α} {s : Nat} {x : α} (h : l[s]? = some x) : l.drop s = x :: l.drop (s + 1) := by
  obtain ⟨h1, h2⟩ := List.getElem?_eq_some_iff.1 h
  rw [← h2]
  exact List.drop_eq_getElem_cons h1
theorem map_getz {α : Type} {F : α → List AV} {l : List α} {z : Int} {x : α} (h : l[z.toNat]? = some x) : (l.map F)[z.toNat]? = some (F x) := by rw [List.getElem?_map, h]; rfl
theorem headErr_may {h : Head} (e : headErr h = 0) : h.May := by
  unfold headErr at e
  split at e
  · assumption
  · cases e
theorem headErr_ok {h : Head} (e : h.May) : headErr h = 0 := if_pos e
theorem numB_len1 (w n : Int) : (numB w n).length = (wide w).toNat := by simp [numB]
theorem w1 : (wide 1).toNat = 1 := by decide
theorem w2 : (wide 2).toNat = 2 := by decide
theorem w6 : (wide 6).toNat = 6 := by decide
theorem blobB_len (x : List UInt8) : (blobB x).length ≤ 65537 := by
  unfold blobB
  rw [List.length_append, numB_len1, w2, List.length_take]
  omega
def snapB (s : Snap) : List UInt8 := numB 1 s.id ++ numB 2 s.size ++ blobB (mapB s.map)
theorem snapB_len (s : Snap) : (snapB s).length ≤ 65540 := by
  unfold snapB
  have := blobB_len (mapB s.map)
  simp only [List.length_append, numB_len1, w1, w2]
  omega
def headPre (h : Head) : List UInt8 := [b8 h.layout.u, b8 h.layout.c, b8 h.layout.o, b8 h.last] ++ numB 2 h.size ++ numB 6 h.seq ++ blobB (mapB h.map) ++ numB 1 (h.snaps.length : Int)
theorem headPre_len (h : Head) : (headPre h).length ≤ 65550 := by
  unfold headPre
  have := blobB_len (mapB h.map)
  simp only [List.length_append, numB_len1, w1, w2, w6, List.length_cons, List.length_nil]
  omega
theorem snapsB_len : ∀ (l : List Snap), (l.flatMap snapB).length ≤ l.length * 65540
  | [] => by simp
  | s :: l => by
    have h1 := snapB_len s
    have h2 := snapsB_len l
    rw [List.flatMap_cons, List.length_append, List.length_cons, Nat.add_mul, Nat.one_mul]
    omega
def headB (h : Head) : List UInt8 := headPre h ++ h.snaps.flatMap snapB
theorem flat_step {α β : Type} {f : α → List β} {l : List α} {s : Nat} {x : α} (h : l[s]? = some x) : (l.take (s + 1)).flatMap f = (l.take s).flatMap f ++ f x := by
  rw [List.take_add_one, h]; simp
/-- A map off a reader. -/
def Rdr.table (r : Rdr) : Rdr × List Int :=
  let x := r.blob 200
  if x.1.e ≠ 0 then (x.1, []) else if UnpOk x.2 then (x.1, unpackV x.2) else (x.1.fail 11, unpackV x.2)
/-- Snapshots off a reader. -/
def Rdr.snaps : Nat → Rdr → Rdr × List Snap
  | 0, r => (r, [])
  | k + 1, r => if r.e ≠ 0 then (r, []) else
    ((Rdr.snaps k ((r.num 1).1.num 2).1.table.1).1, ⟨(r.num 1).2, ((r.num 1).1.num 2).2, ((r.num 1).1.num 2).1.table.2⟩ :: (Rdr.snaps k ((r.num 1).1.num 2).1.table.1).2)
def Rdr.r1 (b : List UInt8) : Rdr × Int := Rdr.num ⟨b, 0⟩ 1
def Rdr.r2 (b : List UInt8) : Rdr × Int := (Rdr.r1 b).1.num 1
def Rdr.r3 (b : List UInt8) : Rdr × Int := (Rdr.r2 b).1.num 1
def Rdr.r4 (b : List UInt8) : Rdr × Int := (Rdr.r3 b).1.num 1
def Rdr.r5 (b : List UInt8) : Rdr × Int := (Rdr.r4 b).1.num 2
def Rdr.r6 (b : List UInt8) : Rdr × Int := (Rdr.r5 b).1.num 6
def Rdr.r7 (b : List UInt8) : Rdr × List Int := (Rdr.r6 b).1.table
def Rdr.r8 (b : List UInt8) : Rdr × Int := (Rdr.r7 b).1.num 1
def Rdr.r9 (b : List UInt8) : Rdr := if (Rdr.r8 b).2 > 4 then (Rdr.r8 b).1.fail 11 else (Rdr.r8 b).1
def Rdr.ss (b : List UInt8) : Rdr × List Snap := Rdr.snaps (Rdr.r8 b).2.toNat (Rdr.r9 b)
/-- What bytes are as a head, before it is asked whether it may be. -/
def rawHead (b : List UInt8) : Head := ⟨⟨(Rdr.r1 b).2, (Rdr.r2 b).2, (Rdr.r3 b).2⟩, (Rdr.r5 b).2, (Rdr.r7 b).2, (Rdr.ss b).2, (Rdr.r4 b).2, (Rdr.r6 b).2⟩
def Head.zero : Head := ⟨⟨0, 0, 0⟩, 0, [], [], 0, 0⟩
abbrev zeroHead : List AV := [I 0, I 0, I 0, I 0, .val (.slice none 0 0), .val (.slice none 0 0), I 0, I 0]
def headUnpack (b : List UInt8) : Head × Int :=
  if (Rdr.ss b).1.end_.e ≠ 0 then (Head.zero, (Rdr.ss b).1.end_.e) else if headErr (rawHead b) ≠ 0 then (Head.zero, headErr (rawHead b)) else (rawHead b, 0)
def Head.find (h : Head) (id : Int) : Int := idx (fun s => decide (s.id = id)) h.snaps
end Go.Fx
set_option linter.unusedVariables false
namespace Go.Fx
open Go

/-! ### How many objects an image of a size has, byte by byte -/
def objR (l : Layout) : Nat → Int
  | 0 => 0
  | i + 1 => max (objR l i) (placeO l i + 1)
def unitsN (row c k : Int) : Int := k / row * c + min (k % row) c
theorem ediv_ediv' {a b c : Int} (hb : 0 ≤ b) : a / b / c = a / (b * c) := by rw [Int.ediv_ediv, if_neg (fun h => by omega), Int.sub_zero]
theorem unitsN_step {row c e k : Int} (hc : 1 ≤ c) (he : 1 ≤ e) (hr : row = e * c) (hk : 0 ≤ k) : unitsN row c (k + 1) = max (unitsN row c k) (k / row * c + k % row % c + 1) := by
  have hrow : c ≤ row := by
    rw [hr]; have := Int.mul_le_mul_of_nonneg_right he (show (0 : Int) ≤ c by omega); omega
  have hpos : 0 < row := by omega
  have hq := Int.mul_ediv_add_emod k row
  have hr0 := Int.emod_nonneg k (show row ≠ 0 by omega)
  have hr1 := Int.emod_lt_of_pos k hpos
  unfold unitsN
  generalize hQ : k / row = q at *
  generalize hR : k % row = r at *
  by_cases h : r + 1 < row
  · have hu : (k + 1) / row = q ∧ (k + 1) % row = r + 1 := (Int.ediv_emod_unique hpos).2 ⟨by omega, by omega, h⟩
    rw [hu.1, hu.2]
    by_cases hrc : r < c
    · rw [Int.emod_eq_of_lt hr0 hrc]; omega
    · have := Int.emod_lt_of_pos r (show 0 < c by omega); omega
  · have hre : r = row - 1 := by omega
    have hu : (k + 1) / row = q + 1 ∧ (k + 1) % row = 0 := (Int.ediv_emod_unique hpos).2 ⟨by rw [Int.mul_add]; omega, by omega, by omega⟩
    rw [hu.1, hu.2]
    have hm : r % c = c - 1 := by
      have h2 : r / c = e - 1 ∧ r % c = c - 1 := (Int.ediv_emod_unique (show 0 < c by omega)).2 ⟨by rw [Int.mul_sub, Int.mul_one, Int.mul_comm]; omega, by omega, by omega⟩
      exact h2.2
    rw [hm, Int.add_mul]
    omega
theorem objR_units {l : Layout} (h : l.May) : ∀ i : Nat, objR l i = unitsN (l.o / l.u * l.c) l.c (((i : Int) + l.u - 1) / l.u)
  | 0 => by
    obtain ⟨q1, q2, q3, q4, q5, q6⟩ := h
    have : (((0 : Nat) : Int) + l.u - 1) / l.u = 0 := Int.ediv_eq_zero_of_lt (by omega) (by omega)
    rw [this]
    simp [objR, unitsN]; omega
  | i + 1 => by
    have ih := objR_units h i
    have hf := placeFacts h (off := (i : Int)) (by omega)
    obtain ⟨q1, q2, q3, q4, q5, q6⟩ := h
    have hq := Int.mul_ediv_add_emod (i : Int) l.u
    have hr0 := Int.emod_nonneg (i : Int) (show l.u ≠ 0 by omega)
    have hr1 := Int.emod_lt_of_pos (i : Int) (show 0 < l.u by omega)
    have hstep := unitsN_step (row := l.o / l.u * l.c) (c := l.c) (e := l.o / l.u) (k := (i : Int) / l.u) q2 hf.each.1 rfl hf.unit.1
    have e1 : ((i + 1 : Nat) : Int) + l.u - 1 = (i : Int) + l.u := by omega
    have e2 : ((i : Int) + l.u) / l.u = (i : Int) / l.u + 1 := ((Int.ediv_emod_unique (a := (i : Int) + l.u) (q := (i : Int) / l.u + 1) (r := (i : Int) % l.u) (show 0 < l.u by omega)).2 ⟨by rw [Int.mul_add]; omega, hr0, hr1⟩).1
    rw [objR, ih, e1, e2]
    unfold placeO
    by_cases h0 : (i : Int) % l.u = 0
    · have : ((i : Int) + l.u - 1) / l.u = (i : Int) / l.u := by
        have := (Int.ediv_emod_unique (a := (i : Int) + l.u - 1) (q := (i : Int) / l.u) (r := l.u - 1) (show 0 < l.u by omega)).2 ⟨by omega, by omega, by omega⟩
        exact this.1
      rw [this, hstep]
    · have : ((i : Int) + l.u - 1) / l.u = (i : Int) / l.u + 1 := by
        have := (Int.ediv_emod_unique (a := (i : Int) + l.u - 1) (q := (i : Int) / l.u + 1) (r := (i : Int) % l.u - 1) (show 0 < l.u by omega)).2 ⟨by rw [Int.mul_add]; omega, by omega, by omega⟩
        exact this.1
      rw [this, hstep]
      omega
theorem objR_objN {l : Layout} {size : Int} (h : l.May) (h0 : 0 ≤ size) (h1 : size ≤ 512) : objR l size.toNat = objN l size := by
  rw [objR_units h, Int.toNat_of_nonneg h0]
  unfold objN
  by_cases hz : size = 0
  · rw [if_neg (fun hh => hh.2.2.1 hz), hz]
    have := objR_units h 0
    rw [← show (((0 : Nat) : Int)) = 0 from rfl, ← this]
    rfl
  · rw [if_pos ⟨⟨h0, by omega⟩, h, hz, h1⟩]
    rfl

/-! ### Numbers as bytes, from the end -/
theorem b8_mod (n : Int) : b8 (n % 256) = b8 n := by unfold b8; rw [Int.emod_emod_of_dvd n (Int.dvd_refl 256)]
theorem div_pow_step (n : Int) (s : Nat) : n / 256 ^ s / 256 = n / 256 ^ (s + 1) := by
  rw [Int.pow_succ, ediv_ediv' (by have : (0 : Int) < 256 ^ s := Int.pow_pos (by decide); omega)]
theorem pow_two_256 (k : Nat) : (2 : Int) ^ (8 * k) = 256 ^ k := by
  rw [Int.pow_mul]; rfl
/-- The last s of W bytes are set. -/
def numSt (W : Nat) (n : Int) (s : Nat) : List UInt8 := (List.range W).map fun i => if W - s ≤ i then b8 (n / 256 ^ (W - 1 - i)) else 0
theorem numSt_len (W : Nat) (n : Int) (s : Nat) : (numSt W n s).length = W := by simp [numSt]
theorem numSt_zero (W : Nat) (n : Int) : numSt W n 0 = List.replicate W 0 := by
  apply List.ext_getElem
  · simp [numSt]
  · intro i h1 h2
    simp [numSt] at h1 ⊢
    omega
theorem numSt_step {W : Nat} {n : Int} {s : Nat} (h : s < W) : (numSt W n s).set (W - 1 - s) (b8 (n / 256 ^ s % 256)) = numSt W n (s + 1) := by
  rw [b8_mod]
  apply List.ext_getElem
  · simp [numSt]
  · intro i h1 h2
    simp [numSt] at h1
    rw [List.getElem_set]
    simp only [numSt, List.getElem_map, List.getElem_range]
    by_cases e : W - 1 - s = i
    · rw [if_pos e, if_pos (by omega)]
      congr 3
      omega
    · rw [if_neg e]
      by_cases h3 : W - s ≤ i
      · rw [if_pos h3, if_pos (by omega)]
      · rw [if_neg h3, if_neg (by omega)]
theorem numSt_numB (w n : Int) : numSt (wide w).toNat (numClamp w n) (wide w).toNat = numB w n := by
  have hw := wide_range w
  unfold numSt numB
  apply List.map_congr_left
  intro i hi
  have hi' := List.mem_range.1 hi
  rw [if_pos (by omega)]
  unfold numAt
  congr 1
  rw [← pow_two_256]
  congr 2
  omega

/-! ### The clean row of a map -/
/-- One more than the last of the first k that isn't nought. -/
def lastN (f : Nat → Int) : Nat → Nat
  | 0 => 0
  | k + 1 => if f k ≠ 0 then k + 1 else lastN f k
theorem lastN_le (f : Nat → Int) : ∀ k, lastN f k ≤ k
  | 0 => Nat.le_refl _
  | k + 1 => by unfold lastN; split; exact Nat.le_refl _; exact Nat.le_succ_of_le (lastN_le f k)
theorem trim_map (f : Nat → Int) (N : Nat) : ∀ k, k ≤ N → trim ((List.range N).map f) k = (List.range (lastN f k)).map f
  | 0, _ => rfl
  | k + 1, h => by
    unfold trim lastN
    have e : ((List.range N).map f).getD k 0 = f k := by
      rw [List.getD_eq_getElem?_getD, List.getElem?_map, List.getElem?_range (by omega)]; rfl
    rw [e]
    by_cases h0 : f k = 0
    · rw [if_pos h0, if_neg (by simpa using h0)]; exact trim_map f N k (by omega)
    · rw [if_neg h0, if_pos h0, ← List.map_take, List.take_range]
      congr 2
      omega
/-- The length of a map's clean row. -/
def rowN (m : List Int) (k : Nat) : Nat := lastN (fun i => mget m i) k
theorem rowL_rowN (m : List Int) : rowL m = (List.range (rowN m (min m.length 512))).map fun i : Nat => mget m i := by
  unfold rowL cleanL
  rw [trim_map _ _ _ (by simp), List.length_map, List.length_range]
  rfl
theorem rowN_step {m : List Int} {s : Nat} : rowN m (s + 1) = if mget m s ≠ 0 then s + 1 else rowN m s := rfl

/-! ### A map as bytes, four states a byte -/
def quad (r : List Int) (j : Nat) : Int := mget r (4 * j) + 4 * mget r (4 * j + 1) + 16 * mget r (4 * j + 2) + 64 * mget r (4 * j + 3)
/-- Of the quad at j what lies below s. -/
def quadTo (r : List Int) (s j : Nat) : Int := (if 4 * j < s then mget r (4 * j) else 0) + 4 * (if 4 * j + 1 < s then mget r (4 * j + 1) else 0) + 16 * (if 4 * j + 2 < s then mget r (4 * j + 2) else 0) + 64 * (if 4 * j + 3 < s then mget r (4 * j + 3) else 0)
theorem or_four : ∀ (k : Fin 4) (a : Fin 64) (y : Fin 3), a.val < 4 ^ k.val → b8 ((a.val : Int)) ||| b8 ((y.val : Int) * 2 ^ (k.val * 2)) = b8 ((a.val : Int) + (y.val : Int) * 4 ^ k.val) := by decide +kernel
def mapHdr (r : List Int) : List UInt8 := [b8 ((r.length : Int) / 256), b8 (r.length : Int)]
def mapQ (r : List Int) (s : Nat) : List UInt8 := mapHdr r ++ (List.range ((r.length + 3) / 4)).map fun j => b8 (quadTo r s j)
theorem packSt_zero (r : List Int) : packSt r 0 = mapQ r 0 := by
  unfold packSt mapQ mapHdr
  have e : (2 + ((r.length : Int) + 3) / 4).toNat = (r.length + 3) / 4 + 1 + 1 := by omega
  rw [e, List.replicate_succ, List.replicate_succ]
  have h2 : (2 : Int) ^ (8 : Int).toNat = 256 := by decide
  rw [h2]
  have h3 : List.replicate ((r.length + 3) / 4) (0 : UInt8) = (List.range ((r.length + 3) / 4)).map fun j => b8 (quadTo r 0 j) := by
    apply List.ext_getElem
    · simp
    · intro i h1 h2
      simp [quadTo]
      rfl
  rw [h3]
  rfl
theorem mget_at {r : List Int} {s : Nat} (hr : ∀ x ∈ r, right x) (hs : s < r.length) (hl : r.length ≤ 512) : mget r s = r.getD s 0 := by
  unfold mget
  have e : r.getD (s : Int).toNat 0 = r.getD s 0 := by rw [Int.toNat_natCast]
  have hm : right (r.getD s 0) := by
    rw [List.getD_eq_getElem?_getD, List.getElem?_eq_getElem hs]
    exact hr _ (List.getElem_mem hs)
  rw [e, if_pos ⟨by omega, by omega, by omega, hm⟩]
theorem mget_beyond {r : List Int} {i : Int} (h : (r.length : Int) ≤ i) : mget r i = 0 := by
  unfold mget; rw [if_neg (by omega)]
theorem mget_le (r : List Int) (i : Int) : 0 ≤ mget r i ∧ mget r i ≤ 2 := mget_right r i
theorem packSt_quad {r : List Int} (hr : ∀ x ∈ r, right x) (hl : r.length ≤ 512) : ∀ s, s ≤ r.length → packSt r s = mapQ r s
  | 0, _ => packSt_zero r
  | s + 1, h => by
    have ih := packSt_quad hr hl s (by omega)
    rw [packSt, ih]
    have hi : (2 + (s : Int) / 4).toNat = s / 4 + 2 := by omega
    rw [hi]
    have hq : s / 4 < (r.length + 3) / 4 := by omega
    have hx : (mapQ r s).getD (s / 4 + 2) 0 = b8 (quadTo r s (s / 4)) := by
      unfold mapQ mapHdr
      rw [List.getD_eq_getElem?_getD]
      simp only [List.cons_append, List.nil_append, List.getElem?_cons_succ]
      rw [List.getElem?_map, List.getElem?_range hq]; rfl
    rw [hx, ← mget_at hr (by omega) hl]
    have hy := mget_le r s
    have hexp : ((s : Int) % 4 * 2).toNat = s % 4 * 2 := by omega
    rw [hexp]
    have g0 := mget_le r (4 * (s / 4 : Nat))
    have g1 := mget_le r (4 * (s / 4 : Nat) + 1)
    have g2 := mget_le r (4 * (s / 4 : Nat) + 2)
    have g3 := mget_le r (4 * (s / 4 : Nat) + 3)
    have hor : b8 (quadTo r s (s / 4)) ||| b8 (mget r s * 2 ^ (s % 4 * 2)) = b8 (quadTo r (s + 1) (s / 4)) := by
      have key : ∀ (k : Nat) (hk : k < 4) (a : Int), 0 ≤ a → a < 4 ^ k → b8 a ||| b8 (mget r s * 2 ^ (k * 2)) = b8 (a + mget r s * 4 ^ k) := by
        intro k hk a ha0 ha1
        have ha2 : a < 64 := by
          have h3 : k = 0 ∨ k = 1 ∨ k = 2 ∨ k = 3 := by omega
          rcases h3 with rfl | rfl | rfl | rfl <;> omega
        have := or_four ⟨k, hk⟩ ⟨a.toNat, by omega⟩ ⟨(mget r s).toNat, by omega⟩ (by
          simp only
          have h3 : k = 0 ∨ k = 1 ∨ k = 2 ∨ k = 3 := by omega
          rcases h3 with rfl | rfl | rfl | rfl <;> omega)
        simp only [Int.toNat_of_nonneg ha0, Int.toNat_of_nonneg hy.1] at this
        exact this
      have h3 : s % 4 = 0 ∨ s % 4 = 1 ∨ s % 4 = 2 ∨ s % 4 = 3 := by omega
      rcases h3 with h3 | h3 | h3 | h3
      · have hs : (s : Int) = 4 * (s / 4 : Nat) := by omega
        have e1 : quadTo r s (s / 4) = 0 := by
          unfold quadTo; rw [if_neg (by omega), if_neg (by omega), if_neg (by omega), if_neg (by omega)]; rfl
        have e2 : quadTo r (s + 1) (s / 4) = mget r s := by
          unfold quadTo; rw [if_pos (by omega), if_neg (by omega), if_neg (by omega), if_neg (by omega), ← hs]; omega
        rw [h3, key 0 (by omega) _ (by omega) (by rw [e1]; decide), e1, e2]
        congr 1; omega
      · have hs : (s : Int) = 4 * (s / 4 : Nat) + 1 := by omega
        have e1 : quadTo r s (s / 4) = mget r (4 * (s / 4 : Nat)) := by
          unfold quadTo; rw [if_pos (by omega), if_neg (by omega), if_neg (by omega), if_neg (by omega)]; omega
        have e2 : quadTo r (s + 1) (s / 4) = mget r (4 * (s / 4 : Nat)) + 4 * mget r s := by
          unfold quadTo; rw [if_pos (by omega), if_pos (by omega), if_neg (by omega), if_neg (by omega), ← hs]; omega
        rw [h3, key 1 (by omega) _ (by omega) (by rw [e1]; omega), e1, e2]
        congr 1; omega
      · have hs : (s : Int) = 4 * (s / 4 : Nat) + 2 := by omega
        have e1 : quadTo r s (s / 4) = mget r (4 * (s / 4 : Nat)) + 4 * mget r (4 * (s / 4 : Nat) + 1) := by
          unfold quadTo; rw [if_pos (by omega), if_pos (by omega), if_neg (by omega), if_neg (by omega)]; omega
        have e2 : quadTo r (s + 1) (s / 4) = mget r (4 * (s / 4 : Nat)) + 4 * mget r (4 * (s / 4 : Nat) + 1) + 16 * mget r s := by
          unfold quadTo; rw [if_pos (by omega), if_pos (by omega), if_pos (by omega), if_neg (by omega), ← hs]; omega
        rw [h3, key 2 (by omega) _ (by omega) (by rw [e1]; omega), e1, e2]
        congr 1; omega
      · have hs : (s : Int) = 4 * (s / 4 : Nat) + 3 := by omega
        have e1 : quadTo r s (s / 4) = mget r (4 * (s / 4 : Nat)) + 4 * mget r (4 * (s / 4 : Nat) + 1) + 16 * mget r (4 * (s / 4 : Nat) + 2) := by
          unfold quadTo; rw [if_pos (by omega), if_pos (by omega), if_pos (by omega), if_neg (by omega)]; omega
        have e2 : quadTo r (s + 1) (s / 4) = mget r (4 * (s / 4 : Nat)) + 4 * mget r (4 * (s / 4 : Nat) + 1) + 16 * mget r (4 * (s / 4 : Nat) + 2) + 64 * mget r s := by
          unfold quadTo; rw [if_pos (by omega), if_pos (by omega), if_pos (by omega), if_pos (by omega), ← hs]
        rw [h3, key 3 (by omega) _ (by omega) (by rw [e1]; omega), e1, e2]
        congr 1; omega
    rw [hor]
    unfold mapQ
    rw [List.set_append, if_neg (by simp [mapHdr])]
    congr 1
    have h5 : s / 4 + 2 - (mapHdr r).length = s / 4 := by simp [mapHdr]
    rw [h5]
    apply List.ext_getElem
    · simp
    · intro i h1 h2
      simp only [List.length_set, List.length_map, List.length_range] at h1
      rw [List.getElem_set]
      simp only [List.getElem_map, List.getElem_range]
      by_cases e : s / 4 = i
      · rw [if_pos e, e]
      · rw [if_neg e]
        congr 1
        unfold quadTo
        have c : ∀ k, k < 4 → (4 * i + k < s ↔ 4 * i + k < s + 1) := by intro k hk; omega
        simp only [show (4 * i < s) = (4 * i < s + 1) from propext (by have := c 0 (by omega); omega), show (4 * i + 1 < s) = (4 * i + 1 < s + 1) from propext (c 1 (by omega)), show (4 * i + 2 < s) = (4 * i + 2 < s + 1) from propext (c 2 (by omega)), show (4 * i + 3 < s) = (4 * i + 3 < s + 1) from propext (c 3 (by omega))]
/-- The first k quads of a row's bytes. -/
def quads (r : List Int) (k : Nat) : List UInt8 := mapHdr r ++ (List.range k).map fun j => b8 (quad r j)
theorem quads_len (r : List Int) (k : Nat) : (quads r k).length = 2 + k := by simp [quads, mapHdr]; omega
theorem quads_step (r : List Int) (k : Nat) : quads r k ++ [b8 (quad r k)] = quads r (k + 1) := by
  unfold quads; rw [List.range_succ, List.map_append, List.append_assoc]; rfl
theorem quads_mapB (m : List Int) : mapB m = quads (rowL m) (((rowL m).length + 3) / 4) := by
  unfold mapB
  rw [packSt_quad rowL_right (rowL_len m) _ (Nat.le_refl _)]
  unfold mapQ quads
  congr 1
  apply List.map_congr_left
  intro j _
  congr 1
  unfold quadTo quad
  have f : ∀ k : Nat, (if 4 * j + k < (rowL m).length then mget (rowL m) (4 * (j : Int) + (k : Nat)) else 0) = mget (rowL m) (4 * (j : Int) + (k : Nat)) := by
    intro k
    by_cases h : 4 * j + k < (rowL m).length
    · rw [if_pos h]
    · rw [if_neg h, mget_beyond (by omega)]
  have f0 := f 0; have f1 := f 1; have f2 := f 2; have f3 := f 3
  simp only [Nat.add_zero, Int.natCast_zero, Int.add_zero] at f0
  rw [f0, show ((1 : Int)) = ((1 : Nat) : Int) from rfl, show ((2 : Int)) = ((2 : Nat) : Int) from rfl, show ((3 : Int)) = ((3 : Nat) : Int) from rfl, f1, f2, f3]

/-! ### Decimal digits -/
/-- The last k digits. -/
def digR (n : Int) : Nat → List UInt8
  | 0 => []
  | j + 1 => b8 (48 + n / 10 ^ j % 10) :: digR n j
theorem digR_len (n : Int) : ∀ k, (digR n k).length = k
  | 0 => rfl
  | k + 1 => by rw [digR, List.length_cons, digR_len]
theorem b8_nat (k : Nat) (h : k < 256) : b8 (k : Int) = UInt8.ofNat k := by
  unfold b8
  congr 1
  omega
theorem decDigits_small {n : Nat} (h : n < 1000) : Lib.decDigits n = digR n (if 99 < n then 3 else if 9 < n then 2 else 1) := by
  have d : ∀ k : Nat, k < 10 → Lib.decDigits k = [b8 (48 + (k : Int))] := by
    intro k hk
    rw [Lib.decDigits, dif_pos hk, ← b8_nat (48 + k) (by omega)]
    rfl
  have hd : ∀ k : Nat, UInt8.ofNat (48 + k % 10) = b8 (48 + ((k % 10 : Nat) : Int)) := fun k => by
    rw [← b8_nat (48 + k % 10) (by omega)]; rfl
  by_cases h1 : n < 10
  · rw [d n h1, if_neg (by omega), if_neg (by omega)]
    simp only [digR]
    congr 2
    omega
  · by_cases h2 : n < 100
    · rw [Lib.decDigits, dif_neg h1, d (n / 10) (by omega), if_neg (by omega), if_pos (by omega), hd]
      simp only [digR, List.cons_append, List.nil_append]
      congr 2
      · omega
      · congr 2; omega
    · rw [Lib.decDigits, dif_neg h1, Lib.decDigits, dif_neg (by omega), d (n / 10 / 10) (by omega), if_pos (by omega), hd, hd]
      simp only [digR, List.cons_append, List.nil_append]
      congr 2
      · omega
      · congr 2
        · omega
theorem itoa_small {n : Int} (h0 : 0 ≤ n) (h1 : n ≤ 999) : Lib.itoa n = digR n (if 99 < n then 3 else if 9 < n then 2 else 1) := by
  obtain ⟨k, rfl⟩ := Int.eq_ofNat_of_zero_le h0
  unfold Lib.itoa
  rw [if_neg (by omega), Int.toNat_natCast, decDigits_small (by omega)]
  have e1 : (99 < (k : Int)) = (99 < k) := propext (by omega)
  have e2 : (9 < (k : Int)) = (9 < k) := propext (by omega)
  simp only [e1, e2]
end Go.Fx
set_option linter.unusedVariables false
namespace Go.Fx
open Go

/-! ### What is packed is unpacked -/
theorem b8_toNat (z : Int) : ((b8 z).toNat : Int) = z % 256 := by rw [← b8_wrap]; rfl
theorem beNum_cons (c : UInt8) (l : List UInt8) : beNum (c :: l) = (c.toNat : Int) * 256 ^ l.length + beNum l := by
  have key : ∀ (l : List UInt8) (n : Int), l.foldl (fun n c => n * 256 + (c.toNat : Int)) n = n * 256 ^ l.length + beNum l := by
    intro l
    induction l with
    | nil => intro n; simp [beNum]
    | cons c l ih =>
      intro n
      rw [List.foldl_cons, ih, show beNum (c :: l) = (0 * 256 + (c.toNat : Int)) * 256 ^ l.length + beNum l from ih _]
      simp only [List.length_cons, Int.pow_succ, Int.zero_mul, Int.zero_add, Int.add_mul]
      rw [Int.mul_assoc, Int.mul_comm 256, Int.add_assoc]
  show List.foldl _ 0 (c :: l) = _
  rw [List.foldl_cons, key]
  simp
/-- The bytes of a number that fits. -/
def beB (n : Int) : Nat → List UInt8
  | 0 => []
  | k + 1 => b8 (n / 256 ^ k) :: beB n k
theorem beB_len (n : Int) : ∀ k, (beB n k).length = k
  | 0 => rfl
  | k + 1 => by rw [beB, List.length_cons, beB_len]
theorem beNum_beB (n : Int) : ∀ k, beNum (beB n k) = n % 256 ^ k
  | 0 => by simp [beB, beNum]
  | k + 1 => by
    rw [beB, beNum_cons, beB_len, beNum_beB n k, b8_toNat]
    have hp : (0 : Int) < 256 ^ k := Int.pow_pos (by decide)
    have h1 := Int.mul_ediv_add_emod n (256 ^ k)
    have h2 := Int.mul_ediv_add_emod (n / 256 ^ k) 256
    have h3 : n % 256 ^ (k + 1) = (n / 256 ^ k % 256) * 256 ^ k + n % 256 ^ k := by
      have r0 := Int.emod_nonneg n (show (256 : Int) ^ k ≠ 0 by omega)
      have r1 := Int.emod_lt_of_pos n hp
      have q0 := Int.emod_nonneg (n / 256 ^ k) (show (256 : Int) ≠ 0 by decide)
      have q1 := Int.emod_lt_of_pos (n / 256 ^ k) (show (0 : Int) < 256 by decide)
      have hu := (Int.ediv_emod_unique (a := n) (q := n / 256 ^ k / 256) (r := (n / 256 ^ k % 256) * 256 ^ k + n % 256 ^ k) (show (0 : Int) < 256 ^ (k + 1) from Int.pow_pos (by decide))).2
      refine (hu ⟨?_, ?_, ?_⟩).2
      · rw [Int.pow_succ]
        have e : n = 256 ^ k * (256 * (n / 256 ^ k / 256) + n / 256 ^ k % 256) + n % 256 ^ k := by rw [h2]; exact h1.symm
        rw [Int.mul_add] at e
        rw [Int.mul_assoc, Int.mul_comm (n / 256 ^ k % 256)]
        omega
      · have := Int.mul_nonneg q0 (Int.le_of_lt hp); omega
      · rw [Int.pow_succ]
        have : (n / 256 ^ k % 256) * 256 ^ k ≤ 255 * 256 ^ k := Int.mul_le_mul_of_nonneg_right (by omega) (Int.le_of_lt hp)
        omega
    exact h3.symm
theorem numB_beB (w n : Int) : numB w n = beB (numClamp w n) (wide w).toNat := by
  have hw := wide_range w
  have key : ∀ (m : Int) (k : Nat), beB m k = (List.range k).map fun i => b8 (m / 256 ^ (k - 1 - i)) := by
    intro m k
    induction k with
    | zero => rfl
    | succ k ih =>
      rw [beB, ih, List.range_succ_eq_map, List.map_cons, List.map_map]
      congr 1
      apply List.map_congr_left
      intro i hi
      have := List.mem_range.1 hi
      simp only [Function.comp]
      congr 3
      omega
  rw [key]
  unfold numB
  apply List.map_congr_left
  intro i hi
  have hi' := List.mem_range.1 hi
  unfold numAt
  congr 1
  rw [← pow_two_256]
  congr 2
  omega
theorem Rdr.num_numB {w n : Int} {rest : List UInt8} (h0 : 0 ≤ n) (h1 : n < 256 ^ (wide w).toNat) : Rdr.num ⟨numB w n ++ rest, 0⟩ w = (⟨rest, 0⟩, n) := by
  have hw := wide_range w
  have hc : numClamp w n = n := by
    unfold numClamp
    have : (2 : Int) ^ (8 * wide w).toNat = 256 ^ (wide w).toNat := by
      rw [← pow_two_256]; congr 1; omega
    rw [this]; omega
  have hl : (numB w n).length = (wide w).toNat := numB_len1 w n
  unfold Rdr.num Rdr.take
  have ht : (List.take (wide w).toNat (numB w n ++ rest)) = numB w n := List.take_left' hl
  have hd : (List.drop (wide w).toNat (numB w n ++ rest)) = rest := List.drop_left' hl
  rw [if_neg (by simp), if_neg (by rw [List.length_append]; omega)]
  simp only [ht, hd]
  congr 1
  rw [numB_beB, beNum_beB, hc]
  exact Int.emod_eq_of_lt h0 h1
theorem Rdr.blob_blobB {x rest : List UInt8} {most : Int} (h : (x.length : Int) ≤ most) (h2 : x.length ≤ 65535) : Rdr.blob ⟨blobB x ++ rest, 0⟩ most = (⟨rest, 0⟩, x) := by
  have hx : x.take 65535 = x := List.take_of_length_le h2
  unfold Rdr.blob blobB
  rw [hx, List.append_assoc, Rdr.num_numB (by omega) (by have : (wide 2).toNat = 2 := w2; rw [this]; omega)]
  simp only
  rw [if_neg (by omega)]
  unfold Rdr.take
  rw [if_neg (by simp), if_neg (by rw [List.length_append]; omega)]
  simp only [Int.toNat_natCast, List.take_left', List.drop_left']
/-! a map -/
theorem mget_row {m : List Int} (h : MapMay m) {i : Nat} (hi : i < m.length) : mget m i = m.getD i 0 := mget_at h.2.1 hi h.1
theorem rowN_may {m : List Int} (h : MapMay m) : rowN m (min m.length 512) = m.length := by
  obtain ⟨h1, h2, h3⟩ := h
  rw [Nat.min_eq_left h1]
  rcases Nat.eq_zero_or_pos m.length with h0 | h0
  · rw [h0]; rfl
  · obtain ⟨k, hk⟩ := Nat.exists_eq_add_of_le (show 1 ≤ m.length from h0)
    rw [hk, Nat.add_comm, rowN_step]
    have := mget_row (m := m) ⟨h1, h2, h3⟩ (i := k) (by omega)
    rw [this, if_pos]
    rcases h3 with h3 | h3
    · omega
    · have e : m.length - 1 = k := by omega
      rwa [e] at h3
theorem rowL_may {m : List Int} (h : MapMay m) : rowL m = m := by
  rw [rowL_rowN, rowN_may h]
  apply List.ext_getElem
  · simp
  · intro i h1 h2
    rw [List.getElem_map, List.getElem_range, mget_row h h2, List.getD_eq_getElem?_getD, List.getElem?_eq_getElem h2]
    rfl
theorem mapB_len (m : List Int) : (mapB m).length = 2 + ((rowL m).length + 3) / 4 := by
  rw [quads_mapB]; simp [quads, mapHdr]; omega
theorem quad_bits : ∀ (a b c d : Fin 3), let q := (b8 ((a.val : Int) + 4 * b.val + 16 * c.val + 64 * d.val)).toNat
    q / 2 ^ 0 % 4 = a.val ∧ q / 2 ^ 2 % 4 = b.val ∧ q / 2 ^ 4 % 4 = c.val ∧ q / 2 ^ 6 % 4 = d.val := by decide +kernel
theorem unpAt_mapB {m : List Int} {i : Nat} (hi : i < ((rowL m).length + 3) / 4 * 4) : unpAt (mapB m) i = mget (rowL m) i := by
  unfold unpAt
  rw [quads_mapB]
  have hj : i / 4 < ((rowL m).length + 3) / 4 := by omega
  have e : (quads (rowL m) (((rowL m).length + 3) / 4)).getD (2 + i / 4) 0 = b8 (quad (rowL m) (i / 4)) := by
    unfold quads mapHdr
    rw [List.getD_eq_getElem?_getD, show 2 + i / 4 = i / 4 + 1 + 1 by omega]
    simp only [List.cons_append, List.nil_append, List.getElem?_cons_succ]
    rw [List.getElem?_map, List.getElem?_range hj]; rfl
  rw [e]
  have g0 := mget_le (rowL m) (4 * (i / 4 : Nat))
  have g1 := mget_le (rowL m) (4 * (i / 4 : Nat) + 1)
  have g2 := mget_le (rowL m) (4 * (i / 4 : Nat) + 2)
  have g3 := mget_le (rowL m) (4 * (i / 4 : Nat) + 3)
  have hb := quad_bits ⟨(mget (rowL m) (4 * (i / 4 : Nat))).toNat, by omega⟩ ⟨(mget (rowL m) (4 * (i / 4 : Nat) + 1)).toNat, by omega⟩ ⟨(mget (rowL m) (4 * (i / 4 : Nat) + 2)).toNat, by omega⟩ ⟨(mget (rowL m) (4 * (i / 4 : Nat) + 3)).toNat, by omega⟩
  simp only [Int.toNat_of_nonneg g0.1, Int.toNat_of_nonneg g1.1, Int.toNat_of_nonneg g2.1, Int.toNat_of_nonneg g3.1] at hb
  have hq : quad (rowL m) (i / 4) = mget (rowL m) (4 * (i / 4 : Nat)) + 4 * mget (rowL m) (4 * (i / 4 : Nat) + 1) + 16 * mget (rowL m) (4 * (i / 4 : Nat) + 2) + 64 * mget (rowL m) (4 * (i / 4 : Nat) + 3) := rfl
  rw [hq]
  have h3 : i % 4 = 0 ∨ i % 4 = 1 ∨ i % 4 = 2 ∨ i % 4 = 3 := by omega
  rcases h3 with h3 | h3 | h3 | h3 <;> rw [h3]
  · rw [show (0 * 2) = 0 from rfl, hb.1, show (i : Int) = 4 * (i / 4 : Nat) by omega]; omega
  · rw [show (1 * 2) = 2 from rfl, hb.2.1, show (i : Int) = 4 * (i / 4 : Nat) + 1 by omega]; omega
  · rw [show (2 * 2) = 4 from rfl, hb.2.2.1, show (i : Int) = 4 * (i / 4 : Nat) + 2 by omega]; omega
  · rw [show (3 * 2) = 6 from rfl, hb.2.2.2, show (i : Int) = 4 * (i / 4 : Nat) + 3 by omega]; omega
theorem unpN_mapB (m : List Int) : unpN (mapB m) = (rowL m).length := by
  have hl := rowL_len m
  rw [quads_mapB]
  unfold unpN quads mapHdr
  simp only [List.cons_append, List.nil_append, List.getD_cons_zero, List.getD_cons_succ]
  have h1 := b8_toNat (((rowL m).length : Int) / 256)
  have h2 := b8_toNat ((rowL m).length : Int)
  omega
theorem unpM_mapB {m : List Int} : (unpM (mapB m)).take (unpN (mapB m)) = rowL m ∧ ∀ x ∈ (unpM (mapB m)).drop (unpN (mapB m)), x = 0 := by
  have hN := unpN_mapB m
  have hl := rowL_len m
  have he : unpM (mapB m) = (List.range (((rowL m).length + 3) / 4 * 4)).map fun i : Nat => mget (rowL m) i := by
    unfold unpM
    rw [hN]
    apply List.map_congr_left
    intro i hi
    exact unpAt_mapB (List.mem_range.1 hi)
  rw [hN, he]
  constructor
  · rw [← List.map_take, List.take_range, Nat.min_eq_left (by omega)]
    apply List.ext_getElem
    · simp
    · intro i h1 h2
      rw [List.getElem_map, List.getElem_range, mget_at rowL_right h2 hl, List.getD_eq_getElem?_getD, List.getElem?_eq_getElem h2]
      rfl
  · intro x hx
    obtain ⟨i, hi⟩ := List.getElem?_of_mem hx
    rw [List.getElem?_drop, List.getElem?_map] at hi
    cases hr : (List.range (((rowL m).length + 3) / 4 * 4))[(rowL m).length + i]? with
    | none => rw [hr] at hi; cases hi
    | some k =>
      rw [hr] at hi
      have hk := (List.getElem?_eq_some_iff.1 hr).2
      rw [List.getElem_range] at hk
      injection hi with hi
      rw [← hi]
      exact mget_beyond (by omega)
theorem rowL_mapMay (m : List Int) : MapMay (rowL m) := by
  refine ⟨rowL_len m, rowL_right, ?_⟩
  rw [rowL_rowN]
  have key : ∀ (f : Nat → Int) k, (List.range (lastN f k)).length = 0 ∨ f (lastN f k - 1) ≠ 0 := by
    intro f k
    induction k with
    | zero => exact .inl rfl
    | succ k ih =>
      unfold lastN
      by_cases h : f k ≠ 0
      · rw [if_pos h]; exact .inr h
      · rw [if_neg h]; exact ih
  rcases key (fun i => mget m i) (min m.length 512) with h | h
  · left; rw [List.length_map]; exact h
  · by_cases h0 : rowN m (min m.length 512) = 0
    · left; rw [h0]; rfl
    · right
      rw [List.length_map, List.length_range, List.getD_eq_getElem?_getD, List.getElem?_map, List.getElem?_range (by omega)]
      exact h
theorem unpOk_mapB (m : List Int) : UnpOk (mapB m) := by
  have h := unpM_mapB (m := m)
  have hl := rowL_len m
  refine ⟨by rw [mapB_len]; omega, by rw [unpN_mapB]; omega, by rw [mapB_len, unpN_mapB], h.2, by rw [h.1]; exact rowL_mapMay m⟩
theorem unpackV_mapB (m : List Int) : unpackV (mapB m) = rowL m := by
  unfold unpackV; rw [if_pos (unpOk_mapB m), unpM_mapB.1]
theorem Rdr.table_mapB (m : List Int) (rest : List UInt8) : Rdr.table ⟨blobB (mapB m) ++ rest, 0⟩ = (⟨rest, 0⟩, rowL m) := by
  have hl := rowL_len m
  have hm := mapB_len m
  unfold Rdr.table
  rw [Rdr.blob_blobB (by omega) (by omega)]
  simp only [unpackV_mapB]
  rw [if_neg (by simp), if_pos (unpOk_mapB m)]
theorem snapsMay_ids {l : Layout} {last : Int} : ∀ {ahead : Int} {r : List Snap}, snapsMay l last ahead r → ∀ s ∈ r, ahead < s.id ∧ s.id ≤ last ∧ sizedMay l s.size s.map
  | _, [], _, s, hs => by cases hs
  | ahead, x :: r, h, s, hs => by
    rcases List.mem_cons.1 hs with rfl | hs
    · exact ⟨h.1, h.2.1, h.2.2.1⟩
    · have := snapsMay_ids h.2.2.2 s hs
      exact ⟨by have := h.1; omega, this.2⟩
theorem Rdr.snaps_snapB : ∀ (l : List Snap), (∀ s ∈ l, 0 ≤ s.id ∧ s.id < 256 ∧ 0 ≤ s.size ∧ s.size < 65536 ∧ MapMay s.map) → Rdr.snaps l.length ⟨l.flatMap snapB, 0⟩ = (⟨[], 0⟩, l)
  | [], _ => rfl
  | s :: l, h => by
    obtain ⟨h1, h2, h3, h4, h5⟩ := h s List.mem_cons_self
    rw [List.length_cons, Rdr.snaps, if_neg (by simp), List.flatMap_cons]
    unfold snapB
    rw [List.append_assoc, List.append_assoc, Rdr.num_numB h1 (by rw [w1]; omega)]
    simp only
    rw [Rdr.num_numB h3 (by rw [w2]; omega)]
    simp only
    rw [Rdr.table_mapB]
    simp only
    have ih := Rdr.snaps_snapB l (fun s hs => h s (List.mem_cons_of_mem _ hs))
    unfold snapB at ih
    rw [ih, rowL_may h5]
theorem numB_one {n : Int} (h0 : 0 ≤ n) (h1 : n < 256) : numB 1 n = [b8 n] := by
  rw [numB_beB, w1]
  have : numClamp 1 n = n := by
    unfold numClamp
    have : (2 : Int) ^ (8 * wide 1).toNat = 256 := by decide
    rw [this]; omega
  rw [this]
  simp [beB]
theorem headPre_nums {h : Head} (hm : h.May) : headPre h = numB 1 h.layout.u ++ numB 1 h.layout.c ++ numB 1 h.layout.o ++ numB 1 h.last ++ numB 2 h.size ++ numB 6 h.seq ++ blobB (mapB h.map) ++ numB 1 (h.snaps.length : Int) := by
  obtain ⟨⟨q1, q2, q3, q4, q5, q6⟩, ⟨s1, s2, s3, s4⟩, g3, g4, g5, g6, g7, g8⟩ := hm
  unfold headPre
  rw [numB_one (n := h.layout.u) (by omega) (by omega), numB_one (n := h.layout.c) (by omega) (by omega), numB_one (n := h.layout.o) (by omega) (by omega), numB_one (n := h.last) (by omega) (by omega)]
  simp only [List.cons_append, List.nil_append]
theorem headUnpack_headB {h : Head} (hm : h.May) : headUnpack (headB h) = (h, 0) := by
  have hm' := hm
  obtain ⟨⟨q1, q2, q3, q4, q5, q6⟩, ⟨s1, s2, s3, s4⟩, g3, g4, g5, g6, g7, g8⟩ := hm'
  have hids := snapsMay_ids g8
  have e0 : headB h = numB 1 h.layout.u ++ (numB 1 h.layout.c ++ (numB 1 h.layout.o ++ (numB 1 h.last ++ (numB 2 h.size ++ (numB 6 h.seq ++ (blobB (mapB h.map) ++ (numB 1 (h.snaps.length : Int) ++ h.snaps.flatMap snapB))))))) := by
    have one : ∀ n : Int, 0 ≤ n → n < 256 → numB 1 n = [b8 n] := by
      intro n h0 h1
      rw [numB_beB, w1]
      have : numClamp 1 n = n := by
        unfold numClamp
        have : (2 : Int) ^ (8 * wide 1).toNat = 256 := by decide
        rw [this]; omega
      rw [this]
      simp [beB]
    rw [one _ (by omega) (by omega), one _ (by omega) (by omega), one _ (by omega) (by omega), one _ g4 (by omega)]
    unfold headB headPre
    simp only [List.append_assoc, List.cons_append, List.nil_append]
  have r1 : Rdr.r1 (headB h) = (⟨numB 1 h.layout.c ++ (numB 1 h.layout.o ++ (numB 1 h.last ++ (numB 2 h.size ++ (numB 6 h.seq ++ (blobB (mapB h.map) ++ (numB 1 (h.snaps.length : Int) ++ (h.snaps.flatMap snapB))))))), 0⟩, h.layout.u) := by unfold Rdr.r1; rw [e0]; exact Rdr.num_numB (by omega) (by rw [w1]; omega)
  have r2 : Rdr.r2 (headB h) = (⟨numB 1 h.layout.o ++ (numB 1 h.last ++ (numB 2 h.size ++ (numB 6 h.seq ++ (blobB (mapB h.map) ++ (numB 1 (h.snaps.length : Int) ++ (h.snaps.flatMap snapB)))))), 0⟩, h.layout.c) := by unfold Rdr.r2; rw [r1]; exact Rdr.num_numB (by omega) (by rw [w1]; omega)
  have r3 : Rdr.r3 (headB h) = (⟨numB 1 h.last ++ (numB 2 h.size ++ (numB 6 h.seq ++ (blobB (mapB h.map) ++ (numB 1 (h.snaps.length : Int) ++ (h.snaps.flatMap snapB))))), 0⟩, h.layout.o) := by unfold Rdr.r3; rw [r2]; exact Rdr.num_numB (by omega) (by rw [w1]; omega)
  have r4 : Rdr.r4 (headB h) = (⟨numB 2 h.size ++ (numB 6 h.seq ++ (blobB (mapB h.map) ++ (numB 1 (h.snaps.length : Int) ++ (h.snaps.flatMap snapB)))), 0⟩, h.last) := by unfold Rdr.r4; rw [r3]; exact Rdr.num_numB (by omega) (by rw [w1]; omega)
  have r5 : Rdr.r5 (headB h) = (⟨numB 6 h.seq ++ (blobB (mapB h.map) ++ (numB 1 (h.snaps.length : Int) ++ (h.snaps.flatMap snapB))), 0⟩, h.size) := by unfold Rdr.r5; rw [r4]; exact Rdr.num_numB (by omega) (by rw [w2]; omega)
  have r6 : Rdr.r6 (headB h) = (⟨blobB (mapB h.map) ++ (numB 1 (h.snaps.length : Int) ++ (h.snaps.flatMap snapB)), 0⟩, h.seq) := by unfold Rdr.r6; rw [r5]; exact Rdr.num_numB (by omega) (by rw [w6]; omega)
  have r7 : Rdr.r7 (headB h) = (⟨numB 1 (h.snaps.length : Int) ++ (h.snaps.flatMap snapB), 0⟩, rowL h.map) := by unfold Rdr.r7; rw [r6]; exact Rdr.table_mapB _ _
  have r8 : Rdr.r8 (headB h) = (⟨h.snaps.flatMap snapB, 0⟩, (h.snaps.length : Int)) := by unfold Rdr.r8; rw [r7]; exact Rdr.num_numB (by omega) (by rw [w1]; omega)
  have r9 : Rdr.r9 (headB h) = ⟨h.snaps.flatMap snapB, 0⟩ := by unfold Rdr.r9; rw [r8]; exact if_neg (by simp only; omega)
  have rs : Rdr.ss (headB h) = (⟨[], 0⟩, h.snaps) := by
    unfold Rdr.ss
    rw [r8, r9]
    simp only [Int.toNat_natCast]
    exact Rdr.snaps_snapB _ (fun s hs => by
      obtain ⟨a1, a2, ⟨b1, b2, b3, b4⟩⟩ := hids s hs
      exact ⟨by omega, by omega, b1, by omega, b3⟩)
  have hraw : rawHead (headB h) = h := by
    unfold rawHead
    rw [r1, r2, r3, r4, r5, r6, r7, rs, rowL_may s3]
  unfold headUnpack
  rw [rs, hraw]
  simp only
  have he : (Rdr.end_ ⟨[], 0⟩).e = 0 := rfl
  rw [he, if_neg (by simp), headErr_ok hm, if_neg (by simp)]
end Go.Fx
set_option linter.unusedVariables false
namespace Go.Fx
open Go

/-! ### Where bytes lie, to and fro -/
/-- By stripes: as the program reckons. -/
def stripeO (l : Layout) (off : Int) : Int := off / l.u / l.c / (l.o / l.u) * l.c + off / l.u % l.c
def stripeK (l : Layout) (off : Int) : Int := off / l.u / l.c % (l.o / l.u) * l.u + off % l.u
theorem divmod_mul {a e c : Int} (he : 0 < e) (hc : 0 < c) : a / (e * c) = a / c / e ∧ a % (e * c) % c = a % c ∧ a % (e * c) / c = a / c % e := by
  have h1 := Int.mul_ediv_add_emod a c
  have h2 := Int.mul_ediv_add_emod (a / c) e
  have c0 := Int.emod_nonneg a (show c ≠ 0 by omega)
  have c1 := Int.emod_lt_of_pos a hc
  have e0 := Int.emod_nonneg (a / c) (show e ≠ 0 by omega)
  have e1 := Int.emod_lt_of_pos (a / c) he
  have hq : a / (e * c) = a / c / e := by rw [Int.mul_comm, ediv_ediv' (by omega)]
  have hm : a % (e * c) = a / c % e * c + a % c := by
    have h3 := Int.mul_ediv_add_emod a (e * c)
    rw [hq] at h3
    have h4 : c * (a / c) = c * (e * (a / c / e)) + c * (a / c % e) := by rw [← Int.mul_add, h2]
    have h5 : c * (e * (a / c / e)) = e * c * (a / c / e) := by rw [← Int.mul_assoc, Int.mul_comm c e]
    have h6 : c * (a / c % e) = a / c % e * c := Int.mul_comm _ _
    omega
  have hu : (a % (e * c)) / c = a / c % e ∧ (a % (e * c)) % c = a % c := (Int.ediv_emod_unique hc).2 ⟨by rw [hm, Int.mul_comm]; omega, c0, c1⟩
  exact ⟨hq, hu.2, hu.1⟩
theorem stripe_place {l : Layout} (h : l.May) (off : Int) : stripeO l off = placeO l off ∧ stripeK l off = placeK l off := by
  have hf := placeFacts h (off := 0) (by omega)
  obtain ⟨q1, q2, q3, q4, q5, q6⟩ := h
  have := divmod_mul (a := off / l.u) (e := l.o / l.u) (c := l.c) (by have := hf.each; omega) (by omega)
  unfold stripeO stripeK placeO placeK
  rw [this.1, this.2.1, this.2.2]
  exact ⟨rfl, rfl⟩
/-- Which byte lies there. -/
def backB (l : Layout) (o k : Int) : Int := ((o / l.c * (l.o / l.u) + k / l.u) * l.c + o % l.c) * l.u + k % l.u
theorem obj_mul {l : Layout} (h : l.May) : l.o / l.u * l.u = l.o := by
  obtain ⟨q1, q2, q3, q4, q5, q6⟩ := h
  exact Int.ediv_mul_cancel (Int.dvd_of_emod_eq_zero q6)
theorem k_range {l : Layout} (h : l.May) {k : Int} (h0 : 0 ≤ k) (h1 : k < l.o) : 0 ≤ k / l.u ∧ k / l.u < l.o / l.u ∧ 0 ≤ k % l.u ∧ k % l.u < l.u := by
  have hm := obj_mul h
  obtain ⟨q1, q2, q3, q4, q5, q6⟩ := h
  refine ⟨Int.ediv_nonneg h0 (by omega), ?_, Int.emod_nonneg k (by omega), Int.emod_lt_of_pos k (by omega)⟩
  rw [Int.ediv_lt_iff_lt_mul (by omega), hm]
  exact h1
theorem place_back {l : Layout} (h : l.May) {o k : Int} (ho : 0 ≤ o) (h0 : 0 ≤ k) (h1 : k < l.o) : 0 ≤ backB l o k ∧ placeO l (backB l o k) = o ∧ placeK l (backB l o k) = k := by
  have hk := k_range h h0 h1
  have hsp := stripe_place h (backB l o k)
  obtain ⟨q1, q2, q3, q4, q5, q6⟩ := h
  have he : 0 < l.o / l.u := by omega
  have o1 := Int.mul_ediv_add_emod o l.c
  have o2 := Int.emod_nonneg o (show l.c ≠ 0 by omega)
  have o3 := Int.emod_lt_of_pos o (show 0 < l.c by omega)
  have o4 : 0 ≤ o / l.c := Int.ediv_nonneg ho (by omega)
  have k1 := Int.mul_ediv_add_emod k l.u
  have u1 : backB l o k / l.u = (o / l.c * (l.o / l.u) + k / l.u) * l.c + o % l.c ∧ backB l o k % l.u = k % l.u :=
    (Int.ediv_emod_unique (by omega)).2 ⟨by unfold backB; rw [Int.mul_comm l.u]; omega, hk.2.2.1, hk.2.2.2⟩
  have u2 : ((o / l.c * (l.o / l.u) + k / l.u) * l.c + o % l.c) / l.c = o / l.c * (l.o / l.u) + k / l.u ∧ ((o / l.c * (l.o / l.u) + k / l.u) * l.c + o % l.c) % l.c = o % l.c :=
    (Int.ediv_emod_unique (by omega)).2 ⟨by rw [Int.mul_comm l.c]; omega, o2, o3⟩
  have u3 : (o / l.c * (l.o / l.u) + k / l.u) / (l.o / l.u) = o / l.c ∧ (o / l.c * (l.o / l.u) + k / l.u) % (l.o / l.u) = k / l.u :=
    (Int.ediv_emod_unique he).2 ⟨by rw [Int.mul_comm (l.o / l.u)]; omega, hk.1, hk.2.1⟩
  rw [← hsp.1, ← hsp.2]
  unfold stripeO stripeK
  rw [u1.1, u1.2, u2.1, u2.2, u3.1, u3.2]
  refine ⟨?_, ?_, ?_⟩
  · unfold backB
    have a1 := Int.mul_nonneg o4 (Int.le_of_lt he)
    have a2 := Int.mul_nonneg (show 0 ≤ o / l.c * (l.o / l.u) + k / l.u by omega) (show 0 ≤ l.c by omega)
    have a3 := Int.mul_nonneg (show 0 ≤ (o / l.c * (l.o / l.u) + k / l.u) * l.c + o % l.c by omega) (show 0 ≤ l.u by omega)
    omega
  · rw [Int.mul_comm]; exact o1
  · rw [Int.mul_comm]; exact k1
theorem back_place {l : Layout} (h : l.May) {i : Int} (hi : 0 ≤ i) : backB l (placeO l i) (placeK l i) = i ∧ 0 ≤ placeO l i ∧ 0 ≤ placeK l i ∧ placeK l i < l.o := by
  have hsp := stripe_place h i
  have hm := obj_mul h
  have hf := placeFacts h hi
  obtain ⟨q1, q2, q3, q4, q5, q6⟩ := h
  have he : 0 < l.o / l.u := by have := hf.each; omega
  have i1 := Int.mul_ediv_add_emod i l.u
  have i2 := Int.emod_nonneg i (show l.u ≠ 0 by omega)
  have i3 := Int.emod_lt_of_pos i (show 0 < l.u by omega)
  have i4 : 0 ≤ i / l.u := Int.ediv_nonneg hi (by omega)
  have j1 := Int.mul_ediv_add_emod (i / l.u) l.c
  have j2 := Int.emod_nonneg (i / l.u) (show l.c ≠ 0 by omega)
  have j3 := Int.emod_lt_of_pos (i / l.u) (show 0 < l.c by omega)
  have j4 : 0 ≤ i / l.u / l.c := Int.ediv_nonneg i4 (by omega)
  have m1 := Int.mul_ediv_add_emod (i / l.u / l.c) (l.o / l.u)
  have m2 := Int.emod_nonneg (i / l.u / l.c) (show l.o / l.u ≠ 0 by omega)
  have m3 := Int.emod_lt_of_pos (i / l.u / l.c) he
  have m4 : 0 ≤ i / l.u / l.c / (l.o / l.u) := Int.ediv_nonneg j4 (by omega)
  rw [← hsp.1, ← hsp.2]
  have v1 : stripeO l i / l.c = i / l.u / l.c / (l.o / l.u) ∧ stripeO l i % l.c = i / l.u % l.c :=
    (Int.ediv_emod_unique (by omega)).2 ⟨by unfold stripeO; rw [Int.mul_comm l.c]; omega, j2, j3⟩
  have v2 : stripeK l i / l.u = i / l.u / l.c % (l.o / l.u) ∧ stripeK l i % l.u = i % l.u :=
    (Int.ediv_emod_unique (by omega)).2 ⟨by unfold stripeK; rw [Int.mul_comm l.u]; omega, i2, i3⟩
  refine ⟨?_, ?_, ?_, ?_⟩
  · unfold backB
    rw [v1.1, v1.2, v2.1, v2.2]
    have e1 : i / l.u / l.c / (l.o / l.u) * (l.o / l.u) + i / l.u / l.c % (l.o / l.u) = i / l.u / l.c := by rw [Int.mul_comm]; exact m1
    rw [e1]
    have e2 : i / l.u / l.c * l.c + i / l.u % l.c = i / l.u := by rw [Int.mul_comm]; exact j1
    rw [e2, Int.mul_comm]
    exact i1
  · unfold stripeO
    have := Int.mul_nonneg m4 (show 0 ≤ l.c by omega)
    omega
  · unfold stripeK
    have := Int.mul_nonneg m2 (show 0 ≤ l.u by omega)
    omega
  · unfold stripeK
    have : i / l.u / l.c % (l.o / l.u) * l.u ≤ (l.o / l.u - 1) * l.u := Int.mul_le_mul_of_nonneg_right (by omega) (by omega)
    rw [Int.sub_mul, hm] at this
    omega
theorem back_mono {l : Layout} (h : l.May) {o k k' : Int} (h0 : 0 ≤ k) (hlt : k < k') : backB l o k < backB l o k' := by
  obtain ⟨q1, q2, q3, q4, q5, q6⟩ := h
  have a1 := Int.mul_ediv_add_emod k l.u
  have a2 := Int.emod_nonneg k (show l.u ≠ 0 by omega)
  have a3 := Int.emod_lt_of_pos k (show 0 < l.u by omega)
  have b1 := Int.mul_ediv_add_emod k' l.u
  have b2 := Int.emod_nonneg k' (show l.u ≠ 0 by omega)
  have b3 := Int.emod_lt_of_pos k' (show 0 < l.u by omega)
  have hle : k / l.u ≤ k' / l.u := Int.ediv_le_ediv (by omega) (by omega)
  unfold backB
  rcases Int.lt_or_eq_of_le hle with hl | he
  · have e1 : (o / l.c * (l.o / l.u) + k / l.u + 1) * l.c ≤ (o / l.c * (l.o / l.u) + k' / l.u) * l.c := Int.mul_le_mul_of_nonneg_right (by omega) (by omega)
    rw [Int.add_mul _ 1] at e1
    have e2 : ((o / l.c * (l.o / l.u) + k / l.u) * l.c + o % l.c + 1) * l.u ≤ ((o / l.c * (l.o / l.u) + k' / l.u) * l.c + o % l.c) * l.u := Int.mul_le_mul_of_nonneg_right (by omega) (by omega)
    rw [Int.add_mul _ 1] at e2
    omega
  · rw [he] at a1 ⊢
    omega
/-! ### How many bytes of an object an image has -/
def roomR (l : Layout) (o : Int) : Nat → Int
  | 0 => 0
  | i + 1 => if placeO l i = o then max (roomR l o i) (placeK l i + 1) else roomR l o i
def IsRoom (l : Layout) (o size n : Int) : Prop := 0 ≤ n ∧ n ≤ l.o ∧ ∀ k, 0 ≤ k → k < l.o → (backB l o k < size ↔ k < n)
theorem IsRoom.unique {l : Layout} {o size n n' : Int} (h : IsRoom l o size n) (h' : IsRoom l o size n') : n = n' := by
  obtain ⟨a1, a2, a3⟩ := h
  obtain ⟨b1, b2, b3⟩ := h'
  rcases Int.lt_trichotomy n n' with hl | he | hg
  · have := (a3 n a1 (by omega)).1 ((b3 n a1 (by omega)).2 hl); omega
  · exact he
  · have := (b3 n' b1 (by omega)).1 ((a3 n' b1 (by omega)).2 hg); omega
theorem roomR_is {l : Layout} (h : l.May) {o : Int} (ho : 0 ≤ o) : ∀ i : Nat, IsRoom l o i (roomR l o i)
  | 0 => by
    refine ⟨Int.le_refl _, by obtain ⟨q1, q2, q3, q4, q5, q6⟩ := h; simp only [roomR]; omega, fun k h0 h1 => ?_⟩
    have := (place_back h ho h0 h1).1
    simp only [roomR]
    omega
  | i + 1 => by
    obtain ⟨a1, a2, a3⟩ := roomR_is h ho i
    have hb := back_place h (i := (i : Int)) (by omega)
    unfold roomR
    by_cases hp : placeO l i = o
    · rw [if_pos hp]
      rw [hp] at hb
      have hn : placeK l i = roomR l o i := by
        have h1 : ¬ placeK l i < roomR l o i := fun hlt => by have := (a3 _ hb.2.2.1 hb.2.2.2).2 hlt; omega
        rcases Int.lt_or_eq_of_le (show roomR l o i ≤ placeK l i by omega) with hlt | he
        · have h2 := back_mono h (o := o) a1 hlt
          have := (a3 (roomR l o i) a1 (by omega)).1 (by omega)
          omega
        · exact he.symm
      rw [hn]
      refine ⟨by omega, by omega, fun k h0 h1 => ?_⟩
      have hk := a3 k h0 h1
      constructor
      · intro hlt
        by_cases e : backB l o k = i
        · have hpk := (place_back h ho h0 h1).2.2
          rw [e, hn] at hpk
          omega
        · have := hk.1 (by omega); omega
      · intro hlt
        by_cases e : k < roomR l o i
        · have := hk.2 e; omega
        · have : k = roomR l o i := by omega
          rw [this, ← hn, hb.1]; omega
    · rw [if_neg hp]
      refine ⟨a1, a2, fun k h0 h1 => ?_⟩
      rw [← a3 k h0 h1]
      have hne : backB l o k ≠ i := fun e => hp (by rw [← e]; exact (place_back h ho h0 h1).2.1)
      omega
/-- Unit by unit. -/
def roomP (l : Layout) (o size : Int) : Nat → Int
  | 0 => 0
  | j + 1 => if backB l o (j * l.u) < size then j * l.u + min l.u (size - backB l o (j * l.u)) else roomP l o size j
theorem roomP_is {l : Layout} (h : l.May) {o size : Int} (ho : 0 ≤ o) : ∀ j : Nat, (j : Int) ≤ l.o / l.u → 0 ≤ roomP l o size j ∧ roomP l o size j ≤ j * l.u ∧ ∀ k, 0 ≤ k → k < j * l.u → (backB l o k < size ↔ k < roomP l o size j)
  | 0, _ => ⟨Int.le_refl _, by simp [roomP], fun k h0 h1 => by simp at h1; omega⟩
  | j + 1, hj => by
    obtain ⟨a1, a2, a3⟩ := roomP_is h ho j (by omega)
    have hm := obj_mul h
    have hmay := h
    obtain ⟨q1, q2, q3, q4, q5, q6⟩ := h
    have hjo : ((j : Int) + 1) * l.u ≤ l.o := by rw [← hm]; exact Int.mul_le_mul_of_nonneg_right (by omega) (by omega)
    rw [Int.add_mul, Int.one_mul] at hjo
    have hju : 0 ≤ (j : Int) * l.u := Int.mul_nonneg (by omega) (by omega)
    have hin : ∀ r, 0 ≤ r → r < l.u → backB l o (j * l.u + r) = backB l o (j * l.u) + r := by
      intro r r0 r1
      unfold backB
      have e1 : ((j : Int) * l.u + r) / l.u = j ∧ ((j : Int) * l.u + r) % l.u = r := (Int.ediv_emod_unique (by omega)).2 ⟨by rw [Int.mul_comm l.u]; omega, r0, r1⟩
      have e2 : ((j : Int) * l.u) / l.u = j ∧ ((j : Int) * l.u) % l.u = 0 := (Int.ediv_emod_unique (by omega)).2 ⟨by rw [Int.mul_comm l.u]; omega, by omega, by omega⟩
      rw [e1.1, e1.2, e2.1, e2.2]
      omega
    have hcast : ((j + 1 : Nat) : Int) * l.u = j * l.u + l.u := by rw [Int.natCast_add, Int.add_mul]; simp
    rw [hcast]
    unfold roomP
    by_cases hb : backB l o (j * l.u) < size
    · rw [if_pos hb]
      refine ⟨by omega, by omega, fun k h0 h1 => ?_⟩
      by_cases hk : k < j * l.u
      · have hlow := back_mono hmay (o := o) h0 hk
        constructor
        · intro _; omega
        · intro _; omega
      · have := hin (k - j * l.u) (by omega) (by omega)
        rw [show (j : Int) * l.u + (k - j * l.u) = k by omega] at this
        rw [this]
        omega
    · rw [if_neg hb]
      refine ⟨a1, by omega, fun k h0 h1 => ?_⟩
      by_cases hk : k < j * l.u
      · exact a3 k h0 hk
      · have := hin (k - j * l.u) (by omega) (by omega)
        rw [show (j : Int) * l.u + (k - j * l.u) = k by omega] at this
        constructor
        · intro hh; omega
        · intro hh; omega
/-- How many bytes. -/
def roomN (l : Layout) (o size : Int) : Int := if inFar o ∧ inFar size ∧ l.May ∧ size ≤ 512 then roomP l o size (l.o / l.u).toNat else 0
theorem roomP_roomR {l : Layout} (h : l.May) {o size : Int} (ho : 0 ≤ o) (hs : 0 ≤ size) : roomP l o size (l.o / l.u).toNat = roomR l o size.toNat := by
  have he := (placeFacts h (off := 0) (by omega)).each
  have h1 := roomP_is h (size := size) ho (l.o / l.u).toNat (by omega)
  have h2 := roomR_is h ho size.toNat
  rw [show (((l.o / l.u).toNat : Nat) : Int) = l.o / l.u by omega, obj_mul h] at h1
  rw [show ((size.toNat : Nat) : Int) = size by omega] at h2
  exact IsRoom.unique (size := size) ⟨h1.1, h1.2.1, h1.2.2⟩ h2
end Go.Fx
set_option linter.unusedVariables false
namespace Go.Fx
open Go

/-! ### Entries, ops, transactions -/
structure Entry where
  seq : Int
  owner : Int
  kind : Int
  off : Int
  len : Int
  snap : Int
  data : List UInt8
abbrev Entry.cells (e : Entry) : List AV := [I e.seq, I e.owner, I e.kind, I e.off, I e.len, I e.snap, bytes e.data]
structure Op where
  kind : Int
  off : Int
  n : Int
  name : List UInt8
  data : List UInt8
abbrev Op.cells (o : Op) : List AV := [I o.kind, I o.off, I o.n, str (bs o.name), bytes o.data]
abbrev opRows (l : List Op) : List (List AV) := l.map Op.cells
structure Txn where
  object : List UInt8
  ops : List Op
abbrev Txn.cells (t : Txn) : List AV := [str (bs t.object), .sl 5 (opRows t.ops)]
abbrev txnRows (l : List Txn) : List (List AV) := l.map Txn.cells
structure Piece where
  o : Int
  off : Int
  len : Int
  at_ : Int
abbrev Piece.cells (p : Piece) : List AV := [I p.o, I p.off, I p.len, I p.at_]
abbrev pieceRows (l : List Piece) : List (List AV) := l.map Piece.cells

theorem if_t_eq {α : Type} {p : Prop} [Decidable p] {a a' b : α} (h : p) (e : a = a') : a = if p then a' else b := by rw [if_pos h, e]
theorem if_f_eq {α : Type} {p : Prop} [Decidable p] {a b b' : α} (h : ¬ p) (e : b = b') : b = if p then a else b' := by rw [if_neg h, e]

def Entry.May (e : Entry) : Prop := 1 ≤ e.seq ∧ e.seq ≤ 1099511627776 ∧ 0 ≤ e.owner ∧ e.owner ≤ 7 ∧
  ((e.kind = 1 ∧ 1 ≤ (e.data.length : Int) ∧ (e.data.length : Int) ≤ 128 ∧ 0 ≤ e.off ∧ e.off ≤ 512) ∨ (e.kind = 2 ∧ 1 ≤ e.len ∧ e.len ≤ 512 ∧ 0 ≤ e.off ∧ e.off ≤ 512) ∨ (e.kind = 3 ∧ 0 ≤ e.len ∧ e.len ≤ 512) ∨ e.kind = 4 ∨ ((e.kind = 5 ∨ e.kind = 6) ∧ 1 ≤ e.snap ∧ e.snap ≤ 100))
instance (e : Entry) : Decidable e.May := by unfold Entry.May; infer_instance
def entryErr (e : Entry) : Int := if e.May then 0 else 70
def namesTab : List Int := [0, 9, 3, 2, 0, 4, 4]
def Named (k w : Int) : Prop := 0 ≤ k ∧ k < 7 ∧ Go.bits .and .i64 (namesTab.getD k.toNat 0) w ≠ 0
instance (k w : Int) : Decidable (Named k w) := by unfold Named; infer_instance
theorem names_drop {k : Int} (h0 : 0 ≤ k) (h1 : k < 7) : (([.int .i64 0, .int .i64 9, .int .i64 3, .int .i64 2, .int .i64 0, .int .i64 4, .int .i64 4] : List Value).map AV.val).drop k.toNat = I (namesTab.getD k.toNat 0) :: (([.int .i64 0, .int .i64 9, .int .i64 3, .int .i64 2, .int .i64 0, .int .i64 4, .int .i64 4] : List Value).map AV.val).drop (k.toNat + 1) := by
  have h : k = 0 ∨ k = 1 ∨ k = 2 ∨ k = 3 ∨ k = 4 ∨ k = 5 ∨ k = 6 := by omega
  rcases h with rfl | rfl | rfl | rfl | rfl | rfl | rfl <;> rfl
def Entry.clean (e : Entry) : Entry := ⟨e.seq, e.owner, e.kind, if Named e.kind 1 then e.off else 0, if Named e.kind 2 then e.len else 0, if Named e.kind 4 then e.snap else 0, if Named e.kind 8 then e.data else []⟩

/-! ### Names -/
def clamp (n lo hi : Int) : Int := min (max n lo) hi
def digsOf (n : Int) : Nat := if 99 < n then 3 else if 9 < n then 2 else 1
def headName (image : Int) : List UInt8 := 104 :: digR (clamp image 0 9) 1
def dataName (image n : Int) : List UInt8 := 100 :: digR (clamp image 0 9) 1 ++ [46] ++ digR (clamp n 0 999) (digsOf (clamp n 0 999))
def markName (n : Int) : List UInt8 := 115 :: digR (clamp n 0 999) 3
theorem clamp_range (n : Int) {lo hi : Int} (h : lo ≤ hi) : lo ≤ clamp n lo hi ∧ clamp n lo hi ≤ hi := by unfold clamp; omega
theorem digsOf_le (n : Int) : 1 ≤ digsOf n ∧ digsOf n ≤ 3 := by unfold digsOf; split; omega; split <;> omega
/-- A number's digits, filled up with noughts. -/
theorem digR_fill {n : Int} (h0 : 0 ≤ n) (h1 : n ≤ 999) : List.replicate (3 - digsOf n) 48 ++ digR n (digsOf n) = digR n 3 := by
  unfold digsOf
  have z : ∀ j : Int, j = 0 → b8 (48 + j % 10) = 48 := by intro j hj; subst hj; decide
  by_cases h2 : 99 < n
  · rw [if_pos h2]; rfl
  · rw [if_neg h2]
    by_cases h3 : 9 < n
    · rw [if_pos h3]
      simp only [digR]
      rw [z (n / 10 ^ 2) (by omega)]
      rfl
    · rw [if_neg h3]
      simp only [digR]
      rw [z (n / 10 ^ 2) (by omega), z (n / 10 ^ 1) (by omega)]
      rfl
theorem itoa_digs {n : Int} (h0 : 0 ≤ n) (h1 : n ≤ 999) : Lib.itoa n = digR n (digsOf n) := itoa_small h0 h1
end Go.Fx
set_option linter.unusedVariables false
namespace Go.Fx
open Go

/-! ### The pieces of a span -/
structure StripeFacts (l : Layout) (off : Int) : Prop where
  unit : 0 ≤ off / l.u ∧ off / l.u ≤ off
  stripe : 0 ≤ off / l.u / l.c ∧ off / l.u / l.c ≤ off
  q : 0 ≤ off / l.u / l.c / (l.o / l.u) ∧ off / l.u / l.c / (l.o / l.u) ≤ off
  qc : 0 ≤ off / l.u / l.c / (l.o / l.u) * l.c ∧ off / l.u / l.c / (l.o / l.u) * l.c ≤ off * 8
  at_ : 0 ≤ off / l.u % l.c ∧ off / l.u % l.c < 8
  r : 0 ≤ off / l.u / l.c % (l.o / l.u) ∧ off / l.u / l.c % (l.o / l.u) < 64
  ru : 0 ≤ off / l.u / l.c % (l.o / l.u) * l.u ∧ off / l.u / l.c % (l.o / l.u) * l.u ≤ 64 * 64
  in_ : 0 ≤ off % l.u ∧ off % l.u < l.u
  each : 1 ≤ l.o / l.u ∧ l.o / l.u ≤ 64
theorem stripeFacts {l : Layout} {off : Int} (h : l.May) (h0 : 0 ≤ off) : StripeFacts l off := by
  have hf := placeFacts h (off := 0) (by omega)
  obtain ⟨q1, q2, q3, q4, q5, q6⟩ := h
  have e1 := hf.each
  have e5 := div_facts (a := off) (b := l.u) (m := off) h0 (Int.le_refl _) q1
  have e6 := div_facts (a := off / l.u) (b := l.c) (m := off) e5.1 e5.2.1 q2
  have e7 := div_facts (a := off / l.u / l.c) (b := l.o / l.u) (m := off) e6.1 e6.2.1 e1.1
  have e8 := mul_le_mul' (a := off / l.u / l.c / (l.o / l.u)) (b := l.c) (c := off) (d := 8) e7.1 e7.2.1 (by omega) q3
  have e9 := mod_facts (a := off / l.u) (b := l.c) q2
  have e10 := mod_facts (a := off / l.u / l.c) (b := l.o / l.u) e1.1
  have e11 := mul_le_mul' (a := off / l.u / l.c % (l.o / l.u)) (b := l.u) (c := 64) (d := 64) e10.1 (by omega) (by omega) (by omega)
  have e12 := mod_facts (a := off) (b := l.u) q1
  exact ⟨⟨e5.1, e5.2.1⟩, ⟨e6.1, e6.2.1⟩, ⟨e7.1, e7.2.1⟩, e8, ⟨e9.1, by omega⟩, ⟨e10.1, by omega⟩, e11, e12, e1⟩
structure BackFacts (l : Layout) (o k : Int) : Prop where
  each : 1 ≤ l.o / l.u ∧ l.o / l.u ≤ 64
  oc : 0 ≤ o / l.c ∧ o / l.c ≤ 1099511627776
  oce : 0 ≤ o / l.c * (l.o / l.u) ∧ o / l.c * (l.o / l.u) ≤ 1099511627776 * 64
  ku : 0 ≤ k / l.u ∧ k / l.u ≤ 64
  s : 0 ≤ (o / l.c * (l.o / l.u) + k / l.u) * l.c ∧ (o / l.c * (l.o / l.u) + k / l.u) * l.c ≤ (1099511627776 * 64 + 64) * 8
  om : 0 ≤ o % l.c ∧ o % l.c < 8
  t : 0 ≤ ((o / l.c * (l.o / l.u) + k / l.u) * l.c + o % l.c) * l.u ∧ ((o / l.c * (l.o / l.u) + k / l.u) * l.c + o % l.c) * l.u ≤ ((1099511627776 * 64 + 64) * 8 + 8) * 64
  km : 0 ≤ k % l.u ∧ k % l.u < 64
theorem backFacts {l : Layout} {o k : Int} (h : l.May) (h0 : 0 ≤ o) (h1 : o ≤ 1099511627776) (k0 : 0 ≤ k) (k1 : k < l.o) : BackFacts l o k := by
  have hf := placeFacts h (off := 0) (by omega)
  obtain ⟨q1, q2, q3, q4, q5, q6⟩ := h
  have e1 := hf.each
  have d1 := div_facts (a := o) (b := l.c) (m := 1099511627776) h0 h1 q2
  have d2 := mul_le_mul' (a := o / l.c) (b := l.o / l.u) (c := 1099511627776) (d := 64) d1.1 d1.2.1 (by omega) e1.2
  have d3 := div_facts (a := k) (b := l.u) (m := 64) k0 (by omega) q1
  have d4 := mul_le_mul' (a := o / l.c * (l.o / l.u) + k / l.u) (b := l.c) (c := 1099511627776 * 64 + 64) (d := 8) (by omega) (by omega) (by omega) q3
  have d5 := mod_facts (a := o) (b := l.c) q2
  have d6 := mul_le_mul' (a := (o / l.c * (l.o / l.u) + k / l.u) * l.c + o % l.c) (b := l.u) (c := (1099511627776 * 64 + 64) * 8 + 8) (d := 64) (by omega) (by omega) (by omega) (by omega)
  have d7 := mod_facts (a := k) (b := l.u) q1
  exact ⟨e1, ⟨d1.1, d1.2.1⟩, d2, ⟨d3.1, d3.2.1⟩, d4, ⟨d5.1, by omega⟩, d6, ⟨d7.1, by omega⟩⟩

def lastP : List Piece → Option Piece
  | [] => none
  | [x] => some x
  | _ :: l => lastP l
def joinP (out : List Piece) (p : Piece) : List Piece :=
  match out.getLast? with
  | some q => if q.o = p.o ∧ q.off + q.len = p.off then out.dropLast ++ [⟨q.o, q.off, q.len + p.len, q.at_⟩] else out ++ [p]
  | none => out ++ [p]
def pieceAt (l : Layout) (off n at_ : Int) : Piece := ⟨stripeO l (off + at_), stripeK l (off + at_), min (l.u - (off + at_) % l.u) (n - at_), at_⟩
def piecesGo (l : Layout) (off n : Int) : Nat → Int → List Piece → List Piece
  | 0, _, out => out
  | f + 1, a, out => if a < n then piecesGo l off n f (a + (pieceAt l off n a).len) (joinP out (pieceAt l off n a)) else out
def pieces (l : Layout) (off n : Int) : List Piece := piecesGo l off n n.toNat 0 []
theorem joinP_nil (p : Piece) : joinP [] p = [p] := rfl
theorem joinP_hit {init : List Piece} {q p : Piece} (h1 : q.o = p.o) (h2 : q.off + q.len = p.off) : joinP (init ++ [q]) p = init ++ [⟨q.o, q.off, q.len + p.len, q.at_⟩] := by
  unfold joinP
  have e : (init ++ [q]).getLast? = some q := by simp
  rw [e]
  simp only
  rw [if_pos ⟨h1, h2⟩, List.dropLast_concat]
theorem joinP_miss {init : List Piece} {q p : Piece} (h : ¬ (q.o = p.o ∧ q.off + q.len = p.off)) : joinP (init ++ [q]) p = init ++ [q] ++ [p] := by
  unfold joinP
  have e : (init ++ [q]).getLast? = some q := by simp
  rw [e]
  simp only
  rw [if_neg h]

/-! ### What the pieces are -/
def Piece.idxs (p : Piece) : List Nat := (List.range p.len.toNat).map (p.at_.toNat + ·)
structure PieceOk (l : Layout) (off : Int) (p : Piece) : Prop where
  len : 1 ≤ p.len
  at0 : 0 ≤ p.at_
  obj : ∀ j : Int, 0 ≤ j → j < p.len → placeO l (off + p.at_ + j) = p.o ∧ placeK l (off + p.at_ + j) = p.off + j
def PInv (l : Layout) (off a : Int) (out : List Piece) : Prop := out.flatMap Piece.idxs = List.range a.toNat ∧ ∀ p ∈ out, PieceOk l off p
theorem range_add (a b : Nat) : List.range a ++ (List.range b).map (a + ·) = List.range (a + b) := by
  rw [List.range_add]
theorem pieceAt_ok {l : Layout} {off n a : Int} (h : l.May) (h0 : 0 ≤ off) (ha : 0 ≤ a) (hn : a < n) : PieceOk l off (pieceAt l off n a) ∧ a + (pieceAt l off n a).len ≤ n := by
  have hf := stripeFacts h (off := off + a) (by omega)
  have hin := hf.in_
  refine ⟨⟨by show 1 ≤ min _ _; omega, ha, fun j j0 j1 => ?_⟩, by show a + min _ _ ≤ n; omega⟩
  have hj : j < l.u - (off + a) % l.u := by have : (pieceAt l off n a).len = min (l.u - (off + a) % l.u) (n - a) := rfl; omega
  have hs := stripe_place h (off + a + j)
  have hu := h.1
  have hdm := Int.mul_ediv_add_emod (off + a) l.u
  have e := (Int.ediv_emod_unique (a := off + a + j) (q := (off + a) / l.u) (r := (off + a) % l.u + j) (show 0 < l.u by omega)).2 ⟨by omega, by omega, by omega⟩
  show placeO l (off + a + j) = stripeO l (off + a) ∧ placeK l (off + a + j) = stripeK l (off + a) + j
  rw [← hs.1, ← hs.2]
  unfold stripeO stripeK
  rw [e.1, e.2]
  exact ⟨rfl, by omega⟩
theorem joinP_inv {l : Layout} {off n a : Int} {out : List Piece} {p : Piece} (ha : 0 ≤ a) (h : PInv l off a out) (hp : PieceOk l off p) (hat : p.at_ = a) : PInv l off (a + p.len) (joinP out p) := by
  obtain ⟨h1, h2⟩ := h
  have hl := hp.len
  have hcat : List.range a.toNat ++ p.idxs = List.range (a + p.len).toNat := by
    unfold Piece.idxs
    rw [hat, range_add]
    congr 1
    omega
  rcases List.eq_nil_or_concat out with rfl | ⟨init, q, rfl⟩
  · rw [joinP_nil]
    refine ⟨?_, by simpa using hp⟩
    rw [← hcat, ← h1]; simp
  · rw [List.concat_eq_append] at h1 h2 ⊢
    by_cases hq : q.o = p.o ∧ q.off + q.len = p.off
    · rw [joinP_hit hq.1 hq.2]
      have hqo := h2 q (by simp)
      have hqn : q.at_ + q.len = a := by
        rw [List.flatMap_append] at h1
        have h3 : (init.flatMap Piece.idxs ++ q.idxs).getLast? = (List.range a.toNat).getLast? := by rw [← h1]; simp
        have hl1 : q.idxs.getLast? = some (q.at_.toNat + (q.len.toNat - 1)) := by
          have hl3 := hqo.len
          unfold Piece.idxs
          rw [List.getLast?_map, List.getLast?_range, if_neg (by omega)]; rfl
        rw [List.getLast?_append, hl1] at h3
        rw [List.getLast?_range] at h3
        have hl3 := hqo.len
        have hl4 := hqo.at0
        split at h3
        · cases h3
        · simp at h3; omega
      refine ⟨?_, fun x hx => ?_⟩
      · rw [← hcat, ← h1, List.flatMap_append, List.flatMap_append, List.append_assoc]
        congr 1
        simp only [List.flatMap_cons, List.flatMap_nil, List.append_nil]
        unfold Piece.idxs
        have hl3 := hqo.len
        have hl4 := hqo.at0
        have : (q.len + p.len).toNat = q.len.toNat + p.len.toNat := by omega
        simp only
        rw [this, List.range_add, List.map_append, List.map_map]
        congr 1
        apply List.map_congr_left
        intro i _
        simp only [Function.comp]
        omega
      · rcases List.mem_append.1 hx with hx | hx
        · exact h2 x (by simp [hx])
        · rw [List.mem_singleton] at hx
          subst hx
          refine ⟨by have := hqo.len; simp only; omega, hqo.at0, fun j j0 j1 => ?_⟩
          simp only at j1 ⊢
          by_cases hj : j < q.len
          · exact hqo.obj j j0 hj
          · have h5 := hp.obj (j - q.len) (by omega) (by omega)
            rw [hat] at h5
            rw [show off + q.at_ + j = off + a + (j - q.len) by omega, h5.1, h5.2, hq.1]
            exact ⟨rfl, by omega⟩
    · rw [joinP_miss hq]
      refine ⟨?_, fun x hx => ?_⟩
      · rw [List.flatMap_append, h1, ← hcat]; simp
      · rcases List.mem_append.1 hx with hx | hx
        · exact h2 x hx
        · rw [List.mem_singleton.1 hx]; exact hp
theorem PInv.len {l : Layout} {off a : Int} {out : List Piece} (h : PInv l off a out) : out.length ≤ a.toNat := by
  obtain ⟨h1, h2⟩ := h
  have h3 := congrArg List.length h1
  rw [List.length_range] at h3
  rw [← h3]
  clear h1 h3
  induction out with
  | nil => simp
  | cons p out ih =>
    have := ih (fun q hq => h2 q (List.mem_cons_of_mem _ hq))
    have hp := (h2 p List.mem_cons_self).len
    rw [List.flatMap_cons, List.length_append, List.length_cons]
    have : p.idxs.length = p.len.toNat := by simp [Piece.idxs]
    omega
theorem PieceOk.bounds {l : Layout} {off : Int} {q : Piece} (h : l.May) (h0 : 0 ≤ off) (hq : PieceOk l off q) : 0 ≤ q.o ∧ 0 ≤ q.off ∧ q.off + q.len ≤ l.o := by
  have hl := hq.len
  have ha := hq.at0
  have h1 := hq.obj 0 (Int.le_refl _) (by omega)
  have h2 := hq.obj (q.len - 1) (by omega) (by omega)
  have b1 := back_place h (i := off + q.at_ + 0) (by omega)
  have b2 := back_place h (i := off + q.at_ + (q.len - 1)) (by omega)
  rw [h1.1, h1.2] at b1
  rw [h2.1, h2.2] at b2
  omega
theorem PInv.bounds {l : Layout} {off a : Int} {out : List Piece} (hi : PInv l off a out) (h : l.May) (h0 : 0 ≤ off) : ∀ q ∈ out, -1000000000000000 ≤ q.off ∧ q.off ≤ 1000000000000000 ∧ -100000 ≤ q.len ∧ q.len ≤ 100000 := by
  intro q hq
  have h1 := (hi.2 q hq).bounds h h0
  have h2 := (hi.2 q hq).len
  obtain ⟨q1, q2, q3, q4, q5, q6⟩ := h
  omega
theorem piecesGo_inv {l : Layout} {off n : Int} (h : l.May) (h0 : 0 ≤ off) : ∀ (f : Nat) (a : Int) (out : List Piece), 0 ≤ a → a ≤ n → n - a ≤ f → PInv l off a out → PInv l off n (piecesGo l off n f a out)
  | 0, a, out, h1, h2, h3, h4 => by
    have : a = n := by omega
    subst this; exact h4
  | f + 1, a, out, h1, h2, h3, h4 => by
    unfold piecesGo
    by_cases hn : a < n
    · rw [if_pos hn]
      obtain ⟨p1, p2⟩ := pieceAt_ok h h0 h1 hn
      have := p1.len
      exact piecesGo_inv h h0 f _ _ (by omega) p2 (by omega) (joinP_inv (n := n) h1 h4 p1 rfl)
    · rw [if_neg hn]
      have : a = n := by omega
      subst this; exact h4
theorem pieces_inv {l : Layout} {off n : Int} (h : l.May) (h0 : 0 ≤ off) (hn : 0 ≤ n) : PInv l off n (pieces l off n) :=
  piecesGo_inv h h0 _ _ _ (Int.le_refl _) hn (by omega) ⟨rfl, by simp⟩
end Go.Fx
set_option linter.unusedVariables false
namespace Go.Fx
open Go

/-! ### The parts of a span: an object's each -/
structure Part where
  o : Int
  off : Int
  n : Int
  ps : List Piece
abbrev Part.cells (p : Part) : List AV := [I p.o, I p.off, I p.n, .sl 4 (pieceRows p.ps)]
/-- A part whose pieces lie in memory of one's own. -/
structure PPart where
  d : Part
  A : Option Addr
  L : Nat
  C : Nat
instance : Inhabited PPart := ⟨⟨⟨0, 0, 0, []⟩, none, 0, 0⟩⟩
abbrev PPart.v (x : PPart) : Value := .slice x.A x.L x.C
abbrev PPart.cells (x : PPart) : List AV := [I x.d.o, I x.d.off, I x.d.n, .val x.v]
abbrev PPart.atom (x : PPart) : HA := .osl x.v 183 4 (pieceRows x.d.ps)
def PPart.enc (x : PPart) : List Value := [.int .i64 x.d.o, .int .i64 x.d.off, .int .i64 x.d.n, x.v]
abbrev ppRows (l : List PPart) : List (List AV) := l.map PPart.cells
theorem pp_flat : ∀ l : List PPart, (ppRows l).flatten = (l.flatMap PPart.enc).map AV.val
  | [] => rfl
  | x :: l => by
    have := pp_flat l
    show ((x :: l).map PPart.cells).flatten = _
    rw [List.map_cons, List.flatten_cons, List.flatMap_cons, List.map_append, this]; rfl
theorem AVs_vals {I : Imm} : ∀ {vs cs : List Value}, AVs I (vs.map AV.val) cs → cs = vs
  | [], [], _ => rfl
  | _ :: vs, _ :: cs, h => by rw [val_eq h.1, AVs_vals h.2]
  | [], _ :: _, h => h.elim
  | _ :: _, [], h => h.elim

/-! ### Grouping -/
def objIs (o : Int) (x : Part) : Bool := decide (x.o = o)
def addPiece (l : List Part) (p : Piece) : List Part :=
  match l[(idx (objIs p.o) l).toNat]? with
  | some x => if 0 ≤ idx (objIs p.o) l then l.set (idx (objIs p.o) l).toNat ⟨x.o, x.off, x.n + p.len, x.ps ++ [p]⟩ else l ++ [⟨p.o, p.off, p.len, [p]⟩]
  | none => l ++ [⟨p.o, p.off, p.len, [p]⟩]
def groupP (ps : List Piece) : List Part := ps.foldl addPiece []
def sumLen (l : List Piece) : Int := l.foldl (fun n p => n + p.len) 0
theorem sumLen_snoc (l : List Piece) (p : Piece) : sumLen (l ++ [p]) = sumLen l + p.len := by simp [sumLen]
theorem idx_spec {α : Type} {p : α → Bool} {l : List α} (h : 0 ≤ idx p l) : ∃ x, l[(idx p l).toNat]? = some x ∧ p x = true := by
  induction l with
  | nil => simp [idx] at h
  | cons y l ih =>
    unfold idx at h ⊢
    by_cases hy : p y = true
    · rw [if_pos hy]; exact ⟨y, rfl, hy⟩
    · rw [if_neg hy] at h ⊢
      by_cases h0 : idx p l < 0
      · rw [if_pos h0] at h; omega
      · rw [if_neg h0]
        obtain ⟨x, h1, h2⟩ := ih (by omega)
        refine ⟨x, ?_, h2⟩
        rw [show (idx p l + 1).toNat = (idx p l).toNat + 1 by omega]
        simpa using h1
/-- What the parts of some pieces are. -/
structure GInv (ps : List Piece) (l : List Part) : Prop where
  nodup : (l.map Part.o).Nodup
  part : ∀ x ∈ l, x.ps = ps.filter (fun p => decide (p.o = x.o)) ∧ x.ps ≠ [] ∧ x.n = sumLen x.ps ∧ ∀ p, x.ps.head? = some p → x.off = p.off
  all : ∀ p ∈ ps, ∃ x ∈ l, x.o = p.o
theorem addPiece_new {l : List Part} {p : Piece} (h : ¬ 0 ≤ idx (objIs p.o) l) : addPiece l p = l ++ [⟨p.o, p.off, p.len, [p]⟩] := by
  unfold addPiece
  split
  · rw [if_neg h]
  · rfl
theorem addPiece_old {l : List Part} {p : Piece} {x : Part} {k : Nat} (h : idx (objIs p.o) l = (k : Int)) (hx : l[k]? = some x) : addPiece l p = l.set k ⟨x.o, x.off, x.n + p.len, x.ps ++ [p]⟩ := by
  unfold addPiece
  rw [h, Int.toNat_natCast, hx]
  simp only
  rw [if_pos (by omega)]
theorem ginv_step {ps : List Piece} {l : List Part} {p : Piece} (h : GInv ps l) : GInv (ps ++ [p]) (addPiece l p) := by
  by_cases h0 : 0 ≤ idx (objIs p.o) l
  · obtain ⟨x, hx, hp⟩ := idx_spec h0
    obtain ⟨k, hk⟩ := Int.eq_ofNat_of_zero_le h0
    have hk' : idx (objIs p.o) l = (k : Int) := hk
    rw [hk', Int.toNat_natCast] at hx
    have hxo : x.o = p.o := by simpa [objIs] using hp
    rw [addPiece_old hk' hx]
    obtain ⟨hklt, hkx⟩ := List.getElem?_eq_some_iff.1 hx
    have hxm : x ∈ l := List.mem_of_getElem? hx
    obtain ⟨g1, g2, g3, g4⟩ := h.part x hxm
    have hmap : (l.set k ⟨x.o, x.off, x.n + p.len, x.ps ++ [p]⟩).map Part.o = l.map Part.o := by
      rw [List.map_set]
      apply List.ext_getElem
      · simp
      · intro i h1 h2
        rw [List.getElem_set]
        by_cases e : k = i
        · subst e; simp [hkx]
        · rw [if_neg e]
    refine ⟨by rw [hmap]; exact h.nodup, fun y hy => ?_, fun q hq => ?_⟩
    · obtain ⟨i, hi⟩ := List.getElem?_of_mem hy
      rw [List.getElem?_set] at hi
      by_cases e : k = i
      · rw [if_pos e, if_pos hklt] at hi
        injection hi with hi
        subst hi
        refine ⟨?_, by simp, ?_, ?_⟩
        · rw [List.filter_append, g1]
          congr 1
          simp [hxo]
        · show x.n + p.len = _; rw [sumLen_snoc, g3]
        · intro q hq
          refine g4 q ?_
          cases hps : x.ps with
          | nil => exact absurd hps g2
          | cons a tl =>
            change (x.ps ++ [p]).head? = some q at hq
            rw [hps] at hq
            exact hq
      · rw [if_neg e] at hi
        have hym := List.mem_of_getElem? hi
        obtain ⟨f1, f2, f3, f4⟩ := h.part y hym
        have hne : y.o ≠ p.o := by
          intro hyo
          obtain ⟨hil, hiy⟩ := List.getElem?_eq_some_iff.1 hi
          have hnd := h.nodup
          have := (List.getElem_inj (h₀ := by simpa using hil) (h₁ := by simpa using hklt) hnd (i := i) (j := k)).1 (by simp [hiy, hkx, hyo, hxo])
          exact e this.symm
        refine ⟨?_, f2, f3, f4⟩
        rw [List.filter_append, f1]
        simp [Ne.symm hne]
    · rcases List.mem_append.1 hq with hq | hq
      · obtain ⟨y, hy, hyo⟩ := h.all q hq
        have : q.o ∈ (l.set k ⟨x.o, x.off, x.n + p.len, x.ps ++ [p]⟩).map Part.o := by rw [hmap, ← hyo]; exact List.mem_map_of_mem hy
        obtain ⟨z, hz, hzo⟩ := List.mem_map.1 this
        exact ⟨z, hz, hzo⟩
      · rw [List.mem_singleton] at hq
        subst hq
        have : q.o ∈ (l.set k ⟨x.o, x.off, x.n + q.len, x.ps ++ [q]⟩).map Part.o := by rw [hmap, ← hxo]; exact List.mem_map_of_mem hxm
        obtain ⟨z, hz, hzo⟩ := List.mem_map.1 this
        exact ⟨z, hz, hzo⟩
  · rw [addPiece_new h0]
    have hno := idx_neg.1 h0
    have hno' : ∀ y ∈ l, y.o ≠ p.o := fun y hy e => by have := hno y hy; simp [objIs, e] at this
    refine ⟨?_, fun y hy => ?_, fun q hq => ?_⟩
    · rw [List.map_append, List.nodup_append]
      refine ⟨h.nodup, by simp, ?_⟩
      intro a ha b hb e
      simp at hb
      obtain ⟨y, hy, rfl⟩ := List.mem_map.1 ha
      exact hno' y hy (e.trans hb)
    · rcases List.mem_append.1 hy with hy | hy
      · obtain ⟨f1, f2, f3, f4⟩ := h.part y hy
        refine ⟨?_, f2, f3, f4⟩
        rw [List.filter_append, f1]
        simp [Ne.symm (hno' y hy)]
      · rw [List.mem_singleton] at hy
        subst hy
        refine ⟨?_, by simp, by simp [sumLen], by simp⟩
        rw [List.filter_append]
        have : ps.filter (fun q => decide (q.o = p.o)) = [] := by
          rw [List.filter_eq_nil_iff]
          intro q hq hqo
          obtain ⟨y, hy, hyo⟩ := h.all q hq
          exact hno' y hy (hyo.trans (by simpa using hqo))
        simp [this]
    · rcases List.mem_append.1 hq with hq | hq
      · obtain ⟨y, hy, hyo⟩ := h.all q hq
        exact ⟨y, by simp [hy], hyo⟩
      · rw [List.mem_singleton] at hq
        subst hq
        exact ⟨⟨q.o, q.off, q.len, [q]⟩, by simp, rfl⟩
theorem groupP_inv (ps : List Piece) : GInv ps (groupP ps) := by
  have key : ∀ (qs ps : List Piece) (l : List Part), GInv ps l → GInv (ps ++ qs) (qs.foldl addPiece l) := by
    intro qs
    induction qs with
    | nil => intro ps l h; simpa using h
    | cons q qs ih =>
      intro ps l h
      have := ih (ps ++ [q]) _ (ginv_step (p := q) h)
      simpa using this
  have := key ps [] [] ⟨by simp, by simp, by simp⟩
  simpa [groupP] using this
theorem groupP_snoc (ps : List Piece) (p : Piece) : groupP (ps ++ [p]) = addPiece (groupP ps) p := by simp [groupP]

/-! ### Sorted -/
/-- The part of an object, if there is one. -/
def partOf (ps : List Piece) (o : Int) : Option Part :=
  match ps.filter (fun p => decide (p.o = o)) with
  | [] => none
  | p :: r => some ⟨o, p.off, sumLen (p :: r), p :: r⟩
def partsL (ps : List Piece) : List Part := (List.range 512).filterMap fun o : Nat => partOf ps (o : Int)
theorem partOf_of {ps : List Piece} {l : List Part} (h : GInv ps l) {x : Part} (hx : x ∈ l) : partOf ps x.o = some x := by
  obtain ⟨g1, g2, g3, g4⟩ := h.part x hx
  unfold partOf
  rw [← g1]
  cases hp : x.ps with
  | nil => exact absurd hp g2
  | cons p r =>
    simp only
    rw [← hp, ← g3, ← g4 p (by simp [hp])]
theorem sorted_unique {α : Type} (key : α → Int) : ∀ (a b : List α), a.Pairwise (fun x y => key x < key y) → b.Pairwise (fun x y => key x < key y) → (∀ x, x ∈ a ↔ x ∈ b) → a = b
  | [], [], _, _, _ => rfl
  | [], y :: b, _, _, h => by have := (h y).2 (by simp); cases this
  | x :: a, [], _, _, h => by have := (h x).1 (by simp); cases this
  | x :: a, y :: b, ha, hb, h => by
    rw [List.pairwise_cons] at ha hb
    have hxy : x = y := by
      have h1 : x ∈ y :: b := (h x).1 (by simp)
      have h2 : y ∈ x :: a := (h y).2 (by simp)
      rcases List.mem_cons.1 h1 with e | h1
      · exact e
      · rcases List.mem_cons.1 h2 with e | h2
        · exact e.symm
        · have := ha.1 y h2; have := hb.1 x h1; omega
    subst hxy
    congr 1
    refine sorted_unique key a b ha.2 hb.2 fun z => ?_
    have hz := h z
    simp only [List.mem_cons] at hz
    constructor
    · intro hm
      rcases hz.1 (.inr hm) with rfl | hm'
      · have := ha.1 z hm; omega
      · exact hm'
    · intro hm
      rcases hz.2 (.inr hm) with rfl | hm'
      · have := hb.1 z hm; omega
      · exact hm'
theorem range_filterMap_pairwise {f : Nat → Option Part} (hf : ∀ i x, f i = some x → x.o = (i : Int)) : ∀ n, ((List.range n).filterMap f).Pairwise (fun x y => x.o < y.o)
  | 0 => by simp
  | n + 1 => by
    rw [List.range_succ, List.filterMap_append, List.pairwise_append]
    refine ⟨range_filterMap_pairwise hf n, ?_, fun x hx y hy => ?_⟩
    · cases h : f n <;> simp [h]
    · obtain ⟨i, hi, hix⟩ := List.mem_filterMap.1 hx
      obtain ⟨j, hj, hjy⟩ := List.mem_filterMap.1 hy
      rw [hf i x hix, hf j y hjy]
      have := List.mem_range.1 hi
      simp at hj
      omega
theorem partOf_o {ps : List Piece} {o : Int} {x : Part} (h : partOf ps o = some x) : x.o = o := by
  unfold partOf at h
  split at h
  · cases h
  · injection h with h; rw [← h]
theorem sorted_partsL {ps : List Piece} {l : List Part} (hb : ∀ p ∈ ps, 0 ≤ p.o ∧ p.o < 512) (hp : l.Perm (groupP ps)) (hs : l.Pairwise (fun x y => x.o ≤ y.o)) : l = partsL ps := by
  have hg := groupP_inv ps
  have hnd : (l.map Part.o).Nodup := ((hp.map Part.o).nodup_iff).2 hg.nodup
  have hss : l.Pairwise (fun x y => x.o < y.o) := by
    have h2 : l.Pairwise (fun x y => x.o ≠ y.o) := List.pairwise_map.1 hnd
    exact (hs.and h2).imp (fun h => by omega)
  have hps : (partsL ps).Pairwise (fun x y => x.o < y.o) := by
    unfold partsL
    exact range_filterMap_pairwise (f := fun o : Nat => partOf ps (o : Int)) (fun i x h => partOf_o h) _
  refine sorted_unique Part.o _ _ hss hps fun x => ?_
  constructor
  · intro hx
    have hx' := hp.mem_iff.1 hx
    have ho := partOf_of hg hx'
    obtain ⟨g1, g2, _, _⟩ := hg.part x hx'
    have hxb : 0 ≤ x.o ∧ x.o < 512 := by
      cases hps : x.ps with
      | nil => exact absurd hps g2
      | cons p r =>
        have hm : p ∈ ps.filter (fun p => decide (p.o = x.o)) := by rw [← g1, hps]; simp
        have h1 := List.mem_filter.1 hm
        have h2 : p.o = x.o := by simpa using h1.2
        rw [← h2]; exact hb p h1.1
    unfold partsL
    refine List.mem_filterMap.2 ⟨x.o.toNat, List.mem_range.2 (by omega), ?_⟩
    rw [Int.toNat_of_nonneg hxb.1]; exact ho
  · intro hx
    unfold partsL at hx
    obtain ⟨i, _, hi⟩ := List.mem_filterMap.1 hx
    have hxo := partOf_o hi
    have : ∃ p ∈ ps, p.o = (i : Int) := by
      unfold partOf at hi
      split at hi
      · cases hi
      · rename_i p r hpr
        have hm : p ∈ ps.filter (fun p => decide (p.o = (i : Int))) := by rw [hpr]; simp
        have h1 := List.mem_filter.1 hm
        exact ⟨p, h1.1, by simpa using h1.2⟩
    obtain ⟨p, hpm, hpo⟩ := this
    obtain ⟨y, hy, hyo⟩ := hg.all p hpm
    have h3 := partOf_of hg hy
    rw [hyo, hpo, hi] at h3
    have h4 : x = y := Option.some.inj h3
    rw [h4]
    exact hp.mem_iff.2 hy
end Go.Fx
set_option linter.unusedVariables false
namespace Go.Fx
open Go

/-! ### A plan on its way -/
def opBelow (n : Int) : Op := ⟨4, 0, n, [], []⟩
def opSeq (n : Int) : Op := ⟨12, 0, n, [], []⟩
def opClone (name : List UInt8) : Op := ⟨11, 0, 0, name, []⟩
def opKey (name data : List UInt8) : Op := ⟨9, 0, 0, name, data⟩
def opWrite (off : Int) (data : List UInt8) : Op := ⟨5, off, 0, [], data⟩
def aheadOf (h : Head) (e : Entry) : List Op := opBelow e.seq :: (if 0 < h.newest then [opClone (markName h.newest)] else [])
theorem aheadOf_len (h : Head) (e : Entry) : (aheadOf h e).length ≤ 2 := by unfold aheadOf; split <;> simp
def stepTxn (image : Int) (ahead : List Op) (e : Entry) (n : Int) (ops : List Op) : Txn := ⟨dataName image n, [ahead, ops, [opSeq e.seq]].flatten⟩
def Head.setMap (h : Head) (n state : Int) : Head := ⟨h.layout, h.size, setL h.map n state, h.snaps, h.last, h.seq⟩
abbrev workCells (was h : Head) (e : Entry) (v fn : Value) : List AV :=
  [I was.layout.u, I was.layout.c, I was.layout.o, I was.size, ints was.map, .sl 3 (snapRows was.snaps), I was.last, I was.seq,
   I h.layout.u, I h.layout.c, I h.layout.o, I h.size, ints h.map, .sl 3 (snapRows h.snaps), I h.last, I h.seq,
   I e.seq, I e.owner, I e.kind, I e.off, I e.len, I e.snap, bytes e.data, .val v, .val fn]
/-- The block that a closure has hold of. -/
def capB (fn : Value) (i : Nat) : Nat := match fn with | .func _ _ caps => (match caps[i]? with | some (.pointer (some a)) => a.block | _ => 0) | _ => 0
abbrev stepFn (ba be bw bi : Nat) : Value := .func (.func 126) ([] : List Value).toArray [Value.pointer (some ⟨ba, 0, none⟩), .pointer (some ⟨be, 0, none⟩), .pointer (some ⟨bw, 0, none⟩), .pointer (some ⟨bi, 0, none⟩)].toArray
/-- A step: which object, its state then, what is done. -/
structure Step where
  n : Int
  state : Int
  ops : List Op
def takeStep (image : Int) (ahead : List Op) (e : Entry) (x : Head × List Txn) (s : Step) : Head × List Txn := (x.1.setMap s.n s.state, x.2 ++ [stepTxn image ahead e s.n s.ops])
def takeSteps (image : Int) (ahead : List Op) (e : Entry) (x : Head × List Txn) (l : List Step) : Head × List Txn := l.foldl (takeStep image ahead e) x
theorem takeSteps_snoc {image : Int} {ahead : List Op} {e : Entry} {x : Head × List Txn} {l : List Step} {s : Step} : takeSteps image ahead e x (l ++ [s]) = takeStep image ahead e (takeSteps image ahead e x l) s := by
  unfold takeSteps; rw [List.foldl_append]; rfl
theorem takeSteps_len {image : Int} {ahead : List Op} {e : Entry} : ∀ (l : List Step) (x : Head × List Txn), (takeSteps image ahead e x l).2.length = x.2.length + l.length
  | [], x => by simp [takeSteps]
  | s :: l, x => by
    have := takeSteps_len (image := image) (ahead := ahead) (e := e) l (takeStep image ahead e x s)
    unfold takeSteps at this ⊢
    rw [List.foldl_cons, this]
    simp [takeStep]; omega

/-! ### What the parts' pieces are -/
theorem PInv.atn {l : Layout} {off a : Int} {out : List Piece} (h : PInv l off a out) (ha : 0 ≤ a) : ∀ q ∈ out, q.at_ + q.len ≤ a := by
  intro q hq
  have h1 := (h.2 q hq).len
  have h2 := (h.2 q hq).at0
  have : q.at_.toNat + (q.len.toNat - 1) ∈ out.flatMap Piece.idxs := List.mem_flatMap.2 ⟨q, hq, List.mem_map.2 ⟨q.len.toNat - 1, List.mem_range.2 (by omega), rfl⟩⟩
  rw [h.1, List.mem_range] at this
  omega
theorem partsL_mem {ps : List Piece} {p : Part} (h : p ∈ partsL ps) : 0 ≤ p.o ∧ p.o < 512 ∧ p.ps = ps.filter (fun q => decide (q.o = p.o)) ∧ p.ps ≠ [] ∧ p.n = sumLen p.ps ∧ (∀ q, p.ps.head? = some q → p.off = q.off) := by
  unfold partsL at h
  obtain ⟨i, hi, hp⟩ := List.mem_filterMap.1 h
  have hi := List.mem_range.1 hi
  have ho := partOf_o hp
  unfold partOf at hp
  split at hp
  · cases hp
  · rename_i q r hf
    injection hp with hp
    subst hp
    exact ⟨by simp, by simp; omega, hf.symm, by simp, rfl, fun q hq => by simp at hq; rw [hq]⟩
theorem partsL_piece {ps : List Piece} {p : Part} (h : p ∈ partsL ps) {q : Piece} (hq : q ∈ p.ps) : q ∈ ps ∧ q.o = p.o := by
  obtain ⟨_, _, h1, _⟩ := partsL_mem h
  rw [h1] at hq
  have := List.mem_filter.1 hq
  exact ⟨this.1, by simpa using this.2⟩
theorem partsL_plen {ps : List Piece} {p : Part} (h : p ∈ partsL ps) : p.ps.length ≤ ps.length := by
  obtain ⟨_, _, h1, _⟩ := partsL_mem h
  rw [h1]; exact List.length_filter_le _ _
theorem partsL_len (ps : List Piece) : (partsL ps).length ≤ 512 := by
  have := List.length_filterMap_le (fun o : Nat => partOf ps (o : Int)) (List.range 512)
  simpa [partsL] using this

/-! ### A write's steps -/
def cutB (data : List UInt8) (l h : Int) : List UInt8 := (data.take h.toNat).drop l.toNat
def partData (data : List UInt8) (ps : List Piece) : List UInt8 := ps.flatMap fun x => cutB data x.at_ (x.at_ + x.len)
theorem partData_take {data : List UInt8} {ps : List Piece} {k : Nat} {x : Piece} (h : ps[k]? = some x) : partData data (ps.take (k + 1)) = partData data (ps.take k) ++ cutB data x.at_ (x.at_ + x.len) := by
  unfold partData
  rw [List.take_add_one, h]; simp
theorem cutB_le (data : List UInt8) (l h : Int) : (cutB data l h).length ≤ data.length := by unfold cutB; simp; omega
theorem partData_le (data : List UInt8) (ps : List Piece) (k : Nat) : (partData data (ps.take k)).length ≤ data.length * k := by
  induction k with
  | zero => simp [partData]
  | succ k ih =>
    rcases Nat.lt_or_ge k ps.length with h | h
    · obtain ⟨x, hx⟩ := lget h
      rw [partData_take hx, List.length_append, Nat.mul_succ]
      have := cutB_le data x.at_ (x.at_ + x.len)
      omega
    · rw [List.take_of_length_le (by omega)]; rw [List.take_of_length_le h] at ih; rw [Nat.mul_succ]; omega
def writeStep (e : Entry) (p : Part) : Step := ⟨p.o, 1, [opWrite p.off (partData e.data p.ps)]⟩
def writeParts (was : Head) (e : Entry) : List Part := partsL (pieces was.layout e.off e.data.length)
def writeSteps (was : Head) (e : Entry) : List Step := (writeParts was e).map (writeStep e)
theorem takeSteps_take {α : Type} {image : Int} {ahead : List Op} {e : Entry} {x : Head × List Txn} {l : List α} {f : α → Step} {k : Nat} {p : α} (h : l[k]? = some p) :
    takeSteps image ahead e x ((l.take (k + 1)).map f) = takeStep image ahead e (takeSteps image ahead e x ((l.take k).map f)) (f p) := by
  rw [List.take_add_one, h]; simp [takeSteps_snoc]
def writeTo (image : Int) (was : Head) (e : Entry) (k : Nat) : Head × List Txn := takeSteps image (aheadOf was e) e (was, []) (((writeParts was e).take k).map (writeStep e))
theorem writeTo_zero {image : Int} {was : Head} {e : Entry} : writeTo image was e 0 = (was, []) := rfl
theorem writeTo_succ {image : Int} {was : Head} {e : Entry} {k : Nat} {p : Part} (h : (writeParts was e)[k]? = some p) :
    writeTo image was e (k + 1) = ((writeTo image was e k).1.setMap p.o 1, (writeTo image was e k).2 ++ [stepTxn image (aheadOf was e) e p.o [opWrite p.off (partData e.data p.ps)]]) := takeSteps_take h
theorem writeTo_len (image : Int) (was : Head) (e : Entry) (k : Nat) : (writeTo image was e k).2.length ≤ 512 := by
  unfold writeTo
  rw [takeSteps_len]
  have := partsL_len (pieces was.layout e.off e.data.length)
  simp [writeParts]; omega
/-- What a write comes to: its error, the head, the transactions. -/
def writeOut (image : Int) (was : Head) (e : Entry) : Int × Head × List Txn := if was.size < e.off + (e.data.length : Int) then (180, was, []) else (0, writeTo image was e (writeParts was e).length)
end Go.Fx
set_option linter.unusedVariables false
namespace Go.Fx
open Go

/-! ### What an operation comes to -/
theorem headB_len {h : Head} (hm : h.May) : (headB h).length ≤ 400000 := by
  have h1 := headPre_len h
  have h2 := snapsB_len h.snaps
  have h3 : h.snaps.length ≤ 4 := hm.2.2.1
  unfold headB
  rw [List.length_append]
  omega
def packOf (h : Head) : List UInt8 := if h.May then headB h else []
theorem packOf_len (h : Head) : (packOf h).length ≤ 400000 := by
  unfold packOf
  split
  · exact headB_len (by assumption)
  · simp
def headKey' : List UInt8 := [104, 101, 97, 100]
def Head.setSeq (h : Head) (n : Int) : Head := ⟨h.layout, h.size, h.map, h.snaps, h.last, n⟩
def lastTxn (image : Int) (e : Entry) (b : List UInt8) : Txn := ⟨headName image, [opBelow e.seq, opKey headKey' b, opSeq e.seq]⟩
/-- Behind the work: the head packed and unpacked, the last transaction. -/
def doneOut (image : Int) (e : Entry) (g : Head) (l : List Txn) : Head × List Txn × Int := ((headUnpack (packOf (g.setSeq e.seq))).1, l ++ [lastTxn image e (packOf (g.setSeq e.seq))], (headUnpack (packOf (g.setSeq e.seq))).2)
end Go.Fx
set_option linter.unusedVariables false
namespace Go.Fx
open Go Go.Proofs

/-! ### The document's example, reckoned -/
def h0 : Head := ⟨⟨2, 2, 4⟩, 8, [], [], 0, 0⟩
def e0 : Entry := ⟨1, 0, 1, 1, 0, 0, [97, 98, 99]⟩
def g1 : Head := ⟨⟨2, 2, 4⟩, 8, [1, 1], [], 0, 0⟩
def g2 : Head := ⟨⟨2, 2, 4⟩, 8, [1, 1], [], 0, 1⟩
def t1 : Txn := ⟨[100, 51, 46, 48], [⟨4, 0, 1, [], []⟩, ⟨5, 1, 0, [], [97]⟩, ⟨12, 0, 1, [], []⟩]⟩
def t2 : Txn := ⟨[100, 51, 46, 49], [⟨4, 0, 1, [], []⟩, ⟨5, 0, 0, [], [98, 99]⟩, ⟨12, 0, 1, [], []⟩]⟩
def t3 : Txn := ⟨[104, 51], [⟨4, 0, 1, [], []⟩, ⟨9, 0, 0, [104, 101, 97, 100], headB g2⟩, ⟨12, 0, 1, [], []⟩]⟩
theorem h0_may : h0.May := by decide
theorem g2_may : g2.May := by decide
theorem e0_may : e0.May := by decide
theorem e0_clean : e0.clean = e0 := by rfl
theorem do0 : writeTo 3 h0 e0 (writeParts h0 e0).length = (g1, [t1, t2]) := by kernel_rfl
theorem pack0 : packOf (g1.setSeq e0.seq) = headB g2 := if_pos g2_may
theorem done0 : doneOut 3 e0 g1 [t1, t2] = (g2, [t1, t2, t3], 0) := by
  unfold doneOut
  rw [pack0, headUnpack_headB g2_may]
  rfl
end Go.Fx
