/- Rules for walks, pure facts of the program, contracts of its functions: FxLaid FxCore FxStep FxOps FxMem FxOwn FxRow FxMake FxCut. -/
import GoSem.Core.Value
import Derived.WalkKit
import Derived.WalkLawsBesides
import Derived.WalkSpells
import Derived.Deep.Draws
import Derived.IntWalk
namespace Go.Fx
open Go
/-- The package-level variables whose contents are known, each with its cells: terrazzo/entry.names, internal/strconv.uint64pow10. -/
def laidCells : List (Nat × List Value) := [
  (0, [.int .i64 0, .int .i64 9, .int .i64 3, .int .i64 2, .int .i64 0, .int .i64 4, .int .i64 4]),
  (2, [.int .u64 1, .int .u64 10, .int .u64 100, .int .u64 1000, .int .u64 10000, .int .u64 100000, .int .u64 1000000, .int .u64 10000000, .int .u64 100000000, .int .u64 1000000000, .int .u64 10000000000, .int .u64 100000000000, .int .u64 1000000000000, .int .u64 10000000000000, .int .u64 100000000000000, .int .u64 1000000000000000, .int .u64 10000000000000000, .int .u64 100000000000000000, .int .u64 1000000000000000000, .int .u64 10000000000000000000])]
end Go.Fx
set_option linter.unusedVariables false
set_option linter.unusedSimpArgs false
namespace Go.Fx
open Go

/-! ### What is immutable: the contents of blocks that are never written again; and the world in which all began -/
structure Imm where
  base : World
  m : Nat → Option Obj
  /-- The package-level variables that are known hold what they are known to hold. -/
  laid : ∀ x ∈ laidCells, ∃ c t fr, m x.1 = some (.cells c t fr) ∧ c.toList = x.2

def Imm.le (I J : Imm) : Prop := I.base = J.base ∧ ∀ b o, I.m b = some o → J.m b = some o
instance : LE Imm := ⟨Imm.le⟩
theorem Imm.le_refl (I : Imm) : I ≤ I := ⟨rfl, fun _ _ h => h⟩
theorem Imm.le_trans {I J K : Imm} (h : I ≤ J) (k : J ≤ K) : I ≤ K := ⟨h.1.trans k.1, fun b o e => k.2 b o (h.2 b o e)⟩

/-! ### Values as data -/
/-- What a value is, as data, by what is immutable. -/
structure AV where
  p : Imm → Value → Prop
  mono : ∀ {I J : Imm} {v : Value}, I ≤ J → p I v → p J v

/-- This very value. -/
def AV.val (v : Value) : AV := ⟨fun _ x => x = v, fun _ h => h⟩

/-- Cells, one by one. -/
def AVs (I : Imm) : List AV → List Value → Prop
  | [], [] => True
  | a :: as, c :: cs => a.p I c ∧ AVs I as cs
  | _, _ => False

theorem AVs.mono {I J : Imm} (h : I ≤ J) : ∀ {l : List AV} {cs : List Value}, AVs I l cs → AVs J l cs
  | [], [], _ => trivial
  | a :: _, _ :: _, k => ⟨a.mono h k.1, AVs.mono h k.2⟩
  | [], _ :: _, k => k.elim
  | _ :: _, [], k => k.elim

theorem AVs.length {I : Imm} : ∀ {l : List AV} {cs : List Value}, AVs I l cs → cs.length = l.length
  | [], [], _ => rfl
  | _ :: _, _ :: _, k => by simp [AVs.length k.2]
  | [], _ :: _, k => k.elim
  | _ :: _, [], k => k.elim

theorem AVs.append {I : Imm} : ∀ {l : List AV} {cs : List Value} {l' : List AV} {cs' : List Value}, AVs I l cs → AVs I l' cs' → AVs I (l ++ l') (cs ++ cs')
  | [], [], _, _, _, k => k
  | _ :: _, _ :: _, _, _, h, k => ⟨h.1, AVs.append h.2 k⟩
  | [], _ :: _, _, _, h, _ => h.elim
  | _ :: _, [], _, _, h, _ => h.elim

theorem AVs.split {I : Imm} : ∀ {l l' : List AV} {cs : List Value}, AVs I (l ++ l') cs → ∃ c1 c2, cs = c1 ++ c2 ∧ AVs I l c1 ∧ AVs I l' c2
  | [], _, cs, h => ⟨[], cs, rfl, trivial, h⟩
  | a :: l, l', c :: cs, h => by
    obtain ⟨c1, c2, rfl, h1, h2⟩ := AVs.split (l := l) h.2
    exact ⟨c :: c1, c2, rfl, ⟨h.1, h1⟩, h2⟩
  | _ :: _, _, [], h => h.elim

theorem AVs.get {I : Imm} : ∀ {l : List AV} {cs : List Value}, AVs I l cs → ∀ (j : Nat) (a : AV), l[j]? = some a → ∃ c, cs[j]? = some c ∧ a.p I c
  | [], [], _, j, a, h => by simp at h
  | x :: l, c :: cs, k, 0, a, h => by simp at h; subst h; exact ⟨c, rfl, k.1⟩
  | x :: l, c :: cs, k, j + 1, a, h => by simp at h; simpa using AVs.get k.2 j a h
  | [], _ :: _, k, _, _, _ => k.elim
  | _ :: _, [], k, _, _, _ => k.elim

theorem AVs.drop {I : Imm} : ∀ {l : List AV} {cs : List Value} (n : Nat), AVs I l cs → AVs I (l.drop n) (cs.drop n)
  | _, _, 0, h => by simpa using h
  | [], [], n + 1, h => by simpa using h
  | _ :: _, _ :: _, n + 1, h => by simpa using AVs.drop n h.2
  | [], _ :: _, _ + 1, h => h.elim
  | _ :: _, [], _ + 1, h => h.elim

theorem AVs.take {I : Imm} : ∀ {l : List AV} {cs : List Value} (n : Nat), AVs I l cs → AVs I (l.take n) (cs.take n)
  | _, _, 0, h => by simp [AVs]
  | [], [], n + 1, h => by simpa using h
  | _ :: _, _ :: _, n + 1, h => by simpa using ⟨h.1, AVs.take n h.2⟩
  | [], _ :: _, _ + 1, h => h.elim
  | _ :: _, [], _ + 1, h => h.elim

theorem AVs.of_get {I : Imm} : ∀ {l : List AV} {cs : List Value}, cs.length = l.length → (∀ (j : Nat) (a : AV) (c : Value), l[j]? = some a → cs[j]? = some c → a.p I c) → AVs I l cs
  | [], [], _, _ => trivial
  | x :: l, c :: cs, h, k => ⟨k 0 x c rfl rfl, AVs.of_get (by simpa using h) (fun j a d ha hd => k (j + 1) a d (by simpa using ha) (by simpa using hd))⟩
  | [], _ :: _, h, _ => by simp at h
  | _ :: _, [], h, _ => by simp at h

theorem AVs.vals {I : Imm} : ∀ (cs : List Value), AVs I (cs.map AV.val) cs
  | [] => trivial
  | _ :: cs => ⟨rfl, AVs.vals cs⟩

/-- The cells of memory, or of a struct: each is one. -/
def Cells (I : Imm) (l : List AV) (cs : List Value) : Prop := AVs I l cs ∧ ∀ c ∈ cs, c.oneCell' = true
theorem Cells.nil (I : Imm) : Cells I [] [] := ⟨trivial, by simp⟩
theorem Cells.mono {I J : Imm} (h : I ≤ J) {l : List AV} {cs : List Value} (k : Cells I l cs) : Cells J l cs := ⟨k.1.mono h, k.2⟩
theorem Cells.length {I : Imm} {l : List AV} {cs : List Value} (k : Cells I l cs) : cs.length = l.length := k.1.length
theorem Cells.append {I : Imm} {l l' : List AV} {cs cs' : List Value} (h : Cells I l cs) (k : Cells I l' cs') : Cells I (l ++ l') (cs ++ cs') :=
  ⟨h.1.append k.1, fun c hc => (List.mem_append.1 hc).elim (h.2 c) (k.2 c)⟩
theorem Cells.drop {I : Imm} {l : List AV} {cs : List Value} (n : Nat) (h : Cells I l cs) : Cells I (l.drop n) (cs.drop n) := ⟨h.1.drop n, fun c hc => h.2 c (List.mem_of_mem_drop hc)⟩
theorem Cells.take {I : Imm} {l : List AV} {cs : List Value} (n : Nat) (h : Cells I l cs) : Cells I (l.take n) (cs.take n) := ⟨h.1.take n, fun c hc => h.2 c (List.mem_of_mem_take hc)⟩
theorem Cells.get {I : Imm} {l : List AV} {cs : List Value} (h : Cells I l cs) (j : Nat) (a : AV) (e : l[j]? = some a) : ∃ c, cs[j]? = some c ∧ a.p I c ∧ c.oneCell' = true :=
  let ⟨c, h1, h2⟩ := h.1.get j a e; ⟨c, h1, h2, h.2 c (List.mem_of_getElem? h1)⟩
theorem Cells.one {I : Imm} {a : AV} {v : Value} (h : a.p I v) (h1 : v.oneCell' = true) : Cells I [a] [v] := ⟨⟨h, trivial⟩, by simpa using h1⟩
theorem Cells.set {I : Imm} {l : List AV} {cs : List Value} (h : Cells I l cs) (j : Nat) {a : AV} {v : Value} (ha : a.p I v) (h1 : v.oneCell' = true) : Cells I (l.set j a) (cs.set j v) := by
  refine ⟨AVs.of_get (by simp [h.length]) (fun i b c hb hc => ?_), fun c hc => ?_⟩
  · rw [List.getElem?_set] at hb hc
    by_cases e : j = i
    · subst e
      rw [if_pos rfl] at hb hc
      split at hb
      · split at hc
        · injection hb with hb; injection hc with hc; subst hb; subst hc; exact ha
        · cases hc
      · cases hb
    · rw [if_neg e] at hb hc
      obtain ⟨c', h2, h3⟩ := h.1.get i b hb
      rw [h2] at hc
      injection hc with hc
      subst hc
      exact h3
  · rcases List.mem_or_eq_of_mem_set hc with hc | rfl
    · exact h.2 c hc
    · exact h1

/-- A struct (or an array) by value. -/
def AV.agg (l : List AV) : AV := ⟨fun I v => ∃ cs : List Value, v = .agg cs.toArray ∧ Cells I l cs, fun h ⟨cs, e, k⟩ => ⟨cs, e, k.mono h⟩⟩
/-- Several results. -/
def AV.tup (l : List AV) : AV := ⟨fun I v => ∃ cs : List Value, v = .tuple cs.toArray ∧ AVs I l cs, fun h ⟨cs, e, k⟩ => ⟨cs, e, k.mono h⟩⟩

/-- Immutable memory from an address on. -/
def At (I : Imm) (a : Addr) (l : List AV) : Prop :=
  a.spot = none ∧ ∃ c t fr cs, I.m a.block = some (.cells c t fr) ∧ Cells I l cs ∧ ∀ (j : Nat) (v : Value), cs[j]? = some v → c[a.off + j]? = some v

theorem At.mono {I J : Imm} (h : I ≤ J) {a : Addr} {l : List AV} (k : At I a l) : At J a l := by
  obtain ⟨hs, c, t, fr, cs, hm, ha, hc⟩ := k
  exact ⟨hs, c, t, fr, cs, h.2 _ _ hm, ha.mono h, hc⟩

/-- A package-level variable that is known. -/
theorem At.laid (I : Imm) {g : Nat} {cs : List Value} (h : (g, cs) ∈ laidCells) (h1 : ∀ c ∈ cs, c.oneCell' = true) : At I ⟨g, 0, none⟩ (cs.map .val) := by
  obtain ⟨c, t, fr, e, hc⟩ := I.laid _ h
  refine ⟨rfl, c, t, fr, cs, e, ⟨AVs.vals cs, h1⟩, fun j v hv => ?_⟩
  simp only at hc
  rw [← hc] at hv
  simpa using hv

/-- A pointer into immutable memory. -/
def AV.addr (l : List AV) : AV := ⟨fun I v => ∃ a, v = .pointer (some a) ∧ At I a l, fun h ⟨a, e, k⟩ => ⟨a, e, k.mono h⟩⟩

/-- A slice whose elements are immutable: each element's cells. -/
def AV.sl (n : Nat) (rows : List (List AV)) : AV :=
  ⟨fun I v => ∃ A cap, v = .slice A rows.length cap ∧ rows.length ≤ cap ∧ cap ≤ 9223372036854775807 ∧ (∀ r ∈ rows, r.length = n) ∧ (rows ≠ [] → ∃ a, A = some a ∧ At I a rows.flatten),
   fun h ⟨A, cap, e, hl, hm, hn, k⟩ => ⟨A, cap, e, hl, hm, hn, fun hr => let ⟨a, ea, ha⟩ := k hr; ⟨a, ea, ha.mono h⟩⟩⟩
/-- The same, and it isn't nil. -/
def AV.slS (n : Nat) (rows : List (List AV)) : AV :=
  ⟨fun I v => (AV.sl n rows).p I v ∧ ∃ a l c, v = .slice (some a) l c, fun h ⟨k, e⟩ => ⟨(AV.sl n rows).mono h k, e⟩⟩

theorem sl_of_slS {I : Imm} {n : Nat} {rows : List (List AV)} {v : Value} (h : (AV.slS n rows).p I v) : (AV.sl n rows).p I v := h.1
theorem sl_nil (I : Imm) (n : Nat) : (AV.sl n []).p I (.slice none 0 0) := ⟨none, 0, rfl, Nat.le_refl _, by omega, by simp, fun h => (h rfl).elim⟩

/-! ### Memory of one's own -/
abbrev Frag := List (Nat × Obj)
structure HA where
  p : Imm → Frag → Prop
  mono : ∀ {I J : Imm} {h : Frag}, I ≤ J → p I h → p J h

/-- A variable: its cells. -/
def HA.box (b : Nat) (ty : TypeId) (l : List AV) : HA :=
  ⟨fun I h => ∃ cs : List Value, h = [(b, .cells cs.toArray ty (0, 0))] ∧ Cells I l cs, fun h ⟨cs, e, k⟩ => ⟨cs, e, k.mono h⟩⟩
/-- A whole object. -/
def HA.obj (b : Nat) (o : Obj) : HA := ⟨fun _ h => h = [(b, o)], fun _ h => h⟩

/-- The row that a slice of the call's own has. -/
def OwnP (I : Imm) (v : Value) (e : TypeId) (n : Nat) (rows : List (List AV)) (h : Frag) : Prop :=
  (∃ A, v = .slice A 0 0 ∧ rows = [] ∧ h = []) ∨
  ∃ b cap cs, h = [(b, .cells cs e (0, 0))] ∧ v = .slice (some ⟨b, 0, none⟩) rows.length cap ∧ rows.length ≤ cap ∧ cap ≤ 9223372036854775807 ∧ cap * n ≤ cs.size ∧
    Cells I rows.flatten (cs.toList.take (rows.length * n)) ∧ ∀ r ∈ rows, r.length = n
/-- A slice of the call's own: its row may be written and appended to. -/
def HA.osl (v : Value) (e : TypeId) (n : Nat) (rows : List (List AV)) : HA :=
  ⟨fun I h => OwnP I v e n rows h, fun h k => by
    rcases k with k | ⟨b, cap, cs, e1, e2, e3, e4, e5, e6, e7⟩
    · exact .inl k
    · exact .inr ⟨b, cap, cs, e1, e2, e3, e4, e5, e6.mono h, e7⟩⟩

def Sat (I : Imm) : List HA → Frag → Prop
  | [], h => h = []
  | A :: H, h => ∃ h1 h2, h = h1 ++ h2 ∧ A.p I h1 ∧ Sat I H h2

theorem Sat.mono {I J : Imm} (hl : I ≤ J) : ∀ {H : List HA} {h : Frag}, Sat I H h → Sat J H h
  | [], _, k => k
  | A :: _, _, ⟨h1, h2, e, k1, k2⟩ => ⟨h1, h2, e, A.mono hl k1, k2.mono hl⟩

theorem Sat.append {I : Imm} : ∀ {H H' : List HA} {h h' : Frag}, Sat I H h → Sat I H' h' → Sat I (H ++ H') (h ++ h')
  | [], _, _, _, k, k' => by cases k; exact k'
  | _ :: _, _, _, _, ⟨h1, h2, e, k1, k2⟩, k' => ⟨h1, h2 ++ _, by rw [e, List.append_assoc], k1, k2.append k'⟩

/-- A frag lies in a world, apart from all that is immutable. -/
def Lies (I : Imm) (w : World) (h : Frag) : Prop := (h.map Prod.fst).Nodup ∧ ∀ x ∈ h, w.heap[x.1]? = some x.2 ∧ I.m x.1 = none

structure Ok (I : Imm) (H : List HA) (w : World) : Prop where
  os : w.os = I.base.os
  tape : w.tape = I.base.tape
  output : w.output = I.base.output
  imm : ∀ (b : Nat) (o : Obj), I.m b = some o → w.heap[b]? = some o
  own : ∃ h, Sat I H h ∧ Lies I w h

theorem Lies.perm {I : Imm} {w : World} {h h' : Frag} (hp : h.Perm h') (k : Lies I w h) : Lies I w h' :=
  ⟨((hp.map Prod.fst).nodup_iff).1 k.1, fun x hx => k.2 x (hp.mem_iff.2 hx)⟩

theorem Sat.perm {I : Imm} {H H' : List HA} (hp : H.Perm H') : ∀ {h : Frag}, Sat I H h → ∃ h', h.Perm h' ∧ Sat I H' h' := by
  induction hp with
  | nil => intro h k; exact ⟨h, .refl _, k⟩
  | cons A _ ih =>
    rintro h ⟨h1, h2, rfl, k1, k2⟩
    obtain ⟨h3, hp, k3⟩ := ih k2
    exact ⟨h1 ++ h3, List.Perm.append_left _ hp, h1, h3, rfl, k1, k3⟩
  | swap A B l =>
    rintro h ⟨h1, h2, rfl, k1, h3, h4, rfl, k3, k4⟩
    refine ⟨h3 ++ (h1 ++ h4), ?_, h3, h1 ++ h4, rfl, k3, h1, h4, rfl, k1, k4⟩
    rw [← List.append_assoc, ← List.append_assoc]
    exact List.Perm.append_right _ List.perm_append_comm
  | trans _ _ ih1 ih2 =>
    intro h k
    obtain ⟨h1, p1, k1⟩ := ih1 k
    obtain ⟨h2, p2, k2⟩ := ih2 k1
    exact ⟨h2, p1.trans p2, k2⟩

theorem Ok.perm {I : Imm} {H H' : List HA} {w : World} (hp : H.Perm H') (k : Ok I H w) : Ok I H' w := by
  obtain ⟨h, hs, hl⟩ := k.own
  obtain ⟨h', p, hs'⟩ := hs.perm hp
  exact ⟨k.os, k.tape, k.output, k.imm, h', hs', hl.perm p⟩

theorem Lies.right {I : Imm} {w : World} {h1 h2 : Frag} (k : Lies I w (h1 ++ h2)) : Lies I w h2 := by
  refine ⟨?_, fun x hx => k.2 x (by simp [hx])⟩
  have := k.1
  rw [List.map_append] at this
  exact (List.nodup_append.1 this).2.1
theorem Lies.left {I : Imm} {w : World} {h1 h2 : Frag} (k : Lies I w (h1 ++ h2)) : Lies I w h1 := by
  refine ⟨?_, fun x hx => k.2 x (by simp [hx])⟩
  have := k.1
  rw [List.map_append] at this
  exact (List.nodup_append.1 this).1

/-- What isn't wanted any more is dropped. -/
theorem Ok.drop {I : Imm} {A : HA} {H : List HA} {w : World} (k : Ok I (A :: H) w) : Ok I H w := by
  obtain ⟨h, ⟨h1, h2, rfl, _, k2⟩, hl⟩ := k.own
  exact ⟨k.os, k.tape, k.output, k.imm, h2, k2, hl.right⟩

theorem Ok.dropN {I : Imm} {w : World} : ∀ (n : Nat) {H : List HA}, Ok I H w → Ok I (H.drop n) w
  | 0, _, k => by simpa using k
  | _ + 1, [], k => by simpa using k
  | n + 1, _ :: _, k => by simpa using Ok.dropN n k.drop

/-- The world has drawn. -/
theorem Ok.drewN {I : Imm} {H : List HA} {w : World} (k : Ok I H w) (n : Nat) : Ok I H (w.drewN n) := ⟨k.os, k.tape, k.output, k.imm, k.own⟩
theorem Ok.drew {I : Imm} {H : List HA} {w : World} (k : Ok I H w) : Ok I H w.drew := ⟨k.os, k.tape, k.output, k.imm, k.own⟩

/-- What changes no block that was there. -/
theorem Ok.kept {I : Imm} {H : List HA} {w w' : World} (k : Ok I H w) (ho : w'.os = w.os) (ht : w'.tape = w.tape) (hu : w'.output = w.output)
    (hb : ∀ (b : Nat) (o : Obj), w.heap[b]? = some o → w'.heap[b]? = some o) : Ok I H w' := by
  obtain ⟨h, hs, hl⟩ := k.own
  exact ⟨ho.trans k.os, ht.trans k.tape, hu.trans k.output, fun b o e => hb b o (k.imm b o e), h, hs, hl.1, fun x hx => ⟨hb _ _ (hl.2 x hx).1, (hl.2 x hx).2⟩⟩

theorem Ok.fresh {I : Imm} {H : List HA} {w : World} (k : Ok I H w) : I.m w.heap.size = none := by
  cases h : I.m w.heap.size with
  | none => rfl
  | some o =>
    have := (Array.getElem?_eq_some_iff.1 (k.imm _ _ h)).1
    omega

/-- A new block. -/
theorem Ok.alloc {I : Imm} {H : List HA} {w : World} (k : Ok I H w) (o : Obj) (A : HA) (hA : A.p I [(w.heap.size, o)]) : Ok I (A :: H) (w.alloc o) := by
  obtain ⟨h, hs, hl⟩ := k.own
  have hlt : ∀ x ∈ h, x.1 < w.heap.size := fun x hx => (Array.getElem?_eq_some_iff.1 (hl.2 x hx).1).1
  refine ⟨k.os, k.tape, k.output, fun b o' e => ?_, (w.heap.size, o) :: h, ⟨[_], h, rfl, hA, hs⟩, ?_, ?_⟩
  · have := (Array.getElem?_eq_some_iff.1 (k.imm _ _ e)).1
    rw [heap_alloc_old w o this]
    exact k.imm _ _ e
  · rw [List.map_cons, List.nodup_cons]
    refine ⟨fun hm => ?_, hl.1⟩
    obtain ⟨x, hx, he⟩ := List.mem_map.1 hm
    have := hlt x hx
    omega
  · intro x hx
    rcases List.mem_cons.1 hx with rfl | hx
    · exact ⟨heap_alloc_new w o, k.fresh⟩
    · exact ⟨(heap_alloc_old w o (hlt x hx)).trans (hl.2 x hx).1, (hl.2 x hx).2⟩

/-- A block of one's own becomes immutable. -/
theorem Ok.freeze {I : Imm} {H : List HA} {w : World} {A : HA} (k : Ok I (A :: H) w) : ∃ h1 : Frag, A.p I h1 ∧ ∃ J : Imm, I ≤ J ∧ (∀ x ∈ h1, J.m x.1 = some x.2) ∧ Ok J H w := by
  obtain ⟨h, ⟨h1, h2, rfl, k1, k2⟩, hl⟩ := k.own
  have hla : ∀ x ∈ laidCells, ∃ c t fr, (fun b => match I.m b with | some o => some o | none => (h1.find? (fun x => x.1 == b)).map Prod.snd) x.1 = some (.cells c t fr) ∧ c.toList = x.2 := fun x hx => by
    obtain ⟨c, t, fr, e, h⟩ := I.laid x hx
    exact ⟨c, t, fr, by simp [e], h⟩
  have hle : I ≤ ⟨I.base, fun b => match I.m b with | some o => some o | none => (h1.find? (fun x => x.1 == b)).map Prod.snd, hla⟩ :=
    ⟨rfl, fun b o e => by simp [e]⟩
  have hmem : ∀ x ∈ h1, (h1.find? (fun y => y.1 == x.1)).map Prod.snd = some x.2 := by
    intro x hx
    cases hf : h1.find? (fun y => y.1 == x.1) with
    | none => exact absurd (List.find?_eq_none.1 hf x hx) (by simp)
    | some y =>
      have hy := List.mem_of_find?_eq_some hf
      have he := List.find?_some hf
      have he' : y.1 = x.1 := by simpa using he
      have h3 := (hl.2 x (by simp [hx])).1
      have h4 := (hl.2 y (by simp [hy])).1
      rw [he', h3] at h4
      simpa using (Option.some.inj h4).symm
  refine ⟨h1, k1, ⟨I.base, fun b => match I.m b with | some o => some o | none => (h1.find? (fun x => x.1 == b)).map Prod.snd, hla⟩, hle, ?_, ?_⟩
  · intro x hx
    simp only [(hl.2 x (by simp [hx])).2]
    exact hmem x hx
  · refine ⟨k.os, k.tape, k.output, ?_, h2, k2.mono hle, hl.right.1, ?_⟩
    · intro b o e
      simp only at e
      cases hb : I.m b with
      | some o' => rw [hb] at e; simp only at e; exact k.imm b o (hb.trans e)
      | none =>
        rw [hb] at e
        simp only [Option.map_eq_some_iff] at e
        obtain ⟨x, hf, rfl⟩ := e
        have hx := List.mem_of_find?_eq_some hf
        have he : x.1 = b := by simpa using List.find?_some hf
        rw [← he]
        exact (hl.2 x (by simp [hx])).1
    · intro x hx
      refine ⟨(hl.2 x (by simp [hx])).1, ?_⟩
      simp only [(hl.2 x (by simp [hx])).2, Option.map_eq_none_iff]
      refine List.find?_eq_none.2 fun y hy hye => ?_
      have hd := hl.1
      rw [List.map_append] at hd
      have := (List.nodup_append.1 hd).2.2 y.1 (List.mem_map.2 ⟨y, hy, rfl⟩) x.1 (List.mem_map.2 ⟨x, hx, rfl⟩)
      exact this (by simpa using hye)

/-- One block of one's own changes: the rest stays. -/
theorem Ok.change {I : Imm} {H : List HA} {w w' : World} {A B : HA} {b : Nat} {o o' : Obj} (k : Ok I (A :: H) w) (ho : w'.os = w.os) (ht : w'.tape = w.tape) (hu : w'.output = w.output)
    (hA : ∀ h1 : Frag, A.p I h1 → (∀ x ∈ h1, w.heap[x.1]? = some x.2) → h1 = [(b, o)])
    (hb : w'.heap[b]? = some o') (hk : ∀ c : Nat, c ≠ b → ∀ x : Obj, w.heap[c]? = some x → w'.heap[c]? = some x) (hB : B.p I [(b, o')]) : Ok I (B :: H) w' := by
  obtain ⟨h, ⟨h1, h2, rfl, k1, k2⟩, hl⟩ := k.own
  have e1 := hA h1 k1 (fun x hx => (hl.2 x (by simp [hx])).1)
  subst e1
  have hI : I.m b = none := (hl.2 (b, o) (by simp)).2
  refine ⟨ho.trans k.os, ht.trans k.tape, hu.trans k.output, fun c x e => ?_, (b, o') :: h2, ⟨[_], h2, rfl, hB, k2⟩, ?_, ?_⟩
  · exact hk c (fun hc => by rw [hc, hI] at e; cases e) x (k.imm c x e)
  · have := hl.1
    simpa using this
  · intro x hx
    rcases List.mem_cons.1 hx with rfl | hx
    · exact ⟨hb, hI⟩
    · refine ⟨hk x.1 ?_ x.2 (hl.2 x (by simp [hx])).1, (hl.2 x (by simp [hx])).2⟩
      have hd := hl.1
      simp only [List.cons_append, List.nil_append, List.map_cons, List.nodup_cons] at hd
      exact fun he => hd.1 (List.mem_map.2 ⟨x, hx, he⟩)

end Go.Fx
set_option linter.unusedVariables false
set_option linter.unusedSimpArgs false
namespace Go.Fx
open Go

/-! ### The slots of a frame, as data -/
abbrev Env := List (Nat × AV)
def look : Env → Nat → Option AV
  | [], _ => none
  | (k, v) :: r, t => match Nat.beq k t with | true => some v | false => look r t

/-- What the slots hold. -/
def EnvOk (I : Imm) (E : Env) (a : Act) : Prop := ∀ (t : Nat) (av : AV), look E t = some av → ∃ v, a.tmps[t]? = some v ∧ av.p I v

theorem EnvOk.mono {I J : Imm} (hl : I ≤ J) {E : Env} {a : Act} (h : EnvOk I E a) : EnvOk J E a := fun t av e => let ⟨v, hv, hp⟩ := h t av e; ⟨v, hv, av.mono hl hp⟩

theorem EnvOk.put {I : Imm} {E : Env} {a : Act} (h : EnvOk I E a) {d : Nat} (hd : d < a.tmps.size) {av : AV} {v : Value} (hv : av.p I v) : EnvOk I ((d, av) :: E) (a.put (some d) v) := by
  intro t bv e
  unfold look at e
  cases hb : Nat.beq d t with
  | true =>
    rw [hb] at e
    have : d = t := Nat.eq_of_beq_eq_true hb
    subst this
    injection e with e
    subst e
    exact ⟨v, by simp [Act.put, hd], hv⟩
  | false =>
    rw [hb] at e
    obtain ⟨u, hu, hp⟩ := h t bv e
    have hne : d ≠ t := Nat.ne_of_beq_eq_false hb
    exact ⟨u, by simp only [Act.put]; rw [Array.getElem?_setIfInBounds_ne hne]; exact hu, hp⟩

/-- A smaller list of slots. -/
def Subs (E : Env) : Env → Prop
  | [] => True
  | (t, av) :: r => look E t = some av ∧ Subs E r

theorem look_mem : ∀ {E : Env} {t : Nat} {av : AV}, look E t = some av → (t, av) ∈ E
  | [], _, _, h => by cases h
  | (k, v) :: r, t, av, h => by
    unfold look at h
    cases hb : Nat.beq k t with
    | true =>
      rw [hb] at h
      injection h with h
      rw [Nat.eq_of_beq_eq_true hb, h]
      exact List.mem_cons_self
    | false => rw [hb] at h; exact List.mem_cons_of_mem _ (look_mem h)

theorem Subs.mem {E : Env} : ∀ {E' : Env}, Subs E E' → ∀ {t : Nat} {av : AV}, (t, av) ∈ E' → look E t = some av
  | [], _, _, _, h => by cases h
  | (k, v) :: r, hs, t, av, h => by
    rcases List.mem_cons.1 h with h | h
    · injection h with h1 h2; subst h1; subst h2; exact hs.1
    · exact Subs.mem hs.2 h

theorem EnvOk.sub {I : Imm} {E E' : Env} {a : Act} (hs : Subs E E') (h : EnvOk I E a) : EnvOk I E' a := fun t av e => h t av (hs.mem (look_mem e))

/-- What a package-level variable's address is, as data. -/
def globAV (g : Nat) : List (Nat × List Value) → AV
  | [] => .val (.pointer (some ⟨g, 0, none⟩))
  | (k, cs) :: r => match Nat.beq k g, cs.all (·.oneCell') with | true, true => .addr (cs.map .val) | _, _ => globAV g r
theorem globAV_ok (I : Imm) (g : Nat) : ∀ (l : List (Nat × List Value)), (∀ x ∈ l, x ∈ laidCells) → (globAV g l).p I (.pointer (some ⟨g, 0, none⟩))
  | [], _ => rfl
  | (k, cs) :: r, h => by
    unfold globAV
    split
    · rename_i h1 h2
      have hk := Nat.eq_of_beq_eq_true h1
      subst hk
      exact ⟨_, rfl, At.laid I (h _ List.mem_cons_self) (by simpa using h2)⟩
    · exact globAV_ok I g r (fun x hx => h x (List.mem_cons_of_mem _ hx))
/-- An operand, as data. -/
def opAV (E : Env) : Operand → Option AV
  | .tmp t => look E t
  | .const v => some (.val v)
  | .global g => some (globAV g laidCells)
  | .func f => some (.val (.func (.func f) #[] #[]))
theorem opAV_ok {I : Imm} {E : Env} {a : Act} (h : EnvOk I E a) : ∀ {x : Operand} {av : AV}, opAV E x = some av → av.p I (a.eval x)
  | .tmp t, av, e => by
    obtain ⟨v, hv, hp⟩ := h t av e
    simpa [Act.eval, Array.getD_eq_getD_getElem?, hv] using hp
  | .const v, av, e => by injection e with e; subst e; rfl
  | .global g, av, e => by injection e with e; subst e; exact globAV_ok I g _ (fun _ h => h)
  | .func f, av, e => by injection e with e; subst e; rfl
def opAVs (E : Env) : List Operand → Option (List AV)
  | [] => some []
  | x :: r => match opAV E x with | none => none | some a => match opAVs E r with | none => none | some l => some (a :: l)
theorem opAVs_ok {I : Imm} {E : Env} {a : Act} (h : EnvOk I E a) : ∀ {l : List Operand} {avs : List AV}, opAVs E l = some avs → AVs I avs (l.map a.eval)
  | [], avs, e => by injection e with e; subst e; trivial
  | x :: r, avs, e => by
    unfold opAVs at e
    cases hx : opAV E x with
    | none => rw [hx] at e; cases e
    | some b =>
      rw [hx] at e
      cases hr : opAVs E r with
      | none => rw [hr] at e; cases e
      | some l =>
        rw [hr] at e
        injection e with e
        subst e
        exact ⟨opAV_ok h hx, opAVs_ok h hr⟩

/-! ### What is proved of code: from whatever fits the data -/
def AQ (I0 : Imm) (n : Nat) (D : List Deferred) (E : Env) (H : List HA) (K : Act → World → Prop) : Prop :=
  ∀ (I : Imm) (a : Act) (w : World), I0 ≤ I → a.tmps.size = n → a.defers = D → EnvOk I E a → Ok I H w → K a w

variable {P : Program} {I0 : Imm} {n : Nat} {D : List Deferred} {E : Env} {H : List HA} {K : Act → World → Prop} {Q : Exit → Act → World → Prop}

theorem AQ.imp {K' : Act → World → Prop} (h : AQ I0 n D E H K) (k : ∀ a w, K a w → K' a w) : AQ I0 n D E H K' := fun I a w h1 h2 h3 h4 h5 => k a w (h I a w h1 h2 h3 h4 h5)
theorem AQ.weaken {E' : Env} (hs : Subs E E') (h : AQ I0 n D E' H K) : AQ I0 n D E H K := fun I a w h1 h2 h3 h4 h5 => h I a w h1 h2 h3 (h4.sub hs) h5
theorem AQ.perm {H' : List HA} (hp : H.Perm H') (h : AQ I0 n D E H' K) : AQ I0 n D E H K := fun I a w h1 h2 h3 h4 h5 => h I a w h1 h2 h3 h4 (h5.perm hp)
theorem AQ.dropN (k : Nat) (h : AQ I0 n D E (H.drop k) K) : AQ I0 n D E H K := fun I a w h1 h2 h3 h4 h5 => h I a w h1 h2 h3 h4 (h5.dropN k)
theorem AQ.swap {A B : HA} (h : AQ I0 n D E (B :: A :: H) K) : AQ I0 n D E (A :: B :: H) K := AQ.perm (.swap _ _ _) h
/-- The k-th of what one has, to the front. -/
def front (k : Nat) (H : List HA) : List HA := match H[k]? with | some A => A :: H.eraseIdx k | none => H
theorem front_perm : ∀ (k : Nat) (H : List HA), H.Perm (front k H)
  | 0, [] => .refl _
  | 0, _ :: _ => .refl _
  | k + 1, [] => by simp [front]
  | k + 1, B :: H => by
    have ih := front_perm k H
    unfold front at ih ⊢
    simp only [List.getElem?_cons_succ, List.eraseIdx_cons_succ]
    cases h : H[k]? with
    | none => exact .refl _
    | some A =>
      rw [h] at ih
      exact (ih.cons B).trans (.swap _ _ _)
theorem AQ.front (k : Nat) (h : AQ I0 n D E (front k H) K) : AQ I0 n D E H K := AQ.perm (front_perm k H) h

/-! ### Code -/
theorem AQ.seq {x y : Code} (h : AQ I0 n D E H (x.wp P (Exit.then (y.wp P Q) Q))) : AQ I0 n D E H ((Code.seq x y).wp P Q) := h.imp fun _ _ h => wp_seq h
theorem AQ.skip (h : AQ I0 n D E H (Q .normal)) : AQ I0 n D E H (Code.skip.wp P Q) := h.imp fun _ _ h => wp_skip h
theorem AQ.ret (h : AQ I0 n D E H (Q .ret)) : AQ I0 n D E H (Code.ret.wp P Q) := h.imp fun _ _ h => wp_ret h
theorem AQ.exit {id : Nat} (h : AQ I0 n D E H (Q (.exit id))) : AQ I0 n D E H ((Code.exit id).wp P Q) := h.imp fun _ _ h => wp_exit h
theorem AQ.block {id : Nat} {c : Code} (h : AQ I0 n D E H (c.wp P (Exit.inBlock id Q))) : AQ I0 n D E H ((Code.block id c).wp P Q) := h.imp fun _ _ h => wp_block h
theorem AQ.region {id : Nat} {l : List Oper} (h : AQ I0 n D E H (wpList P l.toArray Q l)) : AQ I0 n D E H ((Code.region id l.toArray false).wp P Q) := h.imp fun _ _ h => wp_region_lit h
theorem AQ.nil {ops : Array Oper} (h : AQ I0 n D E H (Q .normal)) : AQ I0 n D E H (wpList P ops Q []) := h.imp fun _ _ h => wpList_nil h
theorem AQ.cond {c : Operand} {x y : Code} {b : Bool} (hc : opAV E c = some (.val (.bool b))) (ht : b = true → AQ I0 n D E H (x.wp P Q)) (hf : b = false → AQ I0 n D E H (y.wp P Q)) :
    AQ I0 n D E H ((Code.cond c x y).wp P Q) := by
  intro I a w h1 h2 h3 h4 h5
  have he : a.eval c = .bool b := opAV_ok h4 hc
  cases b with
  | true => exact wp_cond_true he (ht rfl I a w h1 h2 h3 h4 h5)
  | false => exact wp_cond_false he (hf rfl I a w h1 h2 h3 h4 h5)
theorem AQ.cond_t {c : Operand} {x y : Code} (hc : opAV E c = some (.val (.bool true))) (h : AQ I0 n D E H (x.wp P Q)) : AQ I0 n D E H ((Code.cond c x y).wp P Q) := AQ.cond hc (fun _ => h) (fun h => by cases h)
theorem AQ.cond_f {c : Operand} {x y : Code} (hc : opAV E c = some (.val (.bool false))) (h : AQ I0 n D E H (y.wp P Q)) : AQ I0 n D E H ((Code.cond c x y).wp P Q) := AQ.cond hc (fun h => by cases h) (fun _ => h)

/-! ### Ways out -/
theorem AQ.then_n {N : Act → World → Prop} (h : AQ I0 n D E H N) : AQ I0 n D E H (Exit.then N Q .normal) := h
theorem AQ.then_r {N : Act → World → Prop} (h : AQ I0 n D E H (Q .ret)) : AQ I0 n D E H (Exit.then N Q .ret) := h
theorem AQ.then_e {N : Act → World → Prop} {i : Nat} (h : AQ I0 n D E H (Q (.exit i))) : AQ I0 n D E H (Exit.then N Q (.exit i)) := h
theorem AQ.block_n {i : Nat} (h : AQ I0 n D E H (Q .normal)) : AQ I0 n D E H (Exit.inBlock i Q .normal) := h
theorem AQ.block_r {i : Nat} (h : AQ I0 n D E H (Q .ret)) : AQ I0 n D E H (Exit.inBlock i Q .ret) := h
theorem AQ.block_hit {i : Nat} (h : AQ I0 n D E H (Q .normal)) : AQ I0 n D E H (Exit.inBlock i Q (.exit i)) := h.imp fun _ _ h => by simpa [Exit.inBlock] using h
theorem AQ.block_miss {i j : Nat} (hne : Nat.beq j i = false) (h : AQ I0 n D E H (Q (.exit j))) : AQ I0 n D E H (Exit.inBlock i Q (.exit j)) :=
  h.imp fun _ _ h => by simpa [Exit.inBlock, Nat.ne_of_beq_eq_false hne] using h

/-! ### An operation -/
/-- An operation is carried out. -/
def Runs (E : Env) (ops : Array Oper) (o : Oper) : Prop := ∀ (I : Imm) (a : Act), EnvOk I E a → Region.wanted o (yielded ops a.tmps) = true
theorem Runs.plain {ops : Array Oper} {o : Oper} (h : o.guard = none) : Runs E ops o := fun _ _ _ => by simp [Region.wanted, h]
theorem yielded_of {I : Imm} {E : Env} {a : Act} (h : EnvOk I E a) {ops : Array Oper} {j t : Nat} {b : Bool} (hj : (ops[j]?).bind (·.dst) = some t) (hl : look E t = some (.val (.bool b))) : yielded ops a.tmps j = some b := by
  obtain ⟨v, hv, hp⟩ := h t _ hl
  have hp' : v = .bool b := hp
  subst hp'
  unfold yielded
  rw [hj]
  simp [hv]
theorem Runs.on {ops : Array Oper} {o : Oper} {j t : Nat} {b : Bool} (h : o.guard = some (j, b)) (hj : (ops[j]?).bind (·.dst) = some t) (hl : look E t = some (.val (.bool b))) : Runs E ops o :=
  fun I a ha => by simp [Region.wanted, h, yielded_of ha hj hl]
/-- An operation that is passed over. -/
theorem AQ.passed {ops : Array Oper} {d : Nat} {op : Op} {ty : TypeId} {pos : String} {after : Array Edge} {g : Option (Nat × Bool)} {rest : List Oper} (hn : Nat.blt d n = true)
    (hw : ∀ (I : Imm) (a : Act), EnvOk I E a → Region.wanted ⟨some d, op, ty, pos, after, g⟩ (yielded ops a.tmps) = false)
    (k : AQ I0 n D ((d, .val undef) :: E) H (wpList P ops Q rest)) : AQ I0 n D E H (wpList P ops Q (⟨some d, op, ty, pos, after, g⟩ :: rest)) := by
  intro I a w h1 h2 h3 h4 h5
  unfold wpList
  rw [hw I a h4]
  simp only [Bool.false_eq_true, if_false]
  exact k I _ w h1 (by simp [Act.put, h2]) (by simp [Act.put, h3]) (h4.put (by rw [h2]; simpa [Nat.blt_eq] using hn) rfl) h5
theorem AQ.off {ops : Array Oper} {d : Nat} {op : Op} {ty : TypeId} {pos : String} {after : Array Edge} {rest : List Oper} {j t : Nat} {b c : Bool} (hj : (ops[j]?).bind (·.dst) = some t) (hl : look E t = some (.val (.bool c))) (hbc : (c == b) = false)
    (hn : Nat.blt d n = true) (k : AQ I0 n D ((d, .val undef) :: E) H (wpList P ops Q rest)) : AQ I0 n D E H (wpList P ops Q (⟨some d, op, ty, pos, after, some (j, b)⟩ :: rest)) :=
  AQ.passed hn (fun I a ha => by simp only [Region.wanted, yielded_of ha hj hl]; simpa using hbc) k
/-- The same where what guards it was passed over. -/
theorem AQ.off_u {ops : Array Oper} {d : Nat} {op : Op} {ty : TypeId} {pos : String} {after : Array Edge} {rest : List Oper} {j t : Nat} {b : Bool} (hj : (ops[j]?).bind (·.dst) = some t) (hl : look E t = some (.val undef))
    (hn : Nat.blt d n = true) (k : AQ I0 n D ((d, .val undef) :: E) H (wpList P ops Q rest)) : AQ I0 n D E H (wpList P ops Q (⟨some d, op, ty, pos, after, some (j, b)⟩ :: rest)) :=
  AQ.passed hn (fun I a ha => by
    obtain ⟨v, hv, hp⟩ := ha t _ hl
    have hp' : v = undef := hp
    subst hp'
    have : yielded ops a.tmps j = none := by unfold yielded; rw [hj]; simp [hv, undef]
    simp [Region.wanted, this]) k
/-- A store that is passed over. -/
theorem AQ.off0 {ops : Array Oper} {op : Op} {ty : TypeId} {pos : String} {after : Array Edge} {rest : List Oper} {j t : Nat} {b c : Bool} (hj : (ops[j]?).bind (·.dst) = some t) (hl : look E t = some (.val (.bool c))) (hbc : (c == b) = false)
    (k : AQ I0 n D E H (wpList P ops Q rest)) : AQ I0 n D E H (wpList P ops Q (⟨none, op, ty, pos, after, some (j, b)⟩ :: rest)) := by
  intro I a w h1 h2 h3 h4 h5
  unfold wpList
  have hw : Region.wanted ⟨none, op, ty, pos, after, some (j, b)⟩ (yielded ops a.tmps) = false := by simp only [Region.wanted, yielded_of h4 hj hl]; simpa using hbc
  rw [hw]
  simp only [Bool.false_eq_true, if_false]
  exact k I _ w h1 h2 h3 h4 h5

theorem AQ.op {ops : Array Oper} {o : Oper} {rest : List Oper} {d : Nat} {av : AV} {H' : List HA} (hw : Runs E ops o) (hd : o.dst = some d) (hn : Nat.blt d n = true)
    (h : ∀ (I : Imm) (a : Act) (w : World), I0 ≤ I → EnvOk I E a → Ok I H w → ∃ (v : Value) (w' : World) (J : Imm), (execOp a.eval o).run P w = .ok (.value v) w' ∧ I ≤ J ∧ av.p J v ∧ Ok J H' w')
    (k : AQ I0 n D ((d, av) :: E) H' (wpList P ops Q rest)) : AQ I0 n D E H (wpList P ops Q (o :: rest)) := by
  intro I a w h1 h2 h3 h4 h5
  unfold wpList
  rw [if_pos (hw I a h4)]
  obtain ⟨v, w', J, hr, hl, hp, hok⟩ := h I a w h1 h4 h5
  refine .inl ?_
  unfold Oper.wp
  rw [hr]
  show wpList P ops Q rest (a.put o.dst v) w'
  rw [hd]
  refine k J _ w' (Imm.le_trans h1 hl) (by simp [Act.put, h2]) (by simp [Act.put, h3]) ((h4.mono hl).put (by rw [h2]; simpa [Nat.blt_eq] using hn) hp) hok

/-- The same where the result has parts that are only known then (a new block's number). -/
theorem AQ.opx {ops : Array Oper} {o : Oper} {rest : List Oper} {d : Nat} {X : Type} {av : X → AV} {H' : X → List HA} (hw : Runs E ops o) (hd : o.dst = some d) (hn : Nat.blt d n = true)
    (h : ∀ (I : Imm) (a : Act) (w : World), I0 ≤ I → EnvOk I E a → Ok I H w → ∃ (x : X) (v : Value) (w' : World) (J : Imm), (execOp a.eval o).run P w = .ok (.value v) w' ∧ I ≤ J ∧ (av x).p J v ∧ Ok J (H' x) w')
    (k : ∀ x, AQ I0 n D ((d, av x) :: E) (H' x) (wpList P ops Q rest)) : AQ I0 n D E H (wpList P ops Q (o :: rest)) := by
  intro I a w h1 h2 h3 h4 h5
  unfold wpList
  rw [if_pos (hw I a h4)]
  obtain ⟨x, v, w', J, hr, hl, hp, hok⟩ := h I a w h1 h4 h5
  refine .inl ?_
  unfold Oper.wp
  rw [hr]
  show wpList P ops Q rest (a.put o.dst v) w'
  rw [hd]
  refine k x J _ w' (Imm.le_trans h1 hl) (by simp [Act.put, h2]) (by simp [Act.put, h3]) ((h4.mono hl).put (by rw [h2]; simpa [Nat.blt_eq] using hn) hp) hok

/-- An operation without a result of its own (a store). -/
theorem AQ.op0 {ops : Array Oper} {o : Oper} {rest : List Oper} {H' : List HA} (hw : Runs E ops o) (hd : o.dst = none)
    (h : ∀ (I : Imm) (a : Act) (w : World), I0 ≤ I → EnvOk I E a → Ok I H w → ∃ (x : Next) (w' : World) (J : Imm), (execOp a.eval o).run P w = .ok x w' ∧ (x = .skip ∨ ∃ v, x = .value v) ∧ I ≤ J ∧ Ok J H' w')
    (k : AQ I0 n D E H' (wpList P ops Q rest)) : AQ I0 n D E H (wpList P ops Q (o :: rest)) := by
  intro I a w h1 h2 h3 h4 h5
  unfold wpList
  rw [if_pos (hw I a h4)]
  obtain ⟨x, w', J, hr, hx, hl, hok⟩ := h I a w h1 h4 h5
  refine .inl ?_
  unfold Oper.wp
  rw [hr]
  rcases hx with rfl | ⟨v, rfl⟩
  · show wpList P ops Q rest (a.put o.dst undef) w'
    rw [hd]
    exact k J _ w' (Imm.le_trans h1 hl) h2 h3 (h4.mono hl) hok
  · show wpList P ops Q rest (a.put o.dst v) w'
    rw [hd]
    exact k J _ w' (Imm.le_trans h1 hl) h2 h3 (h4.mono hl) hok

/-- An operation that only reckons. -/
theorem AQ.pure {ops : Array Oper} {o : Oper} {rest : List Oper} {d : Nat} {av : AV} (hw : Runs E ops o) (hd : o.dst = some d) (hn : Nat.blt d n = true)
    (h : ∀ (I : Imm) (a : Act) (w : World), EnvOk I E a → Ok I H w → ∃ (v : Value), (execOp a.eval o).run P w = .ok (.value v) w ∧ av.p I v)
    (k : AQ I0 n D ((d, av) :: E) H (wpList P ops Q rest)) : AQ I0 n D E H (wpList P ops Q (o :: rest)) :=
  AQ.op hw hd hn (fun I a w _ ha ho => let ⟨v, hr, hp⟩ := h I a w ha ho; ⟨v, w, I, hr, Imm.le_refl _, hp, ho⟩) k

/-! ### Functions -/
/-- A function, called with such data: what comes of it. -/
def AC (P : Program) (f : FuncId) (args : List AV) (H : List HA) (Post : AV → List HA → Prop) : Prop :=
  ∀ (I : Imm) (w : World) (vs : List Value), AVs I args vs → Ok I H w → Calls P f vs.toArray w fun e w' =>
    ∃ (J : Imm) (r : AV) (H' : List HA) (v : Value), e = .returned v ∧ I ≤ J ∧ r.p J v ∧ Ok J H' w' ∧ Post r H'

theorem AC.mono {f : FuncId} {args : List AV} {Post Post' : AV → List HA → Prop} (h : AC P f args H Post) (k : ∀ r H', Post r H' → Post' r H') : AC P f args H Post' :=
  fun I w vs ha ho => (h I w vs ha ho).mono fun _ _ ⟨J, r, H', v, e, hl, hp, hok, hq⟩ => ⟨J, r, H', v, e, hl, hp, hok, k r H' hq⟩

/-- Fewer things at hand. -/
theorem AC.perm {f : FuncId} {args : List AV} {H' : List HA} {Post : AV → List HA → Prop} (hp : H.Perm H') (h : AC P f args H' Post) : AC P f args H Post := fun I w vs ha ho => h I w vs ha (ho.perm hp)

def RPost (I0 : Imm) (Post : AV → List HA → Prop) (e : Ending) (w' : World) : Prop :=
  ∃ (J : Imm) (r : AV) (H' : List HA) (v : Value), e = .returned v ∧ I0 ≤ J ∧ r.p J v ∧ Ok J H' w' ∧ Post r H'

def number : Nat → List AV → Env
  | _, [] => []
  | k, a :: l => (k, a) :: number (k + 1) l

theorem number_ok {I : Imm} : ∀ {l : List AV} {vs : List Value} (pre : List Value) (post : List Value), AVs I l vs → ∀ t av, look (number pre.length l) t = some av → ∃ v, (pre ++ vs ++ post)[t]? = some v ∧ av.p I v
  | [], [], _, _, _, t, av, e => by cases e
  | x :: l, c :: vs, pre, post, h, t, av, e => by
    unfold number look at e
    cases hb : Nat.beq pre.length t with
    | true =>
      rw [hb] at e
      injection e with e
      subst e
      have := Nat.eq_of_beq_eq_true hb
      subst this
      exact ⟨c, by simp, h.1⟩
    | false =>
      rw [hb] at e
      have := number_ok (pre ++ [c]) post h.2 t av (by simpa using e)
      simpa using this
  | [], _ :: _, _, _, h, _, _, _ => h.elim
  | _ :: _, [], _, _, h, _, _, _ => h.elim

theorem AC.enter {f : FuncId} {fn : Func} {c : Code} {args : List AV} {Post : AV → List HA → Prop} (hf : P.funcs[f]? = some fn) (hb : fn.body = some c) {m : Nat} (hm : fn.ntmps = m) (hle' : Nat.ble args.length m = true)
    (h : ∀ I0 : Imm, AQ I0 m [] (number 0 args) H (c.wp P (bodyPost P fn (RPost I0 Post)))) : AC P f args H Post := by
  have hle : args.length ≤ m := Nat.le_of_ble_eq_true hle'
  intro I w vs ha ho
  refine calls_of_wp hf hb (h I I _ w (Imm.le_refl _) ?_ rfl ?_ ho)
  · have := ha.length
    simp only [Array.size_append, List.size_toArray, Array.size_replicate, hm]
    omega
  · intro t av e
    obtain ⟨v, hv, hp⟩ := number_ok [] (List.replicate (fn.ntmps - vs.length) undef) ha t av e
    refine ⟨v, ?_, hp⟩
    rw [← hv]
    simp [← Array.getElem?_toList]

theorem AQ.done1 {J0 : Imm} (hJ : J0 ≤ I0) {fn : Func} {Post : AV → List HA → Prop} {t : Nat} {av : AV} (hr : fn.results = #[.tmp t]) (hl : look E t = some av) (hp : Post av H) : AQ I0 n [] E H (bodyPost P fn (RPost J0 Post) .ret) := by
  intro I a w h1 h2 h3 h4 h5
  obtain ⟨v, hv, hav⟩ := h4 t av hl
  exact bodyPost_ret (results_tmp hr _ _ _) h3 ⟨I, av, H, v, by simp [Array.getD_eq_getD_getElem?, hv], Imm.le_trans hJ h1, hav, h5, hp⟩

def lookAll (E : Env) : List Nat → Option (List AV)
  | [] => some []
  | t :: r => match look E t with | none => none | some a => match lookAll E r with | none => none | some l => some (a :: l)

theorem lookAll_ok {I : Imm} {E : Env} {a : Act} (h : EnvOk I E a) : ∀ {ts : List Nat} {avs : List AV}, lookAll E ts = some avs → AVs I avs (ts.map fun t => a.tmps.getD t undef)
  | [], avs, e => by injection e with e; subst e; trivial
  | x :: r, avs, e => by
    unfold lookAll at e
    cases hx : look E x with
    | none => rw [hx] at e; cases e
    | some b =>
      rw [hx] at e
      cases hr : lookAll E r with
      | none => rw [hr] at e; cases e
      | some l =>
        rw [hr] at e
        injection e with e
        subst e
        obtain ⟨v, hv, hp⟩ := h x b hx
        exact ⟨by simpa [Array.getD_eq_getD_getElem?, hv] using hp, lookAll_ok h hr⟩

theorem results_tmps (fn : Func) (ts : List Nat) (h2 : ts.length ≠ 1) (hr : fn.results = (ts.map ResultVar.tmp).toArray) (tmps : Array Value) (P : Program) (w : World) :
    (results fn tmps).run P w = .ok (.tuple (ts.map fun t => tmps.getD t undef).toArray) w := by
  have key : ∀ (l : List Nat) (w : World), (l.mapM (m := Sem) fun t => (Pure.pure (tmps.getD t undef) : Sem Value)).run P w = .ok (l.map fun t => tmps.getD t undef) w := by
    intro l w
    induction l with
    | nil => simp
    | cons t l ih => simp [List.mapM_cons, ih]
  unfold results
  rw [hr]
  simp only [List.mapM_toArray, List.mapM_map, Function.comp_def, Sem.run_bind, Sem.run_map, key, Result.andThen_ok, Sem.run_pure]
  rw [dif_neg (by simpa using h2)]

theorem AQ.doneN {J0 : Imm} (hJ : J0 ≤ I0) {fn : Func} {Post : AV → List HA → Prop} {ts : List Nat} {avs : List AV} (hr : fn.results = (ts.map ResultVar.tmp).toArray) (h2 : Nat.beq ts.length 1 = false) (hl : lookAll E ts = some avs) (hp : Post (.tup avs) H) :
    AQ I0 n [] E H (bodyPost P fn (RPost J0 Post) .ret) := by
  intro I a w h1 h2' h3 h4 h5
  exact bodyPost_ret (results_tmps fn ts (Nat.ne_of_beq_eq_false h2) hr _ _ _) h3 ⟨I, .tup avs, H, _, rfl, Imm.le_trans hJ h1, ⟨_, rfl, lookAll_ok h4 hl⟩, h5, hp⟩
/-! ### Loops -/
/-- What is asked at a round's end: the state of the next round, which is nearer to the end. -/
def Again (n : Nat) (D : List Deferred) {σ : Type} (Es : σ → Env) (Hs : σ → List HA) (Inv : σ → Prop) (m : σ → Nat) (I0 : Imm) (s : σ) (a : Act) (w : World) : Prop :=
  ∃ s' I, Inv s' ∧ m s' < m s ∧ I0 ≤ I ∧ a.tmps.size = n ∧ a.defers = D ∧ EnvOk I (Es s') a ∧ Ok I (Hs s') w

theorem AQ.loop {c : Code} {σ : Type} (Es : σ → Env) (Hs : σ → List HA) (Inv : σ → Prop) (m : σ → Nat) (s0 : σ) (h0 : Inv s0) (hE : Subs E (Es s0)) (hH : H = Hs s0)
    (round : ∀ s, Inv s → AQ I0 n D (Es s) (Hs s) (c.wp P (Exit.then (Again n D Es Hs Inv m I0 s) Q))) : AQ I0 n D E H ((Code.loop c).wp P Q) := by
  intro I a w h1 h2 h3 h4 h5
  subst hH
  let R : σ → Act → World → Prop := fun s a w => ∃ I, Inv s ∧ I0 ≤ I ∧ a.tmps.size = n ∧ a.defers = D ∧ EnvOk I (Es s) a ∧ Ok I (Hs s) w
  have key : ∀ (k : Nat) (s : σ), m s = k → ∀ a w, R s a w → (Code.loop c).wp P Q a w := by
    classical
    intro k s hk a w hr
    let M : Act → World → Nat := fun a w => if h : ∃ k, ∃ s, R s a w ∧ m s = k then Classical.choose (show ∃ k, (∃ s, R s a w ∧ m s = k) ∧ ∀ j, (∃ s, R s a w ∧ m s = j) → k ≤ j by
      obtain ⟨k0, hk0⟩ := h
      induction k0 using Nat.strongRecOn with
      | _ k0 ih =>
        by_cases hm : ∃ j, j < k0 ∧ ∃ s, R s a w ∧ m s = j
        · obtain ⟨j, hj, hs⟩ := hm
          exact ih j hj hs
        · exact ⟨k0, hk0, fun j hj => by
            rcases Nat.lt_or_ge j k0 with h | h
            · exact absurd ⟨j, h, hj⟩ hm
            · exact h⟩) else 0
    have hM : ∀ a w s, R s a w → (∃ s', R s' a w ∧ m s' = M a w) ∧ M a w ≤ m s := by
      intro a w s hr
      have hex : ∃ k, ∃ s, R s a w ∧ m s = k := ⟨_, s, hr, rfl⟩
      simp only [M, dif_pos hex]
      have hc := Classical.choose_spec (show ∃ k, (∃ s, R s a w ∧ m s = k) ∧ ∀ j, (∃ s, R s a w ∧ m s = j) → k ≤ j by
        obtain ⟨k0, hk0⟩ := hex
        induction k0 using Nat.strongRecOn with
        | _ k0 ih =>
          by_cases hm : ∃ j, j < k0 ∧ ∃ s, R s a w ∧ m s = j
          · obtain ⟨j, hj, hs⟩ := hm
            exact ih j hj hs
          · exact ⟨k0, hk0, fun j hj => by
              rcases Nat.lt_or_ge j k0 with h | h
              · exact absurd ⟨j, h, hj⟩ hm
              · exact h⟩)
      exact ⟨hc.1, hc.2 _ ⟨s, hr, rfl⟩⟩
    refine wp_loop (fun a w => ∃ s, R s a w) M ⟨s, hr⟩ ?_
    rintro a w ⟨s, hr⟩
    obtain ⟨⟨s1, hr1, hm1⟩, _⟩ := hM a w s hr
    obtain ⟨I1, hi, hl, hs, hd, he, ho⟩ := hr1
    have := round s1 hi I1 a w hl hs hd he ho
    refine wp_mono this fun e a' w' hq => ?_
    cases e with
    | normal =>
      obtain ⟨s', I', q1, q2, q3, q4, q5, q6, q7⟩ := hq
      have hr' : R s' a' w' := ⟨I', q1, q3, q4, q5, q6, q7⟩
      refine ⟨⟨s', hr'⟩, ?_⟩
      have := (hM a' w' s' hr').2
      omega
    | exit id => exact hq
    | goto l => exact hq
    | ret => exact hq
    | panic ch => exact hq
    | outgrown => exact hq
  exact key _ s0 rfl a w ⟨I, h0, h1, h2, h3, h4.sub hE, h5⟩

theorem AQ.again {σ : Type} {Es : σ → Env} {Hs : σ → List HA} {Inv : σ → Prop} {m : σ → Nat} {s : σ} {J0 : Imm} (hJ : J0 ≤ I0) (s' : σ) (hi : Inv s') (hm : m s' < m s) (hE : Subs E (Es s')) (hH : H = Hs s') :
    AQ I0 n D E H (Exit.then (Again n D Es Hs Inv m J0 s) Q .normal) := by
  intro I a w h1 h2 h3 h4 h5
  subst hH
  exact ⟨s', I, hi, hm, Imm.le_trans hJ h1, h2, h3, h4.sub hE, h5⟩
end Go.Fx
set_option linter.unusedVariables false
set_option linter.unusedSimpArgs false
namespace Go.Fx
open Go
variable {P : Program} {I0 : Imm} {n : Nat} {D : List Deferred} {E : Env} {H : List HA} {Q : Exit → Act → World → Prop} {ops : Array Oper} {rest : List Oper}
  {d : Nat} {ty : TypeId} {pos : String} {after : Array Edge} {g : Option (Nat × Bool)}

theorem val_eq {I : Imm} {v u : Value} (h : (AV.val v).p I u) : u = v := h

/-! ### What is handed on -/
theorem AQ.move {x : Operand} {av : AV} (hw : Runs E ops ⟨some d, .move x, ty, pos, after, g⟩) (hx : opAV E x = some av) (hn : Nat.blt d n = true) (k : AQ I0 n D ((d, av) :: E) H (wpList P ops Q rest)) :
    AQ I0 n D E H (wpList P ops Q (⟨some d, .move x, ty, pos, after, g⟩ :: rest)) := AQ.pure hw rfl hn (fun _ a _ ha _ => ⟨a.eval x, rfl, opAV_ok ha hx⟩) k
theorem AQ.assign {x : Operand} {av : AV} (hw : Runs E ops ⟨some d, .assign x, ty, pos, after, g⟩) (hx : opAV E x = some av) (hn : Nat.blt d n = true) (k : AQ I0 n D ((d, av) :: E) H (wpList P ops Q rest)) :
    AQ I0 n D E H (wpList P ops Q (⟨some d, .assign x, ty, pos, after, g⟩ :: rest)) := AQ.pure hw rfl hn (fun _ a _ ha _ => ⟨a.eval x, rfl, opAV_ok ha hx⟩) k
theorem AQ.pick_t {c x y : Operand} {av : AV} (hw : Runs E ops ⟨some d, .pick c x y, ty, pos, after, g⟩) (hc : opAV E c = some (.val (.bool true))) (hx : opAV E x = some av) (hn : Nat.blt d n = true)
    (k : AQ I0 n D ((d, av) :: E) H (wpList P ops Q rest)) : AQ I0 n D E H (wpList P ops Q (⟨some d, .pick c x y, ty, pos, after, g⟩ :: rest)) :=
  AQ.pure hw rfl hn (fun _ a w ha _ => ⟨a.eval x, by simp [execOp, val_eq (opAV_ok ha hc), asBool], opAV_ok ha hx⟩) k
theorem AQ.pick_f {c x y : Operand} {av : AV} (hw : Runs E ops ⟨some d, .pick c x y, ty, pos, after, g⟩) (hc : opAV E c = some (.val (.bool false))) (hy : opAV E y = some av) (hn : Nat.blt d n = true)
    (k : AQ I0 n D ((d, av) :: E) H (wpList P ops Q rest)) : AQ I0 n D E H (wpList P ops Q (⟨some d, .pick c x y, ty, pos, after, g⟩ :: rest)) :=
  AQ.pure hw rfl hn (fun _ a w ha _ => ⟨a.eval y, by simp [execOp, val_eq (opAV_ok ha hc), asBool], opAV_ok ha hy⟩) k
theorem AQ.extract {x : Operand} {i : Nat} {l : List AV} {av : AV} (hw : Runs E ops ⟨some d, .extract x i, ty, pos, after, g⟩) (hx : opAV E x = some (.tup l)) (hi : l[i]? = some av) (hn : Nat.blt d n = true)
    (k : AQ I0 n D ((d, av) :: E) H (wpList P ops Q rest)) : AQ I0 n D E H (wpList P ops Q (⟨some d, .extract x i, ty, pos, after, g⟩ :: rest)) :=
  AQ.pure hw rfl hn (fun I a w ha _ => by
    obtain ⟨cs, e, hc⟩ := opAV_ok ha hx
    obtain ⟨c, h1, h2⟩ := hc.get i av hi
    exact ⟨c, by simp [execOp, e, Instr.extract, h1], h2⟩) k

/-! ### A slot, told otherwise -/
theorem EnvOk.again {I : Imm} {a : Act} {t : Nat} {av bv : AV} (h : EnvOk I E a) (hl : look E t = some bv) (hp : ∀ v, bv.p I v → av.p I v) : EnvOk I ((t, av) :: E) a := by
  intro t' cv e
  unfold look at e
  cases hb : Nat.beq t t' with
  | true =>
    rw [hb] at e
    injection e with e
    subst e
    obtain ⟨v, hv, hpv⟩ := h t bv hl
    exact ⟨v, by rw [← Nat.eq_of_beq_eq_true hb]; exact hv, hp v hpv⟩
  | false => rw [hb] at e; exact h t' cv e
theorem AQ.retell {t : Nat} {av bv : AV} {K : Act → World → Prop} (hl : look E t = some bv) (hp : ∀ I v, I0 ≤ I → bv.p I v → av.p I v) (k : AQ I0 n D ((t, av) :: E) H K) : AQ I0 n D E H K :=
  fun I a w h1 h2 h3 h4 h5 => k I a w h1 h2 h3 (h4.again hl (fun v => hp I v h1)) h5
/-- By its very value. -/
theorem AQ.open {t : Nat} {av : AV} {K : Act → World → Prop} (hl : look E t = some av) (k : ∀ (J : Imm) (v : Value), I0 ≤ J → av.p J v → AQ J n D ((t, .val v) :: E) H K) : AQ I0 n D E H K := by
  intro I a w h1 h2 h3 h4 h5
  obtain ⟨v, hv, hp⟩ := h4 t av hl
  refine k I v h1 hp I a w (Imm.le_refl _) h2 h3 ?_ h5
  intro t' cv e
  unfold look at e
  cases hb : Nat.beq t t' with
  | true =>
    rw [hb] at e
    injection e with e
    subst e
    exact ⟨v, by rw [← Nat.eq_of_beq_eq_true hb]; exact hv, rfl⟩
  | false => rw [hb] at e; exact h4 t' cv e
theorem AQ.as {t : Nat} {v : Value} {av : AV} {K : Act → World → Prop} (hl : look E t = some (.val v)) (hp : av.p I0 v) (k : AQ I0 n D ((t, av) :: E) H K) : AQ I0 n D E H K :=
  AQ.retell hl (fun I u hI hu => by cases val_eq hu; exact av.mono hI hp) k
theorem AQ.up {J : Imm} {K : Act → World → Prop} (h : I0 ≤ J) (k : AQ I0 n D E H K) : AQ J n D E H K := fun I a w h1 h2 h3 h4 h5 => k I a w (Imm.le_trans h h1) h2 h3 h4 h5

/-! ### A test that is decided -/
theorem AQ.split {t : Nat} {p : Prop} [Decidable p] {K : Act → World → Prop} (hl : look E t = some (.val (.bool (decide p)))) (h1 : p → AQ I0 n D ((t, .val (.bool true)) :: E) H K) (h2 : ¬ p → AQ I0 n D ((t, .val (.bool false)) :: E) H K) : AQ I0 n D E H K := by
  by_cases hp : p
  · exact AQ.retell hl (fun _ _ _ h => by rw [val_eq h, decide_eq_true hp]; rfl) (h1 hp)
  · exact AQ.retell hl (fun _ _ _ h => by rw [val_eq h, decide_eq_false hp]; rfl) (h2 hp)
theorem AQ.splitb {t : Nat} {b : Bool} {K : Act → World → Prop} (hl : look E t = some (.val (.bool b))) (h1 : b = true → AQ I0 n D ((t, .val (.bool true)) :: E) H K) (h2 : b = false → AQ I0 n D ((t, .val (.bool false)) :: E) H K) : AQ I0 n D E H K := by
  cases b with
  | true => exact AQ.retell hl (fun _ _ _ h => h) (h1 rfl)
  | false => exact AQ.retell hl (fun _ _ _ h => h) (h2 rfl)
theorem AQ.cond_d {c : Operand} {x y : Code} {p : Prop} [Decidable p] (hc : opAV E c = some (.val (.bool (decide p)))) (ht : p → AQ I0 n D E H (x.wp P Q)) (hf : ¬ p → AQ I0 n D E H (y.wp P Q)) :
    AQ I0 n D E H ((Code.cond c x y).wp P Q) := AQ.cond hc (fun h => ht (of_decide_eq_true h)) (fun h => hf (of_decide_eq_false h))

/-! ### Numbers -/
theorem i64_id {z : Int} (h1 : -9223372036854775808 ≤ z) (h2 : z ≤ 9223372036854775807) : IntKind.i64.wrap z = z := IntWalk.i64_in z ⟨h1, h2⟩
/-- Two operands, each of one very value. -/
theorem AQ.bin {op : BinOp} {xt yt : TypeId} {x y : Operand} {u v z : Value} (hw : Runs E ops ⟨some d, .binOp op xt x y yt, ty, pos, after, g⟩) (hx : opAV E x = some (.val u)) (hy : opAV E y = some (.val v)) (hn : Nat.blt d n = true)
    (hr : ∀ w, (do eqGuard op xt x y u v; binOp op xt u v : Sem Value).run P w = .ok z w) (k : AQ I0 n D ((d, .val z) :: E) H (wpList P ops Q rest)) :
    AQ I0 n D E H (wpList P ops Q (⟨some d, .binOp op xt x y yt, ty, pos, after, g⟩ :: rest)) :=
  AQ.pure hw rfl hn (fun I a w ha _ => ⟨z, by
    have := hr w
    simp only [execOp, val_eq (opAV_ok ha hx), val_eq (opAV_ok ha hy)]
    rw [Sem.run_bind, this]; rfl, rfl⟩) k

section
variable {xt yt : TypeId} {x y : Operand} {q : IntKind} {a b : Int}
theorem AQ.add (hw : Runs E ops ⟨some d, .binOp .add xt x y yt, ty, pos, after, g⟩) (hx : opAV E x = some (.val (.int q a))) (hy : opAV E y = some (.val (.int q b))) (hn : Nat.blt d n = true) {z : Int} (hz : q.wrap (a + b) = z)
    (k : AQ I0 n D ((d, .val (.int q z)) :: E) H (wpList P ops Q rest)) : AQ I0 n D E H (wpList P ops Q (⟨some d, .binOp .add xt x y yt, ty, pos, after, g⟩ :: rest)) :=
  AQ.bin hw hx hy hn (fun w => by subst hz; simp [eqGuard_add, binOp_add, Op.intArith]) k
theorem AQ.sub (hw : Runs E ops ⟨some d, .binOp .sub xt x y yt, ty, pos, after, g⟩) (hx : opAV E x = some (.val (.int q a))) (hy : opAV E y = some (.val (.int q b))) (hn : Nat.blt d n = true) {z : Int} (hz : q.wrap (a - b) = z)
    (k : AQ I0 n D ((d, .val (.int q z)) :: E) H (wpList P ops Q rest)) : AQ I0 n D E H (wpList P ops Q (⟨some d, .binOp .sub xt x y yt, ty, pos, after, g⟩ :: rest)) :=
  AQ.bin hw hx hy hn (fun w => by subst hz; simp [eqGuard_sub, binOp_sub, Op.intArith]) k
theorem AQ.mul (hw : Runs E ops ⟨some d, .binOp .mul xt x y yt, ty, pos, after, g⟩) (hx : opAV E x = some (.val (.int q a))) (hy : opAV E y = some (.val (.int q b))) (hn : Nat.blt d n = true) {z : Int} (hz : q.wrap (a * b) = z)
    (k : AQ I0 n D ((d, .val (.int q z)) :: E) H (wpList P ops Q rest)) : AQ I0 n D E H (wpList P ops Q (⟨some d, .binOp .mul xt x y yt, ty, pos, after, g⟩ :: rest)) :=
  AQ.bin hw hx hy hn (fun w => by subst hz; simp [eqGuard_mul, binOp_mul, Op.intArith]) k
theorem AQ.quo (hw : Runs E ops ⟨some d, .binOp .quo xt x y yt, ty, pos, after, g⟩) (hx : opAV E x = some (.val (.int q a))) (hy : opAV E y = some (.val (.int q b))) (hn : Nat.blt d n = true) {z : Int} (hb : b ≠ 0) (hz : q.wrap (a.tdiv b) = z)
    (k : AQ I0 n D ((d, .val (.int q z)) :: E) H (wpList P ops Q rest)) : AQ I0 n D E H (wpList P ops Q (⟨some d, .binOp .quo xt x y yt, ty, pos, after, g⟩ :: rest)) :=
  AQ.bin hw hx hy hn (fun w => by subst hz; simp [eqGuard_quo, binOp_quo, Op.intDiv, hb]) k
theorem AQ.rem (hw : Runs E ops ⟨some d, .binOp .rem xt x y yt, ty, pos, after, g⟩) (hx : opAV E x = some (.val (.int q a))) (hy : opAV E y = some (.val (.int q b))) (hn : Nat.blt d n = true) {z : Int} (hb : b ≠ 0) (hz : a.tmod b = z)
    (k : AQ I0 n D ((d, .val (.int q z)) :: E) H (wpList P ops Q rest)) : AQ I0 n D E H (wpList P ops Q (⟨some d, .binOp .rem xt x y yt, ty, pos, after, g⟩ :: rest)) :=
  AQ.bin hw hx hy hn (fun w => by subst hz; simp [eqGuard_rem, binOp_rem, Op.intDiv, hb]) k
/-- Division of numbers that aren't below 0. -/
theorem tdiv_pos {a b : Int} (ha : 0 ≤ a) (hm : a ≤ 9223372036854775807) (hb : 1 ≤ b) : IntKind.i64.wrap (a.tdiv b) = a / b := IntWalk.i64_quo a b ⟨ha, hm, hb⟩
theorem tmod_pos {a b : Int} (ha : 0 ≤ a) : a.tmod b = a % b := Int.tmod_eq_emod_of_nonneg ha
theorem AQ.lss (hw : Runs E ops ⟨some d, .binOp .lss xt x y yt, ty, pos, after, g⟩) (hx : opAV E x = some (.val (.int q a))) (hy : opAV E y = some (.val (.int q b))) (hn : Nat.blt d n = true)
    (k : AQ I0 n D ((d, .val (.bool (decide (a < b)))) :: E) H (wpList P ops Q rest)) : AQ I0 n D E H (wpList P ops Q (⟨some d, .binOp .lss xt x y yt, ty, pos, after, g⟩ :: rest)) :=
  AQ.bin hw hx hy hn (fun w => by simp [eqGuard_lss, binOp_lss]) k
theorem AQ.leq (hw : Runs E ops ⟨some d, .binOp .leq xt x y yt, ty, pos, after, g⟩) (hx : opAV E x = some (.val (.int q a))) (hy : opAV E y = some (.val (.int q b))) (hn : Nat.blt d n = true)
    (k : AQ I0 n D ((d, .val (.bool (decide (a ≤ b)))) :: E) H (wpList P ops Q rest)) : AQ I0 n D E H (wpList P ops Q (⟨some d, .binOp .leq xt x y yt, ty, pos, after, g⟩ :: rest)) :=
  AQ.bin hw hx hy hn (fun w => by simp [eqGuard_leq, binOp_leq]) k
theorem AQ.gtr (hw : Runs E ops ⟨some d, .binOp .gtr xt x y yt, ty, pos, after, g⟩) (hx : opAV E x = some (.val (.int q a))) (hy : opAV E y = some (.val (.int q b))) (hn : Nat.blt d n = true)
    (k : AQ I0 n D ((d, .val (.bool (decide (b < a)))) :: E) H (wpList P ops Q rest)) : AQ I0 n D E H (wpList P ops Q (⟨some d, .binOp .gtr xt x y yt, ty, pos, after, g⟩ :: rest)) :=
  AQ.bin hw hx hy hn (fun w => by simp [eqGuard_gtr, binOp_gtr]) k
theorem AQ.geq (hw : Runs E ops ⟨some d, .binOp .geq xt x y yt, ty, pos, after, g⟩) (hx : opAV E x = some (.val (.int q a))) (hy : opAV E y = some (.val (.int q b))) (hn : Nat.blt d n = true)
    (k : AQ I0 n D ((d, .val (.bool (decide (b ≤ a)))) :: E) H (wpList P ops Q rest)) : AQ I0 n D E H (wpList P ops Q (⟨some d, .binOp .geq xt x y yt, ty, pos, after, g⟩ :: rest)) :=
  AQ.bin hw hx hy hn (fun w => by simp [eqGuard_geq, binOp_geq]) k
theorem AQ.eql (hw : Runs E ops ⟨some d, .binOp .eql xt x y yt, ty, pos, after, g⟩) (hx : opAV E x = some (.val (.int q a))) (hy : opAV E y = some (.val (.int q b))) (hn : Nat.blt d n = true)
    (k : AQ I0 n D ((d, .val (.bool (decide (a = b)))) :: E) H (wpList P ops Q rest)) : AQ I0 n D E H (wpList P ops Q (⟨some d, .binOp .eql xt x y yt, ty, pos, after, g⟩ :: rest)) :=
  AQ.bin hw hx hy hn (fun w => by simp [eqGuard_at_int, binOp_eql]; by_cases h : a = b <;> simp [h]) k
theorem AQ.neq (hw : Runs E ops ⟨some d, .binOp .neq xt x y yt, ty, pos, after, g⟩) (hx : opAV E x = some (.val (.int q a))) (hy : opAV E y = some (.val (.int q b))) (hn : Nat.blt d n = true)
    (k : AQ I0 n D ((d, .val (.bool (decide (a ≠ b)))) :: E) H (wpList P ops Q rest)) : AQ I0 n D E H (wpList P ops Q (⟨some d, .binOp .neq xt x y yt, ty, pos, after, g⟩ :: rest)) :=
  AQ.bin hw hx hy hn (fun w => by simp [eqGuard_at_int, binOp_neq]; by_cases h : a = b <;> simp [h]) k
theorem AQ.shr (hw : Runs E ops ⟨some d, .binOp .shr xt x y yt, ty, pos, after, g⟩) (hx : opAV E x = some (.val (.int q a))) {yq : IntKind} (hy : opAV E y = some (.val (.int yq b))) (hn : Nat.blt d n = true) (h0 : 0 ≤ b) (h1 : b ≤ q.bits)
    (k : AQ I0 n D ((d, .val (.int q (a / 2 ^ b.toNat))) :: E) H (wpList P ops Q rest)) : AQ I0 n D E H (wpList P ops Q (⟨some d, .binOp .shr xt x y yt, ty, pos, after, g⟩ :: rest)) :=
  AQ.bin hw hx hy hn (fun w => by simp [eqGuard_shr, binOp_shr, shift_shr q yq a b h0 h1]) k
theorem AQ.shl (hw : Runs E ops ⟨some d, .binOp .shl xt x y yt, ty, pos, after, g⟩) (hx : opAV E x = some (.val (.int q a))) {yq : IntKind} (hy : opAV E y = some (.val (.int yq b))) (hn : Nat.blt d n = true) (h0 : 0 ≤ b) (h1 : b ≤ q.bits) {z : Int} (hz : q.wrap (a * 2 ^ b.toNat) = z)
    (k : AQ I0 n D ((d, .val (.int q z)) :: E) H (wpList P ops Q rest)) : AQ I0 n D E H (wpList P ops Q (⟨some d, .binOp .shl xt x y yt, ty, pos, after, g⟩ :: rest)) :=
  AQ.bin hw hx hy hn (fun w => by subst hz; simp [eqGuard_shl, binOp_shl, shift_shl q yq a b h0 h1]) k
theorem AQ.bits (op : BinOp) (hop : op = .and ∨ op = .or ∨ op = .xor ∨ op = .andNot) (hw : Runs E ops ⟨some d, .binOp op xt x y yt, ty, pos, after, g⟩) (hx : opAV E x = some (.val (.int q a))) (hy : opAV E y = some (.val (.int q b))) (hn : Nat.blt d n = true) {z : Int} (hz : Go.bits op q a b = z)
    (k : AQ I0 n D ((d, .val (.int q z)) :: E) H (wpList P ops Q rest)) : AQ I0 n D E H (wpList P ops Q (⟨some d, .binOp op xt x y yt, ty, pos, after, g⟩ :: rest)) :=
  AQ.bin hw hx hy hn (fun w => by
    subst hz
    rcases hop with rfl | rfl | rfl | rfl
    · simp [eqGuard_and, binOp_and, intBits_and]
    · simp [eqGuard_or, binOp_or, intBits_or]
    · simp [eqGuard_xor, binOp_xor, intBits_xor]
    · simp [eqGuard_andNot, binOp_andNot, intBits_andNot]) k
end
theorem AQ.not {xt : TypeId} {x : Operand} {b : Bool} (hw : Runs E ops ⟨some d, .unOp .not xt x, ty, pos, after, g⟩) (hx : opAV E x = some (.val (.bool b))) (hn : Nat.blt d n = true)
    (k : AQ I0 n D ((d, .val (.bool (!b))) :: E) H (wpList P ops Q rest)) : AQ I0 n D E H (wpList P ops Q (⟨some d, .unOp .not xt x, ty, pos, after, g⟩ :: rest)) :=
  AQ.pure hw rfl hn (fun I a w ha _ => ⟨.bool (!b), by simp [execOp, val_eq (opAV_ok ha hx), Op.unary], rfl⟩) k
theorem AQ.not_d {xt : TypeId} {x : Operand} {p : Prop} {_ : Decidable p} (hw : Runs E ops ⟨some d, .unOp .not xt x, ty, pos, after, g⟩) (hx : opAV E x = some (.val (.bool (decide p)))) (hn : Nat.blt d n = true)
    (k : AQ I0 n D ((d, .val (.bool (decide (¬ p)))) :: E) H (wpList P ops Q rest)) : AQ I0 n D E H (wpList P ops Q (⟨some d, .unOp .not xt x, ty, pos, after, g⟩ :: rest)) :=
  AQ.pure hw rfl hn (fun I a w ha _ => ⟨.bool (decide (¬ p)), by simp [execOp, val_eq (opAV_ok ha hx), Op.unary], rfl⟩) k
theorem AQ.neg {xt : TypeId} {x : Operand} {q : IntKind} {a : Int} (hw : Runs E ops ⟨some d, .unOp .neg xt x, ty, pos, after, g⟩) (hx : opAV E x = some (.val (.int q a))) (hn : Nat.blt d n = true) {z : Int} (hz : q.wrap (0 - a) = z)
    (k : AQ I0 n D ((d, .val (.int q z)) :: E) H (wpList P ops Q rest)) : AQ I0 n D E H (wpList P ops Q (⟨some d, .unOp .neg xt x, ty, pos, after, g⟩ :: rest)) :=
  AQ.pure hw rfl hn (fun I a' w ha _ => ⟨.int q z, by subst hz; simp [execOp, val_eq (opAV_ok ha hx), Op.unary, Op.intArith], rfl⟩) k
/-- Strings: '==' and '!='. -/
theorem ba_toList (s : ByteArray) : s.toList = s.data.toList := ByteArray.toList_eq s
theorem ba_ext {s t : ByteArray} (h : s.toList = t.toList) : s = t := by
  rw [ba_toList, ba_toList] at h
  cases s; cases t
  simp only at h
  exact congrArg ByteArray.mk (Array.toList_inj.1 h)
theorem AQ.eqs {xt yt : TypeId} {x y : Operand} {s t : ByteArray} (hw : Runs E ops ⟨some d, .binOp .eql xt x y yt, ty, pos, after, g⟩) (hx : opAV E x = some (.val (.string s))) (hy : opAV E y = some (.val (.string t))) (hn : Nat.blt d n = true)
    (k : AQ I0 n D ((d, .val (.bool (decide (s = t)))) :: E) H (wpList P ops Q rest)) : AQ I0 n D E H (wpList P ops Q (⟨some d, .binOp .eql xt x y yt, ty, pos, after, g⟩ :: rest)) :=
  AQ.bin hw hx hy hn (fun w => by
    have : (s.toList == t.toList) = decide (s = t) := by
      by_cases h : s = t
      · subst h; simp
      · rw [decide_eq_false h]; simpa using fun e => h (ba_ext e)
    simp [eqGuard_at_string, binOp, Op.stringOp, this]) k
theorem AQ.nes {xt yt : TypeId} {x y : Operand} {s t : ByteArray} (hw : Runs E ops ⟨some d, .binOp .neq xt x y yt, ty, pos, after, g⟩) (hx : opAV E x = some (.val (.string s))) (hy : opAV E y = some (.val (.string t))) (hn : Nat.blt d n = true)
    (k : AQ I0 n D ((d, .val (.bool (decide (s ≠ t)))) :: E) H (wpList P ops Q rest)) : AQ I0 n D E H (wpList P ops Q (⟨some d, .binOp .neq xt x y yt, ty, pos, after, g⟩ :: rest)) :=
  AQ.bin hw hx hy hn (fun w => by
    have : (s.toList == t.toList) = decide (s = t) := by
      by_cases h : s = t
      · subst h; simp
      · rw [decide_eq_false h]; simpa using fun e => h (ba_ext e)
    simp [eqGuard_at_string, binOp, Op.stringOp, this]) k
theorem AQ.min2 {x y : Operand} {ts : Array TypeId} {q : IntKind} {a b : Int} (hw : Runs E ops ⟨some d, .call ⟨.builtin .min, #[x, y], ts⟩, ty, pos, after, g⟩) (hx : opAV E x = some (.val (.int q a))) (hy : opAV E y = some (.val (.int q b))) (hn : Nat.blt d n = true)
    (k : AQ I0 n D ((d, .val (.int q (min a b))) :: E) H (wpList P ops Q rest)) : AQ I0 n D E H (wpList P ops Q (⟨some d, .call ⟨.builtin .min, #[x, y], ts⟩, ty, pos, after, g⟩ :: rest)) :=
  AQ.pure hw rfl hn (fun I a' w ha _ => ⟨.int q (min a b), by
    simp [execOp, resolve, invoke, builtin, val_eq (opAV_ok ha hx), val_eq (opAV_ok ha hy), Builtin.min_, Builtin.min2]; omega, rfl⟩) k
theorem AQ.max2 {x y : Operand} {ts : Array TypeId} {q : IntKind} {a b : Int} (hw : Runs E ops ⟨some d, .call ⟨.builtin .max, #[x, y], ts⟩, ty, pos, after, g⟩) (hx : opAV E x = some (.val (.int q a))) (hy : opAV E y = some (.val (.int q b))) (hn : Nat.blt d n = true)
    (k : AQ I0 n D ((d, .val (.int q (max a b))) :: E) H (wpList P ops Q rest)) : AQ I0 n D E H (wpList P ops Q (⟨some d, .call ⟨.builtin .max, #[x, y], ts⟩, ty, pos, after, g⟩ :: rest)) :=
  AQ.pure hw rfl hn (fun I a' w ha _ => ⟨.int q (max a b), by
    simp [execOp, resolve, invoke, builtin, val_eq (opAV_ok ha hx), val_eq (opAV_ok ha hy), Builtin.max_, Builtin.max2]; omega, rfl⟩) k

/-! ### Calls -/
def Enters (P : Program) (f : FuncId) : Prop := ∀ (args : Array Value) (w : World), (callFunc f args).run P w = .ok (.enter f args) w
theorem Enters.of {f : FuncId} {fn : Func} (hf : P.funcs[f]? = some fn) (hname : (fn.name == "runtime.NumGoroutine") = false) (hb : fn.body.isNone = false) : Enters P f := by
  intro args w
  simp only [callFunc, Sem.run_bind, run_program, Result.andThen_ok, hf, hname, hb]
  rfl
theorem AQ.callv {f : Operand} {fid : FuncId} {first cap : List Value} {args : List Operand} {ts : Array TypeId} {avs : List AV} {Post : AV → List HA → Prop} (hw : Runs E ops ⟨some d, .call ⟨.value f, args.toArray, ts⟩, ty, pos, after, g⟩)
    (hf : opAV E f = some (.val (.func (.func fid) first.toArray cap.toArray))) (ha : opAVs E args = some avs) (hn : Nat.blt d n = true) (he : Enters P fid) (hc : AC P fid (first.map .val ++ avs ++ cap.map .val) H Post)
    (k : ∀ r H', Post r H' → AQ I0 n D ((d, r) :: E) H' (wpList P ops Q rest)) : AQ I0 n D E H (wpList P ops Q (⟨some d, .call ⟨.value f, args.toArray, ts⟩, ty, pos, after, g⟩ :: rest)) := by
  intro I a w h1 h2 h3 h4 h5
  unfold wpList
  rw [if_pos (hw I a h4)]
  refine .inl ?_
  have hrun : (execOp a.eval ⟨some d, .call ⟨.value f, args.toArray, ts⟩, ty, pos, after, g⟩).run P w = .ok (.enter fid (first ++ args.map a.eval ++ cap).toArray) w := by
    have e1 : a.eval f = .func (.func fid) first.toArray cap.toArray := val_eq (opAV_ok h4 hf)
    simp only [execOp, resolve, e1, Deferred.ofValue, invoke, Sem.run_bind, Sem.run_pure, Result.andThen_ok]
    rw [he]
    simp
  unfold Oper.wp
  rw [hrun, Oper.upon_enter]
  refine (hc I w _ (((AVs.vals first).append (opAVs_ok h4 ha)).append (AVs.vals cap)) h5).mono ?_
  rintro e w' ⟨J, r, H', v, rfl, hl, hp, hok, hq⟩
  exact k r H' hq J _ w' (Imm.le_trans h1 hl) (by simp [Act.put, h2]) (by simp [Act.put, h3]) ((h4.mono hl).put (by rw [h2]; simpa [Nat.blt_eq] using hn) hp) hok
theorem AQ.call {fid : FuncId} {args : List Operand} {ts : Array TypeId} {avs : List AV} {Post : AV → List HA → Prop} (hw : Runs E ops ⟨some d, .call ⟨.value (.func fid), args.toArray, ts⟩, ty, pos, after, g⟩)
    (ha : opAVs E args = some avs) (hn : Nat.blt d n = true) (he : Enters P fid) (hc : AC P fid avs H Post)
    (k : ∀ r H', Post r H' → AQ I0 n D ((d, r) :: E) H' (wpList P ops Q rest)) : AQ I0 n D E H (wpList P ops Q (⟨some d, .call ⟨.value (.func fid), args.toArray, ts⟩, ty, pos, after, g⟩ :: rest)) :=
  AQ.callv (first := []) (cap := []) hw rfl ha hn he (by simpa using hc) k
/-- A function value is made. -/
theorem AQ.makeFunc {fn : Fn} {first cap : List Operand} {fs cs : List Value} (hw : Runs E ops ⟨some d, .makeFunc fn first.toArray cap.toArray, ty, pos, after, g⟩) (hf : opAVs E first = some (fs.map .val)) (hc : opAVs E cap = some (cs.map .val)) (hn : Nat.blt d n = true)
    (k : AQ I0 n D ((d, .val (.func fn fs.toArray cs.toArray)) :: E) H (wpList P ops Q rest)) : AQ I0 n D E H (wpList P ops Q (⟨some d, .makeFunc fn first.toArray cap.toArray, ty, pos, after, g⟩ :: rest)) := by
  have hv : ∀ (I : Imm) (l l' : List Value), AVs I (l.map .val) l' → l' = l := by
    intro I l
    induction l with
    | nil => intro l' h; cases l' with | nil => rfl | cons _ _ => exact h.elim
    | cons x l ih => intro l' h; cases l' with | nil => exact h.elim | cons y l' => rw [show y = x from h.1, ih l' h.2]
  exact AQ.pure hw rfl hn (fun I a w ha _ => ⟨_, by
    have e1 := hv I _ _ (opAVs_ok ha hf)
    have e2 := hv I _ _ (opAVs_ok ha hc)
    simp only [execOp, Instr.makeFunc, List.map_toArray, e1, e2, Sem.run_bind, Sem.run_pure, Result.andThen_ok], rfl⟩) k
end Go.Fx
set_option linter.unusedVariables false
set_option linter.unusedSimpArgs false
namespace Go.Fx
open Go
variable {P : Program} {I0 : Imm} {n : Nat} {D : List Deferred} {E : Env} {H : List HA} {Q : Exit → Act → World → Prop} {ops : Array Oper} {rest : List Oper}
  {d : Nat} {ty : TypeId} {pos : String} {after : Array Edge} {g : Option (Nat × Bool)}

/-! ### Memory that can be read -/
def Mem (I : Imm) (w : World) (b o : Nat) (l : List AV) : Prop := ∃ cs, Cells I l cs ∧ ∀ (j : Nat) (v : Value), cs[j]? = some v → w.cell? ⟨b, o + j, none⟩ = some v

theorem Mem.drop {I : Imm} {w : World} {b o : Nat} {l : List AV} (h : Mem I w b o l) (k : Nat) : Mem I w b (o + k) (l.drop k) := by
  obtain ⟨cs, h1, h2⟩ := h
  refine ⟨cs.drop k, h1.drop k, fun j v e => ?_⟩
  rw [List.getElem?_drop] at e
  rw [Nat.add_assoc]
  exact h2 _ v e
theorem Mem.take {I : Imm} {w : World} {b o : Nat} {l : List AV} (h : Mem I w b o l) (k : Nat) : Mem I w b o (l.take k) := by
  obtain ⟨cs, h1, h2⟩ := h
  refine ⟨cs.take k, h1.take k, fun j v e => ?_⟩
  rw [List.getElem?_take] at e
  split at e
  · exact h2 _ v e
  · cases e

theorem At.mem {I : Imm} {H : List HA} {w : World} {a : Addr} {l : List AV} (h : At I a l) (k : Ok I H w) : a.spot = none ∧ Mem I w a.block a.off l := by
  obtain ⟨hs, c, t, fr, cs, hm, ha, hc⟩ := h
  refine ⟨hs, cs, ha, fun j v e => ?_⟩
  have hb := k.imm _ _ hm
  have := hc j v e
  simp [World.cell?, hb, this]

/-- Is a type a struct or an array? Its cells. -/
def aggOf (P : Program) (t : TypeId) : Option (Bool × Nat) :=
  match P.underlying t, P.info? t with
  | some (.struct _), some i => some (true, i.size)
  | some (.array _ _), some i => some (true, i.size)
  | some _, some i => some (false, i.size)
  | _, _ => none

theorem run_isAgg {t : TypeId} {b : Bool} {s : Nat} (h : aggOf P t = some (b, s)) (w : World) : (isAgg t).run P w = .ok b w ∧ (sizeOf t).run P w = .ok s w := by
  unfold aggOf at h
  cases hu : P.underlying t with
  | none => rw [hu] at h; cases h
  | some u =>
    cases hi : P.info? t with
    | none => rw [hu, hi] at h; cases u <;> cases h
    | some i =>
      rw [hu, hi] at h
      constructor
      · simp only [isAgg, Sem.run_bind, run_underlying hu, Result.andThen_ok]
        cases u <;> simp at h <;> simp [h.1]
      · have : i.size = s := by cases u <;> simp at h <;> exact h.2
        simp [sizeOf, typeInfo, hi, this]

theorem run_loadVar_one {I : Imm} {w : World} {t : TypeId} {b o s : Nat} {x : AV} {l : List AV} (ht : aggOf P t = some (false, s)) (h : Mem I w b o (x :: l)) : ∃ v, (loadVar t ⟨b, o, none⟩).run P w = .ok v w ∧ x.p I v := by
  obtain ⟨cs, h1, h2⟩ := h
  cases cs with
  | nil => exact h1.1.elim
  | cons v cs =>
    refine ⟨v, ?_, h1.1.1⟩
    have := h2 0 v rfl
    simp [loadVar, (run_isAgg ht w).1, Nat.add_zero] at this ⊢
    rw [this]

theorem run_loadCells_mem {w : World} {b o : Nat} (cs : List Value) (h : ∀ (j : Nat) (v : Value), cs[j]? = some v → w.cell? ⟨b, o + j, none⟩ = some v) : (loadCells ⟨b, o, none⟩ cs.length).run P w = .ok cs.toArray w :=
  run_loadCells_list w ⟨b, o, none⟩ cs (fun j v e => by rw [Addr.add_lit]; exact h j v e)

theorem run_loadVar_agg {I : Imm} {w : World} {t : TypeId} {b o s : Nat} {l : List AV} (ht : aggOf P t = some (true, s)) (hs : l.length = s) (h : Mem I w b o l) : ∃ v, (loadVar t ⟨b, o, none⟩).run P w = .ok v w ∧ (AV.agg l).p I v := by
  obtain ⟨cs, h1, h2⟩ := h
  have hl := h1.length
  refine ⟨.agg cs.toArray, ?_, cs, rfl, h1⟩
  have := run_loadCells_mem (P := P) cs h2
  rw [hl, hs] at this
  simp [loadVar, (run_isAgg ht w).1, (run_isAgg ht w).2, this]

/-- Where a field lies. -/
def fieldOff (P : Program) (s : TypeId) (f : Nat) : Option Nat :=
  match P.underlying s with
  | some (.struct fs) => match fs[f]? with
    | some fld => match P.info? fld.type with
      | some i => if i.size = 0 then none else some fld.offset
      | none => none
    | none => none
  | _ => none
theorem run_fieldAt {s : TypeId} {f off : Nat} (h : fieldOff P s f = some off) (b o : Nat) (w : World) : (Instr.fieldAt s (.pointer (some ⟨b, o, none⟩)) f).run P w = .ok (.pointer (some ⟨b, o + off, none⟩)) w := by
  unfold fieldOff at h
  split at h
  · rename_i fs hu
    split at h
    · rename_i fld hf
      split at h
      · rename_i i hi
        split at h
        · cases h
        · rename_i hz
          injection h with h
          subst h
          simp [Instr.fieldAt, run_underlying hu, hf, Instr.sureAddr, fieldPlace, sizeOf, typeInfo, hi, hz, Addr.add_lit]
      · cases h
    · cases h
  · cases h

/-! ### Reading through a pointer into immutable memory -/
section
variable {t : TypeId} {x : Operand} {l : List AV}
theorem AQ.load1 {s : Nat} {av : AV} {r : List AV} (hw : Runs E ops ⟨some d, .load t x, ty, pos, after, g⟩) (hx : opAV E x = some (.addr l)) (hn : Nat.blt d n = true) (ht : aggOf P t = some (false, s)) (hl : l = av :: r)
    (k : AQ I0 n D ((d, av) :: E) H (wpList P ops Q rest)) : AQ I0 n D E H (wpList P ops Q (⟨some d, .load t x, ty, pos, after, g⟩ :: rest)) :=
  AQ.pure hw rfl hn (fun I a w ha ho => by
    obtain ⟨p, e, hat⟩ := opAV_ok ha hx
    obtain ⟨hs, hm⟩ := hat.mem ho
    obtain ⟨b, o, s⟩ := p
    cases hs
    subst hl
    obtain ⟨v, hr, hp⟩ := run_loadVar_one (P := P) ht hm
    exact ⟨v, by simp [execOp, e, Instr.loadAt, Instr.sureAddr, hr], hp⟩) k
theorem AQ.loadA {s : Nat} {l' : List AV} (hw : Runs E ops ⟨some d, .load t x, ty, pos, after, g⟩) (hx : opAV E x = some (.addr l)) (hn : Nat.blt d n = true) (ht : aggOf P t = some (true, s)) (hl : l.take s = l') (hs : l'.length = s)
    (k : AQ I0 n D ((d, .agg l') :: E) H (wpList P ops Q rest)) : AQ I0 n D E H (wpList P ops Q (⟨some d, .load t x, ty, pos, after, g⟩ :: rest)) :=
  AQ.pure hw rfl hn (fun I a w ha ho => by
    obtain ⟨p, e, hat⟩ := opAV_ok ha hx
    obtain ⟨hs', hm⟩ := hat.mem ho
    obtain ⟨b, o, s'⟩ := p
    cases hs'
    obtain ⟨v, hr, hp⟩ := run_loadVar_agg (P := P) ht hs (hl ▸ hm.take s)
    exact ⟨v, by simp [execOp, e, Instr.loadAt, Instr.sureAddr, hr], hp⟩) k
theorem At.drop {I : Imm} {b o : Nat} {l : List AV} (h : At I ⟨b, o, none⟩ l) (k : Nat) : At I ⟨b, o + k, none⟩ (l.drop k) := by
  obtain ⟨hs, c, t, fr, cs, hm, ha, hc⟩ := h
  refine ⟨rfl, c, t, fr, cs.drop k, hm, ha.drop k, fun j v e => ?_⟩
  rw [List.getElem?_drop] at e
  show c[o + k + j]? = _
  rw [Nat.add_assoc]
  exact hc _ v e
theorem At.take {I : Imm} {a : Addr} {l : List AV} (h : At I a l) (k : Nat) : At I a (l.take k) := by
  obtain ⟨hs, c, t, fr, cs, hm, ha, hc⟩ := h
  refine ⟨hs, c, t, fr, cs.take k, hm, ha.take k, fun j v e => ?_⟩
  rw [List.getElem?_take] at e
  split at e
  · exact hc _ v e
  · cases e
theorem AQ.fieldAddr {f off : Nat} {l' : List AV} (hw : Runs E ops ⟨some d, .fieldAddr t x f, ty, pos, after, g⟩) (hx : opAV E x = some (.addr l)) (hn : Nat.blt d n = true) (hf : fieldOff P t f = some off) (hl : l.drop off = l')
    (k : AQ I0 n D ((d, .addr l') :: E) H (wpList P ops Q rest)) : AQ I0 n D E H (wpList P ops Q (⟨some d, .fieldAddr t x f, ty, pos, after, g⟩ :: rest)) :=
  AQ.pure hw rfl hn (fun I a w ha ho => by
    obtain ⟨p, e, hat⟩ := opAV_ok ha hx
    have hs := hat.1
    obtain ⟨b, o, s⟩ := p
    cases hs
    subst hl
    exact ⟨_, by simp [execOp, e, run_fieldAt hf], ⟨b, o + off, none⟩, rfl, hat.drop off⟩) k
end

theorem flatten_drop_rows {n : Nat} : ∀ (rows : List (List AV)) (i : Nat), (∀ r ∈ rows, r.length = n) → i ≤ rows.length → rows.flatten.drop (i * n) = (rows.drop i).flatten
  | _, 0, _, _ => by simp
  | [], i + 1, _, h => by simp at h
  | r :: rows, i + 1, hn, h => by
    have hr : r.length = n := hn r (by simp)
    rw [List.flatten_cons, Nat.add_mul, Nat.one_mul, Nat.add_comm, ← hr, List.drop_length_add_append, List.drop_succ_cons, hr]
    exact flatten_drop_rows rows i (fun q hq => hn q (by simp [hq])) (by simpa using h)
theorem flatten_row {n : Nat} {rows : List (List AV)} {i : Nat} {r : List AV} (hn : ∀ r ∈ rows, r.length = n) (hi : rows[i]? = some r) : (rows.flatten.drop (i * n)).take n = r := by
  have hlt : i < rows.length := (List.getElem?_eq_some_iff.1 hi).1
  rw [flatten_drop_rows rows i hn (by omega), List.drop_eq_getElem_cons hlt, List.flatten_cons]
  have e : rows[i] = r := by rw [List.getElem?_eq_getElem hlt] at hi; exact Option.some.inj hi
  rw [e]
  have hr : r.length = n := hn r (e ▸ List.getElem_mem hlt)
  rw [← hr, List.take_left']
  rfl

/-! ### A slice that is immutable -/
section
variable {t e : TypeId} {x i : Operand} {m : Nat} {rows : List (List AV)}
theorem AQ.len {ts : Array TypeId} (hw : Runs E ops ⟨some d, .call ⟨.builtin .len, #[x], #[t]⟩, ty, pos, after, g⟩) (hx : opAV E x = some (.sl m rows)) (hn : Nat.blt d n = true) (ht : P.underlying t = some (.slice e))
    (k : AQ I0 n D ((d, .val (.int .i64 (rows.length : Int))) :: E) H (wpList P ops Q rest)) : AQ I0 n D E H (wpList P ops Q (⟨some d, .call ⟨.builtin .len, #[x], #[t]⟩, ty, pos, after, g⟩ :: rest)) :=
  AQ.pure hw rfl hn (fun I a w ha _ => by
    obtain ⟨A, cap, e1, _⟩ := opAV_ok ha hx
    exact ⟨_, by simp [execOp, resolve, invoke, builtin, e1, Builtin.len_, run_underlying ht, goInt], rfl⟩) k
theorem AQ.lens {s : ByteArray} (hw : Runs E ops ⟨some d, .call ⟨.builtin .len, #[x], #[t]⟩, ty, pos, after, g⟩) (hx : opAV E x = some (.val (.string s))) (hn : Nat.blt d n = true) (ht : P.underlying t = some .string)
    (k : AQ I0 n D ((d, .val (.int .i64 (s.size : Int))) :: E) H (wpList P ops Q rest)) : AQ I0 n D E H (wpList P ops Q (⟨some d, .call ⟨.builtin .len, #[x], #[t]⟩, ty, pos, after, g⟩ :: rest)) :=
  AQ.pure hw rfl hn (fun I a w ha _ => ⟨_, by simp [execOp, resolve, invoke, builtin, val_eq (opAV_ok ha hx), Builtin.len_, run_underlying ht, goInt], rfl⟩) k
theorem AQ.indexAddr {q : IntKind} {j : Int} {r : List AV} (hw : Runs E ops ⟨some d, .indexAddr t x i, ty, pos, after, g⟩) (hx : opAV E x = some (.sl m rows)) (hi : opAV E i = some (.val (.int q j))) (hn : Nat.blt d n = true)
    (ht : P.underlying t = some (.slice e)) {b : Bool} (he : aggOf P e = some (b, m)) (h0 : 0 ≤ j) (hr : rows[j.toNat]? = some r)
    (k : AQ I0 n D ((d, .addr r) :: E) H (wpList P ops Q rest)) : AQ I0 n D E H (wpList P ops Q (⟨some d, .indexAddr t x i, ty, pos, after, g⟩ :: rest)) :=
  AQ.pure hw rfl hn (fun I a w ha _ => by
    obtain ⟨A, cap, e1, hl, hm, hlen, hat0⟩ := opAV_ok ha hx
    have hlt : j.toNat < rows.length := (List.getElem?_eq_some_iff.1 hr).1
    obtain ⟨ad, rfl, hat⟩ := hat0 (by intro h; simp [h] at hlt)
    have hs := hat.1
    obtain ⟨bl, o, sp⟩ := ad
    cases hs
    refine ⟨.pointer (some ⟨bl, o + j.toNat * m, none⟩), ?_, _, rfl, ?_⟩
    · have hj : 0 ≤ j ∧ j < (rows.length : Int) := by omega
      simp [execOp, e1, val_eq (opAV_ok ha hi), Instr.indexAt, asIntOf, run_underlying ht, (run_isAgg he w).2, hj, Addr.add_lit]
    · have := (hat.drop (j.toNat * m)).take m
      rwa [flatten_row hlen hr] at this) k
/-- A byte of a string. -/
theorem AQ.indexs {q : IntKind} {j : Int} {s : ByteArray} {c : UInt8} (hw : Runs E ops ⟨some d, .index t x i, ty, pos, after, g⟩) (hx : opAV E x = some (.val (.string s))) (hi : opAV E i = some (.val (.int q j))) (hn : Nat.blt d n = true)
    (ht : P.underlying t = some .string) (h0 : 0 ≤ j) (hc : s[j.toNat]? = some c)
    (k : AQ I0 n D ((d, .val (.int .u8 (c.toNat : Int))) :: E) H (wpList P ops Q rest)) : AQ I0 n D E H (wpList P ops Q (⟨some d, .index t x i, ty, pos, after, g⟩ :: rest)) :=
  AQ.pure hw rfl hn (fun I a w ha _ => ⟨_, by simp [execOp, val_eq (opAV_ok ha hx), val_eq (opAV_ok ha hi), Instr.index, asIntOf, run_underlying ht, h0, hc], rfl⟩) k
end
end Go.Fx
set_option linter.unusedVariables false
set_option linter.unusedSimpArgs false
namespace Go.Fx
open Go
variable {P : Program} {I0 : Imm} {n : Nat} {D : List Deferred} {E : Env} {H : List HA} {Q : Exit → Act → World → Prop} {ops : Array Oper} {rest : List Oper}
  {d : Nat} {ty : TypeId} {pos : String} {after : Array Edge} {g : Option (Nat × Bool)}

/-! ### One thing of one's own, where it stands -/
theorem erase_perm {α : Type} : ∀ {l : List α} {k : Nat} {a : α}, l[k]? = some a → l.Perm (a :: l.eraseIdx k)
  | [], k, a, h => by simp at h
  | x :: l, 0, a, h => by simp at h; subst h; exact .refl _
  | x :: l, k + 1, a, h => by
    simp only [List.getElem?_cons_succ] at h
    exact ((erase_perm h).cons x).trans (.swap _ _ _)
theorem set_perm {α : Type} : ∀ {l : List α} {k : Nat} {a : α} (b : α), l[k]? = some a → (b :: l.eraseIdx k).Perm (l.set k b)
  | [], k, a, b, h => by simp at h
  | x :: l, 0, a, b, h => by simp
  | x :: l, k + 1, a, b, h => by
    simp only [List.getElem?_cons_succ] at h
    simp only [List.eraseIdx_cons_succ, List.set_cons_succ]
    exact (List.Perm.swap _ _ _).trans ((set_perm b h).cons x)

theorem Ok.at_ {I : Imm} {w : World} {k : Nat} {A : HA} (h : Ok I H w) (hk : H[k]? = some A) : Ok I (A :: H.eraseIdx k) w := h.perm (erase_perm hk)
theorem Ok.back {I : Imm} {w : World} {k : Nat} {A B : HA} (h : Ok I (B :: H.eraseIdx k) w) (hk : H[k]? = some A) : Ok I (H.set k B) w := h.perm (set_perm B hk)
theorem Ok.piece {I : Imm} {w : World} {k : Nat} {A : HA} (h : Ok I H w) (hk : H[k]? = some A) : ∃ h1 : Frag, A.p I h1 ∧ (∀ x ∈ h1, w.heap[x.1]? = some x.2 ∧ I.m x.1 = none) := by
  obtain ⟨f, ⟨h1, h2, rfl, k1, _⟩, hl⟩ := (h.at_ hk).own
  exact ⟨h1, k1, fun x hx => hl.2 x (by simp [hx])⟩

/-! ### Variables in memory -/
theorem box_mem {I : Imm} {w : World} {k b : Nat} {bt : TypeId} {l : List AV} (h : Ok I H w) (hk : H[k]? = some (.box b bt l)) :
    ∃ cs : List Value, Cells I l cs ∧ w.heap[b]? = some (.cells cs.toArray bt (0, 0)) ∧ Mem I w b 0 l := by
  obtain ⟨h1, ⟨cs, rfl, hc⟩, hl⟩ := h.piece hk
  have hb := (hl _ (List.mem_singleton.2 rfl)).1
  refine ⟨cs, hc, hb, cs, hc, fun j v e => ?_⟩
  simp only at hb
  simp [World.cell?, hb, e]

def One (a : AV) : Prop := ∀ (I : Imm) (v : Value), a.p I v → v.oneCell' = true
theorem One.val {v : Value} (h : v.oneCell' = true) : One (.val v) := fun _ _ e => by cases val_eq e; exact h
theorem One.sl {m : Nat} {rows : List (List AV)} : One (.sl m rows) := fun _ _ ⟨_, _, e, _⟩ => by rw [e]; rfl
theorem One.slS {m : Nat} {rows : List (List AV)} : One (.slS m rows) := fun I v h => One.sl I v h.1
theorem One.addr {l : List AV} : One (.addr l) := fun _ _ ⟨_, e, _⟩ => by rw [e]; rfl
theorem cells_one {v : Value} (h : v.oneCell' = true) : v.cells = #[v] := by cases v <;> first | rfl | cases h

theorem AQ.box1 {t : TypeId} {x : Operand} {av : AV} (hw : Runs E ops ⟨some d, .box t x, ty, pos, after, g⟩) (hx : opAV E x = some av) (h1 : One av) (hn : Nat.blt d n = true)
    (k : ∀ b, AQ I0 n D ((d, .val (.pointer (some ⟨b, 0, none⟩))) :: E) (.box b t [av] :: H) (wpList P ops Q rest)) : AQ I0 n D E H (wpList P ops Q (⟨some d, .box t x, ty, pos, after, g⟩ :: rest)) :=
  AQ.opx (X := Nat) (av := fun b => .val (.pointer (some ⟨b, 0, none⟩))) (H' := fun b => .box b t [av] :: H) hw rfl hn (fun I a w hI ha ho => by
    have hp := opAV_ok ha hx
    have ho1 := h1 I _ hp
    refine ⟨w.heap.size, _, w.alloc (.cells #[a.eval x] t), I, ?_, Imm.le_refl _, rfl, ho.alloc _ _ ⟨[a.eval x], rfl, Cells.one hp ho1⟩⟩
    simp [execOp, Instr.box, newVar, newRow, cells_one ho1]) k
theorem AQ.boxA {t : TypeId} {x : Operand} {l : List AV} (hw : Runs E ops ⟨some d, .box t x, ty, pos, after, g⟩) (hx : opAV E x = some (.agg l)) (hn : Nat.blt d n = true)
    (k : ∀ b, AQ I0 n D ((d, .val (.pointer (some ⟨b, 0, none⟩))) :: E) (.box b t l :: H) (wpList P ops Q rest)) : AQ I0 n D E H (wpList P ops Q (⟨some d, .box t x, ty, pos, after, g⟩ :: rest)) :=
  AQ.opx (X := Nat) (av := fun b => .val (.pointer (some ⟨b, 0, none⟩))) (H' := fun b => .box b t l :: H) hw rfl hn (fun I a w hI ha ho => by
    obtain ⟨cs, e, hc⟩ := opAV_ok ha hx
    refine ⟨w.heap.size, _, w.alloc (.cells cs.toArray t), I, ?_, Imm.le_refl _, rfl, ho.alloc _ _ ⟨cs, rfl, hc⟩⟩
    simp [execOp, Instr.box, newVar, newRow, e, Value.cells]) k
/-- A type's zero value: its cells. -/
def zeroOf (P : Program) (t : TypeId) : Option (List Value) := (P.info? t).bind fun i => i.zero.map fun z => z.cells.toList
theorem run_zero {t : TypeId} {zs : List Value} (h : zeroOf P t = some zs) (w : World) : ∃ z, (zeroValue t).run P w = .ok z w ∧ z.cells.toList = zs := by
  unfold zeroOf at h
  cases hi : P.info? t with
  | none => rw [hi] at h; cases h
  | some i =>
    rw [hi] at h
    cases hz : i.zero with
    | none => simp [hz] at h
    | some z => exact ⟨z, by simp [zeroValue, typeInfo, hi, hz], by simpa [hz] using h⟩
theorem AQ.alloc {t : TypeId} {zs : List Value} (hw : Runs E ops ⟨some d, .alloc t, ty, pos, after, g⟩) (hz : zeroOf P t = some zs) (h1 : zs.all (·.oneCell') = true) (hn : Nat.blt d n = true)
    (k : ∀ b, AQ I0 n D ((d, .val (.pointer (some ⟨b, 0, none⟩))) :: E) (.box b t (zs.map .val) :: H) (wpList P ops Q rest)) : AQ I0 n D E H (wpList P ops Q (⟨some d, .alloc t, ty, pos, after, g⟩ :: rest)) :=
  AQ.opx (X := Nat) (av := fun b => .val (.pointer (some ⟨b, 0, none⟩))) (H' := fun b => .box b t (zs.map .val) :: H) hw rfl hn (fun I a w hI ha ho => by
    obtain ⟨z, hr, hzc⟩ := run_zero (P := P) hz w
    refine ⟨w.heap.size, _, w.alloc (.cells z.cells t), I, ?_, Imm.le_refl _, rfl, ho.alloc _ _ ⟨zs, by rw [← hzc], AVs.vals zs, by simpa using h1⟩⟩
    simp [execOp, Instr.alloc, newVar, newRow, hr]) k

section
variable {t bt : TypeId} {x y : Operand} {b o i s : Nat} {l : List AV}
theorem AQ.fieldv {f off o' : Nat} (hw : Runs E ops ⟨some d, .fieldAddr t x f, ty, pos, after, g⟩) (hx : opAV E x = some (.val (.pointer (some ⟨b, o, none⟩)))) (hn : Nat.blt d n = true) (hf : fieldOff P t f = some off) (ho : o + off = o')
    (k : AQ I0 n D ((d, .val (.pointer (some ⟨b, o', none⟩))) :: E) H (wpList P ops Q rest)) : AQ I0 n D E H (wpList P ops Q (⟨some d, .fieldAddr t x f, ty, pos, after, g⟩ :: rest)) :=
  AQ.pure hw rfl hn (fun I a w ha _ => ⟨_, by simp [execOp, val_eq (opAV_ok ha hx), run_fieldAt hf, ho], rfl⟩) k
theorem AQ.nilCheck (hw : Runs E ops ⟨some d, .nilCheck x, ty, pos, after, g⟩) (hx : opAV E x = some (.val (.pointer (some ⟨b, o, none⟩)))) (hn : Nat.blt d n = true)
    (k : AQ I0 n D ((d, .val (.pointer (some ⟨b, o, none⟩))) :: E) H (wpList P ops Q rest)) : AQ I0 n D E H (wpList P ops Q (⟨some d, .nilCheck x, ty, pos, after, g⟩ :: rest)) :=
  AQ.pure hw rfl hn (fun I a w ha _ => ⟨_, by simp [execOp, val_eq (opAV_ok ha hx)], rfl⟩) k
theorem AQ.loadv1 {av : AV} (hw : Runs E ops ⟨some d, .load t x, ty, pos, after, g⟩) (hx : opAV E x = some (.val (.pointer (some ⟨b, o, none⟩)))) (i : Nat) (hi : H[i]? = some (.box b bt l)) (hn : Nat.blt d n = true) (ht : aggOf P t = some (false, s)) (hl : l[o]? = some av)
    (k : AQ I0 n D ((d, av) :: E) H (wpList P ops Q rest)) : AQ I0 n D E H (wpList P ops Q (⟨some d, .load t x, ty, pos, after, g⟩ :: rest)) :=
  AQ.pure hw rfl hn (fun I a w ha ho => by
    obtain ⟨cs, hc, hb, hm⟩ := box_mem ho hi
    have hm' := hm.drop o
    have hlt : o < l.length := (List.getElem?_eq_some_iff.1 hl).1
    have hg : l[o] = av := (List.getElem?_eq_some_iff.1 hl).2
    rw [List.drop_eq_getElem_cons hlt, hg, Nat.zero_add] at hm'
    obtain ⟨v, hr, hp⟩ := run_loadVar_one (P := P) ht hm'
    exact ⟨v, by simp [execOp, val_eq (opAV_ok ha hx), Instr.loadAt, Instr.sureAddr, hr], hp⟩) k
theorem AQ.loadvA {l' : List AV} (hw : Runs E ops ⟨some d, .load t x, ty, pos, after, g⟩) (hx : opAV E x = some (.val (.pointer (some ⟨b, o, none⟩)))) (i : Nat) (hi : H[i]? = some (.box b bt l)) (hn : Nat.blt d n = true) (ht : aggOf P t = some (true, s)) (hl : (l.drop o).take s = l') (hs : l'.length = s)
    (k : AQ I0 n D ((d, .agg l') :: E) H (wpList P ops Q rest)) : AQ I0 n D E H (wpList P ops Q (⟨some d, .load t x, ty, pos, after, g⟩ :: rest)) :=
  AQ.pure hw rfl hn (fun I a w ha ho => by
    obtain ⟨cs, hc, hb, hm⟩ := box_mem ho hi
    have hm' := (hm.drop o).take s
    rw [hl, Nat.zero_add] at hm'
    obtain ⟨v, hr, hp⟩ := run_loadVar_agg (P := P) ht hs hm'
    exact ⟨v, by simp [execOp, val_eq (opAV_ok ha hx), Instr.loadAt, Instr.sureAddr, hr], hp⟩) k

theorem heap_setCell_same {w : World} {b o : Nat} {c : Array Value} {bt : TypeId} {fr : Nat × Nat} (h : w.heap[b]? = some (.cells c bt fr)) (v : Value) : (w.setCell ⟨b, o, none⟩ v).heap[b]? = some (.cells (c.setIfInBounds o v) bt fr) := by
  simp [World.setCell, Array.getElem?_modify, h]
theorem heap_setCell_other {w : World} {b o c : Nat} (h : c ≠ b) (v : Value) : (w.setCell ⟨b, o, none⟩ v).heap[c]? = w.heap[c]? := by
  simp only [World.setCell, Array.getElem?_modify]
  rw [if_neg (fun e => h e.symm)]

/-- A store of one cell into a block of one's own. -/
theorem run_store_own {w : World} {b o : Nat} {c : Array Value} {bt : TypeId} {v : Value} (h : w.heap[b]? = some (.cells c bt (0, 0))) (ho : o < c.size) (h1 : v.oneCell' = true) (m : Mode := .plain) :
    (store ⟨b, o, none⟩ v m).run P w = .ok () (w.setCell ⟨b, o, none⟩ v) := by
  rw [run_store P w _ v m h1]
  simp [World.cell?, World.frozen?, h, ho]

theorem run_storeVar1 {w : World} {b o : Nat} {c : Array Value} {bt t : TypeId} {v : Value} {q : Bool} (ht : aggOf P t = some (q, 1)) (h : w.heap[b]? = some (.cells c bt (0, 0))) (ho : o < c.size) (h1 : v.oneCell' = true) :
    (storeVar t ⟨b, o, none⟩ v).run P w = .ok () (w.setCell ⟨b, o, none⟩ v) := by
  simp only [storeVar, cells_one h1, Sem.run_bind, (run_isAgg ht w).2, Result.andThen_ok]
  have h1s : ¬ ((#[v] : Array Value).size ≠ 1) := by simp
  rw [if_neg h1s]
  simp only [storeCells, List.toList_toArray, Addr.add_lit, Nat.add_zero, Sem.run_bind, run_store_own h ho h1, Result.andThen_ok, Sem.run_pure]

theorem AQ.storev1 {av : AV} {q : Bool} (hw : Runs E ops ⟨none, .store t x y, ty, pos, after, g⟩) (hx : opAV E x = some (.val (.pointer (some ⟨b, o, none⟩)))) (i : Nat) (hi : H[i]? = some (.box b bt l)) (hy : opAV E y = some av) (h1 : One av) (ht : aggOf P t = some (q, 1)) (hlt : Nat.blt o l.length = true)
    (k : AQ I0 n D E (H.set i (.box b bt (l.set o av))) (wpList P ops Q rest)) : AQ I0 n D E H (wpList P ops Q (⟨none, .store t x y, ty, pos, after, g⟩ :: rest)) :=
  AQ.op0 hw rfl (fun I a w _ ha ho => by
    obtain ⟨cs, hc, hb, _⟩ := box_mem ho hi
    have hp := opAV_ok ha hy
    have ho1 := h1 I _ hp
    have hlen := hc.length
    have hlt' : o < l.length := by simpa [Nat.blt_eq] using hlt
    refine ⟨.skip, w.setCell ⟨b, o, none⟩ (a.eval y), I, ?_, .inl rfl, Imm.le_refl _, Ok.back (A := .box b bt l) ?_ hi⟩
    · simp [execOp, val_eq (opAV_ok ha hx), Instr.storeAt, Instr.sureAddr, run_storeVar1 ht hb (by simpa using (by omega : o < cs.length)) ho1]
    · refine Ok.change (A := .box b bt l) (b := b) (o := .cells cs.toArray bt (0, 0)) (o' := .cells (cs.set o (a.eval y)).toArray bt (0, 0)) (ho.at_ hi) rfl rfl rfl ?_ ?_ ?_ ?_
      · rintro h1 ⟨cs', rfl, _⟩ hw'
        have := hw' _ (List.mem_singleton.2 rfl)
        simp only at this
        rw [hb] at this
        rw [Option.some.inj this]
      · rw [heap_setCell_same hb]; simp
      · intro c hcb x hx; rw [heap_setCell_other hcb]; exact hx
      · exact ⟨_, rfl, hc.set o hp ho1⟩) k
/-- Several cells behind one another. -/
def splice {α : Type} (l : List α) (o : Nat) (m : List α) : List α := l.take o ++ m ++ l.drop (o + m.length)
theorem splice_length {α : Type} {l m : List α} {o : Nat} (h : o + m.length ≤ l.length) : (splice l o m).length = l.length := by
  simp only [splice, List.length_append, List.length_take, List.length_drop]; omega
theorem Cells.splice {I : Imm} {l m : List AV} {cs ds : List Value} (h : Cells I l cs) (k : Cells I m ds) (o : Nat) : Cells I (splice l o m) (Fx.splice cs o ds) := by
  unfold Fx.splice
  rw [k.length]
  exact ((h.take o).append k).append (h.drop _)

theorem run_storeCells_own {b : Nat} {bt : TypeId} : ∀ (ds : List Value) (o i : Nat) {w : World} {cs : List Value}, w.heap[b]? = some (.cells cs.toArray bt (0, 0)) → o + i + ds.length ≤ cs.length → (∀ c ∈ ds, c.oneCell' = true) →
    ∃ w', (storeCells ⟨b, o, none⟩ ds i).run P w = .ok () w' ∧ w'.heap[b]? = some (.cells (Fx.splice cs (o + i) ds).toArray bt (0, 0)) ∧ (∀ c : Nat, c ≠ b → w'.heap[c]? = w.heap[c]?) ∧ w'.os = w.os ∧ w'.tape = w.tape ∧ w'.output = w.output
  | [], o, i, w, cs, h, _, _ => ⟨w, by simp [storeCells], by simpa [Fx.splice] using h, fun _ _ => rfl, rfl, rfl, rfl⟩
  | v :: ds, o, i, w, cs, h, hl, h1 => by
    simp only [List.length_cons] at hl
    have hs := run_store_own (P := P) (o := o + i) h (by simp; omega) (h1 v (by simp))
    obtain ⟨w', hr, hb, hk, q1, q2, q3⟩ := run_storeCells_own (b := b) (bt := bt) ds o (i + 1) (w := w.setCell ⟨b, o + i, none⟩ v) (cs := cs.set (o + i) v) (by rw [heap_setCell_same h]; simp) (by simp; omega) (fun c hc => h1 c (by simp [hc]))
    refine ⟨w', ?_, ?_, ?_, q1, q2, q3⟩
    · simp only [storeCells, Addr.add_lit, Sem.run_bind, hs, Result.andThen_ok]
      exact hr
    · rw [hb]
      congr 3
      unfold Fx.splice
      have e1 : (cs.set (o + i) v).take (o + (i + 1)) = cs.take (o + i) ++ [v] := by
        rw [show o + (i + 1) = (o + i) + 1 by omega, List.take_add_one, List.take_set_of_le (Nat.le_refl _)]
        rw [List.getElem?_set_self (by omega)]
        rfl
      have e2 : (cs.set (o + i) v).drop (o + (i + 1) + ds.length) = cs.drop (o + i + (v :: ds).length) := by
        rw [List.drop_set_of_lt (by omega)]
        congr 1
        simp only [List.length_cons]; omega
      rw [e1, e2]
      simp
    · intro c hc
      rw [hk c hc, heap_setCell_other hc]

theorem AQ.storevA {m : List AV} {q : Bool} (hw : Runs E ops ⟨none, .store t x y, ty, pos, after, g⟩) (hx : opAV E x = some (.val (.pointer (some ⟨b, o, none⟩)))) (i : Nat) (hi : H[i]? = some (.box b bt l)) (hy : opAV E y = some (.agg m)) (ht : aggOf P t = some (q, s)) (hm : m.length = s) (hlt : Nat.ble (o + s) l.length = true)
    (k : AQ I0 n D E (H.set i (.box b bt (Fx.splice l o m))) (wpList P ops Q rest)) : AQ I0 n D E H (wpList P ops Q (⟨none, .store t x y, ty, pos, after, g⟩ :: rest)) :=
  AQ.op0 hw rfl (fun I a w _ ha ho => by
    obtain ⟨cs, hc, hb, _⟩ := box_mem ho hi
    obtain ⟨ds, e, hd⟩ := opAV_ok ha hy
    have hlen := hc.length
    have hdl := hd.length
    have hlt' : o + s ≤ l.length := Nat.le_of_ble_eq_true hlt
    obtain ⟨w', hr, hb', hk, q1, q2, q3⟩ := run_storeCells_own (P := P) ds o 0 hb (by omega) hd.2
    refine ⟨.skip, w', I, ?_, .inl rfl, Imm.le_refl _, Ok.back (A := .box b bt l) ?_ hi⟩
    · have hsz : ¬ ((ds.toArray).size ≠ s) := by simp; omega
      simp only [execOp, val_eq (opAV_ok ha hx), e, Instr.storeAt, Instr.sureAddr, storeVar, Value.cells, Sem.run_bind, Sem.run_pure, Result.andThen_ok, (run_isAgg ht w).2]
      rw [if_neg hsz]
      simp [hr]
    · refine Ok.change (A := .box b bt l) (b := b) (o := .cells cs.toArray bt (0, 0)) (ho.at_ hi) q1 q2 q3 ?_ hb' ?_ ?_
      · rintro h1 ⟨cs', rfl, _⟩ hw'
        have := hw' _ (List.mem_singleton.2 rfl)
        simp only at this
        rw [hb] at this
        rw [Option.some.inj this]
      · intro c hcb z hz; rw [hk c hcb]; exact hz
      · exact ⟨_, rfl, by simpa using hc.splice hd o⟩) k
end

/-! ### Slices of one's own -/
theorem osl_slice {I : Imm} {w : World} {k : Nat} {v : Value} {e : TypeId} {m : Nat} {rows : List (List AV)} (h : Ok I H w) (hk : H[k]? = some (.osl v e m rows)) :
    ∃ A cap, v = .slice A rows.length cap ∧ rows.length ≤ cap ∧ cap ≤ 9223372036854775807 ∧ (∀ r ∈ rows, r.length = m) ∧
      (rows ≠ [] → ∃ b cs, A = some ⟨b, 0, none⟩ ∧ w.heap[b]? = some (.cells cs e (0, 0)) ∧ cap * m ≤ cs.size ∧ Cells I rows.flatten (cs.toList.take (rows.length * m))) := by
  obtain ⟨h1, hp, hl⟩ := h.piece hk
  rcases hp with ⟨A, rfl, rfl, rfl⟩ | ⟨b, cap, cs, rfl, rfl, h3, h4, h5, h6, h7⟩
  · exact ⟨A, 0, rfl, Nat.le_refl _, by omega, by simp, fun h => (h rfl).elim⟩
  · exact ⟨_, cap, rfl, h3, h4, h7, fun _ => ⟨b, cs, rfl, (hl _ (List.mem_singleton.2 rfl)).1, h5, h6⟩⟩

theorem row_mem {I : Imm} {w : World} {b : Nat} {e : TypeId} {cs : Array Value} {rows : List (List AV)} {m : Nat} (hb : w.heap[b]? = some (.cells cs e (0, 0))) (hc : Cells I rows.flatten (cs.toList.take (rows.length * m))) : Mem I w b 0 rows.flatten := by
  refine ⟨_, hc, fun j v ej => ?_⟩
  rw [List.getElem?_take] at ej
  split at ej
  · simp only [World.cell?, hb]
    simpa using ej
  · cases ej

/-- A slice that can be read, of whatever make. -/
def Rd (I : Imm) (w : World) (v : Value) (m : Nat) (rows : List (List AV)) : Prop :=
  ∃ A cap, v = .slice A rows.length cap ∧ (∀ r ∈ rows, r.length = m) ∧ (rows ≠ [] → ∃ b o, A = some ⟨b, o, none⟩ ∧ Mem I w b o rows.flatten)
theorem sl_rd {I : Imm} {w : World} {v : Value} {m : Nat} {rows : List (List AV)} (ho : Ok I H w) (h : (AV.sl m rows).p I v) : Rd I w v m rows := by
  obtain ⟨A, cap, e1, hl, hm, hlen, hat⟩ := h
  refine ⟨A, cap, e1, hlen, fun hr => ?_⟩
  obtain ⟨ad, rfl, ha⟩ := hat hr
  obtain ⟨hs, hmem⟩ := ha.mem ho
  obtain ⟨b, o, s⟩ := ad
  cases hs
  exact ⟨b, o, rfl, hmem⟩
theorem osl_rd {I : Imm} {w : World} {k : Nat} {v : Value} {e : TypeId} {m : Nat} {rows : List (List AV)} (h : Ok I H w) (hk : H[k]? = some (.osl v e m rows)) : Rd I w v m rows := by
  obtain ⟨A, cap, rfl, h1, h2, h3, h4⟩ := osl_slice h hk
  refine ⟨A, cap, rfl, h3, fun hr => ?_⟩
  obtain ⟨b, cs, rfl, hb, hs, hc⟩ := h4 hr
  exact ⟨b, 0, rfl, row_mem hb hc⟩

theorem run_firstCells_rd {I : Imm} {w : World} {v : Value} {m : Nat} {rows : List (List AV)} (h : Rd I w v m rows) : ∃ cs, (∀ w2 : World, w2.heap = w.heap → (Builtin.firstCells m rows.length v).run P w2 = .ok cs.toArray w2) ∧ Cells I rows.flatten cs := by
  obtain ⟨A, cap, rfl, hn, hm⟩ := h
  by_cases hr : rows = []
  · subst hr
    refine ⟨[], fun w2 _ => ?_, Cells.nil I⟩
    cases A with
    | none => simp [Builtin.firstCells]
    | some a => simp [Builtin.firstCells, loadCells, loadCellsFrom]
  · obtain ⟨b, o, rfl, cs, hc, hcell⟩ := hm hr
    refine ⟨cs, fun w2 hw2 => ?_, hc⟩
    have hl : cs.length = rows.length * m := by
      rw [hc.length, List.length_flatten]
      clear hm hc hr
      induction rows with
      | nil => simp
      | cons r rows ih =>
        rw [List.map_cons, List.sum_cons, ih (fun q hq => hn q (by simp [hq])), hn r (by simp), List.length_cons, Nat.add_mul, Nat.one_mul, Nat.add_comm]
    simp only [Builtin.firstCells]
    rw [← hl]
    exact run_loadCells_mem cs (fun j v e => by have := hcell j v e; simp only [World.cell?, hw2] at this ⊢; exact this)
end Go.Fx
set_option linter.unusedVariables false
set_option linter.unusedSimpArgs false
namespace Go.Fx
open Go
variable {P : Program} {I0 : Imm} {n : Nat} {D : List Deferred} {E : Env} {H : List HA} {Q : Exit → Act → World → Prop} {ops : Array Oper} {rest : List Oper}
  {d : Nat} {ty : TypeId} {pos : String} {after : Array Edge} {g : Option (Nat × Bool)}

/-- An operand that is a slice that can be read. -/
def RdOp (E : Env) (H : List HA) (x : Operand) (m : Nat) (rows : List (List AV)) : Prop := ∀ (I : Imm) (a : Act) (w : World), EnvOk I E a → Ok I H w → Rd I w (a.eval x) m rows
theorem RdOp.sl {x : Operand} {m : Nat} {rows : List (List AV)} (hx : opAV E x = some (.sl m rows)) : RdOp E H x m rows := fun _ _ _ ha ho => sl_rd ho (opAV_ok ha hx)
theorem RdOp.slS {x : Operand} {m : Nat} {rows : List (List AV)} (hx : opAV E x = some (.slS m rows)) : RdOp E H x m rows := fun _ _ _ ha ho => sl_rd ho (opAV_ok ha hx).1
theorem RdOp.osl {x : Operand} {m : Nat} {e : TypeId} {v : Value} {rows : List (List AV)} (hx : opAV E x = some (.val v)) (i : Nat) (hi : H[i]? = some (.osl v e m rows)) : RdOp E H x m rows :=
  fun _ _ _ ha ho => by rw [val_eq (opAV_ok ha hx)]; exact osl_rd ho hi

theorem AQ.lenr {t e : TypeId} {x : Operand} {m : Nat} {rows : List (List AV)} (hw : Runs E ops ⟨some d, .call ⟨.builtin .len, #[x], #[t]⟩, ty, pos, after, g⟩) (hx : RdOp E H x m rows) (hn : Nat.blt d n = true) (ht : P.underlying t = some (.slice e))
    (k : AQ I0 n D ((d, .val (.int .i64 (rows.length : Int))) :: E) H (wpList P ops Q rest)) : AQ I0 n D E H (wpList P ops Q (⟨some d, .call ⟨.builtin .len, #[x], #[t]⟩, ty, pos, after, g⟩ :: rest)) :=
  AQ.pure hw rfl hn (fun I a w ha ho => by
    obtain ⟨A, cap, e1, _⟩ := hx I a w ha ho
    exact ⟨_, by simp [execOp, resolve, invoke, builtin, e1, Builtin.len_, run_underlying ht, goInt], rfl⟩) k

/-- A type of elements: its cells, its bytes; its zero value has as many cells. -/
def elemOf (P : Program) (e : TypeId) : Option (Nat × Nat) :=
  match P.info? e with
  | some i => match i.zero with
    | some z => if z.cells.size = i.size then some (i.size, i.bytes) else none
    | none => none
  | none => none
theorem elem_info {e : TypeId} {m bytes : Nat} (h : elemOf P e = some (m, bytes)) : ∃ i z, P.info? e = some i ∧ i.size = m ∧ i.bytes = bytes ∧ i.zero = some z ∧ z.cells.size = m := by
  unfold elemOf at h
  split at h
  · rename_i i hi
    split at h
    · rename_i z hz
      split at h
      · rename_i hs
        injection h with h
        injection h with h1 h2
        exact ⟨i, z, hi, h1, h2, hz, hs.trans h1⟩
      · cases h
    · cases h
  · cases h

theorem flatten_length {m : Nat} : ∀ {rows : List (List AV)}, (∀ r ∈ rows, r.length = m) → rows.flatten.length = rows.length * m
  | [], _ => by simp
  | r :: rows, h => by
    rw [List.flatten_cons, List.length_append, flatten_length (fun q hq => h q (by simp [hq])), h r (by simp), List.length_cons, Nat.add_mul, Nat.one_mul, Nat.add_comm]

theorem run_append_grow_fx {w : World} {t e ty : TypeId} {i : TypeInfo} {z : Value} (ht : P.underlying t = some (.slice e)) (hi : P.info? e = some i) (hz : i.zero = some z) {B A : Option Addr} {sLen sCap k c : Nat} {olds news : List Value}
    (ho : ∀ w2 : World, w2.heap = w.heap → (Builtin.firstCells i.size sLen (.slice B sLen sCap)).run P w2 = .ok olds.toArray w2) (hne : ∀ w2 : World, w2.heap = w.heap → (Builtin.firstCells i.size k (.slice A k c)).run P w2 = .ok news.toArray w2)
    (hg : sCap < sLen + k) (h63 : sLen + k ≤ 9223372036854775807) (hfit : Builtin.nextslicecap (sLen + k) sCap * i.bytes ≤ 281474976710656) :
    (Builtin.append_ #[t, t] ty #[.slice B sLen sCap, .slice A k c]).run P w =
      .ok (.slice (some ⟨w.heap.size, 0, none⟩) (sLen + k) (grownCap w (sLen + k) sCap e)) (w.drew.alloc (.cells (olds ++ news ++ (Builtin.zeroCells z.cells (grownCap w (sLen + k) sCap e - (sLen + k))).toList).toArray e)) := by
  have hn : ¬ (sLen + k ≤ sCap) := by omega
  have h63' : ¬ (9223372036854775807 < ((sLen : Int) + (k : Int))) := by omega
  have h48' : ¬ (281474976710656 < Builtin.nextslicecap (sLen + k) sCap * i.bytes) := by omega
  simp [Builtin.append_, run_underlying ht, sizeOf, typeInfo, zeroValue, hi, hz, Builtin.lenOf, hn, h63', h48', Question.forced, hne w.drew rfl, ho w.drew rfl, newRow, grownCap]
  congr 2
  apply Array.ext'
  simp [List.append_assoc]

/-- append onto a slice of one's own. -/
theorem run_append_fx {I : Imm} {w : World} {v x : Value} {t e ty : TypeId} {m bytes : Nat} {rows rows' : List (List AV)} (ht : P.underlying t = some (.slice e)) (he : elemOf P e = some (m, bytes)) (hm0 : 0 < m)
    (ho : Ok I (.osl v e m rows :: H) w) (hx : Rd I w x m rows') (hsz : (rows.length + rows'.length) * bytes ≤ 140737488355328) (hb0 : 0 < bytes) :
    ∃ v' w', (Builtin.append_ #[t, t] ty #[v, x]).run P w = .ok v' w' ∧ Ok I (.osl v' e m (rows ++ rows') :: H) w' := by
  obtain ⟨i, z, hi, rfl, rfl, hz, hzs⟩ := elem_info he
  obtain ⟨cs, hcs, hcc⟩ := run_firstCells_rd (P := P) hx
  have hrv : Rd I w v i.size rows := osl_rd ho (k := 0) rfl
  obtain ⟨os, hos, hoc⟩ := run_firstCells_rd (P := P) hrv
  obtain ⟨A, cap, rfl, hlen', hmem'⟩ := hx
  have hlenc : cs.length = rows'.length * i.size := by rw [hcc.length, flatten_length hlen']
  have hsum : rows.length + rows'.length ≤ 140737488355328 := Nat.le_trans (Nat.le_mul_of_pos_right _ hb0) hsz
  obtain ⟨A', cap', rfl, hlc, hcm', hlen, _⟩ := osl_slice ho (k := 0) rfl
  have hleno : os.length = rows.length * i.size := by rw [hoc.length, flatten_length hlen]
  have hrows : ∀ r ∈ rows ++ rows', r.length = i.size := fun r hr => (List.mem_append.1 hr).elim (hlen r) (hlen' r)
  by_cases hroom : rows.length + rows'.length ≤ cap'
  · -- there is room
    by_cases h0 : rows' = []
    · subst h0
      have hc0 : cs = [] := List.eq_nil_of_length_eq_zero (by simpa using hlenc)
      subst hc0
      simp only [List.length_nil, Nat.add_zero] at hroom hcs ⊢
      refine ⟨.slice A' rows.length cap', w, ?_, by simpa using ho⟩
      cases A' <;> simp [Builtin.append_, run_underlying ht, sizeOf, typeInfo, hi, Builtin.lenOf, hcs w rfl, storeCells, hroom]
    · obtain ⟨f, ⟨h1, h2, rfl, k1, k2⟩, hl⟩ := ho.own
      rcases k1 with ⟨A'', e1, rfl, rfl⟩ | ⟨b, cap'', cs', rfl, e1, h3, h4, h5, h6, h7⟩
      · injection e1 with e1 e2 e3
        subst e3
        have : 0 < rows'.length := List.length_pos_iff.2 h0
        omega
      · injection e1 with e1 e2 e3
        subst e1
        subst e3
        have hb := (hl.2 (b, .cells cs' e (0, 0)) (by simp)).1
        simp only at hb
        have hb' : w.heap[b]? = some (.cells cs'.toList.toArray e (0, 0)) := by simpa using hb
        have hfit : rows.length * i.size + 0 + cs.length ≤ cs'.toList.length := by
          have hl5 : cap' * i.size ≤ cs'.toList.length := by simpa using h5
          refine Nat.le_trans ?_ hl5
          rw [hlenc, Nat.add_zero, ← Nat.add_mul]
          exact Nat.mul_le_mul_right _ hroom
        obtain ⟨w', hr, hbn, hk, q1, q2, q3⟩ := run_storeCells_own (P := P) cs (rows.length * i.size) 0 hb' hfit hcc.2
        refine ⟨.slice (some ⟨b, 0, none⟩) (rows.length + rows'.length) cap', w', ?_, ?_⟩
        · have hadd : (⟨b, 0, none⟩ : Addr).add (rows.length * i.size) = ⟨b, rows.length * i.size, none⟩ := by rw [Addr.add_lit, Nat.zero_add]
          simp [Builtin.append_, run_underlying ht, sizeOf, typeInfo, hi, Builtin.lenOf, hcs w rfl, hroom, hadd, hr]
        · refine Ok.change (A := .osl (.slice (some ⟨b, 0, none⟩) rows.length cap') e i.size rows) (b := b) (o := .cells cs' e (0, 0)) ho q1 q2 q3 ?_ hbn ?_ ?_
          · rintro h1 hp hw'
            rcases hp with ⟨A'', e1, rfl, rfl⟩ | ⟨b2, cap2, cs2, rfl, e1, _⟩
            · injection e1 with e1 e2 e3
              subst e3
              have : 0 < rows'.length := List.length_pos_iff.2 h0
              simp at hroom
              exact absurd hroom h0
            · injection e1 with e1 e2 e3
              injection e1 with e1
              injection e1 with e1
              subst e1
              have := hw' _ (List.mem_singleton.2 rfl)
              simp only at this
              rw [hb] at this
              rw [Option.some.inj this]
          · intro c hcb x hx2; rw [hk c hcb]; exact hx2
          · refine .inr ⟨b, cap', _, rfl, by simp, by simpa using hroom, hcm', ?_, ?_, hrows⟩
            · rw [List.size_toArray, Fx.splice_length (by simpa using hfit)]; simpa using h5
            · rw [List.flatten_append]
              have : (Fx.splice cs'.toList (rows.length * i.size + 0) cs).take ((rows ++ rows').length * i.size) = cs'.toList.take (rows.length * i.size) ++ cs := by
                unfold Fx.splice
                rw [Nat.add_zero, List.take_left']
                rw [List.length_append, List.length_take, hlenc, List.length_append, Nat.add_mul]
                rw [Nat.min_eq_left (by omega)]
              rw [this]
              exact h6.append hcc
  · -- a new row
    have hg : cap' < rows.length + rows'.length := by omega
    have hfit := growslice_fits (bytes := i.bytes) hg hsz
    have hr := run_append_grow_fx (P := P) (ty := ty) (w := w) ht hi hz hos hcs hg (by omega) hfit
    have hge := grownCap_ge w (rows.length + rows'.length) cap' e
    have hcm := grownCap_le_maxLen w (rows.length + rows'.length) cap' e (by simp only [maxLen]; omega)
    refine ⟨_, _, hr, ?_⟩
    refine Ok.alloc (ho.drop.drew) _ _ (.inr ⟨_, grownCap w (rows.length + rows'.length) cap' e, _, rfl, by simp, by simpa using hge, by simpa [maxLen] using hcm, ?_, ?_, hrows⟩)
    · rw [List.size_toArray, List.length_append, List.length_append, hleno, hlenc, show (Builtin.zeroCells z.cells (grownCap w (rows.length + rows'.length) cap' e - (rows.length + rows'.length))).toList.length = (grownCap w (rows.length + rows'.length) cap' e - (rows.length + rows'.length)) * i.size by simp [size_zeroCells, hzs], ← Nat.add_mul, ← Nat.add_mul]
      exact Nat.mul_le_mul_right _ (by omega)
    · rw [List.flatten_append]
      have : (os ++ cs ++ (Builtin.zeroCells z.cells (grownCap w (rows.length + rows'.length) cap' e - (rows.length + rows'.length))).toList).toArray.toList.take ((rows ++ rows').length * i.size) = os ++ cs := by
        rw [List.take_left']
        rw [List.length_append, hleno, hlenc, List.length_append, Nat.add_mul]
      rw [this]
      exact hoc.append hcc

theorem AQ.append {s x : Operand} {t e : TypeId} {v : Value} {m bytes : Nat} {rows rows' : List (List AV)} (hw : Runs E ops ⟨some d, .call ⟨.builtin .append, #[s, x], #[t, t]⟩, ty, pos, after, g⟩) (hs : opAV E s = some (.val v)) (i : Nat) (hi : H[i]? = some (.osl v e m rows))
    (hx : RdOp E H x m rows') (hn : Nat.blt d n = true) (ht : P.underlying t = some (.slice e)) (he : elemOf P e = some (m, bytes)) (hm0 : Nat.blt 0 m = true) (hb0 : Nat.blt 0 bytes = true) (hsz : (rows.length + rows'.length) * bytes ≤ 140737488355328)
    (k : ∀ v', AQ I0 n D ((d, .val v') :: E) (H.set i (.osl v' e m (rows ++ rows'))) (wpList P ops Q rest)) : AQ I0 n D E H (wpList P ops Q (⟨some d, .call ⟨.builtin .append, #[s, x], #[t, t]⟩, ty, pos, after, g⟩ :: rest)) :=
  AQ.opx (X := Value) (av := fun v' => .val v') (H' := fun v' => H.set i (.osl v' e m (rows ++ rows'))) hw rfl hn (fun I a w hI ha ho => by
    obtain ⟨v', w', hr, hok⟩ := run_append_fx (P := P) (ty := ty) ht he (by simpa [Nat.blt_eq] using hm0) (ho.at_ hi) (hx I a w ha ho) hsz (by simpa [Nat.blt_eq] using hb0)
    exact ⟨v', v', w', I, by simp [execOp, resolve, invoke, builtin, val_eq (opAV_ok ha hs), hr], Imm.le_refl _, rfl, hok.back hi⟩) k
/-- nil is one's own. -/
theorem AQ.ownNil {A : Option Addr} {K : Act → World → Prop} (e : TypeId) (m : Nat) (k : AQ I0 n D E (.osl (.slice A 0 0) e m [] :: H) K) : AQ I0 n D E H K := by
  intro I a w h1 h2 h3 h4 h5
  refine k I a w h1 h2 h3 h4 ?_
  obtain ⟨f, hs, hl⟩ := h5.own
  exact ⟨h5.os, h5.tape, h5.output, h5.imm, f, ⟨[], f, rfl, .inl ⟨A, rfl, rfl, rfl⟩, hs⟩, hl⟩

/-- It is never written again: data. -/
theorem AQ.freeze {v : Value} {e : TypeId} {m : Nat} {rows : List (List AV)} {K : Act → World → Prop} (i : Nat) (hi : H[i]? = some (.osl v e m rows)) (k : ∀ J, I0 ≤ J → (AV.sl m rows).p J v → AQ J n D E (H.eraseIdx i) K) : AQ I0 n D E H K := by
  intro I a w h1 h2 h3 h4 h5
  obtain ⟨h, hp, J, hJ, hm, hok⟩ := (h5.at_ hi).freeze
  refine k J (Imm.le_trans h1 hJ) ?_ J a w (Imm.le_refl _) h2 h3 (h4.mono hJ) hok
  rcases hp with ⟨A, rfl, rfl, rfl⟩ | ⟨b, cap, cs, rfl, rfl, q3, q4, q5, q6, q7⟩
  · exact ⟨A, 0, rfl, Nat.le_refl _, by omega, by simp, fun h => (h rfl).elim⟩
  · refine ⟨_, cap, rfl, q3, q4, q7, fun _ => ⟨_, rfl, rfl, cs, e, (0, 0), _, hm _ (List.mem_singleton.2 rfl), q6.mono hJ, fun j v ej => ?_⟩⟩
    rw [List.getElem?_take] at ej
    split at ej
    · simpa using ej
    · cases ej
/-- A variable that is never written again. -/
theorem AQ.freezeBox {b : Nat} {bt : TypeId} {l : List AV} {K : Act → World → Prop} (i : Nat) (hi : H[i]? = some (.box b bt l)) (k : ∀ J, I0 ≤ J → At J ⟨b, 0, none⟩ l → AQ J n D E (H.eraseIdx i) K) : AQ I0 n D E H K := by
  intro I a w h1 h2 h3 h4 h5
  obtain ⟨h, ⟨cs, rfl, hc⟩, J, hJ, hm, hok⟩ := (h5.at_ hi).freeze
  refine k J (Imm.le_trans h1 hJ) ⟨rfl, _, _, _, cs, hm _ (List.mem_singleton.2 rfl), hc.mono hJ, fun j v ej => by simpa using ej⟩ J a w (Imm.le_refl _) h2 h3 (h4.mono hJ) hok
end Go.Fx
set_option linter.unusedVariables false
set_option linter.unusedSimpArgs false
namespace Go.Fx
open Go
variable {P : Program} {I0 : Imm} {n : Nat} {D : List Deferred} {E : Env} {H : List HA} {Q : Exit → Act → World → Prop} {ops : Array Oper} {rest : List Oper}
  {d : Nat} {ty : TypeId} {pos : String} {after : Array Edge} {g : Option (Nat × Bool)}

/-! ### Parts put together -/
/-- The cells of a value. -/
def Parts (av : AV) (r : List AV) : Prop := ∀ (I : Imm) (v : Value), av.p I v → Cells I r v.cells.toList
theorem Parts.one {av : AV} (h : One av) : Parts av [av] := fun I v hp => by rw [cells_one (h I v hp)]; exact Cells.one hp (h I v hp)
theorem Parts.agg {l : List AV} : Parts (.agg l) l := fun I v ⟨cs, e, hc⟩ => by rw [e]; simpa [Value.cells] using hc

/-- Cells written one behind the other. -/
theorem fold_splice (off : Nat) : ∀ (vs : List Value) (k : Nat) (cs : List Value), off + k + vs.length ≤ cs.length →
    ((vs.zipIdx k).foldl (fun (cs : Array Value) (p : Value × Nat) => cs.setIfInBounds (off + p.2) p.1) cs.toArray) = (Fx.splice cs (off + k) vs).toArray
  | [], k, cs, _ => by simp [Fx.splice]
  | v :: vs, k, cs, h => by
    simp only [List.length_cons] at h
    rw [List.zipIdx_cons, List.foldl_cons]
    have e0 : cs.toArray.setIfInBounds (off + k) v = (cs.set (off + k) v).toArray := by simp
    rw [e0, fold_splice off vs (k + 1) (cs.set (off + k) v) (by simp; omega)]
    congr 1
    unfold Fx.splice
    have e1 : (cs.set (off + k) v).take (off + (k + 1)) = cs.take (off + k) ++ [v] := by
      rw [show off + (k + 1) = (off + k) + 1 by omega, List.take_add_one, List.take_set_of_le (Nat.le_refl _)]
      rw [List.getElem?_set_self (by omega)]
      rfl
    have e2 : (cs.set (off + k) v).drop (off + (k + 1) + vs.length) = cs.drop (off + k + (v :: vs).length) := by
      rw [List.drop_set_of_lt (by omega)]
      congr 1
      simp only [List.length_cons]; omega
    rw [e1, e2]
    simp

theorem fill_one {place : Nat → Option (Nat × Nat)} {cells : List Value} {i off size : Nat} {v : Value} {rest : List (Nat × Value)} (hp : place i = some (off, size)) (hs : v.cells.size = size) (hle : off + size ≤ cells.length) :
    Instr.fill place cells.toArray ((i, v) :: rest) = Instr.fill place (Fx.splice cells off v.cells.toList).toArray rest := by
  subst hs
  have hn : ¬ (v.cells.size ≠ v.cells.size ∨ off + v.cells.size > cells.toArray.size) := by simp; omega
  have hf := fold_splice off v.cells.toList 0 cells (by simpa using hle)
  rw [Nat.add_zero] at hf
  rw [← hf]
  simp only [Instr.fill, hp]
  rw [if_neg (by simpa using hn)]
  congr 1
  rw [← Array.foldl_toList, Array.toList_zipIdx]

/-- Cells, some of which are filled in. -/
inductive Fills (E : Env) (place : Nat → Option (Nat × Nat)) : List (Nat × Operand) → List AV → List AV → Prop
  | nil {l : List AV} : Fills E place [] l l
  | one {i off : Nat} {x : Operand} {av : AV} {r : List (Nat × Operand)} {l l' : List AV} (hx : opAV E x = some av) (h1 : One av) (hp : place i = some (off, 1)) (hle : Nat.blt off l.length = true) (h : Fills E place r (l.set off av) l') : Fills E place ((i, x) :: r) l l'
  | agg {i off : Nat} {x : Operand} {m : List AV} {r : List (Nat × Operand)} {l l' : List AV} (hx : opAV E x = some (.agg m)) (hp : place i = some (off, m.length)) (hle : Nat.ble (off + m.length) l.length = true) (h : Fills E place r (Fx.splice l off m) l') : Fills E place ((i, x) :: r) l l'

theorem splice_one {α : Type} (l : List α) (o : Nat) (a : α) (h : o < l.length) : Fx.splice l o [a] = l.set o a := by
  unfold Fx.splice
  rw [List.set_eq_take_append_cons_drop, if_pos h]
  simp

theorem fills_run {E : Env} {place : Nat → Option (Nat × Nat)} {parts : List (Nat × Operand)} {l l' : List AV} (h : Fills E place parts l l') {I : Imm} {a : Act} (ha : EnvOk I E a) : ∀ {cs : List Value}, Cells I l cs →
    ∃ cs', Instr.fill place cs.toArray (parts.map fun p => (p.1, a.eval p.2)) = some cs'.toArray ∧ Cells I l' cs' := by
  induction h with
  | nil => exact fun hc => ⟨_, rfl, hc⟩
  | @one i off x av r l l' hx h1 hp hle _ ih =>
    intro cs hc
    have hv := opAV_ok ha hx
    have ho := h1 I _ hv
    have hlt : off < l.length := by simpa [Nat.blt_eq] using hle
    have hcl := hc.length
    rw [List.map_cons, fill_one hp (by rw [cells_one ho]; rfl) (by omega), cells_one ho]
    have e : Fx.splice cs off (#[a.eval x] : Array Value).toList = cs.set off (a.eval x) := splice_one cs off _ (by omega)
    rw [e]
    exact ih (hc.set off hv ho)
  | @agg i off x m r l l' hx hp hle _ ih =>
    intro cs hc
    obtain ⟨ds, e, hd⟩ := opAV_ok ha hx
    have hle' : off + m.length ≤ l.length := Nat.le_of_ble_eq_true hle
    have hcl := hc.length
    have hdl := hd.length
    have ev : (a.eval x).cells = ds.toArray := by rw [e]; rfl
    rw [List.map_cons, fill_one hp (by rw [ev]; simpa using hdl) (by omega), ev]
    exact ih (by simpa using hc.splice hd off)

/-- Where a struct's fields lie, and how many cells each has. -/
def placesOf (P : Program) (t : TypeId) : Option (List (Nat × Nat)) :=
  match P.underlying t with
  | some (.struct fs) => fs.toList.mapM fun f => (P.info? f.type).map fun i => (f.offset, i.size)
  | _ => none
theorem run_places {P : Program} {w : World} : ∀ {fs : List Field} {l : List (Nat × Nat)}, (fs.mapM fun f => (P.info? f.type).map fun i => (f.offset, i.size)) = some l →
    (fs.mapM (m := Sem) fun f => do pure (f.offset, ← sizeOf f.type)).run P w = .ok l w
  | [], l, h => by simp at h; subst h; simp
  | f :: fs, l, h => by
    rw [List.mapM_cons] at h
    simp only [Option.bind_eq_bind, Option.bind_eq_some_iff, Option.map_eq_some_iff] at h
    obtain ⟨p, ⟨i, hi, rfl⟩, q, hq, hl⟩ := h
    injection hl with hl
    subst hl
    have ih := run_places (P := P) (w := w) hq
    simp [List.mapM_cons, sizeOf, typeInfo, hi] at ih ⊢
    simp [ih]

theorem AQ.build {t : TypeId} {parts : List (Nat × Operand)} {zs : List Value} {places : List (Nat × Nat)} {l' : List AV} (hw : Runs E ops ⟨some d, .build t parts.toArray, ty, pos, after, g⟩) (hn : Nat.blt d n = true) (hz : zeroOf P t = some zs) (h1 : zs.all (·.oneCell') = true)
    (hp : placesOf P t = some places) (hf : Fills E (fun i => places[i]?) parts (zs.map .val) l')
    (k : AQ I0 n D ((d, .agg l') :: E) H (wpList P ops Q rest)) : AQ I0 n D E H (wpList P ops Q (⟨some d, .build t parts.toArray, ty, pos, after, g⟩ :: rest)) :=
  AQ.pure hw rfl hn (fun I a w ha ho => by
    obtain ⟨z, hr, hzc⟩ := run_zero (P := P) hz w
    obtain ⟨cs', hfill, hc⟩ := fills_run hf ha (cs := zs) ⟨AVs.vals zs, by simpa using h1⟩
    refine ⟨.agg cs'.toArray, ?_, cs', rfl, hc⟩
    unfold placesOf at hp
    split at hp
    · rename_i fs hu
      have hm := run_places (P := P) (w := w) hp
      have hzc' : z.cells = zs.toArray := by rw [← hzc]
      have hpl : (fs.mapM (m := Sem) fun f => do Pure.pure (f.offset, ← sizeOf f.type)).run P w = .ok places.toArray w := by
        rw [← Array.toArray_toList (xs := fs), List.mapM_toArray, Sem.run_map, hm]
        simp
      simp only [execOp, Instr.build, Sem.run_bind, hr, Result.andThen_ok, run_underlying hu, hpl, hzc']
      have hpa : (fun x : Nat => (places.toArray)[x]?) = fun i => places[i]? := by funext x; simp
      simp only [hpa, List.map_toArray, hfill, Sem.run_pure, Result.andThen_ok]
    · cases hp) k

theorem rep_flat {zs : List Value} (h0 : 0 < zs.length) : ∀ len : Nat, (List.range (len * zs.length)).map (fun j => zs.toArray[j % zs.length]!) = (List.replicate len zs).flatten
  | 0 => by simp
  | len + 1 => by
    rw [Nat.add_mul, Nat.one_mul, Nat.add_comm, List.range_add, List.map_append, List.replicate_succ, List.flatten_cons, ← rep_flat h0 len, List.map_map]
    congr 1
    · apply List.ext_getElem
      · simp
      · intro i h1 h2
        simp only [List.length_map, List.length_range] at h1
        simp [Nat.mod_eq_of_lt h1, h1]
    · apply List.map_congr_left
      intro j _
      simp [Function.comp]

theorem AQ.buildSlice {t e : TypeId} {len m : Nat} {bytes : Nat} {parts : List (Nat × Operand)} {zs : List Value} {l' : List AV} {rows : List (List AV)} (hw : Runs E ops ⟨some d, .buildSlice t len parts.toArray, ty, pos, after, g⟩) (hn : Nat.blt d n = true)
    (ht : P.underlying t = some (.slice e)) (he : elemOf P e = some (m, bytes)) (hz : zeroOf P e = some zs) (h1 : zs.all (·.oneCell') = true) (hlim : Nat.ble (len * m) 16777216 = true) (hm0 : Nat.blt 0 m = true)
    (hf : Fills E (fun i => some (i * m, m)) parts ((List.replicate len zs).flatten.map .val) l') (hl : rows.flatten = l') (hlen : rows.length = len) (hrows : ∀ r ∈ rows, r.length = m)
    (k : ∀ v, AQ I0 n D ((d, .val v) :: E) (.osl v e m rows :: H) (wpList P ops Q rest)) : AQ I0 n D E H (wpList P ops Q (⟨some d, .buildSlice t len parts.toArray, ty, pos, after, g⟩ :: rest)) :=
  AQ.opx (X := Value) (av := fun v => .val v) (H' := fun v => .osl v e m rows :: H) hw rfl hn (fun I a w hI ha ho => by
    obtain ⟨z, hr, hzc⟩ := run_zero (P := P) hz w
    obtain ⟨i, z', hi, rfl, rfl, hz', hzs⟩ := elem_info he
    have hzz : z' = z := by
      simp [zeroValue, typeInfo, hi, hz'] at hr
      exact hr
    subst hzz
    have hones : ∀ c ∈ (List.replicate len zs).flatten, c.oneCell' = true := by
      intro c hc
      obtain ⟨l, hl1, hl2⟩ := List.mem_flatten.1 hc
      rw [(List.mem_replicate.1 hl1).2] at hl2
      exact (List.all_eq_true.1 h1) c hl2
    obtain ⟨cs', hfill, hc⟩ := fills_run hf ha (cs := (List.replicate len zs).flatten) ⟨AVs.vals _, hones⟩
    have hzlen : zs.length = i.size := by rw [← hzc, ← hzs]; simp
    have hm0' : 0 < i.size := by simpa [Nat.blt_eq] using hm0
    have hlim' : len * i.size ≤ 16777216 := Nat.le_of_ble_eq_true hlim
    have hrow : cs'.length = len * i.size := by rw [hc.length, ← hl, flatten_length hrows, hlen]
    refine ⟨.slice (some ⟨w.heap.size, 0, none⟩) len len, _, w.alloc (.cells cs'.toArray e), I, ?_, Imm.le_refl _, rfl, ho.alloc _ _ (.inr ⟨_, len, cs'.toArray, rfl, by rw [hlen], by omega, ?_, by simpa using Nat.le_of_eq hrow.symm, ?_, hrows⟩)⟩
    · have hinit : ((Array.range (len * i.size)).map (fun j => z'.cells[j % z'.cells.size]!)) = ((List.replicate len zs).flatten).toArray := by
        have hzc' : z'.cells = zs.toArray := by rw [← hzc]
        rw [hzc']
        apply Array.ext'
        have := rep_flat (zs := zs) (by omega) len
        rw [hzlen] at this
        simpa [hzlen] using this
      have hnl : ¬ (len * i.size > 2 ^ 24) := by
        have : (2 : Nat) ^ 24 = 16777216 := by decide
        omega
      have hsz : (sizeOf e).run P w = .ok i.size w := by simp [sizeOf, typeInfo, hi]
      simp only [execOp, Instr.buildSlice, Sem.run_bind, run_underlying ht, Result.andThen_ok, hsz]
      rw [if_neg hnl]
      by_cases h : len * i.size = 0
      · have hl0 : len = 0 := by
          rcases Nat.mul_eq_zero.1 h with h | h
          · exact h
          · omega
        subst hl0
        have e0 : ∀ f : Nat → Value, Array.map f (Array.range 0) = #[] := fun _ => by simp [Array.range_zero']
        simp only [List.replicate_zero, List.flatten_nil] at hfill
        rw [if_pos h]
        simp only [Sem.run_bind, Sem.run_pure, Result.andThen_ok, Nat.zero_mul, e0, List.map_toArray]
        simp [hfill, newRow]
      · rw [if_neg h]
        simp only [Sem.run_bind, Sem.run_pure, Result.andThen_ok, hr]
        rw [hinit]
        simp only [List.map_toArray]
        simp [hfill, newRow]
    · have : i.size ≥ 1 := hm0'
      have : len ≤ len * i.size := Nat.le_mul_of_pos_right _ hm0'
      omega
    · rw [hl]
      have : cs'.toArray.toList.take (rows.length * i.size) = cs' := by
        rw [hlen, ← hrow]; simp
      rw [this]
      exact hc) k

/-! ### make -/
theorem AQ.makeSlice {t e : TypeId} {lo co : Operand} {q : IntKind} {len : Int} {m bytes : Nat} {zs : List Value} (hw : Runs E ops ⟨some d, .makeSlice t lo co, ty, pos, after, g⟩) (hl : opAV E lo = some (.val (.int q len))) (hc : opAV E co = some (.val (.int q len))) (hn : Nat.blt d n = true)
    (ht : P.underlying t = some (.slice e)) (he : elemOf P e = some (m, bytes)) (hz : zeroOf P e = some zs) (h1 : zs.all (·.oneCell') = true) (hm0 : Nat.blt 0 m = true) (h0 : 0 ≤ len) (h63 : len ≤ 9223372036854775807) (hb : (bytes : Int) * len ≤ 281474976710656)
    (k : ∀ v, AQ I0 n D ((d, .val v) :: E) (.osl v e m (List.replicate len.toNat (zs.map .val)) :: H) (wpList P ops Q rest)) : AQ I0 n D E H (wpList P ops Q (⟨some d, .makeSlice t lo co, ty, pos, after, g⟩ :: rest)) :=
  AQ.opx (X := Value) (av := fun v => .val v) (H' := fun v => .osl v e m (List.replicate len.toNat (zs.map .val)) :: H) hw rfl hn (fun I a w hI ha ho => by
    obtain ⟨z, hr, hzc⟩ := run_zero (P := P) hz w
    obtain ⟨i, z', hi, rfl, rfl, hz', hzs⟩ := elem_info he
    have hzz : z' = z := by
      simp [zeroValue, typeInfo, hi, hz'] at hr
      exact hr
    subst hzz
    have hzlen : zs.length = i.size := by rw [← hzc, ← hzs]; simp
    have hm0' : 0 < i.size := by simpa [Nat.blt_eq] using hm0
    obtain ⟨N, rfl⟩ := Int.eq_ofNat_of_zero_le h0
    have hw63 : IntKind.i64.wrap (N : Int) = N := i64_id (by omega) h63
    have hflat := rep_flat (zs := zs) (by omega) N
    rw [hzlen] at hflat
    have hzc' : z'.cells = zs.toArray := by rw [← hzc]
    refine ⟨.slice (some ⟨w.heap.size, 0, none⟩) N N, _, w.alloc (.cells (List.replicate N zs).flatten.toArray e), I, ?_, Imm.le_refl _, rfl, ?_⟩
    · have hsz : (sizeOf e).run P w = .ok i.size w := by simp [sizeOf, typeInfo, hi]
      have hby : (typeInfo e).run P w = .ok i w := by simp [typeInfo, hi]
      have hp48 : (2 : Int) ^ 48 = 281474976710656 := by decide
      have hc1 : ((N : Int) < 0 || (i.bytes : Int) * (N : Int) > 2 ^ 48) = false := by
        simp only [Bool.or_eq_false_iff, decide_eq_false_iff_not]
        constructor
        · omega
        · rw [hp48]; omega
      simp only [execOp, val_eq (opAV_ok ha hl), val_eq (opAV_ok ha hc), Instr.makeSlice, asInt, asIntOf, Sem.run_bind, Sem.run_pure, run_underlying ht, Result.andThen_ok, hby, hw63]
      have hc2 : ((((N : Int) < 0 || (i.bytes : Int) * (N : Int) > 2 ^ 48) || decide ((N : Int) < 0) || decide ((N : Int) > (N : Int))) = true) = False := by
        rw [hc1]; simp
      simp only [hc2, if_false, Sem.run_bind, run_askRoom, Result.andThen_ok, hsz, Int.toNat_natCast]
      by_cases h : N * i.size = 0
      · have hk0 : N = 0 := by
          rcases Nat.mul_eq_zero.1 h with h | h
          · exact h
          · omega
        subst hk0
        simp [newRow, Array.range_zero']
      · rw [if_neg h]
        simp only [Sem.run_bind, Sem.run_pure, Result.andThen_ok, hr]
        have hinit : ((Array.range (N * i.size)).map (fun j => z'.cells[j % z'.cells.size]!)) = ((List.replicate N zs).flatten).toArray := by
          rw [hzc']
          apply Array.ext'
          simpa [hzlen] using hflat
        rw [hinit]
        simp [newRow]
    · refine ho.alloc _ _ (.inr ⟨_, N, (List.replicate N zs).flatten.toArray, rfl, by simp, by simp, by omega, ?_, ?_, ?_⟩)
      · have : (List.replicate N zs).flatten.length = N * i.size := by
          rw [← hflat]; simp
        exact Nat.le_of_eq (by simpa using this.symm)
      · have e1 : (List.replicate (N : Int).toNat (zs.map AV.val)).flatten = (List.replicate N zs).flatten.map AV.val := by
          simp [List.map_flatten]
        have e2 : (List.replicate N zs).flatten.toArray.toList.take ((List.replicate (N : Int).toNat (zs.map AV.val)).length * i.size) = (List.replicate N zs).flatten := by
          refine List.take_of_length_le ?_
          rw [← hflat]; simp
        rw [e1, e2]
        refine ⟨AVs.vals _, fun c hc => ?_⟩
        obtain ⟨l, hl1, hl2⟩ := List.mem_flatten.1 hc
        rw [(List.mem_replicate.1 hl1).2] at hl2
        exact (List.all_eq_true.1 h1) c hl2
      · intro r hr2
        rw [(List.mem_replicate.1 hr2).2]
        simpa using hzlen) k
end Go.Fx
set_option linter.unusedVariables false
set_option linter.unusedSimpArgs false
namespace Go.Fx
open Go
variable {P : Program} {I0 : Imm} {n : Nat} {D : List Deferred} {E : Env} {H : List HA} {Q : Exit → Act → World → Prop} {ops : Array Oper} {rest : List Oper}
  {d : Nat} {ty : TypeId} {pos : String} {after : Array Edge} {g : Option (Nat × Bool)}

theorem take_exact {α : Type} (A B : List α) (n : Nat) (h : n = A.length) : (A ++ B).take n = A := by subst h; simp
theorem drop_exact {α : Type} (A B : List α) (n : Nat) (h : n = A.length) : (A ++ B).drop n = B := by subst h; simp
theorem splice_row {α : Type} (cs ds : List α) (p j m R : Nat) (h1 : j + ds.length ≤ m) (h2 : p + m ≤ R) (h3 : R ≤ cs.length) :
    (cs.take (p + j) ++ ds ++ cs.drop (p + j + ds.length)).take R = (cs.take R).take p ++ (((cs.drop p).take m).take j ++ ds ++ ((cs.drop p).take m).drop (j + ds.length)) ++ (cs.take R).drop (p + m) := by
  obtain ⟨A, r1, e1, l1⟩ : ∃ A r, cs = A ++ r ∧ A.length = p := ⟨cs.take p, cs.drop p, by simp, by simp; omega⟩
  obtain ⟨B1, r2, e2, l2⟩ : ∃ A r, r1 = A ++ r ∧ A.length = j := ⟨r1.take j, r1.drop j, by simp, by have := congrArg List.length e1; simp at this ⊢; omega⟩
  obtain ⟨B2, r3, e3, l3⟩ : ∃ A r, r2 = A ++ r ∧ A.length = ds.length := ⟨r2.take ds.length, r2.drop ds.length, by simp, by have := congrArg List.length e1; have := congrArg List.length e2; simp at *; omega⟩
  obtain ⟨B3, r4, e4, l4⟩ : ∃ A r, r3 = A ++ r ∧ A.length = m - j - ds.length := ⟨r3.take (m - j - ds.length), r3.drop (m - j - ds.length), by simp, by have := congrArg List.length e1; have := congrArg List.length e2; have := congrArg List.length e3; simp at *; omega⟩
  obtain ⟨C, D, e5, l5⟩ : ∃ A r, r4 = A ++ r ∧ A.length = R - p - m := ⟨r4.take (R - p - m), r4.drop (R - p - m), by simp, by have := congrArg List.length e1; have := congrArg List.length e2; have := congrArg List.length e3; have := congrArg List.length e4; simp at *; omega⟩
  subst e5; subst e4; subst e3; subst e2; subst e1
  have t1 : (A ++ (B1 ++ (B2 ++ (B3 ++ (C ++ D))))).take (p + j) = A ++ B1 := by
    rw [show A ++ (B1 ++ (B2 ++ (B3 ++ (C ++ D)))) = (A ++ B1) ++ (B2 ++ (B3 ++ (C ++ D))) by simp]
    exact take_exact _ _ _ (by simp; omega)
  have t2 : (A ++ (B1 ++ (B2 ++ (B3 ++ (C ++ D))))).drop (p + j + ds.length) = B3 ++ (C ++ D) := by
    rw [show A ++ (B1 ++ (B2 ++ (B3 ++ (C ++ D)))) = (A ++ B1 ++ B2) ++ (B3 ++ (C ++ D)) by simp]
    exact drop_exact _ _ _ (by simp; omega)
  have t3 : (A ++ (B1 ++ (B2 ++ (B3 ++ (C ++ D))))).take R = A ++ B1 ++ B2 ++ B3 ++ C := by
    rw [show A ++ (B1 ++ (B2 ++ (B3 ++ (C ++ D)))) = (A ++ B1 ++ B2 ++ B3 ++ C) ++ D by simp]
    exact take_exact _ _ _ (by simp; omega)
  have t4 : ((A ++ (B1 ++ (B2 ++ (B3 ++ (C ++ D))))).drop p).take m = B1 ++ B2 ++ B3 := by
    rw [drop_exact A _ p l1.symm, show B1 ++ (B2 ++ (B3 ++ (C ++ D))) = (B1 ++ B2 ++ B3) ++ (C ++ D) by simp]
    exact take_exact _ _ _ (by simp; omega)
  rw [t1, t2, t3, t4]
  rw [show A ++ B1 ++ ds ++ (B3 ++ (C ++ D)) = (A ++ B1 ++ ds ++ B3 ++ C) ++ D by simp, take_exact _ D R (by simp; omega)]
  rw [show A ++ B1 ++ B2 ++ B3 ++ C = A ++ (B1 ++ B2 ++ B3 ++ C) by simp, take_exact A _ p l1.symm]
  rw [show A ++ (B1 ++ B2 ++ B3 ++ C) = (A ++ B1 ++ B2 ++ B3) ++ C by simp, drop_exact _ C (p + m) (by simp; omega)]
  rw [show B1 ++ B2 ++ B3 = B1 ++ (B2 ++ B3) by simp, take_exact B1 _ j l2.symm, show B1 ++ (B2 ++ B3) = (B1 ++ B2) ++ B3 by simp, drop_exact _ B3 (j + ds.length) (by simp; omega)]
  simp

/-! ### Into a row of one's own -/
/-- A pointer to a cell of the row that v has. -/
def AV.into (v : Value) (o : Nat) : AV := ⟨fun _ x => ∃ b l c, v = .slice (some ⟨b, 0, none⟩) l c ∧ x = .pointer (some ⟨b, o, none⟩), fun _ h => h⟩

section
variable {t e : TypeId} {x y ix : Operand} {v : Value} {m o i j s : Nat} {rows : List (List AV)}
theorem AQ.indexo {q : IntKind} {z : Int} (hw : Runs E ops ⟨some d, .indexAddr t x ix, ty, pos, after, g⟩) (hx : opAV E x = some (.val v)) (i : Nat) (hi : H[i]? = some (.osl v e m rows)) (hz : opAV E ix = some (.val (.int q z))) (hn : Nat.blt d n = true)
    (ht : P.underlying t = some (.slice e)) {b : Bool} (he : aggOf P e = some (b, m)) (h0 : 0 ≤ z) (hlt : z < (rows.length : Int))
    (k : AQ I0 n D ((d, .into v (z.toNat * m)) :: E) H (wpList P ops Q rest)) : AQ I0 n D E H (wpList P ops Q (⟨some d, .indexAddr t x ix, ty, pos, after, g⟩ :: rest)) :=
  AQ.pure hw rfl hn (fun I a w ha ho => by
    obtain ⟨A, cap, rfl, hl, hm, hlen, hat⟩ := osl_slice ho hi
    obtain ⟨b, cs, rfl, hb, _⟩ := hat (by intro h; simp [h] at hlt; omega)
    refine ⟨.pointer (some ⟨b, z.toNat * m, none⟩), ?_, b, _, _, rfl, rfl⟩
    have hj : 0 ≤ z ∧ z < (rows.length : Int) := ⟨h0, hlt⟩
    simp [execOp, val_eq (opAV_ok ha hx), val_eq (opAV_ok ha hz), Instr.indexAt, asIntOf, run_underlying ht, (run_isAgg he w).2, hj, Addr.add_lit]) k
theorem AQ.fieldo {f off o' : Nat} (hw : Runs E ops ⟨some d, .fieldAddr t x f, ty, pos, after, g⟩) (hx : opAV E x = some (.into v o)) (hn : Nat.blt d n = true) (hf : fieldOff P t f = some off) (ho : o + off = o')
    (k : AQ I0 n D ((d, .into v o') :: E) H (wpList P ops Q rest)) : AQ I0 n D E H (wpList P ops Q (⟨some d, .fieldAddr t x f, ty, pos, after, g⟩ :: rest)) :=
  AQ.pure hw rfl hn (fun I a w ha _ => by
    obtain ⟨b, l, c, e1, e2⟩ := opAV_ok ha hx
    exact ⟨_, by simp [execOp, e2, run_fieldAt hf, ho], b, l, c, e1, rfl⟩) k

/-- What lies in a row of one's own, from a cell of an element on. -/
theorem osl_at {I : Imm} {w : World} {k b : Nat} {l c : Nat} {r : List AV} (h : Ok I H w) (hk : H[k]? = some (.osl (.slice (some ⟨b, 0, none⟩) l c) e m rows)) (hr : rows[i]? = some r) : Mem I w b (i * m) r := by
  obtain ⟨A, cap, e1, h1, h2, h3, h4⟩ := osl_slice h hk
  injection e1 with e1 e2 e3
  subst e1
  have hlt : i < rows.length := (List.getElem?_eq_some_iff.1 hr).1
  obtain ⟨b', cs, e4, hb, hs, hc⟩ := h4 (by intro h; simp [h] at hlt)
  injection e4 with e4
  injection e4 with e4
  subst e4
  have := ((row_mem hb hc).drop (i * m)).take m
  rwa [flatten_row h3 hr, Nat.zero_add] at this
theorem AQ.loado1 {av : AV} {r : List AV} (hw : Runs E ops ⟨some d, .load t x, ty, pos, after, g⟩) (hx : opAV E x = some (.into v o)) (k : Nat) (hk : H[k]? = some (.osl v e m rows)) (i j : Nat) (ho : o = i * m + j) (hr : rows[i]? = some r) (hj : r[j]? = some av) (hn : Nat.blt d n = true) (ht : aggOf P t = some (false, s))
    (kk : AQ I0 n D ((d, av) :: E) H (wpList P ops Q rest)) : AQ I0 n D E H (wpList P ops Q (⟨some d, .load t x, ty, pos, after, g⟩ :: rest)) :=
  AQ.pure hw rfl hn (fun I a w ha hok => by
    obtain ⟨b, l, c, e1, e2⟩ := opAV_ok ha hx
    subst e1
    have hm := (osl_at hok hk hr).drop j
    have hlt : j < r.length := (List.getElem?_eq_some_iff.1 hj).1
    have hg : r[j] = av := (List.getElem?_eq_some_iff.1 hj).2
    rw [List.drop_eq_getElem_cons hlt, hg, ← ho] at hm
    obtain ⟨u, hru, hp⟩ := run_loadVar_one (P := P) ht hm
    exact ⟨u, by simp [execOp, e2, Instr.loadAt, Instr.sureAddr, hru], hp⟩) kk
theorem AQ.loadoA {r l' : List AV} (hw : Runs E ops ⟨some d, .load t x, ty, pos, after, g⟩) (hx : opAV E x = some (.into v o)) (k : Nat) (hk : H[k]? = some (.osl v e m rows)) (i j : Nat) (ho : o = i * m + j) (hr : rows[i]? = some r) (hn : Nat.blt d n = true) (ht : aggOf P t = some (true, s)) (hl : (r.drop j).take s = l') (hs : l'.length = s)
    (kk : AQ I0 n D ((d, .agg l') :: E) H (wpList P ops Q rest)) : AQ I0 n D E H (wpList P ops Q (⟨some d, .load t x, ty, pos, after, g⟩ :: rest)) :=
  AQ.pure hw rfl hn (fun I a w ha hok => by
    obtain ⟨b, l, c, e1, e2⟩ := opAV_ok ha hx
    subst e1
    have hm := ((osl_at hok hk hr).drop j).take s
    rw [hl, ← ho] at hm
    obtain ⟨u, hru, hp⟩ := run_loadVar_agg (P := P) ht hs hm
    exact ⟨u, by simp [execOp, e2, Instr.loadAt, Instr.sureAddr, hru], hp⟩) kk

theorem flatten_set {m : Nat} {r r' : List AV} : ∀ {rows : List (List AV)} {i : Nat}, (∀ q ∈ rows, q.length = m) → rows[i]? = some r → r'.length = m → (rows.set i r').flatten = rows.flatten.take (i * m) ++ r' ++ rows.flatten.drop (i * m + m)
  | [], _, _, h, _ => by simp at h
  | q :: rows, 0, hn, h, hl => by
    have hq : q.length = m := hn q (by simp)
    simp [← hq]
  | q :: rows, i + 1, hn, h, hl => by
    have hq : q.length = m := hn q (by simp)
    have ih := flatten_set (rows := rows) (i := i) (fun q' h' => hn q' (by simp [h'])) (by simpa using h) hl
    rw [List.set_cons_succ, List.flatten_cons, ih, List.flatten_cons]
    have e1 : (q ++ rows.flatten).take ((i + 1) * m) = q ++ rows.flatten.take (i * m) := by
      rw [Nat.add_mul, Nat.one_mul, Nat.add_comm, ← hq, List.take_length_add_append]
    have e2 : (q ++ rows.flatten).drop ((i + 1) * m + m) = rows.flatten.drop (i * m + m) := by
      rw [Nat.add_mul, Nat.one_mul, show i * m + m + m = m + (i * m + m) by omega, ← hq, List.drop_length_add_append]
    rw [e1, e2]
    simp [List.append_assoc]

theorem row_store {I : Imm} {w w' : World} {k b : Nat} {l c : Nat} {r r' : List AV} {ds : List Value} {nu : List AV} (h : Ok I H w) (hk : H[k]? = some (.osl (.slice (some ⟨b, 0, none⟩) l c) e m rows)) (hr : rows[i]? = some r) (hnu : Cells I nu ds) (hj : j + nu.length ≤ m)
    (hr' : r' = Fx.splice r j nu) (hb' : ∀ cs : Array Value, w.heap[b]? = some (.cells cs e (0, 0)) → w'.heap[b]? = some (.cells (Fx.splice cs.toList (i * m + j) ds).toArray e (0, 0))) (hk' : ∀ c : Nat, c ≠ b → w'.heap[c]? = w.heap[c]?) (q1 : w'.os = w.os) (q2 : w'.tape = w.tape) (q3 : w'.output = w.output) :
    Ok I (H.set k (.osl (.slice (some ⟨b, 0, none⟩) l c) e m (rows.set i r'))) w' := by
  obtain ⟨A, cap, e1, h1, h2, h3, h4⟩ := osl_slice h hk
  injection e1 with e1 e2 e3
  subst e1
  subst e2
  subst e3
  have hlt : i < rows.length := (List.getElem?_eq_some_iff.1 hr).1
  obtain ⟨b', cs, e4, hb, hs, hc⟩ := h4 (by intro h; simp [h] at hlt)
  injection e4 with e4
  injection e4 with e4
  subst e4
  have hrl : r.length = m := h3 r (List.mem_of_getElem? hr)
  have hr'l : r'.length = m := by rw [hr', splice_length (by omega)]; exact hrl
  have him : i * m + m ≤ rows.length * m := by rw [← Nat.succ_mul]; exact Nat.mul_le_mul_right _ hlt
  have hcap : rows.length * m ≤ c * m := Nat.mul_le_mul_right _ h1
  have hdl := hnu.length
  have hcl : c * m ≤ cs.toList.length := by simpa using hs
  refine Ok.back (A := .osl (.slice (some ⟨b, 0, none⟩) rows.length c) e m rows) (Ok.change (b := b) (o := .cells cs e (0, 0)) (h.at_ hk) q1 q2 q3 ?_ (hb' cs hb) (fun c hcb x hx => by rw [hk' c hcb]; exact hx) ?_) hk
  · rintro f hp hw'
    rcases hp with ⟨A'', e1, rfl, rfl⟩ | ⟨b2, cap2, cs2, rfl, e1, _⟩
    · simp at hlt
    · injection e1 with e1 e2 e3
      injection e1 with e1
      injection e1 with e1
      subst e1
      have := hw' _ (List.mem_singleton.2 rfl)
      simp only at this
      rw [hb] at this
      rw [Option.some.inj this]
  · refine .inr ⟨b, c, _, rfl, by simp, by simpa using h1, h2, ?_, ?_, ?_⟩
    · rw [List.size_toArray, splice_length (by omega)]; exact hcl
    · rw [flatten_set h3 hr hr'l, List.length_set]
      have hc1 := hc.take (i * m)
      have hc2 := hc.drop (i * m + m)
      have hrow : Cells I r ((cs.toList.drop (i * m)).take m) := by
        have := (hc.drop (i * m)).take m
        rw [flatten_row h3 hr] at this
        rw [List.drop_take, List.take_take, Nat.min_eq_left (by omega)] at this
        exact this
      have hnew := hrow.splice hnu j
      rw [← hr'] at hnew
      have hall := (hc1.append hnew).append hc2
      have : (Fx.splice cs.toList (i * m + j) ds).toArray.toList.take (rows.length * m) = (cs.toList.take (rows.length * m)).take (i * m) ++ Fx.splice ((cs.toList.drop (i * m)).take m) j ds ++ (cs.toList.take (rows.length * m)).drop (i * m + m) := by
        exact splice_row cs.toList ds (i * m) j m (rows.length * m) (by omega) (by omega) (by omega)
      rw [this]
      exact hall
    · intro q hq
      rcases List.mem_or_eq_of_mem_set hq with hq | rfl
      · exact h3 q hq
      · exact hr'l
theorem AQ.storeo1 {av : AV} {r : List AV} {q : Bool} (hw : Runs E ops ⟨none, .store t x y, ty, pos, after, g⟩) (hx : opAV E x = some (.into v o)) (k : Nat) (hk : H[k]? = some (.osl v e m rows)) (i j : Nat) (ho : o = i * m + j) (hr : rows[i]? = some r) (hj : Nat.blt j m = true) (hy : opAV E y = some av) (h1 : One av) (ht : aggOf P t = some (q, 1))
    (kk : AQ I0 n D E (H.set k (.osl v e m (rows.set i (r.set j av)))) (wpList P ops Q rest)) : AQ I0 n D E H (wpList P ops Q (⟨none, .store t x y, ty, pos, after, g⟩ :: rest)) :=
  AQ.op0 hw rfl (fun I a w _ ha hok => by
    obtain ⟨b, l, c, e1, e2⟩ := opAV_ok ha hx
    subst e1
    have hp := opAV_ok ha hy
    have ho1 := h1 I _ hp
    have hj' : j < m := by simpa [Nat.blt_eq] using hj
    obtain ⟨A, cap, e3, g1, g2, g3, g4⟩ := osl_slice hok hk
    have hlt : i < rows.length := (List.getElem?_eq_some_iff.1 hr).1
    obtain ⟨b', cs, e4, hb, hs, hc⟩ := g4 (by intro h; simp [h] at hlt)
    injection e3 with e3 e5 e6
    subst e3
    injection e4 with e4
    injection e4 with e4
    subst e4
    subst e6
    have him : i * m + m ≤ rows.length * m := by rw [← Nat.succ_mul]; exact Nat.mul_le_mul_right _ hlt
    have hcap : rows.length * m ≤ c * m := Nat.mul_le_mul_right _ g1
    have hrl : r.length = m := g3 r (List.mem_of_getElem? hr)
    subst ho
    refine ⟨.skip, w.setCell ⟨b, i * m + j, none⟩ (a.eval y), I, ?_, .inl rfl, Imm.le_refl _, row_store (i := i) (j := j) (b := b) (ds := [a.eval y]) (nu := [av]) hok hk hr (Cells.one hp ho1) (by simp only [List.length_singleton]; omega) ?_ ?_ ?_ rfl rfl rfl⟩
    · have hsv := run_storeVar1 (P := P) (o := i * m + j) ht hb (by omega) ho1
      simp [execOp, e2, Instr.storeAt, Instr.sureAddr, hsv]
    · rw [splice_one r j av (by omega)]
    · intro cs2 h2
      rw [hb] at h2
      injection h2 with h2
      injection h2 with h2
      subst h2
      rw [heap_setCell_same hb, splice_one _ _ _ (by rw [Array.length_toList]; omega)]
      congr 2
      apply Array.ext'
      simp
    · intro c hc; exact heap_setCell_other hc _) kk
theorem AQ.storeoA {r nu : List AV} {q : Bool} (hw : Runs E ops ⟨none, .store t x y, ty, pos, after, g⟩) (hx : opAV E x = some (.into v o)) (k : Nat) (hk : H[k]? = some (.osl v e m rows)) (i j : Nat) (ho : o = i * m + j) (hr : rows[i]? = some r) (hj : Nat.ble (j + s) m = true) (hy : opAV E y = some (.agg nu)) (ht : aggOf P t = some (q, s)) (hs : nu.length = s)
    (kk : AQ I0 n D E (H.set k (.osl v e m (rows.set i (Fx.splice r j nu)))) (wpList P ops Q rest)) : AQ I0 n D E H (wpList P ops Q (⟨none, .store t x y, ty, pos, after, g⟩ :: rest)) :=
  AQ.op0 hw rfl (fun I a w _ ha hok => by
    obtain ⟨b, l, c, e1, e2⟩ := opAV_ok ha hx
    subst e1
    obtain ⟨ds, e7, hd⟩ := opAV_ok ha hy
    have hdl := hd.length
    have hj' : j + s ≤ m := Nat.le_of_ble_eq_true hj
    obtain ⟨A, cap, e3, g1, g2, g3, g4⟩ := osl_slice hok hk
    have hlt : i < rows.length := (List.getElem?_eq_some_iff.1 hr).1
    obtain ⟨b', cs, e4, hb, hs', hc⟩ := g4 (by intro h; simp [h] at hlt)
    injection e3 with e3 e5 e6
    subst e3
    injection e4 with e4
    injection e4 with e4
    subst e4
    subst e6
    have him : i * m + m ≤ rows.length * m := by rw [← Nat.succ_mul]; exact Nat.mul_le_mul_right _ hlt
    have hcap : rows.length * m ≤ c * m := Nat.mul_le_mul_right _ g1
    have hb' : w.heap[b]? = some (.cells cs.toList.toArray e (0, 0)) := by simpa using hb
    subst ho
    obtain ⟨w', hru, hbn, hkk, q1, q2, q3⟩ := run_storeCells_own (P := P) ds (i * m + j) 0 hb' (by have : c * m ≤ cs.toList.length := (by simpa using hs'); omega) hd.2
    refine ⟨.skip, w', I, ?_, .inl rfl, Imm.le_refl _, row_store (i := i) (j := j) (b := b) (ds := ds) (nu := nu) hok hk hr hd (by omega) rfl ?_ hkk q1 q2 q3⟩
    · have hsz : ¬ ((ds.toArray).size ≠ s) := by simp; omega
      simp only [execOp, e2, e7, Instr.storeAt, Instr.sureAddr, storeVar, Value.cells, Sem.run_bind, Sem.run_pure, Result.andThen_ok, (run_isAgg ht w).2]
      rw [if_neg hsz]
      simp [hru]
    · intro cs2 h2
      rw [hb] at h2
      injection h2 with h2
      injection h2 with h2
      subst h2
      simpa using hbn) kk
end

/-! ### Cuts -/
theorem run_sliceB {k : IntKind} {i : Int} {y : Nat} {code : BoundsCode} (h0 : 0 ≤ i) (h1 : i ≤ y) (w : World) : (Instr.sliceBound (.int k i) y code).run P w = .ok i.toNat w := run_sliceBound w k i y code h0 h1

theorem flatten_take_rows {m : Nat} : ∀ (rows : List (List AV)) (i : Nat), (∀ r ∈ rows, r.length = m) → i ≤ rows.length → rows.flatten.take (i * m) = (rows.take i).flatten
  | _, 0, _, _ => by simp
  | [], i + 1, _, h => by simp at h
  | r :: rows, i + 1, hn, h => by
    have hr : r.length = m := hn r (by simp)
    rw [List.flatten_cons, Nat.add_mul, Nat.one_mul, Nat.add_comm, ← hr, List.take_length_add_append, List.take_succ_cons, List.flatten_cons, hr]
    rw [flatten_take_rows rows i (fun q hq => hn q (by simp [hq])) (by simpa using h)]

/-- A cut of data is data. -/
theorem sl_cut {I : Imm} {A : Option Addr} {m len cap l h mx : Nat} {rows : List (List AV)} (hs : (AV.sl m rows).p I (.slice A len cap)) (hl : l ≤ h) (hh : h ≤ rows.length) (hm : h ≤ mx) (hmx : mx ≤ cap) :
    (AV.sl m ((rows.take h).drop l)).p I (.slice (if mx = l then A else A.map (·.add (l * m))) (h - l) (mx - l)) := by
  obtain ⟨A', cap', e, h1, h2, h3, h4⟩ := hs
  injection e with e1 e2 e3
  subst e1
  subst e3
  refine ⟨if mx = l then A else A.map (·.add (l * m)), mx - l, ?_, ?_, by omega, ?_, ?_⟩
  · rw [List.length_drop, List.length_take, Nat.min_eq_left hh]
  · rw [List.length_drop, List.length_take, Nat.min_eq_left hh]; omega
  · intro r hr; exact h3 r (List.mem_of_mem_take (List.mem_of_mem_drop hr))
  · intro hne
    have hlh : l < h := by
      rcases Nat.lt_or_ge l h with h' | h'
      · exact h'
      · exact absurd (List.drop_eq_nil_of_le (by rw [List.length_take]; omega)) hne
    obtain ⟨a, rfl, hat⟩ := h4 (by intro h'; rw [h'] at hh; simp at hh; omega)
    rw [if_neg (by omega)]
    have hsp := hat.1
    obtain ⟨b, o, sp⟩ := a
    cases hsp
    refine ⟨⟨b, o + l * m, none⟩, by simp [Addr.add_lit], ?_⟩
    have := (hat.take (h * m)).drop (l * m)
    rw [flatten_take_rows rows h h3 hh, flatten_drop_rows _ l (fun r hr => h3 r (List.mem_of_mem_take hr)) (by rw [List.length_take]; omega)] at this
    exact this

section
variable {t e : TypeId} {x lo hi mx : Operand} {m : Nat} {rows : List (List AV)} {q1 q2 q3 : IntKind} {l h c : Int}
theorem AQ.cut (hw : Runs E ops ⟨some d, .slice t x (some lo) (some hi) none, ty, pos, after, g⟩) (hx : opAV E x = some (.sl m rows)) (hl : opAV E lo = some (.val (.int q1 l))) (hh : opAV E hi = some (.val (.int q2 h))) (hn : Nat.blt d n = true) (ht : P.underlying t = some (.slice e)) {b : Bool} (he : aggOf P e = some (b, m)) (h0 : 0 ≤ l) (h1 : l ≤ h) (h2 : h ≤ (rows.length : Int))
    (k : AQ I0 n D ((d, .sl m ((rows.take h.toNat).drop l.toNat)) :: E) H (wpList P ops Q rest)) : AQ I0 n D E H (wpList P ops Q (⟨some d, .slice t x (some lo) (some hi) none, ty, pos, after, g⟩ :: rest)) :=
  AQ.pure hw rfl hn (fun I a w ha ho => by
    have hs := opAV_ok ha hx
    obtain ⟨A, cap, e1, g1, g2, g3, g4⟩ := opAV_ok ha hx
    rw [e1] at hs
    refine ⟨_, ?_, sl_cut hs (l := l.toNat) (h := h.toNat) (mx := cap) (by omega) (by omega) (by omega) (Nat.le_refl _)⟩
    have b1 := run_sliceB (P := P) (k := q2) (code := .sliceAcap) (i := h) (y := cap) (by omega) (by omega) w
    have b2 := run_sliceB (P := P) (k := q1) (code := .sliceB) (i := l) (y := h.toNat) (by omega) (by omega) w
    simp [execOp, e1, val_eq (opAV_ok ha hl), val_eq (opAV_ok ha hh), Instr.sliceAt, Instr.slice, Instr.sliceBounds, run_underlying ht, b1, b2, (run_isAgg he w).2]) k
theorem AQ.cutTo (hw : Runs E ops ⟨some d, .slice t x none (some hi) none, ty, pos, after, g⟩) (hx : opAV E x = some (.sl m rows)) (hh : opAV E hi = some (.val (.int q2 h))) (hn : Nat.blt d n = true) (ht : P.underlying t = some (.slice e)) {b : Bool} (he : aggOf P e = some (b, m)) (h1 : 0 ≤ h) (h2 : h ≤ (rows.length : Int))
    (k : AQ I0 n D ((d, .sl m (rows.take h.toNat)) :: E) H (wpList P ops Q rest)) : AQ I0 n D E H (wpList P ops Q (⟨some d, .slice t x none (some hi) none, ty, pos, after, g⟩ :: rest)) :=
  AQ.pure hw rfl hn (fun I a w ha ho => by
    have hs := opAV_ok ha hx
    obtain ⟨A, cap, e1, g1, g2, g3, g4⟩ := opAV_ok ha hx
    rw [e1] at hs
    refine ⟨_, ?_, sl_cut hs (l := 0) (h := h.toNat) (mx := cap) (by omega) (by omega) (by omega) (Nat.le_refl _)⟩
    have b1 := run_sliceB (P := P) (k := q2) (code := .sliceAcap) (i := h) (y := cap) (by omega) (by omega) w
    simp [execOp, e1, val_eq (opAV_ok ha hh), Instr.sliceAt, Instr.slice, Instr.sliceBounds, run_underlying ht, b1, (run_isAgg he w).2]) k
theorem AQ.cutFrom (hw : Runs E ops ⟨some d, .slice t x (some lo) none none, ty, pos, after, g⟩) (hx : opAV E x = some (.sl m rows)) (hl : opAV E lo = some (.val (.int q1 l))) (hn : Nat.blt d n = true) (ht : P.underlying t = some (.slice e)) {b : Bool} (he : aggOf P e = some (b, m)) (h0 : 0 ≤ l) (h1 : l ≤ (rows.length : Int))
    (k : AQ I0 n D ((d, .sl m (rows.drop l.toNat)) :: E) H (wpList P ops Q rest)) : AQ I0 n D E H (wpList P ops Q (⟨some d, .slice t x (some lo) none none, ty, pos, after, g⟩ :: rest)) :=
  AQ.pure hw rfl hn (fun I a w ha ho => by
    have hs := opAV_ok ha hx
    obtain ⟨A, cap, e1, g1, g2, g3, g4⟩ := opAV_ok ha hx
    rw [e1] at hs
    have hc := sl_cut hs (l := l.toNat) (h := rows.length) (mx := cap) (by omega) (Nat.le_refl _) (by omega) (Nat.le_refl _)
    rw [List.take_length] at hc
    refine ⟨_, ?_, hc⟩
    have b2 := run_sliceB (P := P) (k := q1) (code := .sliceB) (i := l) (y := rows.length) (by omega) (by omega) w
    simp [execOp, e1, val_eq (opAV_ok ha hl), Instr.sliceAt, Instr.slice, Instr.sliceBounds, run_underlying ht, b2, (run_isAgg he w).2]) k
theorem AQ.cut3 (hw : Runs E ops ⟨some d, .slice t x none (some hi) (some mx), ty, pos, after, g⟩) (hx : opAV E x = some (.sl m rows)) (hh : opAV E hi = some (.val (.int q2 h))) (hm : opAV E mx = some (.val (.int q3 h))) (hn : Nat.blt d n = true) (ht : P.underlying t = some (.slice e)) {b : Bool} (he : aggOf P e = some (b, m)) (h1 : 0 ≤ h) (h2 : h ≤ (rows.length : Int))
    (k : AQ I0 n D ((d, .sl m (rows.take h.toNat)) :: E) H (wpList P ops Q rest)) : AQ I0 n D E H (wpList P ops Q (⟨some d, .slice t x none (some hi) (some mx), ty, pos, after, g⟩ :: rest)) :=
  AQ.pure hw rfl hn (fun I a w ha ho => by
    have hs := opAV_ok ha hx
    obtain ⟨A, cap, e1, g1, g2, g3, g4⟩ := opAV_ok ha hx
    rw [e1] at hs
    refine ⟨_, ?_, sl_cut hs (l := 0) (h := h.toNat) (mx := h.toNat) (by omega) (by omega) (Nat.le_refl _) (by omega)⟩
    have b1 := run_sliceB (P := P) (k := q3) (code := .slice3Acap) (i := h) (y := cap) (by omega) (by omega) w
    have b2 := run_sliceB (P := P) (k := q2) (code := .slice3B) (i := h) (y := h.toNat) (by omega) (by omega) w
    simp [execOp, e1, val_eq (opAV_ok ha hh), val_eq (opAV_ok ha hm), Instr.sliceAt, Instr.slice, Instr.sliceBounds, run_underlying ht, b1, b2, (run_isAgg he w).2]) k
/-- 's[:0:0]': nothing, to be appended to. -/
theorem AQ.cut00 {z1 z2 : IntKind} (hw : Runs E ops ⟨some d, .slice t x none (some hi) (some mx), ty, pos, after, g⟩) (hx : opAV E x = some (.sl m rows)) (hh : opAV E hi = some (.val (.int z1 0))) (hm : opAV E mx = some (.val (.int z2 0))) (hn : Nat.blt d n = true) (ht : P.underlying t = some (.slice e)) {b : Bool} (he : aggOf P e = some (b, m))
    (k : ∀ A, AQ I0 n D ((d, .val (.slice A 0 0)) :: E) H (wpList P ops Q rest)) : AQ I0 n D E H (wpList P ops Q (⟨some d, .slice t x none (some hi) (some mx), ty, pos, after, g⟩ :: rest)) :=
  AQ.opx (X := Option Addr) (av := fun A => .val (.slice A 0 0)) (H' := fun _ => H) hw rfl hn (fun I a w _ ha ho => by
    obtain ⟨A, cap, e1, g1, g2, g3, g4⟩ := opAV_ok ha hx
    refine ⟨A, .slice A 0 0, w, I, ?_, Imm.le_refl _, rfl, ho⟩
    have b1 := run_sliceB (P := P) (k := z2) (code := .slice3Acap) (i := 0) (y := cap) (by omega) (by omega) w
    have b2 := run_sliceB (P := P) (k := z1) (code := .slice3B) (i := 0) (y := 0) (by omega) (by omega) w
    simp [execOp, e1, val_eq (opAV_ok ha hh), val_eq (opAV_ok ha hm), Instr.sliceAt, Instr.slice, Instr.sliceBounds, run_underlying ht, b1, b2, (run_isAgg he w).2]) k
end
end Go.Fx
