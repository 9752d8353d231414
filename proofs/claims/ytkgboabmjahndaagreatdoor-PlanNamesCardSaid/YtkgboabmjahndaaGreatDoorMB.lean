/- Rules for walks, pure facts of the program, contracts of its functions: FxDraw FxMore FxEq FxScope FxDone FxOpen FxStr FxGrow FxData FxDrawE. -/
import Derived.Test.YtkgboabmjahndaaGreatDoorMA
import Derived.Orders
import Derived.Laws.Cover3
import Derived.Laws.Pointers
import Derived.Laws.Small
import Derived.ScopeJumps
import Derived.ChangeArms
import Derived.WideShapes
import Derived.Carry
import Derived.Laws.IdiomStrings
set_option linter.unusedVariables false
set_option linter.unusedSimpArgs false
namespace Go.Fx
open Go

/-! ### Regions that draw their order: each operation by itself, in whatever order the edges let -/
/-- What is only known once an operation was done (a block's number, a slice). -/
abbrev XV := Nat × Value
def xNone : XV := (0, undef)
def updx (xs : Nat → XV) (i : Nat) (x : XV) (k : Nat) : XV := match Nat.beq k i with | true => x | false => xs k

structure Lo where
  dst : Option Nat
  anc : List Nat
  dep : List Nat
  need : List Nat
  dx : List Nat
  av : List XV → AV
structure To where
  born : Option Nat
  dies : Option Nat
  dx : List Nat
  ha : List XV → HA
def Lo.fix (dst : Nat) (anc dep need : List Nat) (av : AV) : Lo := ⟨some dst, anc, dep, need, [], fun _ => av⟩
def Lo.fix0 (anc dep need : List Nat) : Lo := ⟨none, anc, dep, need, [], fun _ => .val undef⟩
def Lo.ptr (dst : Nat) (anc dep need : List Nat) (k off : Nat) : Lo := ⟨some dst, anc, dep, need, [k], fun l => .val (.pointer (some ⟨(l.headD xNone).1, off, none⟩))⟩
def Lo.own (dst : Nat) (anc dep need : List Nat) (k : Nat) : Lo := ⟨some dst, anc, dep, need, [k], fun l => .val (l.headD xNone).2⟩
def To.fix (born dies : Option Nat) (h : HA) : To := ⟨born, dies, [], fun _ => h⟩
def To.box (born dies : Option Nat) (k : Nat) (ty : TypeId) (c : List AV) : To := ⟨born, dies, [k], fun l => .box (l.headD xNone).1 ty c⟩
def To.osl (born dies : Option Nat) (k : Nat) (e : TypeId) (m : Nat) (rows : List (List AV)) : To := ⟨born, dies, [k], fun l => .osl (l.headD xNone).2 e m rows⟩

/-- What is told of operation j. -/
def lk : List (Nat × Lo) → Nat → Option Lo
  | [], _ => none
  | (k, l) :: r, j => match Nat.beq k j with | true => some l | false => lk r j
def ent (L : List (Nat × Lo)) (xs : Nat → XV) (j : Nat) : Env :=
  match lk L j with
  | none => []
  | some l => match l.dst with
    | none => []
    | some d => [(d, l.av (l.dx.map xs))]
def ents (L : List (Nat × Lo)) (xs : Nat → XV) : List Nat → Env
  | [] => []
  | j :: r => ent L xs j ++ ents L xs r
def toks (T : List To) (xs : Nat → XV) : List Nat → List HA
  | [] => []
  | t :: r => match T[t]? with
    | none => toks T xs r
    | some u => u.ha (u.dx.map xs) :: toks T xs r

def isAt : Option Nat → Nat → Bool
  | none, _ => false
  | some k, i => Nat.beq k i
theorem isAt_iff {x : Option Nat} {i : Nat} : isAt x i = true ↔ x = some i := by
  cases x with
  | none => simp [isAt]
  | some k => simp [isAt]
def tBorn (T : List To) (t : Nat) : Option Nat := match T[t]? with | some u => u.born | none => none
def tDies (T : List To) (t : Nat) : Option Nat := match T[t]? with | some u => u.dies | none => none
def countUp : Nat → Nat → List Nat
  | _, 0 => []
  | k, n + 1 => k :: countUp (k + 1) n
theorem countUp_eq : ∀ (n k : Nat), countUp k n = List.range' k n
  | 0, _ => rfl
  | n + 1, k => by rw [countUp, List.range'_succ, countUp_eq n (k + 1)]
theorem countUp_range (n : Nat) : countUp 0 n = List.range n := by rw [countUp_eq, List.range_eq_range']
/-- What is there from the start. -/
def tInit (T : List To) : List Nat := (countUp 0 T.length).filter fun t => (tBorn T t).isNone
def tFin (T : List To) : List Nat := (countUp 0 T.length).filter fun t => (tDies T t).isNone
/-- What is there behind an operation, of what it needs and makes. -/
def tPost (T : List To) (need : List Nat) (i : Nat) : List Nat := (need.filter fun t => !isAt (tDies T t) i) ++ (countUp 0 T.length).filter fun t => isAt (tBorn T t) i

def ancOf (L : List (Nat × Lo)) (i : Nat) : List Nat := ((lk L i).map (·.anc)).getD []
/-- One operation by itself: from the slots that it looks at, and what it needs. -/
def Local (P : Program) (I0 : Imm) (n : Nat) (D : List Deferred) (ops : List Oper) (E0 : Env) (T : List To) (L : List (Nat × Lo)) (i : Nat) (o : Oper) (l : Lo) : Prop :=
  ∀ (xs : Nat → XV) (E' : Env) (F : List HA) (Q : Exit → Act → World → Prop),
    (∀ x : XV, AQ I0 n D (ent L (updx xs i x) i ++ (ents L xs l.dep ++ (E0 ++ E'))) (toks T (updx xs i x) (tPost T l.need i) ++ F) (Q .normal)) →
    AQ I0 n D (ents L xs l.dep ++ (E0 ++ E')) (toks T xs l.need ++ F) (wpList P ops.toArray Q [o])

inductive Dr (P : Program) (I0 : Imm) (n : Nat) (D : List Deferred) (ops : List Oper) (E0 : Env) (T : List To) : Nat → List (Nat × Lo) → List Oper → List (Nat × Lo) → Prop
  | nil {i : Nat} {hist : List (Nat × Lo)} : Dr P I0 n D ops E0 T i hist [] hist
  | cons {i : Nat} {hist : List (Nat × Lo)} {o : Oper} {rest : List Oper} {fin : List (Nat × Lo)} (l : Lo) (h : Local P I0 n D ops E0 T ((i, l) :: hist) i o l) (r : Dr P I0 n D ops E0 T (i + 1) ((i, l) :: hist) rest fin) : Dr P I0 n D ops E0 T i hist (o :: rest) fin

def afterOf (ops : List Oper) (i : Nat) : List Nat := match ops[i]? with | some o => (o.after.toList.filter (Region.binds .any)).map (·.on) | none => []
def dstOf (ops : List Oper) (i : Nat) : Option Nat := (ops[i]?).bind (·.dst)
/-- What is asked of the lists: by reckoning. -/
def drOk (ops : List Oper) (L : List (Nat × Lo)) (T : List To) : Bool :=
  L.all (fun p => Nat.blt p.1 ops.length) &&
  ((List.range ops.length).all (fun i =>
    (afterOf ops i).all (fun e => Nat.blt e i) &&
    (ancOf L i).all (fun j => (afterOf ops i).any fun e => e == j || (ancOf L e).contains j) &&
    (match lk L i with
    | none => false
    | some l => decide (l.dst = dstOf ops i) && l.dep.all (fun j => l.anc.contains j) && l.dx.all (fun k => k == i || l.anc.contains k) && decide l.need.Nodup &&
      l.need.all (fun t => Nat.blt t T.length && (match tBorn T t with | none => true | some b => l.anc.contains b) && (match tDies T t with | none => true | some k => k == i || (ancOf L k).contains i))) &&
    (List.range ops.length).all (fun j => i == j || dstOf ops i == none || !(dstOf ops i == dstOf ops j))) &&
  (List.range T.length).all (fun t => match T[t]? with
    | none => false
    | some u => (match u.born with | none => u.dx.isEmpty | some b => Nat.blt b ops.length && u.dx.all fun k => k == b || (ancOf L b).contains k) &&
      (match u.dies with | none => true | some k => Nat.blt k ops.length && match lk L k with | none => false | some l => l.need.contains t)))
/-- The slots told before aren't written in the region. -/
def envApart (ops : List Oper) (E0 : Env) : Bool := E0.all fun p => (List.range ops.length).all fun i => !(dstOf ops i == some p.1)

/-! ### Why it holds -/
section
variable {P : Program} {I0 : Imm} {n : Nat} {D : List Deferred} {ops : List Oper} {E0 : Env} {T : List To} {L : List (Nat × Lo)}

theorem look_append : ∀ (A B : Env) (t : Nat), look (A ++ B) t = match look A t with | some v => some v | none => look B t
  | [], _, _ => rfl
  | (k, v) :: A, B, t => by
    simp only [List.cons_append, look]
    cases Nat.beq k t with
    | true => rfl
    | false => exact look_append A B t
theorem EnvOk.append {I : Imm} {A B : Env} {a : Act} (h : EnvOk I A a) (k : EnvOk I B a) : EnvOk I (A ++ B) a := by
  intro t av e
  rw [look_append] at e
  cases hA : look A t with
  | some v => rw [hA] at e; injection e with e; subst e; exact h t v hA
  | none => rw [hA] at e; exact k t av e

theorem dr_get : ∀ {i : Nat} {hist : List (Nat × Lo)} {rest : List Oper} {fin : List (Nat × Lo)}, Dr P I0 n D ops E0 T i hist rest fin → (∃ tl : List (Nat × Lo), fin = tl ++ hist ∧ ∀ x ∈ tl, i ≤ x.1) ∧
    ∀ j o, rest[j]? = some o → ∃ l hj, lk fin (i + j) = some l ∧ Local P I0 n D ops E0 T hj (i + j) o l ∧ ∀ m, m ≤ i + j → lk hj m = lk fin m := by
  have hlk : ∀ (tl h : List (Nat × Lo)) (k m : Nat), (∀ x ∈ tl, k ≤ x.1) → m < k → lk (tl ++ h) m = lk h m := by
    intro tl
    induction tl with
    | nil => intro h k m _ _; rfl
    | cons x tl ih =>
      intro h k m hx hm
      have h1 : k ≤ x.1 := hx x (by simp)
      obtain ⟨y, z⟩ := x
      simp only [List.cons_append, lk]
      cases hb : Nat.beq y m with
      | true => have := Nat.eq_of_beq_eq_true hb; simp only at h1; omega
      | false => exact ih h k m (fun x hx' => hx x (by simp [hx'])) hm
  intro i hist rest fin h
  induction h with
  | nil => exact ⟨⟨[], by simp⟩, fun j o e => by simp at e⟩
  | @cons i hist o rest fin l h r ih =>
    obtain ⟨⟨tl, rfl, hl⟩, ih⟩ := ih
    refine ⟨⟨tl ++ [(i, l)], by simp, fun x hx => ?_⟩, fun j o' e => ?_⟩
    · rcases List.mem_append.1 hx with hx | hx
      · exact Nat.le_of_succ_le (hl x hx)
      · simp at hx; subst hx; exact Nat.le_refl _
    · cases j with
      | zero =>
        simp only [List.getElem?_cons_zero, Option.some.injEq] at e
        subst e
        have h0 : lk (tl ++ (i, l) :: hist) i = some l := by
          rw [hlk tl _ (i + 1) i hl (Nat.lt_succ_self _)]
          simp [lk]
        exact ⟨l, (i, l) :: hist, h0, h, fun m hm => (hlk tl _ (i + 1) m hl (by omega)).symm⟩
      | succ j =>
        obtain ⟨l', hj, h1, h2, h3⟩ := ih j o' (by simpa using e)
        rw [show i + 1 + j = i + (j + 1) by omega] at h1 h2 h3
        exact ⟨l', hj, h1, h2, h3⟩

theorem ent_same {hj : List (Nat × Lo)} {xs : Nat → XV} {j : Nat} (h : lk hj j = lk L j) : ent hj xs j = ent L xs j := by unfold ent; rw [h]
theorem ents_same {hj : List (Nat × Lo)} {xs : Nat → XV} : ∀ {js : List Nat}, (∀ j ∈ js, lk hj j = lk L j) → ents hj xs js = ents L xs js
  | [], _ => rfl
  | j :: js, h => by unfold ents; rw [ent_same (h j (by simp)), ents_same (fun k hk => h k (by simp [hk]))]

theorem toks_eq (xs : Nat → XV) : ∀ ts : List Nat, toks T xs ts = ts.filterMap fun t => (T[t]?).map fun u => u.ha (u.dx.map xs)
  | [] => rfl
  | t :: ts => by
    unfold toks
    rw [List.filterMap_cons]
    cases T[t]? with
    | none => exact toks_eq xs ts
    | some u => simp [toks_eq xs ts]
theorem toks_append (xs : Nat → XV) (a b : List Nat) : toks T xs (a ++ b) = toks T xs a ++ toks T xs b := by simp [toks_eq]
theorem toks_perm (xs : Nat → XV) {a b : List Nat} (h : a.Perm b) : (toks T xs a).Perm (toks T xs b) := by rw [toks_eq, toks_eq]; exact h.filterMap _
theorem toks_congr {xs ys : Nat → XV} : ∀ {ts : List Nat}, (∀ t ∈ ts, ∀ u, T[t]? = some u → u.dx.map xs = u.dx.map ys) → toks T xs ts = toks T ys ts
  | [], _ => rfl
  | t :: ts, h => by
    unfold toks
    cases hT : T[t]? with
    | none => exact toks_congr (fun s hs => h s (by simp [hs]))
    | some u => simp only; rw [h t (by simp) u hT, toks_congr (fun s hs => h s (by simp [hs]))]

theorem updx_ne {xs : Nat → XV} {i k : Nat} {x : XV} (h : k ≠ i) : updx xs i x k = xs k := by
  unfold updx
  cases hb : Nat.beq k i with
  | true => exact absurd (Nat.eq_of_beq_eq_true hb) h
  | false => rfl
theorem map_updx {xs : Nat → XV} {i : Nat} {x : XV} {l : List Nat} (h : i ∉ l) : l.map (updx xs i x) = l.map xs :=
  List.map_congr_left fun k hk => updx_ne (fun e => h (e ▸ hk))

/-- What the reckoning says. -/
structure DrFacts (ops : List Oper) (L : List (Nat × Lo)) (T : List To) : Prop where
  back : ∀ i, i < ops.length → ∀ e ∈ afterOf ops i, e < i
  anc : ∀ i, i < ops.length → ∀ j ∈ ancOf L i, ∃ e ∈ afterOf ops i, j = e ∨ j ∈ ancOf L e
  keys : ∀ i l, lk L i = some l → i < ops.length
  lo : ∀ i, i < ops.length → ∃ l : Lo, lk L i = some l ∧ l.dst = dstOf ops i ∧ (∀ j ∈ l.dep, j ∈ l.anc) ∧ (∀ k ∈ l.dx, k = i ∨ k ∈ l.anc) ∧ l.need.Nodup ∧
    ∀ t ∈ l.need, t < T.length ∧ (∀ b, tBorn T t = some b → b ∈ l.anc) ∧ ∀ k, tDies T t = some k → k = i ∨ i ∈ ancOf L k
  apart : ∀ i j, i < ops.length → j < ops.length → i ≠ j → ∀ d, dstOf ops i = some d → dstOf ops j ≠ some d
  to : ∀ (t : Nat) (u : To), T[t]? = some u → (u.born = none → u.dx = []) ∧ (∀ b, u.born = some b → b < ops.length ∧ ∀ k ∈ u.dx, k = b ∨ k ∈ ancOf L b) ∧ ∀ k, u.dies = some k → k < ops.length ∧ ∃ l : Lo, lk L k = some l ∧ t ∈ l.need

theorem drOk_facts (h : drOk ops L T = true) : DrFacts ops L T := by
  unfold drOk at h
  rw [Bool.and_eq_true, Bool.and_eq_true] at h
  obtain ⟨h0, h1, h2⟩ := h
  have g : ∀ i, i < ops.length → _ := fun i hi => List.all_eq_true.1 h1 i (List.mem_range.2 hi)
  simp only [Bool.and_eq_true] at g
  refine ⟨fun i hi e he => ?_, fun i hi j hj => ?_, fun i l hl => ?_, fun i hi => ?_, fun i j hi hj hne d hd hd2 => ?_, fun t u ht => ?_⟩
  · have := List.all_eq_true.1 (g i hi).1.1.1 e he
    simpa [Nat.blt_eq] using this
  · have := List.all_eq_true.1 (g i hi).1.1.2 j hj
    obtain ⟨e, he, hb⟩ := List.any_eq_true.1 this
    refine ⟨e, he, ?_⟩
    simp only [Bool.or_eq_true, beq_iff_eq, List.contains_iff_mem] at hb
    exact hb.imp Eq.symm id
  · have hk : ∀ (L : List (Nat × Lo)), L.all (fun p => Nat.blt p.1 ops.length) = true → lk L i = some l → i < ops.length := by
      intro L
      induction L with
      | nil => intro _ h; cases h
      | cons x L ih =>
        intro ha h
        obtain ⟨y, z⟩ := x
        rw [List.all_cons, Bool.and_eq_true] at ha
        simp only [lk] at h
        cases hb : Nat.beq y i with
        | true => rw [← Nat.eq_of_beq_eq_true hb]; simpa [Nat.blt_eq] using ha.1
        | false => rw [hb] at h; exact ih ha.2 h
    exact hk L h0 hl
  · have := (g i hi).1.2
    cases hl : lk L i with
    | none => rw [hl] at this; cases this
    | some l =>
      rw [hl] at this
      simp only [Bool.and_eq_true, List.all_eq_true, decide_eq_true_eq, List.contains_iff_mem, Bool.or_eq_true, beq_iff_eq] at this
      obtain ⟨⟨⟨⟨q0, q1⟩, q2⟩, q3⟩, q4⟩ := this
      refine ⟨l, rfl, q0, q1, q2, q3, fun t ht => ?_⟩
      obtain ⟨⟨r1, r2⟩, r3⟩ := q4 t ht
      refine ⟨by simpa [Nat.blt_eq] using r1, fun b hb => ?_, fun k hk => ?_⟩
      · rw [hb] at r2; simpa using r2
      · rw [hk] at r3; simpa using r3
  · have := List.all_eq_true.1 (g i hi).2 j (List.mem_range.2 hj)
    simp only [Bool.or_eq_true, beq_iff_eq, Bool.not_eq_true', beq_eq_false_iff_ne] at this
    rcases this with (this | this) | this
    · exact hne this
    · rw [hd] at this; cases this
    · exact this (hd.trans hd2.symm)
  · have hlt : t < T.length := (List.getElem?_eq_some_iff.1 ht).1
    have := List.all_eq_true.1 h2 t (List.mem_range.2 hlt)
    rw [ht] at this
    simp only [Bool.and_eq_true] at this
    refine ⟨fun hb => ?_, fun b hb => ?_, fun k hk => ?_⟩
    · have q := this.1
      rw [hb] at q
      simpa using q
    · have q := this.1
      rw [hb] at q
      simp only [Bool.and_eq_true, List.all_eq_true, Bool.or_eq_true, beq_iff_eq, List.contains_iff_mem] at q
      exact ⟨by simpa [Nat.blt_eq] using q.1, q.2⟩
    · have q := this.2
      rw [hk] at q
      simp only [Bool.and_eq_true] at q
      obtain ⟨q0, q⟩ := q
      refine ⟨by simpa [Nat.blt_eq] using q0, ?_⟩
      cases hl : lk L k with
      | none => rw [hl] at q; cases q
      | some l => rw [hl] at q; exact ⟨l, rfl, by simpa [List.contains_iff_mem] using q⟩

theorem anc_lt (f : DrFacts ops L T) : ∀ i, i < ops.length → ∀ j ∈ ancOf L i, j < i := by
  intro i
  induction i using Nat.strongRecOn with
  | _ i ih =>
    intro hi j hj
    obtain ⟨e, he, h⟩ := f.anc i hi j hj
    have hlt := f.back i hi e he
    rcases h with rfl | h
    · exact hlt
    · exact Nat.lt_trans (ih e hlt (by omega) j h) hlt

def isIn (listed : Array Bool) (j : Nat) : Prop := listed.getD j false = true
def Down (L : List (Nat × Lo)) (listed : Array Bool) : Prop := ∀ j, isIn listed j → ∀ k ∈ ancOf L j, isIn listed k
def presB (T : List To) (listed : Array Bool) (t : Nat) : Bool :=
  (match tBorn T t with | none => true | some b => listed.getD b false) && (match tDies T t with | none => true | some k => !listed.getD k false)
def pres (T : List To) (listed : Array Bool) : List Nat := (List.range T.length).filter (presB T listed)

theorem mem_pres {listed : Array Bool} {t : Nat} : t ∈ pres T listed ↔ t < T.length ∧ (∀ b, tBorn T t = some b → isIn listed b) ∧ ∀ k, tDies T t = some k → ¬ isIn listed k := by
  unfold pres
  rw [List.mem_filter, List.mem_range]
  refine and_congr_right fun _ => ?_
  unfold presB isIn
  rw [Bool.and_eq_true]
  refine and_congr ?_ ?_
  · cases tBorn T t <;> simp
  · cases tDies T t <;> simp

theorem countP_lt_of {p q : Nat → Bool} : ∀ {l : List Nat} {i : Nat}, i ∈ l → (∀ j ∈ l, q j = true → p j = true) → p i = true → q i = false → l.countP q < l.countP p
  | [], _, h, _, _, _ => by cases h
  | x :: l, i, h, k, hp, hq => by
    have hle : l.countP q ≤ l.countP p := List.countP_mono_left fun j hj hqj => k j (by simp [hj]) hqj
    rcases List.mem_cons.1 h with rfl | h
    · rw [List.countP_cons_of_pos hp, List.countP_cons_of_neg (by simp [hq])]; omega
    · have ih := countP_lt_of h (fun j hj => k j (by simp [hj])) hp hq
      cases hqx : q x with
      | true => rw [List.countP_cons_of_pos (k x (by simp) hqx), List.countP_cons_of_pos hqx]; omega
      | false => rw [List.countP_cons_of_neg (by simp [hqx])]; rw [List.countP_cons]; omega

structure St (I0 : Imm) (n : Nat) (D : List Deferred) (ops : List Oper) (E0 : Env) (T : List To) (L : List (Nat × Lo)) (F0 : List HA) (listed : Array Bool) (xs : Nat → XV) (I : Imm) (a : Act) (w : World) : Prop where
  le : I0 ≤ I
  size : a.tmps.size = n
  defers : a.defers = D
  env : EnvOk I E0 a
  slots : ∀ j, isIn listed j → EnvOk I (ent L xs j) a
  ok : Ok I (toks T xs (pres T listed) ++ F0) w

theorem ents_ok {xs : Nat → XV} {I : Imm} {a : Act} : ∀ {js : List Nat}, (∀ j ∈ js, EnvOk I (ent L xs j) a) → EnvOk I (ents L xs js) a
  | [], _ => fun _ _ e => by cases e
  | j :: js, h => (h j (by simp)).append (ents_ok fun k hk => h k (by simp [hk]))

theorem ent_of (f : DrFacts ops L T) {xs : Nat → XV} {j d : Nat} {l : Lo} (hd : dstOf ops j = some d) (hl : lk L j = some l) : ent L xs j = [(d, l.av (l.dx.map xs))] := by
  obtain ⟨l', hl', hdst, _⟩ := f.lo j (f.keys j l hl)
  rw [hl] at hl'
  injection hl' with hl'
  subst hl'
  unfold ent
  rw [hl]
  simp only
  rw [hdst, hd]
theorem ent_none (f : DrFacts ops L T) {xs : Nat → XV} {j : Nat} (hd : dstOf ops j = none) : ent L xs j = [] := by
  unfold ent
  cases hl : lk L j with
  | none => rfl
  | some l =>
    obtain ⟨l', hl', hdst, _⟩ := f.lo j (f.keys j l hl)
    rw [hl] at hl'
    injection hl' with hl'
    subst hl'
    simp only
    rw [hdst, hd]
theorem look_ent_ne (f : DrFacts ops L T) {xs : Nat → XV} {j d : Nat} (hd : dstOf ops j ≠ some d) : look (ent L xs j) d = none := by
  cases h : dstOf ops j with
  | none => rw [ent_none f h]; rfl
  | some e =>
    cases hl : lk L j with
    | none => unfold ent; rw [hl]; rfl
    | some l =>
      rw [ent_of f h hl]
      unfold look
      cases hb : Nat.beq e d with
      | true => rw [h, Nat.eq_of_beq_eq_true hb] at hd; exact absurd rfl hd
      | false => rfl
theorem lt_of_dst {j d : Nat} (hd : dstOf ops j = some d) : j < ops.length := by
  unfold dstOf at hd
  cases ho : ops[j]? with
  | none => rw [ho] at hd; cases hd
  | some o => exact (List.getElem?_eq_some_iff.1 ho).1
theorem look_ents (f : DrFacts ops L T) {xs : Nat → XV} {j d : Nat} {l : Lo} (hd : dstOf ops j = some d) (hl : lk L j = some l) : ∀ js : List Nat,
    (j ∈ js → look (ents L xs js) d = some (l.av (l.dx.map xs))) ∧ (j ∉ js → look (ents L xs js) d = none)
  | [] => ⟨fun h => by simp at h, fun _ => rfl⟩
  | i :: js => by
    have ih := look_ents f (xs := xs) hd hl js
    unfold ents
    rw [look_append]
    by_cases e : i = j
    · subst e
      rw [ent_of f hd hl]
      refine ⟨fun _ => by simp [look], fun h => by simp at h⟩
    · have : look (ent L xs i) d = none := look_ent_ne f fun hd2 => f.apart i j (lt_of_dst hd2) (lt_of_dst hd) e d hd2 hd
      rw [this]
      simp only [List.mem_cons]
      refine ⟨fun h => ih.1 (h.resolve_left (fun x => e x.symm)), fun h => ih.2 (fun x => h (.inr x))⟩
theorem look_apart (h : envApart ops E0 = true) {j d : Nat} (hd : dstOf ops j = some d) : look E0 d = none := by
  cases he : look E0 d with
  | none => rfl
  | some av =>
    have := List.all_eq_true.1 h _ (look_mem he)
    have := List.all_eq_true.1 this j (List.mem_range.2 (lt_of_dst hd))
    simp [hd] at this
theorem look_ents_out (f : DrFacts ops L T) {xs : Nat → XV} {d : Nat} (h : ∀ j, dstOf ops j ≠ some d) : ∀ js : List Nat, look (ents L xs js) d = none
  | [] => rfl
  | j :: js => by unfold ents; rw [look_append, look_ent_ne f (h j)]; exact look_ents_out f h js

theorem wp_then {o : Oper} {a : Act} {w : World} {K : Act → World → Prop} {Q : Exit → Act → World → Prop} (h : o.wp P a w K (Exit.then K Q)) : o.wp P a w K Q := by
  unfold Oper.wp at *
  generalize (execOp a.eval o).run P w = r at *
  cases r with
  | ok n w' =>
    cases n <;> simp only [Oper.upon] at h ⊢ <;>
      first
        | exact h
        | exact Calls.mono h (fun e w'' he => by cases e <;> first | exact he | (obtain ⟨x, y, z⟩ := he; exact ⟨x, y, z⟩))
  | halt x w' => cases x <;> simp only [Oper.upon] at h ⊢ <;> exact h

theorem wpOp_of_list {K : Act → World → Prop} {Q : Exit → Act → World → Prop} {i : Nat} {o : Oper} {a : Act} {w : World} (ho : ops[i]? = some o) (h : wpList P ops.toArray (Exit.then K Q) [o] a w) : wpOp P ops.toArray Q i K a w := by
  unfold wpOp
  rw [show ops.toArray[i]? = some o by simpa using ho]
  simp only [wpList] at h ⊢
  split at h
  · rename_i hw
    rw [if_pos hw]
    refine h.imp (fun h => wp_then h) (fun h => ⟨h.1, ?_⟩)
    obtain ⟨x, y, z⟩ := h.2
    exact ⟨x, y, z⟩
  · rename_i hw
    rw [if_neg hw]
    exact h

theorem isIn_set {listed : Array Bool} {i j : Nat} (hi : i < listed.size) : isIn (listed.setIfInBounds i true) j ↔ j = i ∨ isIn listed j := by
  unfold isIn
  by_cases e : j = i
  · subst e
    simp [hi]
  · rw [getD_set_ne false (Ne.symm e)]
    simp [e]

theorem draw_step (f : DrFacts ops L T) (hE : envApart ops E0 = true) {F0 : List HA} {Q : Exit → Act → World → Prop} {K : Act → World → Prop} {listed : Array Bool} {xs : Nat → XV} {I : Imm} {a : Act} {w : World} {i : Nat} {o : Oper} {l : Lo}
    {hj : List (Nat × Lo)} (ho : ops[i]? = some o) (hL : lk L i = some l) (hloc : Local P I0 n D ops E0 T hj i o l) (hsame : ∀ m, m ≤ i → lk hj m = lk L m) (hd : Down L listed) (hni : ¬ isIn listed i) (haf : ∀ e ∈ afterOf ops i, isIn listed e) (hsz : listed.size = ops.length)
    (st : St I0 n D ops E0 T L F0 listed xs I a w)
    (k : ∀ xs I a w, St I0 n D ops E0 T L F0 (listed.setIfInBounds i true) xs I a w → K a w) : wpOp P ops.toArray Q i K a w := by
  have hi : i < ops.length := (List.getElem?_eq_some_iff.1 ho).1
  have hin : ∀ j ∈ ancOf L i, isIn listed j := fun j hj => by
    obtain ⟨e, he, h⟩ := f.anc i hi j hj
    rcases h with rfl | h
    · exact haf _ he
    · exact hd e (haf e he) j h
  have hanc : ancOf L i = l.anc := by unfold ancOf; rw [hL]; rfl
  obtain ⟨l', hl', c0, c1, c2, c3, c4⟩ := f.lo i hi
  rw [hL] at hl'
  injection hl' with hl'
  subst hl'
  rw [hanc] at hin
  have hlt : ∀ j ∈ l.anc, j < i := fun j hj => anc_lt f i hi j (by rw [hanc]; exact hj)
  have hself : i ∉ l.anc := fun h => Nat.lt_irrefl _ (hlt i h)
  have hnoti : ∀ j, isIn listed j → i ∉ ancOf L j := fun j hj h => hni (hd j hj i h)
  have hneed : ∀ t ∈ l.need, t ∈ pres T listed := fun t ht => by
    obtain ⟨r1, r2, r3⟩ := c4 t ht
    refine mem_pres.2 ⟨r1, fun b hb => hin b (r2 b hb), fun k hk hl => ?_⟩
    rcases r3 k hk with rfl | h
    · exact hni hl
    · exact hnoti k hl h
  have hnd : (pres T listed).Nodup := List.nodup_range.filter _
  let rst := (pres T listed).filter fun t => !l.need.contains t
  have hp1 : (pres T listed).Perm (l.need ++ rst) := by
    refine (List.perm_ext_iff_of_nodup hnd ?_).2 fun t => ?_
    · rw [List.nodup_append]
      refine ⟨c3, hnd.filter _, fun x hx y hy e => ?_⟩
      subst e
      have := (List.mem_filter.1 hy).2
      simp [hx] at this
    · simp only [List.mem_append, rst, List.mem_filter]
      constructor
      · intro h
        by_cases hn : t ∈ l.need
        · exact .inl hn
        · exact .inr ⟨h, by simp [hn]⟩
      · rintro (h | h)
        · exact hneed t h
        · exact h.1
  let js := (List.range ops.length).filter fun j => listed.getD j false
  have hE0 : EnvOk I (ents hj xs l.dep ++ (E0 ++ ents L xs js)) a := by
    rw [ents_same (fun j hj => hsame j (Nat.le_of_lt (hlt j (c1 j hj))))]
    refine (ents_ok fun j hj => st.slots j (hin j (c1 j hj))).append (st.env.append (ents_ok fun j hj => st.slots j ?_))
    exact (List.mem_filter.1 hj).2
  have hok : Ok I (toks T xs l.need ++ (toks T xs rst ++ F0)) w := by
    refine st.ok.perm ?_
    rw [← List.append_assoc, ← toks_append]
    exact (toks_perm xs hp1).append_right _
  refine wpOp_of_list ho (hloc xs (ents L xs js) (toks T xs rst ++ F0) (Exit.then K Q) (fun x => ?_) I a w st.le st.size st.defers hE0 hok)
  intro I' a' w' g1 g2 g3 g4 g5
  have hups : ∀ j, isIn listed j → ent L (updx xs i x) j = ent L xs j := fun j hj => by
    cases hdj : dstOf ops j with
    | none => rw [ent_none f hdj, ent_none f hdj]
    | some d =>
      obtain ⟨lj, hlj, _, _, q2, _⟩ := f.lo j (lt_of_dst hdj)
      rw [ent_of f hdj hlj, ent_of f hdj hlj, map_updx]
      intro hm
      rcases q2 i hm with rfl | h
      · exact hni hj
      · exact hnoti j hj (by unfold ancOf; rw [hlj]; exact h)
  rw [ent_same (hsame i (Nat.le_refl _)), ents_same (fun j hj => hsame j (Nat.le_of_lt (hlt j (c1 j hj))))] at g4
  refine k (updx xs i x) I' a' w' ⟨g1, g2, g3, ?_, fun j hj => ?_, ?_⟩
  · intro t av e
    refine g4 t av ?_
    have hno : ∀ j, dstOf ops j ≠ some t := fun j hdj => by rw [look_apart hE hdj] at e; cases e
    rw [look_append, look_ent_ne f (hno i), look_append, look_ents_out f hno, look_append, e]
  · rcases (isIn_set (by omega)).1 hj with rfl | hj
    · intro t av e
      refine g4 t av ?_
      rw [look_append, e]
    · rw [hups j hj]
      cases hdj : dstOf ops j with
      | none => rw [ent_none f hdj]; intro t av e; cases e
      | some d =>
        obtain ⟨lj, hlj, _⟩ := f.lo j (lt_of_dst hdj)
        rw [ent_of f hdj hlj]
        intro t av e
        have ht : t = d ∧ some (lj.av (lj.dx.map xs)) = some av := by
          unfold look at e
          cases hb : Nat.beq d t with
          | true => rw [hb] at e; exact ⟨(Nat.eq_of_beq_eq_true hb).symm, e⟩
          | false => rw [hb] at e; cases e
        obtain ⟨rfl, ht⟩ := ht
        refine g4 t av ?_
        rw [look_append, look_ent_ne f (fun h => f.apart i j hi (lt_of_dst hdj) (fun e => hni (e ▸ hj)) t h hdj), look_append]
        by_cases hdep : j ∈ l.dep
        · rw [(look_ents f hdj hlj _).1 hdep]; exact ht
        · rw [(look_ents f hdj hlj _).2 hdep, look_append, look_apart hE hdj, (look_ents f hdj hlj js).1 (List.mem_filter.2 ⟨List.mem_range.2 (lt_of_dst hdj), hj⟩)]
          exact ht
  · have hrst : toks T xs rst = toks T (updx xs i x) rst := toks_congr fun t ht u hu => by
      refine (map_updx fun hm => ?_).symm
      obtain ⟨q1, q2, q3⟩ := f.to t u hu
      have hpt := (mem_pres.1 (List.mem_filter.1 ht).1)
      cases hb : u.born with
      | none => rw [q1 hb] at hm; simp at hm
      | some b =>
        have hbi : isIn listed b := hpt.2.1 b (by unfold tBorn; rw [hu]; exact hb)
        rcases (q2 b hb).2 i hm with rfl | h
        · exact hni hbi
        · exact hnoti b hbi h
    rw [hrst, ← List.append_assoc, ← toks_append] at g5
    refine g5.perm ((toks_perm _ ?_).append_right _)
    refine (List.perm_ext_iff_of_nodup ?_ (show (pres T (listed.setIfInBounds i true)).Nodup from List.nodup_range.filter _)).2 fun t => ?_
    · unfold tPost
      rw [countUp_range]
      rw [List.nodup_append, List.nodup_append]
      refine ⟨⟨c3.filter _, List.nodup_range.filter _, fun x hx y hy e => ?_⟩, hnd.filter _, fun x hx y hy e => ?_⟩
      · subst e
        have h1 := (List.mem_filter.1 hx).1
        have h2 : tBorn T x = some i := isAt_iff.1 (List.mem_filter.1 hy).2
        exact hself ((c4 x h1).2.1 i h2)
      · subst e
        have h3 := (List.mem_filter.1 hy)
        rcases List.mem_append.1 hx with hx | hx
        · have h1 := (List.mem_filter.1 hx).1
          have := h3.2
          simp [h1] at this
        · have h2 : tBorn T x = some i := isAt_iff.1 (List.mem_filter.1 hx).2
          exact hni ((mem_pres.1 h3.1).2.1 i h2)
    · unfold tPost
      rw [countUp_range]
      simp only [List.mem_append, List.mem_filter, rst]
      rw [mem_pres, mem_pres]
      constructor
      · rintro ((⟨h1, h2⟩ | ⟨h1, h2⟩) | ⟨⟨h1, h2, h3⟩, h4⟩)
        · obtain ⟨r1, r2, r3⟩ := mem_pres.1 (hneed t h1)
          refine ⟨r1, fun b hb => (isIn_set (by omega)).2 (.inr (r2 b hb)), fun k hk hin => ?_⟩
          rcases (isIn_set (by omega)).1 hin with rfl | hin
          · simp [hk, isAt] at h2
          · exact r3 k hk hin
        · have h2' : tBorn T t = some i := isAt_iff.1 h2
          refine ⟨List.mem_range.1 h1, fun b hb => ?_, fun k hk hin => ?_⟩
          · rw [h2'] at hb; injection hb with hb; subst hb; exact (isIn_set (by omega)).2 (.inl rfl)
          · cases hu : T[t]? with
            | none => simp [tBorn, hu] at h2'
            | some u =>
              have hdies : u.dies = some k := by simpa [tDies, hu] using hk
              obtain ⟨_, lk, hlk, hmem⟩ := (f.to t u hu).2.2 k hdies
              have hkl : k < ops.length := by
                rcases (isIn_set (by omega)).1 hin with rfl | hin
                · exact hi
                · rcases Nat.lt_or_ge k ops.length with h | h
                  · exact h
                  · unfold isIn at hin
                    rw [Array.getD_eq_getD_getElem?, Array.getElem?_eq_none (by omega)] at hin
                    cases hin
              obtain ⟨lk', hlk', _, _, _, _, q4⟩ := f.lo k hkl
              rw [hlk] at hlk'
              injection hlk' with hlk'
              subst hlk'
              have hia : i ∈ lk.anc := (q4 t hmem).2.1 i h2'
              have hia' : i ∈ ancOf L k := by unfold ancOf; rw [hlk]; exact hia
              rcases (isIn_set (by omega)).1 hin with rfl | hin
              · rw [hanc] at hia'; exact hself hia'
              · exact hnoti k hin hia'
        · refine ⟨h1, fun b hb => (isIn_set (by omega)).2 (.inr (h2 b hb)), fun m hk hin => ?_⟩
          rcases (isIn_set (by omega)).1 hin with hmi | hin
          · rw [hmi] at hk
            cases hu : T[t]? with
            | none => simp [tDies, hu] at hk
            | some u =>
              obtain ⟨_, lk, hlk, hmem⟩ := (f.to t u hu).2.2 i (by simpa [tDies, hu] using hk)
              rw [hL] at hlk
              injection hlk with hlk
              subst hlk
              simp [hmem] at h4
          · exact h3 m hk hin
      · rintro ⟨h1, h2, h3⟩
        by_cases hb : tBorn T t = some i
        · exact .inl (.inr ⟨List.mem_range.2 h1, isAt_iff.2 hb⟩)
        · have hpr : (∀ b, tBorn T t = some b → isIn listed b) ∧ ∀ k, tDies T t = some k → ¬ isIn listed k :=
            ⟨fun b hb2 => ((isIn_set (by omega)).1 (h2 b hb2)).resolve_left (fun e => hb (e ▸ hb2)), fun k hk hin => h3 k hk ((isIn_set (by omega)).2 (.inr hin))⟩
          by_cases hn : t ∈ l.need
          · refine .inl (.inl ⟨hn, ?_⟩)
            have : tDies T t ≠ some i := fun e => h3 i e ((isIn_set (by omega)).2 (.inl rfl))
            cases hx : isAt (tDies T t) i with
            | true => exact absurd (isAt_iff.1 hx) this
            | false => rfl
          · exact .inr ⟨⟨h1, hpr⟩, by simp [hn]⟩

theorem AQ.draw {E : Env} {H : List HA} {Q : Exit → Act → World → Prop} {id : Nat} {F0 : List HA} (T : List To) (hm : P.follows .mixedOrders = true) (hH : H = toks T (fun _ => xNone) (tInit T) ++ F0) (d : Dr P I0 n D ops E T 0 [] ops L) (hok : drOk ops L T = true) (hE : envApart ops E = true)
    (k : ∀ xs : Nat → XV, AQ I0 n D (ents L xs (countUp 0 ops.length) ++ E) (toks T xs (tFin T) ++ F0) (Q .normal)) : AQ I0 n D E H ((Code.region id ops.toArray true).wp P Q) := by
  intro I a w h1 h2 h3 h4 h5
  have f := drOk_facts hok
  obtain ⟨_, hget⟩ := dr_get d
  have hT : ∀ t u, T[t]? = some u → tBorn T t = u.born ∧ tDies T t = u.dies := fun t u h => by simp [tBorn, tDies, h]
  have key : ∀ (fuel : Nat) (listed : Array Bool) (xs : Nat → XV) (I : Imm) (a : Act) (w : World), Down L listed → listed.size = ops.length → (List.range ops.length).countP (fun j => !listed.getD j false) ≤ fuel →
      St I0 n D ops E T L F0 listed xs I a w → wpAny P .any ops.toArray Q fuel listed a w := by
    have hend : ∀ (listed : Array Bool) (xs : Nat → XV) (I : Imm) (a : Act) (w : World), listed.size = ops.length → St I0 n D ops E T L F0 listed xs I a w → Region.ready .any ops.toArray listed = [] → Q .normal a w := by
      intro listed xs I a w hsz st hr
      have hall : ∀ j, j < ops.length → isIn listed j := by
        intro j
        induction j using Nat.strongRecOn with
        | _ j ih =>
          intro hj
          cases hb : listed.getD j false with
          | true => exact hb
          | false =>
            exfalso
            have hmem : j ∈ Region.ready .any ops.toArray listed := by
              refine mem_ready.2 ⟨?_, ops[j], by simp [hj], fun e he hbd => ?_⟩
              · rw [Array.getD_eq_getD_getElem?] at hb ⊢
                rw [Array.getElem?_eq_getElem (by omega)] at hb ⊢
                exact hb
              · have hea : e.on ∈ afterOf ops j := by
                  unfold afterOf
                  rw [List.getElem?_eq_getElem hj]
                  exact List.mem_map.2 ⟨e, List.mem_filter.2 ⟨by simpa using he, hbd⟩, rfl⟩
                have := f.back j hj _ hea
                exact ih _ this (by omega)
            rw [hr] at hmem
            cases hmem
      rw [countUp_range] at k
      refine k xs I a w st.le st.size st.defers ((ents_ok fun j hj => st.slots j (hall j (List.mem_range.1 hj))).append st.env) ?_
      have : pres T listed = tFin T := by
        unfold pres tFin
        rw [countUp_range]
        refine List.filter_congr fun t ht => ?_
        have htl := List.mem_range.1 ht
        have hu : T[t]? = some T[t] := List.getElem?_eq_getElem htl
        obtain ⟨e1, e2⟩ := hT t _ hu
        obtain ⟨q1, q2, q3⟩ := f.to t _ hu
        unfold presB
        have hb : (match tBorn T t with | none => true | some b => listed.getD b false) = true := by
          rw [e1]
          cases hbn : (T[t]).born with
          | none => rfl
          | some b => exact hall b (q2 b hbn).1
        rw [hb, Bool.true_and, e2]
        cases hdi : (T[t]).dies with
        | none => rfl
        | some k =>
          have hkl := (q3 k hdi).1
          have := hall k hkl
          unfold isIn at this
          simp [this]
      rw [← this]
      exact st.ok
    intro fuel
    induction fuel with
    | zero =>
      intro listed xs I a w hd hsz hc st
      have hr : Region.ready .any ops.toArray listed = [] := by
        have h0 : ∀ j ∈ List.range ops.length, ¬ (!listed.getD j false) = true := List.countP_eq_zero.1 (Nat.le_zero.1 hc)
        cases hrr : Region.ready .any ops.toArray listed with
        | nil => rfl
        | cons i r =>
          exfalso
          have hm' : i ∈ Region.ready .any ops.toArray listed := by rw [hrr]; simp
          obtain ⟨g1, o, go, _⟩ := mem_ready.1 hm'
          have hi : i < ops.length := by simpa using (Array.getElem?_eq_some_iff.1 go).1
          have := h0 i (List.mem_range.2 hi)
          rw [Array.getD_eq_getD_getElem?, Array.getElem?_eq_getElem (by omega)] at g1 this
          simp at g1 this
          rw [g1] at this
          cases this
      exact ⟨hr, hend listed xs I a w hsz st hr⟩
    | succ fuel ih =>
      intro listed xs I a w hd hsz hc st
      refine ⟨hend listed xs I a w hsz st, fun i hi => ?_⟩
      obtain ⟨g1, o, go, g2⟩ := mem_ready.1 hi
      have go' : ops[i]? = some o := by simpa using go
      have hil : i < ops.length := (List.getElem?_eq_some_iff.1 go').1
      obtain ⟨l, hj, hl, hloc, hsame⟩ := hget i o go'
      rw [Nat.zero_add] at hl hloc hsame
      have hni : ¬ isIn listed i := by
        unfold isIn
        rw [Array.getD_eq_getD_getElem?, Array.getElem?_eq_getElem (by omega)] at g1 ⊢
        simp at g1 ⊢
        exact g1
      have haf : ∀ e ∈ afterOf ops i, isIn listed e := by
        intro e he
        unfold afterOf at he
        rw [go'] at he
        obtain ⟨ed, hed, rfl⟩ := List.mem_map.1 he
        obtain ⟨h6, h7⟩ := List.mem_filter.1 hed
        exact g2 ed (by simpa using h6) h7
      refine draw_step f hE go' hl hloc hsame hd hni haf hsz st fun xs' I' a' w' st' => ih _ xs' I' a' w' ?_ (by simpa using hsz) ?_ st'
      · intro j hj m hm'
        rcases (isIn_set (by omega)).1 hj with rfl | hj
        · obtain ⟨e, he, h⟩ := f.anc j hil m hm'
          refine (isIn_set (by omega)).2 (.inr ?_)
          rcases h with rfl | h
          · exact haf _ he
          · exact hd e (haf e he) m h
        · exact (isIn_set (by omega)).2 (.inr (hd j hj m hm'))
      · have hlt : (List.range ops.length).countP (fun j => !(listed.setIfInBounds i true).getD j false) < (List.range ops.length).countP (fun j => !listed.getD j false) := by
          refine countP_lt_of (List.mem_range.2 hil) ?_ ?_ ?_
          · intro j hj
            cases hb : listed.getD j false with
            | false => simp
            | true => rw [show (listed.setIfInBounds i true).getD j false = true from (isIn_set (by omega)).2 (.inr hb)]; simp
          · have := hni; unfold isIn at this; simpa using this
          · rw [show (listed.setIfInBounds i true).getD i false = true from (isIn_set (by omega)).2 (.inl rfl)]; rfl
        omega
  refine wp_region_any hm ?_
  refine key ops.toArray.size _ (fun _ => xNone) I a _ ?_ (by simp) (Nat.le_trans List.countP_le_length (by simp)) ⟨h1, h2, h3, h4, ?_, ?_⟩
  · intro j hj
    unfold isIn at hj
    rw [Array.getD_eq_getD_getElem?, Array.getElem?_replicate] at hj
    split at hj <;> cases hj
  · intro j hj
    unfold isIn at hj
    rw [Array.getD_eq_getD_getElem?, Array.getElem?_replicate] at hj
    split at hj <;> cases hj
  · have : pres T (Array.replicate ops.toArray.size false) = tInit T := by
      unfold pres tInit
      rw [countUp_range]
      refine List.filter_congr fun t ht => ?_
      have h0 : ∀ b, (Array.replicate ops.toArray.size false).getD b false = false := fun b => by
        rw [Array.getD_eq_getD_getElem?, Array.getElem?_replicate]
        split <;> rfl
      unfold presB
      cases tBorn T t <;> cases tDies T t <;> simp only [h0] <;> rfl
    rw [this, ← hH]
    exact h5.drew
end
end Go.Fx
set_option linter.unusedVariables false
set_option linter.unusedSimpArgs false
namespace Go.Fx
open Go
variable {P : Program} {I0 : Imm} {n : Nat} {D : List Deferred} {E : Env} {H : List HA} {Q : Exit → Act → World → Prop} {ops : Array Oper} {rest : List Oper}
  {d : Nat} {ty : TypeId} {pos : String} {after : Array Edge} {g : Option (Nat × Bool)}

/-! ### A field of a struct by value -/
theorem run_part {s : TypeId} {f off sz : Nat} (h : fieldOff P s f = some off) {ft : TypeId} {b : Bool} (ha : aggOf P ft = some (b, sz)) (hft : ∃ fs fld, P.underlying s = some (.struct fs) ∧ fs[f]? = some fld ∧ fld.type = ft) (cs : Array Value) (w : World) :
    (Instr.field s (.agg cs) f).run P w = (part ft cs off).run P w := by
  obtain ⟨fs, fld, hu, hf, rfl⟩ := hft
  unfold fieldOff at h
  rw [hu] at h
  simp only [hf] at h
  split at h
  · split at h
    · cases h
    · injection h with h
      subst h
      simp [Instr.field, run_underlying hu, hf, asAgg]
  · cases h
def fieldTy (P : Program) (s : TypeId) (f : Nat) : Option TypeId := match P.underlying s with | some (.struct fs) => (fs[f]?).map (·.type) | _ => none
theorem fieldTy_spec {s ft : TypeId} {f : Nat} (h : fieldTy P s f = some ft) : ∃ fs fld, P.underlying s = some (.struct fs) ∧ fs[f]? = some fld ∧ fld.type = ft := by
  unfold fieldTy at h
  split at h
  · rename_i fs hu
    cases hf : fs[f]? with
    | none => rw [hf] at h; cases h
    | some fld => rw [hf] at h; exact ⟨fs, fld, hu, hf, Option.some.inj h⟩
  · cases h
theorem AQ.field1 {s ft : TypeId} {f off sz : Nat} {x : Operand} {l r : List AV} {av : AV} (hw : Runs E ops ⟨some d, .field s x f, ty, pos, after, g⟩) (hx : opAV E x = some (.agg l)) (hn : Nat.blt d n = true) (hf : fieldOff P s f = some off) (hft : fieldTy P s f = some ft) (ht : aggOf P ft = some (false, sz)) (hl : l.drop off = av :: r)
    (k : AQ I0 n D ((d, av) :: E) H (wpList P ops Q rest)) : AQ I0 n D E H (wpList P ops Q (⟨some d, .field s x f, ty, pos, after, g⟩ :: rest)) :=
  AQ.pure hw rfl hn (fun I a w ha _ => by
    obtain ⟨cs, e, hc⟩ := opAV_ok ha hx
    have h0 : l[off]? = some av := by
      have := congrArg (·[0]?) hl
      simpa using this
    obtain ⟨c, h1, h2, _⟩ := hc.get off av h0
    refine ⟨c, ?_, h2⟩
    have := run_part hf ht (fieldTy_spec hft) cs.toArray w
    simp [execOp, e, this, part, (run_isAgg ht w).1, h1]) k
theorem AQ.fieldA {s ft : TypeId} {f off sz : Nat} {x : Operand} {l l' : List AV} (hw : Runs E ops ⟨some d, .field s x f, ty, pos, after, g⟩) (hx : opAV E x = some (.agg l)) (hn : Nat.blt d n = true) (hf : fieldOff P s f = some off) (hft : fieldTy P s f = some ft) (ht : aggOf P ft = some (true, sz)) (hl : (l.drop off).take sz = l')
    (k : AQ I0 n D ((d, .agg l') :: E) H (wpList P ops Q rest)) : AQ I0 n D E H (wpList P ops Q (⟨some d, .field s x f, ty, pos, after, g⟩ :: rest)) :=
  AQ.pure hw rfl hn (fun I a w ha _ => by
    obtain ⟨cs, e, hc⟩ := opAV_ok ha hx
    have := run_part hf ht (fieldTy_spec hft) cs.toArray w
    refine ⟨.agg ((cs.drop off).take sz).toArray, ?_, _, rfl, hl ▸ (hc.drop off).take sz⟩
    have he : cs.toArray.extract off (off + sz) = ((cs.drop off).take sz).toArray := by
      apply Array.ext'
      simp [List.take_drop, Nat.add_comm]
    simp [execOp, e, this, part, (run_isAgg ht w).1, (run_isAgg ht w).2, he]) k

/-! ### Numbers of another kind -/
theorem AQ.conv {src dst : TypeId} {x : Operand} {p q : IntKind} {a : Int} {u : TypeDesc} (hw : Runs E ops ⟨some d, .convert src dst x, ty, pos, after, g⟩) (hx : opAV E x = some (.val (.int p a))) (hn : Nat.blt d n = true) (hs : P.underlying src = some u) (ht : P.underlying dst = some (.int q)) {z : Int} (hz : q.wrap a = z)
    (k : AQ I0 n D ((d, .val (.int q z)) :: E) H (wpList P ops Q rest)) : AQ I0 n D E H (wpList P ops Q (⟨some d, .convert src dst x, ty, pos, after, g⟩ :: rest)) :=
  AQ.pure hw rfl hn (fun I a' w ha _ => ⟨.int q z, by
    subst hz
    cases u <;> simp [execOp, val_eq (opAV_ok ha hx), convert, run_underlying hs, run_underlying ht, Conv.intToInt], rfl⟩) k
theorem AQ.convstr {src dst : TypeId} {x : Operand} {s : ByteArray} (hw : Runs E ops ⟨some d, .convert src dst x, ty, pos, after, g⟩) (hx : opAV E x = some (.val (.string s))) (hn : Nat.blt d n = true) (hs : P.underlying src = some .string) (ht : P.underlying dst = some .string)
    (k : AQ I0 n D ((d, .val (.string s)) :: E) H (wpList P ops Q rest)) : AQ I0 n D E H (wpList P ops Q (⟨some d, .convert src dst x, ty, pos, after, g⟩ :: rest)) :=
  AQ.pure hw rfl hn (fun I a' w ha _ => ⟨.string s, by
    simp [execOp, val_eq (opAV_ok ha hx), convert, run_underlying hs, run_underlying ht], rfl⟩) k

/-! ### Strings -/
theorem AQ.str_add {xt yt : TypeId} {x y : Operand} {s t : ByteArray} (hw : Runs E ops ⟨some d, .binOp .add xt x y yt, ty, pos, after, g⟩) (hx : opAV E x = some (.val (.string s))) (hy : opAV E y = some (.val (.string t))) (hn : Nat.blt d n = true) (hs : s.size + t.size ≤ 9223372036854775807)
    (k : AQ I0 n D ((d, .val (.string (s ++ t))) :: E) H (wpList P ops Q rest)) : AQ I0 n D E H (wpList P ops Q (⟨some d, .binOp .add xt x y yt, ty, pos, after, g⟩ :: rest)) :=
  AQ.bin hw hx hy hn (fun w => by
    have hm : IntKind.i64.max = 9223372036854775807 := by decide
    have : ¬ ((s.size : Int) + (t.size : Int) > IntKind.i64.max) := by rw [hm]; omega
    simp [eqGuard_add, binOp, Op.stringOp, hm]; omega) k
theorem AQ.str_lss {xt yt : TypeId} {x y : Operand} {s t : ByteArray} (hw : Runs E ops ⟨some d, .binOp .lss xt x y yt, ty, pos, after, g⟩) (hx : opAV E x = some (.val (.string s))) (hy : opAV E y = some (.val (.string t))) (hn : Nat.blt d n = true)
    (k : AQ I0 n D ((d, .val (.bool (Op.bytesLess s.toList t.toList))) :: E) H (wpList P ops Q rest)) : AQ I0 n D E H (wpList P ops Q (⟨some d, .binOp .lss xt x y yt, ty, pos, after, g⟩ :: rest)) :=
  AQ.bin hw hx hy hn (fun w => by simp [eqGuard_lss, binOp, Op.stringOp]) k
theorem AQ.str_geq {xt yt : TypeId} {x y : Operand} {s t : ByteArray} (hw : Runs E ops ⟨some d, .binOp .geq xt x y yt, ty, pos, after, g⟩) (hx : opAV E x = some (.val (.string s))) (hy : opAV E y = some (.val (.string t))) (hn : Nat.blt d n = true)
    (k : AQ I0 n D ((d, .val (.bool (!Op.bytesLess s.toList t.toList))) :: E) H (wpList P ops Q rest)) : AQ I0 n D E H (wpList P ops Q (⟨some d, .binOp .geq xt x y yt, ty, pos, after, g⟩ :: rest)) :=
  AQ.bin hw hx hy hn (fun w => by simp [eqGuard_geq, binOp, Op.stringOp]) k

/-! ### Through a pointer that is known, into immutable memory -/
theorem AQ.loadp1 {t : TypeId} {x : Operand} {b o s : Nat} {l r : List AV} {av : AV} (hw : Runs E ops ⟨some d, .load t x, ty, pos, after, g⟩) (hx : opAV E x = some (.val (.pointer (some ⟨b, o, none⟩)))) (hat : At I0 ⟨b, o, none⟩ l) (hn : Nat.blt d n = true) (ht : aggOf P t = some (false, s)) (hl : l = av :: r)
    (k : AQ I0 n D ((d, av) :: E) H (wpList P ops Q rest)) : AQ I0 n D E H (wpList P ops Q (⟨some d, .load t x, ty, pos, after, g⟩ :: rest)) :=
  AQ.op hw rfl hn (fun I a w hI ha ho => by
    obtain ⟨hs, hm⟩ := (hat.mono hI).mem ho
    subst hl
    obtain ⟨v, hr, hp⟩ := run_loadVar_one (P := P) ht hm
    exact ⟨v, w, I, by simp [execOp, val_eq (opAV_ok ha hx), Instr.loadAt, Instr.sureAddr, hr], Imm.le_refl _, hp, ho⟩) k
/-- A pointer that is known: as one into immutable memory. -/
theorem AQ.asAddr {t b o : Nat} {l : List AV} {K : Act → World → Prop} (hl : look E t = some (.val (.pointer (some ⟨b, o, none⟩)))) (hat : At I0 ⟨b, o, none⟩ l) (k : AQ I0 n D ((t, .addr l) :: E) H K) : AQ I0 n D E H K :=
  AQ.retell hl (fun I u hI hu => by cases val_eq hu; exact ⟨_, rfl, hat.mono hI⟩) k
/-- What a number is, told otherwise. -/
theorem AQ.eqv {t : Nat} {v u : Value} {K : Act → World → Prop} (hl : look E t = some (.val v)) (h : v = u) (k : AQ I0 n D ((t, .val u) :: E) H K) : AQ I0 n D E H K := by subst h; exact AQ.retell hl (fun _ _ _ h => h) k
/-- How many a slice can have. -/
theorem AQ.slB {t m : Nat} {rows : List (List AV)} {K : Act → World → Prop} (hl : look E t = some (.sl m rows)) (k : rows.length ≤ 9223372036854775807 → AQ I0 n D E H K) : AQ I0 n D E H K := by
  intro I a w h1 h2 h3 h4 h5
  obtain ⟨v, hv, A, cap, e, q1, q2, _⟩ := h4 t _ hl
  exact k (by omega) I a w h1 h2 h3 h4 h5
theorem AQ.oslB (i : Nat) {v : Value} {e : TypeId} {m : Nat} {rows : List (List AV)} {K : Act → World → Prop} (hi : H[i]? = some (.osl v e m rows)) (k : rows.length ≤ 9223372036854775807 → AQ I0 n D E H K) : AQ I0 n D E H K := by
  intro I a w h1 h2 h3 h4 h5
  obtain ⟨A, cap, e, q1, q2, _⟩ := osl_slice h5 hi
  exact k (by omega) I a w h1 h2 h3 h4 h5
theorem AQ.lenz {t e : TypeId} {x : Operand} {m : Nat} {rows : List (List AV)} {z : Int} (hw : Runs E ops ⟨some d, .call ⟨.builtin .len, #[x], #[t]⟩, ty, pos, after, g⟩) (hx : RdOp E H x m rows) (hn : Nat.blt d n = true) (ht : P.underlying t = some (.slice e)) (hz : (rows.length : Int) = z)
    (k : AQ I0 n D ((d, .val (.int .i64 z)) :: E) H (wpList P ops Q rest)) : AQ I0 n D E H (wpList P ops Q (⟨some d, .call ⟨.builtin .len, #[x], #[t]⟩, ty, pos, after, g⟩ :: rest)) := AQ.lenr hw hx hn ht (by rw [hz]; exact k)

/-! ### A row of one's own, cut -/
section
variable {t e : TypeId} {x hi mx : Operand} {v : Value} {m : Nat} {rows : List (List AV)} {q2 q3 : IntKind} {h : Int}
theorem own_cut {I : Imm} {f : Frag} {A : Option Addr} {l c c' k : Nat} (hp : OwnP I (.slice A l c) e m rows f) (hk : k ≤ rows.length) (hc : k ≤ c') (hcc : c' ≤ c) : OwnP I (.slice A k c') e m (rows.take k) f := by
  rcases hp with ⟨A', e1, rfl, rfl⟩ | ⟨b, cap, cs, rfl, e1, h3, h4, h5, h6, h7⟩
  · injection e1 with e1 e2 e3
    subst e1; subst e2; subst e3
    have : k = 0 := by simpa using hk
    subst this
    have : c' = 0 := by omega
    subst this
    exact .inl ⟨A, rfl, rfl, rfl⟩
  · injection e1 with e1 e2 e3
    subst e1; subst e2; subst e3
    refine .inr ⟨b, c', cs, rfl, by rw [List.length_take, Nat.min_eq_left hk], by rw [List.length_take]; omega, by omega, Nat.le_trans (Nat.mul_le_mul_right _ hcc) h5, ?_, fun r hr => h7 r (List.mem_of_mem_take hr)⟩
    have := h6.take (k * m)
    rw [flatten_take_rows rows k h7 hk, List.take_take] at this
    rw [List.length_take, Nat.min_eq_left hk]
    rwa [Nat.min_eq_left (Nat.mul_le_mul_right _ hk)] at this
theorem Ok.ocut {I : Imm} {w : World} {A : Option Addr} {l c c' k : Nat} (ho : Ok I (.osl (.slice A l c) e m rows :: H) w) (hk : k ≤ rows.length) (hc : k ≤ c') (hcc : c' ≤ c) : Ok I (.osl (.slice A k c') e m (rows.take k) :: H) w := by
  obtain ⟨f, ⟨h1, h2, rfl, k1, k2⟩, hl⟩ := ho.own
  exact ⟨ho.os, ho.tape, ho.output, ho.imm, _, ⟨h1, h2, rfl, own_cut k1 hk hc hcc, k2⟩, hl⟩
theorem AQ.ocut3 (hw : Runs E ops ⟨some d, .slice t x none (some hi) (some mx), ty, pos, after, g⟩) (hx : opAV E x = some (.val v)) (i : Nat) (hi' : H[i]? = some (.osl v e m rows)) (hh : opAV E hi = some (.val (.int q2 h))) (hm : opAV E mx = some (.val (.int q3 h))) (hn : Nat.blt d n = true) (ht : P.underlying t = some (.slice e)) {b : Bool} (he : aggOf P e = some (b, m)) (h1 : 0 ≤ h) (h2 : h ≤ (rows.length : Int))
    (k : ∀ v', AQ I0 n D ((d, .val v') :: E) (H.set i (.osl v' e m (rows.take h.toNat))) (wpList P ops Q rest)) : AQ I0 n D E H (wpList P ops Q (⟨some d, .slice t x none (some hi) (some mx), ty, pos, after, g⟩ :: rest)) :=
  AQ.opx (X := Value) (av := fun v' => .val v') (H' := fun v' => H.set i (.osl v' e m (rows.take h.toNat))) hw rfl hn (fun I a w _ ha ho => by
    obtain ⟨A, cap, rfl, g1, g2, _⟩ := osl_slice ho hi'
    have b1 := run_sliceB (P := P) (k := q3) (code := .slice3Acap) (i := h) (y := cap) (by omega) (by omega) w
    have b2 := run_sliceB (P := P) (k := q2) (code := .slice3B) (i := h) (y := h.toNat) (by omega) (by omega) w
    refine ⟨.slice A h.toNat h.toNat, _, w, I, ?_, Imm.le_refl _, rfl, ((ho.at_ hi').ocut (c' := h.toNat) (by omega) (Nat.le_refl _) (by omega)).back hi'⟩
    cases A <;> simp [execOp, val_eq (opAV_ok ha hx), val_eq (opAV_ok ha hh), val_eq (opAV_ok ha hm), Instr.sliceAt, Instr.slice, Instr.sliceBounds, run_underlying ht, b1, b2, (run_isAgg he w).2, Addr.add]) k
theorem AQ.ocutTo (hw : Runs E ops ⟨some d, .slice t x none (some hi) none, ty, pos, after, g⟩) (hx : opAV E x = some (.val v)) (i : Nat) (hi' : H[i]? = some (.osl v e m rows)) (hh : opAV E hi = some (.val (.int q2 h))) (hn : Nat.blt d n = true) (ht : P.underlying t = some (.slice e)) {b : Bool} (he : aggOf P e = some (b, m)) (h1 : 0 ≤ h) (h2 : h ≤ (rows.length : Int))
    (k : ∀ v', AQ I0 n D ((d, .val v') :: E) (H.set i (.osl v' e m (rows.take h.toNat))) (wpList P ops Q rest)) : AQ I0 n D E H (wpList P ops Q (⟨some d, .slice t x none (some hi) none, ty, pos, after, g⟩ :: rest)) :=
  AQ.opx (X := Value) (av := fun v' => .val v') (H' := fun v' => H.set i (.osl v' e m (rows.take h.toNat))) hw rfl hn (fun I a w _ ha ho => by
    obtain ⟨A, cap, rfl, g1, g2, _⟩ := osl_slice ho hi'
    have b1 := run_sliceB (P := P) (k := q2) (code := .sliceAcap) (i := h) (y := cap) (by omega) (by omega) w
    refine ⟨.slice A h.toNat cap, _, w, I, ?_, Imm.le_refl _, rfl, ((ho.at_ hi').ocut (c' := cap) (by omega) (by omega) (Nat.le_refl _)).back hi'⟩
    cases A <;> simp [execOp, val_eq (opAV_ok ha hx), val_eq (opAV_ok ha hh), Instr.sliceAt, Instr.slice, Instr.sliceBounds, run_underlying ht, b1, (run_isAgg he w).2, Addr.add]) k
end
/-- What is told is told more weakly: nil is nothing. -/
inductive ImpL : List AV → List AV → Prop
  | nil : ImpL [] []
  | same {a : AV} {l m : List AV} (h : ImpL l m) : ImpL (a :: l) (a :: m)
  | sl0 {A : Option Addr} {k : Nat} {l m : List AV} (h : ImpL l m) : ImpL (.val (.slice A 0 0) :: l) (.sl k [] :: m)
  | agg {a b l m : List AV} (h1 : ImpL a b) (h : ImpL l m) : ImpL (.agg a :: l) (.agg b :: m)
theorem sl_nil' (I : Imm) (A : Option Addr) (n : Nat) : (AV.sl n []).p I (.slice A 0 0) := ⟨A, 0, rfl, Nat.le_refl _, by omega, by simp, fun h => (h rfl).elim⟩
theorem ImpL.avs {l m : List AV} (h : ImpL l m) : ∀ {I : Imm} {cs : List Value}, AVs I l cs → AVs I m cs := by
  induction h with
  | nil => exact fun h => h
  | @same a l m h ih => intro I cs k; cases cs with | nil => exact k.elim | cons c cs => exact ⟨k.1, ih k.2⟩
  | @sl0 A n l m h ih => intro I cs k; cases cs with | nil => exact k.elim | cons c cs => exact ⟨by rw [show c = .slice A 0 0 from k.1]; exact sl_nil' I A n, ih k.2⟩
  | @agg a b l m h1 h ih1 ih =>
    intro I cs k
    cases cs with
    | nil => exact k.elim
    | cons c cs =>
      obtain ⟨⟨ds, e, hd⟩, k2⟩ := k
      exact ⟨⟨ds, e, ih1 hd.1, hd.2⟩, ih k2⟩
theorem AQ.aggW {t : Nat} {l m : List AV} {K : Act → World → Prop} (hl : look E t = some (.agg l)) (h : ImpL l m) (k : AQ I0 n D ((t, .agg m) :: E) H K) : AQ I0 n D E H K :=
  AQ.retell hl (fun I v _ hv => by obtain ⟨cs, e, hc⟩ := hv; exact ⟨cs, e, h.avs hc.1, hc.2⟩) k
theorem AQ.nilW {t m : Nat} {A : Option Addr} {K : Act → World → Prop} (hl : look E t = some (.val (.slice A 0 0))) (k : AQ I0 n D ((t, .sl m []) :: E) H K) : AQ I0 n D E H K :=
  AQ.retell hl (fun I v _ e => by rw [val_eq e]; exact sl_nil' I A m) k
theorem AC.weak {f : FuncId} {args args' : List AV} {Post : AV → List HA → Prop} (h : AC P f args' H Post) (hi : ImpL args args') : AC P f args H Post := fun I w vs ha ho => h I w vs (hi.avs ha) ho
theorem AQ.slSW {t m : Nat} {rows : List (List AV)} {K : Act → World → Prop} (hl : look E t = some (.slS m rows)) (k : AQ I0 n D ((t, .sl m rows) :: E) H K) : AQ I0 n D E H K := AQ.retell hl (fun I v _ e => sl_of_slS e) k
theorem AQ.eqH {H' : List HA} {K : Act → World → Prop} (h : H = H') (k : AQ I0 n D E H' K) : AQ I0 n D E H K := by rw [h]; exact k
/-- Calls whose answer is told outright. -/
theorem AQ.callf {fid : FuncId} {args : List Operand} {ts : Array TypeId} {avs : List AV} {av : AV} {H2 : List HA} (hw : Runs E ops ⟨some d, .call ⟨.value (.func fid), args.toArray, ts⟩, ty, pos, after, g⟩)
    (ha : opAVs E args = some avs) (hn : Nat.blt d n = true) (he : Enters P fid) (hc : AC P fid avs H (fun r H' => r = av ∧ H' = H2))
    (k : AQ I0 n D ((d, av) :: E) H2 (wpList P ops Q rest)) : AQ I0 n D E H (wpList P ops Q (⟨some d, .call ⟨.value (.func fid), args.toArray, ts⟩, ty, pos, after, g⟩ :: rest)) :=
  AQ.call hw ha hn he hc (fun r H' h => by rw [h.1, h.2]; exact k)
theorem AQ.callo {fid : FuncId} {args : List Operand} {ts : Array TypeId} {avs : List AV} {X : Type} {av : X → AV} {H2 : X → List HA} (hw : Runs E ops ⟨some d, .call ⟨.value (.func fid), args.toArray, ts⟩, ty, pos, after, g⟩)
    (ha : opAVs E args = some avs) (hn : Nat.blt d n = true) (he : Enters P fid) (hc : AC P fid avs H (fun r H' => ∃ x, r = av x ∧ H' = H2 x))
    (k : ∀ x, AQ I0 n D ((d, av x) :: E) (H2 x) (wpList P ops Q rest)) : AQ I0 n D E H (wpList P ops Q (⟨some d, .call ⟨.value (.func fid), args.toArray, ts⟩, ty, pos, after, g⟩ :: rest)) :=
  AQ.call hw ha hn he hc (fun r H' ⟨x, h⟩ => by rw [h.1, h.2]; exact k x)
theorem AQ.callvf {f : Operand} {fid : FuncId} {first cap : List Value} {args : List Operand} {ts : Array TypeId} {avs : List AV} {av : AV} {H2 : List HA} (hw : Runs E ops ⟨some d, .call ⟨.value f, args.toArray, ts⟩, ty, pos, after, g⟩)
    (hf : opAV E f = some (.val (.func (.func fid) first.toArray cap.toArray))) (ha : opAVs E args = some avs) (hn : Nat.blt d n = true) (he : Enters P fid) (hc : AC P fid (first.map .val ++ avs ++ cap.map .val) H (fun r H' => r = av ∧ H' = H2))
    (k : AQ I0 n D ((d, av) :: E) H2 (wpList P ops Q rest)) : AQ I0 n D E H (wpList P ops Q (⟨some d, .call ⟨.value f, args.toArray, ts⟩, ty, pos, after, g⟩ :: rest)) :=
  AQ.callv hw hf ha hn he hc (fun r H' h => by rw [h.1, h.2]; exact k)
theorem AQ.callvo {f : Operand} {fid : FuncId} {first cap : List Value} {args : List Operand} {ts : Array TypeId} {avs : List AV} {X : Type} {av : X → AV} {H2 : X → List HA} (hw : Runs E ops ⟨some d, .call ⟨.value f, args.toArray, ts⟩, ty, pos, after, g⟩)
    (hf : opAV E f = some (.val (.func (.func fid) first.toArray cap.toArray))) (ha : opAVs E args = some avs) (hn : Nat.blt d n = true) (he : Enters P fid) (hc : AC P fid (first.map .val ++ avs ++ cap.map .val) H (fun r H' => ∃ x, r = av x ∧ H' = H2 x))
    (k : ∀ x, AQ I0 n D ((d, av x) :: E) (H2 x) (wpList P ops Q rest)) : AQ I0 n D E H (wpList P ops Q (⟨some d, .call ⟨.value f, args.toArray, ts⟩, ty, pos, after, g⟩ :: rest)) :=
  AQ.callv hw hf ha hn he hc (fun r H' ⟨x, h⟩ => by rw [h.1, h.2]; exact k x)
theorem lget {α : Type} {l : List α} {i : Nat} (h : i < l.length) : ∃ x, l[i]? = some x := ⟨l[i], List.getElem?_eq_getElem h⟩
theorem lgetz {α : Type} {l : List α} {z : Int} (h0 : 0 ≤ z) (h1 : z < (l.length : Int)) : ∃ x, l[z.toNat]? = some x := ⟨l[z.toNat], List.getElem?_eq_getElem (by omega)⟩
theorem rows_get {α : Type} {l : List α} {z : Int} (h0 : 0 ≤ z) (h1 : z < (l.length : Int)) : ∃ x, l[z.toNat]? = some x := ⟨l[z.toNat], List.getElem?_eq_getElem (by omega)⟩
end Go.Fx
set_option linter.unusedVariables false
set_option linter.unusedSimpArgs false
namespace Go.Fx
open Go
variable {P : Program} {I0 : Imm} {n : Nat} {D : List Deferred} {E : Env} {H : List HA} {Q : Exit → Act → World → Prop} {ops : Array Oper} {rest : List Oper}
  {d : Nat} {ty : TypeId} {pos : String} {after : Array Edge} {g : Option (Nat × Bool)}

/-! ### Is it nil? -/
theorem run_ptr_nil {xt e : TypeId} (p : Option Addr) (w : World) (ht : P.underlying xt = some (.pointer e)) : (Op.equal xt (.pointer p) (.pointer none)).run P w = .ok p.isNone w :=
  run_equal_pointer_nil w xt p (by simp [Program.pointee, ht])
theorem binOp_eql_ptr (xt : TypeId) (p q : Option Addr) : binOp .eql xt (.pointer p) (.pointer q) = (do Pure.pure (.bool (← Op.equal xt (.pointer p) (.pointer q))) : Sem Value) := rfl
theorem binOp_neq_ptr (xt : TypeId) (p q : Option Addr) : binOp .neq xt (.pointer p) (.pointer q) = (do Pure.pure (.bool (!(← Op.equal xt (.pointer p) (.pointer q)))) : Sem Value) := rfl
theorem binOp_eql_sl (xt : TypeId) (a b : Option Addr) (l c l' c' : Nat) : binOp .eql xt (.slice a l c) (.slice b l' c') = (do Pure.pure (.bool (← Op.equal xt (.slice a l c) (.slice b l' c'))) : Sem Value) := rfl
theorem binOp_eql_bool (xt : TypeId) (a b : Bool) : binOp .eql xt (.bool a) (.bool b) = (do Pure.pure (.bool (← Op.equal xt (.bool a) (.bool b))) : Sem Value) := rfl
theorem binOp_neq_bool (xt : TypeId) (a b : Bool) : binOp .neq xt (.bool a) (.bool b) = (do Pure.pure (.bool (!(← Op.equal xt (.bool a) (.bool b)))) : Sem Value) := rfl
theorem AQ.beql {xt yt : TypeId} {x y : Operand} {a b : Bool} (hw : Runs E ops ⟨some d, .binOp .eql xt x y yt, ty, pos, after, g⟩) (hx : opAV E x = some (.val (.bool a))) (hy : opAV E y = some (.val (.bool b))) (hn : Nat.blt d n = true) (ht : P.underlying xt = some .bool)
    (k : AQ I0 n D ((d, .val (.bool (a == b))) :: E) H (wpList P ops Q rest)) : AQ I0 n D E H (wpList P ops Q (⟨some d, .binOp .eql xt x y yt, ty, pos, after, g⟩ :: rest)) :=
  AQ.bin hw hx hy hn (fun w => by simp [eqGuard_at_bool, binOp_eql_bool, run_equal_bool _ _ _ _ ht]) k
theorem AQ.bneq {xt yt : TypeId} {x y : Operand} {a b : Bool} (hw : Runs E ops ⟨some d, .binOp .neq xt x y yt, ty, pos, after, g⟩) (hx : opAV E x = some (.val (.bool a))) (hy : opAV E y = some (.val (.bool b))) (hn : Nat.blt d n = true) (ht : P.underlying xt = some .bool)
    (k : AQ I0 n D ((d, .val (.bool (a != b))) :: E) H (wpList P ops Q rest)) : AQ I0 n D E H (wpList P ops Q (⟨some d, .binOp .neq xt x y yt, ty, pos, after, g⟩ :: rest)) :=
  AQ.bin hw hx hy hn (fun w => by simp [eqGuard_at_bool, binOp_neq_bool, run_equal_bool _ _ _ _ ht, bne]) k
theorem AQ.ptreq {xt yt e : TypeId} {x y : Operand} {a : Addr} (hw : Runs E ops ⟨some d, .binOp .eql xt x y yt, ty, pos, after, g⟩) (hx : opAV E x = some (.val (.pointer (some a)))) (hy : opAV E y = some (.val (.pointer none))) (hn : Nat.blt d n = true) (ht : P.underlying xt = some (.pointer e))
    (k : AQ I0 n D ((d, .val (.bool false)) :: E) H (wpList P ops Q rest)) : AQ I0 n D E H (wpList P ops Q (⟨some d, .binOp .eql xt x y yt, ty, pos, after, g⟩ :: rest)) :=
  AQ.bin hw hx hy hn (fun w => by simp [eqGuard_at_pointer, binOp_eql_ptr, run_ptr_nil _ _ ht]) k
theorem AQ.ptrne {xt yt e : TypeId} {x y : Operand} {a : Addr} (hw : Runs E ops ⟨some d, .binOp .neq xt x y yt, ty, pos, after, g⟩) (hx : opAV E x = some (.val (.pointer (some a)))) (hy : opAV E y = some (.val (.pointer none))) (hn : Nat.blt d n = true) (ht : P.underlying xt = some (.pointer e))
    (k : AQ I0 n D ((d, .val (.bool true)) :: E) H (wpList P ops Q rest)) : AQ I0 n D E H (wpList P ops Q (⟨some d, .binOp .neq xt x y yt, ty, pos, after, g⟩ :: rest)) :=
  AQ.bin hw hx hy hn (fun w => by simp [eqGuard_at_pointer, binOp_neq_ptr, run_ptr_nil _ _ ht]) k
theorem AQ.sleq {xt yt e : TypeId} {x y : Operand} {m : Nat} {rows : List (List AV)} (hw : Runs E ops ⟨some d, .binOp .eql xt x y yt, ty, pos, after, g⟩) (hx : opAV E x = some (.sl m rows)) (hy : opAV E y = some (.val (.slice none 0 0))) (hn : Nat.blt d n = true) (ht : P.underlying xt = some (.slice e))
    (k : ∀ b : Bool, (b = true → rows = []) → AQ I0 n D ((d, .val (.bool b)) :: E) H (wpList P ops Q rest)) : AQ I0 n D E H (wpList P ops Q (⟨some d, .binOp .eql xt x y yt, ty, pos, after, g⟩ :: rest)) :=
  AQ.opx (X := { b : Bool // b = true → rows = [] }) (av := fun b => .val (.bool b.1)) (H' := fun _ => H) hw rfl hn (fun I a w _ ha ho => by
    obtain ⟨A, cap, e1, q1, q2, q3, q4⟩ := opAV_ok ha hx
    refine ⟨⟨A.isNone, fun h => ?_⟩, .bool A.isNone, w, I, ?_, Imm.le_refl _, rfl, ho⟩
    · cases hr : rows with
      | nil => rfl
      | cons r rs =>
        obtain ⟨ad, e2, _⟩ := q4 (by simp [hr])
        rw [e2] at h; cases h
    · simp [execOp, e1, val_eq (opAV_ok ha hy), eqGuard_at_slice, binOp_eql_sl, run_equal_slice_nil _ _ _ _ _ _ ht]) (fun b => k b.1 b.2)

/-! ### copy -/
theorem Rd.take {I : Imm} {w : World} {A : Option Addr} {l c m : Nat} {rows : List (List AV)} (h : Rd I w (.slice A l c) m rows) (k : Nat) (hk : k ≤ rows.length) : Rd I w (.slice A k c) m (rows.take k) := by
  obtain ⟨A', cap, e1, hn, hm⟩ := h
  injection e1 with e1 e2 e3
  subst e1; subst e3
  refine ⟨A, c, by rw [List.length_take, Nat.min_eq_left hk], fun r hr => hn r (List.mem_of_mem_take hr), fun hne => ?_⟩
  obtain ⟨b, o, e, hmem⟩ := hm (fun h => hne (by rw [h]; simp))
  refine ⟨b, o, e, ?_⟩
  have := hmem.take (k * m)
  rwa [flatten_take_rows rows k hn hk] at this
theorem own_fill {I : Imm} {w : World} {v x : Value} {e : TypeId} {m : Nat} {rows rows' : List (List AV)} (ho : Ok I (.osl v e m rows :: H) w) (hx : Rd I w x m rows') (hle : rows'.length ≤ rows.length) :
    ∃ A l c cs w', v = .slice A l c ∧ (Builtin.firstCells m rows'.length x).run P w = .ok cs.toArray w ∧ (match A with | some a => storeCells a cs | none => Pure.pure () : Sem Unit).run P w = .ok () w' ∧ Ok I (.osl v e m (rows' ++ rows.drop rows'.length) :: H) w' := by
  obtain ⟨cs, hcs, hcc⟩ := run_firstCells_rd (P := P) hx
  obtain ⟨A, cap, rfl, hlc, hcm, hlen, hmem⟩ := osl_slice ho (k := 0) rfl
  have hrl : ∀ r ∈ rows', r.length = m := by obtain ⟨_, _, _, h, _⟩ := hx; exact h
  have hlenc : cs.length = rows'.length * m := by rw [hcc.length, flatten_length hrl]
  refine ⟨A, rows.length, cap, cs, ?_⟩
  by_cases h0 : rows' = []
  · subst h0
    have hc0 : cs = [] := List.eq_nil_of_length_eq_zero (by simpa using hlenc)
    subst hc0
    refine ⟨w, rfl, hcs w rfl, ?_, by simpa using ho⟩
    cases A <;> simp [storeCells]
  · have hpos : 0 < rows'.length := List.length_pos_iff.2 h0
    obtain ⟨b, cs', rfl, hb, hsz, hc⟩ := hmem (by intro h; rw [h] at hle; simp at hle; exact h0 hle)
    have hb' : w.heap[b]? = some (.cells cs'.toList.toArray e (0, 0)) := by simpa using hb
    have hcap : rows.length * m ≤ cap * m := Nat.mul_le_mul_right _ hlc
    have hr' : rows'.length * m ≤ rows.length * m := Nat.mul_le_mul_right _ hle
    have hszl : cap * m ≤ cs'.toList.length := by simpa using hsz
    obtain ⟨w', hr, hbn, hk, q1, q2, q3⟩ := run_storeCells_own (P := P) cs 0 0 hb' (by omega) hcc.2
    refine ⟨w', rfl, hcs w rfl, hr, ?_⟩
    refine Ok.change (A := .osl (.slice (some ⟨b, 0, none⟩) rows.length cap) e m rows) (b := b) (o := .cells cs' e (0, 0)) ho q1 q2 q3 ?_ hbn (fun c hcb x hx => by rw [hk c hcb]; exact hx) ?_
    · rintro f hp hw'
      rcases hp with ⟨A'', e1, rfl, rfl⟩ | ⟨b2, cap2, cs2, rfl, e1, _⟩
      · simp at hle; exact absurd hle h0
      · injection e1 with e1 e2 e3
        injection e1 with e1
        injection e1 with e1
        subst e1
        have := hw' _ (List.mem_singleton.2 rfl)
        simp only at this
        rw [hb] at this
        rw [Option.some.inj this]
    · have hl : (rows' ++ rows.drop rows'.length).length = rows.length := by simp; omega
      refine .inr ⟨b, cap, _, rfl, by rw [hl], by rw [hl]; exact hlc, hcm, ?_, ?_, ?_⟩
      · rw [List.size_toArray, Fx.splice_length (by omega)]; exact hszl
      · rw [hl, List.flatten_append, ← flatten_drop_rows rows rows'.length hlen hle]
        have : (Fx.splice cs'.toList (0 + 0) cs).toArray.toList.take (rows.length * m) = cs ++ (cs'.toList.take (rows.length * m)).drop (rows'.length * m) := by
          unfold Fx.splice
          simp only [Nat.add_zero, Nat.zero_add, List.take_zero, List.nil_append]
          rw [List.take_append, List.take_of_length_le (by omega), hlenc, List.drop_take]
        rw [this]
        exact hcc.append (hc.drop _)
      · intro r hr2
        rcases List.mem_append.1 hr2 with h | h
        · exact hrl r h
        · exact hlen r (List.mem_of_mem_drop h)
theorem AQ.copy {s x : Operand} {t t2 e : TypeId} {v : Value} {m : Nat} {bb : Bool} {rows rows' : List (List AV)} (hw : Runs E ops ⟨some d, .call ⟨.builtin .copy, #[s, x], #[t, t2]⟩, ty, pos, after, g⟩) (hs : opAV E s = some (.val v)) (i : Nat) (hi : H[i]? = some (.osl v e m rows))
    (hx : RdOp E H x m rows') (hn : Nat.blt d n = true) (ht : P.underlying t = some (.slice e)) (he : aggOf P e = some (bb, m)) {q : Nat} (hq : min rows'.length rows.length = q) {new : List (List AV)} (hnew : rows'.take q ++ rows.drop q = new)
    (k : AQ I0 n D ((d, .val (.int .i64 (q : Int))) :: E) (H.set i (.osl v e m new)) (wpList P ops Q rest)) : AQ I0 n D E H (wpList P ops Q (⟨some d, .call ⟨.builtin .copy, #[s, x], #[t, t2]⟩, ty, pos, after, g⟩ :: rest)) :=
  AQ.op hw rfl hn (fun I a w hI ha ho => by
    have hrd := hx I a w ha ho
    obtain ⟨A, cap, e1, hnr, _⟩ := hx I a w ha ho
    rw [e1] at hrd
    have hqr : q ≤ rows'.length := by omega
    have hlt : (rows'.take q).length = q := by rw [List.length_take]; omega
    obtain ⟨A', l, c, cs, w', rfl, h1, h2, h3⟩ := own_fill (P := P) (ho.at_ hi) (hrd.take q hqr) (by rw [hlt]; omega)
    rw [hlt] at h1 h3
    rw [hnew] at h3
    obtain ⟨A'', cap'', e2, _⟩ := osl_slice ho hi
    injection e2 with e2 e3 e4
    subst e3
    have hf : (Builtin.firstCells m q (.slice A rows'.length cap)).run P w = .ok cs.toArray w := by
      rw [← h1]; cases A <;> rfl
    refine ⟨.int .i64 q, w', I, ?_, Imm.le_refl _, rfl, h3.back hi⟩
    have hm : Nat.min rows'.length rows.length = q := hq
    cases A' with
    | none => simp [execOp, resolve, invoke, builtin, val_eq (opAV_ok ha hs), e1, Builtin.copy_, run_underlying ht, Builtin.lenOf, hm, (run_isAgg he w).2, hf, goInt] at h2 ⊢; exact h2
    | some a' => simp [execOp, resolve, invoke, builtin, val_eq (opAV_ok ha hs), e1, Builtin.copy_, run_underlying ht, Builtin.lenOf, hm, (run_isAgg he w).2, hf, goInt, h2]) k
/-- A variable's cells, told more weakly. -/
theorem AQ.boxW (i : Nat) {b t : Nat} {l m : List AV} {K : Act → World → Prop} (hi : H[i]? = some (.box b t l)) (h : ImpL l m) (k : AQ I0 n D E (H.set i (.box b t m)) K) : AQ I0 n D E H K := by
  intro I a w h1 h2 h3 h4 h5
  refine k I a w h1 h2 h3 h4 ?_
  have ho := h5.at_ hi
  obtain ⟨f, ⟨f1, f2, rfl, ⟨cs, e, hc⟩, k2⟩, hl⟩ := ho.own
  exact Ok.back (A := .box b t l) ⟨ho.os, ho.tape, ho.output, ho.imm, _, ⟨f1, f2, rfl, ⟨cs, e, h.avs hc.1, hc.2⟩, k2⟩, hl⟩ hi
theorem u64_id {z : Int} (h1 : 0 ≤ z) (h2 : z ≤ 9223372036854775807) : IntKind.u64.wrap z = z := by
  show z % 18446744073709551616 = z
  omega
end Go.Fx
set_option linter.unusedVariables false
set_option linter.unusedSimpArgs false
namespace Go.Fx
open Go
variable {P : Program} {I0 : Imm} {n : Nat} {D : List Deferred} {E : Env} {H : List HA} {Q : Exit → Act → World → Prop}

theorem AQ.freezeS {K : Act → World → Prop} {v : Value} {e : TypeId} {m : Nat} {rows : List (List AV)} (i : Nat) (hi : H[i]? = some (.osl v e m rows)) (hne : rows ≠ []) (k : ∀ J, I0 ≤ J → (AV.slS m rows).p J v → AQ J n D E (H.eraseIdx i) K) : AQ I0 n D E H K :=
  AQ.freeze i hi fun J hJ hp => k J hJ ⟨hp, by
    obtain ⟨A, cap, e1, _, _, _, h⟩ := hp
    obtain ⟨a, rfl, _⟩ := h hne
    exact ⟨a, _, _, e1⟩⟩
/-! ### goto, forward -/
/-- What holds at the jump. -/
def JA (I0 : Imm) (n : Nat) (D : List Deferred) (E1 : Env) (H1 : List HA) (F : Prop) (a : Act) (w : World) : Prop := F ∧ ∃ I, I0 ≤ I ∧ a.tmps.size = n ∧ a.defers = D ∧ EnvOk I E1 a ∧ Ok I H1 w
theorem AQ.scope {c rest : Code} (l : Nat) (E1 : Env) (H1 : List HA) (F : Prop) (hf : findLabel c l = some rest) (first : AQ I0 n D E H (c.wp P (Exit.jump l (JA I0 n D E1 H1 F) Q))) (pass : F → AQ I0 n D E1 H1 (rest.wp P (Exit.noGoto Q))) :
    AQ I0 n D E H ((Code.scope c).wp P Q) := by
  intro I a w h1 h2 h3 h4 h5
  refine wp_scope_jumps l (JA I0 n D E1 H1 F) (fun _ _ => 0) hf (first I a w h1 h2 h3 h4 h5) ?_
  rintro a w ⟨g0, I, g1, g2, g3, g4, g5⟩
  refine wp_mono (pass g0 I a w g1 g2 g3 g4 g5) fun e a' w' hq => ?_
  cases e with
  | goto l' => exact hq.elim
  | normal => exact hq
  | exit id => exact hq
  | ret => exact hq
  | panic ch => exact hq
  | outgrown => exact hq
theorem AQ.goto {l : Nat} (h : AQ I0 n D E H (Q (.goto l))) : AQ I0 n D E H ((Code.goto l).wp P Q) := h.imp fun _ _ h => wp_goto h
theorem AQ.label {l : Nat} (h : AQ I0 n D E H (Q .normal)) : AQ I0 n D E H ((Code.label l).wp P Q) := h.imp fun _ _ h => wp_label h
theorem AQ.then_g {N : Act → World → Prop} {i : Nat} (h : AQ I0 n D E H (Q (.goto i))) : AQ I0 n D E H (Exit.then N Q (.goto i)) := h
theorem AQ.block_g {i j : Nat} (h : AQ I0 n D E H (Q (.goto j))) : AQ I0 n D E H (Exit.inBlock i Q (.goto j)) := h
theorem AQ.jump_n {l : Nat} {J : Act → World → Prop} (h : AQ I0 n D E H (Q .normal)) : AQ I0 n D E H (Exit.jump l J Q .normal) := h
theorem AQ.jump_r {l : Nat} {J : Act → World → Prop} (h : AQ I0 n D E H (Q .ret)) : AQ I0 n D E H (Exit.jump l J Q .ret) := h
theorem AQ.jump_e {l i : Nat} {J : Act → World → Prop} (h : AQ I0 n D E H (Q (.exit i))) : AQ I0 n D E H (Exit.jump l J Q (.exit i)) := h
theorem AQ.jump_hit {l : Nat} {J0 : Imm} {E1 : Env} {H1 : List HA} {F : Prop} (hJ : J0 ≤ I0) (hE : Subs E E1) (hH : H = H1) (hF : F) : AQ I0 n D E H (Exit.jump l (JA J0 n D E1 H1 F) Q (.goto l)) := by
  intro I a w h1 h2 h3 h4 h5
  subst hH
  exact ⟨rfl, hF, I, Imm.le_trans hJ h1, h2, h3, h4.sub hE, h5⟩
theorem AQ.nogoto_n (h : AQ I0 n D E H (Q .normal)) : AQ I0 n D E H (Exit.noGoto Q .normal) := h
theorem AQ.nogoto_r (h : AQ I0 n D E H (Q .ret)) : AQ I0 n D E H (Exit.noGoto Q .ret) := h
theorem AQ.nogoto_e {i : Nat} (h : AQ I0 n D E H (Q (.exit i))) : AQ I0 n D E H (Exit.noGoto Q (.exit i)) := h
end Go.Fx
set_option linter.unusedVariables false
set_option linter.unusedSimpArgs false
namespace Go.Fx
open Go
variable {P : Program} {I0 : Imm} {n : Nat} {D : List Deferred} {E : Env} {H : List HA} {Q : Exit → Act → World → Prop}

/-! ### Results, of which some are variables -/
inductive Res (P : Program) (E : Env) (H : List HA) : List ResultVar → List AV → Prop
  | nil : Res P E H [] []
  | tmp {t : Nat} {av : AV} {r : List ResultVar} {l : List AV} (h : look E t = some av) (k : Res P E H r l) : Res P E H (.tmp t :: r) (av :: l)
  | cellA {t b s : Nat} {ty bt : TypeId} {m : List AV} {r : List ResultVar} {l : List AV} (i : Nat) (h : look E t = some (.val (.pointer (some ⟨b, 0, none⟩)))) (hi : H[i]? = some (.box b bt m)) (ha : aggOf P ty = some (true, s)) (hs : m.length = s) (k : Res P E H r l) : Res P E H (.cell t ty :: r) (.agg m :: l)
  | cell1 {t b s : Nat} {ty bt : TypeId} {m m' : List AV} {av : AV} {r : List ResultVar} {l : List AV} (i : Nat) (h : look E t = some (.val (.pointer (some ⟨b, 0, none⟩)))) (hi : H[i]? = some (.box b bt m)) (ha : aggOf P ty = some (false, s)) (hm : m = av :: m') (k : Res P E H r l) : Res P E H (.cell t ty :: r) (av :: l)

def resOf (tm : Array Value) : ResultVar → Sem Value
  | .tmp t => Pure.pure (tm.getD t undef)
  | .cell b t => do loadVar t (← asAddr (tm.getD b undef))
theorem resOf_tmp {tm : Array Value} {t : Nat} {v : Value} (h : tm[t]? = some v) (w : World) : (resOf tm (.tmp t)).run P w = .ok v w := by
  unfold resOf; simp [Array.getD_eq_getD_getElem?, h]
theorem resOf_cell {tm : Array Value} {t b : Nat} {ty : TypeId} {u : Value} {w : World} (h : tm[t]? = some (.pointer (some ⟨b, 0, none⟩))) (hu : (loadVar ty ⟨b, 0, none⟩).run P w = .ok u w) : (resOf tm (.cell t ty)).run P w = .ok u w := by
  unfold resOf; simp [Array.getD_eq_getD_getElem?, h, asAddr, hu]
theorem Res.run {ts : List ResultVar} {avs : List AV} (h : Res P E H ts avs) {I : Imm} {a : Act} {w : World} (ha : EnvOk I E a) (ho : Ok I H w) :
    ∃ vs : List Value, (ts.mapM (resOf a.tmps)).run P w = .ok vs w ∧ AVs I avs vs := by
  induction h with
  | nil => exact ⟨[], by simp, trivial⟩
  | @tmp t av r l h k ih =>
    obtain ⟨vs, hr, hv⟩ := ih
    obtain ⟨v, hv1, hp⟩ := ha t av h
    refine ⟨v :: vs, ?_, by exact hp, hv⟩
    rw [List.mapM_cons]
    simp only [Sem.run_bind, resOf_tmp hv1, Sem.run_pure, Result.andThen_ok, hr]
  | @cellA t b s ty bt m r l i h hi hag hs k ih =>
    obtain ⟨vs, hr, hv⟩ := ih
    obtain ⟨v, hv1, hp⟩ := ha t _ h
    cases val_eq hp
    obtain ⟨cs, hc, hb, hm⟩ := box_mem ho hi
    obtain ⟨u, hru, hpu⟩ := run_loadVar_agg (P := P) hag hs hm
    refine ⟨u :: vs, ?_, by exact hpu, hv⟩
    rw [List.mapM_cons]
    simp only [Sem.run_bind, resOf_cell hv1 hru, Sem.run_pure, Result.andThen_ok, hr]
  | @cell1 t b s ty bt m m' av r l i h hi hag hm0 k ih =>
    obtain ⟨vs, hr, hv⟩ := ih
    obtain ⟨v, hv1, hp⟩ := ha t _ h
    cases val_eq hp
    obtain ⟨cs, hc, hb, hm⟩ := box_mem ho hi
    subst hm0
    obtain ⟨u, hru, hpu⟩ := run_loadVar_one (P := P) hag hm
    refine ⟨u :: vs, ?_, by exact hpu, hv⟩
    rw [List.mapM_cons]
    simp only [Sem.run_bind, resOf_cell hv1 hru, Sem.run_pure, Result.andThen_ok, hr]

def retAV : List AV → AV
  | [a] => a
  | l => .tup l
theorem AQ.doneC {J0 : Imm} (hJ : J0 ≤ I0) {fn : Func} {Post : AV → List HA → Prop} {ts : List ResultVar} {avs : List AV} {H' : List HA} (hr : fn.results = ts.toArray) (hres : Res P E H ts avs) (k : Nat) (hH : H.drop k = H') (hp : Post (retAV avs) H') :
    AQ I0 n [] E H (bodyPost P fn (RPost J0 Post) .ret) := by
  intro I a w h1 h2 h3 h4 h5
  obtain ⟨vs, hrun, hav⟩ := hres.run h4 h5
  have hl := hav.length
  have hok : Ok I H' w := hH ▸ h5.dropN k
  have hres' : (results fn a.tmps).run P w = .ok (if h : vs.toArray.size = 1 then vs.toArray[0] else .tuple vs.toArray) w := by
    unfold results
    rw [hr]
    have e : (fun x : ResultVar => match x with | .tmp t => (Pure.pure (a.tmps.getD t undef) : Sem Value) | .cell b t => do loadVar t (← Go.asAddr (a.tmps.getD b undef))) = resOf a.tmps := by
      funext x; cases x <;> rfl
    show ((do let vs ← ts.toArray.mapM (fun x : ResultVar => match x with | .tmp t => (Pure.pure (a.tmps.getD t undef) : Sem Value) | .cell b t => do loadVar t (← Go.asAddr (a.tmps.getD b undef))); Pure.pure (if h : vs.size = 1 then vs[0] else .tuple vs) : Sem Value)).run P w = _
    rw [e, List.mapM_toArray]
    simp [hrun]
  refine bodyPost_ret hres' h3 ⟨I, retAV avs, H', _, rfl, Imm.le_trans hJ h1, ?_, hok, hp⟩
  match avs, vs, hav, hl with
  | [], [], _, _ => exact ⟨[], by simp, trivial⟩
  | [x], [v], hav, _ => exact hav.1
  | x :: y :: l, v :: u :: vs, hav, _ => exact ⟨v :: u :: vs, by simp, hav⟩
theorem AQ.oslOne (i : Nat) {v : Value} {e : TypeId} {m : Nat} {rows : List (List AV)} {K : Act → World → Prop} (hi : H[i]? = some (.osl v e m rows)) (k : v.oneCell' = true → AQ I0 n D E H K) : AQ I0 n D E H K := by
  intro I a w h1 h2 h3 h4 h5
  obtain ⟨A, cap, e, _⟩ := osl_slice h5 hi
  exact k (by rw [e]; rfl) I a w h1 h2 h3 h4 h5
/-- A cell of a variable, told otherwise. -/
theorem AQ.boxAs (i j : Nat) {b t : Nat} {l : List AV} {v : Value} {av : AV} {K : Act → World → Prop} (hi : H[i]? = some (.box b t l)) (hl : l[j]? = some (.val v)) (hp : av.p I0 v) (k : AQ I0 n D E (H.set i (.box b t (l.set j av))) K) : AQ I0 n D E H K := by
  intro I a w h1 h2 h3 h4 h5
  refine k I a w h1 h2 h3 h4 ?_
  have ho := h5.at_ hi
  obtain ⟨f, ⟨f1, f2, rfl, ⟨cs, e, hc⟩, k2⟩, hlies⟩ := ho.own
  refine Ok.back (A := .box b t l) ⟨ho.os, ho.tape, ho.output, ho.imm, _, ⟨f1, f2, rfl, ⟨cs, e, ?_⟩, k2⟩, hlies⟩ hi
  obtain ⟨c, hcj, hcp, hc1⟩ := hc.get j _ hl
  cases val_eq hcp
  have := hc.set j (av.mono h1 hp) hc1
  obtain ⟨g1, g2⟩ := List.getElem?_eq_some_iff.1 hcj
  have e2 : cs.set j v = cs := by rw [← g2, List.set_getElem_self]
  rwa [e2] at this
end Go.Fx
set_option linter.unusedVariables false
set_option linter.unusedSimpArgs false
namespace Go.Fx
open Go Go.ChangeShapes Go.WideShapes Go.RowKit

/-! ### The start: all that is there is never written again -/
/-- The package-level variables that are known, in a world. -/
def LaidW (w : World) : Prop := ∀ x ∈ laidCells, ∃ c t fr, w.heap[x.1]? = some (.cells c t fr) ∧ c.toList = x.2
def Imm.start (w : World) (h : LaidW w) : Imm := ⟨w, fun b => w.heap[b]?, h⟩
theorem Ok.start (w : World) (hw : LaidW w) : Ok (Imm.start w hw) [] w := ⟨rfl, rfl, rfl, fun _ _ h => h, [], rfl, by simp, by simp⟩
theorem Ok.below {W W' : World} {J : Imm} {H : List HA} {hw : LaidW W} (hJ : Imm.start W hw ≤ J) (k : Ok J H W') : Below W.heap.size W W' := by
  have hb : ∀ (b : Nat) (o : Obj), W.heap[b]? = some o → W'.heap[b]? = some o := fun b o h => k.imm b o (hJ.2 b o h)
  refine ⟨k.os.trans (by rw [← hJ.1]; rfl), k.tape.trans (by rw [← hJ.1]; rfl), k.output.trans (by rw [← hJ.1]; rfl), ?_, ?_⟩
  · rcases Nat.eq_zero_or_pos W.heap.size with h | h
    · omega
    · obtain ⟨h1, _⟩ := Array.getElem?_eq_some_iff.1 (hb (W.heap.size - 1) (W.heap[W.heap.size - 1]'(by omega)) (Array.getElem?_eq_getElem (by omega)))
      omega
  · intro b h
    rw [Array.getElem?_eq_getElem h]
    exact hb b _ (Array.getElem?_eq_getElem h)

/-! ### Whatever is read as data of a type, told as data of one's own -/
def Opens (P : Program) (t : TypeId) (n : Nat) {X : Type} (G : X → Prop) (F : X → List AV) : Prop :=
  (∀ x, (F x).length = n) ∧ ∀ (H : Type) (enc : TypeId × Value → H) (w : World) (hw : LaidW w) (base : Nat) (spare : Nat → Bool) (held : Bool) (fuel : Nat) (cs : List Value) (y : DataW H × List MemPlace),
    DataW.trod enc P w base spare held fuel t cs = some y → ∃ x, G x ∧ Cells (Imm.start w hw) (F x) cs
section
variable {P : Program} {t e : TypeId} {n m : Nat} {X Y : Type} {G : X → Prop} {F : X → List AV} {G' : Y → Prop} {F' : Y → List AV}

theorem Opens.map (h : Opens P t n G F) (g : X → Y) (hG : ∀ x, G x → G' (g x)) (hF : ∀ x, F' (g x) = F x) (hl : ∀ y, (F' y).length = n) : Opens P t n G' F' :=
  ⟨hl, fun H enc w hw base spare held fuel cs y hy => let ⟨x, h1, h2⟩ := h.2 H enc w hw base spare held fuel cs y hy; ⟨g x, hG x h1, by rw [hF]; exact h2⟩⟩
theorem Opens.int {k : IntKind} (ht : P.underlying t = some (.int k)) : Opens P t 1 (fun z : Int => (Lit.int k z).wf = true) (fun z => [.val (.int k z)]) :=
  ⟨fun _ => rfl, fun H enc w hw base spare held fuel cs y hy => by
    obtain ⟨z, rfl, _, hz⟩ := DataW.trod_int ht hy
    exact ⟨z, hz, Cells.one rfl rfl⟩⟩
theorem Opens.bool (ht : P.underlying t = some .bool) : Opens P t 1 (fun _ : Bool => True) (fun z => [.val (.bool z)]) :=
  ⟨fun _ => rfl, fun H enc w hw base spare held fuel cs y hy => by
    obtain ⟨z, rfl, _⟩ := DataW.trod_bool ht hy
    exact ⟨z, trivial, Cells.one rfl rfl⟩⟩
theorem Opens.string (ht : P.underlying t = some .string) : Opens P t 1 (fun s : ByteArray => s.size ≤ 9223372036854775807) (fun s => [.val (.string s)]) :=
  ⟨fun _ => rfl, fun H enc w hw base spare held fuel cs y hy => by
    obtain ⟨z, rfl, _, hz⟩ := DataW.trod_string ht hy
    exact ⟨z, hz, Cells.one rfl rfl⟩⟩
/-- An int. -/
theorem Opens.i64 (ht : P.underlying t = some (.int .i64)) : Opens P t 1 (fun z : Int => -9223372036854775808 ≤ z ∧ z ≤ 9223372036854775807) (fun z => [.val (.int .i64 z)]) :=
  (Opens.int ht).map id (fun z h => by simpa [Lit.wf, IntKind.min, IntKind.max, IntKind.signed, IntKind.bits] using h) (fun _ => rfl) (fun _ => rfl)
theorem Opens.u8 (ht : P.underlying t = some (.int .u8)) : Opens P t 1 (fun _ : UInt8 => True) (fun b => [.val (.int .u8 (b.toNat : Int))]) :=
  ⟨fun _ => rfl, fun H enc w hw base spare held fuel cs y hy => by
    obtain ⟨z, rfl, _, hz⟩ := DataW.trod_int ht hy
    have hr : 0 ≤ z ∧ z ≤ 255 := by simpa [Lit.wf, IntKind.min, IntKind.max, IntKind.signed, IntKind.bits] using hz
    refine ⟨UInt8.ofNat z.toNat, trivial, ?_⟩
    have e : ((UInt8.ofNat z.toNat).toNat : Int) = z := by
      rw [UInt8.toNat_ofNat', Nat.mod_eq_of_lt (by omega)]; omega
    show Cells (Imm.start w hw) [AV.val (Value.int IntKind.u8 ((UInt8.ofNat z.toNat).toNat : Int))] _
    rw [e]
    exact Cells.one rfl rfl⟩

theorem row_at {w : World} {a : Addr} {cs : List Value} (h0 : 0 < cs.length) (h : ∀ j, j < cs.length → w.cell? (a.add j) = cs[j]?) :
    a.spot = none ∧ ∃ c t fr, w.heap[a.block]? = some (.cells c t fr) ∧ ∀ (j : Nat) (v : Value), cs[j]? = some v → c[a.off + j]? = some v := by
  have h1 := h 0 h0
  rw [List.getElem?_eq_getElem h0] at h1
  have ha : a.add 0 = a := by simp [Addr.add]
  rw [ha] at h1
  unfold World.cell? at h1
  split at h1
  · rename_i c t fr hb
    split at h1
    · cases h1
    · rename_i hs
      refine ⟨by simpa using hs, c, t, fr, hb, fun j v hv => ?_⟩
      have hj := (List.getElem?_eq_some_iff.1 hv).1
      have h2 := h j hj
      rw [hv] at h2
      unfold World.cell? at h2
      by_cases j0 : j = 0
      · subst j0
        rw [ha, hb] at h2
        simp only [hs] at h2
        simpa using h2
      · simp only [Addr.add, if_neg j0, hb] at h2
        simpa using h2
  · cases h1

theorem Opens.slice (ht : P.underlying t = some (.slice e)) (hc : P.cellsOf e = m) (hm : 0 < m) (he : Opens P e m G F) :
    Opens P t 1 (fun l : List X => (∀ x ∈ l, G x) ∧ l.length ≤ 9223372036854775807) (fun l => [.sl m (l.map F)]) := by
  refine ⟨fun _ => rfl, fun H enc w hw base spare held fuel cs y hy => ?_⟩
  rcases DataW.trod_slice ht hy with ⟨rfl, _⟩ | ⟨a, len, cap, elems, rest, k, _, rfl, _, hb, hl, hcap, hlen, hel, _, _⟩
  · exact ⟨[], ⟨by simp, by simp⟩, Cells.one (sl_nil _ _) rfl⟩
  · rw [hc] at hel
    have key : ∀ q, q ≤ len → ∃ (xs : List X) (css : List Value), xs.length = q ∧ (∀ x ∈ xs, G x) ∧ Cells (Imm.start w hw) (xs.map F).flatten css ∧ css.length = q * m ∧ ∀ j, j < css.length → w.cell? (a.add j) = css[j]? := by
      intro q
      induction q with
      | zero => intro _; exact ⟨[], [], rfl, by simp, Cells.nil _, by simp, by simp⟩
      | succ q ih =>
        intro hq
        obtain ⟨xs, css, h1, h2, h3, h4, h5⟩ := ih (by omega)
        have h6 := hel q (by omega)
        rw [List.getElem?_eq_getElem (by omega : q < elems.length), Option.bind_eq_some_iff] at h6
        obtain ⟨cs', h7, h8⟩ := h6
        obtain ⟨_, h9, h10⟩ := World.cells?_some h7
        obtain ⟨x, h11, h12⟩ := he.2 H enc w hw base spare held k cs' _ h8
        refine ⟨xs ++ [x], css ++ cs', by simp [h1], ?_, ?_, ?_, ?_⟩
        · intro z hz
          rcases List.mem_append.1 hz with hz | hz
          · exact h2 z hz
          · rw [List.mem_singleton.1 hz]; exact h11
        · rw [List.map_append, List.flatten_append]
          exact h3.append (by simpa using h12)
        · rw [List.length_append, h4, h9, Nat.add_mul, Nat.one_mul]
        · intro j hj
          by_cases hj' : j < css.length
          · rw [List.getElem?_append_left hj']; exact h5 j hj'
          · rw [List.getElem?_append_right (by omega)]
            have := h10 (j - css.length) (by rw [List.length_append] at hj; omega)
            rw [← this]
            congr 1
            rw [h4] at hj' ⊢
            simp only [Addr.add]
            by_cases hq0 : q * m = 0
            · rw [if_pos hq0, hq0]; simp
            · rw [if_neg hq0, if_neg (by omega : ¬ j = 0)]
              by_cases hj0 : j - q * m = 0
              · rw [if_pos hj0]
                congr 1
                omega
              · rw [if_neg hj0]
                congr 1
                simp only
                omega
    obtain ⟨xs, css, h1, h2, h3, h4, h5⟩ := key len (Nat.le_refl _)
    refine ⟨xs, ⟨h2, by rw [h1]; exact Nat.le_trans hl hcap⟩, Cells.one ⟨some a, cap, ?_, ?_, hcap, ?_, ?_⟩ rfl⟩
    · simp [h1]
    · simpa [h1] using hl
    · intro r hr
      obtain ⟨x, _, rfl⟩ := List.mem_map.1 hr
      exact he.1 x
    · intro hne
      have hlen0 : 0 < css.length := by
        rw [h4]
        refine Nat.mul_pos ?_ hm
        rcases Nat.eq_zero_or_pos len with h0 | h0
        · exfalso; apply hne; rw [List.map_eq_nil_iff]; exact List.eq_nil_of_length_eq_zero (by omega)
        · exact h0
      obtain ⟨hs, c, t', fr, hb', hr⟩ := row_at hlen0 h5
      exact ⟨a, rfl, hs, c, t', fr, css, hb', h3, hr⟩

/-- The fields of a struct: their types and where they lie. -/
def typesOf (P : Program) (t : TypeId) : Option (List (TypeId × Nat)) := match P.underlying t with | some (.struct fs) => some (fs.toList.map fun f => (f.type, f.offset)) | _ => none
/-- Fields from an offset on. -/
def OpensL (P : Program) (fs : List (TypeId × Nat)) (off n : Nat) {X : Type} (G : X → Prop) (F : X → List AV) : Prop :=
  (∀ x, (F x).length = n) ∧ ∀ (H : Type) (enc : TypeId × Value → H) (w : World) (hw : LaidW w) (base : Nat) (spare : Nat → Bool) (held : Bool) (fuel : Nat) (cs : List Value), cs.length = off + n →
    (∀ f ∈ fs, ∃ y, DataW.trod enc P w base spare held fuel f.1 ((cs.drop f.2).take (P.cellsOf f.1)) = some y) → ∃ x, G x ∧ Cells (Imm.start w hw) (F x) (cs.drop off)
theorem OpensL.nil {off : Nat} : OpensL P [] off 0 (fun _ : Unit => True) (fun _ => []) :=
  ⟨fun _ => rfl, fun H enc w hw base spare held fuel cs h _ => ⟨(), trivial, by rw [List.drop_of_length_le (by omega)]; exact Cells.nil _⟩⟩
theorem OpensL.cons {fs : List (TypeId × Nat)} {off k : Nat} (hc : P.cellsOf t = n) (h : Opens P t n G F) (hr : OpensL P fs (off + n) k G' F') :
    OpensL P ((t, off) :: fs) off (n + k) (fun x : X × Y => G x.1 ∧ G' x.2) (fun x => F x.1 ++ F' x.2) := by
  refine ⟨fun x => by rw [List.length_append, h.1, hr.1], fun H enc w hw base spare held fuel cs hl hf => ?_⟩
  obtain ⟨y, hy⟩ := hf (t, off) List.mem_cons_self
  rw [hc] at hy
  obtain ⟨x, h1, h2⟩ := h.2 H enc w hw base spare held fuel _ y hy
  obtain ⟨x', h3, h4⟩ := hr.2 H enc w hw base spare held fuel cs (by omega) (fun f hf' => hf f (List.mem_cons_of_mem _ hf'))
  refine ⟨(x, x'), ⟨h1, h3⟩, ?_⟩
  have := h2.append h4
  rw [← List.drop_drop, List.take_append_drop] at this
  exact this
theorem Opens.struct {fs : List (TypeId × Nat)} (ht : typesOf P t = some fs) (hc : P.cellsOf t = n) (h : OpensL P fs 0 n G F) : Opens P t n G F := by
  refine ⟨h.1, fun H enc w hw base spare held fuel cs y hy => ?_⟩
  unfold typesOf at ht
  split at ht
  · rename_i fa hu
    injection ht with ht
    subst ht
    obtain ⟨xs, k, _, _, hl, hx, hf⟩ := DataW.trod_struct hu hy
    have := h.2 H enc w hw base spare held k cs (by omega) (fun f hf' => by
      obtain ⟨g, hg, rfl⟩ := List.mem_map.1 hf'
      obtain ⟨i, hi⟩ := List.getElem?_of_mem hg
      have hi' : fa[i]? = some g := by simpa using hi
      have h2 := hf i g hi'
      have hlt := (Array.getElem?_eq_some_iff.1 hi').1
      rw [List.getElem?_eq_getElem (by omega : i < xs.length)] at h2
      exact ⟨_, h2⟩)
    simpa using this
  · cases ht

/-! ### Arguments -/
variable {H : Type} {enc : TypeId × Value → H} {w : World} {base : Nat} {spare : Nat → Bool} {held : Bool} {v : Value} {d : DataW H} {ps : List MemPlace}
theorem Opens.argA (hw : LaidW w) {fa : Array Field} (h : Opens P t n G F) (ht : P.underlying t = some (.struct fa)) {b0 : Nat} (hv : Value.okWide P w .any b0 t v) (hd : DataW.Trod enc P w base spare held t v d ps) : ∃ x, G x ∧ (AV.agg (F x)).p (Imm.start w hw) v := by
  obtain ⟨cs, rfl, _⟩ := okWide_struct ht hv
  obtain ⟨fuel, hf⟩ := hd
  obtain ⟨x, h1, h2⟩ := h.2 H enc w hw base spare held fuel _ _ hf
  exact ⟨x, h1, cs.toList, by simp, by simpa [Value.cells] using h2⟩
theorem Opens.arg1 (hw : LaidW w) {A : X → AV} (h : Opens P t 1 G fun x => [A x]) (hv : v.cells = #[v]) (hd : DataW.Trod enc P w base spare held t v d ps) : ∃ x, G x ∧ (A x).p (Imm.start w hw) v := by
  obtain ⟨fuel, hf⟩ := hd
  obtain ⟨x, h1, h2⟩ := h.2 H enc w hw base spare held fuel _ _ hf
  rw [hv] at h2
  exact ⟨x, h1, h2.1.1⟩
end
end Go.Fx
set_option linter.unusedVariables false
set_option linter.unusedSimpArgs false
namespace Go.Fx
open Go
variable {P : Program} {I0 : Imm} {n : Nat} {D : List Deferred} {E : Env} {H : List HA} {Q : Exit → Act → World → Prop} {ops : Array Oper} {rest : List Oper}
  {d : Nat} {ty : TypeId} {pos : String} {after : Array Edge} {g : Option (Nat × Bool)}

/-! ### Strings, told by their bytes -/
abbrev bs (l : List UInt8) : ByteArray := ⟨l.toArray⟩
theorem bs_inj {a b : List UInt8} : bs a = bs b ↔ a = b := by
  constructor
  · intro h; injection h with h; simpa using h
  · intro h; rw [h]
theorem bs_toList (l : List UInt8) : (bs l).data.toList = l := rfl
theorem bs_of (s : ByteArray) : bs s.data.toList = s := by cases s; rfl
theorem bs_size (l : List UInt8) : (bs l).size = l.length := rfl
theorem bs_append (a b : List UInt8) : bs a ++ bs b = bs (a ++ b) := by
  apply ByteArray.ext
  rw [ByteArray.data_append]
  simp
theorem AQ.str_addB {xt yt : TypeId} {x y : Operand} {a b : List UInt8} (hw : Runs E ops ⟨some d, .binOp .add xt x y yt, ty, pos, after, g⟩) (hx : opAV E x = some (.val (.string (bs a)))) (hy : opAV E y = some (.val (.string (bs b)))) (hn : Nat.blt d n = true) (hs : a.length + b.length ≤ 9223372036854775807)
    (k : AQ I0 n D ((d, .val (.string (bs (a ++ b)))) :: E) H (wpList P ops Q rest)) : AQ I0 n D E H (wpList P ops Q (⟨some d, .binOp .add xt x y yt, ty, pos, after, g⟩ :: rest)) :=
  AQ.str_add hw hx hy hn hs (by rw [bs_append]; exact k)
theorem AQ.lensB {t : TypeId} {x : Operand} {a : List UInt8} (hw : Runs E ops ⟨some d, .call ⟨.builtin .len, #[x], #[t]⟩, ty, pos, after, g⟩) (hx : opAV E x = some (.val (.string (bs a)))) (hn : Nat.blt d n = true) (ht : P.underlying t = some .string)
    (k : AQ I0 n D ((d, .val (.int .i64 (a.length : Int))) :: E) H (wpList P ops Q rest)) : AQ I0 n D E H (wpList P ops Q (⟨some d, .call ⟨.builtin .len, #[x], #[t]⟩, ty, pos, after, g⟩ :: rest)) :=
  AQ.lens hw hx hn ht k
theorem AQ.eqsB {xt yt : TypeId} {x y : Operand} {a b : List UInt8} (hw : Runs E ops ⟨some d, .binOp .eql xt x y yt, ty, pos, after, g⟩) (hx : opAV E x = some (.val (.string (bs a)))) (hy : opAV E y = some (.val (.string (bs b)))) (hn : Nat.blt d n = true)
    (k : AQ I0 n D ((d, .val (.bool (decide (a = b)))) :: E) H (wpList P ops Q rest)) : AQ I0 n D E H (wpList P ops Q (⟨some d, .binOp .eql xt x y yt, ty, pos, after, g⟩ :: rest)) :=
  AQ.eqs hw hx hy hn (by rw [show decide (bs a = bs b) = decide (a = b) from decide_eq_decide.2 bs_inj]; exact k)
theorem AQ.nesB {xt yt : TypeId} {x y : Operand} {a b : List UInt8} (hw : Runs E ops ⟨some d, .binOp .neq xt x y yt, ty, pos, after, g⟩) (hx : opAV E x = some (.val (.string (bs a)))) (hy : opAV E y = some (.val (.string (bs b)))) (hn : Nat.blt d n = true)
    (k : AQ I0 n D ((d, .val (.bool (decide (a ≠ b)))) :: E) H (wpList P ops Q rest)) : AQ I0 n D E H (wpList P ops Q (⟨some d, .binOp .neq xt x y yt, ty, pos, after, g⟩ :: rest)) :=
  AQ.nes hw hx hy hn (by rw [show decide (bs a ≠ bs b) = decide (a ≠ b) from decide_eq_decide.2 (not_congr bs_inj)]; exact k)
theorem flatten_ones {α : Type} (F : α → AV) : ∀ l : List α, (l.map fun x => [F x]).flatten = l.map F
  | [] => rfl
  | x :: l => by rw [List.map_cons, List.flatten_cons, flatten_ones F l]; rfl
/-- The bytes of a slice as a string. -/
theorem AQ.convB {src dst e : TypeId} {x : Operand} {l : List UInt8} (hw : Runs E ops ⟨some d, .convert src dst x, ty, pos, after, g⟩) (hx : RdOp E H x 1 (l.map fun b => [AV.val (.int .u8 (b.toNat : Int))])) (hn : Nat.blt d n = true) (hs : P.underlying src = some (.slice e)) (he : P.underlying e = some (.int .u8)) (hd : P.underlying dst = some .string)
    (k : AQ I0 n D ((d, .val (.string (bs l))) :: E) H (wpList P ops Q rest)) : AQ I0 n D E H (wpList P ops Q (⟨some d, .convert src dst x, ty, pos, after, g⟩ :: rest)) :=
  AQ.pure hw rfl hn (fun I a w ha ho => by
    obtain ⟨A, cap, e1, _, hm⟩ := hx I a w ha ho
    rw [List.length_map] at e1
    refine ⟨_, ?_, rfl⟩
    have key : (convert src dst (.slice A l.length cap)).run P w = .ok (.string (bs l)) w := by
      by_cases h0 : l = []
      · subst h0
        rw [List.length_nil, run_convert_bytes_string w src dst e A 0 cap hs he hd]
        cases A <;> rfl
      · obtain ⟨b, o, rfl, cs, hc, hcell⟩ := hm (by simpa using h0)
        refine run_convert_bytes_back w src dst e ⟨b, o, none⟩ cap l hs he hd (fun j hj => ?_)
        obtain ⟨c, h1, h2⟩ := hc.1.get j (AV.val (.int .u8 (l[j].toNat : Int))) (by
          have := flatten_ones (fun b : UInt8 => AV.val (.int .u8 (b.toNat : Int))) l
          rw [this, List.getElem?_map, List.getElem?_eq_getElem hj]; rfl)
        have h3 := hcell j c h1
        rw [Addr.add_lit, h3, val_eq h2]
    simp [execOp, e1, key]) k
/-- An array's element, through a pointer into immutable memory. -/
theorem AQ.indexArr {t e : TypeId} {x i : Operand} {q : IntKind} {j : Int} {n' : Nat} {b : Bool} {l r : List AV} (hw : Runs E ops ⟨some d, .indexAddr t x i, ty, pos, after, g⟩) (hx : opAV E x = some (.addr l)) (hi : opAV E i = some (.val (.int q j))) (hn : Nat.blt d n = true)
    (ht : P.underlying t = some (.array n' e)) (he : aggOf P e = some (b, 1)) (h0 : 0 ≤ j) (h1 : j < (n' : Int)) (hr : l.drop j.toNat = r)
    (k : AQ I0 n D ((d, .addr r) :: E) H (wpList P ops Q rest)) : AQ I0 n D E H (wpList P ops Q (⟨some d, .indexAddr t x i, ty, pos, after, g⟩ :: rest)) :=
  AQ.pure hw rfl hn (fun I a w ha _ => by
    obtain ⟨ad, e1, hs, c, t', fr, cs, hm, hc, hcell⟩ := opAV_ok ha hx
    obtain ⟨bl, o, sp⟩ := ad
    cases hs
    refine ⟨.pointer (some ⟨bl, o + j.toNat, none⟩), ?_, _, rfl, rfl, c, t', fr, cs.drop j.toNat, hm, hr ▸ hc.drop j.toNat, fun k v hv => ?_⟩
    · have hj : 0 ≤ j ∧ j < (n' : Int) := ⟨h0, h1⟩
      simp [execOp, e1, val_eq (opAV_ok ha hi), Instr.indexAt, Instr.sureAddr, asIntOf, run_underlying ht, (run_isAgg he w).2, hj, Addr.add_lit]
    · rw [List.getElem?_drop] at hv
      have := hcell _ _ hv
      rw [Nat.add_assoc]
      exact this) k
/-- A value, told otherwise. -/
theorem AQ.cgv {v u : Value} {K : Act → World → Prop} (h : v = u) (k : AQ I0 n D ((d, .val u) :: E) H K) : AQ I0 n D ((d, .val v) :: E) H K := by rw [h]; exact k
theorem dec_t {p : Prop} {_ : Decidable p} (h : p) : Value.bool (decide p) = .bool true := by rw [decide_eq_true h]
theorem dec_f {p : Prop} {_ : Decidable p} (h : ¬ p) : Value.bool (decide p) = .bool false := by rw [decide_eq_false h]
/-- What a slice of one's own holds, told otherwise. -/
theorem AQ.oslR (i : Nat) {v : Value} {e : TypeId} {m : Nat} {rows rows' : List (List AV)} {K : Act → World → Prop} (hi : H[i]? = some (.osl v e m rows)) (h : rows = rows') (k : AQ I0 n D E (H.set i (.osl v e m rows')) K) : AQ I0 n D E H K := by
  subst h
  have : H.set i (.osl v e m rows) = H := by
    obtain ⟨h1, h2⟩ := List.getElem?_eq_some_iff.1 hi
    rw [← h2, List.set_getElem_self]
  rwa [this] at k
/-! ### What is known of a part of what one has -/
theorem AQ.tail (A : List HA) {T T' : List HA} {K : Act → World → Prop} (h : T = T') (k : AQ I0 n D E (A ++ T') K) : AQ I0 n D E (A ++ T) K := by rw [h]; exact k
theorem AQ.permT (A : List HA) {T T' : List HA} {K : Act → World → Prop} (h : T.Perm T') (k : AQ I0 n D E (A ++ T') K) : AQ I0 n D E (A ++ T) K := AQ.perm (List.Perm.append_left A h) k
/-- A slice of one's own is a slice. -/
theorem AQ.oslShape (i : Nat) {v : Value} {e : TypeId} {m : Nat} {rows : List (List AV)} {K : Act → World → Prop} (hi : H[i]? = some (.osl v e m rows)) (k : ∀ A L C, v = .slice A L C → AQ I0 n D E H K) : AQ I0 n D E H K := by
  intro I a w h1 h2 h3 h4 h5
  obtain ⟨A, cap, e1, _⟩ := osl_slice h5 hi
  exact k A _ cap e1 I a w h1 h2 h3 h4 h5
/-- The answer is data: it is never written again. -/
theorem AC.data {f : FuncId} {args : List AV} {H2 : List HA} {e : TypeId} {m : Nat} {rows : List (List AV)} (h : AC P f args H (fun r H' => ∃ v, r = .val v ∧ H' = .osl v e m rows :: H2)) : AC P f args H (fun r H' => r = .sl m rows ∧ H' = H2) := by
  intro I w vs ha ho
  refine (h I w vs ha ho).mono ?_
  rintro e' w' ⟨J, r, H', v, he, hJ, hp, hok, v', hr, hH⟩
  subst hr; subst hH
  cases val_eq hp
  obtain ⟨h1, hp1, J2, hJ2, hm, hok2⟩ := hok.freeze
  refine ⟨J2, .sl m rows, H2, v, he, Imm.le_trans hJ hJ2, ?_, hok2, rfl, rfl⟩
  rcases hp1 with ⟨A, rfl, rfl, rfl⟩ | ⟨b, cap, cs, rfl, rfl, q3, q4, q5, q6, q7⟩
  · exact ⟨A, 0, rfl, Nat.le_refl _, by omega, by simp, fun h => (h rfl).elim⟩
  · refine ⟨_, cap, rfl, q3, q4, q7, fun _ => ⟨_, rfl, rfl, cs, e, (0, 0), _, hm _ (List.mem_singleton.2 rfl), q6.mono hJ2, fun j v ej => ?_⟩⟩
    rw [List.getElem?_take] at ej
    split at ej
    · simpa using ej
    · cases ej
/-- All of them are never written again. -/
theorem AQ.freezeAll {α : Type} (va : α → Value) (e : TypeId) (m : Nat) (ra : α → List (List AV)) {K : Act → World → Prop} {H0 : List HA} : ∀ (L : List α) {I0 : Imm}, (∀ J, I0 ≤ J → (∀ x ∈ L, (AV.sl m (ra x)).p J (va x)) → AQ J n D E H0 K) → AQ I0 n D E (L.map (fun x => HA.osl (va x) e m (ra x)) ++ H0) K
  | [], I0, k => k I0 (Imm.le_refl _) (by simp)
  | x :: L, I0, k => AQ.freeze 0 rfl (fun J hJ hp => AQ.freezeAll va e m ra L (fun J2 hJ2 hall => k J2 (Imm.le_trans hJ hJ2) (fun y hy => by
      rcases List.mem_cons.1 hy with rfl | hy
      · exact (AV.sl m (ra y)).mono hJ2 hp
      · exact hall y hy)))
/-- What a slice of one's own holds, told more weakly. -/
theorem AQ.oslImp (i : Nat) {v : Value} {e : TypeId} {m : Nat} {rows rows' : List (List AV)} {K : Act → World → Prop} (hi : H[i]? = some (.osl v e m rows)) (hl : rows'.length = rows.length) (hr : ∀ r ∈ rows', r.length = m)
    (h : ∀ (J : Imm) (cs : List Value), I0 ≤ J → AVs J rows.flatten cs → AVs J rows'.flatten cs) (k : AQ I0 n D E (H.set i (.osl v e m rows')) K) : AQ I0 n D E H K := by
  intro I a w h1 h2 h3 h4 h5
  refine k I a w h1 h2 h3 h4 ?_
  have ho := h5.at_ hi
  obtain ⟨f, ⟨f1, f2, rfl, k1, k2⟩, hlies⟩ := ho.own
  refine Ok.back (A := .osl v e m rows) ⟨ho.os, ho.tape, ho.output, ho.imm, _, ⟨f1, f2, rfl, ?_, k2⟩, hlies⟩ hi
  rcases k1 with ⟨A, rfl, rfl, rfl⟩ | ⟨b, cap, cs, rfl, rfl, q3, q4, q5, q6, q7⟩
  · exact .inl ⟨A, rfl, List.eq_nil_of_length_eq_zero hl, rfl⟩
  · exact .inr ⟨b, cap, cs, rfl, by rw [hl], by rw [hl]; exact q3, q4, q5, by rw [hl]; exact ⟨h I _ h1 q6.1, q6.2⟩, hr⟩
/-! ### Slices that are nil, or aren't -/
theorem AQ.slSeq {xt yt e : TypeId} {x y : Operand} {m : Nat} {rows : List (List AV)} (hw : Runs E ops ⟨some d, .binOp .eql xt x y yt, ty, pos, after, g⟩) (hx : opAV E x = some (.slS m rows)) (hy : opAV E y = some (.val (.slice none 0 0))) (hn : Nat.blt d n = true) (ht : P.underlying xt = some (.slice e))
    (k : AQ I0 n D ((d, .val (.bool false)) :: E) H (wpList P ops Q rest)) : AQ I0 n D E H (wpList P ops Q (⟨some d, .binOp .eql xt x y yt, ty, pos, after, g⟩ :: rest)) :=
  AQ.pure hw rfl hn (fun I a w ha ho => by
    obtain ⟨_, ad, l, c, e1⟩ := opAV_ok ha hx
    exact ⟨.bool false, by simp [execOp, e1, val_eq (opAV_ok ha hy), eqGuard_at_slice, binOp_eql_sl, run_equal_slice_nil _ _ _ _ _ _ ht], rfl⟩) k
theorem AQ.nileq {xt yt e : TypeId} {x y : Operand} {l c : Nat} (hw : Runs E ops ⟨some d, .binOp .eql xt x y yt, ty, pos, after, g⟩) (hx : opAV E x = some (.val (.slice none l c))) (hy : opAV E y = some (.val (.slice none 0 0))) (hn : Nat.blt d n = true) (ht : P.underlying xt = some (.slice e))
    (k : AQ I0 n D ((d, .val (.bool true)) :: E) H (wpList P ops Q rest)) : AQ I0 n D E H (wpList P ops Q (⟨some d, .binOp .eql xt x y yt, ty, pos, after, g⟩ :: rest)) :=
  AQ.pure hw rfl hn (fun I a w ha ho => by
    exact ⟨.bool true, by simp [execOp, val_eq (opAV_ok ha hx), val_eq (opAV_ok ha hy), eqGuard_at_slice, binOp_eql_sl, run_equal_slice_nil _ _ _ _ _ _ ht], rfl⟩) k
/-- A slice that isn't nil, as one that may be. -/
theorem AQ.slSsl {t m : Nat} {rows : List (List AV)} {K : Act → World → Prop} (hl : look E t = some (.slS m rows)) (k : AQ I0 n D ((t, .sl m rows) :: E) H K) : AQ I0 n D E H K :=
  AQ.retell hl (fun _ _ _ h => h.1) k
end Go.Fx
set_option linter.unusedVariables false
set_option linter.unusedSimpArgs false
set_option maxRecDepth 100000
namespace Go.Fx
open Go
variable {P : Program} {I0 : Imm} {n : Nat} {D : List Deferred} {E : Env} {H : List HA} {Q : Exit → Act → World → Prop} {ops : Array Oper} {rest : List Oper}
  {d : Nat} {ty : TypeId} {pos : String} {after : Array Edge} {g : Option (Nat × Bool)}


/-- 'append(nil, make([]T, n)...)' with n above 0. -/
theorem run_append_make_fx {w : World} {t t2 e ty : TypeId} {k2 : IntKind} {m bytes : Nat} {A : Option Addr} (ht : P.underlying t = some (.slice e)) (ht2 : P.underlying t2 = some (.int k2)) (he : elemOf P e = some (m, bytes)) (hm0 : 0 < m) {zs : List Value} (hz : zeroOf P e = some zs) (h1 : zs.all (·.oneCell') = true)
    {I : Imm} (ho : Ok I H w) (k : Nat) (hk : 0 < k) (hsz : k * bytes ≤ 140737488355328) (hb0 : 0 < bytes) :
    ∃ v' w', (Builtin.append_ #[t, t2] ty #[.slice A 0 0, .int .i64 (k : Int)]).run P w = .ok v' w' ∧ Ok I (.osl v' e m (List.replicate k (zs.map .val)) :: H) w' := by
  obtain ⟨i, z, hi, rfl, rfl, hz', hzs⟩ := elem_info he
  obtain ⟨z', hr, hzc⟩ := run_zero (P := P) hz w
  have hzz : z = z' := by
    simp [zeroValue, typeInfo, hi, hz'] at hr
    exact hr
  subst hzz
  have hsum : k ≤ 140737488355328 := Nat.le_trans (Nat.le_mul_of_pos_right _ hb0) hsz
  have hfit := growslice_fits (bytes := i.bytes) (show 0 < k from hk) hsz
  have hge := grownCap_ge w k 0 e
  have hcm := grownCap_le_maxLen w k 0 e (by simp only [maxLen]; omega)
  have hzlen : zs.length = i.size := by rw [← hzc, ← hzs]; simp
  have hw : IntKind.i64.wrap (k : Int) = k := i64_id (by omega) (by omega)
  have hn0 : ¬ ((k : Int) < 0) := by omega
  have hn1 : ¬ (281474976710656 < (k : Int) * (i.bytes : Int)) := by
    have : ((k * i.bytes : Nat) : Int) ≤ 140737488355328 := Int.ofNat_le.2 hsz
    rw [Int.natCast_mul] at this; omega
  have hn2 : ¬ (k = 0) := by omega
  have hn3 : ¬ (i.size = 0) := by omega
  have hn6 : ¬ (k * i.size = 0) := Nat.mul_ne_zero hn2 hn3
  have hn4 : ¬ ((9223372036854775807 : Int) < (k : Int)) := by omega
  have hn5 : ¬ (281474976710656 < Builtin.nextslicecap k 0 * i.bytes) := by simpa using hfit
  refine ⟨.slice (some ⟨w.heap.size, 0, none⟩) k (grownCap w k 0 e), w.drew.alloc (.cells ((Builtin.zeroCells z.cells k).toList ++ (Builtin.zeroCells z.cells (grownCap w k 0 e - k)).toList).toArray e), ?_, ?_⟩
  · cases A <;> simp [Builtin.append_, run_underlying ht, run_underlying ht2, asInt, asIntOf, sizeOf, typeInfo, zeroValue, hi, hz', hw, hn0, hn1, hn2, hn3, hn4, hn5, hn6, Question.forced, Builtin.firstCells, loadCells, loadCellsFrom, newRow, grownCap] <;> (congr 2; apply Array.ext'; simp)
  · refine Ok.alloc ho.drew _ _ (.inr ⟨_, grownCap w k 0 e, _, rfl, by simp, by simpa using hge, by simpa [maxLen] using hcm, ?_, ?_, by intro r hr; rw [(List.mem_replicate.1 hr).2, List.length_map, hzlen]⟩)
    · rw [List.size_toArray, List.length_append]
      simp only [Array.length_toList, size_zeroCells, hzs, ← Nat.add_mul]
      exact Nat.mul_le_mul_right _ (by omega)
    · have h2 : (Builtin.zeroCells z.cells k).toList = (List.replicate k zs).flatten := by
        rw [← rep_flat (zs := zs) (by omega) k]
        simp [Builtin.zeroCells, ← hzc]
      have h3 : ((List.replicate k zs).flatten).length = k * i.size := by simp [hzlen]
      simp only [List.length_replicate]
      rw [h2, List.take_left' h3, ← List.map_replicate, ← List.map_flatten]
      refine ⟨AVs.vals _, ?_⟩
      intro c hc
      obtain ⟨l, hl1, hl2⟩ := List.mem_flatten.1 hc
      rw [(List.mem_replicate.1 hl1).2] at hl2
      exact (List.all_eq_true.1 h1) c hl2
theorem AQ.appendMake {s x : Operand} {t t2 e : TypeId} {k2 : IntKind} {A : Option Addr} {m bytes : Nat} {zs : List Value} {z : Int} (hw : Runs E ops ⟨some d, .call ⟨.builtin .append, #[s, x], #[t, t2]⟩, ty, pos, after, g⟩) (hs : opAV E s = some (.val (.slice A 0 0)))
    (hx : opAV E x = some (.val (.int .i64 z))) (hn : Nat.blt d n = true) (ht : P.underlying t = some (.slice e)) (ht2 : P.underlying t2 = some (.int k2)) (he : elemOf P e = some (m, bytes)) (hm0 : Nat.blt 0 m = true) (hb0 : Nat.blt 0 bytes = true) (hz : zeroOf P e = some zs) (h1 : zs.all (·.oneCell') = true) (hz0 : 0 < z) (hsz : z * (bytes : Int) ≤ 140737488355328)
    (k : ∀ v', AQ I0 n D ((d, .val v') :: E) (.osl v' e m (List.replicate z.toNat (zs.map .val)) :: H) (wpList P ops Q rest)) : AQ I0 n D E H (wpList P ops Q (⟨some d, .call ⟨.builtin .append, #[s, x], #[t, t2]⟩, ty, pos, after, g⟩ :: rest)) :=
  AQ.opx (X := Value) (av := fun v' => .val v') (H' := fun v' => .osl v' e m (List.replicate z.toNat (zs.map .val)) :: H) hw rfl hn (fun I a w hI ha ho => by
    obtain ⟨q, rfl⟩ := Int.eq_ofNat_of_zero_le (show 0 ≤ z by omega)
    obtain ⟨v', w', hr, hok⟩ := run_append_make_fx (P := P) (ty := ty) (A := A) ht ht2 he (by simpa [Nat.blt_eq] using hm0) hz h1 ho q (by omega) (by have := hsz; rw [← Int.natCast_mul] at this; exact Int.ofNat_le.1 this) (by simpa [Nat.blt_eq] using hb0)
    exact ⟨v', v', w', I, by simp [execOp, resolve, invoke, builtin, val_eq (opAV_ok ha hs), val_eq (opAV_ok ha hx), hr], Imm.le_refl _, rfl, by simpa using hok⟩) k
theorem AQ.capNil {x : Operand} {t e : TypeId} {l : Nat} (hw : Runs E ops ⟨some d, .call ⟨.builtin .cap, #[x], #[t]⟩, ty, pos, after, g⟩) (hx : opAV E x = some (.val (.slice none l 0))) (hn : Nat.blt d n = true) (ht : P.underlying t = some (.slice e))
    (k : AQ I0 n D ((d, .val (.int .i64 0)) :: E) H (wpList P ops Q rest)) : AQ I0 n D E H (wpList P ops Q (⟨some d, .call ⟨.builtin .cap, #[x], #[t]⟩, ty, pos, after, g⟩ :: rest)) :=
  AQ.pure hw rfl hn (fun I a w ha ho => ⟨.int .i64 0, by simp [execOp, resolve, invoke, builtin, val_eq (opAV_ok ha hx), Builtin.cap_, run_underlying ht, goInt], rfl⟩) k
theorem AQ.lenNil {x : Operand} {t e : TypeId} {c : Nat} (hw : Runs E ops ⟨some d, .call ⟨.builtin .len, #[x], #[t]⟩, ty, pos, after, g⟩) (hx : opAV E x = some (.val (.slice none 0 c))) (hn : Nat.blt d n = true) (ht : P.underlying t = some (.slice e))
    (k : AQ I0 n D ((d, .val (.int .i64 0)) :: E) H (wpList P ops Q rest)) : AQ I0 n D E H (wpList P ops Q (⟨some d, .call ⟨.builtin .len, #[x], #[t]⟩, ty, pos, after, g⟩ :: rest)) :=
  AQ.pure hw rfl hn (fun I a w ha ho => ⟨.int .i64 0, by simp [execOp, resolve, invoke, builtin, val_eq (opAV_ok ha hx), Builtin.len_, run_underlying ht, goInt], rfl⟩) k
theorem AQ.cutNil {t e : TypeId} {x hi : Operand} {m : Nat} {q2 : IntKind} (hw : Runs E ops ⟨some d, .slice t x none (some hi) none, ty, pos, after, g⟩) (hx : opAV E x = some (.val (.slice none 0 0))) (hh : opAV E hi = some (.val (.int q2 0))) (hn : Nat.blt d n = true) (ht : P.underlying t = some (.slice e)) {b : Bool} (he : aggOf P e = some (b, m))
    (k : AQ I0 n D ((d, .val (.slice none 0 0)) :: E) H (wpList P ops Q rest)) : AQ I0 n D E H (wpList P ops Q (⟨some d, .slice t x none (some hi) none, ty, pos, after, g⟩ :: rest)) :=
  AQ.pure hw rfl hn (fun I a w ha ho => by
    have b1 := run_sliceB (P := P) (k := q2) (code := .sliceAcap) (i := 0) (y := 0) (by omega) (by omega) w
    exact ⟨.slice none 0 0, by simp [execOp, val_eq (opAV_ok ha hx), val_eq (opAV_ok ha hh), Instr.sliceAt, Instr.slice, Instr.sliceBounds, run_underlying ht, b1, (run_isAgg he w).2], rfl⟩) k
/-- What is told of the slot in front is told more weakly. -/
theorem AQ.cgA {l m : List AV} {K : Act → World → Prop} (h : ImpL l m) (k : AQ I0 n D ((d, .agg m) :: E) H K) : AQ I0 n D ((d, .agg l) :: E) H K := by
  intro I a w h1 h2 h3 h4 h5
  refine k I a w h1 h2 h3 (fun t av e => ?_) h5
  by_cases hb : Nat.beq d t = true
  · simp only [look, hb] at e
    injection e with e
    subst e
    obtain ⟨v, hv, cs, hc, hcc⟩ := h4 t (.agg l) (by simp only [look, hb])
    exact ⟨v, hv, cs, hc, h.avs hcc.1, hcc.2⟩
  · have hb' : Nat.beq d t = false := Bool.eq_false_iff.2 hb
    simp only [look, hb'] at e
    exact h4 t av (by simp only [look, hb']; exact e)
/-- An argument of one's own, handed on as data: it is never written again. -/
theorem AC.own {f : FuncId} {pre post : List AV} {Post : AV → List HA → Prop} {v : Value} {e : TypeId} {m : Nat} {rows : List (List AV)} (h : AC P f (pre ++ .sl m rows :: post) H Post) : AC P f (pre ++ .val v :: post) (.osl v e m rows :: H) Post := by
  intro I w vs ha ho
  obtain ⟨h1, hp1, J, hJ, hm, hok⟩ := ho.freeze
  have hsl : (AV.sl m rows).p J v := by
    rcases hp1 with ⟨A, rfl, rfl, rfl⟩ | ⟨b, cap, cs, rfl, rfl, q3, q4, q5, q6, q7⟩
    · exact ⟨A, 0, rfl, Nat.le_refl _, by omega, by simp, fun h => (h rfl).elim⟩
    · refine ⟨_, cap, rfl, q3, q4, q7, fun _ => ⟨_, rfl, rfl, cs, e, (0, 0), _, hm _ (List.mem_singleton.2 rfl), q6.mono hJ, fun j v ej => ?_⟩⟩
      rw [List.getElem?_take] at ej
      split at ej
      · simpa using ej
      · cases ej
  obtain ⟨c1, c2, rfl, a1, a2⟩ := ha.split
  cases c2 with
  | nil => exact a2.elim
  | cons c c2 =>
    obtain ⟨a2, a3⟩ := a2
    cases val_eq a2
    refine (h J w _ (AVs.append (a1.mono hJ) (show AVs J (.sl m rows :: post) (v :: c2) from ⟨hsl, a3.mono hJ⟩)) hok).mono ?_
    rintro e' w' ⟨K, r, H', v, q1, q2, q3⟩
    exact ⟨K, r, H', v, q1, Imm.le_trans hJ q2, q3⟩
end Go.Fx
set_option linter.unusedVariables false
set_option linter.unusedSimpArgs false
set_option maxRecDepth 100000
namespace Go.Fx
open Go
variable {P : Program} {I0 : Imm} {n : Nat} {D : List Deferred} {E : Env} {H : List HA} {Q : Exit → Act → World → Prop} {ops : Array Oper} {rest : List Oper}
  {d : Nat} {ty : TypeId} {pos : String} {after : Array Edge} {g : Option (Nat × Bool)}

theorem AQ.le {J : Imm} {K : Act → World → Prop} (h : I0 ≤ J) (k : AQ I0 n D E H K) : AQ J n D E H K := fun I a w h1 => k I a w (Imm.le_trans h h1)
theorem AQ.topV {v : Value} {av : AV} {K : Act → World → Prop} (h : av.p I0 v) (k : AQ I0 n D ((d, av) :: E) H K) : AQ I0 n D ((d, .val v) :: E) H K := by
  intro I a w h1 h2 h3 h4 h5
  refine k I a w h1 h2 h3 (fun t bv e => ?_) h5
  by_cases hb : Nat.beq d t = true
  · simp only [look, hb] at e
    injection e with e
    subst e
    obtain ⟨u, hu, hp⟩ := h4 t (.val v) (by simp only [look, hb])
    cases val_eq hp
    exact ⟨_, hu, av.mono h1 h⟩
  · have hb' : Nat.beq d t = false := Bool.eq_false_iff.2 hb
    simp only [look, hb'] at e
    exact h4 t bv (by simp only [look, hb']; exact e)
/-- A row that is never written again. -/
theorem AQ.buildSliceD {t e : TypeId} {len m : Nat} {bytes : Nat} {parts : List (Nat × Operand)} {zs : List Value} {l' : List AV} {rows : List (List AV)} (hw : Runs E ops ⟨some d, .buildSlice t len parts.toArray, ty, pos, after, g⟩) (hn : Nat.blt d n = true)
    (ht : P.underlying t = some (.slice e)) (he : elemOf P e = some (m, bytes)) (hz : zeroOf P e = some zs) (h1 : zs.all (·.oneCell') = true) (hlim : Nat.ble (len * m) 16777216 = true) (hm0 : Nat.blt 0 m = true)
    (hf : Fills E (fun i => some (i * m, m)) parts ((List.replicate len zs).flatten.map .val) l') (hl : rows.flatten = l') (hlen : rows.length = len) (hrows : ∀ r ∈ rows, r.length = m)
    (k : AQ I0 n D ((d, .sl m rows) :: E) H (wpList P ops Q rest)) : AQ I0 n D E H (wpList P ops Q (⟨some d, .buildSlice t len parts.toArray, ty, pos, after, g⟩ :: rest)) :=
  AQ.buildSlice hw hn ht he hz h1 hlim hm0 hf hl hlen hrows (fun v => AQ.freeze 0 rfl (fun J hJ hp => AQ.topV hp (AQ.le hJ k)))
theorem freeze_heap {w : World} {b k : Nat} {c : Array Value} {t : TypeId} (h : w.heap[b]? = some (.cells c t (0, 0))) : (w.freeze ⟨b, k, none⟩ 1).heap[b]? = some (.cells c t (k, k + 1)) ∧ (∀ j, j ≠ b → (w.freeze ⟨b, k, none⟩ 1).heap[j]? = w.heap[j]?) ∧
    (w.freeze ⟨b, k, none⟩ 1).os = w.os ∧ (w.freeze ⟨b, k, none⟩ 1).tape = w.tape ∧ (w.freeze ⟨b, k, none⟩ 1).output = w.output := by
  unfold World.freeze
  rw [if_neg (by decide)]
  refine ⟨?_, fun j hj => ?_, rfl, rfl, rfl⟩
  · simp [Array.getElem?_modify, h]
  · simp [Array.getElem?_modify, Ne.symm hj]
/-- '[]byte("..")' of a constant: the row is marked, and never written again. -/
theorem AQ.convMark {t e e' : TypeId} {x : Operand} {v : Value} {m : Nat} {rows : List (List AV)} (hw : Runs E ops ⟨some d, .convert t t x, ty, pos, after, g⟩) (hx : opAV E x = some (.val v)) (i : Nat) (hi : H[i]? = some (.osl v e m rows)) (hn : Nat.blt d n = true) (ht : P.underlying t = some (.slice e')) (he : P.underlying e' = some (.int .u8)) (hr : rows ≠ [])
    (k : AQ I0 n D ((d, .sl m rows) :: E) (H.eraseIdx i) (wpList P ops Q rest)) : AQ I0 n D E H (wpList P ops Q (⟨some d, .convert t t x, ty, pos, after, g⟩ :: rest)) :=
  AQ.opx (X := Unit) (av := fun _ => .sl m rows) (H' := fun _ => H.eraseIdx i) hw rfl hn (fun I a w hI ha ho => by
    have ho1 := ho.at_ hi
    obtain ⟨f, ⟨f1, f2, rfl, k1, k2⟩, hl⟩ := ho1.own
    rcases k1 with ⟨A, _, h0, _⟩ | ⟨b, cap, cs, rfl, rfl, q3, q4, q5, q6, q7⟩
    · exact absurd h0 hr
    · have hb := (hl.2 (b, .cells cs e (0, 0)) (by simp)).1
      simp only at hb
      obtain ⟨g1, g2, g3, g4, g5⟩ := freeze_heap (k := cs.size) hb
      have hsh : w.shape? b = some (e, cs.size) := by unfold World.shape?; rw [hb]
      have hok2 : Ok I (.obj b (.cells cs e (cs.size, cs.size + 1)) :: H.eraseIdx i) (w.freeze ⟨b, cs.size, none⟩ 1) := by
        refine Ok.change (A := .osl (.slice (some ⟨b, 0, none⟩) rows.length cap) e m rows) (b := b) (o := .cells cs e (0, 0)) ho1 g3 g4 g5 ?_ g1 (fun c hc x hx => by rw [g2 c hc]; exact hx) rfl
        intro h1 hp hw'
        rcases hp with ⟨A, _, h0, _⟩ | ⟨b2, cap2, cs2, rfl, e1, _⟩
        · exact absurd h0 hr
        · injection e1 with e1
          injection e1 with e1
          injection e1 with e1
          subst e1
          have := hw' _ (List.mem_singleton.2 rfl)
          simp only at this
          rw [hb] at this
          rw [Option.some.inj this]
      obtain ⟨h1, hp1, J, hJ, hm, hok3⟩ := hok2.freeze
      cases hp1
      refine ⟨(), .slice (some ⟨b, 0, none⟩) rows.length cap, _, J, ?_, hJ, ⟨_, cap, rfl, q3, q4, q7, fun _ => ⟨_, rfl, rfl, cs, e, _, _, hm _ (List.mem_singleton.2 rfl), q6.mono hJ, fun j v ej => ?_⟩⟩, hok3⟩
      · simp [execOp, val_eq (opAV_ok ha hx), convert, run_underlying ht, run_underlying he, markStringish, hsh]
      · rw [List.getElem?_take] at ej
        split at ej
        · simpa using ej
        · cases ej) (fun _ => k)
end Go.Fx
set_option linter.unusedVariables false
set_option linter.unusedSimpArgs false
namespace Go.Fx
open Go
/-! ### Regions that draw, whose last operation sets a slot that was read before (FxDraw's two proofs, with what holds until then) -/
section
variable {P : Program} {I0 : Imm} {n : Nat} {D : List Deferred} {ops : List Oper} {E0 E1 : Env} {T : List To} {L : List (Nat × Lo)} {m0 : Nat}
structure StE (I0 : Imm) (n : Nat) (D : List Deferred) (ops : List Oper) (E1 E0 : Env) (m0 : Nat) (T : List To) (L : List (Nat × Lo)) (F0 : List HA) (listed : Array Bool) (xs : Nat → XV) (I : Imm) (a : Act) (w : World) : Prop extends St I0 n D ops E0 T L F0 listed xs I a w where
  early : ¬ isIn listed m0 → EnvOk I E1 a
/-- E1's slots are set by m0 alone; E0 has none of them; m0 is behind all. -/
structure Late (ops : List Oper) (E1 E0 : Env) (m0 : Nat) (L : List (Nat × Lo)) : Prop where
  a1 : ∀ i, i < ops.length → i ≠ m0 → ∀ d, dstOf ops i = some d → look E1 d = none
  a0 : ∀ t av, look E0 t = some av → look E1 t = none
  last : ∀ i, i < ops.length → i ≠ m0 → i ∈ ancOf L m0
def lateOk (ops : List Oper) (E1 E0 : Env) (m0 : Nat) (L : List (Nat × Lo)) : Bool :=
  ((List.range ops.length).all fun i => Nat.beq i m0 || (match dstOf ops i with | none => true | some d => (look E1 d).isNone)) && (E0.all fun p => (look E1 p.1).isNone) && ((List.range ops.length).all fun i => Nat.beq i m0 || (ancOf L m0).contains i)
theorem lateOk_late (h : lateOk ops E1 E0 m0 L = true) : Late ops E1 E0 m0 L := by
  unfold lateOk at h
  rw [Bool.and_eq_true, Bool.and_eq_true] at h
  obtain ⟨⟨h1, h2⟩, h3⟩ := h
  refine ⟨fun i hi hne d hd => ?_, fun t av e => ?_, fun i hi hne => ?_⟩
  · have := List.all_eq_true.1 h1 i (List.mem_range.2 hi)
    rw [hd, Bool.or_eq_true] at this
    rcases this with h | h
    · exact absurd (Nat.eq_of_beq_eq_true h) hne
    · simpa using h
  · have := List.all_eq_true.1 h2 _ (look_mem e)
    simpa using this
  · have := List.all_eq_true.1 h3 i (List.mem_range.2 hi)
    rw [Bool.or_eq_true] at this
    rcases this with h | h
    · exact absurd (Nat.eq_of_beq_eq_true h) hne
    · simpa [List.contains_iff_mem] using h

theorem draw_stepE (hla : Late ops E1 E0 m0 L) (f : DrFacts ops L T) (hE : envApart ops E0 = true) {F0 : List HA} {Q : Exit → Act → World → Prop} {K : Act → World → Prop} {listed : Array Bool} {xs : Nat → XV} {I : Imm} {a : Act} {w : World} {i : Nat} {o : Oper} {l : Lo}
    {hj : List (Nat × Lo)} (ho : ops[i]? = some o) (hL : lk L i = some l) (hloc : Local P I0 n D ops (E1 ++ E0) T hj i o l) (hsame : ∀ m, m ≤ i → lk hj m = lk L m) (hd : Down L listed) (hni : ¬ isIn listed i) (haf : ∀ e ∈ afterOf ops i, isIn listed e) (hsz : listed.size = ops.length)
    (st : StE I0 n D ops E1 E0 m0 T L F0 listed xs I a w)
    (k : ∀ xs I a w, StE I0 n D ops E1 E0 m0 T L F0 (listed.setIfInBounds i true) xs I a w → K a w) : wpOp P ops.toArray Q i K a w := by
  have hi : i < ops.length := (List.getElem?_eq_some_iff.1 ho).1
  have hin : ∀ j ∈ ancOf L i, isIn listed j := fun j hj => by
    obtain ⟨e, he, h⟩ := f.anc i hi j hj
    rcases h with rfl | h
    · exact haf _ he
    · exact hd e (haf e he) j h
  have hanc : ancOf L i = l.anc := by unfold ancOf; rw [hL]; rfl
  obtain ⟨l', hl', c0, c1, c2, c3, c4⟩ := f.lo i hi
  rw [hL] at hl'
  injection hl' with hl'
  subst hl'
  rw [hanc] at hin
  have hlt : ∀ j ∈ l.anc, j < i := fun j hj => anc_lt f i hi j (by rw [hanc]; exact hj)
  have hself : i ∉ l.anc := fun h => Nat.lt_irrefl _ (hlt i h)
  have hnoti : ∀ j, isIn listed j → i ∉ ancOf L j := fun j hj h => hni (hd j hj i h)
  have hneed : ∀ t ∈ l.need, t ∈ pres T listed := fun t ht => by
    obtain ⟨r1, r2, r3⟩ := c4 t ht
    refine mem_pres.2 ⟨r1, fun b hb => hin b (r2 b hb), fun k hk hl => ?_⟩
    rcases r3 k hk with rfl | h
    · exact hni hl
    · exact hnoti k hl h
  have hnd : (pres T listed).Nodup := List.nodup_range.filter _
  let rst := (pres T listed).filter fun t => !l.need.contains t
  have hp1 : (pres T listed).Perm (l.need ++ rst) := by
    refine (List.perm_ext_iff_of_nodup hnd ?_).2 fun t => ?_
    · rw [List.nodup_append]
      refine ⟨c3, hnd.filter _, fun x hx y hy e => ?_⟩
      subst e
      have := (List.mem_filter.1 hy).2
      simp [hx] at this
    · simp only [List.mem_append, rst, List.mem_filter]
      constructor
      · intro h
        by_cases hn : t ∈ l.need
        · exact .inl hn
        · exact .inr ⟨h, by simp [hn]⟩
      · rintro (h | h)
        · exact hneed t h
        · exact h.1
  let js := (List.range ops.length).filter fun j => listed.getD j false
  have hnm : ¬ isIn listed m0 := fun hm => by
    by_cases e : i = m0
    · exact hni (e ▸ hm)
    · exact hni (hd m0 hm i (hla.last i hi e))
  have hE0 : EnvOk I (ents hj xs l.dep ++ ((E1 ++ E0) ++ ents L xs js)) a := by
    rw [ents_same (fun j hj => hsame j (Nat.le_of_lt (hlt j (c1 j hj))))]
    refine (ents_ok fun j hj => st.slots j (hin j (c1 j hj))).append (((st.early hnm).append st.env).append (ents_ok fun j hj => st.slots j ?_))
    exact (List.mem_filter.1 hj).2
  have hok : Ok I (toks T xs l.need ++ (toks T xs rst ++ F0)) w := by
    refine st.ok.perm ?_
    rw [← List.append_assoc, ← toks_append]
    exact (toks_perm xs hp1).append_right _
  refine wpOp_of_list ho (hloc xs (ents L xs js) (toks T xs rst ++ F0) (Exit.then K Q) (fun x => ?_) I a w st.le st.size st.defers hE0 hok)
  intro I' a' w' g1 g2 g3 g4 g5
  have hups : ∀ j, isIn listed j → ent L (updx xs i x) j = ent L xs j := fun j hj => by
    cases hdj : dstOf ops j with
    | none => rw [ent_none f hdj, ent_none f hdj]
    | some d =>
      obtain ⟨lj, hlj, _, _, q2, _⟩ := f.lo j (lt_of_dst hdj)
      rw [ent_of f hdj hlj, ent_of f hdj hlj, map_updx]
      intro hm
      rcases q2 i hm with rfl | h
      · exact hni hj
      · exact hnoti j hj (by unfold ancOf; rw [hlj]; exact h)
  rw [ent_same (hsame i (Nat.le_refl _)), ents_same (fun j hj => hsame j (Nat.le_of_lt (hlt j (c1 j hj))))] at g4
  refine k (updx xs i x) I' a' w' ⟨⟨g1, g2, g3, ?_, fun j hj => ?_, ?_⟩, fun hm => ?_⟩
  · intro t av e
    refine g4 t av ?_
    have hno : ∀ j, dstOf ops j ≠ some t := fun j hdj => by rw [look_apart hE hdj] at e; cases e
    rw [look_append, look_ent_ne f (hno i), look_append, look_ents_out f hno, look_append, look_append, hla.a0 t av e, e]
  · rcases (isIn_set (by omega)).1 hj with rfl | hj
    · intro t av e
      refine g4 t av ?_
      rw [look_append, e]
    · rw [hups j hj]
      cases hdj : dstOf ops j with
      | none => rw [ent_none f hdj]; intro t av e; cases e
      | some d =>
        obtain ⟨lj, hlj, _⟩ := f.lo j (lt_of_dst hdj)
        rw [ent_of f hdj hlj]
        intro t av e
        have ht : t = d ∧ some (lj.av (lj.dx.map xs)) = some av := by
          unfold look at e
          cases hb : Nat.beq d t with
          | true => rw [hb] at e; exact ⟨(Nat.eq_of_beq_eq_true hb).symm, e⟩
          | false => rw [hb] at e; cases e
        obtain ⟨rfl, ht⟩ := ht
        refine g4 t av ?_
        rw [look_append, look_ent_ne f (fun h => f.apart i j hi (lt_of_dst hdj) (fun e => hni (e ▸ hj)) t h hdj), look_append]
        by_cases hdep : j ∈ l.dep
        · rw [(look_ents f hdj hlj _).1 hdep]; exact ht
        · rw [(look_ents f hdj hlj _).2 hdep, look_append, look_append, hla.a1 j (lt_of_dst hdj) (fun e => hnm (e ▸ hj)) _ hdj, look_apart hE hdj, (look_ents f hdj hlj js).1 (List.mem_filter.2 ⟨List.mem_range.2 (lt_of_dst hdj), hj⟩)]
          exact ht
  · have hrst : toks T xs rst = toks T (updx xs i x) rst := toks_congr fun t ht u hu => by
      refine (map_updx fun hm => ?_).symm
      obtain ⟨q1, q2, q3⟩ := f.to t u hu
      have hpt := (mem_pres.1 (List.mem_filter.1 ht).1)
      cases hb : u.born with
      | none => rw [q1 hb] at hm; simp at hm
      | some b =>
        have hbi : isIn listed b := hpt.2.1 b (by unfold tBorn; rw [hu]; exact hb)
        rcases (q2 b hb).2 i hm with rfl | h
        · exact hni hbi
        · exact hnoti b hbi h
    rw [hrst, ← List.append_assoc, ← toks_append] at g5
    refine g5.perm ((toks_perm _ ?_).append_right _)
    refine (List.perm_ext_iff_of_nodup ?_ (show (pres T (listed.setIfInBounds i true)).Nodup from List.nodup_range.filter _)).2 fun t => ?_
    · unfold tPost
      rw [countUp_range]
      rw [List.nodup_append, List.nodup_append]
      refine ⟨⟨c3.filter _, List.nodup_range.filter _, fun x hx y hy e => ?_⟩, hnd.filter _, fun x hx y hy e => ?_⟩
      · subst e
        have h1 := (List.mem_filter.1 hx).1
        have h2 : tBorn T x = some i := isAt_iff.1 (List.mem_filter.1 hy).2
        exact hself ((c4 x h1).2.1 i h2)
      · subst e
        have h3 := (List.mem_filter.1 hy)
        rcases List.mem_append.1 hx with hx | hx
        · have h1 := (List.mem_filter.1 hx).1
          have := h3.2
          simp [h1] at this
        · have h2 : tBorn T x = some i := isAt_iff.1 (List.mem_filter.1 hx).2
          exact hni ((mem_pres.1 h3.1).2.1 i h2)
    · unfold tPost
      rw [countUp_range]
      simp only [List.mem_append, List.mem_filter, rst]
      rw [mem_pres, mem_pres]
      constructor
      · rintro ((⟨h1, h2⟩ | ⟨h1, h2⟩) | ⟨⟨h1, h2, h3⟩, h4⟩)
        · obtain ⟨r1, r2, r3⟩ := mem_pres.1 (hneed t h1)
          refine ⟨r1, fun b hb => (isIn_set (by omega)).2 (.inr (r2 b hb)), fun k hk hin => ?_⟩
          rcases (isIn_set (by omega)).1 hin with rfl | hin
          · simp [hk, isAt] at h2
          · exact r3 k hk hin
        · have h2' : tBorn T t = some i := isAt_iff.1 h2
          refine ⟨List.mem_range.1 h1, fun b hb => ?_, fun k hk hin => ?_⟩
          · rw [h2'] at hb; injection hb with hb; subst hb; exact (isIn_set (by omega)).2 (.inl rfl)
          · cases hu : T[t]? with
            | none => simp [tBorn, hu] at h2'
            | some u =>
              have hdies : u.dies = some k := by simpa [tDies, hu] using hk
              obtain ⟨_, lk, hlk, hmem⟩ := (f.to t u hu).2.2 k hdies
              have hkl : k < ops.length := by
                rcases (isIn_set (by omega)).1 hin with rfl | hin
                · exact hi
                · rcases Nat.lt_or_ge k ops.length with h | h
                  · exact h
                  · unfold isIn at hin
                    rw [Array.getD_eq_getD_getElem?, Array.getElem?_eq_none (by omega)] at hin
                    cases hin
              obtain ⟨lk', hlk', _, _, _, _, q4⟩ := f.lo k hkl
              rw [hlk] at hlk'
              injection hlk' with hlk'
              subst hlk'
              have hia : i ∈ lk.anc := (q4 t hmem).2.1 i h2'
              have hia' : i ∈ ancOf L k := by unfold ancOf; rw [hlk]; exact hia
              rcases (isIn_set (by omega)).1 hin with rfl | hin
              · rw [hanc] at hia'; exact hself hia'
              · exact hnoti k hin hia'
        · refine ⟨h1, fun b hb => (isIn_set (by omega)).2 (.inr (h2 b hb)), fun m hk hin => ?_⟩
          rcases (isIn_set (by omega)).1 hin with hmi | hin
          · rw [hmi] at hk
            cases hu : T[t]? with
            | none => simp [tDies, hu] at hk
            | some u =>
              obtain ⟨_, lk, hlk, hmem⟩ := (f.to t u hu).2.2 i (by simpa [tDies, hu] using hk)
              rw [hL] at hlk
              injection hlk with hlk
              subst hlk
              simp [hmem] at h4
          · exact h3 m hk hin
      · rintro ⟨h1, h2, h3⟩
        by_cases hb : tBorn T t = some i
        · exact .inl (.inr ⟨List.mem_range.2 h1, isAt_iff.2 hb⟩)
        · have hpr : (∀ b, tBorn T t = some b → isIn listed b) ∧ ∀ k, tDies T t = some k → ¬ isIn listed k :=
            ⟨fun b hb2 => ((isIn_set (by omega)).1 (h2 b hb2)).resolve_left (fun e => hb (e ▸ hb2)), fun k hk hin => h3 k hk ((isIn_set (by omega)).2 (.inr hin))⟩
          by_cases hn : t ∈ l.need
          · refine .inl (.inl ⟨hn, ?_⟩)
            have : tDies T t ≠ some i := fun e => h3 i e ((isIn_set (by omega)).2 (.inl rfl))
            cases hx : isAt (tDies T t) i with
            | true => exact absurd (isAt_iff.1 hx) this
            | false => rfl
          · exact .inr ⟨⟨h1, hpr⟩, by simp [hn]⟩
  · have hne : i ≠ m0 := fun e => hm ((isIn_set (by omega)).2 (.inl e.symm))
    intro t av e
    refine g4 t av ?_
    have hno : ∀ j, j ≠ m0 → dstOf ops j ≠ some t := fun j hj hdj => by rw [hla.a1 j (lt_of_dst hdj) hj t hdj] at e; cases e
    have hdep : look (ents L xs l.dep) t = none := by
      have : ∀ js : List Nat, (∀ j ∈ js, j ≠ m0) → look (ents L xs js) t = none := by
        intro js
        induction js with
        | nil => intro _; rfl
        | cons j js ih => intro h; unfold ents; rw [look_append, look_ent_ne f (hno j (h j (by simp)))]; exact ih (fun q hq => h q (by simp [hq]))
      refine this _ (fun j hj e => ?_)
      exact hnm (e ▸ hin j (c1 j hj))
    rw [look_append, look_ent_ne f (hno i hne), look_append, hdep, look_append, look_append, e]
theorem AQ.drawE (m0 : Nat) {E1 E0 : Env} {H : List HA} {Q : Exit → Act → World → Prop} {id : Nat} {F0 : List HA} (T : List To) (hm : P.follows .mixedOrders = true) (hH : H = toks T (fun _ => xNone) (tInit T) ++ F0) (d : Dr P I0 n D ops (E1 ++ E0) T 0 [] ops L) (hok : drOk ops L T = true) (hE : envApart ops E0 = true) (hlb : lateOk ops E1 E0 m0 L = true)
    (k : ∀ xs : Nat → XV, AQ I0 n D (ents L xs (countUp 0 ops.length) ++ E0) (toks T xs (tFin T) ++ F0) (Q .normal)) : AQ I0 n D (E1 ++ E0) H ((Code.region id ops.toArray true).wp P Q) := by
  intro I a w h1 h2 h3 h4 h5
  have f := drOk_facts hok
  have hla := lateOk_late hlb
  obtain ⟨_, hget⟩ := dr_get d
  have hT : ∀ t u, T[t]? = some u → tBorn T t = u.born ∧ tDies T t = u.dies := fun t u h => by simp [tBorn, tDies, h]
  have key : ∀ (fuel : Nat) (listed : Array Bool) (xs : Nat → XV) (I : Imm) (a : Act) (w : World), Down L listed → listed.size = ops.length → (List.range ops.length).countP (fun j => !listed.getD j false) ≤ fuel →
      StE I0 n D ops E1 E0 m0 T L F0 listed xs I a w → wpAny P .any ops.toArray Q fuel listed a w := by
    have hend : ∀ (listed : Array Bool) (xs : Nat → XV) (I : Imm) (a : Act) (w : World), listed.size = ops.length → StE I0 n D ops E1 E0 m0 T L F0 listed xs I a w → Region.ready .any ops.toArray listed = [] → Q .normal a w := by
      intro listed xs I a w hsz st hr
      have hall : ∀ j, j < ops.length → isIn listed j := by
        intro j
        induction j using Nat.strongRecOn with
        | _ j ih =>
          intro hj
          cases hb : listed.getD j false with
          | true => exact hb
          | false =>
            exfalso
            have hmem : j ∈ Region.ready .any ops.toArray listed := by
              refine mem_ready.2 ⟨?_, ops[j], by simp [hj], fun e he hbd => ?_⟩
              · rw [Array.getD_eq_getD_getElem?] at hb ⊢
                rw [Array.getElem?_eq_getElem (by omega)] at hb ⊢
                exact hb
              · have hea : e.on ∈ afterOf ops j := by
                  unfold afterOf
                  rw [List.getElem?_eq_getElem hj]
                  exact List.mem_map.2 ⟨e, List.mem_filter.2 ⟨by simpa using he, hbd⟩, rfl⟩
                have := f.back j hj _ hea
                exact ih _ this (by omega)
            rw [hr] at hmem
            cases hmem
      rw [countUp_range] at k
      refine k xs I a w st.le st.size st.defers ((ents_ok fun j hj => st.slots j (hall j (List.mem_range.1 hj))).append st.env) ?_
      have : pres T listed = tFin T := by
        unfold pres tFin
        rw [countUp_range]
        refine List.filter_congr fun t ht => ?_
        have htl := List.mem_range.1 ht
        have hu : T[t]? = some T[t] := List.getElem?_eq_getElem htl
        obtain ⟨e1, e2⟩ := hT t _ hu
        obtain ⟨q1, q2, q3⟩ := f.to t _ hu
        unfold presB
        have hb : (match tBorn T t with | none => true | some b => listed.getD b false) = true := by
          rw [e1]
          cases hbn : (T[t]).born with
          | none => rfl
          | some b => exact hall b (q2 b hbn).1
        refine (congrArg (fun z => z && (match tDies T t with | none => true | some k => !listed.getD k false)) hb).trans ?_
        simp only [Bool.true_and]
        rw [e2]
        cases hdi : (T[t]).dies with
        | none => rfl
        | some k =>
          have hkl := (q3 k hdi).1
          have := hall k hkl
          unfold isIn at this
          simp [this]
      rw [← this]
      exact st.ok
    intro fuel
    induction fuel with
    | zero =>
      intro listed xs I a w hd hsz hc st
      have hr : Region.ready .any ops.toArray listed = [] := by
        have h0 : ∀ j ∈ List.range ops.length, ¬ (!listed.getD j false) = true := List.countP_eq_zero.1 (Nat.le_zero.1 hc)
        cases hrr : Region.ready .any ops.toArray listed with
        | nil => rfl
        | cons i r =>
          exfalso
          have hm' : i ∈ Region.ready .any ops.toArray listed := by rw [hrr]; simp
          obtain ⟨g1, o, go, _⟩ := mem_ready.1 hm'
          have hi : i < ops.length := by simpa using (Array.getElem?_eq_some_iff.1 go).1
          have := h0 i (List.mem_range.2 hi)
          rw [Array.getD_eq_getD_getElem?, Array.getElem?_eq_getElem (by omega)] at g1 this
          simp at g1 this
          rw [g1] at this
          cases this
      exact ⟨hr, hend listed xs I a w hsz st hr⟩
    | succ fuel ih =>
      intro listed xs I a w hd hsz hc st
      refine ⟨hend listed xs I a w hsz st, fun i hi => ?_⟩
      obtain ⟨g1, o, go, g2⟩ := mem_ready.1 hi
      have go' : ops[i]? = some o := by simpa using go
      have hil : i < ops.length := (List.getElem?_eq_some_iff.1 go').1
      obtain ⟨l, hj, hl, hloc, hsame⟩ := hget i o go'
      rw [Nat.zero_add] at hl hloc hsame
      have hni : ¬ isIn listed i := by
        unfold isIn
        rw [Array.getD_eq_getD_getElem?, Array.getElem?_eq_getElem (by omega)] at g1 ⊢
        simp at g1 ⊢
        exact g1
      have haf : ∀ e ∈ afterOf ops i, isIn listed e := by
        intro e he
        unfold afterOf at he
        rw [go'] at he
        obtain ⟨ed, hed, rfl⟩ := List.mem_map.1 he
        obtain ⟨h6, h7⟩ := List.mem_filter.1 hed
        exact g2 ed (by simpa using h6) h7
      refine draw_stepE hla f hE go' hl hloc hsame hd hni haf hsz st fun xs' I' a' w' st' => ih _ xs' I' a' w' ?_ (by simpa using hsz) ?_ st'
      · intro j hj m hm'
        rcases (isIn_set (by omega)).1 hj with rfl | hj
        · obtain ⟨e, he, h⟩ := f.anc j hil m hm'
          refine (isIn_set (by omega)).2 (.inr ?_)
          rcases h with rfl | h
          · exact haf _ he
          · exact hd e (haf e he) m h
        · exact (isIn_set (by omega)).2 (.inr (hd j hj m hm'))
      · have hlt : (List.range ops.length).countP (fun j => !(listed.setIfInBounds i true).getD j false) < (List.range ops.length).countP (fun j => !listed.getD j false) := by
          refine countP_lt_of (List.mem_range.2 hil) ?_ ?_ ?_
          · intro j hj
            cases hb : listed.getD j false with
            | false => simp
            | true => rw [show (listed.setIfInBounds i true).getD j false = true from (isIn_set (by omega)).2 (.inr hb)]; simp
          · have := hni; unfold isIn at this; simpa using this
          · rw [show (listed.setIfInBounds i true).getD i false = true from (isIn_set (by omega)).2 (.inl rfl)]; rfl
        omega
  refine wp_region_any hm ?_
  refine key ops.toArray.size _ (fun _ => xNone) I a _ ?_ (by simp) (Nat.le_trans List.countP_le_length (by simp)) ⟨⟨h1, h2, h3, ?_, ?_, ?_⟩, fun _ => ?_⟩
  · intro j hj
    unfold isIn at hj
    rw [Array.getD_eq_getD_getElem?, Array.getElem?_replicate] at hj
    split at hj <;> cases hj
  · intro t av e
    refine h4 t av ?_
    rw [look_append, hla.a0 t av e, e]
  · intro j hj
    unfold isIn at hj
    rw [Array.getD_eq_getD_getElem?, Array.getElem?_replicate] at hj
    split at hj <;> cases hj
  · have : pres T (Array.replicate ops.toArray.size false) = tInit T := by
      unfold pres tInit
      rw [countUp_range]
      refine List.filter_congr fun t ht => ?_
      have h0 : ∀ b, (Array.replicate ops.toArray.size false).getD b false = false := fun b => by
        rw [Array.getD_eq_getD_getElem?, Array.getElem?_replicate]
        split <;> rfl
      unfold presB
      cases tBorn T t <;> cases tDies T t <;> simp only [h0] <;> rfl
    rw [this, ← hH]
    exact h5.drew
  · intro t av e
    refine h4 t av ?_
    rw [look_append, e]
end
end Go.Fx
