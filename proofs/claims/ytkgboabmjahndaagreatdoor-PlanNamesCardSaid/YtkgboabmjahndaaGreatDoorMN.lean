/- Proved: from the start of a row to the rules of the walks, and the row of PlanNames lifted. Conditions: none beyond the row. -/
import Derived.Test.YtkgboabmjahndaaGreatDoorMH
import Derived.Test.YtkgboabmjahndaaGreatDoorRows
import Derived.Lib.LaidTab
import Derived.ProofKit
import Derived.ChangeSame
import Derived.ChangeVars
import Derived.JoinedOf
import Derived.LaidLaws
import Derived.Lay
import Derived.Stop.Joined
import Derived.Test.YtkgboabmjahndaaGreatDoorMJ
set_option linter.unusedVariables false
set_option linter.unusedSimpArgs false
set_option maxRecDepth 100000
namespace Go.Fx
open Go Go.Proofs Go.ChangeShapes Go.WideShapes Go.RowKit

/-! ### From a row's start to the rules' -/
theorem own_ : ownKnob Tryz.prog.godebug = none := by kernel_rfl
theorem laidOut_ : laidOutB Tryz.prog = true := by kernel_rfl
theorem reads_of {P : Program} {w : World} : ∀ {l : List (String × DataW Unit)} {ps : List MemPlace}, DataW.LaidVars P w l ps → ∀ n d, (n, d) ∈ l →
    ∃ g t cs fuel p, P.globalNamed n = some g ∧ (P.globals[g]?).map (·.type) = some t ∧ w.var? P n = some cs ∧ DataW.trod (fun _ => ()) P w 0 (fun _ => true) false fuel t cs.toList = some (d, p)
  | [], _, _, _, _, hm => by cases hm
  | (n', d') :: r, ps, h, n, d, hm => by
    obtain ⟨g, t, cs, fuel, p, q, h1, h2, h3, h4, h5, _⟩ := h
    rcases List.mem_cons.1 hm with e | e
    · cases e; exact ⟨g, t, cs, fuel, p, h1, h2, h3, h4⟩
    · exact reads_of h5 n d e
/-- A listed table of integers lies in the world. -/
theorem tab_of {W : World} {l : List (String × DataW Unit)} (h : laidMet Tryz.prog l W) {name : String} {k : IntKind} {zs : List Int} (hm : (name, Lib.tabData k zs) ∈ l) {g : Nat} {t e : TypeId} {n : Nat}
    (hg : Tryz.prog.globalNamed name = some g) (hty : (Tryz.prog.globals[g]?).map (·.type) = some t) (ht : Tryz.prog.underlying t = some (.array n e)) (he : Tryz.prog.underlying e = some (.int k)) (hce : Tryz.prog.cellsOf e = 1) (hct : Tryz.prog.cellsOf t = n) :
    ∃ c ty fr, W.heap[g]? = some (.cells c ty fr) ∧ c.toList = zs.map fun z => Value.int k z := by
  obtain ⟨ps, hv, _⟩ := h
  obtain ⟨g', t', cs, fuel, p, hg', ht', hvar, hd⟩ := reads_of hv _ _ hm
  obtain rfl := Option.some.inj (hg.symm.trans hg')
  obtain rfl := Option.some.inj (hty.symm.trans ht')
  have hc := Lib.cells_of_tab ht he hce hct hd
  unfold World.var? at hvar
  rw [hg] at hvar
  simp only [Option.bind_some] at hvar
  split at hvar
  · rename_i c ty fr hh
    injection hvar with hvar
    subst hvar
    exact ⟨_, _, _, hh, hc⟩
  · cases hvar
def namesZ : List Int := [0, 9, 3, 2, 0, 4, 4]
theorem laidW_of {W : World} {l : List (String × DataW Unit)} (h : laidMet Tryz.prog l W) (m1 : ("terrazzo/entry.names", Lib.tabData .i64 namesZ) ∈ l) (m2 : ("internal/strconv.uint64pow10", Lib.tabData .u64 Lib.pow10Tab) ∈ l) : LaidW W := by
  intro x hx
  simp only [laidCells, List.mem_cons, List.mem_nil_iff, or_false] at hx
  rcases hx with rfl | rfl
  · exact tab_of h m1 (by kernel_rfl) (by kernel_rfl) Tryz.underlying262 Tryz.underlying3 (by kernel_rfl) (by kernel_rfl)
  · exact tab_of h m2 (g := 2) (t := 350) (e := 274) (n := 20) (by kernel_rfl) (by kernel_rfl) (by kernel_rfl) (by kernel_rfl) (by kernel_rfl) (by kernel_rfl)
theorem calls_of_AC {P : Program} {f : FuncId} {W : World} (hw : LaidW W) {avs : List AV} {vs : List Value} (ha : AVs (Imm.start W hw) avs vs) (h : AC P f avs [] (fun r H' => r = .val (.bool true) ∧ H' = [])) :
    Calls P f vs.toArray W fun e W' => e = .returned (.bool true) ∧ Below W.heap.size W W' := by
  refine (h _ W vs ha (Ok.start W hw)).mono ?_
  rintro e W' ⟨J, r, H', v, rfl, hJ, hp, hok, rfl, rfl⟩
  cases val_eq hp
  exact ⟨rfl, Ok.below hJ hok⟩

/-! ### What is read, as data of one's own -/
theorem op3 : Opens Tryz.prog 3 1 (fun _ : Int => True) (fun z => [I z]) := (Opens.i64 Tryz.underlying3).map id (fun _ _ => trivial) (fun _ => rfl) (fun _ => rfl)
theorem op38 : Opens Tryz.prog 38 1 (fun _ : List Int => True) (fun m => [ints m]) :=
  (Opens.slice Tryz.underlying38 (by kernel_rfl) (by decide) op3).map id (fun _ _ => trivial) (fun _ => rfl) (fun _ => rfl)
theorem op37 : Opens Tryz.prog 37 3 (fun _ : Layout => True) Layout.cells :=
  (Opens.struct (fs := [(3, 0), (3, 1), (3, 2)]) (by kernel_rfl) (by kernel_rfl) (OpensL.cons (by kernel_rfl) op3 (OpensL.cons (by kernel_rfl) op3 (OpensL.cons (by kernel_rfl) op3 OpensL.nil)))).map (fun x => ⟨x.1, x.2.1, x.2.2.1⟩) (fun _ _ => trivial) (fun _ => rfl) (fun _ => rfl)
theorem op124 : Opens Tryz.prog 124 3 (fun _ : Snap => True) Snap.cells :=
  (Opens.struct (fs := [(3, 0), (3, 1), (38, 2)]) (by kernel_rfl) (by kernel_rfl) (OpensL.cons (by kernel_rfl) op3 (OpensL.cons (by kernel_rfl) op3 (OpensL.cons (by kernel_rfl) op38 OpensL.nil)))).map (fun x => ⟨x.1, x.2.1, x.2.2.1⟩) (fun _ _ => trivial) (fun _ => rfl) (fun _ => rfl)
theorem op39 : Opens Tryz.prog 39 1 (fun _ : List Snap => True) (fun l => [.sl 3 (snapRows l)]) :=
  (Opens.slice Tryz.underlying39 (by kernel_rfl) (by decide) op124).map id (fun _ _ => trivial) (fun _ => rfl) (fun _ => rfl)
theorem op41 : Opens Tryz.prog 41 8 (fun _ : Head => True) Head.cells :=
  (Opens.struct (fs := [(37, 0), (3, 3), (38, 4), (39, 5), (3, 6), (3, 7)]) (by kernel_rfl) (by kernel_rfl) (OpensL.cons (by kernel_rfl) op37 (OpensL.cons (by kernel_rfl) op3 (OpensL.cons (by kernel_rfl) op38 (OpensL.cons (by kernel_rfl) op39 (OpensL.cons (by kernel_rfl) op3 (OpensL.cons (by kernel_rfl) op3 OpensL.nil)))))))
    |>.map (fun x => ⟨x.1, x.2.1, x.2.2.1, x.2.2.2.1, x.2.2.2.2.1, x.2.2.2.2.2.1⟩) (fun _ _ => trivial) (fun _ => rfl) (fun _ => rfl)
end Go.Fx
set_option linter.unusedVariables false
set_option linter.unusedSimpArgs false
set_option maxRecDepth 100000
namespace Go.Proofs.YtkgboabmjahndaaGreatDoor
open Go Go.Fx Go.ChangeShapes Go.WideShapes Go.RowKit

/-- Whatever PlanNames is handed. -/
theorem planNames_calls (image n : Int) (h : Head) (W : World) (hw : LaidW W) (hv : Value) (hh : (AV.agg h.cells).p (Imm.start W hw) hv) :
    Calls Tryz.prog 5 #[.int .i64 image, .int .i64 n, hv] W fun e W' => e = .returned (.bool true) ∧ Below W.heap.size W W' :=
  calls_of_AC hw (avs := [I image, I n, .agg h.cells]) (vs := [.int .i64 image, .int .i64 n, hv]) ⟨rfl, rfl, hh, trivial⟩ (namesC image n h [])
theorem planNames_met (os : Os) (args : Array Value) : laidMetH Tryz.prog Rows.planNamesRow.laid ((World.laidAll Tryz.prog os Rows.planNamesRow.laid).forCall (fun _ _ => 0) ⟨#[], args, []⟩).memory :=
  laidMet_laidAll args (by kernel_rfl) (by kernel_rfl)
theorem planNames_lifted (os : Os) (started : os.Started) (H : Type) (enc : TypeId × Value → H) :
    ReturnsInHanded {} Tryz.checked os 5 .any (fun w args => (Rows.planNamesSpec.pre enc Tryz.prog Tryz.f5 [] false w args ∧ laidMetH Tryz.prog Rows.planNamesRow.laid w) ∧ sizedMet enc Tryz.prog Tryz.f5 (OpenSpec.ofChange Rows.planNamesSpec) false w args)
      (Rows.planNamesSpec.post enc Tryz.prog Tryz.f5 false true false false) := by
  refine returnsInHanded_of_change_and (C := Tryz.checked) (X := fun w _ => laidMetH Tryz.prog Rows.planNamesRow.laid w) (fun _ _ _ hh h => h.of_heap hh) own_ started (by kernel_rfl) Tryz.func5
    (ChangeSpec.witness_at (enc := enc) (C := Tryz.checked) (os := os) (X := fun w _ => laidMetH Tryz.prog Rows.planNamesRow.laid w) false (World.laidAll Tryz.prog os Rows.planNamesRow.laid) #[.int .i64 0, .int .i64 0, .agg #[.int .i64 0, .int .i64 0, .int .i64 0, .int .i64 0, .slice none 0 0, .slice none 0 0, .int .i64 0, .int .i64 0]] 8 (World.laidAll_os _ _ _) (by kernel_rfl) (by kernel_rfl) (by kernel_rfl) (by kernel_rfl) (by kernel_rfl) (planNames_met os _)) ?_
  intro W base args ds gs before hval0 hW _ _ hL _
  have hval : ∀ (j : Nat) t v, Tryz.f5.params[j]? = some t → args[j]? = some v → Value.okWide Tryz.prog W .any base t v := hval0
  have hW' := hW
  obtain ⟨p, q, hA0, hV, rfl, hfz, hnd⟩ := hW
  have hA : DataW.TrodAll enc Tryz.prog W 0 (fun _ => true) true Tryz.f5.params.toList args.toList ds p := hA0
  rw [Tryz.params5] at hA hval
  obtain ⟨v0, v1, v2, d0, d1, d2, p0, p1, p2, rfl, rfl, rfl, h0, h1, h2⟩ := trodAll_three hA
  obtain ⟨rfl, rfl⟩ := trodVars_none hV
  obtain ⟨i, rfl, rfl, rfl, wi⟩ := open_int Tryz.underlying3 (hval 0 3 v0 rfl rfl) h0
  obtain ⟨n, rfl, rfl, rfl, wn⟩ := open_int Tryz.underlying3 (hval 1 3 v1 rfl rfl) h1
  have hlaid : laidMet Tryz.prog Rows.planNamesRow.laid W := hL
  have hw : LaidW W := laidW_of hlaid (by simp [Rows.planNamesRow, Rows.laid_terrazzo_entry_names, Lib.tabData, namesZ]) (by rw [show (Lib.tabData .u64 Lib.pow10Tab : DataW Unit) = Rows.laid_internal_strconv_uint64pow10 from by rfl]; simp [Rows.planNamesRow])
  obtain ⟨h, _, hh⟩ := op41.argA hw Tryz.underlying41 (hval 2 41 v2 rfl rfl) h2
  have hlt2 : ∀ x ∈ p2, x.block < W.heap.size := fun x hx => by simpa using hW'.lt x (by simp [hx])
  refine (planNames_calls i n h W hw v2 hh).mono fun e W' ⟨he, hb⟩ => ?_
  subst he
  have e1 : Rows.planNamesSpec.fn H ([.lit (.int .i64 i), .lit (.int .i64 n), d2] ++ []) = { results := [.lit (.bool true)], args := [.lit (.int .i64 i), .lit (.int .i64 n), d2] } := by simp [Rows.planNamesSpec]
  refine ⟨_, rfl, _, _, _, [], [] ++ [] ++ p2, [], hW', ?_, ?_, ?_, hb.frame _, fun h => by cases h⟩
  · rw [e1]; exact trodAll_mk1 (shut_bool Tryz.underlying4 true)
  · rw [e1]; exact trodAll_mk3 (shut_int Tryz.underlying3 wi) (shut_int Tryz.underlying3 wn) (Below.trod laidOut_ (by kernel_rfl) (of_decide_eq_true (by kernel_rfl)) h2 hb hlt2)
  · rw [e1]; rfl
end Go.Proofs.YtkgboabmjahndaaGreatDoor
