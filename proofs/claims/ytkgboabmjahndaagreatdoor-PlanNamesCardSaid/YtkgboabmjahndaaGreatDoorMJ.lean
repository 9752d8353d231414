/- Rules for walks, pure facts of the program, contracts of its functions: SW SX SY SZ SZA. -/
import Derived.Test.YtkgboabmjahndaaGreatDoorMI
import Derived.Test.YtkgboabmjahndaaGreatDoorMC
import Derived.Test.YtkgboabmjahndaaGreatDoorMB
import Derived.Test.YtkgboabmjahndaaGreatDoorMH
set_option linter.unusedVariables false
set_option linter.unusedSimpArgs false
set_option maxRecDepth 100000
namespace Go.Fx
open Go Go.Proofs

theorem planStep (b ba be bw bi : Nat) (image : Int) (was h : Head) (e : Entry) (l : List Txn) (v fn : Value) (ahead ops : List Op) (n state : Int) (H : List HA) (y0 : ahead.length ≤ 100) (y1 : ops.length ≤ 100) (y2 : l.length ≤ 10000) : AC Tryz.prog 126 [I n, I state, .sl 5 (opRows ops), .val (.pointer (some ⟨ba, 0, none⟩)), .val (.pointer (some ⟨be, 0, none⟩)), .val (.pointer (some ⟨bw, 0, none⟩)), .val (.pointer (some ⟨bi, 0, none⟩))] ((.box b 135 (workCells was h e v fn) :: .osl v 53 2 (txnRows l) :: .box ba 51 [.sl 5 (opRows ahead)] :: .box be 43 e.cells :: .box bw 127 [.val (.pointer (some ⟨b, 0, none⟩))] :: .box bi 3 [I image] :: H)) (fun r H' => ∃ v', r = .tup [] ∧ H' = .box b 135 (workCells was (h.setMap n state) e v' fn) :: .osl v' 53 2 (txnRows (l ++ [stepTxn image ahead e n ops])) :: .box ba 51 [.sl 5 (opRows ahead)] :: .box be 43 e.cells :: .box bw 127 [.val (.pointer (some ⟨b, 0, none⟩))] :: .box bi 3 [I image] :: H) := by
  refine AC.enter Tryz.func126 rfl Tryz.ntmps126 rfl (fun I0 => ?_)
  refine AQ.seq ?_
  refine AQ.region ?_
  refine AQ.loadv1 (.plain rfl) rfl 2 rfl rfl ag51 rfl ?_
  refine AQ.move (.plain rfl) rfl rfl ?_
  refine AQ.fieldv (.plain rfl) rfl rfl fo43_0 rfl ?_
  refine AQ.loadv1 (.plain rfl) rfl 3 rfl rfl ag3 rfl ?_
  refine AQ.build (.plain rfl) rfl zo58 rfl pl58 (.one rfl (.val rfl) rfl rfl (.one rfl (.val rfl) rfl rfl .nil)) ?_
  refine AQ.aggW (t := 15) (m := Op.cells (opSeq e.seq)) rfl (by repeat (first | exact ImpL.nil | apply ImpL.same | apply ImpL.sl0)) ?_
  refine AQ.buildSlice (rows := [[_, _, _, _, _]]) (.plain rfl) rfl Tryz.underlying51 el58 zo58 rfl rfl rfl (.agg rfl rfl rfl .nil) rfl rfl (by simp) (fun u1 => ?_)
  refine AQ.freeze 0 rfl (fun J2 hJ2 hp2 => ?_)
  refine AQ.as (t := 16) rfl hp2 ?_
  refine AQ.buildSlice (rows := [[_], [_], [_]]) (.plain rfl) rfl Tryz.underlying258 el51 zo51 rfl rfl rfl (.one rfl .sl rfl rfl (.one rfl .sl rfl rfl (.one rfl .sl rfl rfl .nil))) rfl rfl (by simp) (fun u3 => ?_)
  refine AQ.freeze 0 rfl (fun J4 hJ4 hp4 => ?_)
  refine AQ.as (t := 17) rfl hp4 ?_
  refine AQ.callf (.plain rfl) rfl rfl en127 (concatOps [ahead, ops, [opSeq e.seq]] _ (by simp) (by intro q hq; simp only [List.mem_cons, List.mem_nil_iff, or_false] at hq; rcases hq with rfl | rfl | rfl <;> first | omega | simp)).data ?_
  refine AQ.assign (.plain rfl) rfl rfl ?_
  refine AQ.nil ?_
  refine AQ.then_n ?_
  refine AQ.seq ?_
  refine AQ.weaken (E' := [(0, _), (1, _), (2, _), (3, _), (4, _), (5, _), (6, _), (10, _)]) ⟨rfl, rfl, rfl, rfl, rfl, rfl, rfl, rfl, trivial⟩ ?_
  refine AQ.draw (F0 := _) [.fix none (some 14) _, .fix none (some 11) _, .fix none none _, .fix none none _, .fix none none _, .fix none none _, .osl (some 10) none 10 _ _ _, .osl (some 11) none 11 _ _ _, ⟨some 14, none, [11], fun l => .box b 135 (workCells was h e (l.headD xNone).2 fn)⟩] mixed rfl (
    .cons (.fix 19 [] [] [4] _) (fun xs E' F Q' k => AQ.loadv1 (.plain rfl) rfl 0 rfl rfl ag127 rfl (AQ.nil (k (0, undef)))) <|
    .cons (.fix 20 [] [] [4] _) (fun xs E' F Q' k => AQ.loadv1 (.plain rfl) rfl 0 rfl rfl ag127 rfl (AQ.nil (k (0, undef)))) <|
    .cons (.fix 21 [1] [1] [] _) (fun xs E' F Q' k => AQ.nilCheck (.plain rfl) rfl rfl (AQ.nil (k (0, undef)))) <|
    .cons (.fix 22 [1, 2] [2] [] _) (fun xs E' F Q' k => AQ.fieldv (.plain rfl) rfl rfl fo135_3 rfl (AQ.nil (k (0, undef)))) <|
    .cons (.fix 23 [1, 2, 3] [3] [0] _) (fun xs E' F Q' k => AQ.loadv1 (.plain rfl) rfl 0 rfl rfl ag22 rfl (AQ.nil (k (0, undef)))) <|
    .cons (.fix 24 [] [] [5] _) (fun xs E' F Q' k => AQ.loadv1 (.plain rfl) rfl 0 rfl rfl ag3 rfl (AQ.nil (k (0, undef)))) <|
    .cons (.fix 25 [] [] [] _) (fun xs E' F Q' k => AQ.move (.plain rfl) rfl rfl (AQ.nil (k (0, undef)))) <|
    .cons (.fix 26 [5, 6] [5, 6] [] _) (fun xs E' F Q' k => AQ.callf (.plain rfl) rfl rfl en27 (planData _ _ _) (AQ.nil (k (0, undef)))) <|
    .cons (.fix 27 [] [] [] _) (fun xs E' F Q' k => AQ.move (.plain rfl) rfl rfl (AQ.nil (k (0, undef)))) <|
    .cons (.fix 28 [5, 6, 7, 8] [7, 8] [] (.agg (stepTxn image ahead e n ops).cells)) (fun xs E' F Q' k => AQ.build (.plain rfl) rfl zo53 rfl pl53 (.one rfl (.val rfl) rfl rfl (.one rfl .sl rfl rfl .nil)) (AQ.nil (k (0, undef)))) <|
    .cons (.own 29 [5, 6, 7, 8, 9] [9] [] 10) (fun xs E' F Q' k => AQ.buildSlice (rows := [[_, _]]) (.plain rfl) rfl Tryz.underlying22 el53 zo53 rfl rfl rfl (.agg rfl rfl rfl .nil) rfl rfl (by simp) (fun u6 => AQ.nil (k (0, u6)))) <|
    .cons (.own 30 [1, 2, 3, 4, 5, 6, 7, 8, 9, 10] [4, 10] [6, 1] 11) (fun xs E' F Q' k => AQ.append (.plain rfl) rfl 1 rfl (.osl rfl 0 rfl) rfl Tryz.underlying22 el53 rfl rfl (by simp only [List.length_cons, List.length_nil, List.length_map, List.length_append, List.length_range]; omega) (fun v7 => AQ.nil (k (0, v7)))) <|
    .cons (.fix 31 [0, 1, 2, 3, 4, 5, 6, 7, 8, 9, 10, 11] [0] [] _) (fun xs E' F Q' k => AQ.nilCheck (.plain rfl) rfl rfl (AQ.nil (k (0, undef)))) <|
    .cons (.fix 32 [0, 1, 2, 3, 4, 5, 6, 7, 8, 9, 10, 11, 12] [12] [] _) (fun xs E' F Q' k => AQ.fieldv (.plain rfl) rfl rfl fo135_3 rfl (AQ.nil (k (0, undef)))) <|
    .cons (.fix0 [0, 1, 2, 3, 4, 5, 6, 7, 8, 9, 10, 11, 12, 13] [11, 13] [7, 0]) (fun xs E' F Q' k => AQ.oslOne 0 rfl (fun ho => AQ.storev1 (.plain rfl) rfl 1 rfl rfl (.val ho) ag22 rfl (AQ.nil (k (0, undef))))) <|
    .nil) (by kernel_rfl) (by kernel_rfl) (fun x9 => ?_)
  refine AQ.eqH (H' := _ :: _ :: _ :: _ :: _ :: _ :: _ :: H) rfl ?_
  refine AQ.front 4 ?_
  refine AQ.dropN 1 ?_
  refine AQ.eqH (H' := _ :: _ :: _ :: _ :: _ :: _ :: H) rfl ?_
  refine AQ.front 3 ?_
  refine AQ.eqH (H' := _ :: _ :: _ :: _ :: _ :: _ :: H) rfl ?_
  refine AQ.front 3 ?_
  refine AQ.eqH (H' := _ :: _ :: _ :: _ :: _ :: _ :: H) rfl ?_
  refine AQ.front 3 ?_
  refine AQ.eqH (H' := _ :: _ :: _ :: _ :: _ :: _ :: H) rfl ?_
  refine AQ.front 3 ?_
  refine AQ.eqH (H' := _ :: _ :: _ :: _ :: _ :: _ :: H) rfl ?_
  refine AQ.front 4 ?_
  refine AQ.eqH (H' := _ :: _ :: _ :: _ :: _ :: _ :: H) rfl ?_
  refine AQ.front 5 ?_
  refine AQ.eqH (H' := _ :: _ :: _ :: _ :: _ :: _ :: H) rfl ?_
  refine AQ.eqH (H' := _ :: _ :: _ :: _ :: _ :: _ :: H) rfl ?_
  refine AQ.eqH (H' := .box b 135 (workCells was h e (x9 11).2 fn) :: .osl (x9 11).2 53 2 (txnRows l ++ [(stepTxn image ahead e n ops).cells]) :: .box ba 51 [.sl 5 (opRows ahead)] :: .box be 43 e.cells :: .box bw 127 [.val (.pointer (some ⟨b, 0, none⟩))] :: .box bi 3 [I image] :: H) rfl ?_
  refine AQ.weaken (E' := [(0, I n), (1, I state), (5, .val (.pointer (some ⟨bw, 0, none⟩)))]) ⟨rfl, rfl, rfl, trivial⟩ ?_
  generalize (x9 11).2 = v1
  refine AQ.oslR 1 rfl (show _ = txnRows (l ++ [stepTxn image ahead e n ops]) by simp) ?_
  try simp only [List.set_cons_zero, List.set_cons_succ]
  refine AQ.then_n ?_
  refine AQ.weaken (E' := [(0, _), (1, _), (5, _)]) ⟨rfl, rfl, rfl, trivial⟩ ?_
  refine AQ.draw (F0 := _) [.fix none (some 12) _, .fix none none _, .fix none none _, .fix none none _, .fix none none _, .fix none none _, .fix (some 12) none (.box b 135 (workCells was (h.setMap n state) e v1 fn))] mixed rfl (
    .cons (.fix 33 [] [] [4] _) (fun xs E' F Q' k => AQ.loadv1 (.plain rfl) rfl 0 rfl rfl ag127 rfl (AQ.nil (k (0, undef)))) <|
    .cons (.fix 34 [] [] [4] _) (fun xs E' F Q' k => AQ.loadv1 (.plain rfl) rfl 0 rfl rfl ag127 rfl (AQ.nil (k (0, undef)))) <|
    .cons (.fix 35 [1] [1] [] _) (fun xs E' F Q' k => AQ.nilCheck (.plain rfl) rfl rfl (AQ.nil (k (0, undef)))) <|
    .cons (.fix 36 [1, 2] [2] [] _) (fun xs E' F Q' k => AQ.fieldv (.plain rfl) rfl rfl fo135_1 rfl (AQ.nil (k (0, undef)))) <|
    .cons (.fix 37 [1, 2, 3] [3] [] _) (fun xs E' F Q' k => AQ.fieldv (.plain rfl) rfl rfl fo41_2 rfl (AQ.nil (k (0, undef)))) <|
    .cons (.fix 38 [1, 2, 3, 4] [4] [0] _) (fun xs E' F Q' k => AQ.loadv1 (.plain rfl) rfl 0 rfl rfl ag38 rfl (AQ.nil (k (0, undef)))) <|
    .cons (.fix 39 [] [] [] _) (fun xs E' F Q' k => AQ.move (.plain rfl) rfl rfl (AQ.nil (k (0, undef)))) <|
    .cons (.fix 40 [] [] [] _) (fun xs E' F Q' k => AQ.move (.plain rfl) rfl rfl (AQ.nil (k (0, undef)))) <|
    .cons (.fix 41 [1, 2, 3, 4, 5, 6, 7] [5, 6, 7] [] _) (fun xs E' F Q' k => AQ.callf (.plain rfl) rfl rfl en128 (objmapSet h.map n state _).data (AQ.nil (k (0, undef)))) <|
    .cons (.fix 42 [0, 1, 2, 3, 4, 5, 6, 7, 8] [0] [] _) (fun xs E' F Q' k => AQ.nilCheck (.plain rfl) rfl rfl (AQ.nil (k (0, undef)))) <|
    .cons (.fix 43 [0, 1, 2, 3, 4, 5, 6, 7, 8, 9] [9] [] _) (fun xs E' F Q' k => AQ.fieldv (.plain rfl) rfl rfl fo135_1 rfl (AQ.nil (k (0, undef)))) <|
    .cons (.fix 44 [0, 1, 2, 3, 4, 5, 6, 7, 8, 9, 10] [10] [] _) (fun xs E' F Q' k => AQ.fieldv (.plain rfl) rfl rfl fo41_2 rfl (AQ.nil (k (0, undef)))) <|
    .cons (.fix0 [0, 1, 2, 3, 4, 5, 6, 7, 8, 9, 10, 11] [8, 11] [0]) (fun xs E' F Q' k => AQ.storev1 (.plain rfl) rfl 0 rfl rfl .sl ag38 rfl (AQ.nil (k (0, undef)))) <|
    .nil) (by kernel_rfl) (by kernel_rfl) (fun x11 => ?_)
  refine AQ.eqH (H' := _ :: _ :: _ :: _ :: _ :: _ :: H) rfl ?_
  refine AQ.front 4 ?_
  refine AQ.front 4 ?_
  refine AQ.eqH (H' := _ :: _ :: _ :: _ :: _ :: _ :: H) rfl ?_
  refine AQ.front 4 ?_
  refine AQ.eqH (H' := _ :: _ :: _ :: _ :: _ :: _ :: H) rfl ?_
  refine AQ.front 4 ?_
  refine AQ.eqH (H' := _ :: _ :: _ :: _ :: _ :: _ :: H) rfl ?_
  refine AQ.front 4 ?_
  refine AQ.eqH (H' := _ :: _ :: _ :: _ :: _ :: _ :: H) rfl ?_
  refine AQ.front 5 ?_
  refine AQ.eqH (H' := _ :: _ :: _ :: _ :: _ :: _ :: H) rfl ?_
  refine AQ.eqH (H' := _ :: _ :: _ :: _ :: _ :: _ :: H) rfl ?_
  exact AQ.doneN (ts := []) (Imm.le_trans hJ2 hJ4) Tryz.results126 rfl rfl ⟨_, rfl, rfl⟩   -- !! body ends without ret
theorem planBegin (image : Int) (h : Head) (e : Entry) (H : List HA)  : AC Tryz.prog 62 [I image, .agg h.cells, .agg e.cells] (H) (fun r H' => ∃ x : Nat × Value, r = .val (.pointer (some ⟨x.1, 0, none⟩)) ∧ H' = .box x.1 135 (workCells h h e (.slice none 0 0) (stepFn (capB x.2 0) (capB x.2 1) (capB x.2 2) (capB x.2 3))) :: .osl (.slice none 0 0) 53 2 (txnRows ([] : List Txn)) :: .box (capB x.2 0) 51 [.sl 5 (opRows (aheadOf h e))] :: .box (capB x.2 1) 43 e.cells :: .box (capB x.2 2) 127 [.val (.pointer (some ⟨x.1, 0, none⟩))] :: .box (capB x.2 3) 3 [I image] :: H) := by
  refine AC.enter Tryz.func62 rfl Tryz.ntmps62 rfl (fun I0 => ?_)
  refine AQ.seq ?_
  refine AQ.region ?_
  refine AQ.box1 (.plain rfl) rfl (.val rfl) rfl (fun b1 => ?_)
  refine AQ.boxA (.plain rfl) rfl rfl (fun b2 => ?_)
  refine AQ.boxA (.plain rfl) rfl rfl (fun b3 => ?_)
  refine AQ.assign (.plain rfl) rfl rfl ?_
  refine AQ.nil ?_
  refine AQ.then_n ?_
  refine AQ.seq ?_
  refine AQ.region ?_
  refine AQ.loadvA (.plain rfl) rfl 1 rfl rfl ag41 rfl rfl ?_
  refine AQ.loadvA (.plain rfl) rfl 1 rfl rfl ag41 rfl rfl ?_
  refine AQ.loadvA (.plain rfl) rfl 0 rfl rfl ag43 rfl rfl ?_
  refine AQ.build (.plain rfl) rfl zo135 rfl pl135 (.agg rfl rfl rfl (.agg rfl rfl rfl (.agg rfl rfl rfl .nil))) ?_
  refine AQ.boxA (.plain rfl) rfl rfl (fun b4 => ?_)
  refine AQ.alloc (.plain rfl) zo127 rfl rfl (fun b5 => ?_)
  refine AQ.storev1 (.plain rfl) rfl 0 rfl rfl (.val rfl) ag127 rfl ?_
  try simp only [List.set_cons_zero, List.set_cons_succ]
  refine AQ.nil ?_
  refine AQ.then_n ?_
  refine AQ.seq ?_
  refine AQ.region ?_
  refine AQ.fieldv (.plain rfl) rfl rfl fo43_0 rfl ?_
  refine AQ.loadv1 (.plain rfl) rfl 2 rfl rfl ag3 rfl ?_
  refine AQ.build (.plain rfl) rfl zo58 rfl pl58 (.one rfl (.val rfl) rfl rfl (.one rfl (.val rfl) rfl rfl .nil)) ?_
  refine AQ.aggW (t := 17) (m := Op.cells (opBelow e.seq)) rfl (by repeat (first | exact ImpL.nil | apply ImpL.same | apply ImpL.sl0)) ?_
  refine AQ.buildSlice (rows := [[_, _, _, _, _]]) (.plain rfl) rfl Tryz.underlying51 el58 zo58 rfl rfl rfl (.agg rfl rfl rfl .nil) rfl rfl (by simp) (fun u6 => ?_)
  refine AQ.alloc (.plain rfl) zo51 rfl rfl (fun b7 => ?_)
  refine AQ.oslOne 1 rfl (fun ho8 => ?_)
  refine AQ.storev1 (.plain rfl) rfl 0 rfl rfl (.val ho8) ag51 rfl ?_
  try simp only [List.set_cons_zero, List.set_cons_succ]
  refine AQ.nil ?_
  refine AQ.then_n ?_
  refine AQ.seq ?_
  refine AQ.seq ?_
  refine AQ.region ?_
  refine AQ.loadvA (.plain rfl) rfl 5 rfl rfl ag41 rfl rfl ?_
  refine AQ.callf (.plain rfl) rfl rfl en125 (headNewest _ _) ?_
  refine AQ.assign (.plain rfl) rfl rfl ?_
  refine AQ.nil ?_
  refine AQ.then_n ?_
  refine AQ.seq ?_
  refine AQ.region ?_
  refine AQ.move (.plain rfl) rfl rfl ?_
  refine AQ.gtr (.plain rfl) rfl rfl rfl ?_
  refine AQ.nil ?_
  refine AQ.then_n ?_
  refine AQ.cond_d rfl (fun h9 => ?_) (fun h9 => ?_)
  · refine AQ.weaken (E' := [(0, _), (1, _), (2, _), (3, _), (4, _), (5, _), (6, _), (7, _), (8, _), (9, _), (22, _)]) ⟨rfl, rfl, rfl, rfl, rfl, rfl, rfl, rfl, rfl, rfl, rfl, trivial⟩ ?_
    refine AQ.draw (F0 := _) [.fix none (some 6) _, .fix none (some 5) _, .fix none none _, .fix none none _, .fix none none _, .fix none none _, .fix none none _, .osl (some 4) none 4 _ _ _, .osl (some 5) none 5 _ _ _, ⟨some 6, none, [5], fun l => .box b7 51 [.val (l.headD xNone).2]⟩] mixed rfl (
      .cons (.fix 23 [] [] [0] _) (fun xs E' F Q' k => AQ.loadv1 (.plain rfl) rfl 0 rfl rfl ag51 rfl (AQ.nil (k (0, undef)))) <|
      .cons (.fix 24 [] [] [] _) (fun xs E' F Q' k => AQ.move (.plain rfl) rfl rfl (AQ.nil (k (0, undef)))) <|
      .cons (.fix 25 [1] [1] [] _) (fun xs E' F Q' k => AQ.callf (.plain rfl) rfl rfl en30 (planMark _ _) (AQ.nil (k (0, undef)))) <|
      .cons (.fix 26 [1, 2] [2] [] (.agg (opClone (markName h.newest)).cells)) (fun xs E' F Q' k => AQ.build (.plain rfl) rfl zo58 rfl pl58 (.one rfl (.val rfl) rfl rfl (.one rfl (.val rfl) rfl rfl .nil)) (AQ.cgA (m := (opClone (markName h.newest)).cells) (by repeat (first | exact ImpL.nil | apply ImpL.same | apply ImpL.sl0)) (AQ.nil (k (0, undef))))) <|
      .cons (.own 27 [1, 2, 3] [3] [] 4) (fun xs E' F Q' k => AQ.buildSlice (rows := [[_, _, _, _, _]]) (.plain rfl) rfl Tryz.underlying51 el58 zo58 rfl rfl rfl (.agg rfl rfl rfl .nil) rfl rfl (by simp) (fun u10 => AQ.nil (k (0, u10)))) <|
      .cons (.own 28 [0, 1, 2, 3, 4] [0, 4] [7, 1] 5) (fun xs E' F Q' k => AQ.append (.plain rfl) rfl 1 rfl (.osl rfl 0 rfl) rfl Tryz.underlying51 el58 rfl rfl (by simp only [List.length_cons, List.length_nil, List.length_map, List.length_append, List.length_range]; omega) (fun v11 => AQ.nil (k (0, v11)))) <|
      .cons (.fix0 [0, 1, 2, 3, 4, 5] [5] [8, 0]) (fun xs E' F Q' k => AQ.oslOne 0 rfl (fun ho => AQ.storev1 (.plain rfl) rfl 1 rfl rfl (.val ho) ag51 rfl (AQ.nil (k (0, undef))))) <|
      .nil) (by kernel_rfl) (by kernel_rfl) (fun x13 => ?_)
    refine AQ.eqH (H' := _ :: _ :: _ :: _ :: _ :: _ :: _ :: _ :: H) rfl ?_
    refine AQ.then_n ?_
    refine AQ.seq ?_
    refine AQ.region ?_
    refine AQ.loadv1 (.plain rfl) rfl 0 rfl rfl ag127 rfl ?_
    refine AQ.makeFunc (fs := []) (cs := [_, _, _, _]) (.plain rfl) rfl rfl rfl ?_
    refine AQ.nilCheck (.plain rfl) rfl rfl ?_
    refine AQ.fieldv (.plain rfl) rfl rfl fo135_4 rfl ?_
    refine AQ.storev1 (.plain rfl) rfl 1 rfl rfl (.val rfl) ag133 rfl ?_
    try simp only [List.set_cons_zero, List.set_cons_succ]
    refine AQ.nil ?_
    refine AQ.then_n ?_
    refine AQ.seq ?_
    refine AQ.region ?_
    refine AQ.loadv1 (.plain rfl) rfl 0 rfl rfl ag127 rfl ?_
    refine AQ.assign (.plain rfl) rfl rfl ?_
    refine AQ.nil ?_
    refine AQ.then_n ?_
    refine AQ.ret ?_
    refine AQ.oslR 6 rfl (show _ = opRows (aheadOf h e) from by unfold aheadOf; first | (rw [if_pos (by assumption)]; rfl) | (rw [if_neg (by assumption)]; rfl)) ?_
    try simp only [List.set_cons_zero, List.set_cons_succ]
    refine AQ.freeze 6 rfl (fun J14 hJ14 hp14 => ?_)
    refine AQ.boxAs 6 0 rfl rfl hp14 ?_
    try simp only [List.set_cons_zero, List.set_cons_succ]
    refine AQ.ownNil (A := none) 53 2 ?_
    refine AQ.front 4 ?_
    refine AQ.dropN 1 ?_
    refine AQ.eqH (H' := _ :: _ :: _ :: _ :: _ :: _ :: _ :: H) rfl ?_
    refine AQ.front 5 ?_
    refine AQ.dropN 1 ?_
    refine AQ.eqH (H' := _ :: _ :: _ :: _ :: _ :: _ :: H) rfl ?_
    refine AQ.front 4 ?_
    refine AQ.eqH (H' := _ :: _ :: _ :: _ :: _ :: _ :: H) rfl ?_
    refine AQ.front 2 ?_
    refine AQ.eqH (H' := _ :: _ :: _ :: _ :: _ :: _ :: H) rfl ?_
    refine AQ.front 4 ?_
    refine AQ.eqH (H' := _ :: _ :: _ :: _ :: _ :: _ :: H) rfl ?_
    refine AQ.front 5 ?_
    refine AQ.eqH (H' := _ :: _ :: _ :: _ :: _ :: _ :: H) rfl ?_
    refine AQ.front 4 ?_
    refine AQ.eqH (H' := _ :: _ :: _ :: _ :: _ :: _ :: H) rfl ?_
    refine AQ.front 5 ?_
    refine AQ.eqH (H' := _ :: _ :: _ :: _ :: _ :: _ :: H) rfl ?_
    refine AQ.eqH (H' := _ :: _ :: _ :: _ :: _ :: _ :: H) rfl ?_
    exact AQ.done1 hJ14 Tryz.results62 rfl ⟨(_, stepFn b7 b3 b5 b1), rfl, rfl⟩
  · refine AQ.skip ?_
    refine AQ.then_n ?_
    refine AQ.seq ?_
    refine AQ.region ?_
    refine AQ.loadv1 (.plain rfl) rfl 2 rfl rfl ag127 rfl ?_
    refine AQ.makeFunc (fs := []) (cs := [_, _, _, _]) (.plain rfl) rfl rfl rfl ?_
    refine AQ.nilCheck (.plain rfl) rfl rfl ?_
    refine AQ.fieldv (.plain rfl) rfl rfl fo135_4 rfl ?_
    refine AQ.storev1 (.plain rfl) rfl 3 rfl rfl (.val rfl) ag133 rfl ?_
    try simp only [List.set_cons_zero, List.set_cons_succ]
    refine AQ.nil ?_
    refine AQ.then_n ?_
    refine AQ.seq ?_
    refine AQ.region ?_
    refine AQ.loadv1 (.plain rfl) rfl 2 rfl rfl ag127 rfl ?_
    refine AQ.assign (.plain rfl) rfl rfl ?_
    refine AQ.nil ?_
    refine AQ.then_n ?_
    refine AQ.ret ?_
    refine AQ.oslR 1 rfl (show _ = opRows (aheadOf h e) from by unfold aheadOf; first | (rw [if_pos (by assumption)]; rfl) | (rw [if_neg (by assumption)]; rfl)) ?_
    try simp only [List.set_cons_zero, List.set_cons_succ]
    refine AQ.freeze 1 rfl (fun J15 hJ15 hp15 => ?_)
    refine AQ.boxAs 0 0 rfl rfl hp15 ?_
    try simp only [List.set_cons_zero, List.set_cons_succ]
    refine AQ.ownNil (A := none) 53 2 ?_
    refine AQ.front 5 ?_
    refine AQ.dropN 1 ?_
    refine AQ.eqH (H' := _ :: _ :: _ :: _ :: _ :: _ :: H) rfl ?_
    refine AQ.front 5 ?_
    refine AQ.eqH (H' := _ :: _ :: _ :: _ :: _ :: _ :: H) rfl ?_
    refine AQ.front 3 ?_
    refine AQ.eqH (H' := _ :: _ :: _ :: _ :: _ :: _ :: H) rfl ?_
    refine AQ.front 5 ?_
    refine AQ.eqH (H' := _ :: _ :: _ :: _ :: _ :: _ :: H) rfl ?_
    refine AQ.front 4 ?_
    refine AQ.eqH (H' := _ :: _ :: _ :: _ :: _ :: _ :: H) rfl ?_
    refine AQ.front 4 ?_
    refine AQ.eqH (H' := _ :: _ :: _ :: _ :: _ :: _ :: H) rfl ?_
    refine AQ.front 5 ?_
    refine AQ.eqH (H' := _ :: _ :: _ :: _ :: _ :: _ :: H) rfl ?_
    refine AQ.eqH (H' := _ :: _ :: _ :: _ :: _ :: _ :: H) rfl ?_
    exact AQ.done1 hJ15 Tryz.results62 rfl ⟨(_, stepFn b7 b3 b5 b1), rfl, rfl⟩
end Go.Fx
set_option linter.unusedVariables false
set_option linter.unusedSimpArgs false
set_option maxRecDepth 100000
namespace Go.Fx
open Go Go.Proofs
theorem planStepO (b ba be bw bi : Nat) (image : Int) (was h : Head) (e : Entry) (l : List Txn) (v fn u : Value) (ahead ops : List Op) (n state : Int) (H : List HA) (y0 : ahead.length ≤ 100) (y1 : ops.length ≤ 100) (y2 : l.length ≤ 10000) :
    AC Tryz.prog 126 [I n, I state, .val u, .val (.pointer (some ⟨ba, 0, none⟩)), .val (.pointer (some ⟨be, 0, none⟩)), .val (.pointer (some ⟨bw, 0, none⟩)), .val (.pointer (some ⟨bi, 0, none⟩))] (.osl u 58 5 (opRows ops) :: .box b 135 (workCells was h e v fn) :: .osl v 53 2 (txnRows l) :: .box ba 51 [.sl 5 (opRows ahead)] :: .box be 43 e.cells :: .box bw 127 [.val (.pointer (some ⟨b, 0, none⟩))] :: .box bi 3 [I image] :: H) (fun r H' => ∃ v', r = .tup [] ∧ H' = .box b 135 (workCells was (h.setMap n state) e v' fn) :: .osl v' 53 2 (txnRows (l ++ [stepTxn image ahead e n ops])) :: .box ba 51 [.sl 5 (opRows ahead)] :: .box be 43 e.cells :: .box bw 127 [.val (.pointer (some ⟨b, 0, none⟩))] :: .box bi 3 [I image] :: H) :=
  AC.own (pre := [_, _]) (post := [_, _, _, _]) (planStep b ba be bw bi image was h e l v fn ahead ops n state H y0 y1 y2)

theorem planWrite (b ba be bw bi : Nat) (image : Int) (was : Head) (e : Entry) (H : List HA) (y0 : was.May) (y1 : 0 ≤ e.off) (y2 : e.off ≤ 512) (y3 : e.data.length ≤ 512) : AC Tryz.prog 64 [.val (.pointer (some ⟨b, 0, none⟩))] ((.box b 135 (workCells was was e (.slice none 0 0) (stepFn ba be bw bi)) :: .osl (.slice none 0 0) 53 2 (txnRows ([] : List Txn)) :: .box ba 51 [.sl 5 (opRows (aheadOf was e))] :: .box be 43 e.cells :: .box bw 127 [.val (.pointer (some ⟨b, 0, none⟩))] :: .box bi 3 [I image] :: H)) (fun r H' => ∃ v', r = I (writeOut image was e).1 ∧ H' = .box b 135 (workCells was (writeOut image was e).2.1 e v' (stepFn ba be bw bi)) :: .osl v' 53 2 (txnRows (writeOut image was e).2.2) :: .box ba 51 [.sl 5 (opRows (aheadOf was e))] :: .box be 43 e.cells :: .box bw 127 [.val (.pointer (some ⟨b, 0, none⟩))] :: .box bi 3 [I image] :: H) := by
  refine AC.enter Tryz.func64 rfl Tryz.ntmps64 rfl (fun I0 => ?_)
  have hm := y0.1
  have hz : 0 ≤ was.size ∧ was.size ≤ 512 := ⟨y0.2.1.1, y0.2.1.2.1⟩
  have hpi := pieces_inv (n := (e.data.length : Int)) hm y1 (by omega)
  have hpln := hpi.len
  have hwl : (writeParts was e).length ≤ 512 := partsL_len _
  refine AQ.seq ?_
  refine AQ.region ?_
  refine AQ.assign (.plain rfl) rfl rfl ?_
  refine AQ.nil ?_
  refine AQ.then_n ?_
  refine AQ.seq ?_
  refine AQ.seq ?_
  refine AQ.weaken (E' := [(0, _), (2, _)]) ⟨rfl, rfl, trivial⟩ ?_
  refine AQ.draw (F0 := _) [.fix none none _, .fix none none _, .fix none none _, .fix none none _, .fix none none _, .fix none none _] mixed rfl (
    .cons (.fix 8 [] [] [] _) (fun xs E' F Q' k => AQ.move (.plain rfl) rfl rfl (AQ.nil (k (0, undef)))) <|
    .cons (.fix 9 [0] [0] [] _) (fun xs E' F Q' k => AQ.nilCheck (.plain rfl) rfl rfl (AQ.nil (k (0, undef)))) <|
    .cons (.fix 10 [0, 1] [1] [] _) (fun xs E' F Q' k => AQ.fieldv (.plain rfl) rfl rfl fo135_2 rfl (AQ.nil (k (0, undef)))) <|
    .cons (.fix 11 [0, 1, 2] [2] [] _) (fun xs E' F Q' k => AQ.fieldv (.plain rfl) rfl rfl fo43_3 rfl (AQ.nil (k (0, undef)))) <|
    .cons (.fix 12 [0, 1, 2, 3] [3] [0] _) (fun xs E' F Q' k => AQ.loadv1 (.plain rfl) rfl 0 rfl rfl ag3 rfl (AQ.nil (k (0, undef)))) <|
    .cons (.fix 13 [] [] [] _) (fun xs E' F Q' k => AQ.move (.plain rfl) rfl rfl (AQ.nil (k (0, undef)))) <|
    .cons (.fix 14 [5] [5] [] _) (fun xs E' F Q' k => AQ.nilCheck (.plain rfl) rfl rfl (AQ.nil (k (0, undef)))) <|
    .cons (.fix 15 [5, 6] [6] [] _) (fun xs E' F Q' k => AQ.fieldv (.plain rfl) rfl rfl fo135_2 rfl (AQ.nil (k (0, undef)))) <|
    .cons (.fix 16 [5, 6, 7] [7] [] _) (fun xs E' F Q' k => AQ.fieldv (.plain rfl) rfl rfl fo43_6 rfl (AQ.nil (k (0, undef)))) <|
    .cons (.fix 17 [5, 6, 7, 8] [8] [0] _) (fun xs E' F Q' k => AQ.loadv1 (.plain rfl) rfl 0 rfl rfl ag28 rfl (AQ.nil (k (0, undef)))) <|
    .cons (.fix 18 [5, 6, 7, 8, 9] [9] [] (I (e.data.length : Int))) (fun xs E' F Q' k => AQ.lenz (.plain rfl) (.sl rfl) rfl Tryz.underlying28 (by first | (simp only [List.length_map]; done) | (simp only [List.length_map]; rfl) | rfl) (AQ.nil (k (0, undef)))) <|
    .cons (.fix 19 [0, 1, 2, 3, 4, 5, 6, 7, 8, 9, 10] [4, 10] [] _) (fun xs E' F Q' k => AQ.add (.plain rfl) rfl rfl rfl (i64_id (by omega) (by omega)) (AQ.nil (k (0, undef)))) <|
    .cons (.fix 20 [] [] [] _) (fun xs E' F Q' k => AQ.move (.plain rfl) rfl rfl (AQ.nil (k (0, undef)))) <|
    .cons (.fix 21 [12] [12] [] _) (fun xs E' F Q' k => AQ.nilCheck (.plain rfl) rfl rfl (AQ.nil (k (0, undef)))) <|
    .cons (.fix 22 [12, 13] [13] [] _) (fun xs E' F Q' k => AQ.fieldv (.plain rfl) rfl rfl fo135_0 rfl (AQ.nil (k (0, undef)))) <|
    .cons (.fix 23 [12, 13, 14] [14] [] _) (fun xs E' F Q' k => AQ.fieldv (.plain rfl) rfl rfl fo41_1 rfl (AQ.nil (k (0, undef)))) <|
    .cons (.fix 24 [12, 13, 14, 15] [15] [0] _) (fun xs E' F Q' k => AQ.loadv1 (.plain rfl) rfl 0 rfl rfl ag3 rfl (AQ.nil (k (0, undef)))) <|
    .cons (.fix 25 [0, 1, 2, 3, 4, 5, 6, 7, 8, 9, 10, 11, 12, 13, 14, 15, 16] [11, 16] [] _) (fun xs E' F Q' k => AQ.gtr (.plain rfl) rfl rfl rfl (AQ.nil (k (0, undef)))) <|
    .nil) (by kernel_rfl) (by kernel_rfl) (fun x1 => ?_)
  refine AQ.eqH (H' := _ :: _ :: _ :: _ :: _ :: _ :: H) rfl ?_
  refine AQ.then_n ?_
  refine AQ.cond_d rfl (fun h2 => ?_) (fun h2 => ?_)
  · refine AQ.seq ?_
    refine AQ.region ?_
    refine AQ.assign (.plain rfl) rfl rfl ?_
    refine AQ.nil ?_
    refine AQ.then_n ?_
    refine AQ.ret ?_
    refine AQ.then_r ?_
    exact AQ.done1 (Imm.le_refl _) Tryz.results64 rfl ⟨.slice none 0 0, by unfold writeOut; rw [if_pos (by omega)], by unfold writeOut; rw [if_pos (by omega)]; first | done | rfl⟩
  · refine AQ.skip ?_
    refine AQ.then_n ?_
    refine AQ.seq ?_
    refine AQ.seq ?_
    refine AQ.weaken (E' := [(0, _), (2, _), (25, _)]) ⟨rfl, rfl, rfl, trivial⟩ ?_
    refine AQ.draw (F0 := _) [.fix none none _, .fix none none _, .fix none none _, .fix none none _, .fix none none _, .fix none none _] mixed rfl (
      .cons (.fix 26 [] [] [] _) (fun xs E' F Q' k => AQ.move (.plain rfl) rfl rfl (AQ.nil (k (0, undef)))) <|
      .cons (.fix 27 [0] [0] [] _) (fun xs E' F Q' k => AQ.nilCheck (.plain rfl) rfl rfl (AQ.nil (k (0, undef)))) <|
      .cons (.fix 28 [0, 1] [1] [] _) (fun xs E' F Q' k => AQ.fieldv (.plain rfl) rfl rfl fo135_0 rfl (AQ.nil (k (0, undef)))) <|
      .cons (.fix 29 [0, 1, 2] [2] [] _) (fun xs E' F Q' k => AQ.fieldv (.plain rfl) rfl rfl fo41_0 rfl (AQ.nil (k (0, undef)))) <|
      .cons (.fix 30 [0, 1, 2, 3] [3] [0] _) (fun xs E' F Q' k => AQ.loadvA (.plain rfl) rfl 0 rfl rfl ag37 rfl rfl (AQ.nil (k (0, undef)))) <|
      .cons (.fix 31 [] [] [] _) (fun xs E' F Q' k => AQ.move (.plain rfl) rfl rfl (AQ.nil (k (0, undef)))) <|
      .cons (.fix 32 [5] [5] [] _) (fun xs E' F Q' k => AQ.nilCheck (.plain rfl) rfl rfl (AQ.nil (k (0, undef)))) <|
      .cons (.fix 33 [5, 6] [6] [] _) (fun xs E' F Q' k => AQ.fieldv (.plain rfl) rfl rfl fo135_2 rfl (AQ.nil (k (0, undef)))) <|
      .cons (.fix 34 [5, 6, 7] [7] [] _) (fun xs E' F Q' k => AQ.fieldv (.plain rfl) rfl rfl fo43_3 rfl (AQ.nil (k (0, undef)))) <|
      .cons (.fix 35 [5, 6, 7, 8] [8] [0] _) (fun xs E' F Q' k => AQ.loadv1 (.plain rfl) rfl 0 rfl rfl ag3 rfl (AQ.nil (k (0, undef)))) <|
      .cons (.fix 36 [] [] [] _) (fun xs E' F Q' k => AQ.move (.plain rfl) rfl rfl (AQ.nil (k (0, undef)))) <|
      .cons (.fix 37 [10] [10] [] _) (fun xs E' F Q' k => AQ.nilCheck (.plain rfl) rfl rfl (AQ.nil (k (0, undef)))) <|
      .cons (.fix 38 [10, 11] [11] [] _) (fun xs E' F Q' k => AQ.fieldv (.plain rfl) rfl rfl fo135_2 rfl (AQ.nil (k (0, undef)))) <|
      .cons (.fix 39 [10, 11, 12] [12] [] _) (fun xs E' F Q' k => AQ.fieldv (.plain rfl) rfl rfl fo43_6 rfl (AQ.nil (k (0, undef)))) <|
      .cons (.fix 40 [10, 11, 12, 13] [13] [0] _) (fun xs E' F Q' k => AQ.loadv1 (.plain rfl) rfl 0 rfl rfl ag28 rfl (AQ.nil (k (0, undef)))) <|
      .cons (.fix 41 [10, 11, 12, 13, 14] [14] [] (I (e.data.length : Int))) (fun xs E' F Q' k => AQ.lenz (.plain rfl) (.sl rfl) rfl Tryz.underlying28 (by first | (simp only [List.length_map]; done) | (simp only [List.length_map]; rfl) | rfl) (AQ.nil (k (0, undef)))) <|
      .cons (.fix 42 [0, 1, 2, 3, 4, 5, 6, 7, 8, 9, 10, 11, 12, 13, 14, 15] [4, 9, 15] [] (.sl 4 (partRows (writeParts was e)))) (fun xs E' F Q' k => AQ.callf (.plain rfl) rfl rfl en105 (planParts was.layout e.off (e.data.length : Int) _ hm y1 (by omega) (by omega)) (AQ.nil (k (0, undef)))) <|
      .cons (.fix 43 [0, 1, 2, 3, 4, 5, 6, 7, 8, 9, 10, 11, 12, 13, 14, 15, 16] [16] [] (I ((writeParts was e).length : Int))) (fun xs E' F Q' k => AQ.lenz (.plain rfl) (.sl rfl) rfl Tryz.underlying172 (by first | (simp only [List.length_map]; done) | (simp only [List.length_map]; rfl) | rfl) (AQ.nil (k (0, undef)))) <|
      .cons (.fix 44 [] [] [] _) (fun xs E' F Q' k => AQ.move (.plain rfl) rfl rfl (AQ.nil (k (0, undef)))) <|
      .nil) (by kernel_rfl) (by kernel_rfl) (fun x3 => ?_)
    refine AQ.eqH (H' := _ :: _ :: _ :: _ :: _ :: _ :: H) rfl ?_
    refine AQ.then_n ?_
    refine AQ.block ?_
    refine AQ.loop (σ := Nat × Value) (fun s => [(0, .val (.pointer (some ⟨b, 0, none⟩))), (42, .sl 4 (partRows (writeParts was e))), (43, I ((writeParts was e).length : Int)), (44, I (s.1 : Int))]) (fun s => .box b 135 (workCells was (writeTo image was e s.1).1 e s.2 (stepFn ba be bw bi)) :: .osl s.2 53 2 (txnRows (writeTo image was e s.1).2) :: .box ba 51 [.sl 5 (opRows (aheadOf was e))] :: .box be 43 e.cells :: .box bw 127 [.val (.pointer (some ⟨b, 0, none⟩))] :: .box bi 3 [I image] :: H) (fun s => s.1 ≤ (writeParts was e).length) (fun s => (writeParts was e).length - s.1) (0, .slice none 0 0) (by simp) ⟨rfl, rfl, rfl, rfl, trivial⟩ rfl (fun s hs => ?_)
    refine AQ.seq ?_
    refine AQ.region ?_
    refine AQ.lss (.plain rfl) rfl rfl rfl ?_
    refine AQ.nil ?_
    refine AQ.then_n ?_
    refine AQ.seq ?_
    refine AQ.cond_d rfl (fun h4 => ?_) (fun h4 => ?_)
    · refine AQ.skip ?_
      refine AQ.then_n ?_
      refine AQ.seq ?_
      refine AQ.block ?_
      refine AQ.seq ?_
      refine AQ.region ?_
      obtain ⟨p, hp⟩ := lgetz (l := (writeParts was e)) (z := (s.1 : Int)) (by omega) (by omega)
      refine AQ.indexAddr (.plain rfl) rfl rfl rfl Tryz.underlying172 ag176 (by omega) (map_getz hp) ?_
      rw [Int.toNat_natCast] at hp
      have hpm : p ∈ partsL (pieces was.layout e.off e.data.length) := List.mem_of_getElem? hp
      have hppl := partsL_plen hpm
      refine AQ.loadA (.plain rfl) rfl rfl ag176 rfl rfl ?_
      refine AQ.alloc (.plain rfl) zo176 rfl rfl (fun b5 => ?_)
      refine AQ.storevA (.plain rfl) rfl 0 rfl rfl ag176 rfl rfl ?_
      try simp only [List.set_cons_zero, List.set_cons_succ]
      refine AQ.nil ?_
      refine AQ.then_n ?_
      refine AQ.seq ?_
      refine AQ.region ?_
      refine AQ.assign (.plain rfl) rfl rfl ?_
      refine AQ.nil ?_
      refine AQ.then_n ?_
      refine AQ.seq ?_
      refine AQ.seq ?_
      refine AQ.region ?_
      refine AQ.fieldv (.plain rfl) rfl rfl fo176_3 rfl ?_
      refine AQ.loadv1 (.plain rfl) rfl 0 rfl rfl ag174 rfl ?_
      refine AQ.lenz (.plain rfl) (.sl rfl) rfl Tryz.underlying174 (by first | (simp only [List.length_map]; done) | (simp only [List.length_map]; rfl) | rfl) ?_
      refine AQ.move (.plain rfl) rfl rfl ?_
      refine AQ.nil ?_
      refine AQ.then_n ?_
      refine AQ.block ?_
      refine AQ.ownNil (A := none) 5 1 ?_
      refine AQ.loop (σ := Nat × Value) (fun z => [(0, .val (.pointer (some ⟨b, 0, none⟩))), (4, .val (.pointer (some ⟨b5, 0, none⟩))), (5, .val z.2), (42, .sl 4 (partRows (writeParts was e))), (43, I ((writeParts was e).length : Int)), (44, I (s.1 : Int)), (49, .sl 4 (pieceRows p.ps)), (50, I (p.ps.length : Int)), (51, I (z.1 : Int))]) (fun z => .osl z.2 5 1 (byteRows (partData e.data (p.ps.take z.1))) :: .box b5 176 p.cells :: .box b 135 (workCells was (writeTo image was e s.1).1 e s.2 (stepFn ba be bw bi)) :: .osl s.2 53 2 (txnRows (writeTo image was e s.1).2) :: .box ba 51 [.sl 5 (opRows (aheadOf was e))] :: .box be 43 e.cells :: .box bw 127 [.val (.pointer (some ⟨b, 0, none⟩))] :: .box bi 3 [I image] :: H) (fun z => z.1 ≤ p.ps.length) (fun z => p.ps.length - z.1) (0, .slice none 0 0) (by simp) ⟨rfl, rfl, rfl, rfl, rfl, rfl, rfl, rfl, rfl, trivial⟩ rfl (fun z hs => ?_)
      refine AQ.seq ?_
      refine AQ.region ?_
      refine AQ.lss (.plain rfl) rfl rfl rfl ?_
      refine AQ.nil ?_
      refine AQ.then_n ?_
      refine AQ.seq ?_
      refine AQ.cond_d rfl (fun h6 => ?_) (fun h6 => ?_)
      · refine AQ.skip ?_
        refine AQ.then_n ?_
        refine AQ.seq ?_
        refine AQ.block ?_
        refine AQ.seq ?_
        refine AQ.region ?_
        obtain ⟨x, hx⟩ := lgetz (l := p.ps) (z := (z.1 : Int)) (by omega) (by omega)
        refine AQ.indexAddr (.plain rfl) rfl rfl rfl Tryz.underlying174 ag183 (by omega) (map_getz hx) ?_
        rw [Int.toNat_natCast] at hx
        have hxm := partsL_piece hpm (List.mem_of_getElem? hx)
        have hxa := hpi.atn (by omega) x hxm.1
        have hxl := (hpi.2 x hxm.1).len
        have hx0 := (hpi.2 x hxm.1).at0
        have hpd := partData_le e.data p.ps z.1
        have hpd2 := Nat.mul_le_mul y3 (show z.1 ≤ 512 by omega)
        refine AQ.loadA (.plain rfl) rfl rfl ag183 rfl rfl ?_
        refine AQ.alloc (.plain rfl) zo183 rfl rfl (fun b7 => ?_)
        refine AQ.storevA (.plain rfl) rfl 0 rfl rfl ag183 rfl rfl ?_
        try simp only [List.set_cons_zero, List.set_cons_succ]
        refine AQ.nil ?_
        refine AQ.then_n ?_
        refine AQ.weaken (E' := [(5, _), (0, _), (4, _), (42, _), (43, _), (44, _), (49, _), (50, _), (51, _), (52, _), (7, _)]) ⟨rfl, rfl, rfl, rfl, rfl, rfl, rfl, rfl, rfl, rfl, rfl, trivial⟩ ?_
        refine AQ.drawE 15 (E1 := [(5, _)]) (E0 := [(0, _), (4, _), (42, _), (43, _), (44, _), (49, _), (50, _), (51, _), (52, _), (7, _)]) (F0 := _) [.fix none none _, .fix none (some 14) _, .fix none none _, .fix none none _, .fix none none _, .fix none none _, .fix none none _, .fix none none _, .fix none none _, .osl (some 14) none 14 _ _ _] mixed rfl (
          .cons (.fix 55 [] [] [] _) (fun xs E' F Q' k => AQ.move (.plain rfl) rfl rfl (AQ.nil (k (0, undef)))) <|
          .cons (.fix 56 [] [] [] _) (fun xs E' F Q' k => AQ.move (.plain rfl) rfl rfl (AQ.nil (k (0, undef)))) <|
          .cons (.fix 57 [1] [1] [] _) (fun xs E' F Q' k => AQ.nilCheck (.plain rfl) rfl rfl (AQ.nil (k (0, undef)))) <|
          .cons (.fix 58 [1, 2] [2] [] _) (fun xs E' F Q' k => AQ.fieldv (.plain rfl) rfl rfl fo135_2 rfl (AQ.nil (k (0, undef)))) <|
          .cons (.fix 59 [1, 2, 3] [3] [] _) (fun xs E' F Q' k => AQ.fieldv (.plain rfl) rfl rfl fo43_6 rfl (AQ.nil (k (0, undef)))) <|
          .cons (.fix 60 [1, 2, 3, 4] [4] [3] _) (fun xs E' F Q' k => AQ.loadv1 (.plain rfl) rfl 0 rfl rfl ag28 rfl (AQ.nil (k (0, undef)))) <|
          .cons (.fix 61 [] [] [] _) (fun xs E' F Q' k => AQ.fieldv (.plain rfl) rfl rfl fo183_3 rfl (AQ.nil (k (0, undef)))) <|
          .cons (.fix 62 [6] [6] [0] _) (fun xs E' F Q' k => AQ.loadv1 (.plain rfl) rfl 0 rfl rfl ag3 rfl (AQ.nil (k (0, undef)))) <|
          .cons (.fix 63 [] [] [] _) (fun xs E' F Q' k => AQ.fieldv (.plain rfl) rfl rfl fo183_3 rfl (AQ.nil (k (0, undef)))) <|
          .cons (.fix 64 [8] [8] [0] _) (fun xs E' F Q' k => AQ.loadv1 (.plain rfl) rfl 0 rfl rfl ag3 rfl (AQ.nil (k (0, undef)))) <|
          .cons (.fix 65 [] [] [] _) (fun xs E' F Q' k => AQ.fieldv (.plain rfl) rfl rfl fo183_2 rfl (AQ.nil (k (0, undef)))) <|
          .cons (.fix 66 [10] [10] [0] _) (fun xs E' F Q' k => AQ.loadv1 (.plain rfl) rfl 0 rfl rfl ag3 rfl (AQ.nil (k (0, undef)))) <|
          .cons (.fix 67 [8, 9, 10, 11] [9, 11] [] _) (fun xs E' F Q' k => AQ.add (.plain rfl) rfl rfl rfl (i64_id (by omega) (by omega)) (AQ.nil (k (0, undef)))) <|
          .cons (.fix 68 [1, 2, 3, 4, 5, 6, 7, 8, 9, 10, 11, 12] [5, 7, 12] [] _) (fun xs E' F Q' k => AQ.cut (.plain rfl) rfl rfl rfl rfl Tryz.underlying28 ag5 (by omega) (by omega) (by simp only [List.length_map]; omega) (AQ.nil (k (0, undef)))) <|
          .cons (.own 69 [0, 1, 2, 3, 4, 5, 6, 7, 8, 9, 10, 11, 12, 13] [0, 13] [1] 14) (fun xs E' F Q' k => AQ.append (.plain rfl) rfl 0 rfl (.sl rfl) rfl Tryz.underlying28 el5 rfl rfl (by simp only [List.length_map, List.length_drop, List.length_take]; omega) (fun v8 => AQ.nil (k (0, v8)))) <|
          .cons (.own 5 [0, 1, 2, 3, 4, 5, 6, 7, 8, 9, 10, 11, 12, 13, 14] [14] [] 14) (fun xs E' F Q' k => AQ.assign (.plain rfl) rfl rfl (AQ.nil (k (0, undef)))) <|
          .nil) (by kernel_rfl) (by kernel_rfl) (by kernel_rfl) (fun x9 => ?_)
        refine AQ.eqH (H' := _ :: _ :: _ :: _ :: _ :: _ :: _ :: _ :: _ :: H) rfl ?_
        refine AQ.block_n ?_
        refine AQ.then_n ?_
        refine AQ.region ?_
        refine AQ.add (.plain rfl) rfl rfl rfl (i64_id (by omega) (by omega)) ?_
        refine AQ.move (.plain rfl) rfl rfl ?_
        refine AQ.nil ?_
        refine AQ.dropN 1 ?_
        refine AQ.front 6 ?_
        refine AQ.eqH (H' := _ :: _ :: _ :: _ :: _ :: _ :: _ :: _ :: H) rfl ?_
        refine AQ.front 6 ?_
        refine AQ.eqH (H' := _ :: _ :: _ :: _ :: _ :: _ :: _ :: _ :: H) rfl ?_
        refine AQ.front 6 ?_
        refine AQ.eqH (H' := _ :: _ :: _ :: _ :: _ :: _ :: _ :: _ :: H) rfl ?_
        refine AQ.front 6 ?_
        refine AQ.eqH (H' := _ :: _ :: _ :: _ :: _ :: _ :: _ :: _ :: H) rfl ?_
        refine AQ.front 6 ?_
        refine AQ.eqH (H' := _ :: _ :: _ :: _ :: _ :: _ :: _ :: _ :: H) rfl ?_
        refine AQ.front 6 ?_
        refine AQ.eqH (H' := _ :: _ :: _ :: _ :: _ :: _ :: _ :: _ :: H) rfl ?_
        refine AQ.front 6 ?_
        refine AQ.eqH (H' := _ :: _ :: _ :: _ :: _ :: _ :: _ :: _ :: H) rfl ?_
        refine AQ.front 7 ?_
        refine AQ.eqH (H' := _ :: _ :: _ :: _ :: _ :: _ :: _ :: _ :: H) rfl ?_
        refine AQ.eqH (H' := _ :: _ :: _ :: _ :: _ :: _ :: _ :: _ :: H) rfl ?_
        exact AQ.again (Imm.le_refl _) (z.1 + 1, _) (by simp only; omega) (by simp only; omega) ⟨rfl, rfl, rfl, rfl, rfl, rfl, rfl, rfl, rfl, trivial⟩ (by simp only [partData_take hx, cutB, List.map_append, List.map_drop, List.map_take]; rfl)
      · refine AQ.exit ?_
        refine AQ.then_e ?_
        refine AQ.then_e ?_
        refine AQ.block_hit ?_
        refine AQ.then_n ?_
        refine AQ.oslR 0 rfl (show _ = byteRows (partData e.data p.ps) from by rw [List.take_of_length_le (by omega)]) ?_
        try simp only [List.set_cons_zero, List.set_cons_succ]
        refine AQ.freeze 0 rfl (fun J77 hJ77 hp77 => ?_)
        refine AQ.as (t := 5) rfl hp77 ?_
        refine AQ.weaken (E' := [(0, _), (4, _), (5, _), (42, _), (43, _), (44, _), (49, _), (50, _), (51, _), (52, _)]) ⟨rfl, rfl, rfl, rfl, rfl, rfl, rfl, rfl, rfl, rfl, trivial⟩ ?_
        refine AQ.draw (F0 := _) [.fix none none _, .fix none (some 11) _, .fix none (some 11) _, .fix none (some 11) _, .fix none (some 11) _, .fix none (some 11) _, .fix none (some 11) _, .osl (some 10) (some 11) 10 _ _ _, ⟨some 11, none, [11], fun l => .box b 135 (workCells was ((writeTo image was e s.1).1.setMap p.o 1) e (l.headD xNone).2 (stepFn ba be bw bi))⟩, ⟨some 11, none, [11], fun l => .osl (l.headD xNone).2 53 2 (txnRows ((writeTo image was e s.1).2 ++ [stepTxn image (aheadOf was e) e p.o [opWrite p.off (partData e.data p.ps)]]))⟩, .fix (some 11) none _, .fix (some 11) none _, .fix (some 11) none _, .fix (some 11) none _] mixed rfl (
          .cons (.fix 71 [] [] [] _) (fun xs E' F Q' k => AQ.move (.plain rfl) rfl rfl (AQ.nil (k (0, undef)))) <|
          .cons (.fix 72 [0] [0] [] _) (fun xs E' F Q' k => AQ.nilCheck (.plain rfl) rfl rfl (AQ.nil (k (0, undef)))) <|
          .cons (.fix 73 [0, 1] [1] [] _) (fun xs E' F Q' k => AQ.fieldv (.plain rfl) rfl rfl fo135_4 rfl (AQ.nil (k (0, undef)))) <|
          .cons (.fix 74 [0, 1, 2] [2] [1] _) (fun xs E' F Q' k => AQ.loadv1 (.plain rfl) rfl 0 rfl rfl ag133 rfl (AQ.nil (k (0, undef)))) <|
          .cons (.fix 75 [] [] [] _) (fun xs E' F Q' k => AQ.fieldv (.plain rfl) rfl rfl fo176_0 rfl (AQ.nil (k (0, undef)))) <|
          .cons (.fix 76 [4] [4] [0] _) (fun xs E' F Q' k => AQ.loadv1 (.plain rfl) rfl 0 rfl rfl ag3 rfl (AQ.nil (k (0, undef)))) <|
          .cons (.fix 77 [] [] [] _) (fun xs E' F Q' k => AQ.fieldv (.plain rfl) rfl rfl fo176_1 rfl (AQ.nil (k (0, undef)))) <|
          .cons (.fix 78 [6] [6] [0] _) (fun xs E' F Q' k => AQ.loadv1 (.plain rfl) rfl 0 rfl rfl ag3 rfl (AQ.nil (k (0, undef)))) <|
          .cons (.fix 79 [] [] [] _) (fun xs E' F Q' k => AQ.move (.plain rfl) rfl rfl (AQ.nil (k (0, undef)))) <|
          .cons (.fix 80 [6, 7, 8] [7, 8] [] (.agg (opWrite p.off (partData e.data p.ps)).cells)) (fun xs E' F Q' k => AQ.build (.plain rfl) rfl zo58 rfl pl58 (.one rfl (.val rfl) rfl rfl (.one rfl (.val rfl) rfl rfl (.one rfl .sl rfl rfl .nil))) (AQ.nil (k (0, undef)))) <|
          .cons (.own 81 [6, 7, 8, 9] [9] [] 10) (fun xs E' F Q' k => AQ.buildSlice (rows := [[_, _, _, _, _]]) (.plain rfl) rfl Tryz.underlying51 el58 zo58 rfl rfl rfl (.agg rfl rfl rfl .nil) rfl rfl (by simp) (fun u10 => AQ.nil (k (0, u10)))) <|
          .cons (.fix 82 [0, 1, 2, 3, 4, 5, 6, 7, 8, 9, 10] [3, 5, 10] [7, 1, 2, 3, 4, 5, 6] _) (fun xs E' F Q' k => AQ.callvo (first := []) (cap := [_, _, _, _]) (.plain rfl) rfl rfl rfl en126 (planStepO b ba be bw bi image was (writeTo image was e s.1).1 e (writeTo image was e s.1).2 s.2 (stepFn ba be bw bi) _ (aheadOf was e) [opWrite p.off (partData e.data p.ps)] p.o 1 _ (by have := aheadOf_len was e; omega) (by simp) (by have := writeTo_len image was e s.1; omega)) (fun v9 => AQ.nil (k (0, v9)))) <|
          .nil) (by kernel_rfl) (by kernel_rfl) (fun x12 => ?_)
        refine AQ.eqH (H' := _ :: _ :: _ :: _ :: _ :: _ :: _ :: H) rfl ?_
        refine AQ.block_n ?_
        refine AQ.then_n ?_
        refine AQ.region ?_
        refine AQ.add (.plain rfl) rfl rfl rfl (i64_id (by omega) (by omega)) ?_
        refine AQ.move (.plain rfl) rfl rfl ?_
        refine AQ.nil ?_
        refine AQ.dropN 1 ?_
        refine AQ.eqH (H' := _ :: _ :: _ :: _ :: _ :: _ :: H) rfl ?_
        exact AQ.again hJ77 (s.1 + 1, _) (by simp only; omega) (by simp only; omega) ⟨rfl, rfl, rfl, rfl, trivial⟩ (by simp only [writeTo_succ hp]; rfl)
    · refine AQ.exit ?_
      refine AQ.then_e ?_
      refine AQ.then_e ?_
      refine AQ.block_hit ?_
      refine AQ.then_n ?_
      refine AQ.seq ?_
      refine AQ.region ?_
      refine AQ.assign (.plain rfl) rfl rfl ?_
      refine AQ.nil ?_
      refine AQ.then_n ?_
      refine AQ.ret ?_
      exact AQ.done1 (Imm.le_refl _) Tryz.results64 rfl ⟨_, by unfold writeOut; rw [if_neg (by omega)], by unfold writeOut; rw [if_neg (by omega), show s.1 = (writeParts was e).length by omega]⟩
end Go.Fx
set_option linter.unusedVariables false
set_option linter.unusedSimpArgs false
set_option maxRecDepth 100000
namespace Go.Fx
open Go Go.Proofs
theorem headPackS (h : Head) (H : List HA) : AC Tryz.prog 70 [.agg h.cells] H (fun r H' => r = .sl 1 (byteRows (packOf h)) ∧ H' = H) := by
  by_cases hm : h.May
  · intro I w vs ha ho
    refine (headPackY h H hm I w vs ha ho).mono ?_
    rintro e' w' ⟨J, r, H', v, q1, q2, q3, q4, rfl, rfl⟩
    refine ⟨J, _, H', v, q1, q2, ?_, q4, rfl, rfl⟩
    unfold packOf; rw [if_pos hm]; exact sl_of_slS q3
  · intro I w vs ha ho
    refine (headPackN h H hm I w vs ha ho).mono ?_
    rintro e' w' ⟨J, r, H', v, q1, q2, q3, q4, rfl, rfl⟩
    refine ⟨J, _, H', v, q1, q2, ?_, q4, rfl, rfl⟩
    unfold packOf; rw [if_neg hm, val_eq q3]; exact sl_nil _ _

set_option maxHeartbeats 1000000 in
theorem planDoW (image : Int) (h : Head) (e : Entry) (H : List HA) (y0 : h.May) (y1 : e.May) (y2 : h.seq < e.seq) (y3 : e.kind = 1) (y4 : e.clean.off + (e.clean.data.length : Int) ≤ h.size) (y5 : 0 ≤ e.clean.off ∧ e.clean.off ≤ 512 ∧ e.clean.data.length ≤ 512) : AC Tryz.prog 18 [I image, .agg h.cells, .agg e.cells] (H) (fun r' H' => r' = (.tup [.agg (doneOut image e (writeTo image h e.clean (writeParts h e.clean).length).1 (writeTo image h e.clean (writeParts h e.clean).length).2).1.cells, .sl 2 (txnRows (doneOut image e (writeTo image h e.clean (writeParts h e.clean).length).1 (writeTo image h e.clean (writeParts h e.clean).length).2).2.1), I 0, I (doneOut image e (writeTo image h e.clean (writeParts h e.clean).length).1 (writeTo image h e.clean (writeParts h e.clean).length).2).2.2]) ∧ H' = H) := by
  refine AC.enter Tryz.func18 rfl Tryz.ntmps18 rfl (fun I0 => ?_)
  have hdl : (e.data.length : Int) ≤ 128 := (by have := y1; unfold Entry.May at this; omega)
  have hee : entryErr e = 0 := if_pos y1
  have hhe : headErr h = 0 := if_pos y0
  have hsq : 1 ≤ e.seq ∧ e.seq ≤ 1099511627776 := ⟨y1.1, y1.2.1⟩
  refine AQ.seq ?_
  refine AQ.region ?_
  refine AQ.boxA (.plain rfl) rfl rfl (fun b1 => ?_)
  refine AQ.boxA (.plain rfl) rfl rfl (fun b2 => ?_)
  refine AQ.alloc (.plain rfl) zo41 rfl rfl (fun b3 => ?_)
  refine AQ.assign (.plain rfl) rfl rfl ?_
  refine AQ.assign (.plain rfl) rfl rfl ?_
  refine AQ.assign (.plain rfl) rfl rfl ?_
  refine AQ.nil ?_
  refine AQ.then_n ?_
  refine AQ.seq ?_
  refine AQ.seq ?_
  refine AQ.region ?_
  refine AQ.loadvA (.plain rfl) rfl 2 rfl rfl ag41 rfl rfl ?_
  refine AQ.callf (.plain rfl) rfl rfl en60 (headCheck _ _) ?_
  refine AQ.assign (.plain rfl) rfl rfl ?_
  refine AQ.nil ?_
  refine AQ.then_n ?_
  refine AQ.seq ?_
  refine AQ.region ?_
  refine AQ.move (.plain rfl) rfl rfl ?_
  refine AQ.neq (.plain rfl) rfl rfl rfl ?_
  refine AQ.nil ?_
  refine AQ.then_n ?_
  refine AQ.cond_d rfl (fun h4 => ?_) (fun h4 => ?_)
  · refine AQ.seq ?_
    refine AQ.region ?_
    omega
  · refine AQ.skip ?_
    refine AQ.then_n ?_
    refine AQ.seq ?_
    refine AQ.seq ?_
    refine AQ.region ?_
    refine AQ.loadvA (.plain rfl) rfl 1 rfl rfl ag43 rfl rfl ?_
    refine AQ.callf (.plain rfl) rfl rfl en61 (entryCheck _ _) ?_
    refine AQ.neq (.plain rfl) rfl rfl rfl ?_
    refine AQ.move (.plain rfl) rfl rfl ?_
    refine AQ.split (t := 26) rfl (fun h5 => ?_) (fun h5 => ?_)
    · refine AQ.off rfl rfl rfl rfl ?_
      refine AQ.off rfl rfl rfl rfl ?_
      refine AQ.off rfl rfl rfl rfl ?_
      refine AQ.off rfl rfl rfl rfl ?_
      refine AQ.off rfl rfl rfl rfl ?_
      refine AQ.pick_t (.plain rfl) rfl rfl rfl ?_
      refine AQ.nil ?_
      refine AQ.then_n ?_
      refine AQ.cond_t rfl ?_
      refine AQ.seq ?_
      refine AQ.region ?_
      omega
    · refine AQ.fieldv (.on rfl rfl rfl) rfl rfl fo43_0 rfl ?_
      refine AQ.loadv1 (.on rfl rfl rfl) rfl 1 rfl rfl ag3 rfl ?_
      refine AQ.fieldv (.on rfl rfl rfl) rfl rfl fo41_5 rfl ?_
      refine AQ.loadv1 (.on rfl rfl rfl) rfl 2 rfl rfl ag3 rfl ?_
      refine AQ.leq (.on rfl rfl rfl) rfl rfl rfl ?_
      refine AQ.pick_f (.plain rfl) rfl rfl rfl ?_
      refine AQ.nil ?_
      refine AQ.then_n ?_
      refine AQ.cond_d rfl (fun h6 => ?_) (fun h6 => ?_)
      · refine AQ.seq ?_
        refine AQ.region ?_
        omega
      · refine AQ.skip ?_
        refine AQ.then_n ?_
        refine AQ.seq ?_
        refine AQ.weaken (E' := [(0, _), (1, _), (2, _), (4, _), (5, _), (6, _), (7, _), (8, _), (9, _), (10, _), (20, _), (32, _)]) ⟨rfl, rfl, rfl, rfl, rfl, rfl, rfl, rfl, rfl, rfl, rfl, rfl, trivial⟩ ?_
        refine AQ.draw (F0 := _) [.fix none none _, .fix none none _, .fix none none _, ⟨some 4, none, [4], fun l => .box (l.headD xNone).1 135 (workCells h h e.clean (.slice none 0 0) (stepFn (capB (l.headD xNone).2 0) (capB (l.headD xNone).2 1) (capB (l.headD xNone).2 2) (capB (l.headD xNone).2 3)))⟩, .fix (some 4) none (.osl (.slice none 0 0) 53 2 []), ⟨some 4, none, [4], fun l => .box (capB (l.headD xNone).2 0) 51 [.sl 5 (opRows (aheadOf h e.clean))]⟩, ⟨some 4, none, [4], fun l => .box (capB (l.headD xNone).2 1) 43 e.clean.cells⟩, ⟨some 4, none, [4], fun l => .box (capB (l.headD xNone).2 2) 127 [.val (.pointer (some ⟨(l.headD xNone).1, 0, none⟩))]⟩, ⟨some 4, none, [4], fun l => .box (capB (l.headD xNone).2 3) 3 [I image]⟩] mixed rfl (
          .cons (.fix 34 [] [] [] _) (fun xs E' F Q' k => AQ.move (.plain rfl) rfl rfl (AQ.nil (k (0, undef)))) <|
          .cons (.fix 35 [] [] [2] _) (fun xs E' F Q' k => AQ.loadvA (.plain rfl) rfl 0 rfl rfl ag41 rfl rfl (AQ.nil (k (0, undef)))) <|
          .cons (.fix 36 [] [] [1] _) (fun xs E' F Q' k => AQ.loadvA (.plain rfl) rfl 0 rfl rfl ag43 rfl rfl (AQ.nil (k (0, undef)))) <|
          .cons (.fix 37 [2] [2] [] _) (fun xs E' F Q' k => AQ.callf (.plain rfl) rfl rfl en63 (entryClean e _ (by omega)) (AQ.nil (k (0, undef)))) <|
          .cons (.ptr 38 [0, 1, 2, 3] [0, 1, 3] [] 4 _) (fun xs E' F Q' k => AQ.callo (.plain rfl) rfl rfl en62 (planBegin image h e.clean _) (fun x7 => AQ.nil (k x7))) <|
          .cons (.ptr 11 [0, 1, 2, 3, 4] [4] [] 4 _) (fun xs E' F Q' k => AQ.assign (.plain rfl) rfl rfl (AQ.nil (k (0, undef)))) <|
          .nil) (by kernel_rfl) (by kernel_rfl) (fun x7 => ?_)
        refine AQ.eqH (H' := _ :: _ :: _ :: _ :: _ :: _ :: _ :: _ :: _ :: H) rfl ?_
        refine AQ.front 2 ?_
        refine AQ.dropN 1 ?_
        refine AQ.eqH (H' := _ :: _ :: _ :: _ :: _ :: _ :: _ :: _ :: H) rfl ?_
        refine AQ.front 1 ?_
        refine AQ.eqH (H' := _ :: _ :: _ :: _ :: _ :: _ :: _ :: _ :: H) rfl ?_
        refine AQ.front 7 ?_
        refine AQ.eqH (H' := _ :: _ :: _ :: _ :: _ :: _ :: _ :: _ :: H) rfl ?_
        refine AQ.front 7 ?_
        refine AQ.eqH (H' := _ :: _ :: _ :: _ :: _ :: _ :: _ :: _ :: H) rfl ?_
        refine AQ.front 7 ?_
        refine AQ.eqH (H' := _ :: _ :: _ :: _ :: _ :: _ :: _ :: _ :: H) rfl ?_
        refine AQ.front 7 ?_
        refine AQ.eqH (H' := _ :: _ :: _ :: _ :: _ :: _ :: _ :: _ :: H) rfl ?_
        refine AQ.front 7 ?_
        refine AQ.eqH (H' := _ :: _ :: _ :: _ :: _ :: _ :: _ :: _ :: H) rfl ?_
        refine AQ.front 7 ?_
        refine AQ.eqH (H' := _ :: _ :: _ :: _ :: _ :: _ :: _ :: _ :: H) rfl ?_
        refine AQ.eqH (H' := _ :: _ :: _ :: _ :: _ :: _ :: _ :: _ :: H) rfl ?_
        refine AQ.eqH (H' := .box (x7 4).1 135 (workCells h h e.clean (.slice none 0 0) (stepFn (capB (x7 4).2 0) (capB (x7 4).2 1) (capB (x7 4).2 2) (capB (x7 4).2 3))) :: .osl (.slice none 0 0) 53 2 (txnRows ([] : List Txn)) :: .box (capB (x7 4).2 0) 51 [.sl 5 (opRows (aheadOf h e.clean))] :: .box (capB (x7 4).2 1) 43 e.clean.cells :: .box (capB (x7 4).2 2) 127 [.val (.pointer (some ⟨(x7 4).1, 0, none⟩))] :: .box (capB (x7 4).2 3) 3 [I image] :: _ :: _ :: H) rfl ?_
        refine AQ.weaken (E' := [(0, I image), (5, .val (.pointer (some ⟨b2, 0, none⟩))), (6, .val (.pointer (some ⟨b3, 0, none⟩))), (7, .val (.slice none 0 0)), (8, I 0), (9, I 0), (11, .val (.pointer (some ⟨(x7 4).1, 0, none⟩)))]) ⟨rfl, rfl, rfl, rfl, rfl, rfl, rfl, trivial⟩ ?_
        generalize (x7 4) = x
        obtain ⟨b, fv⟩ := x
        dsimp only
        generalize capB fv 0 = ba
        generalize capB fv 1 = be
        generalize capB fv 2 = bw
        generalize capB fv 3 = bi
        refine AQ.then_n ?_
        refine AQ.seq ?_
        refine AQ.region ?_
        refine AQ.assign (.plain rfl) rfl rfl ?_
        refine AQ.nil ?_
        refine AQ.then_n ?_
        refine AQ.seq ?_
        refine AQ.region ?_
        refine AQ.assign (.plain rfl) rfl rfl ?_
        refine AQ.nil ?_
        refine AQ.then_n ?_
        refine AQ.seq ?_
        refine AQ.seq ?_
        refine AQ.region ?_
        refine AQ.fieldv (.plain rfl) rfl rfl fo43_2 rfl ?_
        refine AQ.loadv1 (.plain rfl) rfl 6 rfl rfl ag3 rfl ?_
        refine AQ.nil ?_
        refine AQ.then_n ?_
        refine AQ.block ?_
        refine AQ.seq ?_
        refine AQ.region ?_
        refine AQ.eql (.plain rfl) rfl rfl rfl ?_
        refine AQ.assign (.plain rfl) rfl rfl ?_
        refine AQ.nil ?_
        refine AQ.then_n ?_
        refine AQ.cond_d rfl (fun h8 => ?_) (fun h8 => ?_)
        · refine AQ.region ?_
          refine AQ.move (.plain rfl) rfl rfl ?_
          have hwo : writeOut image h e.clean = (0, writeTo image h e.clean (writeParts h e.clean).length) := if_neg (by omega)
          refine AQ.callo (.plain rfl) rfl rfl en64 (planWrite b ba be bw bi image h e.clean _ y0 y5.1 y5.2.1 y5.2.2) (fun v8 => ?_)
          rw [hwo]
          clear hwo
          have zl := writeTo_len image h e.clean (writeParts h e.clean).length
          generalize writeTo image h e.clean (writeParts h e.clean).length = gl at zl ⊢
          obtain ⟨g, l⟩ := gl
          dsimp only at zl ⊢
          refine AQ.assign (.plain rfl) rfl rfl ?_
          refine AQ.nil ?_
          refine AQ.block_n ?_
          refine AQ.then_n ?_
          refine AQ.seq ?_
          refine AQ.seq ?_
          refine AQ.region ?_
          refine AQ.move (.plain rfl) rfl rfl ?_
          refine AQ.neq (.plain rfl) rfl rfl rfl ?_
          refine AQ.nil ?_
          refine AQ.then_n ?_
          refine AQ.cond_d rfl (fun h9 => ?_) (fun h9 => ?_)
          · refine AQ.seq ?_
            refine AQ.region ?_
            omega
          · refine AQ.skip ?_
            refine AQ.then_n ?_
            refine AQ.seq ?_
            refine AQ.region ?_
            refine AQ.move (.plain rfl) rfl rfl ?_
            refine AQ.fieldv (.plain rfl) rfl rfl fo43_0 rfl ?_
            refine AQ.loadv1 (.plain rfl) rfl 6 rfl rfl ag3 rfl ?_
            refine AQ.nilCheck (.plain rfl) rfl rfl ?_
            refine AQ.fieldv (.plain rfl) rfl rfl fo135_1 rfl ?_
            refine AQ.fieldv (.plain rfl) rfl rfl fo41_5 rfl ?_
            refine AQ.storev1 (.plain rfl) rfl 0 rfl rfl (.val rfl) ag3 rfl ?_
            try simp only [List.set_cons_zero, List.set_cons_succ]
            refine AQ.nil ?_
            refine AQ.then_n ?_
            refine AQ.seq ?_
            refine AQ.region ?_
            refine AQ.move (.plain rfl) rfl rfl ?_
            refine AQ.nilCheck (.plain rfl) rfl rfl ?_
            refine AQ.fieldv (.plain rfl) rfl rfl fo135_1 rfl ?_
            refine AQ.loadvA (.plain rfl) rfl 0 rfl rfl ag41 rfl rfl ?_
            refine AQ.callf (.plain rfl) rfl rfl en70 (headPackS (g.setSeq e.seq) _) ?_
            refine AQ.assign (.plain rfl) rfl rfl ?_
            refine AQ.nil ?_
            refine AQ.then_n ?_
            refine AQ.seq ?_
            refine AQ.weaken (E' := [(0, _), (5, _), (6, _), (7, _), (8, _), (9, _), (11, _), (12, _), (13, _), (40, _), (41, _), (81, _), (14, _)]) ⟨rfl, rfl, rfl, rfl, rfl, rfl, rfl, rfl, rfl, rfl, rfl, rfl, rfl, trivial⟩ ?_
            refine AQ.draw (F0 := _) [.fix none none _, .fix none none _, .fix none none _, .fix none none _, .fix none none _, .fix none none _, .fix none none _, .fix none none _, .box (some 12) (some 13) 12 _ _, .box (some 13) none 12 _ _] mixed rfl (
              .cons (.fix 95 [] [] [] _) (fun xs E' F Q' k => AQ.move (.plain rfl) rfl rfl (AQ.nil (k (0, undef)))) <|
              .cons (.fix 96 [0] [0] [] _) (fun xs E' F Q' k => AQ.callf (.plain rfl) rfl rfl en29 (planHead _ _) (AQ.nil (k (0, undef)))) <|
              .cons (.fix 97 [] [] [] _) (fun xs E' F Q' k => AQ.fieldv (.plain rfl) rfl rfl fo43_0 rfl (AQ.nil (k (0, undef)))) <|
              .cons (.fix 98 [2] [2] [6] _) (fun xs E' F Q' k => AQ.loadv1 (.plain rfl) rfl 0 rfl rfl ag3 rfl (AQ.nil (k (0, undef)))) <|
              .cons (.fix 99 [2, 3] [3] [] (.agg (opBelow e.seq).cells)) (fun xs E' F Q' k => AQ.build (.plain rfl) rfl zo58 rfl pl58 (.one rfl (.val rfl) rfl rfl (.one rfl (.val rfl) rfl rfl .nil)) (AQ.cgA (m := Op.cells (opBelow e.seq)) (by repeat (first | exact ImpL.nil | apply ImpL.same | apply ImpL.sl0)) (AQ.nil (k (0, undef))))) <|
              .cons (.fix 100 [] [] [] _) (fun xs E' F Q' k => AQ.move (.plain rfl) rfl rfl (AQ.nil (k (0, undef)))) <|
              .cons (.fix 101 [5] [5] [] (.agg (opKey headKey' (packOf (g.setSeq e.seq))).cells)) (fun xs E' F Q' k => AQ.build (.plain rfl) rfl zo58 rfl pl58 (.one rfl (.val rfl) rfl rfl (.one rfl (.val rfl) rfl rfl (.one rfl .sl rfl rfl .nil))) (AQ.nil (k (0, undef)))) <|
              .cons (.fix 102 [] [] [] _) (fun xs E' F Q' k => AQ.fieldv (.plain rfl) rfl rfl fo43_0 rfl (AQ.nil (k (0, undef)))) <|
              .cons (.fix 103 [7] [7] [6] _) (fun xs E' F Q' k => AQ.loadv1 (.plain rfl) rfl 0 rfl rfl ag3 rfl (AQ.nil (k (0, undef)))) <|
              .cons (.fix 104 [7, 8] [8] [] (.agg (opSeq e.seq).cells)) (fun xs E' F Q' k => AQ.build (.plain rfl) rfl zo58 rfl pl58 (.one rfl (.val rfl) rfl rfl (.one rfl (.val rfl) rfl rfl .nil)) (AQ.cgA (m := Op.cells (opSeq e.seq)) (by repeat (first | exact ImpL.nil | apply ImpL.same | apply ImpL.sl0)) (AQ.nil (k (0, undef))))) <|
              .cons (.fix 105 [2, 3, 4, 5, 6, 7, 8, 9] [4, 6, 9] [] (.sl 5 (opRows [opBelow e.seq, opKey headKey' (packOf (g.setSeq e.seq)), opSeq e.seq]))) (fun xs E' F Q' k => AQ.buildSliceD (rows := [[_, _, _, _, _], [_, _, _, _, _], [_, _, _, _, _]]) (.plain rfl) rfl Tryz.underlying51 el58 zo58 rfl rfl rfl (.agg rfl rfl rfl (.agg rfl rfl rfl (.agg rfl rfl rfl .nil))) rfl rfl (by simp) (AQ.nil (k (0, undef)))) <|
              .cons (.fix 106 [0, 1, 2, 3, 4, 5, 6, 7, 8, 9, 10] [1, 10] [] (.agg (Txn.cells (lastTxn image e (packOf (g.setSeq e.seq)))))) (fun xs E' F Q' k => AQ.build (.plain rfl) rfl zo53 rfl pl53 (.one rfl (.val rfl) rfl rfl (.one rfl .sl rfl rfl .nil)) (AQ.nil (k (0, undef)))) <|
              .cons (.ptr 15 [] [] [] 12 _) (fun xs E' F Q' k => AQ.alloc (.plain rfl) zo53 rfl rfl (fun b11 => AQ.nil (k (b11, undef)))) <|
              .cons (.fix0 [0, 1, 2, 3, 4, 5, 6, 7, 8, 9, 10, 11, 12] [11, 12] [8]) (fun xs E' F Q' k => AQ.storevA (.plain rfl) rfl 0 rfl rfl ag53 rfl rfl (AQ.nil (k (0, undef)))) <|
              .nil) (by kernel_rfl) (by kernel_rfl) (fun x12 => ?_)
            refine AQ.eqH (H' := _ :: _ :: _ :: _ :: _ :: _ :: _ :: _ :: _ :: H) rfl ?_
            refine AQ.then_n ?_
            refine AQ.seq ?_
            refine AQ.region ?_
            refine AQ.move (.plain rfl) rfl rfl ?_
            refine AQ.callf (.plain rfl) rfl rfl en71 (headUnpack_ (packOf (g.setSeq e.seq)) _ (by have := packOf_len (g.setSeq e.seq); omega)) ?_
            refine AQ.move (.plain rfl) rfl rfl ?_
            refine AQ.extract (.plain rfl) rfl rfl rfl ?_
            refine AQ.extract (.plain rfl) rfl rfl rfl ?_
            refine AQ.alloc (.plain rfl) zo41 rfl rfl (fun b13 => ?_)
            refine AQ.storevA (.plain rfl) rfl 0 rfl rfl ag41 rfl rfl ?_
            try simp only [List.set_cons_zero, List.set_cons_succ]
            refine AQ.assign (.plain rfl) rfl rfl ?_
            refine AQ.nil ?_
            refine AQ.then_n ?_
            refine AQ.seq ?_
            refine AQ.weaken (E' := [(0, _), (5, _), (6, _), (11, _), (12, _), (13, _), (40, _), (41, _), (81, _), (14, _), (15, _), (16, _)]) ⟨rfl, rfl, rfl, rfl, rfl, rfl, rfl, rfl, rfl, rfl, rfl, rfl, trivial⟩ ?_
            refine AQ.draw (F0 := _) [.fix none none _, .fix none none _, .fix none (some 7) _, .fix none none _, .fix none none _, .fix none none _, .fix none none _, .fix none none _, .fix none (some 10) _, .fix none none _, .osl (some 6) none 6 _ _ _, .osl (some 7) none 7 _ _ _, .fix (some 10) none _] mixed rfl (
              .cons (.fix 112 [] [] [0] _) (fun xs E' F Q' k => AQ.loadvA (.plain rfl) rfl 0 rfl rfl ag41 rfl rfl (AQ.nil (k (0, undef)))) <|
              .cons (.fix 113 [] [] [] _) (fun xs E' F Q' k => AQ.move (.plain rfl) rfl rfl (AQ.nil (k (0, undef)))) <|
              .cons (.fix 114 [1] [1] [] _) (fun xs E' F Q' k => AQ.nilCheck (.plain rfl) rfl rfl (AQ.nil (k (0, undef)))) <|
              .cons (.fix 115 [1, 2] [2] [] _) (fun xs E' F Q' k => AQ.fieldv (.plain rfl) rfl rfl fo135_3 rfl (AQ.nil (k (0, undef)))) <|
              .cons (.fix 116 [1, 2, 3] [3] [1] _) (fun xs E' F Q' k => AQ.loadv1 (.plain rfl) rfl 0 rfl rfl ag22 rfl (AQ.nil (k (0, undef)))) <|
              .cons (.fix 117 [] [] [9] _) (fun xs E' F Q' k => AQ.loadvA (.plain rfl) rfl 0 rfl rfl ag53 rfl rfl (AQ.nil (k (0, undef)))) <|
              .cons (.own 118 [5] [5] [] 6) (fun xs E' F Q' k => AQ.buildSlice (rows := [[_, _]]) (.plain rfl) rfl Tryz.underlying22 el53 zo53 rfl rfl rfl (.agg rfl rfl rfl .nil) rfl rfl (by simp) (fun u14 => AQ.nil (k (0, u14)))) <|
              .cons (.own 119 [1, 2, 3, 4, 5, 6] [4, 6] [10, 2] 7) (fun xs E' F Q' k => AQ.append (.plain rfl) rfl 1 rfl (.osl rfl 0 rfl) rfl Tryz.underlying22 el53 rfl rfl (by simp only [List.length_cons, List.length_nil, List.length_map, List.length_append, List.length_range]; omega) (fun v15 => AQ.nil (k (0, v15)))) <|
              .cons (.fix 120 [] [] [] _) (fun xs E' F Q' k => AQ.move (.plain rfl) rfl rfl (AQ.nil (k (0, undef)))) <|
              .cons (.fix 121 [] [] [] _) (fun xs E' F Q' k => AQ.move (.plain rfl) rfl rfl (AQ.nil (k (0, undef)))) <|
              .cons (.fix0 [0, 1, 2, 3, 4, 5, 6, 7] [0] [8]) (fun xs E' F Q' k => AQ.storevA (.plain rfl) rfl 0 rfl rfl ag41 rfl rfl (AQ.nil (k (0, undef)))) <|
              .cons (.own 7 [0, 1, 2, 3, 4, 5, 6, 7, 10] [7] [] 7) (fun xs E' F Q' k => AQ.assign (.plain rfl) rfl rfl (AQ.nil (k (0, undef)))) <|
              .cons (.fix 8 [0, 1, 2, 3, 4, 5, 6, 7, 8, 10, 11] [8] [] _) (fun xs E' F Q' k => AQ.assign (.plain rfl) rfl rfl (AQ.nil (k (0, undef)))) <|
              .cons (.fix 9 [0, 1, 2, 3, 4, 5, 6, 7, 8, 9, 10, 11, 12] [9] [] _) (fun xs E' F Q' k => AQ.assign (.plain rfl) rfl rfl (AQ.nil (k (0, undef)))) <|
              .nil) (by kernel_rfl) (by kernel_rfl) (fun x16 => ?_)
            refine AQ.eqH (H' := _ :: _ :: _ :: _ :: _ :: _ :: _ :: _ :: _ :: _ :: _ :: H) rfl ?_
            refine AQ.then_n ?_
            refine AQ.ret ?_
            refine AQ.oslR 9 rfl (show _ = txnRows (l ++ [(lastTxn image e (packOf (g.setSeq e.seq)))]) by simp) ?_
            try simp only [List.set_cons_zero, List.set_cons_succ]
            refine AQ.freeze 9 rfl (fun J17 hJ17 hp17 => ?_)
            refine AQ.as (t := 7) rfl hp17 ?_
            refine AQ.dropN 1 ?_
            refine AQ.dropN 1 ?_
            refine AQ.eqH (H' := _ :: _ :: _ :: _ :: _ :: _ :: _ :: _ :: H) rfl ?_
            refine AQ.dropN 1 ?_
            refine AQ.eqH (H' := _ :: _ :: _ :: _ :: _ :: _ :: _ :: H) rfl ?_
            refine AQ.dropN 1 ?_
            refine AQ.eqH (H' := _ :: _ :: _ :: _ :: _ :: _ :: H) rfl ?_
            refine AQ.dropN 1 ?_
            refine AQ.eqH (H' := _ :: _ :: _ :: _ :: _ :: H) rfl ?_
            refine AQ.dropN 1 ?_
            refine AQ.eqH (H' := _ :: _ :: _ :: _ :: H) rfl ?_
            refine AQ.dropN 1 ?_
            refine AQ.eqH (H' := _ :: _ :: _ :: H) rfl ?_
            refine AQ.dropN 1 ?_
            refine AQ.eqH (H' := _ :: _ :: H) rfl ?_
            refine AQ.dropN 1 ?_
            refine AQ.eqH (H' := _ :: H) rfl ?_
            refine AQ.eqH (H' := _ :: H) rfl ?_
            exact AQ.doneC (H' := H) hJ17 Tryz.results18 (.cellA 0 rfl rfl ag41 rfl (.tmp rfl (.tmp rfl (.tmp rfl .nil)))) 1 rfl ⟨rfl, rfl⟩
        · refine AQ.seq ?_
          refine AQ.region ?_
          omega
end Go.Fx
set_option linter.unusedVariables false
set_option linter.unusedSimpArgs false
set_option maxRecDepth 100000
namespace Go.Fx
open Go Go.Proofs
theorem awakeDo (H : List HA) : AC Tryz.prog 18 [I 3, .agg h0.cells, .agg e0.cells] H (fun r H' => r = .tup [.agg g2.cells, .sl 2 (txnRows [t1, t2, t3]), I 0, I 0] ∧ H' = H) := by
  have h := planDoW 3 h0 e0 H h0_may e0_may (by decide) rfl (by decide) (by decide)
  rw [e0_clean, do0] at h
  dsimp only at h
  rw [done0] at h
  exact h

theorem awakeC  (H : List HA)  : AC Tryz.prog 16 [] (H) (fun r' H' => r' = (.val (.bool true)) ∧ H' = H) := by
  refine AC.enter Tryz.func16 rfl Tryz.ntmps16 rfl (fun I0 => ?_)
  refine AQ.seq ?_
  refine AQ.region ?_
  refine AQ.assign (.plain rfl) rfl rfl ?_
  refine AQ.nil ?_
  refine AQ.then_n ?_
  refine AQ.seq ?_
  refine AQ.region ?_
  refine AQ.build (.plain rfl) rfl zo37 rfl pl37 (.one rfl (.val rfl) rfl rfl (.one rfl (.val rfl) rfl rfl (.one rfl (.val rfl) rfl rfl .nil))) ?_
  refine AQ.build (.plain rfl) rfl zo41 rfl pl41 (.agg rfl rfl rfl (.one rfl (.val rfl) rfl rfl .nil)) ?_
  refine AQ.alloc (.plain rfl) zo41 rfl rfl (fun b1 => ?_)
  refine AQ.storevA (.plain rfl) rfl 0 rfl rfl ag41 rfl rfl ?_
  try simp only [List.set_cons_zero, List.set_cons_succ]
  refine AQ.nil ?_
  refine AQ.then_n ?_
  refine AQ.seq ?_
  refine AQ.region ?_
  refine AQ.loadvA (.plain rfl) rfl 0 rfl rfl ag41 rfl rfl ?_
  refine AQ.aggW (t := 13) (m := h0.cells) rfl (by repeat (first | exact ImpL.nil | apply ImpL.same | apply ImpL.sl0)) ?_
  refine AQ.buildSlice (rows := [[_], [_], [_]]) (.plain rfl) rfl Tryz.underlying28 el5 zo5 rfl rfl rfl (.one rfl (.val rfl) rfl rfl (.one rfl (.val rfl) rfl rfl (.one rfl (.val rfl) rfl rfl .nil))) rfl rfl (by simp) (fun u2 => ?_)
  refine AQ.convMark (.plain rfl) rfl 0 rfl rfl Tryz.underlying28 Tryz.underlying5 (by simp) ?_
  refine AQ.build (.plain rfl) rfl zo43 rfl pl43 (.one rfl (.val rfl) rfl rfl (.one rfl (.val rfl) rfl rfl (.one rfl (.val rfl) rfl rfl (.one rfl .sl rfl rfl .nil)))) ?_
  refine AQ.aggW (t := 16) (m := e0.cells) rfl (by repeat (first | exact ImpL.nil | apply ImpL.same | apply ImpL.sl0)) ?_
  refine AQ.callf (.plain rfl) rfl rfl en18 (awakeDo _) ?_
  refine AQ.move (.plain rfl) rfl rfl ?_
  refine AQ.extract (.plain rfl) rfl rfl rfl ?_
  refine AQ.extract (.plain rfl) rfl rfl rfl ?_
  refine AQ.extract (.plain rfl) rfl rfl rfl ?_
  refine AQ.extract (.plain rfl) rfl rfl rfl ?_
  refine AQ.alloc (.plain rfl) zo41 rfl rfl (fun b3 => ?_)
  refine AQ.storevA (.plain rfl) rfl 0 rfl rfl ag41 rfl rfl ?_
  try simp only [List.set_cons_zero, List.set_cons_succ]
  refine AQ.assign (.plain rfl) rfl rfl ?_
  refine AQ.assign (.plain rfl) rfl rfl ?_
  refine AQ.assign (.plain rfl) rfl rfl ?_
  refine AQ.nil ?_
  refine AQ.then_n ?_
  refine AQ.seq ?_
  refine AQ.seq ?_
  refine AQ.region ?_
  refine AQ.move (.plain rfl) rfl rfl ?_
  refine AQ.neq (.plain rfl) rfl rfl rfl ?_
  refine AQ.cgv (dec_f (by decide)) ?_
  refine AQ.move (.plain rfl) rfl rfl ?_
  refine AQ.move (.on rfl rfl rfl) rfl rfl ?_
  refine AQ.lenz (.on rfl rfl rfl) (.sl rfl) rfl Tryz.underlying22 (by first | (simp only [List.length_map]; done) | (simp only [List.length_map]; rfl) | rfl) ?_
  refine AQ.neq (.on rfl rfl rfl) rfl rfl rfl ?_
  refine AQ.cgv (dec_f (by decide)) ?_
  refine AQ.pick_f (.plain rfl) rfl rfl rfl ?_
  refine AQ.move (.plain rfl) rfl rfl ?_
  refine AQ.move (.on rfl rfl rfl) rfl rfl ?_
  refine AQ.indexAddr (.on rfl rfl rfl) rfl rfl rfl Tryz.underlying22 ag53 (by omega) rfl ?_
  refine AQ.fieldAddr (.on rfl rfl rfl) rfl rfl fo53_1 rfl ?_
  refine AQ.load1 (.on rfl rfl rfl) rfl rfl ag51 rfl ?_
  refine AQ.lenz (.on rfl rfl rfl) (.sl rfl) rfl Tryz.underlying51 (by first | (simp only [List.length_map]; done) | (simp only [List.length_map]; rfl) | rfl) ?_
  refine AQ.neq (.on rfl rfl rfl) rfl rfl rfl ?_
  refine AQ.cgv (dec_f (by decide)) ?_
  refine AQ.pick_f (.plain rfl) rfl rfl rfl ?_
  refine AQ.move (.plain rfl) rfl rfl ?_
  refine AQ.move (.on rfl rfl rfl) rfl rfl ?_
  refine AQ.indexAddr (.on rfl rfl rfl) rfl rfl rfl Tryz.underlying22 ag53 (by omega) rfl ?_
  refine AQ.fieldAddr (.on rfl rfl rfl) rfl rfl fo53_1 rfl ?_
  refine AQ.load1 (.on rfl rfl rfl) rfl rfl ag51 rfl ?_
  refine AQ.lenz (.on rfl rfl rfl) (.sl rfl) rfl Tryz.underlying51 (by first | (simp only [List.length_map]; done) | (simp only [List.length_map]; rfl) | rfl) ?_
  refine AQ.neq (.on rfl rfl rfl) rfl rfl rfl ?_
  refine AQ.cgv (dec_f (by decide)) ?_
  refine AQ.pick_f (.plain rfl) rfl rfl rfl ?_
  refine AQ.nil ?_
  refine AQ.then_n ?_
  refine AQ.cond_f rfl ?_
  refine AQ.skip ?_
  refine AQ.then_n ?_
  refine AQ.seq ?_
  refine AQ.region ?_
  refine AQ.move (.plain rfl) rfl rfl ?_
  refine AQ.indexAddr (.plain rfl) rfl rfl rfl Tryz.underlying22 ag53 (by omega) rfl ?_
  refine AQ.fieldAddr (.plain rfl) rfl rfl fo53_1 rfl ?_
  refine AQ.load1 (.plain rfl) rfl rfl ag51 rfl ?_
  refine AQ.indexAddr (.plain rfl) rfl rfl rfl Tryz.underlying51 ag58 (by omega) rfl ?_
  refine AQ.loadA (.plain rfl) rfl rfl ag58 rfl rfl ?_
  refine AQ.alloc (.plain rfl) zo58 rfl rfl (fun b4 => ?_)
  refine AQ.storevA (.plain rfl) rfl 0 rfl rfl ag58 rfl rfl ?_
  try simp only [List.set_cons_zero, List.set_cons_succ]
  refine AQ.nil ?_
  refine AQ.then_n ?_
  refine AQ.seq ?_
  refine AQ.region ?_
  refine AQ.move (.plain rfl) rfl rfl ?_
  refine AQ.indexAddr (.plain rfl) rfl rfl rfl Tryz.underlying22 ag53 (by omega) rfl ?_
  refine AQ.fieldAddr (.plain rfl) rfl rfl fo53_1 rfl ?_
  refine AQ.load1 (.plain rfl) rfl rfl ag51 rfl ?_
  refine AQ.indexAddr (.plain rfl) rfl rfl rfl Tryz.underlying51 ag58 (by omega) rfl ?_
  refine AQ.loadA (.plain rfl) rfl rfl ag58 rfl rfl ?_
  refine AQ.alloc (.plain rfl) zo58 rfl rfl (fun b5 => ?_)
  refine AQ.storevA (.plain rfl) rfl 0 rfl rfl ag58 rfl rfl ?_
  try simp only [List.set_cons_zero, List.set_cons_succ]
  refine AQ.nil ?_
  refine AQ.then_n ?_
  refine AQ.seq ?_
  refine AQ.region ?_
  refine AQ.loadvA (.plain rfl) rfl 3 rfl rfl ag41 rfl rfl ?_
  refine AQ.aggW (t := 58) (m := h0.cells) rfl (by repeat (first | exact ImpL.nil | apply ImpL.same | apply ImpL.sl0)) ?_
  refine AQ.callf (.plain rfl) rfl rfl en22 (planCreateY 3 h0 _ h0_may) ?_
  refine AQ.move (.plain rfl) rfl rfl ?_
  refine AQ.extract (.plain rfl) rfl rfl rfl ?_
  refine AQ.extract (.plain rfl) rfl rfl rfl ?_
  refine AQ.alloc (.plain rfl) zo53 rfl rfl (fun b6 => ?_)
  refine AQ.storevA (.plain rfl) rfl 0 rfl rfl ag53 rfl rfl ?_
  try simp only [List.set_cons_zero, List.set_cons_succ]
  refine AQ.assign (.plain rfl) rfl rfl ?_
  refine AQ.nil ?_
  refine AQ.then_n ?_
  refine AQ.seq ?_
  refine AQ.region ?_
  refine AQ.move (.plain rfl) rfl rfl ?_
  refine AQ.indexAddr (.plain rfl) rfl rfl rfl Tryz.underlying22 ag53 (by omega) rfl ?_
  refine AQ.fieldAddr (.plain rfl) rfl rfl fo53_0 rfl ?_
  refine AQ.load1 (.plain rfl) rfl rfl ag9 rfl ?_
  refine AQ.eqsB (.plain rfl) rfl rfl rfl ?_
  refine AQ.cgv (dec_t (by decide)) ?_
  refine AQ.move (.plain rfl) rfl rfl ?_
  refine AQ.fieldv (.on rfl rfl rfl) rfl rfl fo58_1 rfl ?_
  refine AQ.loadv1 (.on rfl rfl rfl) rfl 2 rfl rfl ag3 rfl ?_
  refine AQ.eql (.on rfl rfl rfl) rfl rfl rfl ?_
  refine AQ.cgv (dec_t (by decide)) ?_
  refine AQ.pick_t (.plain rfl) rfl rfl rfl ?_
  refine AQ.move (.plain rfl) rfl rfl ?_
  refine AQ.fieldv (.on rfl rfl rfl) rfl rfl fo58_4 rfl ?_
  refine AQ.loadv1 (.on rfl rfl rfl) rfl 2 rfl rfl ag28 rfl ?_
  refine AQ.convB (.on rfl rfl rfl) (.sl rfl) rfl Tryz.underlying28 Tryz.underlying5 Tryz.underlying9 ?_
  refine AQ.eqsB (.on rfl rfl rfl) rfl rfl rfl ?_
  refine AQ.cgv (dec_t (by decide)) ?_
  refine AQ.pick_t (.plain rfl) rfl rfl rfl ?_
  refine AQ.move (.plain rfl) rfl rfl ?_
  refine AQ.move (.on rfl rfl rfl) rfl rfl ?_
  refine AQ.indexAddr (.on rfl rfl rfl) rfl rfl rfl Tryz.underlying22 ag53 (by omega) rfl ?_
  refine AQ.fieldAddr (.on rfl rfl rfl) rfl rfl fo53_0 rfl ?_
  refine AQ.load1 (.on rfl rfl rfl) rfl rfl ag9 rfl ?_
  refine AQ.eqsB (.on rfl rfl rfl) rfl rfl rfl ?_
  refine AQ.cgv (dec_t (by decide)) ?_
  refine AQ.pick_t (.plain rfl) rfl rfl rfl ?_
  refine AQ.move (.plain rfl) rfl rfl ?_
  refine AQ.fieldv (.on rfl rfl rfl) rfl rfl fo58_1 rfl ?_
  refine AQ.loadv1 (.on rfl rfl rfl) rfl 1 rfl rfl ag3 rfl ?_
  refine AQ.eql (.on rfl rfl rfl) rfl rfl rfl ?_
  refine AQ.cgv (dec_t (by decide)) ?_
  refine AQ.pick_t (.plain rfl) rfl rfl rfl ?_
  refine AQ.move (.plain rfl) rfl rfl ?_
  refine AQ.fieldv (.on rfl rfl rfl) rfl rfl fo58_4 rfl ?_
  refine AQ.loadv1 (.on rfl rfl rfl) rfl 1 rfl rfl ag28 rfl ?_
  refine AQ.convB (.on rfl rfl rfl) (.sl rfl) rfl Tryz.underlying28 Tryz.underlying5 Tryz.underlying9 ?_
  refine AQ.eqsB (.on rfl rfl rfl) rfl rfl rfl ?_
  refine AQ.cgv (dec_t (by decide)) ?_
  refine AQ.pick_t (.plain rfl) rfl rfl rfl ?_
  refine AQ.move (.plain rfl) rfl rfl ?_
  refine AQ.move (.on rfl rfl rfl) rfl rfl ?_
  refine AQ.indexAddr (.on rfl rfl rfl) rfl rfl rfl Tryz.underlying22 ag53 (by omega) rfl ?_
  refine AQ.fieldAddr (.on rfl rfl rfl) rfl rfl fo53_0 rfl ?_
  refine AQ.load1 (.on rfl rfl rfl) rfl rfl ag9 rfl ?_
  refine AQ.eqsB (.on rfl rfl rfl) rfl rfl rfl ?_
  refine AQ.cgv (dec_t (by decide)) ?_
  refine AQ.pick_t (.plain rfl) rfl rfl rfl ?_
  refine AQ.move (.plain rfl) rfl rfl ?_
  refine AQ.fieldv (.on rfl rfl rfl) rfl rfl fo41_5 rfl ?_
  refine AQ.loadv1 (.on rfl rfl rfl) rfl 3 rfl rfl ag3 rfl ?_
  refine AQ.eql (.on rfl rfl rfl) rfl rfl rfl ?_
  refine AQ.cgv (dec_t (by decide)) ?_
  refine AQ.pick_t (.plain rfl) rfl rfl rfl ?_
  refine AQ.move (.plain rfl) rfl rfl ?_
  refine AQ.fieldv (.on rfl rfl rfl) rfl rfl fo41_2 rfl ?_
  refine AQ.loadv1 (.on rfl rfl rfl) rfl 3 rfl rfl ag38 rfl ?_
  refine AQ.lenz (.on rfl rfl rfl) (.sl rfl) rfl Tryz.underlying38 (by first | (simp only [List.length_map]; done) | (simp only [List.length_map]; rfl) | rfl) ?_
  refine AQ.eql (.on rfl rfl rfl) rfl rfl rfl ?_
  refine AQ.cgv (dec_t (by decide)) ?_
  refine AQ.pick_t (.plain rfl) rfl rfl rfl ?_
  refine AQ.move (.plain rfl) rfl rfl ?_
  refine AQ.move (.on rfl rfl rfl) rfl rfl ?_
  refine AQ.eql (.on rfl rfl rfl) rfl rfl rfl ?_
  refine AQ.cgv (dec_t (by decide)) ?_
  refine AQ.pick_t (.plain rfl) rfl rfl rfl ?_
  refine AQ.move (.plain rfl) rfl rfl ?_
  refine AQ.fieldv (.on rfl rfl rfl) rfl rfl fo53_0 rfl ?_
  refine AQ.loadv1 (.on rfl rfl rfl) rfl 0 rfl rfl ag9 rfl ?_
  refine AQ.eqsB (.on rfl rfl rfl) rfl rfl rfl ?_
  refine AQ.cgv (dec_t (by decide)) ?_
  refine AQ.pick_t (.plain rfl) rfl rfl rfl ?_
  refine AQ.move (.plain rfl) rfl rfl ?_
  refine AQ.callf (.on rfl rfl rfl) rfl rfl en30 (planMark _ _) ?_
  refine AQ.eqsB (.on rfl rfl rfl) rfl rfl rfl ?_
  refine AQ.cgv (dec_t (by decide)) ?_
  refine AQ.pick_t (.plain rfl) rfl rfl rfl ?_
  refine AQ.assign (.plain rfl) rfl rfl ?_
  refine AQ.nil ?_
  refine AQ.then_n ?_
  refine AQ.ret ?_
  refine AQ.dropN 1 ?_
  refine AQ.dropN 1 ?_
  refine AQ.dropN 1 ?_
  refine AQ.dropN 1 ?_
  refine AQ.dropN 1 ?_
  refine AQ.eqH (H' := H) rfl ?_
  exact AQ.done1 (Imm.le_refl _) Tryz.results16 rfl ⟨rfl, rfl⟩
end Go.Fx
set_option linter.unusedVariables false
set_option linter.unusedSimpArgs false
set_option maxRecDepth 100000
namespace Go.Fx
open Go Go.Proofs
theorem ref06PackD (h : Head) (H : List HA) (hm : h.May) : AC Tryz.prog 25 [.agg h.cells] H (fun r H' => r = .sl 1 (byteRows (headB h)) ∧ H' = H) := by
  have := (ref06Pack h H).data
  rw [if_pos hm] at this
  exact this

theorem namesY (image n : Int) (h : Head) (H : List HA) (y0 : h.May) : AC Tryz.prog 5 [I image, I n, .agg h.cells] (H) (fun r' H' => r' = (.val (.bool true)) ∧ H' = H) := by
  refine AC.enter Tryz.func5 rfl Tryz.ntmps5 rfl (fun I0 => ?_)
  refine AQ.seq ?_
  refine AQ.region ?_
  refine AQ.boxA (.plain rfl) rfl rfl (fun b1 => ?_)
  refine AQ.assign (.plain rfl) rfl rfl ?_
  refine AQ.nil ?_
  refine AQ.then_n ?_
  refine AQ.seq ?_
  refine AQ.region ?_
  refine AQ.callf (.plain rfl) rfl rfl en16 (awakeC _) ?_
  refine AQ.assign (.plain rfl) rfl rfl ?_
  refine AQ.nil ?_
  refine AQ.then_n ?_
  refine AQ.seq ?_
  refine AQ.seq ?_
  refine AQ.region ?_
  refine AQ.move (.plain rfl) rfl rfl ?_
  refine AQ.not (.plain rfl) rfl rfl ?_
  refine AQ.nil ?_
  refine AQ.then_n ?_
  refine AQ.cond_f rfl ?_
  refine AQ.skip ?_
  refine AQ.then_n ?_
  refine AQ.seq ?_
  refine AQ.region ?_
  refine AQ.loadvA (.plain rfl) rfl 0 rfl rfl ag41 rfl rfl ?_
  refine AQ.callf (.plain rfl) rfl rfl en17 (law19few _ _) ?_
  refine AQ.assign (.plain rfl) rfl rfl ?_
  refine AQ.nil ?_
  refine AQ.then_n ?_
  refine AQ.seq ?_
  refine AQ.seq ?_
  refine AQ.region ?_
  refine AQ.move (.plain rfl) rfl rfl ?_
  refine AQ.not_d (.plain rfl) rfl rfl ?_
  refine AQ.nil ?_
  refine AQ.then_n ?_
  refine AQ.cond_d rfl (fun h2 => ?_) (fun h2 => ?_)
  · refine AQ.seq ?_
    refine AQ.region ?_
    refine AQ.assign (.plain rfl) rfl rfl ?_
    refine AQ.nil ?_
    refine AQ.then_n ?_
    refine AQ.ret ?_
    refine AQ.then_r ?_
    refine AQ.dropN 1 ?_
    refine AQ.eqH (H' := H) rfl ?_
    exact AQ.done1 (Imm.le_refl _) Tryz.results5 rfl ⟨rfl, rfl⟩
  · refine AQ.skip ?_
    refine AQ.then_n ?_
    refine AQ.seq ?_
    refine AQ.region ?_
    refine AQ.move (.plain rfl) rfl rfl ?_
    refine AQ.loadvA (.plain rfl) rfl 0 rfl rfl ag41 rfl rfl ?_
    refine AQ.callf (.plain rfl) rfl rfl en22 (planCreateY image h _ y0) ?_
    refine AQ.move (.plain rfl) rfl rfl ?_
    refine AQ.extract (.plain rfl) rfl rfl rfl ?_
    refine AQ.extract (.plain rfl) rfl rfl rfl ?_
    refine AQ.alloc (.plain rfl) zo53 rfl rfl (fun b3 => ?_)
    refine AQ.storevA (.plain rfl) rfl 0 rfl rfl ag53 rfl rfl ?_
    try simp only [List.set_cons_zero, List.set_cons_succ]
    refine AQ.assign (.plain rfl) rfl rfl ?_
    refine AQ.nil ?_
    refine AQ.then_n ?_
    refine AQ.seq ?_
    refine AQ.seq ?_
    refine AQ.region ?_
    refine AQ.loadvA (.plain rfl) rfl 1 rfl rfl ag41 rfl rfl ?_
    refine AQ.callf (.plain rfl) rfl rfl en23 (ref06May _ _) ?_
    refine AQ.cgv (dec_t y0) ?_
    refine AQ.move (.plain rfl) rfl rfl ?_
    refine AQ.eql (.plain rfl) rfl rfl rfl ?_
    refine AQ.cgv (dec_t (by decide)) ?_
    refine AQ.bneq (.plain rfl) rfl rfl rfl Tryz.underlying4 ?_
    refine AQ.move (.plain rfl) rfl rfl ?_
    refine AQ.move (.on rfl rfl rfl) rfl rfl ?_
    refine AQ.neq (.on rfl rfl rfl) rfl rfl rfl ?_
    refine AQ.cgv (dec_f (by decide)) ?_
    refine AQ.move (.on rfl rfl rfl) rfl rfl ?_
    refine AQ.off rfl rfl rfl rfl ?_
    refine AQ.off rfl rfl rfl rfl ?_
    refine AQ.pick_f (.on rfl rfl rfl) rfl rfl rfl ?_
    refine AQ.pick_f (.plain rfl) rfl rfl rfl ?_
    refine AQ.nil ?_
    refine AQ.then_n ?_
    refine AQ.cond_f rfl ?_
    refine AQ.skip ?_
    refine AQ.then_n ?_
    refine AQ.seq ?_
    refine AQ.region ?_
    refine AQ.build (.plain rfl) rfl zo53 rfl pl53 .nil ?_
    refine AQ.alloc (.plain rfl) zo53 rfl rfl (fun b4 => ?_)
    refine AQ.storevA (.plain rfl) rfl 0 rfl rfl ag53 rfl rfl ?_
    try simp only [List.set_cons_zero, List.set_cons_succ]
    refine AQ.nil ?_
    refine AQ.then_n ?_
    refine AQ.seq ?_
    refine AQ.seq ?_
    refine AQ.region ?_
    refine AQ.move (.plain rfl) rfl rfl ?_
    refine AQ.eql (.plain rfl) rfl rfl rfl ?_
    refine AQ.cgv (dec_t (by decide)) ?_
    refine AQ.nil ?_
    refine AQ.then_n ?_
    refine AQ.cond_t rfl ?_
    refine AQ.weaken (E' := [(0, _), (1, _), (2, _), (5, _), (6, _), (7, _), (14, _), (8, _), (18, _), (9, _), (10, _), (37, _), (11, _), (40, _)]) ⟨rfl, rfl, rfl, rfl, rfl, rfl, rfl, rfl, rfl, rfl, rfl, rfl, rfl, rfl, trivial⟩ ?_
    refine AQ.draw (F0 := _) [.fix none (some 8) _, .fix none none _, .fix none none _, .fix (some 8) none _] mixed rfl (
      .cons (.fix 41 [] [] [] _) (fun xs E' F Q' k => AQ.move (.plain rfl) rfl rfl (AQ.nil (k (0, undef)))) <|
      .cons (.fix 42 [0] [0] [] _) (fun xs E' F Q' k => AQ.callf (.plain rfl) rfl rfl en24 (ref19Head _ _) (AQ.nil (k (0, undef)))) <|
      .cons (.fix 43 [] [] [] (.agg (Op.cells ⟨2, 0, 0, [], []⟩))) (fun xs E' F Q' k => AQ.build (.plain rfl) rfl zo58 rfl pl58 (.one rfl (.val rfl) rfl rfl .nil) (AQ.cgA (m := Op.cells ⟨2, 0, 0, [], []⟩) (by repeat (first | exact ImpL.nil | apply ImpL.same | apply ImpL.sl0)) (AQ.nil (k (0, undef))))) <|
      .cons (.fix 44 [] [] [2] _) (fun xs E' F Q' k => AQ.loadvA (.plain rfl) rfl 0 rfl rfl ag41 rfl rfl (AQ.nil (k (0, undef)))) <|
      .cons (.fix 45 [0, 1, 3] [3] [] _) (fun xs E' F Q' k => AQ.callf (.plain rfl) rfl rfl en25 (ref06PackD h _ y0) (AQ.nil (k (0, undef)))) <|
      .cons (.fix 46 [0, 1, 3, 4] [4] [] (.agg (Op.cells ⟨9, 0, 0, headKey, headB h⟩))) (fun xs E' F Q' k => AQ.build (.plain rfl) rfl zo58 rfl pl58 (.one rfl (.val rfl) rfl rfl (.one rfl (.val rfl) rfl rfl (.one rfl .sl rfl rfl .nil))) (AQ.nil (k (0, undef)))) <|
      .cons (.fix 47 [0, 1, 2, 3, 4, 5] [2, 5] [] (.sl 5 (opRows [⟨2, 0, 0, [], []⟩, ⟨9, 0, 0, headKey, headB h⟩]))) (fun xs E' F Q' k => AQ.buildSliceD (rows := [[_, _, _, _, _], [_, _, _, _, _]]) (.plain rfl) rfl Tryz.underlying51 el58 zo58 rfl rfl rfl (.agg rfl rfl rfl (.agg rfl rfl rfl .nil)) rfl rfl (by simp) (AQ.nil (k (0, undef)))) <|
      .cons (.fix 48 [0, 1, 2, 3, 4, 5, 6] [1, 6] [] (.agg (createTxn image h).cells)) (fun xs E' F Q' k => AQ.build (.plain rfl) rfl zo53 rfl pl53 (.one rfl (.val rfl) rfl rfl (.one rfl .sl rfl rfl .nil)) (AQ.nil (k (0, undef)))) <|
      .cons (.fix0 [0, 1, 2, 3, 4, 5, 6, 7] [7] [0]) (fun xs E' F Q' k => AQ.storevA (.plain rfl) rfl 0 rfl rfl ag53 rfl rfl (AQ.nil (k (0, undef)))) <|
      .nil) (by kernel_rfl) (by kernel_rfl) (fun x7 => ?_)
    refine AQ.then_n ?_
    refine AQ.seq ?_
    refine AQ.region ?_
    refine AQ.loadvA (.plain rfl) rfl 0 rfl rfl ag53 rfl rfl ?_
    refine AQ.loadvA (.plain rfl) rfl 2 rfl rfl ag53 rfl rfl ?_
    refine AQ.callf (.plain rfl) rfl rfl en26 (ref09Same _ _) ?_
    refine AQ.move (.plain rfl) rfl rfl ?_
    refine AQ.move (.on rfl rfl rfl) rfl rfl ?_
    refine AQ.move (.on rfl rfl rfl) rfl rfl ?_
    refine AQ.callf (.on rfl rfl rfl) rfl rfl en27 (planData _ _ _) ?_
    refine AQ.move (.on rfl rfl rfl) rfl rfl ?_
    refine AQ.move (.on rfl rfl rfl) rfl rfl ?_
    refine AQ.callf (.on rfl rfl rfl) rfl rfl en28 (ref19Data _ _ _) ?_
    refine AQ.eqsB (.on rfl rfl rfl) rfl rfl rfl ?_
    refine AQ.cgv (dec_t rfl) ?_
    refine AQ.pick_t (.plain rfl) rfl rfl rfl ?_
    refine AQ.move (.plain rfl) rfl rfl ?_
    refine AQ.move (.on rfl rfl rfl) rfl rfl ?_
    refine AQ.callf (.on rfl rfl rfl) rfl rfl en29 (planHead _ _) ?_
    refine AQ.move (.on rfl rfl rfl) rfl rfl ?_
    refine AQ.callf (.on rfl rfl rfl) rfl rfl en24 (ref19Head _ _) ?_
    refine AQ.eqsB (.on rfl rfl rfl) rfl rfl rfl ?_
    refine AQ.cgv (dec_t rfl) ?_
    refine AQ.pick_t (.plain rfl) rfl rfl rfl ?_
    refine AQ.move (.plain rfl) rfl rfl ?_
    refine AQ.move (.on rfl rfl rfl) rfl rfl ?_
    refine AQ.callf (.on rfl rfl rfl) rfl rfl en30 (planMark _ _) ?_
    refine AQ.move (.on rfl rfl rfl) rfl rfl ?_
    refine AQ.callf (.on rfl rfl rfl) rfl rfl en31 (ref19Mark _ _) ?_
    refine AQ.eqsB (.on rfl rfl rfl) rfl rfl rfl ?_
    refine AQ.cgv (dec_t rfl) ?_
    refine AQ.pick_t (.plain rfl) rfl rfl rfl ?_
    refine AQ.assign (.plain rfl) rfl rfl ?_
    refine AQ.nil ?_
    refine AQ.then_n ?_
    refine AQ.ret ?_
    refine AQ.dropN 1 ?_
    refine AQ.dropN 1 ?_
    refine AQ.dropN 1 ?_
    refine AQ.eqH (H' := H) rfl ?_
    exact AQ.done1 (Imm.le_refl _) Tryz.results5 rfl ⟨rfl, rfl⟩
theorem namesN (image n : Int) (h : Head) (H : List HA) (y0 : ¬ h.May) : AC Tryz.prog 5 [I image, I n, .agg h.cells] (H) (fun r' H' => r' = (.val (.bool true)) ∧ H' = H) := by
  refine AC.enter Tryz.func5 rfl Tryz.ntmps5 rfl (fun I0 => ?_)
  refine AQ.seq ?_
  refine AQ.region ?_
  refine AQ.boxA (.plain rfl) rfl rfl (fun b1 => ?_)
  refine AQ.assign (.plain rfl) rfl rfl ?_
  refine AQ.nil ?_
  refine AQ.then_n ?_
  refine AQ.seq ?_
  refine AQ.region ?_
  refine AQ.callf (.plain rfl) rfl rfl en16 (awakeC _) ?_
  refine AQ.assign (.plain rfl) rfl rfl ?_
  refine AQ.nil ?_
  refine AQ.then_n ?_
  refine AQ.seq ?_
  refine AQ.seq ?_
  refine AQ.region ?_
  refine AQ.move (.plain rfl) rfl rfl ?_
  refine AQ.not (.plain rfl) rfl rfl ?_
  refine AQ.nil ?_
  refine AQ.then_n ?_
  refine AQ.cond_f rfl ?_
  refine AQ.skip ?_
  refine AQ.then_n ?_
  refine AQ.seq ?_
  refine AQ.region ?_
  refine AQ.loadvA (.plain rfl) rfl 0 rfl rfl ag41 rfl rfl ?_
  refine AQ.callf (.plain rfl) rfl rfl en17 (law19few _ _) ?_
  refine AQ.assign (.plain rfl) rfl rfl ?_
  refine AQ.nil ?_
  refine AQ.then_n ?_
  refine AQ.seq ?_
  refine AQ.seq ?_
  refine AQ.region ?_
  refine AQ.move (.plain rfl) rfl rfl ?_
  refine AQ.not_d (.plain rfl) rfl rfl ?_
  refine AQ.nil ?_
  refine AQ.then_n ?_
  refine AQ.cond_d rfl (fun h2 => ?_) (fun h2 => ?_)
  · refine AQ.seq ?_
    refine AQ.region ?_
    refine AQ.assign (.plain rfl) rfl rfl ?_
    refine AQ.nil ?_
    refine AQ.then_n ?_
    refine AQ.ret ?_
    refine AQ.then_r ?_
    refine AQ.dropN 1 ?_
    refine AQ.eqH (H' := H) rfl ?_
    exact AQ.done1 (Imm.le_refl _) Tryz.results5 rfl ⟨rfl, rfl⟩
  · refine AQ.skip ?_
    refine AQ.then_n ?_
    refine AQ.seq ?_
    refine AQ.region ?_
    refine AQ.move (.plain rfl) rfl rfl ?_
    refine AQ.loadvA (.plain rfl) rfl 0 rfl rfl ag41 rfl rfl ?_
    refine AQ.callf (.plain rfl) rfl rfl en22 (planCreateN image h _ y0) ?_
    refine AQ.move (.plain rfl) rfl rfl ?_
    refine AQ.extract (.plain rfl) rfl rfl rfl ?_
    refine AQ.extract (.plain rfl) rfl rfl rfl ?_
    refine AQ.alloc (.plain rfl) zo53 rfl rfl (fun b3 => ?_)
    refine AQ.storevA (.plain rfl) rfl 0 rfl rfl ag53 rfl rfl ?_
    try simp only [List.set_cons_zero, List.set_cons_succ]
    refine AQ.assign (.plain rfl) rfl rfl ?_
    refine AQ.nil ?_
    refine AQ.then_n ?_
    refine AQ.seq ?_
    refine AQ.seq ?_
    refine AQ.region ?_
    refine AQ.loadvA (.plain rfl) rfl 1 rfl rfl ag41 rfl rfl ?_
    refine AQ.callf (.plain rfl) rfl rfl en23 (ref06May _ _) ?_
    refine AQ.cgv (dec_f y0) ?_
    refine AQ.move (.plain rfl) rfl rfl ?_
    refine AQ.eql (.plain rfl) rfl rfl rfl ?_
    refine AQ.cgv (dec_f (by decide)) ?_
    refine AQ.bneq (.plain rfl) rfl rfl rfl Tryz.underlying4 ?_
    refine AQ.move (.plain rfl) rfl rfl ?_
    refine AQ.move (.on rfl rfl rfl) rfl rfl ?_
    refine AQ.neq (.on rfl rfl rfl) rfl rfl rfl ?_
    refine AQ.cgv (dec_t (by decide)) ?_
    refine AQ.move (.on rfl rfl rfl) rfl rfl ?_
    refine AQ.move (.on rfl rfl rfl) rfl rfl ?_
    refine AQ.neq (.on rfl rfl rfl) rfl rfl rfl ?_
    refine AQ.cgv (dec_f (by decide)) ?_
    refine AQ.pick_t (.on rfl rfl rfl) rfl rfl rfl ?_
    refine AQ.pick_f (.plain rfl) rfl rfl rfl ?_
    refine AQ.nil ?_
    refine AQ.then_n ?_
    refine AQ.cond_f rfl ?_
    refine AQ.skip ?_
    refine AQ.then_n ?_
    refine AQ.seq ?_
    refine AQ.region ?_
    refine AQ.build (.plain rfl) rfl zo53 rfl pl53 .nil ?_
    refine AQ.alloc (.plain rfl) zo53 rfl rfl (fun b4 => ?_)
    refine AQ.storevA (.plain rfl) rfl 0 rfl rfl ag53 rfl rfl ?_
    try simp only [List.set_cons_zero, List.set_cons_succ]
    refine AQ.nil ?_
    refine AQ.then_n ?_
    refine AQ.seq ?_
    refine AQ.seq ?_
    refine AQ.region ?_
    refine AQ.move (.plain rfl) rfl rfl ?_
    refine AQ.eql (.plain rfl) rfl rfl rfl ?_
    refine AQ.cgv (dec_f (by decide)) ?_
    refine AQ.nil ?_
    refine AQ.then_n ?_
    refine AQ.cond_f rfl ?_
    refine AQ.skip ?_
    refine AQ.then_n ?_
    refine AQ.seq ?_
    refine AQ.region ?_
    refine AQ.loadvA (.plain rfl) rfl 1 rfl rfl ag53 rfl rfl ?_
    refine AQ.loadvA (.plain rfl) rfl 0 rfl rfl ag53 rfl rfl ?_
    refine AQ.aggW (t := 50) (m := Txn.cells ⟨[], []⟩) rfl (by repeat (first | exact ImpL.nil | apply ImpL.same | apply ImpL.sl0)) ?_
    refine AQ.callf (.plain rfl) rfl rfl en26 (ref09Same _ _) ?_
    refine AQ.move (.plain rfl) rfl rfl ?_
    refine AQ.move (.on rfl rfl rfl) rfl rfl ?_
    refine AQ.move (.on rfl rfl rfl) rfl rfl ?_
    refine AQ.callf (.on rfl rfl rfl) rfl rfl en27 (planData _ _ _) ?_
    refine AQ.move (.on rfl rfl rfl) rfl rfl ?_
    refine AQ.move (.on rfl rfl rfl) rfl rfl ?_
    refine AQ.callf (.on rfl rfl rfl) rfl rfl en28 (ref19Data _ _ _) ?_
    refine AQ.eqsB (.on rfl rfl rfl) rfl rfl rfl ?_
    refine AQ.cgv (dec_t rfl) ?_
    refine AQ.pick_t (.plain rfl) rfl rfl rfl ?_
    refine AQ.move (.plain rfl) rfl rfl ?_
    refine AQ.move (.on rfl rfl rfl) rfl rfl ?_
    refine AQ.callf (.on rfl rfl rfl) rfl rfl en29 (planHead _ _) ?_
    refine AQ.move (.on rfl rfl rfl) rfl rfl ?_
    refine AQ.callf (.on rfl rfl rfl) rfl rfl en24 (ref19Head _ _) ?_
    refine AQ.eqsB (.on rfl rfl rfl) rfl rfl rfl ?_
    refine AQ.cgv (dec_t rfl) ?_
    refine AQ.pick_t (.plain rfl) rfl rfl rfl ?_
    refine AQ.move (.plain rfl) rfl rfl ?_
    refine AQ.move (.on rfl rfl rfl) rfl rfl ?_
    refine AQ.callf (.on rfl rfl rfl) rfl rfl en30 (planMark _ _) ?_
    refine AQ.move (.on rfl rfl rfl) rfl rfl ?_
    refine AQ.callf (.on rfl rfl rfl) rfl rfl en31 (ref19Mark _ _) ?_
    refine AQ.eqsB (.on rfl rfl rfl) rfl rfl rfl ?_
    refine AQ.cgv (dec_t rfl) ?_
    refine AQ.pick_t (.plain rfl) rfl rfl rfl ?_
    refine AQ.assign (.plain rfl) rfl rfl ?_
    refine AQ.nil ?_
    refine AQ.then_n ?_
    refine AQ.ret ?_
    refine AQ.dropN 1 ?_
    refine AQ.dropN 1 ?_
    refine AQ.dropN 1 ?_
    refine AQ.eqH (H' := H) rfl ?_
    exact AQ.done1 (Imm.le_refl _) Tryz.results5 rfl ⟨rfl, rfl⟩
theorem namesC (image n : Int) (h : Head) (H : List HA) : AC Tryz.prog 5 [I image, I n, .agg h.cells] H (fun r H' => r = .val (.bool true) ∧ H' = H) := by
  by_cases hm : h.May
  · exact namesY image n h H hm
  · exact namesN image n h H hm

end Go.Fx
