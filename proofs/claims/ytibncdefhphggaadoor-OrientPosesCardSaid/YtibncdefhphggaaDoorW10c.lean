/- The walk of OrientPoses: the ways with two valid turns, second part. -/
import Derived.Test.YtibncdefhphggaaDoorK
namespace Go.Proofs.YtibncdefhphggaaDoor
open Go.RowKit
set_option linter.unusedSimpArgs false
set_option linter.unusedVariables false
attribute [local go_sem ↓] Go.wp_at_zero Go.wp_at_succ

set_option maxRecDepth 100000 in
set_option maxHeartbeats 16000000 in
theorem poses_11 (n a0 a1 a2 m b0 b1 b2 x y z v0 v1 v2 jn j0 j1 j2 un u0 u1 u2 : Int) (w : World)
    (Hq : ∀ W, Below w.heap.size w W → Calls Tryd.prog 15 #[] W fun r w' => r = .returned (.bool true) ∧ Below W.heap.size W w')
    (H1 : ∀ w, Calls Tryd.prog 43 #[vP n a0 a1 a2, vV x y z] w fun r w' => r = .returned (.tuple #[vV 0 0 0, .int .i64 6]) ∧ Below w.heap.size w w')
    (H2 : ∀ w, Calls Tryd.prog 42 #[vP n a0 a1 a2, vP m b0 b1 b2] w fun r w' => r = .returned (.tuple #[vP 0 0 0 0, .int .i64 6]) ∧ Below w.heap.size w w')
    (H3 : ∀ w, Calls Tryd.prog 41 #[vP n a0 a1 a2] w fun r w' => r = .returned (.tuple #[vP un u0 u1 u2, .int .i64 0]) ∧ Below w.heap.size w w')
    (In : ∀ w, Calls Tryd.prog 14 #[.int .i64 n] w fun e w' => e = .returned (.bool true) ∧ w = w')
    (Im : ∀ w, Calls Tryd.prog 14 #[.int .i64 m] w fun e w' => e = .returned (.bool true) ∧ w = w')
    (Na : ∀ w, Calls Tryd.prog 17 #[vV a0 a1 a2] w fun r w' => r = .returned (.bool true) ∧ Below w.heap.size w w')
    (Np : ∀ w, Calls Tryd.prog 17 #[vV x y z] w fun r w' => r = .returned (.bool true) ∧ Below w.heap.size w w')
    (Hp : ∀ w, Calls Tryd.prog 44 #[vP n a0 a1 a2, vV x y z] w fun r w' => r = .returned (vV v0 v1 v2) ∧ Below w.heap.size w w')
    (Nv : ∀ w, Calls Tryd.prog 17 #[vV v0 v1 v2] w fun r w' => r = .returned (.bool false) ∧ Below w.heap.size w w')
    (Nb : ∀ w, Calls Tryd.prog 17 #[vV b0 b1 b2] w fun r w' => r = .returned (.bool true) ∧ Below w.heap.size w w')
    (Hj : ∀ w, Calls Tryd.prog 44 #[vP n a0 a1 a2, vV b0 b1 b2] w fun r w' => r = .returned (vV j0 j1 j2) ∧ Below w.heap.size w w')
    (Nj : ∀ w, Calls Tryd.prog 17 #[vV j0 j1 j2] w fun r w' => r = .returned (.bool false) ∧ Below w.heap.size w w')
    (R3 : ∀ w, Calls Tryd.prog 46 #[vP n a0 a1 a2] w fun r w' => r = .returned (vP un u0 u1 u2) ∧ Below w.heap.size w w') :
    Calls Tryd.prog 10 #[vP n a0 a1 a2, vP m b0 b1 b2, vV x y z] w fun e w' => e = .returned (.bool true) ∧ Below w.heap.size w w' := by
  have eu : ∀ w, (binOp .eql 25 (vP un u0 u1 u2) (vP un u0 u1 u2)).run Tryd.prog w = .ok (.bool true) w := fun w => by rw [eql_P, decide_eq_true (by simp)]
  go_enter Tryd.func10, Tryd.ntmps10
  go_wp2_with fail
  go_at_call 43
  (with_reducible refine (H1 _).mono ?_)
  rintro e t1 ⟨rfl, y1⟩
  have hyy := y1.size
  (try simp only [World.size_alloc, World.size_setCell, World.size_drew] at hyy)
  obtain ⟨⟨c1_0_0, c1_0_1, c1_0_2, c1_0_3⟩, ⟨c1_1_0, c1_1_1, c1_1_2, c1_1_3⟩, ⟨c1_2_0, c1_2_1, c1_2_2⟩, bel1⟩ : b4 t1 w.heap.size n a0 a1 a2 ∧ b4 t1 (w.heap.size + 1) m b0 b1 b2 ∧ b3 t1 (w.heap.size + 1 + 1) x y z ∧ Below w.heap.size w t1 := by
    refine ⟨?_, ?_, ?_, b_step (by (repeat' (first | (with_reducible assumption) | (with_reducible exact Below.refl _ _) | (with_reducible refine Below.alloc ?_ ?_ _) | (with_reducible refine Below.drew ?_) | (with_reducible refine Below.setCell ?_ ?_ _) | (with_reducible refine b_step ?_ (by assumption) ?_) | omega | (simp only [World.size_alloc, World.size_setCell, World.size_drew]; omega)))) y1 (by simp only [World.size_alloc, World.size_setCell, World.size_drew]; omega)⟩ <;> (repeat' apply And.intro) <;> exact cell_later y1 (by (simp (disch := first | omega | (simp only [World.size_alloc, World.size_setCell, World.size_drew]; done) | (simp only [World.size_alloc, World.size_setCell, World.size_drew]; omega)) only [*, r_set_same, r_set_off, r_set_blk, r_set_f, r_alloc_at, r_alloc_past, r_falloc_at, r_falloc_past, World.cell?_drew, World.frozen?_drew, Option.map_some, List.getElem?_toArray, List.getElem?_cons_zero, List.getElem?_cons_succ]; done))
  clear hyy y1 
  have zc1_0 := World.block_lt_of_cell? _ _ c1_0_0
  have zc1_1 := World.block_lt_of_cell? _ _ c1_1_0
  have zc1_2 := World.block_lt_of_cell? _ _ c1_2_0
  go_wp2_with fail
  go_at_call 42
  (with_reducible refine (H2 _).mono ?_)
  rintro e t2 ⟨rfl, y2⟩
  obtain ⟨⟨c2_0_0, c2_0_1, c2_0_2, c2_0_3⟩, ⟨c2_1_0, c2_1_1, c2_1_2, c2_1_3⟩, ⟨c2_2_0, c2_2_1, c2_2_2⟩, ⟨c2_3_0, c2_3_1, c2_3_2⟩, bel2⟩ : b4 t2 w.heap.size n a0 a1 a2 ∧ b4 t2 (w.heap.size + 1) m b0 b1 b2 ∧ b3 t2 (w.heap.size + 1 + 1) x y z ∧ b3 t2 t1.heap.size 0 0 0 ∧ Below w.heap.size w t2 := by
    refine ⟨?_, ?_, ?_, ?_, bs1 bel1 y2⟩ <;> (repeat' apply And.intro) <;> exact cell_later y2 (by (first | assumption | exact c_alloc (by assumption) | exact c_at rfl rfl))
  clear y2 c1_0_0 c1_0_1 c1_0_2 c1_0_3 c1_1_0 c1_1_1 c1_1_2 c1_1_3 c1_2_0 c1_2_1 c1_2_2 bel1 zc1_0 zc1_1 zc1_2
  have zc2_0 := World.block_lt_of_cell? _ _ c2_0_0
  have zc2_1 := World.block_lt_of_cell? _ _ c2_1_0
  have zc2_2 := World.block_lt_of_cell? _ _ c2_2_0
  have zc2_3 := World.block_lt_of_cell? _ _ c2_3_0
  go_wp2_with fail
  go_at_call 41
  (with_reducible refine (H3 _).mono ?_)
  rintro e t3 ⟨rfl, y3⟩
  obtain ⟨⟨c3_0_0, c3_0_1, c3_0_2, c3_0_3⟩, ⟨c3_1_0, c3_1_1, c3_1_2, c3_1_3⟩, ⟨c3_2_0, c3_2_1, c3_2_2⟩, ⟨c3_3_0, c3_3_1, c3_3_2⟩, ⟨c3_4_0, c3_4_1, c3_4_2, c3_4_3⟩, bel3⟩ : b4 t3 w.heap.size n a0 a1 a2 ∧ b4 t3 (w.heap.size + 1) m b0 b1 b2 ∧ b3 t3 (w.heap.size + 1 + 1) x y z ∧ b3 t3 t1.heap.size 0 0 0 ∧ b4 t3 t2.heap.size 0 0 0 0 ∧ Below w.heap.size w t3 := by
    refine ⟨?_, ?_, ?_, ?_, ?_, bs1 bel2 y3⟩ <;> (repeat' apply And.intro) <;> exact cell_later y3 (by (first | assumption | exact c_alloc (by assumption) | exact c_at rfl rfl))
  clear y3 c2_0_0 c2_0_1 c2_0_2 c2_0_3 c2_1_0 c2_1_1 c2_1_2 c2_1_3 c2_2_0 c2_2_1 c2_2_2 c2_3_0 c2_3_1 c2_3_2 bel2 zc2_0 zc2_1 zc2_2 zc2_3
  have zc3_0 := World.block_lt_of_cell? _ _ c3_0_0
  have zc3_1 := World.block_lt_of_cell? _ _ c3_1_0
  have zc3_2 := World.block_lt_of_cell? _ _ c3_2_0
  have zc3_3 := World.block_lt_of_cell? _ _ c3_3_0
  have zc3_4 := World.block_lt_of_cell? _ _ c3_4_0
  go_wp2_with fail
  go_at_call 14
  (with_reducible refine (In _).mono ?_)
  rintro e tt ⟨rfl, rfl⟩
  go_wp2_with fail
  go_at_call 14
  (with_reducible refine (Im _).mono ?_)
  rintro e tt ⟨rfl, rfl⟩
  go_wp2_with fail
  go_at_call 17
  (with_reducible refine (Na _).mono ?_)
  rintro e t4 ⟨rfl, y4⟩
  obtain ⟨⟨c4_0_0, c4_0_1, c4_0_2, c4_0_3⟩, ⟨c4_1_0, c4_1_1, c4_1_2, c4_1_3⟩, ⟨c4_2_0, c4_2_1, c4_2_2⟩, ⟨c4_3_0, c4_3_1, c4_3_2⟩, ⟨c4_4_0, c4_4_1, c4_4_2, c4_4_3⟩, ⟨c4_5_0, c4_5_1, c4_5_2, c4_5_3⟩, bel4⟩ : b4 t4 w.heap.size n a0 a1 a2 ∧ b4 t4 (w.heap.size + 1) m b0 b1 b2 ∧ b3 t4 (w.heap.size + 1 + 1) x y z ∧ b3 t4 t1.heap.size 0 0 0 ∧ b4 t4 t2.heap.size 0 0 0 0 ∧ b4 t4 t3.heap.size un u0 u1 u2 ∧ Below w.heap.size w t4 := by
    refine ⟨?_, ?_, ?_, ?_, ?_, ?_, bs1 bel3 y4⟩ <;> (repeat' apply And.intro) <;> exact cell_later y4 (by (first | assumption | exact c_alloc (by assumption) | exact c_at rfl rfl))
  clear y4 c3_0_0 c3_0_1 c3_0_2 c3_0_3 c3_1_0 c3_1_1 c3_1_2 c3_1_3 c3_2_0 c3_2_1 c3_2_2 c3_3_0 c3_3_1 c3_3_2 c3_4_0 c3_4_1 c3_4_2 c3_4_3 bel3 zc3_0 zc3_1 zc3_2 zc3_3 zc3_4
  have zc4_0 := World.block_lt_of_cell? _ _ c4_0_0
  have zc4_1 := World.block_lt_of_cell? _ _ c4_1_0
  have zc4_2 := World.block_lt_of_cell? _ _ c4_2_0
  have zc4_3 := World.block_lt_of_cell? _ _ c4_3_0
  have zc4_4 := World.block_lt_of_cell? _ _ c4_4_0
  have zc4_5 := World.block_lt_of_cell? _ _ c4_5_0
  go_wp2_with fail
  go_at_call 17
  (with_reducible refine (Na _).mono ?_)
  rintro e t5 ⟨rfl, y5⟩
  obtain ⟨⟨c5_0_0, c5_0_1, c5_0_2, c5_0_3⟩, ⟨c5_1_0, c5_1_1, c5_1_2, c5_1_3⟩, ⟨c5_2_0, c5_2_1, c5_2_2⟩, ⟨c5_3_0, c5_3_1, c5_3_2⟩, ⟨c5_4_0, c5_4_1, c5_4_2, c5_4_3⟩, ⟨c5_5_0, c5_5_1, c5_5_2, c5_5_3⟩, bel5⟩ : b4 t5 w.heap.size n a0 a1 a2 ∧ b4 t5 (w.heap.size + 1) m b0 b1 b2 ∧ b3 t5 (w.heap.size + 1 + 1) x y z ∧ b3 t5 t1.heap.size 0 0 0 ∧ b4 t5 t2.heap.size 0 0 0 0 ∧ b4 t5 t3.heap.size un u0 u1 u2 ∧ Below w.heap.size w t5 := by
    refine ⟨?_, ?_, ?_, ?_, ?_, ?_, bs0 bel4 y5⟩ <;> (repeat' apply And.intro) <;> exact cell_later y5 (by (first | assumption | exact c_alloc (by assumption) | exact c_at rfl rfl))
  clear y5 c4_0_0 c4_0_1 c4_0_2 c4_0_3 c4_1_0 c4_1_1 c4_1_2 c4_1_3 c4_2_0 c4_2_1 c4_2_2 c4_3_0 c4_3_1 c4_3_2 c4_4_0 c4_4_1 c4_4_2 c4_4_3 c4_5_0 c4_5_1 c4_5_2 c4_5_3 bel4 zc4_0 zc4_1 zc4_2 zc4_3 zc4_4 zc4_5
  have zc5_0 := World.block_lt_of_cell? _ _ c5_0_0
  have zc5_1 := World.block_lt_of_cell? _ _ c5_1_0
  have zc5_2 := World.block_lt_of_cell? _ _ c5_2_0
  have zc5_3 := World.block_lt_of_cell? _ _ c5_3_0
  have zc5_4 := World.block_lt_of_cell? _ _ c5_4_0
  have zc5_5 := World.block_lt_of_cell? _ _ c5_5_0
  go_wp2_with fail
  go_at_call 17
  (with_reducible refine (Np _).mono ?_)
  rintro e t6 ⟨rfl, y6⟩
  obtain ⟨⟨c6_0_0, c6_0_1, c6_0_2, c6_0_3⟩, ⟨c6_1_0, c6_1_1, c6_1_2, c6_1_3⟩, ⟨c6_2_0, c6_2_1, c6_2_2⟩, ⟨c6_3_0, c6_3_1, c6_3_2⟩, ⟨c6_4_0, c6_4_1, c6_4_2, c6_4_3⟩, ⟨c6_5_0, c6_5_1, c6_5_2, c6_5_3⟩, bel6⟩ : b4 t6 w.heap.size n a0 a1 a2 ∧ b4 t6 (w.heap.size + 1) m b0 b1 b2 ∧ b3 t6 (w.heap.size + 1 + 1) x y z ∧ b3 t6 t1.heap.size 0 0 0 ∧ b4 t6 t2.heap.size 0 0 0 0 ∧ b4 t6 t3.heap.size un u0 u1 u2 ∧ Below w.heap.size w t6 := by
    refine ⟨?_, ?_, ?_, ?_, ?_, ?_, bs0 bel5 y6⟩ <;> (repeat' apply And.intro) <;> exact cell_later y6 (by (first | assumption | exact c_alloc (by assumption) | exact c_at rfl rfl))
  clear y6 c5_0_0 c5_0_1 c5_0_2 c5_0_3 c5_1_0 c5_1_1 c5_1_2 c5_1_3 c5_2_0 c5_2_1 c5_2_2 c5_3_0 c5_3_1 c5_3_2 c5_4_0 c5_4_1 c5_4_2 c5_4_3 c5_5_0 c5_5_1 c5_5_2 c5_5_3 bel5 zc5_0 zc5_1 zc5_2 zc5_3 zc5_4 zc5_5
  have zc6_0 := World.block_lt_of_cell? _ _ c6_0_0
  have zc6_1 := World.block_lt_of_cell? _ _ c6_1_0
  have zc6_2 := World.block_lt_of_cell? _ _ c6_2_0
  have zc6_3 := World.block_lt_of_cell? _ _ c6_3_0
  have zc6_4 := World.block_lt_of_cell? _ _ c6_4_0
  have zc6_5 := World.block_lt_of_cell? _ _ c6_5_0
  go_wp2_with fail
  go_at_call 44
  (with_reducible refine (Hp _).mono ?_)
  rintro e t7 ⟨rfl, y7⟩
  obtain ⟨⟨c7_0_0, c7_0_1, c7_0_2, c7_0_3⟩, ⟨c7_1_0, c7_1_1, c7_1_2, c7_1_3⟩, ⟨c7_2_0, c7_2_1, c7_2_2⟩, ⟨c7_3_0, c7_3_1, c7_3_2⟩, ⟨c7_4_0, c7_4_1, c7_4_2, c7_4_3⟩, ⟨c7_5_0, c7_5_1, c7_5_2, c7_5_3⟩, bel7⟩ : b4 t7 w.heap.size n a0 a1 a2 ∧ b4 t7 (w.heap.size + 1) m b0 b1 b2 ∧ b3 t7 (w.heap.size + 1 + 1) x y z ∧ b3 t7 t1.heap.size 0 0 0 ∧ b4 t7 t2.heap.size 0 0 0 0 ∧ b4 t7 t3.heap.size un u0 u1 u2 ∧ Below w.heap.size w t7 := by
    refine ⟨?_, ?_, ?_, ?_, ?_, ?_, bs0 bel6 y7⟩ <;> (repeat' apply And.intro) <;> exact cell_later y7 (by (first | assumption | exact c_alloc (by assumption) | exact c_at rfl rfl))
  clear y7 c6_0_0 c6_0_1 c6_0_2 c6_0_3 c6_1_0 c6_1_1 c6_1_2 c6_1_3 c6_2_0 c6_2_1 c6_2_2 c6_3_0 c6_3_1 c6_3_2 c6_4_0 c6_4_1 c6_4_2 c6_4_3 c6_5_0 c6_5_1 c6_5_2 c6_5_3 bel6 zc6_0 zc6_1 zc6_2 zc6_3 zc6_4 zc6_5
  have zc7_0 := World.block_lt_of_cell? _ _ c7_0_0
  have zc7_1 := World.block_lt_of_cell? _ _ c7_1_0
  have zc7_2 := World.block_lt_of_cell? _ _ c7_2_0
  have zc7_3 := World.block_lt_of_cell? _ _ c7_3_0
  have zc7_4 := World.block_lt_of_cell? _ _ c7_4_0
  have zc7_5 := World.block_lt_of_cell? _ _ c7_5_0
  go_wp2_with fail
  go_at_call 17
  (with_reducible refine (Nv _).mono ?_)
  rintro e t8 ⟨rfl, y8⟩
  obtain ⟨⟨c8_0_0, c8_0_1, c8_0_2, c8_0_3⟩, ⟨c8_1_0, c8_1_1, c8_1_2, c8_1_3⟩, ⟨c8_2_0, c8_2_1, c8_2_2⟩, ⟨c8_3_0, c8_3_1, c8_3_2⟩, ⟨c8_4_0, c8_4_1, c8_4_2, c8_4_3⟩, ⟨c8_5_0, c8_5_1, c8_5_2, c8_5_3⟩, bel8⟩ : b4 t8 w.heap.size n a0 a1 a2 ∧ b4 t8 (w.heap.size + 1) m b0 b1 b2 ∧ b3 t8 (w.heap.size + 1 + 1) x y z ∧ b3 t8 t1.heap.size 0 0 0 ∧ b4 t8 t2.heap.size 0 0 0 0 ∧ b4 t8 t3.heap.size un u0 u1 u2 ∧ Below w.heap.size w t8 := by
    refine ⟨?_, ?_, ?_, ?_, ?_, ?_, bs0 bel7 y8⟩ <;> (repeat' apply And.intro) <;> exact cell_later y8 (by (first | assumption | exact c_alloc (by assumption) | exact c_at rfl rfl))
  clear y8 c7_0_0 c7_0_1 c7_0_2 c7_0_3 c7_1_0 c7_1_1 c7_1_2 c7_1_3 c7_2_0 c7_2_1 c7_2_2 c7_3_0 c7_3_1 c7_3_2 c7_4_0 c7_4_1 c7_4_2 c7_4_3 c7_5_0 c7_5_1 c7_5_2 c7_5_3 bel7 zc7_0 zc7_1 zc7_2 zc7_3 zc7_4 zc7_5
  have zc8_0 := World.block_lt_of_cell? _ _ c8_0_0
  have zc8_1 := World.block_lt_of_cell? _ _ c8_1_0
  have zc8_2 := World.block_lt_of_cell? _ _ c8_2_0
  have zc8_3 := World.block_lt_of_cell? _ _ c8_3_0
  have zc8_4 := World.block_lt_of_cell? _ _ c8_4_0
  have zc8_5 := World.block_lt_of_cell? _ _ c8_5_0
  go_wp2_with fail
  go_at_call 17
  (with_reducible refine (Na _).mono ?_)
  rintro e t9 ⟨rfl, y9⟩
  obtain ⟨⟨c9_0_0, c9_0_1, c9_0_2, c9_0_3⟩, ⟨c9_1_0, c9_1_1, c9_1_2, c9_1_3⟩, ⟨c9_2_0, c9_2_1, c9_2_2⟩, ⟨c9_3_0, c9_3_1, c9_3_2⟩, ⟨c9_4_0, c9_4_1, c9_4_2, c9_4_3⟩, ⟨c9_5_0, c9_5_1, c9_5_2, c9_5_3⟩, bel9⟩ : b4 t9 w.heap.size n a0 a1 a2 ∧ b4 t9 (w.heap.size + 1) m b0 b1 b2 ∧ b3 t9 (w.heap.size + 1 + 1) x y z ∧ b3 t9 t1.heap.size 0 0 0 ∧ b4 t9 t2.heap.size 0 0 0 0 ∧ b4 t9 t3.heap.size un u0 u1 u2 ∧ Below w.heap.size w t9 := by
    refine ⟨?_, ?_, ?_, ?_, ?_, ?_, bs0 bel8 y9⟩ <;> (repeat' apply And.intro) <;> exact cell_later y9 (by (first | assumption | exact c_alloc (by assumption) | exact c_at rfl rfl))
  clear y9 c8_0_0 c8_0_1 c8_0_2 c8_0_3 c8_1_0 c8_1_1 c8_1_2 c8_1_3 c8_2_0 c8_2_1 c8_2_2 c8_3_0 c8_3_1 c8_3_2 c8_4_0 c8_4_1 c8_4_2 c8_4_3 c8_5_0 c8_5_1 c8_5_2 c8_5_3 bel8 zc8_0 zc8_1 zc8_2 zc8_3 zc8_4 zc8_5
  have zc9_0 := World.block_lt_of_cell? _ _ c9_0_0
  have zc9_1 := World.block_lt_of_cell? _ _ c9_1_0
  have zc9_2 := World.block_lt_of_cell? _ _ c9_2_0
  have zc9_3 := World.block_lt_of_cell? _ _ c9_3_0
  have zc9_4 := World.block_lt_of_cell? _ _ c9_4_0
  have zc9_5 := World.block_lt_of_cell? _ _ c9_5_0
  go_wp2_with fail
  go_at_call 17
  (with_reducible refine (Nb _).mono ?_)
  rintro e t10 ⟨rfl, y10⟩
  obtain ⟨⟨c10_0_0, c10_0_1, c10_0_2, c10_0_3⟩, ⟨c10_1_0, c10_1_1, c10_1_2, c10_1_3⟩, ⟨c10_2_0, c10_2_1, c10_2_2⟩, ⟨c10_3_0, c10_3_1, c10_3_2⟩, ⟨c10_4_0, c10_4_1, c10_4_2, c10_4_3⟩, ⟨c10_5_0, c10_5_1, c10_5_2, c10_5_3⟩, bel10⟩ : b4 t10 w.heap.size n a0 a1 a2 ∧ b4 t10 (w.heap.size + 1) m b0 b1 b2 ∧ b3 t10 (w.heap.size + 1 + 1) x y z ∧ b3 t10 t1.heap.size 0 0 0 ∧ b4 t10 t2.heap.size 0 0 0 0 ∧ b4 t10 t3.heap.size un u0 u1 u2 ∧ Below w.heap.size w t10 := by
    refine ⟨?_, ?_, ?_, ?_, ?_, ?_, bs0 bel9 y10⟩ <;> (repeat' apply And.intro) <;> exact cell_later y10 (by (first | assumption | exact c_alloc (by assumption) | exact c_at rfl rfl))
  clear y10 c9_0_0 c9_0_1 c9_0_2 c9_0_3 c9_1_0 c9_1_1 c9_1_2 c9_1_3 c9_2_0 c9_2_1 c9_2_2 c9_3_0 c9_3_1 c9_3_2 c9_4_0 c9_4_1 c9_4_2 c9_4_3 c9_5_0 c9_5_1 c9_5_2 c9_5_3 bel9 zc9_0 zc9_1 zc9_2 zc9_3 zc9_4 zc9_5
  have zc10_0 := World.block_lt_of_cell? _ _ c10_0_0
  have zc10_1 := World.block_lt_of_cell? _ _ c10_1_0
  have zc10_2 := World.block_lt_of_cell? _ _ c10_2_0
  have zc10_3 := World.block_lt_of_cell? _ _ c10_3_0
  have zc10_4 := World.block_lt_of_cell? _ _ c10_4_0
  have zc10_5 := World.block_lt_of_cell? _ _ c10_5_0
  go_wp2_with fail
  go_at_call 44
  (with_reducible refine (Hj _).mono ?_)
  rintro e t11 ⟨rfl, y11⟩
  obtain ⟨⟨c11_0_0, c11_0_1, c11_0_2, c11_0_3⟩, ⟨c11_1_0, c11_1_1, c11_1_2, c11_1_3⟩, ⟨c11_2_0, c11_2_1, c11_2_2⟩, ⟨c11_3_0, c11_3_1, c11_3_2⟩, ⟨c11_4_0, c11_4_1, c11_4_2, c11_4_3⟩, ⟨c11_5_0, c11_5_1, c11_5_2, c11_5_3⟩, bel11⟩ : b4 t11 w.heap.size n a0 a1 a2 ∧ b4 t11 (w.heap.size + 1) m b0 b1 b2 ∧ b3 t11 (w.heap.size + 1 + 1) x y z ∧ b3 t11 t1.heap.size 0 0 0 ∧ b4 t11 t2.heap.size 0 0 0 0 ∧ b4 t11 t3.heap.size un u0 u1 u2 ∧ Below w.heap.size w t11 := by
    refine ⟨?_, ?_, ?_, ?_, ?_, ?_, bs0 bel10 y11⟩ <;> (repeat' apply And.intro) <;> exact cell_later y11 (by (first | assumption | exact c_alloc (by assumption) | exact c_at rfl rfl))
  clear y11 c10_0_0 c10_0_1 c10_0_2 c10_0_3 c10_1_0 c10_1_1 c10_1_2 c10_1_3 c10_2_0 c10_2_1 c10_2_2 c10_3_0 c10_3_1 c10_3_2 c10_4_0 c10_4_1 c10_4_2 c10_4_3 c10_5_0 c10_5_1 c10_5_2 c10_5_3 bel10 zc10_0 zc10_1 zc10_2 zc10_3 zc10_4 zc10_5
  have zc11_0 := World.block_lt_of_cell? _ _ c11_0_0
  have zc11_1 := World.block_lt_of_cell? _ _ c11_1_0
  have zc11_2 := World.block_lt_of_cell? _ _ c11_2_0
  have zc11_3 := World.block_lt_of_cell? _ _ c11_3_0
  have zc11_4 := World.block_lt_of_cell? _ _ c11_4_0
  have zc11_5 := World.block_lt_of_cell? _ _ c11_5_0
  go_wp2_with fail
  go_at_call 17
  (with_reducible refine (Nj _).mono ?_)
  rintro e t12 ⟨rfl, y12⟩
  obtain ⟨⟨c12_0_0, c12_0_1, c12_0_2, c12_0_3⟩, ⟨c12_1_0, c12_1_1, c12_1_2, c12_1_3⟩, ⟨c12_2_0, c12_2_1, c12_2_2⟩, ⟨c12_3_0, c12_3_1, c12_3_2⟩, ⟨c12_4_0, c12_4_1, c12_4_2, c12_4_3⟩, ⟨c12_5_0, c12_5_1, c12_5_2, c12_5_3⟩, bel12⟩ : b4 t12 w.heap.size n a0 a1 a2 ∧ b4 t12 (w.heap.size + 1) m b0 b1 b2 ∧ b3 t12 (w.heap.size + 1 + 1) x y z ∧ b3 t12 t1.heap.size 0 0 0 ∧ b4 t12 t2.heap.size 0 0 0 0 ∧ b4 t12 t3.heap.size un u0 u1 u2 ∧ Below w.heap.size w t12 := by
    refine ⟨?_, ?_, ?_, ?_, ?_, ?_, bs0 bel11 y12⟩ <;> (repeat' apply And.intro) <;> exact cell_later y12 (by (first | assumption | exact c_alloc (by assumption) | exact c_at rfl rfl))
  clear y12 c11_0_0 c11_0_1 c11_0_2 c11_0_3 c11_1_0 c11_1_1 c11_1_2 c11_1_3 c11_2_0 c11_2_1 c11_2_2 c11_3_0 c11_3_1 c11_3_2 c11_4_0 c11_4_1 c11_4_2 c11_4_3 c11_5_0 c11_5_1 c11_5_2 c11_5_3 bel11 zc11_0 zc11_1 zc11_2 zc11_3 zc11_4 zc11_5
  have zc12_0 := World.block_lt_of_cell? _ _ c12_0_0
  have zc12_1 := World.block_lt_of_cell? _ _ c12_1_0
  have zc12_2 := World.block_lt_of_cell? _ _ c12_2_0
  have zc12_3 := World.block_lt_of_cell? _ _ c12_3_0
  have zc12_4 := World.block_lt_of_cell? _ _ c12_4_0
  have zc12_5 := World.block_lt_of_cell? _ _ c12_5_0
  go_upto_region 17 with fail
  refine gen_world (F := fun W1 => b4 W1 w.heap.size n a0 a1 a2 ∧ b4 W1 (w.heap.size + 1) m b0 b1 b2 ∧ b3 W1 (w.heap.size + 1 + 1) x y z ∧ b3 W1 t1.heap.size 0 0 0 ∧ b4 W1 t2.heap.size 0 0 0 0 ∧ b4 W1 t3.heap.size un u0 u1 u2 ∧ Below w.heap.size w W1) ?_ (fun W1 hW => ?_)
  · refine ⟨?_, ?_, ?_, ?_, ?_, ?_, bel12⟩ <;> (repeat' apply And.intro) <;> (first | assumption | exact c_alloc (by assumption) | exact c_at rfl rfl)
  obtain ⟨⟨g1_0_0, g1_0_1, g1_0_2, g1_0_3⟩, ⟨g1_1_0, g1_1_1, g1_1_2, g1_1_3⟩, ⟨g1_2_0, g1_2_1, g1_2_2⟩, ⟨g1_3_0, g1_3_1, g1_3_2⟩, ⟨g1_4_0, g1_4_1, g1_4_2, g1_4_3⟩, ⟨g1_5_0, g1_5_1, g1_5_2, g1_5_3⟩, gb1⟩ := hW
  clear c12_0_0 c12_0_1 c12_0_2 c12_0_3 c12_1_0 c12_1_1 c12_1_2 c12_1_3 c12_2_0 c12_2_1 c12_2_2 c12_3_0 c12_3_1 c12_3_2 c12_4_0 c12_4_1 c12_4_2 c12_4_3 c12_5_0 c12_5_1 c12_5_2 c12_5_3 bel12 zc12_0 zc12_1 zc12_2 zc12_3 zc12_4 zc12_5
  have mkq1 : ∀ w', Below W1.heap.size W1 w' → (Below W1.heap.size W1 w' ∧ b4 w' w.heap.size n a0 a1 a2 ∧ b4 w' (w.heap.size + 1) m b0 b1 b2 ∧ b3 w' (w.heap.size + 1 + 1) x y z ∧ b3 w' t1.heap.size 0 0 0 ∧ b4 w' t2.heap.size 0 0 0 0 ∧ b4 w' t3.heap.size un u0 u1 u2) := fun w' h => ⟨h, b4.later h ⟨g1_0_0, g1_0_1, g1_0_2, g1_0_3⟩, b4.later h ⟨g1_1_0, g1_1_1, g1_1_2, g1_1_3⟩, b3.later h ⟨g1_2_0, g1_2_1, g1_2_2⟩, b3.later h ⟨g1_3_0, g1_3_1, g1_3_2⟩, b4.later h ⟨g1_4_0, g1_4_1, g1_4_2, g1_4_3⟩, b4.later h ⟨g1_5_0, g1_5_1, g1_5_2, g1_5_3⟩⟩
  refine wp_region_held_drew (S := fun w' => Below W1.heap.size W1 w' ∧ b4 w' w.heap.size n a0 a1 a2 ∧ b4 w' (w.heap.size + 1) m b0 b1 b2 ∧ b3 w' (w.heap.size + 1 + 1) x y z ∧ b3 w' t1.heap.size 0 0 0 ∧ b4 w' t2.heap.size 0 0 0 0 ∧ b4 w' t3.heap.size un u0 u1 u2) (by kernel_rfl) (mkq1 _ ((Below.refl _ _).drew)) (fun hHeld => ?_)
  refine rOne 0 rfl (fun K hK => ?_)
  go_simp
  go_at_call 15
  (with_reducible refine (Hq _ (b_step gb1 hHeld.1 gb1.size)).mono ?_)
  rintro e rq11 ⟨rfl, zq11⟩
  go_wp2_with fail
  refine hK.out _ _ (mkq1 _ (b_step hHeld.1 zq11 hHeld.1.size)) (fun hHeld2 => ?_)
  clear hK K hHeld
  have hHeld := hHeld2
  clear hHeld2
  (try simp only [Act.put, pSa, pSb, pSc])
  refine tkY 1 ?_ rfl ?_ ?_ (by assumption)
  rotate_left
  · intro w h; simp only [b3, b4, b6, cE] at h; go_simp <;> with_reducible rfl
  (try simp only [Act.put, pSa, pSb, pSc])
  refine tkY 2 ?_ rfl ?_ ?_ (by assumption)
  rotate_left
  · intro w h; simp only [b3, b4, b6, cE] at h; go_simp <;> with_reducible rfl
  (try simp only [Act.put, pSa, pSb, pSc])
  refine tkY 3 ?_ rfl ?_ ?_ (by assumption)
  rotate_left
  · intro w h; simp only [b3, b4, b6, cE] at h; go_simp <;> with_reducible rfl
  (try simp only [Act.put, pSa, pSb, pSc])
  refine tkY 4 ?_ rfl ?_ ?_ (by assumption)
  rotate_left
  · intro w h; simp only [b3, b4, b6, cE] at h; go_simp <;> with_reducible rfl
  (try simp only [Act.put, pSa, pSb, pSc])
  refine tkN 5 rfl ?_ (by assumption)
  (try simp only [Act.put, pSa, pSb, pSc])
  refine tkN 6 rfl ?_ (by assumption)
  (try simp only [Act.put, pSa, pSb, pSc])
  refine tkN 7 rfl ?_ (by assumption)
  (try simp only [Act.put, pSa, pSb, pSc])
  refine tkN 8 rfl ?_ (by assumption)
  (try simp only [Act.put, pSa, pSb, pSc])
  refine tkN 9 rfl ?_ (by assumption)
  (try simp only [Act.put, pSa, pSb, pSc])
  refine tkY 10 ?_ rfl ?_ ?_ (by assumption)
  rotate_left
  · intro w h; simp only [b3, b4, b6, cE] at h; go_simp <;> with_reducible rfl
  (try simp only [Act.put, pSa, pSb, pSc])
  refine tkY 11 ?_ rfl ?_ ?_ (by assumption)
  rotate_left
  · intro w h; simp only [b3, b4, b6, cE] at h; go_simp <;> with_reducible rfl
  (try simp only [Act.put, pSa, pSb, pSc])
  refine tkY 12 ?_ rfl ?_ ?_ (by assumption)
  rotate_left
  · intro w h; simp only [b3, b4, b6, cE] at h; go_simp <;> with_reducible rfl
  (try simp only [Act.put, pSa, pSb, pSc])
  refine tkY 13 ?_ rfl ?_ ?_ (by assumption)
  rotate_left
  · intro w h; simp only [b3, b4, b6, cE] at h; go_simp <;> with_reducible rfl
  (try simp only [Act.put, pSa, pSb, pSc])
  refine tkY 14 ?_ rfl ?_ ?_ (by assumption)
  rotate_left
  · intro w h; simp only [b3, b4, b6, cE] at h; go_simp <;> with_reducible rfl
  (try simp only [Act.put, pSa, pSb, pSc])
  refine tkY 15 ?_ rfl ?_ ?_ (by assumption)
  rotate_left
  · intro w h; simp only [b3, b4, b6, cE] at h; go_simp <;> with_reducible rfl
  (try simp only [Act.put, pSa, pSb, pSc])
  refine tkY 16 ?_ rfl ?_ ?_ (by assumption)
  rotate_left
  · intro w h; simp only [b3, b4, b6, cE] at h; go_simp <;> with_reducible rfl
  (try simp only [Act.put, pSa, pSb, pSc])
  refine tkY 17 ?_ rfl ?_ ?_ (by assumption)
  rotate_left
  · intro w h; simp only [b3, b4, b6, cE] at h; go_simp <;> with_reducible rfl
  (try simp only [Act.put, pSa, pSb, pSc])
  refine tkY 18 ?_ rfl ?_ ?_ (by assumption)
  rotate_left
  · intro w h; simp only [b3, b4, b6, cE] at h; go_simp <;> with_reducible rfl
  (try simp only [Act.put, pSa, pSb, pSc])
  refine tkY 19 ?_ rfl ?_ ?_ (by assumption)
  rotate_left
  · intro w h; simp only [b3, b4, b6, cE] at h; go_simp <;> with_reducible rfl
  (try simp only [Act.put, pSa, pSb, pSc])
  refine tkY 20 ?_ rfl ?_ ?_ (by assumption)
  rotate_left
  · intro w h; simp only [b3, b4, b6, cE] at h; go_simp <;> with_reducible rfl
  (try simp only [Act.put, pSa, pSb, pSc])
  refine tkY 21 ?_ rfl ?_ ?_ (by assumption)
  rotate_left
  · intro w h; simp only [b3, b4, b6, cE] at h; go_simp <;> with_reducible rfl
  (try simp only [Act.put, pSa, pSb, pSc])
  refine tkY 22 ?_ rfl ?_ ?_ (by assumption)
  rotate_left
  · intro w h; simp only [b3, b4, b6, cE] at h; go_simp <;> with_reducible rfl
  (try simp only [Act.put, pSa, pSb, pSc])
  refine tkY 23 ?_ rfl ?_ ?_ (by assumption)
  rotate_left
  · intro w h; simp only [b3, b4, b6, cE] at h; go_simp <;> with_reducible rfl
  (try simp only [Act.put, pSa, pSb, pSc])
  refine tkY 24 ?_ rfl ?_ ?_ (by assumption)
  rotate_left
  · intro w h; simp only [b3, b4, b6, cE] at h; go_simp <;> with_reducible rfl
  (try simp only [Act.put, pSa, pSb, pSc])
  refine tkN 25 rfl ?_ (by assumption)
  (try simp only [Act.put, pSa, pSb, pSc])
  refine tkN 26 rfl ?_ (by assumption)
  (try simp only [Act.put, pSa, pSb, pSc])
  refine tkN 27 rfl ?_ (by assumption)
  (try simp only [Act.put, pSa, pSb, pSc])
  refine tkN 28 rfl ?_ (by assumption)
  (try simp only [Act.put, pSa, pSb, pSc])
  refine tkN 29 rfl ?_ (by assumption)
  (try simp only [Act.put, pSa, pSb, pSc])
  refine tkY 30 ?_ rfl ?_ ?_ (by assumption)
  rotate_left
  · intro w h; simp only [b3, b4, b6, cE] at h; go_simp <;> with_reducible rfl
  (try simp only [Act.put, pSa, pSb, pSc])
  refine tkY 31 ?_ rfl ?_ ?_ (by assumption)
  rotate_left
  · intro w h; simp only [b3, b4, b6, cE] at h; go_simp <;> with_reducible rfl
  (try simp only [Act.put, pSa, pSb, pSc])
  refine tkY 32 ?_ rfl ?_ ?_ (by assumption)
  rotate_left
  · intro w h; simp only [b3, b4, b6, cE] at h; go_simp <;> with_reducible rfl
  (try simp only [Act.put, pSa, pSb, pSc])
  refine tkY 33 ?_ rfl ?_ ?_ (by assumption)
  rotate_left
  · intro w h; simp only [b3, b4, b6, cE] at h; go_simp <;> with_reducible rfl
  (try simp only [Act.put, pSa, pSb, pSc])
  refine tkY 34 ?_ rfl ?_ ?_ (by assumption)
  rotate_left
  · intro w h; simp only [b3, b4, b6, cE] at h; go_simp <;> with_reducible rfl
  (try simp only [Act.put, pSa, pSb, pSc])
  refine tkY 35 ?_ rfl ?_ ?_ (by assumption)
  rotate_left
  · intro w h; simp only [b3, b4, b6, cE] at h; go_simp <;> with_reducible rfl
  (try simp only [Act.put, pSa, pSb, pSc])
  refine tkY 36 ?_ rfl ?_ ?_ (by assumption)
  rotate_left
  · intro w h; simp only [b3, b4, b6, cE] at h; go_simp <;> with_reducible rfl
  (try simp only [Act.put, pSa, pSb, pSc])
  refine tkY 37 ?_ rfl ?_ ?_ (by assumption)
  rotate_left
  · intro w h; simp only [b3, b4, b6, cE] at h; go_simp <;> with_reducible rfl
  (try simp only [Act.put, pSa, pSb, pSc])
  refine tkY 38 ?_ rfl ?_ ?_ (by assumption)
  rotate_left
  · intro w h; simp only [b3, b4, b6, cE] at h; go_simp <;> with_reducible rfl
  (try simp only [Act.put, pSa, pSb, pSc])
  refine tkY 39 ?_ rfl ?_ ?_ (by assumption)
  rotate_left
  · intro w h; simp only [b3, b4, b6, cE] at h; go_simp <;> with_reducible rfl
  (try simp only [Act.put, pSa, pSb, pSc])
  refine tkY 40 ?_ rfl ?_ ?_ (by assumption)
  rotate_left
  · intro w h; simp only [b3, b4, b6, cE] at h; go_simp <;> with_reducible rfl
  (try simp only [Act.put, pSa, pSb, pSc])
  refine tkY 41 ?_ rfl ?_ ?_ (by assumption)
  rotate_left
  · intro w h; simp only [b3, b4, b6, cE] at h; go_simp <;> with_reducible rfl
  (try simp only [Act.put, pSa, pSb, pSc])
  refine tkY 42 ?_ rfl ?_ ?_ (by assumption)
  rotate_left
  · intro w h; simp only [b3, b4, b6, cE] at h; go_simp <;> with_reducible rfl
  (try simp only [Act.put, pSa, pSb, pSc])
  refine tkY 43 ?_ rfl ?_ ?_ (by assumption)
  rotate_left
  · intro w h; simp only [b3, b4, b6, cE] at h; go_simp <;> with_reducible rfl
  (try simp only [Act.put, pSa, pSb, pSc])
  refine tkY 44 ?_ rfl ?_ ?_ (by assumption)
  rotate_left
  · intro w h; simp only [b3, b4, b6, cE] at h; go_simp <;> with_reducible rfl
  (try simp only [Act.put, pSa, pSb, pSc])
  refine tkY 45 ?_ rfl ?_ ?_ (by assumption)
  rotate_left
  · intro w h; simp only [b3, b4, b6, cE] at h; go_simp <;> with_reducible rfl
  (try simp only [Act.put, pSa, pSb, pSc])
  refine tkY 46 ?_ rfl ?_ ?_ (by assumption)
  rotate_left
  · intro w h; simp only [b3, b4, b6, cE] at h; go_simp <;> with_reducible rfl
  (try simp only [Act.put, pSa, pSb, pSc])
  refine rOne 47 rfl (fun K hK => ?_)
  go_simp
  go_at_call 46
  (with_reducible refine (R3 _).mono ?_)
  rintro e rq12 ⟨rfl, zq12⟩
  go_wp2_with fail
  refine hK.out _ _ (mkq1 _ (b_step hHeld.1 zq12 hHeld.1.size)) (fun hHeld2 => ?_)
  clear hK K hHeld
  have hHeld := hHeld2
  clear hHeld2
  (try simp only [Act.put, pSa, pSb, pSc])
  refine tkY 48 ?_ rfl ?_ ?_ (by assumption)
  rotate_left
  · intro w h; simp only [b3, b4, b6, cE] at h; go_simp <;> with_reducible rfl
  (try simp only [Act.put, pSa, pSb, pSc])
  refine tkY 49 ?_ rfl ?_ ?_ (by assumption)
  rotate_left
  · intro w h; simp only [b3, b4, b6, cE] at h; go_simp <;> with_reducible rfl
  (try simp only [Act.put, pSa, pSb, pSc])
  refine tkY 50 ?_ rfl ?_ ?_ (by assumption)
  rotate_left
  · intro w h; simp only [b3, b4, b6, cE] at h; go_simp <;> with_reducible rfl
  (try simp only [Act.put, pSa, pSb, pSc])
  refine tkN 51 rfl ?_ (by assumption)
  (try simp only [Act.put, pSa, pSb, pSc])
  refine tkN 52 rfl ?_ (by assumption)
  (try simp only [Act.put, pSa, pSb, pSc])
  refine tkN 53 rfl ?_ (by assumption)
  (try simp only [Act.put, pSa, pSb, pSc])
  refine tkN 54 rfl ?_ (by assumption)
  (try simp only [Act.put, pSa, pSb, pSc])
  refine tkN 55 rfl ?_ (by assumption)
  (try simp only [Act.put, pSa, pSb, pSc])
  refine tkN 56 rfl ?_ (by assumption)
  (try simp only [Act.put, pSa, pSb, pSc])
  refine tkN 57 rfl ?_ (by assumption)
  (try simp only [Act.put, pSa, pSb, pSc])
  refine tkY 58 ?_ rfl ?_ ?_ (by assumption)
  rotate_left
  · intro w h; simp only [b3, b4, b6, cE] at h; go_simp <;> with_reducible rfl
  (try simp only [Act.put, pSa, pSb, pSc])
  refine tkY 59 ?_ rfl ?_ ?_ (by assumption)
  rotate_left
  · intro w h; simp only [b3, b4, b6, cE] at h; go_simp <;> with_reducible rfl
  (try simp only [Act.put, pSa, pSb, pSc])
  refine tkY 60 ?_ rfl ?_ ?_ (by assumption)
  rotate_left
  · intro w h; simp only [b3, b4, b6, cE] at h; go_simp <;> with_reducible rfl
  (try simp only [Act.put, pSa, pSb, pSc])
  refine wpAnyH_done (by kernel_rfl) ?_ _
  have belq1 := b_step gb1 hHeld.1 gb1.size
  obtain ⟨-, ⟨h1_0_0, h1_0_1, h1_0_2, h1_0_3⟩, ⟨h1_1_0, h1_1_1, h1_1_2, h1_1_3⟩, ⟨h1_2_0, h1_2_1, h1_2_2⟩, ⟨h1_3_0, h1_3_1, h1_3_2⟩, ⟨h1_4_0, h1_4_1, h1_4_2, h1_4_3⟩, ⟨h1_5_0, h1_5_1, h1_5_2, h1_5_3⟩⟩ := hHeld
  clear gb1 mkq1 g1_0_0 g1_0_1 g1_0_2 g1_0_3 g1_1_0 g1_1_1 g1_1_2 g1_1_3 g1_2_0 g1_2_1 g1_2_2 g1_3_0 g1_3_1 g1_3_2 g1_4_0 g1_4_1 g1_4_2 g1_4_3 g1_5_0 g1_5_1 g1_5_2 g1_5_3
  have zh1_0 := World.block_lt_of_cell? _ _ h1_0_0
  have zh1_1 := World.block_lt_of_cell? _ _ h1_1_0
  have zh1_2 := World.block_lt_of_cell? _ _ h1_2_0
  have zh1_3 := World.block_lt_of_cell? _ _ h1_3_0
  have zh1_4 := World.block_lt_of_cell? _ _ h1_4_0
  have zh1_5 := World.block_lt_of_cell? _ _ h1_5_0
  go_wp2
  go_ret
  exact ⟨rfl, belq1⟩

set_option maxRecDepth 100000 in
set_option maxHeartbeats 16000000 in
theorem poses_12 (n a0 a1 a2 m b0 b1 b2 x y z v0 v1 v2 jn j0 j1 j2 un u0 u1 u2 : Int) (w : World)
    (Hq : ∀ W, Below w.heap.size w W → Calls Tryd.prog 15 #[] W fun r w' => r = .returned (.bool true) ∧ Below W.heap.size W w')
    (H1 : ∀ w, Calls Tryd.prog 43 #[vP n a0 a1 a2, vV x y z] w fun r w' => r = .returned (.tuple #[vV 0 0 0, .int .i64 6]) ∧ Below w.heap.size w w')
    (H2 : ∀ w, Calls Tryd.prog 42 #[vP n a0 a1 a2, vP m b0 b1 b2] w fun r w' => r = .returned (.tuple #[vP jn j0 j1 j2, .int .i64 0]) ∧ Below w.heap.size w w')
    (H3 : ∀ w, Calls Tryd.prog 41 #[vP n a0 a1 a2] w fun r w' => r = .returned (.tuple #[vP un u0 u1 u2, .int .i64 0]) ∧ Below w.heap.size w w')
    (In : ∀ w, Calls Tryd.prog 14 #[.int .i64 n] w fun e w' => e = .returned (.bool true) ∧ w = w')
    (Im : ∀ w, Calls Tryd.prog 14 #[.int .i64 m] w fun e w' => e = .returned (.bool true) ∧ w = w')
    (Na : ∀ w, Calls Tryd.prog 17 #[vV a0 a1 a2] w fun r w' => r = .returned (.bool true) ∧ Below w.heap.size w w')
    (Np : ∀ w, Calls Tryd.prog 17 #[vV x y z] w fun r w' => r = .returned (.bool true) ∧ Below w.heap.size w w')
    (Hp : ∀ w, Calls Tryd.prog 44 #[vP n a0 a1 a2, vV x y z] w fun r w' => r = .returned (vV v0 v1 v2) ∧ Below w.heap.size w w')
    (Nv : ∀ w, Calls Tryd.prog 17 #[vV v0 v1 v2] w fun r w' => r = .returned (.bool false) ∧ Below w.heap.size w w')
    (Nb : ∀ w, Calls Tryd.prog 17 #[vV b0 b1 b2] w fun r w' => r = .returned (.bool true) ∧ Below w.heap.size w w')
    (Hj : ∀ w, Calls Tryd.prog 44 #[vP n a0 a1 a2, vV b0 b1 b2] w fun r w' => r = .returned (vV j0 j1 j2) ∧ Below w.heap.size w w')
    (Nj : ∀ w, Calls Tryd.prog 17 #[vV j0 j1 j2] w fun r w' => r = .returned (.bool true) ∧ Below w.heap.size w w')
    (R2 : ∀ w, Calls Tryd.prog 45 #[vP n a0 a1 a2, vP m b0 b1 b2] w fun r w' => r = .returned (vP jn j0 j1 j2) ∧ Below w.heap.size w w')
    (R3 : ∀ w, Calls Tryd.prog 46 #[vP n a0 a1 a2] w fun r w' => r = .returned (vP un u0 u1 u2) ∧ Below w.heap.size w w') :
    Calls Tryd.prog 10 #[vP n a0 a1 a2, vP m b0 b1 b2, vV x y z] w fun e w' => e = .returned (.bool true) ∧ Below w.heap.size w w' := by
  have ej : ∀ w, (binOp .eql 25 (vP jn j0 j1 j2) (vP jn j0 j1 j2)).run Tryd.prog w = .ok (.bool true) w := fun w => by rw [eql_P, decide_eq_true (by simp)]
  have eu : ∀ w, (binOp .eql 25 (vP un u0 u1 u2) (vP un u0 u1 u2)).run Tryd.prog w = .ok (.bool true) w := fun w => by rw [eql_P, decide_eq_true (by simp)]
  go_enter Tryd.func10, Tryd.ntmps10
  go_wp2_with fail
  go_at_call 43
  (with_reducible refine (H1 _).mono ?_)
  rintro e t1 ⟨rfl, y1⟩
  have hyy := y1.size
  (try simp only [World.size_alloc, World.size_setCell, World.size_drew] at hyy)
  obtain ⟨⟨c1_0_0, c1_0_1, c1_0_2, c1_0_3⟩, ⟨c1_1_0, c1_1_1, c1_1_2, c1_1_3⟩, ⟨c1_2_0, c1_2_1, c1_2_2⟩, bel1⟩ : b4 t1 w.heap.size n a0 a1 a2 ∧ b4 t1 (w.heap.size + 1) m b0 b1 b2 ∧ b3 t1 (w.heap.size + 1 + 1) x y z ∧ Below w.heap.size w t1 := by
    refine ⟨?_, ?_, ?_, b_step (by (repeat' (first | (with_reducible assumption) | (with_reducible exact Below.refl _ _) | (with_reducible refine Below.alloc ?_ ?_ _) | (with_reducible refine Below.drew ?_) | (with_reducible refine Below.setCell ?_ ?_ _) | (with_reducible refine b_step ?_ (by assumption) ?_) | omega | (simp only [World.size_alloc, World.size_setCell, World.size_drew]; omega)))) y1 (by simp only [World.size_alloc, World.size_setCell, World.size_drew]; omega)⟩ <;> (repeat' apply And.intro) <;> exact cell_later y1 (by (simp (disch := first | omega | (simp only [World.size_alloc, World.size_setCell, World.size_drew]; done) | (simp only [World.size_alloc, World.size_setCell, World.size_drew]; omega)) only [*, r_set_same, r_set_off, r_set_blk, r_set_f, r_alloc_at, r_alloc_past, r_falloc_at, r_falloc_past, World.cell?_drew, World.frozen?_drew, Option.map_some, List.getElem?_toArray, List.getElem?_cons_zero, List.getElem?_cons_succ]; done))
  clear hyy y1 
  have zc1_0 := World.block_lt_of_cell? _ _ c1_0_0
  have zc1_1 := World.block_lt_of_cell? _ _ c1_1_0
  have zc1_2 := World.block_lt_of_cell? _ _ c1_2_0
  go_wp2_with fail
  go_at_call 42
  (with_reducible refine (H2 _).mono ?_)
  rintro e t2 ⟨rfl, y2⟩
  obtain ⟨⟨c2_0_0, c2_0_1, c2_0_2, c2_0_3⟩, ⟨c2_1_0, c2_1_1, c2_1_2, c2_1_3⟩, ⟨c2_2_0, c2_2_1, c2_2_2⟩, ⟨c2_3_0, c2_3_1, c2_3_2⟩, bel2⟩ : b4 t2 w.heap.size n a0 a1 a2 ∧ b4 t2 (w.heap.size + 1) m b0 b1 b2 ∧ b3 t2 (w.heap.size + 1 + 1) x y z ∧ b3 t2 t1.heap.size 0 0 0 ∧ Below w.heap.size w t2 := by
    refine ⟨?_, ?_, ?_, ?_, bs1 bel1 y2⟩ <;> (repeat' apply And.intro) <;> exact cell_later y2 (by (first | assumption | exact c_alloc (by assumption) | exact c_at rfl rfl))
  clear y2 c1_0_0 c1_0_1 c1_0_2 c1_0_3 c1_1_0 c1_1_1 c1_1_2 c1_1_3 c1_2_0 c1_2_1 c1_2_2 bel1 zc1_0 zc1_1 zc1_2
  have zc2_0 := World.block_lt_of_cell? _ _ c2_0_0
  have zc2_1 := World.block_lt_of_cell? _ _ c2_1_0
  have zc2_2 := World.block_lt_of_cell? _ _ c2_2_0
  have zc2_3 := World.block_lt_of_cell? _ _ c2_3_0
  go_wp2_with fail
  go_at_call 41
  (with_reducible refine (H3 _).mono ?_)
  rintro e t3 ⟨rfl, y3⟩
  obtain ⟨⟨c3_0_0, c3_0_1, c3_0_2, c3_0_3⟩, ⟨c3_1_0, c3_1_1, c3_1_2, c3_1_3⟩, ⟨c3_2_0, c3_2_1, c3_2_2⟩, ⟨c3_3_0, c3_3_1, c3_3_2⟩, ⟨c3_4_0, c3_4_1, c3_4_2, c3_4_3⟩, bel3⟩ : b4 t3 w.heap.size n a0 a1 a2 ∧ b4 t3 (w.heap.size + 1) m b0 b1 b2 ∧ b3 t3 (w.heap.size + 1 + 1) x y z ∧ b3 t3 t1.heap.size 0 0 0 ∧ b4 t3 t2.heap.size jn j0 j1 j2 ∧ Below w.heap.size w t3 := by
    refine ⟨?_, ?_, ?_, ?_, ?_, bs1 bel2 y3⟩ <;> (repeat' apply And.intro) <;> exact cell_later y3 (by (first | assumption | exact c_alloc (by assumption) | exact c_at rfl rfl))
  clear y3 c2_0_0 c2_0_1 c2_0_2 c2_0_3 c2_1_0 c2_1_1 c2_1_2 c2_1_3 c2_2_0 c2_2_1 c2_2_2 c2_3_0 c2_3_1 c2_3_2 bel2 zc2_0 zc2_1 zc2_2 zc2_3
  have zc3_0 := World.block_lt_of_cell? _ _ c3_0_0
  have zc3_1 := World.block_lt_of_cell? _ _ c3_1_0
  have zc3_2 := World.block_lt_of_cell? _ _ c3_2_0
  have zc3_3 := World.block_lt_of_cell? _ _ c3_3_0
  have zc3_4 := World.block_lt_of_cell? _ _ c3_4_0
  go_wp2_with fail
  go_at_call 14
  (with_reducible refine (In _).mono ?_)
  rintro e tt ⟨rfl, rfl⟩
  go_wp2_with fail
  go_at_call 14
  (with_reducible refine (Im _).mono ?_)
  rintro e tt ⟨rfl, rfl⟩
  go_wp2_with fail
  go_at_call 17
  (with_reducible refine (Na _).mono ?_)
  rintro e t4 ⟨rfl, y4⟩
  obtain ⟨⟨c4_0_0, c4_0_1, c4_0_2, c4_0_3⟩, ⟨c4_1_0, c4_1_1, c4_1_2, c4_1_3⟩, ⟨c4_2_0, c4_2_1, c4_2_2⟩, ⟨c4_3_0, c4_3_1, c4_3_2⟩, ⟨c4_4_0, c4_4_1, c4_4_2, c4_4_3⟩, ⟨c4_5_0, c4_5_1, c4_5_2, c4_5_3⟩, bel4⟩ : b4 t4 w.heap.size n a0 a1 a2 ∧ b4 t4 (w.heap.size + 1) m b0 b1 b2 ∧ b3 t4 (w.heap.size + 1 + 1) x y z ∧ b3 t4 t1.heap.size 0 0 0 ∧ b4 t4 t2.heap.size jn j0 j1 j2 ∧ b4 t4 t3.heap.size un u0 u1 u2 ∧ Below w.heap.size w t4 := by
    refine ⟨?_, ?_, ?_, ?_, ?_, ?_, bs1 bel3 y4⟩ <;> (repeat' apply And.intro) <;> exact cell_later y4 (by (first | assumption | exact c_alloc (by assumption) | exact c_at rfl rfl))
  clear y4 c3_0_0 c3_0_1 c3_0_2 c3_0_3 c3_1_0 c3_1_1 c3_1_2 c3_1_3 c3_2_0 c3_2_1 c3_2_2 c3_3_0 c3_3_1 c3_3_2 c3_4_0 c3_4_1 c3_4_2 c3_4_3 bel3 zc3_0 zc3_1 zc3_2 zc3_3 zc3_4
  have zc4_0 := World.block_lt_of_cell? _ _ c4_0_0
  have zc4_1 := World.block_lt_of_cell? _ _ c4_1_0
  have zc4_2 := World.block_lt_of_cell? _ _ c4_2_0
  have zc4_3 := World.block_lt_of_cell? _ _ c4_3_0
  have zc4_4 := World.block_lt_of_cell? _ _ c4_4_0
  have zc4_5 := World.block_lt_of_cell? _ _ c4_5_0
  go_wp2_with fail
  go_at_call 17
  (with_reducible refine (Na _).mono ?_)
  rintro e t5 ⟨rfl, y5⟩
  obtain ⟨⟨c5_0_0, c5_0_1, c5_0_2, c5_0_3⟩, ⟨c5_1_0, c5_1_1, c5_1_2, c5_1_3⟩, ⟨c5_2_0, c5_2_1, c5_2_2⟩, ⟨c5_3_0, c5_3_1, c5_3_2⟩, ⟨c5_4_0, c5_4_1, c5_4_2, c5_4_3⟩, ⟨c5_5_0, c5_5_1, c5_5_2, c5_5_3⟩, bel5⟩ : b4 t5 w.heap.size n a0 a1 a2 ∧ b4 t5 (w.heap.size + 1) m b0 b1 b2 ∧ b3 t5 (w.heap.size + 1 + 1) x y z ∧ b3 t5 t1.heap.size 0 0 0 ∧ b4 t5 t2.heap.size jn j0 j1 j2 ∧ b4 t5 t3.heap.size un u0 u1 u2 ∧ Below w.heap.size w t5 := by
    refine ⟨?_, ?_, ?_, ?_, ?_, ?_, bs0 bel4 y5⟩ <;> (repeat' apply And.intro) <;> exact cell_later y5 (by (first | assumption | exact c_alloc (by assumption) | exact c_at rfl rfl))
  clear y5 c4_0_0 c4_0_1 c4_0_2 c4_0_3 c4_1_0 c4_1_1 c4_1_2 c4_1_3 c4_2_0 c4_2_1 c4_2_2 c4_3_0 c4_3_1 c4_3_2 c4_4_0 c4_4_1 c4_4_2 c4_4_3 c4_5_0 c4_5_1 c4_5_2 c4_5_3 bel4 zc4_0 zc4_1 zc4_2 zc4_3 zc4_4 zc4_5
  have zc5_0 := World.block_lt_of_cell? _ _ c5_0_0
  have zc5_1 := World.block_lt_of_cell? _ _ c5_1_0
  have zc5_2 := World.block_lt_of_cell? _ _ c5_2_0
  have zc5_3 := World.block_lt_of_cell? _ _ c5_3_0
  have zc5_4 := World.block_lt_of_cell? _ _ c5_4_0
  have zc5_5 := World.block_lt_of_cell? _ _ c5_5_0
  go_wp2_with fail
  go_at_call 17
  (with_reducible refine (Np _).mono ?_)
  rintro e t6 ⟨rfl, y6⟩
  obtain ⟨⟨c6_0_0, c6_0_1, c6_0_2, c6_0_3⟩, ⟨c6_1_0, c6_1_1, c6_1_2, c6_1_3⟩, ⟨c6_2_0, c6_2_1, c6_2_2⟩, ⟨c6_3_0, c6_3_1, c6_3_2⟩, ⟨c6_4_0, c6_4_1, c6_4_2, c6_4_3⟩, ⟨c6_5_0, c6_5_1, c6_5_2, c6_5_3⟩, bel6⟩ : b4 t6 w.heap.size n a0 a1 a2 ∧ b4 t6 (w.heap.size + 1) m b0 b1 b2 ∧ b3 t6 (w.heap.size + 1 + 1) x y z ∧ b3 t6 t1.heap.size 0 0 0 ∧ b4 t6 t2.heap.size jn j0 j1 j2 ∧ b4 t6 t3.heap.size un u0 u1 u2 ∧ Below w.heap.size w t6 := by
    refine ⟨?_, ?_, ?_, ?_, ?_, ?_, bs0 bel5 y6⟩ <;> (repeat' apply And.intro) <;> exact cell_later y6 (by (first | assumption | exact c_alloc (by assumption) | exact c_at rfl rfl))
  clear y6 c5_0_0 c5_0_1 c5_0_2 c5_0_3 c5_1_0 c5_1_1 c5_1_2 c5_1_3 c5_2_0 c5_2_1 c5_2_2 c5_3_0 c5_3_1 c5_3_2 c5_4_0 c5_4_1 c5_4_2 c5_4_3 c5_5_0 c5_5_1 c5_5_2 c5_5_3 bel5 zc5_0 zc5_1 zc5_2 zc5_3 zc5_4 zc5_5
  have zc6_0 := World.block_lt_of_cell? _ _ c6_0_0
  have zc6_1 := World.block_lt_of_cell? _ _ c6_1_0
  have zc6_2 := World.block_lt_of_cell? _ _ c6_2_0
  have zc6_3 := World.block_lt_of_cell? _ _ c6_3_0
  have zc6_4 := World.block_lt_of_cell? _ _ c6_4_0
  have zc6_5 := World.block_lt_of_cell? _ _ c6_5_0
  go_wp2_with fail
  go_at_call 44
  (with_reducible refine (Hp _).mono ?_)
  rintro e t7 ⟨rfl, y7⟩
  obtain ⟨⟨c7_0_0, c7_0_1, c7_0_2, c7_0_3⟩, ⟨c7_1_0, c7_1_1, c7_1_2, c7_1_3⟩, ⟨c7_2_0, c7_2_1, c7_2_2⟩, ⟨c7_3_0, c7_3_1, c7_3_2⟩, ⟨c7_4_0, c7_4_1, c7_4_2, c7_4_3⟩, ⟨c7_5_0, c7_5_1, c7_5_2, c7_5_3⟩, bel7⟩ : b4 t7 w.heap.size n a0 a1 a2 ∧ b4 t7 (w.heap.size + 1) m b0 b1 b2 ∧ b3 t7 (w.heap.size + 1 + 1) x y z ∧ b3 t7 t1.heap.size 0 0 0 ∧ b4 t7 t2.heap.size jn j0 j1 j2 ∧ b4 t7 t3.heap.size un u0 u1 u2 ∧ Below w.heap.size w t7 := by
    refine ⟨?_, ?_, ?_, ?_, ?_, ?_, bs0 bel6 y7⟩ <;> (repeat' apply And.intro) <;> exact cell_later y7 (by (first | assumption | exact c_alloc (by assumption) | exact c_at rfl rfl))
  clear y7 c6_0_0 c6_0_1 c6_0_2 c6_0_3 c6_1_0 c6_1_1 c6_1_2 c6_1_3 c6_2_0 c6_2_1 c6_2_2 c6_3_0 c6_3_1 c6_3_2 c6_4_0 c6_4_1 c6_4_2 c6_4_3 c6_5_0 c6_5_1 c6_5_2 c6_5_3 bel6 zc6_0 zc6_1 zc6_2 zc6_3 zc6_4 zc6_5
  have zc7_0 := World.block_lt_of_cell? _ _ c7_0_0
  have zc7_1 := World.block_lt_of_cell? _ _ c7_1_0
  have zc7_2 := World.block_lt_of_cell? _ _ c7_2_0
  have zc7_3 := World.block_lt_of_cell? _ _ c7_3_0
  have zc7_4 := World.block_lt_of_cell? _ _ c7_4_0
  have zc7_5 := World.block_lt_of_cell? _ _ c7_5_0
  go_wp2_with fail
  go_at_call 17
  (with_reducible refine (Nv _).mono ?_)
  rintro e t8 ⟨rfl, y8⟩
  obtain ⟨⟨c8_0_0, c8_0_1, c8_0_2, c8_0_3⟩, ⟨c8_1_0, c8_1_1, c8_1_2, c8_1_3⟩, ⟨c8_2_0, c8_2_1, c8_2_2⟩, ⟨c8_3_0, c8_3_1, c8_3_2⟩, ⟨c8_4_0, c8_4_1, c8_4_2, c8_4_3⟩, ⟨c8_5_0, c8_5_1, c8_5_2, c8_5_3⟩, bel8⟩ : b4 t8 w.heap.size n a0 a1 a2 ∧ b4 t8 (w.heap.size + 1) m b0 b1 b2 ∧ b3 t8 (w.heap.size + 1 + 1) x y z ∧ b3 t8 t1.heap.size 0 0 0 ∧ b4 t8 t2.heap.size jn j0 j1 j2 ∧ b4 t8 t3.heap.size un u0 u1 u2 ∧ Below w.heap.size w t8 := by
    refine ⟨?_, ?_, ?_, ?_, ?_, ?_, bs0 bel7 y8⟩ <;> (repeat' apply And.intro) <;> exact cell_later y8 (by (first | assumption | exact c_alloc (by assumption) | exact c_at rfl rfl))
  clear y8 c7_0_0 c7_0_1 c7_0_2 c7_0_3 c7_1_0 c7_1_1 c7_1_2 c7_1_3 c7_2_0 c7_2_1 c7_2_2 c7_3_0 c7_3_1 c7_3_2 c7_4_0 c7_4_1 c7_4_2 c7_4_3 c7_5_0 c7_5_1 c7_5_2 c7_5_3 bel7 zc7_0 zc7_1 zc7_2 zc7_3 zc7_4 zc7_5
  have zc8_0 := World.block_lt_of_cell? _ _ c8_0_0
  have zc8_1 := World.block_lt_of_cell? _ _ c8_1_0
  have zc8_2 := World.block_lt_of_cell? _ _ c8_2_0
  have zc8_3 := World.block_lt_of_cell? _ _ c8_3_0
  have zc8_4 := World.block_lt_of_cell? _ _ c8_4_0
  have zc8_5 := World.block_lt_of_cell? _ _ c8_5_0
  go_wp2_with fail
  go_at_call 17
  (with_reducible refine (Na _).mono ?_)
  rintro e t9 ⟨rfl, y9⟩
  obtain ⟨⟨c9_0_0, c9_0_1, c9_0_2, c9_0_3⟩, ⟨c9_1_0, c9_1_1, c9_1_2, c9_1_3⟩, ⟨c9_2_0, c9_2_1, c9_2_2⟩, ⟨c9_3_0, c9_3_1, c9_3_2⟩, ⟨c9_4_0, c9_4_1, c9_4_2, c9_4_3⟩, ⟨c9_5_0, c9_5_1, c9_5_2, c9_5_3⟩, bel9⟩ : b4 t9 w.heap.size n a0 a1 a2 ∧ b4 t9 (w.heap.size + 1) m b0 b1 b2 ∧ b3 t9 (w.heap.size + 1 + 1) x y z ∧ b3 t9 t1.heap.size 0 0 0 ∧ b4 t9 t2.heap.size jn j0 j1 j2 ∧ b4 t9 t3.heap.size un u0 u1 u2 ∧ Below w.heap.size w t9 := by
    refine ⟨?_, ?_, ?_, ?_, ?_, ?_, bs0 bel8 y9⟩ <;> (repeat' apply And.intro) <;> exact cell_later y9 (by (first | assumption | exact c_alloc (by assumption) | exact c_at rfl rfl))
  clear y9 c8_0_0 c8_0_1 c8_0_2 c8_0_3 c8_1_0 c8_1_1 c8_1_2 c8_1_3 c8_2_0 c8_2_1 c8_2_2 c8_3_0 c8_3_1 c8_3_2 c8_4_0 c8_4_1 c8_4_2 c8_4_3 c8_5_0 c8_5_1 c8_5_2 c8_5_3 bel8 zc8_0 zc8_1 zc8_2 zc8_3 zc8_4 zc8_5
  have zc9_0 := World.block_lt_of_cell? _ _ c9_0_0
  have zc9_1 := World.block_lt_of_cell? _ _ c9_1_0
  have zc9_2 := World.block_lt_of_cell? _ _ c9_2_0
  have zc9_3 := World.block_lt_of_cell? _ _ c9_3_0
  have zc9_4 := World.block_lt_of_cell? _ _ c9_4_0
  have zc9_5 := World.block_lt_of_cell? _ _ c9_5_0
  go_wp2_with fail
  go_at_call 17
  (with_reducible refine (Nb _).mono ?_)
  rintro e t10 ⟨rfl, y10⟩
  obtain ⟨⟨c10_0_0, c10_0_1, c10_0_2, c10_0_3⟩, ⟨c10_1_0, c10_1_1, c10_1_2, c10_1_3⟩, ⟨c10_2_0, c10_2_1, c10_2_2⟩, ⟨c10_3_0, c10_3_1, c10_3_2⟩, ⟨c10_4_0, c10_4_1, c10_4_2, c10_4_3⟩, ⟨c10_5_0, c10_5_1, c10_5_2, c10_5_3⟩, bel10⟩ : b4 t10 w.heap.size n a0 a1 a2 ∧ b4 t10 (w.heap.size + 1) m b0 b1 b2 ∧ b3 t10 (w.heap.size + 1 + 1) x y z ∧ b3 t10 t1.heap.size 0 0 0 ∧ b4 t10 t2.heap.size jn j0 j1 j2 ∧ b4 t10 t3.heap.size un u0 u1 u2 ∧ Below w.heap.size w t10 := by
    refine ⟨?_, ?_, ?_, ?_, ?_, ?_, bs0 bel9 y10⟩ <;> (repeat' apply And.intro) <;> exact cell_later y10 (by (first | assumption | exact c_alloc (by assumption) | exact c_at rfl rfl))
  clear y10 c9_0_0 c9_0_1 c9_0_2 c9_0_3 c9_1_0 c9_1_1 c9_1_2 c9_1_3 c9_2_0 c9_2_1 c9_2_2 c9_3_0 c9_3_1 c9_3_2 c9_4_0 c9_4_1 c9_4_2 c9_4_3 c9_5_0 c9_5_1 c9_5_2 c9_5_3 bel9 zc9_0 zc9_1 zc9_2 zc9_3 zc9_4 zc9_5
  have zc10_0 := World.block_lt_of_cell? _ _ c10_0_0
  have zc10_1 := World.block_lt_of_cell? _ _ c10_1_0
  have zc10_2 := World.block_lt_of_cell? _ _ c10_2_0
  have zc10_3 := World.block_lt_of_cell? _ _ c10_3_0
  have zc10_4 := World.block_lt_of_cell? _ _ c10_4_0
  have zc10_5 := World.block_lt_of_cell? _ _ c10_5_0
  go_wp2_with fail
  go_at_call 44
  (with_reducible refine (Hj _).mono ?_)
  rintro e t11 ⟨rfl, y11⟩
  obtain ⟨⟨c11_0_0, c11_0_1, c11_0_2, c11_0_3⟩, ⟨c11_1_0, c11_1_1, c11_1_2, c11_1_3⟩, ⟨c11_2_0, c11_2_1, c11_2_2⟩, ⟨c11_3_0, c11_3_1, c11_3_2⟩, ⟨c11_4_0, c11_4_1, c11_4_2, c11_4_3⟩, ⟨c11_5_0, c11_5_1, c11_5_2, c11_5_3⟩, bel11⟩ : b4 t11 w.heap.size n a0 a1 a2 ∧ b4 t11 (w.heap.size + 1) m b0 b1 b2 ∧ b3 t11 (w.heap.size + 1 + 1) x y z ∧ b3 t11 t1.heap.size 0 0 0 ∧ b4 t11 t2.heap.size jn j0 j1 j2 ∧ b4 t11 t3.heap.size un u0 u1 u2 ∧ Below w.heap.size w t11 := by
    refine ⟨?_, ?_, ?_, ?_, ?_, ?_, bs0 bel10 y11⟩ <;> (repeat' apply And.intro) <;> exact cell_later y11 (by (first | assumption | exact c_alloc (by assumption) | exact c_at rfl rfl))
  clear y11 c10_0_0 c10_0_1 c10_0_2 c10_0_3 c10_1_0 c10_1_1 c10_1_2 c10_1_3 c10_2_0 c10_2_1 c10_2_2 c10_3_0 c10_3_1 c10_3_2 c10_4_0 c10_4_1 c10_4_2 c10_4_3 c10_5_0 c10_5_1 c10_5_2 c10_5_3 bel10 zc10_0 zc10_1 zc10_2 zc10_3 zc10_4 zc10_5
  have zc11_0 := World.block_lt_of_cell? _ _ c11_0_0
  have zc11_1 := World.block_lt_of_cell? _ _ c11_1_0
  have zc11_2 := World.block_lt_of_cell? _ _ c11_2_0
  have zc11_3 := World.block_lt_of_cell? _ _ c11_3_0
  have zc11_4 := World.block_lt_of_cell? _ _ c11_4_0
  have zc11_5 := World.block_lt_of_cell? _ _ c11_5_0
  go_wp2_with fail
  go_at_call 17
  (with_reducible refine (Nj _).mono ?_)
  rintro e t12 ⟨rfl, y12⟩
  obtain ⟨⟨c12_0_0, c12_0_1, c12_0_2, c12_0_3⟩, ⟨c12_1_0, c12_1_1, c12_1_2, c12_1_3⟩, ⟨c12_2_0, c12_2_1, c12_2_2⟩, ⟨c12_3_0, c12_3_1, c12_3_2⟩, ⟨c12_4_0, c12_4_1, c12_4_2, c12_4_3⟩, ⟨c12_5_0, c12_5_1, c12_5_2, c12_5_3⟩, bel12⟩ : b4 t12 w.heap.size n a0 a1 a2 ∧ b4 t12 (w.heap.size + 1) m b0 b1 b2 ∧ b3 t12 (w.heap.size + 1 + 1) x y z ∧ b3 t12 t1.heap.size 0 0 0 ∧ b4 t12 t2.heap.size jn j0 j1 j2 ∧ b4 t12 t3.heap.size un u0 u1 u2 ∧ Below w.heap.size w t12 := by
    refine ⟨?_, ?_, ?_, ?_, ?_, ?_, bs0 bel11 y12⟩ <;> (repeat' apply And.intro) <;> exact cell_later y12 (by (first | assumption | exact c_alloc (by assumption) | exact c_at rfl rfl))
  clear y12 c11_0_0 c11_0_1 c11_0_2 c11_0_3 c11_1_0 c11_1_1 c11_1_2 c11_1_3 c11_2_0 c11_2_1 c11_2_2 c11_3_0 c11_3_1 c11_3_2 c11_4_0 c11_4_1 c11_4_2 c11_4_3 c11_5_0 c11_5_1 c11_5_2 c11_5_3 bel11 zc11_0 zc11_1 zc11_2 zc11_3 zc11_4 zc11_5
  have zc12_0 := World.block_lt_of_cell? _ _ c12_0_0
  have zc12_1 := World.block_lt_of_cell? _ _ c12_1_0
  have zc12_2 := World.block_lt_of_cell? _ _ c12_2_0
  have zc12_3 := World.block_lt_of_cell? _ _ c12_3_0
  have zc12_4 := World.block_lt_of_cell? _ _ c12_4_0
  have zc12_5 := World.block_lt_of_cell? _ _ c12_5_0
  go_upto_region 17 with fail
  refine gen_world (F := fun W1 => b4 W1 w.heap.size n a0 a1 a2 ∧ b4 W1 (w.heap.size + 1) m b0 b1 b2 ∧ b3 W1 (w.heap.size + 1 + 1) x y z ∧ b3 W1 t1.heap.size 0 0 0 ∧ b4 W1 t2.heap.size jn j0 j1 j2 ∧ b4 W1 t3.heap.size un u0 u1 u2 ∧ Below w.heap.size w W1) ?_ (fun W1 hW => ?_)
  · refine ⟨?_, ?_, ?_, ?_, ?_, ?_, bel12⟩ <;> (repeat' apply And.intro) <;> (first | assumption | exact c_alloc (by assumption) | exact c_at rfl rfl)
  obtain ⟨⟨g1_0_0, g1_0_1, g1_0_2, g1_0_3⟩, ⟨g1_1_0, g1_1_1, g1_1_2, g1_1_3⟩, ⟨g1_2_0, g1_2_1, g1_2_2⟩, ⟨g1_3_0, g1_3_1, g1_3_2⟩, ⟨g1_4_0, g1_4_1, g1_4_2, g1_4_3⟩, ⟨g1_5_0, g1_5_1, g1_5_2, g1_5_3⟩, gb1⟩ := hW
  clear c12_0_0 c12_0_1 c12_0_2 c12_0_3 c12_1_0 c12_1_1 c12_1_2 c12_1_3 c12_2_0 c12_2_1 c12_2_2 c12_3_0 c12_3_1 c12_3_2 c12_4_0 c12_4_1 c12_4_2 c12_4_3 c12_5_0 c12_5_1 c12_5_2 c12_5_3 bel12 zc12_0 zc12_1 zc12_2 zc12_3 zc12_4 zc12_5
  have mkq1 : ∀ w', Below W1.heap.size W1 w' → (Below W1.heap.size W1 w' ∧ b4 w' w.heap.size n a0 a1 a2 ∧ b4 w' (w.heap.size + 1) m b0 b1 b2 ∧ b3 w' (w.heap.size + 1 + 1) x y z ∧ b3 w' t1.heap.size 0 0 0 ∧ b4 w' t2.heap.size jn j0 j1 j2 ∧ b4 w' t3.heap.size un u0 u1 u2) := fun w' h => ⟨h, b4.later h ⟨g1_0_0, g1_0_1, g1_0_2, g1_0_3⟩, b4.later h ⟨g1_1_0, g1_1_1, g1_1_2, g1_1_3⟩, b3.later h ⟨g1_2_0, g1_2_1, g1_2_2⟩, b3.later h ⟨g1_3_0, g1_3_1, g1_3_2⟩, b4.later h ⟨g1_4_0, g1_4_1, g1_4_2, g1_4_3⟩, b4.later h ⟨g1_5_0, g1_5_1, g1_5_2, g1_5_3⟩⟩
  refine wp_region_held_drew (S := fun w' => Below W1.heap.size W1 w' ∧ b4 w' w.heap.size n a0 a1 a2 ∧ b4 w' (w.heap.size + 1) m b0 b1 b2 ∧ b3 w' (w.heap.size + 1 + 1) x y z ∧ b3 w' t1.heap.size 0 0 0 ∧ b4 w' t2.heap.size jn j0 j1 j2 ∧ b4 w' t3.heap.size un u0 u1 u2) (by kernel_rfl) (mkq1 _ ((Below.refl _ _).drew)) (fun hHeld => ?_)
  refine rOne 0 rfl (fun K hK => ?_)
  go_simp
  go_at_call 15
  (with_reducible refine (Hq _ (b_step gb1 hHeld.1 gb1.size)).mono ?_)
  rintro e rq11 ⟨rfl, zq11⟩
  go_wp2_with fail
  refine hK.out _ _ (mkq1 _ (b_step hHeld.1 zq11 hHeld.1.size)) (fun hHeld2 => ?_)
  clear hK K hHeld
  have hHeld := hHeld2
  clear hHeld2
  (try simp only [Act.put, pSa, pSb, pSc])
  refine tkY 1 ?_ rfl ?_ ?_ (by assumption)
  rotate_left
  · intro w h; simp only [b3, b4, b6, cE] at h; go_simp <;> with_reducible rfl
  (try simp only [Act.put, pSa, pSb, pSc])
  refine tkY 2 ?_ rfl ?_ ?_ (by assumption)
  rotate_left
  · intro w h; simp only [b3, b4, b6, cE] at h; go_simp <;> with_reducible rfl
  (try simp only [Act.put, pSa, pSb, pSc])
  refine tkY 3 ?_ rfl ?_ ?_ (by assumption)
  rotate_left
  · intro w h; simp only [b3, b4, b6, cE] at h; go_simp <;> with_reducible rfl
  (try simp only [Act.put, pSa, pSb, pSc])
  refine tkY 4 ?_ rfl ?_ ?_ (by assumption)
  rotate_left
  · intro w h; simp only [b3, b4, b6, cE] at h; go_simp <;> with_reducible rfl
  (try simp only [Act.put, pSa, pSb, pSc])
  refine tkN 5 rfl ?_ (by assumption)
  (try simp only [Act.put, pSa, pSb, pSc])
  refine tkN 6 rfl ?_ (by assumption)
  (try simp only [Act.put, pSa, pSb, pSc])
  refine tkN 7 rfl ?_ (by assumption)
  (try simp only [Act.put, pSa, pSb, pSc])
  refine tkN 8 rfl ?_ (by assumption)
  (try simp only [Act.put, pSa, pSb, pSc])
  refine tkN 9 rfl ?_ (by assumption)
  (try simp only [Act.put, pSa, pSb, pSc])
  refine tkY 10 ?_ rfl ?_ ?_ (by assumption)
  rotate_left
  · intro w h; simp only [b3, b4, b6, cE] at h; go_simp <;> with_reducible rfl
  (try simp only [Act.put, pSa, pSb, pSc])
  refine tkY 11 ?_ rfl ?_ ?_ (by assumption)
  rotate_left
  · intro w h; simp only [b3, b4, b6, cE] at h; go_simp <;> with_reducible rfl
  (try simp only [Act.put, pSa, pSb, pSc])
  refine tkY 12 ?_ rfl ?_ ?_ (by assumption)
  rotate_left
  · intro w h; simp only [b3, b4, b6, cE] at h; go_simp <;> with_reducible rfl
  (try simp only [Act.put, pSa, pSb, pSc])
  refine tkY 13 ?_ rfl ?_ ?_ (by assumption)
  rotate_left
  · intro w h; simp only [b3, b4, b6, cE] at h; go_simp <;> with_reducible rfl
  (try simp only [Act.put, pSa, pSb, pSc])
  refine tkY 14 ?_ rfl ?_ ?_ (by assumption)
  rotate_left
  · intro w h; simp only [b3, b4, b6, cE] at h; go_simp <;> with_reducible rfl
  (try simp only [Act.put, pSa, pSb, pSc])
  refine tkY 15 ?_ rfl ?_ ?_ (by assumption)
  rotate_left
  · intro w h; simp only [b3, b4, b6, cE] at h; go_simp <;> with_reducible rfl
  (try simp only [Act.put, pSa, pSb, pSc])
  refine tkY 16 ?_ rfl ?_ ?_ (by assumption)
  rotate_left
  · intro w h; simp only [b3, b4, b6, cE] at h; go_simp <;> with_reducible rfl
  (try simp only [Act.put, pSa, pSb, pSc])
  refine tkY 17 ?_ rfl ?_ ?_ (by assumption)
  rotate_left
  · intro w h; simp only [b3, b4, b6, cE] at h; go_simp <;> with_reducible rfl
  (try simp only [Act.put, pSa, pSb, pSc])
  refine tkY 18 ?_ rfl ?_ ?_ (by assumption)
  rotate_left
  · intro w h; simp only [b3, b4, b6, cE] at h; go_simp <;> with_reducible rfl
  (try simp only [Act.put, pSa, pSb, pSc])
  refine tkY 19 ?_ rfl ?_ ?_ (by assumption)
  rotate_left
  · intro w h; simp only [b3, b4, b6, cE] at h; go_simp <;> with_reducible rfl
  (try simp only [Act.put, pSa, pSb, pSc])
  refine tkY 20 ?_ rfl ?_ ?_ (by assumption)
  rotate_left
  · intro w h; simp only [b3, b4, b6, cE] at h; go_simp <;> with_reducible rfl
  (try simp only [Act.put, pSa, pSb, pSc])
  refine tkY 21 ?_ rfl ?_ ?_ (by assumption)
  rotate_left
  · intro w h; simp only [b3, b4, b6, cE] at h; go_simp <;> with_reducible rfl
  (try simp only [Act.put, pSa, pSb, pSc])
  refine tkY 22 ?_ rfl ?_ ?_ (by assumption)
  rotate_left
  · intro w h; simp only [b3, b4, b6, cE] at h; go_simp <;> with_reducible rfl
  (try simp only [Act.put, pSa, pSb, pSc])
  refine tkY 23 ?_ rfl ?_ ?_ (by assumption)
  rotate_left
  · intro w h; simp only [b3, b4, b6, cE] at h; go_simp <;> with_reducible rfl
  (try simp only [Act.put, pSa, pSb, pSc])
  refine tkY 24 ?_ rfl ?_ ?_ (by assumption)
  rotate_left
  · intro w h; simp only [b3, b4, b6, cE] at h; go_simp <;> with_reducible rfl
  (try simp only [Act.put, pSa, pSb, pSc])
  refine tkY 25 ?_ rfl ?_ ?_ (by assumption)
  rotate_left
  · intro w h; simp only [b3, b4, b6, cE] at h; go_simp <;> with_reducible rfl
  (try simp only [Act.put, pSa, pSb, pSc])
  refine tkY 26 ?_ rfl ?_ ?_ (by assumption)
  rotate_left
  · intro w h; simp only [b3, b4, b6, cE] at h; go_simp <;> with_reducible rfl
  (try simp only [Act.put, pSa, pSb, pSc])
  refine tkY 27 ?_ rfl ?_ ?_ (by assumption)
  rotate_left
  · intro w h; simp only [b3, b4, b6, cE] at h; go_simp <;> with_reducible rfl
  (try simp only [Act.put, pSa, pSb, pSc])
  refine rOne 28 rfl (fun K hK => ?_)
  go_simp
  go_at_call 45
  (with_reducible refine (R2 _).mono ?_)
  rintro e rq12 ⟨rfl, zq12⟩
  go_wp2_with fail
  refine hK.out _ _ (mkq1 _ (b_step hHeld.1 zq12 hHeld.1.size)) (fun hHeld2 => ?_)
  clear hK K hHeld
  have hHeld := hHeld2
  clear hHeld2
  (try simp only [Act.put, pSa, pSb, pSc])
  refine tkY 29 ?_ rfl ?_ ?_ (by assumption)
  rotate_left
  · intro w h; simp only [b3, b4, b6, cE] at h; go_simp <;> with_reducible rfl
  (try simp only [Act.put, pSa, pSb, pSc])
  refine tkY 30 ?_ rfl ?_ ?_ (by assumption)
  rotate_left
  · intro w h; simp only [b3, b4, b6, cE] at h; go_simp <;> with_reducible rfl
  (try simp only [Act.put, pSa, pSb, pSc])
  refine tkY 31 ?_ rfl ?_ ?_ (by assumption)
  rotate_left
  · intro w h; simp only [b3, b4, b6, cE] at h; go_simp <;> with_reducible rfl
  (try simp only [Act.put, pSa, pSb, pSc])
  refine tkN 32 rfl ?_ (by assumption)
  (try simp only [Act.put, pSa, pSb, pSc])
  refine tkN 33 rfl ?_ (by assumption)
  (try simp only [Act.put, pSa, pSb, pSc])
  refine tkN 34 rfl ?_ (by assumption)
  (try simp only [Act.put, pSa, pSb, pSc])
  refine tkN 35 rfl ?_ (by assumption)
  (try simp only [Act.put, pSa, pSb, pSc])
  refine tkN 36 rfl ?_ (by assumption)
  (try simp only [Act.put, pSa, pSb, pSc])
  refine tkN 37 rfl ?_ (by assumption)
  (try simp only [Act.put, pSa, pSb, pSc])
  refine tkN 38 rfl ?_ (by assumption)
  (try simp only [Act.put, pSa, pSb, pSc])
  refine tkY 39 ?_ rfl ?_ ?_ (by assumption)
  rotate_left
  · intro w h; simp only [b3, b4, b6, cE] at h; go_simp <;> with_reducible rfl
  (try simp only [Act.put, pSa, pSb, pSc])
  refine tkY 40 ?_ rfl ?_ ?_ (by assumption)
  rotate_left
  · intro w h; simp only [b3, b4, b6, cE] at h; go_simp <;> with_reducible rfl
  (try simp only [Act.put, pSa, pSb, pSc])
  refine tkY 41 ?_ rfl ?_ ?_ (by assumption)
  rotate_left
  · intro w h; simp only [b3, b4, b6, cE] at h; go_simp <;> with_reducible rfl
  (try simp only [Act.put, pSa, pSb, pSc])
  refine tkY 42 ?_ rfl ?_ ?_ (by assumption)
  rotate_left
  · intro w h; simp only [b3, b4, b6, cE] at h; go_simp <;> with_reducible rfl
  (try simp only [Act.put, pSa, pSb, pSc])
  refine tkY 43 ?_ rfl ?_ ?_ (by assumption)
  rotate_left
  · intro w h; simp only [b3, b4, b6, cE] at h; go_simp <;> with_reducible rfl
  (try simp only [Act.put, pSa, pSb, pSc])
  refine tkY 44 ?_ rfl ?_ ?_ (by assumption)
  rotate_left
  · intro w h; simp only [b3, b4, b6, cE] at h; go_simp <;> with_reducible rfl
  (try simp only [Act.put, pSa, pSb, pSc])
  refine tkY 45 ?_ rfl ?_ ?_ (by assumption)
  rotate_left
  · intro w h; simp only [b3, b4, b6, cE] at h; go_simp <;> with_reducible rfl
  (try simp only [Act.put, pSa, pSb, pSc])
  refine tkY 46 ?_ rfl ?_ ?_ (by assumption)
  rotate_left
  · intro w h; simp only [b3, b4, b6, cE] at h; go_simp <;> with_reducible rfl
  (try simp only [Act.put, pSa, pSb, pSc])
  refine rOne 47 rfl (fun K hK => ?_)
  go_simp
  go_at_call 46
  (with_reducible refine (R3 _).mono ?_)
  rintro e rq13 ⟨rfl, zq13⟩
  go_wp2_with fail
  refine hK.out _ _ (mkq1 _ (b_step hHeld.1 zq13 hHeld.1.size)) (fun hHeld2 => ?_)
  clear hK K hHeld
  have hHeld := hHeld2
  clear hHeld2
  (try simp only [Act.put, pSa, pSb, pSc])
  refine tkY 48 ?_ rfl ?_ ?_ (by assumption)
  rotate_left
  · intro w h; simp only [b3, b4, b6, cE] at h; go_simp <;> with_reducible rfl
  (try simp only [Act.put, pSa, pSb, pSc])
  refine tkY 49 ?_ rfl ?_ ?_ (by assumption)
  rotate_left
  · intro w h; simp only [b3, b4, b6, cE] at h; go_simp <;> with_reducible rfl
  (try simp only [Act.put, pSa, pSb, pSc])
  refine tkY 50 ?_ rfl ?_ ?_ (by assumption)
  rotate_left
  · intro w h; simp only [b3, b4, b6, cE] at h; go_simp <;> with_reducible rfl
  (try simp only [Act.put, pSa, pSb, pSc])
  refine tkN 51 rfl ?_ (by assumption)
  (try simp only [Act.put, pSa, pSb, pSc])
  refine tkN 52 rfl ?_ (by assumption)
  (try simp only [Act.put, pSa, pSb, pSc])
  refine tkN 53 rfl ?_ (by assumption)
  (try simp only [Act.put, pSa, pSb, pSc])
  refine tkN 54 rfl ?_ (by assumption)
  (try simp only [Act.put, pSa, pSb, pSc])
  refine tkN 55 rfl ?_ (by assumption)
  (try simp only [Act.put, pSa, pSb, pSc])
  refine tkN 56 rfl ?_ (by assumption)
  (try simp only [Act.put, pSa, pSb, pSc])
  refine tkN 57 rfl ?_ (by assumption)
  (try simp only [Act.put, pSa, pSb, pSc])
  refine tkY 58 ?_ rfl ?_ ?_ (by assumption)
  rotate_left
  · intro w h; simp only [b3, b4, b6, cE] at h; go_simp <;> with_reducible rfl
  (try simp only [Act.put, pSa, pSb, pSc])
  refine tkY 59 ?_ rfl ?_ ?_ (by assumption)
  rotate_left
  · intro w h; simp only [b3, b4, b6, cE] at h; go_simp <;> with_reducible rfl
  (try simp only [Act.put, pSa, pSb, pSc])
  refine tkY 60 ?_ rfl ?_ ?_ (by assumption)
  rotate_left
  · intro w h; simp only [b3, b4, b6, cE] at h; go_simp <;> with_reducible rfl
  (try simp only [Act.put, pSa, pSb, pSc])
  refine wpAnyH_done (by kernel_rfl) ?_ _
  have belq1 := b_step gb1 hHeld.1 gb1.size
  obtain ⟨-, ⟨h1_0_0, h1_0_1, h1_0_2, h1_0_3⟩, ⟨h1_1_0, h1_1_1, h1_1_2, h1_1_3⟩, ⟨h1_2_0, h1_2_1, h1_2_2⟩, ⟨h1_3_0, h1_3_1, h1_3_2⟩, ⟨h1_4_0, h1_4_1, h1_4_2, h1_4_3⟩, ⟨h1_5_0, h1_5_1, h1_5_2, h1_5_3⟩⟩ := hHeld
  clear gb1 mkq1 g1_0_0 g1_0_1 g1_0_2 g1_0_3 g1_1_0 g1_1_1 g1_1_2 g1_1_3 g1_2_0 g1_2_1 g1_2_2 g1_3_0 g1_3_1 g1_3_2 g1_4_0 g1_4_1 g1_4_2 g1_4_3 g1_5_0 g1_5_1 g1_5_2 g1_5_3
  have zh1_0 := World.block_lt_of_cell? _ _ h1_0_0
  have zh1_1 := World.block_lt_of_cell? _ _ h1_1_0
  have zh1_2 := World.block_lt_of_cell? _ _ h1_2_0
  have zh1_3 := World.block_lt_of_cell? _ _ h1_3_0
  have zh1_4 := World.block_lt_of_cell? _ _ h1_4_0
  have zh1_5 := World.block_lt_of_cell? _ _ h1_5_0
  go_wp2
  go_ret
  exact ⟨rfl, belq1⟩

set_option maxRecDepth 100000 in
set_option maxHeartbeats 16000000 in
theorem poses_13 (n a0 a1 a2 m b0 b1 b2 x y z v0 v1 v2 jn j0 j1 j2 un u0 u1 u2 : Int) (w : World)
    (Hq : ∀ W, Below w.heap.size w W → Calls Tryd.prog 15 #[] W fun r w' => r = .returned (.bool true) ∧ Below W.heap.size W w')
    (H1 : ∀ w, Calls Tryd.prog 43 #[vP n a0 a1 a2, vV x y z] w fun r w' => r = .returned (.tuple #[vV v0 v1 v2, .int .i64 0]) ∧ Below w.heap.size w w')
    (H2 : ∀ w, Calls Tryd.prog 42 #[vP n a0 a1 a2, vP m b0 b1 b2] w fun r w' => r = .returned (.tuple #[vP 0 0 0 0, .int .i64 6]) ∧ Below w.heap.size w w')
    (H3 : ∀ w, Calls Tryd.prog 41 #[vP n a0 a1 a2] w fun r w' => r = .returned (.tuple #[vP un u0 u1 u2, .int .i64 0]) ∧ Below w.heap.size w w')
    (In : ∀ w, Calls Tryd.prog 14 #[.int .i64 n] w fun e w' => e = .returned (.bool true) ∧ w = w')
    (Im : ∀ w, Calls Tryd.prog 14 #[.int .i64 m] w fun e w' => e = .returned (.bool true) ∧ w = w')
    (Na : ∀ w, Calls Tryd.prog 17 #[vV a0 a1 a2] w fun r w' => r = .returned (.bool true) ∧ Below w.heap.size w w')
    (Np : ∀ w, Calls Tryd.prog 17 #[vV x y z] w fun r w' => r = .returned (.bool true) ∧ Below w.heap.size w w')
    (Hp : ∀ w, Calls Tryd.prog 44 #[vP n a0 a1 a2, vV x y z] w fun r w' => r = .returned (vV v0 v1 v2) ∧ Below w.heap.size w w')
    (Nv : ∀ w, Calls Tryd.prog 17 #[vV v0 v1 v2] w fun r w' => r = .returned (.bool true) ∧ Below w.heap.size w w')
    (Nb : ∀ w, Calls Tryd.prog 17 #[vV b0 b1 b2] w fun r w' => r = .returned (.bool false) ∧ Below w.heap.size w w')
    (R3 : ∀ w, Calls Tryd.prog 46 #[vP n a0 a1 a2] w fun r w' => r = .returned (vP un u0 u1 u2) ∧ Below w.heap.size w w') :
    Calls Tryd.prog 10 #[vP n a0 a1 a2, vP m b0 b1 b2, vV x y z] w fun e w' => e = .returned (.bool true) ∧ Below w.heap.size w w' := by
  have ev : ∀ w, (binOp .eql 23 (vV v0 v1 v2) (vV v0 v1 v2)).run Tryd.prog w = .ok (.bool true) w := fun w => by rw [eql_V, decide_eq_true (by simp)]
  have eu : ∀ w, (binOp .eql 25 (vP un u0 u1 u2) (vP un u0 u1 u2)).run Tryd.prog w = .ok (.bool true) w := fun w => by rw [eql_P, decide_eq_true (by simp)]
  go_enter Tryd.func10, Tryd.ntmps10
  go_wp2_with fail
  go_at_call 43
  (with_reducible refine (H1 _).mono ?_)
  rintro e t1 ⟨rfl, y1⟩
  have hyy := y1.size
  (try simp only [World.size_alloc, World.size_setCell, World.size_drew] at hyy)
  obtain ⟨⟨c1_0_0, c1_0_1, c1_0_2, c1_0_3⟩, ⟨c1_1_0, c1_1_1, c1_1_2, c1_1_3⟩, ⟨c1_2_0, c1_2_1, c1_2_2⟩, bel1⟩ : b4 t1 w.heap.size n a0 a1 a2 ∧ b4 t1 (w.heap.size + 1) m b0 b1 b2 ∧ b3 t1 (w.heap.size + 1 + 1) x y z ∧ Below w.heap.size w t1 := by
    refine ⟨?_, ?_, ?_, b_step (by (repeat' (first | (with_reducible assumption) | (with_reducible exact Below.refl _ _) | (with_reducible refine Below.alloc ?_ ?_ _) | (with_reducible refine Below.drew ?_) | (with_reducible refine Below.setCell ?_ ?_ _) | (with_reducible refine b_step ?_ (by assumption) ?_) | omega | (simp only [World.size_alloc, World.size_setCell, World.size_drew]; omega)))) y1 (by simp only [World.size_alloc, World.size_setCell, World.size_drew]; omega)⟩ <;> (repeat' apply And.intro) <;> exact cell_later y1 (by (simp (disch := first | omega | (simp only [World.size_alloc, World.size_setCell, World.size_drew]; done) | (simp only [World.size_alloc, World.size_setCell, World.size_drew]; omega)) only [*, r_set_same, r_set_off, r_set_blk, r_set_f, r_alloc_at, r_alloc_past, r_falloc_at, r_falloc_past, World.cell?_drew, World.frozen?_drew, Option.map_some, List.getElem?_toArray, List.getElem?_cons_zero, List.getElem?_cons_succ]; done))
  clear hyy y1 
  have zc1_0 := World.block_lt_of_cell? _ _ c1_0_0
  have zc1_1 := World.block_lt_of_cell? _ _ c1_1_0
  have zc1_2 := World.block_lt_of_cell? _ _ c1_2_0
  go_wp2_with fail
  go_at_call 42
  (with_reducible refine (H2 _).mono ?_)
  rintro e t2 ⟨rfl, y2⟩
  obtain ⟨⟨c2_0_0, c2_0_1, c2_0_2, c2_0_3⟩, ⟨c2_1_0, c2_1_1, c2_1_2, c2_1_3⟩, ⟨c2_2_0, c2_2_1, c2_2_2⟩, ⟨c2_3_0, c2_3_1, c2_3_2⟩, bel2⟩ : b4 t2 w.heap.size n a0 a1 a2 ∧ b4 t2 (w.heap.size + 1) m b0 b1 b2 ∧ b3 t2 (w.heap.size + 1 + 1) x y z ∧ b3 t2 t1.heap.size v0 v1 v2 ∧ Below w.heap.size w t2 := by
    refine ⟨?_, ?_, ?_, ?_, bs1 bel1 y2⟩ <;> (repeat' apply And.intro) <;> exact cell_later y2 (by (first | assumption | exact c_alloc (by assumption) | exact c_at rfl rfl))
  clear y2 c1_0_0 c1_0_1 c1_0_2 c1_0_3 c1_1_0 c1_1_1 c1_1_2 c1_1_3 c1_2_0 c1_2_1 c1_2_2 bel1 zc1_0 zc1_1 zc1_2
  have zc2_0 := World.block_lt_of_cell? _ _ c2_0_0
  have zc2_1 := World.block_lt_of_cell? _ _ c2_1_0
  have zc2_2 := World.block_lt_of_cell? _ _ c2_2_0
  have zc2_3 := World.block_lt_of_cell? _ _ c2_3_0
  go_wp2_with fail
  go_at_call 41
  (with_reducible refine (H3 _).mono ?_)
  rintro e t3 ⟨rfl, y3⟩
  obtain ⟨⟨c3_0_0, c3_0_1, c3_0_2, c3_0_3⟩, ⟨c3_1_0, c3_1_1, c3_1_2, c3_1_3⟩, ⟨c3_2_0, c3_2_1, c3_2_2⟩, ⟨c3_3_0, c3_3_1, c3_3_2⟩, ⟨c3_4_0, c3_4_1, c3_4_2, c3_4_3⟩, bel3⟩ : b4 t3 w.heap.size n a0 a1 a2 ∧ b4 t3 (w.heap.size + 1) m b0 b1 b2 ∧ b3 t3 (w.heap.size + 1 + 1) x y z ∧ b3 t3 t1.heap.size v0 v1 v2 ∧ b4 t3 t2.heap.size 0 0 0 0 ∧ Below w.heap.size w t3 := by
    refine ⟨?_, ?_, ?_, ?_, ?_, bs1 bel2 y3⟩ <;> (repeat' apply And.intro) <;> exact cell_later y3 (by (first | assumption | exact c_alloc (by assumption) | exact c_at rfl rfl))
  clear y3 c2_0_0 c2_0_1 c2_0_2 c2_0_3 c2_1_0 c2_1_1 c2_1_2 c2_1_3 c2_2_0 c2_2_1 c2_2_2 c2_3_0 c2_3_1 c2_3_2 bel2 zc2_0 zc2_1 zc2_2 zc2_3
  have zc3_0 := World.block_lt_of_cell? _ _ c3_0_0
  have zc3_1 := World.block_lt_of_cell? _ _ c3_1_0
  have zc3_2 := World.block_lt_of_cell? _ _ c3_2_0
  have zc3_3 := World.block_lt_of_cell? _ _ c3_3_0
  have zc3_4 := World.block_lt_of_cell? _ _ c3_4_0
  go_wp2_with fail
  go_at_call 14
  (with_reducible refine (In _).mono ?_)
  rintro e tt ⟨rfl, rfl⟩
  go_wp2_with fail
  go_at_call 14
  (with_reducible refine (Im _).mono ?_)
  rintro e tt ⟨rfl, rfl⟩
  go_wp2_with fail
  go_at_call 17
  (with_reducible refine (Na _).mono ?_)
  rintro e t4 ⟨rfl, y4⟩
  obtain ⟨⟨c4_0_0, c4_0_1, c4_0_2, c4_0_3⟩, ⟨c4_1_0, c4_1_1, c4_1_2, c4_1_3⟩, ⟨c4_2_0, c4_2_1, c4_2_2⟩, ⟨c4_3_0, c4_3_1, c4_3_2⟩, ⟨c4_4_0, c4_4_1, c4_4_2, c4_4_3⟩, ⟨c4_5_0, c4_5_1, c4_5_2, c4_5_3⟩, bel4⟩ : b4 t4 w.heap.size n a0 a1 a2 ∧ b4 t4 (w.heap.size + 1) m b0 b1 b2 ∧ b3 t4 (w.heap.size + 1 + 1) x y z ∧ b3 t4 t1.heap.size v0 v1 v2 ∧ b4 t4 t2.heap.size 0 0 0 0 ∧ b4 t4 t3.heap.size un u0 u1 u2 ∧ Below w.heap.size w t4 := by
    refine ⟨?_, ?_, ?_, ?_, ?_, ?_, bs1 bel3 y4⟩ <;> (repeat' apply And.intro) <;> exact cell_later y4 (by (first | assumption | exact c_alloc (by assumption) | exact c_at rfl rfl))
  clear y4 c3_0_0 c3_0_1 c3_0_2 c3_0_3 c3_1_0 c3_1_1 c3_1_2 c3_1_3 c3_2_0 c3_2_1 c3_2_2 c3_3_0 c3_3_1 c3_3_2 c3_4_0 c3_4_1 c3_4_2 c3_4_3 bel3 zc3_0 zc3_1 zc3_2 zc3_3 zc3_4
  have zc4_0 := World.block_lt_of_cell? _ _ c4_0_0
  have zc4_1 := World.block_lt_of_cell? _ _ c4_1_0
  have zc4_2 := World.block_lt_of_cell? _ _ c4_2_0
  have zc4_3 := World.block_lt_of_cell? _ _ c4_3_0
  have zc4_4 := World.block_lt_of_cell? _ _ c4_4_0
  have zc4_5 := World.block_lt_of_cell? _ _ c4_5_0
  go_wp2_with fail
  go_at_call 17
  (with_reducible refine (Na _).mono ?_)
  rintro e t5 ⟨rfl, y5⟩
  obtain ⟨⟨c5_0_0, c5_0_1, c5_0_2, c5_0_3⟩, ⟨c5_1_0, c5_1_1, c5_1_2, c5_1_3⟩, ⟨c5_2_0, c5_2_1, c5_2_2⟩, ⟨c5_3_0, c5_3_1, c5_3_2⟩, ⟨c5_4_0, c5_4_1, c5_4_2, c5_4_3⟩, ⟨c5_5_0, c5_5_1, c5_5_2, c5_5_3⟩, bel5⟩ : b4 t5 w.heap.size n a0 a1 a2 ∧ b4 t5 (w.heap.size + 1) m b0 b1 b2 ∧ b3 t5 (w.heap.size + 1 + 1) x y z ∧ b3 t5 t1.heap.size v0 v1 v2 ∧ b4 t5 t2.heap.size 0 0 0 0 ∧ b4 t5 t3.heap.size un u0 u1 u2 ∧ Below w.heap.size w t5 := by
    refine ⟨?_, ?_, ?_, ?_, ?_, ?_, bs0 bel4 y5⟩ <;> (repeat' apply And.intro) <;> exact cell_later y5 (by (first | assumption | exact c_alloc (by assumption) | exact c_at rfl rfl))
  clear y5 c4_0_0 c4_0_1 c4_0_2 c4_0_3 c4_1_0 c4_1_1 c4_1_2 c4_1_3 c4_2_0 c4_2_1 c4_2_2 c4_3_0 c4_3_1 c4_3_2 c4_4_0 c4_4_1 c4_4_2 c4_4_3 c4_5_0 c4_5_1 c4_5_2 c4_5_3 bel4 zc4_0 zc4_1 zc4_2 zc4_3 zc4_4 zc4_5
  have zc5_0 := World.block_lt_of_cell? _ _ c5_0_0
  have zc5_1 := World.block_lt_of_cell? _ _ c5_1_0
  have zc5_2 := World.block_lt_of_cell? _ _ c5_2_0
  have zc5_3 := World.block_lt_of_cell? _ _ c5_3_0
  have zc5_4 := World.block_lt_of_cell? _ _ c5_4_0
  have zc5_5 := World.block_lt_of_cell? _ _ c5_5_0
  go_wp2_with fail
  go_at_call 17
  (with_reducible refine (Np _).mono ?_)
  rintro e t6 ⟨rfl, y6⟩
  obtain ⟨⟨c6_0_0, c6_0_1, c6_0_2, c6_0_3⟩, ⟨c6_1_0, c6_1_1, c6_1_2, c6_1_3⟩, ⟨c6_2_0, c6_2_1, c6_2_2⟩, ⟨c6_3_0, c6_3_1, c6_3_2⟩, ⟨c6_4_0, c6_4_1, c6_4_2, c6_4_3⟩, ⟨c6_5_0, c6_5_1, c6_5_2, c6_5_3⟩, bel6⟩ : b4 t6 w.heap.size n a0 a1 a2 ∧ b4 t6 (w.heap.size + 1) m b0 b1 b2 ∧ b3 t6 (w.heap.size + 1 + 1) x y z ∧ b3 t6 t1.heap.size v0 v1 v2 ∧ b4 t6 t2.heap.size 0 0 0 0 ∧ b4 t6 t3.heap.size un u0 u1 u2 ∧ Below w.heap.size w t6 := by
    refine ⟨?_, ?_, ?_, ?_, ?_, ?_, bs0 bel5 y6⟩ <;> (repeat' apply And.intro) <;> exact cell_later y6 (by (first | assumption | exact c_alloc (by assumption) | exact c_at rfl rfl))
  clear y6 c5_0_0 c5_0_1 c5_0_2 c5_0_3 c5_1_0 c5_1_1 c5_1_2 c5_1_3 c5_2_0 c5_2_1 c5_2_2 c5_3_0 c5_3_1 c5_3_2 c5_4_0 c5_4_1 c5_4_2 c5_4_3 c5_5_0 c5_5_1 c5_5_2 c5_5_3 bel5 zc5_0 zc5_1 zc5_2 zc5_3 zc5_4 zc5_5
  have zc6_0 := World.block_lt_of_cell? _ _ c6_0_0
  have zc6_1 := World.block_lt_of_cell? _ _ c6_1_0
  have zc6_2 := World.block_lt_of_cell? _ _ c6_2_0
  have zc6_3 := World.block_lt_of_cell? _ _ c6_3_0
  have zc6_4 := World.block_lt_of_cell? _ _ c6_4_0
  have zc6_5 := World.block_lt_of_cell? _ _ c6_5_0
  go_wp2_with fail
  go_at_call 44
  (with_reducible refine (Hp _).mono ?_)
  rintro e t7 ⟨rfl, y7⟩
  obtain ⟨⟨c7_0_0, c7_0_1, c7_0_2, c7_0_3⟩, ⟨c7_1_0, c7_1_1, c7_1_2, c7_1_3⟩, ⟨c7_2_0, c7_2_1, c7_2_2⟩, ⟨c7_3_0, c7_3_1, c7_3_2⟩, ⟨c7_4_0, c7_4_1, c7_4_2, c7_4_3⟩, ⟨c7_5_0, c7_5_1, c7_5_2, c7_5_3⟩, bel7⟩ : b4 t7 w.heap.size n a0 a1 a2 ∧ b4 t7 (w.heap.size + 1) m b0 b1 b2 ∧ b3 t7 (w.heap.size + 1 + 1) x y z ∧ b3 t7 t1.heap.size v0 v1 v2 ∧ b4 t7 t2.heap.size 0 0 0 0 ∧ b4 t7 t3.heap.size un u0 u1 u2 ∧ Below w.heap.size w t7 := by
    refine ⟨?_, ?_, ?_, ?_, ?_, ?_, bs0 bel6 y7⟩ <;> (repeat' apply And.intro) <;> exact cell_later y7 (by (first | assumption | exact c_alloc (by assumption) | exact c_at rfl rfl))
  clear y7 c6_0_0 c6_0_1 c6_0_2 c6_0_3 c6_1_0 c6_1_1 c6_1_2 c6_1_3 c6_2_0 c6_2_1 c6_2_2 c6_3_0 c6_3_1 c6_3_2 c6_4_0 c6_4_1 c6_4_2 c6_4_3 c6_5_0 c6_5_1 c6_5_2 c6_5_3 bel6 zc6_0 zc6_1 zc6_2 zc6_3 zc6_4 zc6_5
  have zc7_0 := World.block_lt_of_cell? _ _ c7_0_0
  have zc7_1 := World.block_lt_of_cell? _ _ c7_1_0
  have zc7_2 := World.block_lt_of_cell? _ _ c7_2_0
  have zc7_3 := World.block_lt_of_cell? _ _ c7_3_0
  have zc7_4 := World.block_lt_of_cell? _ _ c7_4_0
  have zc7_5 := World.block_lt_of_cell? _ _ c7_5_0
  go_wp2_with fail
  go_at_call 17
  (with_reducible refine (Nv _).mono ?_)
  rintro e t8 ⟨rfl, y8⟩
  obtain ⟨⟨c8_0_0, c8_0_1, c8_0_2, c8_0_3⟩, ⟨c8_1_0, c8_1_1, c8_1_2, c8_1_3⟩, ⟨c8_2_0, c8_2_1, c8_2_2⟩, ⟨c8_3_0, c8_3_1, c8_3_2⟩, ⟨c8_4_0, c8_4_1, c8_4_2, c8_4_3⟩, ⟨c8_5_0, c8_5_1, c8_5_2, c8_5_3⟩, bel8⟩ : b4 t8 w.heap.size n a0 a1 a2 ∧ b4 t8 (w.heap.size + 1) m b0 b1 b2 ∧ b3 t8 (w.heap.size + 1 + 1) x y z ∧ b3 t8 t1.heap.size v0 v1 v2 ∧ b4 t8 t2.heap.size 0 0 0 0 ∧ b4 t8 t3.heap.size un u0 u1 u2 ∧ Below w.heap.size w t8 := by
    refine ⟨?_, ?_, ?_, ?_, ?_, ?_, bs0 bel7 y8⟩ <;> (repeat' apply And.intro) <;> exact cell_later y8 (by (first | assumption | exact c_alloc (by assumption) | exact c_at rfl rfl))
  clear y8 c7_0_0 c7_0_1 c7_0_2 c7_0_3 c7_1_0 c7_1_1 c7_1_2 c7_1_3 c7_2_0 c7_2_1 c7_2_2 c7_3_0 c7_3_1 c7_3_2 c7_4_0 c7_4_1 c7_4_2 c7_4_3 c7_5_0 c7_5_1 c7_5_2 c7_5_3 bel7 zc7_0 zc7_1 zc7_2 zc7_3 zc7_4 zc7_5
  have zc8_0 := World.block_lt_of_cell? _ _ c8_0_0
  have zc8_1 := World.block_lt_of_cell? _ _ c8_1_0
  have zc8_2 := World.block_lt_of_cell? _ _ c8_2_0
  have zc8_3 := World.block_lt_of_cell? _ _ c8_3_0
  have zc8_4 := World.block_lt_of_cell? _ _ c8_4_0
  have zc8_5 := World.block_lt_of_cell? _ _ c8_5_0
  go_wp2_with fail
  go_at_call 17
  (with_reducible refine (Na _).mono ?_)
  rintro e t9 ⟨rfl, y9⟩
  obtain ⟨⟨c9_0_0, c9_0_1, c9_0_2, c9_0_3⟩, ⟨c9_1_0, c9_1_1, c9_1_2, c9_1_3⟩, ⟨c9_2_0, c9_2_1, c9_2_2⟩, ⟨c9_3_0, c9_3_1, c9_3_2⟩, ⟨c9_4_0, c9_4_1, c9_4_2, c9_4_3⟩, ⟨c9_5_0, c9_5_1, c9_5_2, c9_5_3⟩, bel9⟩ : b4 t9 w.heap.size n a0 a1 a2 ∧ b4 t9 (w.heap.size + 1) m b0 b1 b2 ∧ b3 t9 (w.heap.size + 1 + 1) x y z ∧ b3 t9 t1.heap.size v0 v1 v2 ∧ b4 t9 t2.heap.size 0 0 0 0 ∧ b4 t9 t3.heap.size un u0 u1 u2 ∧ Below w.heap.size w t9 := by
    refine ⟨?_, ?_, ?_, ?_, ?_, ?_, bs0 bel8 y9⟩ <;> (repeat' apply And.intro) <;> exact cell_later y9 (by (first | assumption | exact c_alloc (by assumption) | exact c_at rfl rfl))
  clear y9 c8_0_0 c8_0_1 c8_0_2 c8_0_3 c8_1_0 c8_1_1 c8_1_2 c8_1_3 c8_2_0 c8_2_1 c8_2_2 c8_3_0 c8_3_1 c8_3_2 c8_4_0 c8_4_1 c8_4_2 c8_4_3 c8_5_0 c8_5_1 c8_5_2 c8_5_3 bel8 zc8_0 zc8_1 zc8_2 zc8_3 zc8_4 zc8_5
  have zc9_0 := World.block_lt_of_cell? _ _ c9_0_0
  have zc9_1 := World.block_lt_of_cell? _ _ c9_1_0
  have zc9_2 := World.block_lt_of_cell? _ _ c9_2_0
  have zc9_3 := World.block_lt_of_cell? _ _ c9_3_0
  have zc9_4 := World.block_lt_of_cell? _ _ c9_4_0
  have zc9_5 := World.block_lt_of_cell? _ _ c9_5_0
  go_wp2_with fail
  go_at_call 17
  (with_reducible refine (Nb _).mono ?_)
  rintro e t10 ⟨rfl, y10⟩
  obtain ⟨⟨c10_0_0, c10_0_1, c10_0_2, c10_0_3⟩, ⟨c10_1_0, c10_1_1, c10_1_2, c10_1_3⟩, ⟨c10_2_0, c10_2_1, c10_2_2⟩, ⟨c10_3_0, c10_3_1, c10_3_2⟩, ⟨c10_4_0, c10_4_1, c10_4_2, c10_4_3⟩, ⟨c10_5_0, c10_5_1, c10_5_2, c10_5_3⟩, bel10⟩ : b4 t10 w.heap.size n a0 a1 a2 ∧ b4 t10 (w.heap.size + 1) m b0 b1 b2 ∧ b3 t10 (w.heap.size + 1 + 1) x y z ∧ b3 t10 t1.heap.size v0 v1 v2 ∧ b4 t10 t2.heap.size 0 0 0 0 ∧ b4 t10 t3.heap.size un u0 u1 u2 ∧ Below w.heap.size w t10 := by
    refine ⟨?_, ?_, ?_, ?_, ?_, ?_, bs0 bel9 y10⟩ <;> (repeat' apply And.intro) <;> exact cell_later y10 (by (first | assumption | exact c_alloc (by assumption) | exact c_at rfl rfl))
  clear y10 c9_0_0 c9_0_1 c9_0_2 c9_0_3 c9_1_0 c9_1_1 c9_1_2 c9_1_3 c9_2_0 c9_2_1 c9_2_2 c9_3_0 c9_3_1 c9_3_2 c9_4_0 c9_4_1 c9_4_2 c9_4_3 c9_5_0 c9_5_1 c9_5_2 c9_5_3 bel9 zc9_0 zc9_1 zc9_2 zc9_3 zc9_4 zc9_5
  have zc10_0 := World.block_lt_of_cell? _ _ c10_0_0
  have zc10_1 := World.block_lt_of_cell? _ _ c10_1_0
  have zc10_2 := World.block_lt_of_cell? _ _ c10_2_0
  have zc10_3 := World.block_lt_of_cell? _ _ c10_3_0
  have zc10_4 := World.block_lt_of_cell? _ _ c10_4_0
  have zc10_5 := World.block_lt_of_cell? _ _ c10_5_0
  go_upto_region 17 with fail
  refine gen_world (F := fun W1 => b4 W1 w.heap.size n a0 a1 a2 ∧ b4 W1 (w.heap.size + 1) m b0 b1 b2 ∧ b3 W1 (w.heap.size + 1 + 1) x y z ∧ b3 W1 t1.heap.size v0 v1 v2 ∧ b4 W1 t2.heap.size 0 0 0 0 ∧ b4 W1 t3.heap.size un u0 u1 u2 ∧ Below w.heap.size w W1) ?_ (fun W1 hW => ?_)
  · refine ⟨?_, ?_, ?_, ?_, ?_, ?_, bel10⟩ <;> (repeat' apply And.intro) <;> (first | assumption | exact c_alloc (by assumption) | exact c_at rfl rfl)
  obtain ⟨⟨g1_0_0, g1_0_1, g1_0_2, g1_0_3⟩, ⟨g1_1_0, g1_1_1, g1_1_2, g1_1_3⟩, ⟨g1_2_0, g1_2_1, g1_2_2⟩, ⟨g1_3_0, g1_3_1, g1_3_2⟩, ⟨g1_4_0, g1_4_1, g1_4_2, g1_4_3⟩, ⟨g1_5_0, g1_5_1, g1_5_2, g1_5_3⟩, gb1⟩ := hW
  clear c10_0_0 c10_0_1 c10_0_2 c10_0_3 c10_1_0 c10_1_1 c10_1_2 c10_1_3 c10_2_0 c10_2_1 c10_2_2 c10_3_0 c10_3_1 c10_3_2 c10_4_0 c10_4_1 c10_4_2 c10_4_3 c10_5_0 c10_5_1 c10_5_2 c10_5_3 bel10 zc10_0 zc10_1 zc10_2 zc10_3 zc10_4 zc10_5
  have mkq1 : ∀ w', Below W1.heap.size W1 w' → (Below W1.heap.size W1 w' ∧ b4 w' w.heap.size n a0 a1 a2 ∧ b4 w' (w.heap.size + 1) m b0 b1 b2 ∧ b3 w' (w.heap.size + 1 + 1) x y z ∧ b3 w' t1.heap.size v0 v1 v2 ∧ b4 w' t2.heap.size 0 0 0 0 ∧ b4 w' t3.heap.size un u0 u1 u2) := fun w' h => ⟨h, b4.later h ⟨g1_0_0, g1_0_1, g1_0_2, g1_0_3⟩, b4.later h ⟨g1_1_0, g1_1_1, g1_1_2, g1_1_3⟩, b3.later h ⟨g1_2_0, g1_2_1, g1_2_2⟩, b3.later h ⟨g1_3_0, g1_3_1, g1_3_2⟩, b4.later h ⟨g1_4_0, g1_4_1, g1_4_2, g1_4_3⟩, b4.later h ⟨g1_5_0, g1_5_1, g1_5_2, g1_5_3⟩⟩
  refine wp_region_held_drew (S := fun w' => Below W1.heap.size W1 w' ∧ b4 w' w.heap.size n a0 a1 a2 ∧ b4 w' (w.heap.size + 1) m b0 b1 b2 ∧ b3 w' (w.heap.size + 1 + 1) x y z ∧ b3 w' t1.heap.size v0 v1 v2 ∧ b4 w' t2.heap.size 0 0 0 0 ∧ b4 w' t3.heap.size un u0 u1 u2) (by kernel_rfl) (mkq1 _ ((Below.refl _ _).drew)) (fun hHeld => ?_)
  refine rOne 0 rfl (fun K hK => ?_)
  go_simp
  go_at_call 15
  (with_reducible refine (Hq _ (b_step gb1 hHeld.1 gb1.size)).mono ?_)
  rintro e rq11 ⟨rfl, zq11⟩
  go_wp2_with fail
  refine hK.out _ _ (mkq1 _ (b_step hHeld.1 zq11 hHeld.1.size)) (fun hHeld2 => ?_)
  clear hK K hHeld
  have hHeld := hHeld2
  clear hHeld2
  (try simp only [Act.put, pSa, pSb, pSc])
  refine tkY 1 ?_ rfl ?_ ?_ (by assumption)
  rotate_left
  · intro w h; simp only [b3, b4, b6, cE] at h; go_simp <;> with_reducible rfl
  (try simp only [Act.put, pSa, pSb, pSc])
  refine tkY 2 ?_ rfl ?_ ?_ (by assumption)
  rotate_left
  · intro w h; simp only [b3, b4, b6, cE] at h; go_simp <;> with_reducible rfl
  (try simp only [Act.put, pSa, pSb, pSc])
  refine tkY 3 ?_ rfl ?_ ?_ (by assumption)
  rotate_left
  · intro w h; simp only [b3, b4, b6, cE] at h; go_simp <;> with_reducible rfl
  (try simp only [Act.put, pSa, pSb, pSc])
  refine tkY 4 ?_ rfl ?_ ?_ (by assumption)
  rotate_left
  · intro w h; simp only [b3, b4, b6, cE] at h; go_simp <;> with_reducible rfl
  (try simp only [Act.put, pSa, pSb, pSc])
  refine tkY 5 ?_ rfl ?_ ?_ (by assumption)
  rotate_left
  · intro w h; simp only [b3, b4, b6, cE] at h; go_simp <;> with_reducible rfl
  (try simp only [Act.put, pSa, pSb, pSc])
  refine tkY 6 ?_ rfl ?_ ?_ (by assumption)
  rotate_left
  · intro w h; simp only [b3, b4, b6, cE] at h; go_simp <;> with_reducible rfl
  (try simp only [Act.put, pSa, pSb, pSc])
  refine tkY 7 ?_ rfl ?_ ?_ (by assumption)
  rotate_left
  · intro w h; simp only [b3, b4, b6, cE] at h; go_simp <;> with_reducible rfl
  (try simp only [Act.put, pSa, pSb, pSc])
  refine rOne 8 rfl (fun K hK => ?_)
  go_simp
  go_at_call 44
  (with_reducible refine (Hp _).mono ?_)
  rintro e rq12 ⟨rfl, zq12⟩
  go_wp2_with fail
  refine hK.out _ _ (mkq1 _ (b_step hHeld.1 zq12 hHeld.1.size)) (fun hHeld2 => ?_)
  clear hK K hHeld
  have hHeld := hHeld2
  clear hHeld2
  (try simp only [Act.put, pSa, pSb, pSc])
  refine tkY 9 ?_ rfl ?_ ?_ (by assumption)
  rotate_left
  · intro w h; simp only [b3, b4, b6, cE] at h; go_simp <;> with_reducible rfl
  (try simp only [Act.put, pSa, pSb, pSc])
  refine tkY 10 ?_ rfl ?_ ?_ (by assumption)
  rotate_left
  · intro w h; simp only [b3, b4, b6, cE] at h; go_simp <;> with_reducible rfl
  (try simp only [Act.put, pSa, pSb, pSc])
  refine tkY 11 ?_ rfl ?_ ?_ (by assumption)
  rotate_left
  · intro w h; simp only [b3, b4, b6, cE] at h; go_simp <;> with_reducible rfl
  (try simp only [Act.put, pSa, pSb, pSc])
  refine tkN 12 rfl ?_ (by assumption)
  (try simp only [Act.put, pSa, pSb, pSc])
  refine tkN 13 rfl ?_ (by assumption)
  (try simp only [Act.put, pSa, pSb, pSc])
  refine tkN 14 rfl ?_ (by assumption)
  (try simp only [Act.put, pSa, pSb, pSc])
  refine tkN 15 rfl ?_ (by assumption)
  (try simp only [Act.put, pSa, pSb, pSc])
  refine tkN 16 rfl ?_ (by assumption)
  (try simp only [Act.put, pSa, pSb, pSc])
  refine tkN 17 rfl ?_ (by assumption)
  (try simp only [Act.put, pSa, pSb, pSc])
  refine tkN 18 rfl ?_ (by assumption)
  (try simp only [Act.put, pSa, pSb, pSc])
  refine tkY 19 ?_ rfl ?_ ?_ (by assumption)
  rotate_left
  · intro w h; simp only [b3, b4, b6, cE] at h; go_simp <;> with_reducible rfl
  (try simp only [Act.put, pSa, pSb, pSc])
  refine tkY 20 ?_ rfl ?_ ?_ (by assumption)
  rotate_left
  · intro w h; simp only [b3, b4, b6, cE] at h; go_simp <;> with_reducible rfl
  (try simp only [Act.put, pSa, pSb, pSc])
  refine tkY 21 ?_ rfl ?_ ?_ (by assumption)
  rotate_left
  · intro w h; simp only [b3, b4, b6, cE] at h; go_simp <;> with_reducible rfl
  (try simp only [Act.put, pSa, pSb, pSc])
  refine tkY 22 ?_ rfl ?_ ?_ (by assumption)
  rotate_left
  · intro w h; simp only [b3, b4, b6, cE] at h; go_simp <;> with_reducible rfl
  (try simp only [Act.put, pSa, pSb, pSc])
  refine tkY 23 ?_ rfl ?_ ?_ (by assumption)
  rotate_left
  · intro w h; simp only [b3, b4, b6, cE] at h; go_simp <;> with_reducible rfl
  (try simp only [Act.put, pSa, pSb, pSc])
  refine tkY 24 ?_ rfl ?_ ?_ (by assumption)
  rotate_left
  · intro w h; simp only [b3, b4, b6, cE] at h; go_simp <;> with_reducible rfl
  (try simp only [Act.put, pSa, pSb, pSc])
  refine tkN 25 rfl ?_ (by assumption)
  (try simp only [Act.put, pSa, pSb, pSc])
  refine tkN 26 rfl ?_ (by assumption)
  (try simp only [Act.put, pSa, pSb, pSc])
  refine tkN 27 rfl ?_ (by assumption)
  (try simp only [Act.put, pSa, pSb, pSc])
  refine tkN 28 rfl ?_ (by assumption)
  (try simp only [Act.put, pSa, pSb, pSc])
  refine tkN 29 rfl ?_ (by assumption)
  (try simp only [Act.put, pSa, pSb, pSc])
  refine tkY 30 ?_ rfl ?_ ?_ (by assumption)
  rotate_left
  · intro w h; simp only [b3, b4, b6, cE] at h; go_simp <;> with_reducible rfl
  (try simp only [Act.put, pSa, pSb, pSc])
  refine tkY 31 ?_ rfl ?_ ?_ (by assumption)
  rotate_left
  · intro w h; simp only [b3, b4, b6, cE] at h; go_simp <;> with_reducible rfl
  (try simp only [Act.put, pSa, pSb, pSc])
  refine tkY 32 ?_ rfl ?_ ?_ (by assumption)
  rotate_left
  · intro w h; simp only [b3, b4, b6, cE] at h; go_simp <;> with_reducible rfl
  (try simp only [Act.put, pSa, pSb, pSc])
  refine tkY 33 ?_ rfl ?_ ?_ (by assumption)
  rotate_left
  · intro w h; simp only [b3, b4, b6, cE] at h; go_simp <;> with_reducible rfl
  (try simp only [Act.put, pSa, pSb, pSc])
  refine tkY 34 ?_ rfl ?_ ?_ (by assumption)
  rotate_left
  · intro w h; simp only [b3, b4, b6, cE] at h; go_simp <;> with_reducible rfl
  (try simp only [Act.put, pSa, pSb, pSc])
  refine tkY 35 ?_ rfl ?_ ?_ (by assumption)
  rotate_left
  · intro w h; simp only [b3, b4, b6, cE] at h; go_simp <;> with_reducible rfl
  (try simp only [Act.put, pSa, pSb, pSc])
  refine tkY 36 ?_ rfl ?_ ?_ (by assumption)
  rotate_left
  · intro w h; simp only [b3, b4, b6, cE] at h; go_simp <;> with_reducible rfl
  (try simp only [Act.put, pSa, pSb, pSc])
  refine tkY 37 ?_ rfl ?_ ?_ (by assumption)
  rotate_left
  · intro w h; simp only [b3, b4, b6, cE] at h; go_simp <;> with_reducible rfl
  (try simp only [Act.put, pSa, pSb, pSc])
  refine tkY 38 ?_ rfl ?_ ?_ (by assumption)
  rotate_left
  · intro w h; simp only [b3, b4, b6, cE] at h; go_simp <;> with_reducible rfl
  (try simp only [Act.put, pSa, pSb, pSc])
  refine tkY 39 ?_ rfl ?_ ?_ (by assumption)
  rotate_left
  · intro w h; simp only [b3, b4, b6, cE] at h; go_simp <;> with_reducible rfl
  (try simp only [Act.put, pSa, pSb, pSc])
  refine tkY 40 ?_ rfl ?_ ?_ (by assumption)
  rotate_left
  · intro w h; simp only [b3, b4, b6, cE] at h; go_simp <;> with_reducible rfl
  (try simp only [Act.put, pSa, pSb, pSc])
  refine tkY 41 ?_ rfl ?_ ?_ (by assumption)
  rotate_left
  · intro w h; simp only [b3, b4, b6, cE] at h; go_simp <;> with_reducible rfl
  (try simp only [Act.put, pSa, pSb, pSc])
  refine tkY 42 ?_ rfl ?_ ?_ (by assumption)
  rotate_left
  · intro w h; simp only [b3, b4, b6, cE] at h; go_simp <;> with_reducible rfl
  (try simp only [Act.put, pSa, pSb, pSc])
  refine tkY 43 ?_ rfl ?_ ?_ (by assumption)
  rotate_left
  · intro w h; simp only [b3, b4, b6, cE] at h; go_simp <;> with_reducible rfl
  (try simp only [Act.put, pSa, pSb, pSc])
  refine tkY 44 ?_ rfl ?_ ?_ (by assumption)
  rotate_left
  · intro w h; simp only [b3, b4, b6, cE] at h; go_simp <;> with_reducible rfl
  (try simp only [Act.put, pSa, pSb, pSc])
  refine tkY 45 ?_ rfl ?_ ?_ (by assumption)
  rotate_left
  · intro w h; simp only [b3, b4, b6, cE] at h; go_simp <;> with_reducible rfl
  (try simp only [Act.put, pSa, pSb, pSc])
  refine tkY 46 ?_ rfl ?_ ?_ (by assumption)
  rotate_left
  · intro w h; simp only [b3, b4, b6, cE] at h; go_simp <;> with_reducible rfl
  (try simp only [Act.put, pSa, pSb, pSc])
  refine rOne 47 rfl (fun K hK => ?_)
  go_simp
  go_at_call 46
  (with_reducible refine (R3 _).mono ?_)
  rintro e rq13 ⟨rfl, zq13⟩
  go_wp2_with fail
  refine hK.out _ _ (mkq1 _ (b_step hHeld.1 zq13 hHeld.1.size)) (fun hHeld2 => ?_)
  clear hK K hHeld
  have hHeld := hHeld2
  clear hHeld2
  (try simp only [Act.put, pSa, pSb, pSc])
  refine tkY 48 ?_ rfl ?_ ?_ (by assumption)
  rotate_left
  · intro w h; simp only [b3, b4, b6, cE] at h; go_simp <;> with_reducible rfl
  (try simp only [Act.put, pSa, pSb, pSc])
  refine tkY 49 ?_ rfl ?_ ?_ (by assumption)
  rotate_left
  · intro w h; simp only [b3, b4, b6, cE] at h; go_simp <;> with_reducible rfl
  (try simp only [Act.put, pSa, pSb, pSc])
  refine tkY 50 ?_ rfl ?_ ?_ (by assumption)
  rotate_left
  · intro w h; simp only [b3, b4, b6, cE] at h; go_simp <;> with_reducible rfl
  (try simp only [Act.put, pSa, pSb, pSc])
  refine tkN 51 rfl ?_ (by assumption)
  (try simp only [Act.put, pSa, pSb, pSc])
  refine tkN 52 rfl ?_ (by assumption)
  (try simp only [Act.put, pSa, pSb, pSc])
  refine tkN 53 rfl ?_ (by assumption)
  (try simp only [Act.put, pSa, pSb, pSc])
  refine tkN 54 rfl ?_ (by assumption)
  (try simp only [Act.put, pSa, pSb, pSc])
  refine tkN 55 rfl ?_ (by assumption)
  (try simp only [Act.put, pSa, pSb, pSc])
  refine tkN 56 rfl ?_ (by assumption)
  (try simp only [Act.put, pSa, pSb, pSc])
  refine tkN 57 rfl ?_ (by assumption)
  (try simp only [Act.put, pSa, pSb, pSc])
  refine tkY 58 ?_ rfl ?_ ?_ (by assumption)
  rotate_left
  · intro w h; simp only [b3, b4, b6, cE] at h; go_simp <;> with_reducible rfl
  (try simp only [Act.put, pSa, pSb, pSc])
  refine tkY 59 ?_ rfl ?_ ?_ (by assumption)
  rotate_left
  · intro w h; simp only [b3, b4, b6, cE] at h; go_simp <;> with_reducible rfl
  (try simp only [Act.put, pSa, pSb, pSc])
  refine tkY 60 ?_ rfl ?_ ?_ (by assumption)
  rotate_left
  · intro w h; simp only [b3, b4, b6, cE] at h; go_simp <;> with_reducible rfl
  (try simp only [Act.put, pSa, pSb, pSc])
  refine wpAnyH_done (by kernel_rfl) ?_ _
  have belq1 := b_step gb1 hHeld.1 gb1.size
  obtain ⟨-, ⟨h1_0_0, h1_0_1, h1_0_2, h1_0_3⟩, ⟨h1_1_0, h1_1_1, h1_1_2, h1_1_3⟩, ⟨h1_2_0, h1_2_1, h1_2_2⟩, ⟨h1_3_0, h1_3_1, h1_3_2⟩, ⟨h1_4_0, h1_4_1, h1_4_2, h1_4_3⟩, ⟨h1_5_0, h1_5_1, h1_5_2, h1_5_3⟩⟩ := hHeld
  clear gb1 mkq1 g1_0_0 g1_0_1 g1_0_2 g1_0_3 g1_1_0 g1_1_1 g1_1_2 g1_1_3 g1_2_0 g1_2_1 g1_2_2 g1_3_0 g1_3_1 g1_3_2 g1_4_0 g1_4_1 g1_4_2 g1_4_3 g1_5_0 g1_5_1 g1_5_2 g1_5_3
  have zh1_0 := World.block_lt_of_cell? _ _ h1_0_0
  have zh1_1 := World.block_lt_of_cell? _ _ h1_1_0
  have zh1_2 := World.block_lt_of_cell? _ _ h1_2_0
  have zh1_3 := World.block_lt_of_cell? _ _ h1_3_0
  have zh1_4 := World.block_lt_of_cell? _ _ h1_4_0
  have zh1_5 := World.block_lt_of_cell? _ _ h1_5_0
  go_wp2
  go_ret
  exact ⟨rfl, belq1⟩

set_option maxRecDepth 100000 in
set_option maxHeartbeats 16000000 in
theorem poses_14 (n a0 a1 a2 m b0 b1 b2 x y z v0 v1 v2 jn j0 j1 j2 un u0 u1 u2 : Int) (w : World)
    (Hq : ∀ W, Below w.heap.size w W → Calls Tryd.prog 15 #[] W fun r w' => r = .returned (.bool true) ∧ Below W.heap.size W w')
    (H1 : ∀ w, Calls Tryd.prog 43 #[vP n a0 a1 a2, vV x y z] w fun r w' => r = .returned (.tuple #[vV v0 v1 v2, .int .i64 0]) ∧ Below w.heap.size w w')
    (H2 : ∀ w, Calls Tryd.prog 42 #[vP n a0 a1 a2, vP m b0 b1 b2] w fun r w' => r = .returned (.tuple #[vP 0 0 0 0, .int .i64 6]) ∧ Below w.heap.size w w')
    (H3 : ∀ w, Calls Tryd.prog 41 #[vP n a0 a1 a2] w fun r w' => r = .returned (.tuple #[vP un u0 u1 u2, .int .i64 0]) ∧ Below w.heap.size w w')
    (In : ∀ w, Calls Tryd.prog 14 #[.int .i64 n] w fun e w' => e = .returned (.bool true) ∧ w = w')
    (Im : ∀ w, Calls Tryd.prog 14 #[.int .i64 m] w fun e w' => e = .returned (.bool true) ∧ w = w')
    (Na : ∀ w, Calls Tryd.prog 17 #[vV a0 a1 a2] w fun r w' => r = .returned (.bool true) ∧ Below w.heap.size w w')
    (Np : ∀ w, Calls Tryd.prog 17 #[vV x y z] w fun r w' => r = .returned (.bool true) ∧ Below w.heap.size w w')
    (Hp : ∀ w, Calls Tryd.prog 44 #[vP n a0 a1 a2, vV x y z] w fun r w' => r = .returned (vV v0 v1 v2) ∧ Below w.heap.size w w')
    (Nv : ∀ w, Calls Tryd.prog 17 #[vV v0 v1 v2] w fun r w' => r = .returned (.bool true) ∧ Below w.heap.size w w')
    (Nb : ∀ w, Calls Tryd.prog 17 #[vV b0 b1 b2] w fun r w' => r = .returned (.bool true) ∧ Below w.heap.size w w')
    (Hj : ∀ w, Calls Tryd.prog 44 #[vP n a0 a1 a2, vV b0 b1 b2] w fun r w' => r = .returned (vV j0 j1 j2) ∧ Below w.heap.size w w')
    (Nj : ∀ w, Calls Tryd.prog 17 #[vV j0 j1 j2] w fun r w' => r = .returned (.bool false) ∧ Below w.heap.size w w')
    (R3 : ∀ w, Calls Tryd.prog 46 #[vP n a0 a1 a2] w fun r w' => r = .returned (vP un u0 u1 u2) ∧ Below w.heap.size w w') :
    Calls Tryd.prog 10 #[vP n a0 a1 a2, vP m b0 b1 b2, vV x y z] w fun e w' => e = .returned (.bool true) ∧ Below w.heap.size w w' := by
  have ev : ∀ w, (binOp .eql 23 (vV v0 v1 v2) (vV v0 v1 v2)).run Tryd.prog w = .ok (.bool true) w := fun w => by rw [eql_V, decide_eq_true (by simp)]
  have eu : ∀ w, (binOp .eql 25 (vP un u0 u1 u2) (vP un u0 u1 u2)).run Tryd.prog w = .ok (.bool true) w := fun w => by rw [eql_P, decide_eq_true (by simp)]
  go_enter Tryd.func10, Tryd.ntmps10
  go_wp2_with fail
  go_at_call 43
  (with_reducible refine (H1 _).mono ?_)
  rintro e t1 ⟨rfl, y1⟩
  have hyy := y1.size
  (try simp only [World.size_alloc, World.size_setCell, World.size_drew] at hyy)
  obtain ⟨⟨c1_0_0, c1_0_1, c1_0_2, c1_0_3⟩, ⟨c1_1_0, c1_1_1, c1_1_2, c1_1_3⟩, ⟨c1_2_0, c1_2_1, c1_2_2⟩, bel1⟩ : b4 t1 w.heap.size n a0 a1 a2 ∧ b4 t1 (w.heap.size + 1) m b0 b1 b2 ∧ b3 t1 (w.heap.size + 1 + 1) x y z ∧ Below w.heap.size w t1 := by
    refine ⟨?_, ?_, ?_, b_step (by (repeat' (first | (with_reducible assumption) | (with_reducible exact Below.refl _ _) | (with_reducible refine Below.alloc ?_ ?_ _) | (with_reducible refine Below.drew ?_) | (with_reducible refine Below.setCell ?_ ?_ _) | (with_reducible refine b_step ?_ (by assumption) ?_) | omega | (simp only [World.size_alloc, World.size_setCell, World.size_drew]; omega)))) y1 (by simp only [World.size_alloc, World.size_setCell, World.size_drew]; omega)⟩ <;> (repeat' apply And.intro) <;> exact cell_later y1 (by (simp (disch := first | omega | (simp only [World.size_alloc, World.size_setCell, World.size_drew]; done) | (simp only [World.size_alloc, World.size_setCell, World.size_drew]; omega)) only [*, r_set_same, r_set_off, r_set_blk, r_set_f, r_alloc_at, r_alloc_past, r_falloc_at, r_falloc_past, World.cell?_drew, World.frozen?_drew, Option.map_some, List.getElem?_toArray, List.getElem?_cons_zero, List.getElem?_cons_succ]; done))
  clear hyy y1 
  have zc1_0 := World.block_lt_of_cell? _ _ c1_0_0
  have zc1_1 := World.block_lt_of_cell? _ _ c1_1_0
  have zc1_2 := World.block_lt_of_cell? _ _ c1_2_0
  go_wp2_with fail
  go_at_call 42
  (with_reducible refine (H2 _).mono ?_)
  rintro e t2 ⟨rfl, y2⟩
  obtain ⟨⟨c2_0_0, c2_0_1, c2_0_2, c2_0_3⟩, ⟨c2_1_0, c2_1_1, c2_1_2, c2_1_3⟩, ⟨c2_2_0, c2_2_1, c2_2_2⟩, ⟨c2_3_0, c2_3_1, c2_3_2⟩, bel2⟩ : b4 t2 w.heap.size n a0 a1 a2 ∧ b4 t2 (w.heap.size + 1) m b0 b1 b2 ∧ b3 t2 (w.heap.size + 1 + 1) x y z ∧ b3 t2 t1.heap.size v0 v1 v2 ∧ Below w.heap.size w t2 := by
    refine ⟨?_, ?_, ?_, ?_, bs1 bel1 y2⟩ <;> (repeat' apply And.intro) <;> exact cell_later y2 (by (first | assumption | exact c_alloc (by assumption) | exact c_at rfl rfl))
  clear y2 c1_0_0 c1_0_1 c1_0_2 c1_0_3 c1_1_0 c1_1_1 c1_1_2 c1_1_3 c1_2_0 c1_2_1 c1_2_2 bel1 zc1_0 zc1_1 zc1_2
  have zc2_0 := World.block_lt_of_cell? _ _ c2_0_0
  have zc2_1 := World.block_lt_of_cell? _ _ c2_1_0
  have zc2_2 := World.block_lt_of_cell? _ _ c2_2_0
  have zc2_3 := World.block_lt_of_cell? _ _ c2_3_0
  go_wp2_with fail
  go_at_call 41
  (with_reducible refine (H3 _).mono ?_)
  rintro e t3 ⟨rfl, y3⟩
  obtain ⟨⟨c3_0_0, c3_0_1, c3_0_2, c3_0_3⟩, ⟨c3_1_0, c3_1_1, c3_1_2, c3_1_3⟩, ⟨c3_2_0, c3_2_1, c3_2_2⟩, ⟨c3_3_0, c3_3_1, c3_3_2⟩, ⟨c3_4_0, c3_4_1, c3_4_2, c3_4_3⟩, bel3⟩ : b4 t3 w.heap.size n a0 a1 a2 ∧ b4 t3 (w.heap.size + 1) m b0 b1 b2 ∧ b3 t3 (w.heap.size + 1 + 1) x y z ∧ b3 t3 t1.heap.size v0 v1 v2 ∧ b4 t3 t2.heap.size 0 0 0 0 ∧ Below w.heap.size w t3 := by
    refine ⟨?_, ?_, ?_, ?_, ?_, bs1 bel2 y3⟩ <;> (repeat' apply And.intro) <;> exact cell_later y3 (by (first | assumption | exact c_alloc (by assumption) | exact c_at rfl rfl))
  clear y3 c2_0_0 c2_0_1 c2_0_2 c2_0_3 c2_1_0 c2_1_1 c2_1_2 c2_1_3 c2_2_0 c2_2_1 c2_2_2 c2_3_0 c2_3_1 c2_3_2 bel2 zc2_0 zc2_1 zc2_2 zc2_3
  have zc3_0 := World.block_lt_of_cell? _ _ c3_0_0
  have zc3_1 := World.block_lt_of_cell? _ _ c3_1_0
  have zc3_2 := World.block_lt_of_cell? _ _ c3_2_0
  have zc3_3 := World.block_lt_of_cell? _ _ c3_3_0
  have zc3_4 := World.block_lt_of_cell? _ _ c3_4_0
  go_wp2_with fail
  go_at_call 14
  (with_reducible refine (In _).mono ?_)
  rintro e tt ⟨rfl, rfl⟩
  go_wp2_with fail
  go_at_call 14
  (with_reducible refine (Im _).mono ?_)
  rintro e tt ⟨rfl, rfl⟩
  go_wp2_with fail
  go_at_call 17
  (with_reducible refine (Na _).mono ?_)
  rintro e t4 ⟨rfl, y4⟩
  obtain ⟨⟨c4_0_0, c4_0_1, c4_0_2, c4_0_3⟩, ⟨c4_1_0, c4_1_1, c4_1_2, c4_1_3⟩, ⟨c4_2_0, c4_2_1, c4_2_2⟩, ⟨c4_3_0, c4_3_1, c4_3_2⟩, ⟨c4_4_0, c4_4_1, c4_4_2, c4_4_3⟩, ⟨c4_5_0, c4_5_1, c4_5_2, c4_5_3⟩, bel4⟩ : b4 t4 w.heap.size n a0 a1 a2 ∧ b4 t4 (w.heap.size + 1) m b0 b1 b2 ∧ b3 t4 (w.heap.size + 1 + 1) x y z ∧ b3 t4 t1.heap.size v0 v1 v2 ∧ b4 t4 t2.heap.size 0 0 0 0 ∧ b4 t4 t3.heap.size un u0 u1 u2 ∧ Below w.heap.size w t4 := by
    refine ⟨?_, ?_, ?_, ?_, ?_, ?_, bs1 bel3 y4⟩ <;> (repeat' apply And.intro) <;> exact cell_later y4 (by (first | assumption | exact c_alloc (by assumption) | exact c_at rfl rfl))
  clear y4 c3_0_0 c3_0_1 c3_0_2 c3_0_3 c3_1_0 c3_1_1 c3_1_2 c3_1_3 c3_2_0 c3_2_1 c3_2_2 c3_3_0 c3_3_1 c3_3_2 c3_4_0 c3_4_1 c3_4_2 c3_4_3 bel3 zc3_0 zc3_1 zc3_2 zc3_3 zc3_4
  have zc4_0 := World.block_lt_of_cell? _ _ c4_0_0
  have zc4_1 := World.block_lt_of_cell? _ _ c4_1_0
  have zc4_2 := World.block_lt_of_cell? _ _ c4_2_0
  have zc4_3 := World.block_lt_of_cell? _ _ c4_3_0
  have zc4_4 := World.block_lt_of_cell? _ _ c4_4_0
  have zc4_5 := World.block_lt_of_cell? _ _ c4_5_0
  go_wp2_with fail
  go_at_call 17
  (with_reducible refine (Na _).mono ?_)
  rintro e t5 ⟨rfl, y5⟩
  obtain ⟨⟨c5_0_0, c5_0_1, c5_0_2, c5_0_3⟩, ⟨c5_1_0, c5_1_1, c5_1_2, c5_1_3⟩, ⟨c5_2_0, c5_2_1, c5_2_2⟩, ⟨c5_3_0, c5_3_1, c5_3_2⟩, ⟨c5_4_0, c5_4_1, c5_4_2, c5_4_3⟩, ⟨c5_5_0, c5_5_1, c5_5_2, c5_5_3⟩, bel5⟩ : b4 t5 w.heap.size n a0 a1 a2 ∧ b4 t5 (w.heap.size + 1) m b0 b1 b2 ∧ b3 t5 (w.heap.size + 1 + 1) x y z ∧ b3 t5 t1.heap.size v0 v1 v2 ∧ b4 t5 t2.heap.size 0 0 0 0 ∧ b4 t5 t3.heap.size un u0 u1 u2 ∧ Below w.heap.size w t5 := by
    refine ⟨?_, ?_, ?_, ?_, ?_, ?_, bs0 bel4 y5⟩ <;> (repeat' apply And.intro) <;> exact cell_later y5 (by (first | assumption | exact c_alloc (by assumption) | exact c_at rfl rfl))
  clear y5 c4_0_0 c4_0_1 c4_0_2 c4_0_3 c4_1_0 c4_1_1 c4_1_2 c4_1_3 c4_2_0 c4_2_1 c4_2_2 c4_3_0 c4_3_1 c4_3_2 c4_4_0 c4_4_1 c4_4_2 c4_4_3 c4_5_0 c4_5_1 c4_5_2 c4_5_3 bel4 zc4_0 zc4_1 zc4_2 zc4_3 zc4_4 zc4_5
  have zc5_0 := World.block_lt_of_cell? _ _ c5_0_0
  have zc5_1 := World.block_lt_of_cell? _ _ c5_1_0
  have zc5_2 := World.block_lt_of_cell? _ _ c5_2_0
  have zc5_3 := World.block_lt_of_cell? _ _ c5_3_0
  have zc5_4 := World.block_lt_of_cell? _ _ c5_4_0
  have zc5_5 := World.block_lt_of_cell? _ _ c5_5_0
  go_wp2_with fail
  go_at_call 17
  (with_reducible refine (Np _).mono ?_)
  rintro e t6 ⟨rfl, y6⟩
  obtain ⟨⟨c6_0_0, c6_0_1, c6_0_2, c6_0_3⟩, ⟨c6_1_0, c6_1_1, c6_1_2, c6_1_3⟩, ⟨c6_2_0, c6_2_1, c6_2_2⟩, ⟨c6_3_0, c6_3_1, c6_3_2⟩, ⟨c6_4_0, c6_4_1, c6_4_2, c6_4_3⟩, ⟨c6_5_0, c6_5_1, c6_5_2, c6_5_3⟩, bel6⟩ : b4 t6 w.heap.size n a0 a1 a2 ∧ b4 t6 (w.heap.size + 1) m b0 b1 b2 ∧ b3 t6 (w.heap.size + 1 + 1) x y z ∧ b3 t6 t1.heap.size v0 v1 v2 ∧ b4 t6 t2.heap.size 0 0 0 0 ∧ b4 t6 t3.heap.size un u0 u1 u2 ∧ Below w.heap.size w t6 := by
    refine ⟨?_, ?_, ?_, ?_, ?_, ?_, bs0 bel5 y6⟩ <;> (repeat' apply And.intro) <;> exact cell_later y6 (by (first | assumption | exact c_alloc (by assumption) | exact c_at rfl rfl))
  clear y6 c5_0_0 c5_0_1 c5_0_2 c5_0_3 c5_1_0 c5_1_1 c5_1_2 c5_1_3 c5_2_0 c5_2_1 c5_2_2 c5_3_0 c5_3_1 c5_3_2 c5_4_0 c5_4_1 c5_4_2 c5_4_3 c5_5_0 c5_5_1 c5_5_2 c5_5_3 bel5 zc5_0 zc5_1 zc5_2 zc5_3 zc5_4 zc5_5
  have zc6_0 := World.block_lt_of_cell? _ _ c6_0_0
  have zc6_1 := World.block_lt_of_cell? _ _ c6_1_0
  have zc6_2 := World.block_lt_of_cell? _ _ c6_2_0
  have zc6_3 := World.block_lt_of_cell? _ _ c6_3_0
  have zc6_4 := World.block_lt_of_cell? _ _ c6_4_0
  have zc6_5 := World.block_lt_of_cell? _ _ c6_5_0
  go_wp2_with fail
  go_at_call 44
  (with_reducible refine (Hp _).mono ?_)
  rintro e t7 ⟨rfl, y7⟩
  obtain ⟨⟨c7_0_0, c7_0_1, c7_0_2, c7_0_3⟩, ⟨c7_1_0, c7_1_1, c7_1_2, c7_1_3⟩, ⟨c7_2_0, c7_2_1, c7_2_2⟩, ⟨c7_3_0, c7_3_1, c7_3_2⟩, ⟨c7_4_0, c7_4_1, c7_4_2, c7_4_3⟩, ⟨c7_5_0, c7_5_1, c7_5_2, c7_5_3⟩, bel7⟩ : b4 t7 w.heap.size n a0 a1 a2 ∧ b4 t7 (w.heap.size + 1) m b0 b1 b2 ∧ b3 t7 (w.heap.size + 1 + 1) x y z ∧ b3 t7 t1.heap.size v0 v1 v2 ∧ b4 t7 t2.heap.size 0 0 0 0 ∧ b4 t7 t3.heap.size un u0 u1 u2 ∧ Below w.heap.size w t7 := by
    refine ⟨?_, ?_, ?_, ?_, ?_, ?_, bs0 bel6 y7⟩ <;> (repeat' apply And.intro) <;> exact cell_later y7 (by (first | assumption | exact c_alloc (by assumption) | exact c_at rfl rfl))
  clear y7 c6_0_0 c6_0_1 c6_0_2 c6_0_3 c6_1_0 c6_1_1 c6_1_2 c6_1_3 c6_2_0 c6_2_1 c6_2_2 c6_3_0 c6_3_1 c6_3_2 c6_4_0 c6_4_1 c6_4_2 c6_4_3 c6_5_0 c6_5_1 c6_5_2 c6_5_3 bel6 zc6_0 zc6_1 zc6_2 zc6_3 zc6_4 zc6_5
  have zc7_0 := World.block_lt_of_cell? _ _ c7_0_0
  have zc7_1 := World.block_lt_of_cell? _ _ c7_1_0
  have zc7_2 := World.block_lt_of_cell? _ _ c7_2_0
  have zc7_3 := World.block_lt_of_cell? _ _ c7_3_0
  have zc7_4 := World.block_lt_of_cell? _ _ c7_4_0
  have zc7_5 := World.block_lt_of_cell? _ _ c7_5_0
  go_wp2_with fail
  go_at_call 17
  (with_reducible refine (Nv _).mono ?_)
  rintro e t8 ⟨rfl, y8⟩
  obtain ⟨⟨c8_0_0, c8_0_1, c8_0_2, c8_0_3⟩, ⟨c8_1_0, c8_1_1, c8_1_2, c8_1_3⟩, ⟨c8_2_0, c8_2_1, c8_2_2⟩, ⟨c8_3_0, c8_3_1, c8_3_2⟩, ⟨c8_4_0, c8_4_1, c8_4_2, c8_4_3⟩, ⟨c8_5_0, c8_5_1, c8_5_2, c8_5_3⟩, bel8⟩ : b4 t8 w.heap.size n a0 a1 a2 ∧ b4 t8 (w.heap.size + 1) m b0 b1 b2 ∧ b3 t8 (w.heap.size + 1 + 1) x y z ∧ b3 t8 t1.heap.size v0 v1 v2 ∧ b4 t8 t2.heap.size 0 0 0 0 ∧ b4 t8 t3.heap.size un u0 u1 u2 ∧ Below w.heap.size w t8 := by
    refine ⟨?_, ?_, ?_, ?_, ?_, ?_, bs0 bel7 y8⟩ <;> (repeat' apply And.intro) <;> exact cell_later y8 (by (first | assumption | exact c_alloc (by assumption) | exact c_at rfl rfl))
  clear y8 c7_0_0 c7_0_1 c7_0_2 c7_0_3 c7_1_0 c7_1_1 c7_1_2 c7_1_3 c7_2_0 c7_2_1 c7_2_2 c7_3_0 c7_3_1 c7_3_2 c7_4_0 c7_4_1 c7_4_2 c7_4_3 c7_5_0 c7_5_1 c7_5_2 c7_5_3 bel7 zc7_0 zc7_1 zc7_2 zc7_3 zc7_4 zc7_5
  have zc8_0 := World.block_lt_of_cell? _ _ c8_0_0
  have zc8_1 := World.block_lt_of_cell? _ _ c8_1_0
  have zc8_2 := World.block_lt_of_cell? _ _ c8_2_0
  have zc8_3 := World.block_lt_of_cell? _ _ c8_3_0
  have zc8_4 := World.block_lt_of_cell? _ _ c8_4_0
  have zc8_5 := World.block_lt_of_cell? _ _ c8_5_0
  go_wp2_with fail
  go_at_call 17
  (with_reducible refine (Na _).mono ?_)
  rintro e t9 ⟨rfl, y9⟩
  obtain ⟨⟨c9_0_0, c9_0_1, c9_0_2, c9_0_3⟩, ⟨c9_1_0, c9_1_1, c9_1_2, c9_1_3⟩, ⟨c9_2_0, c9_2_1, c9_2_2⟩, ⟨c9_3_0, c9_3_1, c9_3_2⟩, ⟨c9_4_0, c9_4_1, c9_4_2, c9_4_3⟩, ⟨c9_5_0, c9_5_1, c9_5_2, c9_5_3⟩, bel9⟩ : b4 t9 w.heap.size n a0 a1 a2 ∧ b4 t9 (w.heap.size + 1) m b0 b1 b2 ∧ b3 t9 (w.heap.size + 1 + 1) x y z ∧ b3 t9 t1.heap.size v0 v1 v2 ∧ b4 t9 t2.heap.size 0 0 0 0 ∧ b4 t9 t3.heap.size un u0 u1 u2 ∧ Below w.heap.size w t9 := by
    refine ⟨?_, ?_, ?_, ?_, ?_, ?_, bs0 bel8 y9⟩ <;> (repeat' apply And.intro) <;> exact cell_later y9 (by (first | assumption | exact c_alloc (by assumption) | exact c_at rfl rfl))
  clear y9 c8_0_0 c8_0_1 c8_0_2 c8_0_3 c8_1_0 c8_1_1 c8_1_2 c8_1_3 c8_2_0 c8_2_1 c8_2_2 c8_3_0 c8_3_1 c8_3_2 c8_4_0 c8_4_1 c8_4_2 c8_4_3 c8_5_0 c8_5_1 c8_5_2 c8_5_3 bel8 zc8_0 zc8_1 zc8_2 zc8_3 zc8_4 zc8_5
  have zc9_0 := World.block_lt_of_cell? _ _ c9_0_0
  have zc9_1 := World.block_lt_of_cell? _ _ c9_1_0
  have zc9_2 := World.block_lt_of_cell? _ _ c9_2_0
  have zc9_3 := World.block_lt_of_cell? _ _ c9_3_0
  have zc9_4 := World.block_lt_of_cell? _ _ c9_4_0
  have zc9_5 := World.block_lt_of_cell? _ _ c9_5_0
  go_wp2_with fail
  go_at_call 17
  (with_reducible refine (Nb _).mono ?_)
  rintro e t10 ⟨rfl, y10⟩
  obtain ⟨⟨c10_0_0, c10_0_1, c10_0_2, c10_0_3⟩, ⟨c10_1_0, c10_1_1, c10_1_2, c10_1_3⟩, ⟨c10_2_0, c10_2_1, c10_2_2⟩, ⟨c10_3_0, c10_3_1, c10_3_2⟩, ⟨c10_4_0, c10_4_1, c10_4_2, c10_4_3⟩, ⟨c10_5_0, c10_5_1, c10_5_2, c10_5_3⟩, bel10⟩ : b4 t10 w.heap.size n a0 a1 a2 ∧ b4 t10 (w.heap.size + 1) m b0 b1 b2 ∧ b3 t10 (w.heap.size + 1 + 1) x y z ∧ b3 t10 t1.heap.size v0 v1 v2 ∧ b4 t10 t2.heap.size 0 0 0 0 ∧ b4 t10 t3.heap.size un u0 u1 u2 ∧ Below w.heap.size w t10 := by
    refine ⟨?_, ?_, ?_, ?_, ?_, ?_, bs0 bel9 y10⟩ <;> (repeat' apply And.intro) <;> exact cell_later y10 (by (first | assumption | exact c_alloc (by assumption) | exact c_at rfl rfl))
  clear y10 c9_0_0 c9_0_1 c9_0_2 c9_0_3 c9_1_0 c9_1_1 c9_1_2 c9_1_3 c9_2_0 c9_2_1 c9_2_2 c9_3_0 c9_3_1 c9_3_2 c9_4_0 c9_4_1 c9_4_2 c9_4_3 c9_5_0 c9_5_1 c9_5_2 c9_5_3 bel9 zc9_0 zc9_1 zc9_2 zc9_3 zc9_4 zc9_5
  have zc10_0 := World.block_lt_of_cell? _ _ c10_0_0
  have zc10_1 := World.block_lt_of_cell? _ _ c10_1_0
  have zc10_2 := World.block_lt_of_cell? _ _ c10_2_0
  have zc10_3 := World.block_lt_of_cell? _ _ c10_3_0
  have zc10_4 := World.block_lt_of_cell? _ _ c10_4_0
  have zc10_5 := World.block_lt_of_cell? _ _ c10_5_0
  go_wp2_with fail
  go_at_call 44
  (with_reducible refine (Hj _).mono ?_)
  rintro e t11 ⟨rfl, y11⟩
  obtain ⟨⟨c11_0_0, c11_0_1, c11_0_2, c11_0_3⟩, ⟨c11_1_0, c11_1_1, c11_1_2, c11_1_3⟩, ⟨c11_2_0, c11_2_1, c11_2_2⟩, ⟨c11_3_0, c11_3_1, c11_3_2⟩, ⟨c11_4_0, c11_4_1, c11_4_2, c11_4_3⟩, ⟨c11_5_0, c11_5_1, c11_5_2, c11_5_3⟩, bel11⟩ : b4 t11 w.heap.size n a0 a1 a2 ∧ b4 t11 (w.heap.size + 1) m b0 b1 b2 ∧ b3 t11 (w.heap.size + 1 + 1) x y z ∧ b3 t11 t1.heap.size v0 v1 v2 ∧ b4 t11 t2.heap.size 0 0 0 0 ∧ b4 t11 t3.heap.size un u0 u1 u2 ∧ Below w.heap.size w t11 := by
    refine ⟨?_, ?_, ?_, ?_, ?_, ?_, bs0 bel10 y11⟩ <;> (repeat' apply And.intro) <;> exact cell_later y11 (by (first | assumption | exact c_alloc (by assumption) | exact c_at rfl rfl))
  clear y11 c10_0_0 c10_0_1 c10_0_2 c10_0_3 c10_1_0 c10_1_1 c10_1_2 c10_1_3 c10_2_0 c10_2_1 c10_2_2 c10_3_0 c10_3_1 c10_3_2 c10_4_0 c10_4_1 c10_4_2 c10_4_3 c10_5_0 c10_5_1 c10_5_2 c10_5_3 bel10 zc10_0 zc10_1 zc10_2 zc10_3 zc10_4 zc10_5
  have zc11_0 := World.block_lt_of_cell? _ _ c11_0_0
  have zc11_1 := World.block_lt_of_cell? _ _ c11_1_0
  have zc11_2 := World.block_lt_of_cell? _ _ c11_2_0
  have zc11_3 := World.block_lt_of_cell? _ _ c11_3_0
  have zc11_4 := World.block_lt_of_cell? _ _ c11_4_0
  have zc11_5 := World.block_lt_of_cell? _ _ c11_5_0
  go_wp2_with fail
  go_at_call 17
  (with_reducible refine (Nj _).mono ?_)
  rintro e t12 ⟨rfl, y12⟩
  obtain ⟨⟨c12_0_0, c12_0_1, c12_0_2, c12_0_3⟩, ⟨c12_1_0, c12_1_1, c12_1_2, c12_1_3⟩, ⟨c12_2_0, c12_2_1, c12_2_2⟩, ⟨c12_3_0, c12_3_1, c12_3_2⟩, ⟨c12_4_0, c12_4_1, c12_4_2, c12_4_3⟩, ⟨c12_5_0, c12_5_1, c12_5_2, c12_5_3⟩, bel12⟩ : b4 t12 w.heap.size n a0 a1 a2 ∧ b4 t12 (w.heap.size + 1) m b0 b1 b2 ∧ b3 t12 (w.heap.size + 1 + 1) x y z ∧ b3 t12 t1.heap.size v0 v1 v2 ∧ b4 t12 t2.heap.size 0 0 0 0 ∧ b4 t12 t3.heap.size un u0 u1 u2 ∧ Below w.heap.size w t12 := by
    refine ⟨?_, ?_, ?_, ?_, ?_, ?_, bs0 bel11 y12⟩ <;> (repeat' apply And.intro) <;> exact cell_later y12 (by (first | assumption | exact c_alloc (by assumption) | exact c_at rfl rfl))
  clear y12 c11_0_0 c11_0_1 c11_0_2 c11_0_3 c11_1_0 c11_1_1 c11_1_2 c11_1_3 c11_2_0 c11_2_1 c11_2_2 c11_3_0 c11_3_1 c11_3_2 c11_4_0 c11_4_1 c11_4_2 c11_4_3 c11_5_0 c11_5_1 c11_5_2 c11_5_3 bel11 zc11_0 zc11_1 zc11_2 zc11_3 zc11_4 zc11_5
  have zc12_0 := World.block_lt_of_cell? _ _ c12_0_0
  have zc12_1 := World.block_lt_of_cell? _ _ c12_1_0
  have zc12_2 := World.block_lt_of_cell? _ _ c12_2_0
  have zc12_3 := World.block_lt_of_cell? _ _ c12_3_0
  have zc12_4 := World.block_lt_of_cell? _ _ c12_4_0
  have zc12_5 := World.block_lt_of_cell? _ _ c12_5_0
  go_upto_region 17 with fail
  refine gen_world (F := fun W1 => b4 W1 w.heap.size n a0 a1 a2 ∧ b4 W1 (w.heap.size + 1) m b0 b1 b2 ∧ b3 W1 (w.heap.size + 1 + 1) x y z ∧ b3 W1 t1.heap.size v0 v1 v2 ∧ b4 W1 t2.heap.size 0 0 0 0 ∧ b4 W1 t3.heap.size un u0 u1 u2 ∧ Below w.heap.size w W1) ?_ (fun W1 hW => ?_)
  · refine ⟨?_, ?_, ?_, ?_, ?_, ?_, bel12⟩ <;> (repeat' apply And.intro) <;> (first | assumption | exact c_alloc (by assumption) | exact c_at rfl rfl)
  obtain ⟨⟨g1_0_0, g1_0_1, g1_0_2, g1_0_3⟩, ⟨g1_1_0, g1_1_1, g1_1_2, g1_1_3⟩, ⟨g1_2_0, g1_2_1, g1_2_2⟩, ⟨g1_3_0, g1_3_1, g1_3_2⟩, ⟨g1_4_0, g1_4_1, g1_4_2, g1_4_3⟩, ⟨g1_5_0, g1_5_1, g1_5_2, g1_5_3⟩, gb1⟩ := hW
  clear c12_0_0 c12_0_1 c12_0_2 c12_0_3 c12_1_0 c12_1_1 c12_1_2 c12_1_3 c12_2_0 c12_2_1 c12_2_2 c12_3_0 c12_3_1 c12_3_2 c12_4_0 c12_4_1 c12_4_2 c12_4_3 c12_5_0 c12_5_1 c12_5_2 c12_5_3 bel12 zc12_0 zc12_1 zc12_2 zc12_3 zc12_4 zc12_5
  have mkq1 : ∀ w', Below W1.heap.size W1 w' → (Below W1.heap.size W1 w' ∧ b4 w' w.heap.size n a0 a1 a2 ∧ b4 w' (w.heap.size + 1) m b0 b1 b2 ∧ b3 w' (w.heap.size + 1 + 1) x y z ∧ b3 w' t1.heap.size v0 v1 v2 ∧ b4 w' t2.heap.size 0 0 0 0 ∧ b4 w' t3.heap.size un u0 u1 u2) := fun w' h => ⟨h, b4.later h ⟨g1_0_0, g1_0_1, g1_0_2, g1_0_3⟩, b4.later h ⟨g1_1_0, g1_1_1, g1_1_2, g1_1_3⟩, b3.later h ⟨g1_2_0, g1_2_1, g1_2_2⟩, b3.later h ⟨g1_3_0, g1_3_1, g1_3_2⟩, b4.later h ⟨g1_4_0, g1_4_1, g1_4_2, g1_4_3⟩, b4.later h ⟨g1_5_0, g1_5_1, g1_5_2, g1_5_3⟩⟩
  refine wp_region_held_drew (S := fun w' => Below W1.heap.size W1 w' ∧ b4 w' w.heap.size n a0 a1 a2 ∧ b4 w' (w.heap.size + 1) m b0 b1 b2 ∧ b3 w' (w.heap.size + 1 + 1) x y z ∧ b3 w' t1.heap.size v0 v1 v2 ∧ b4 w' t2.heap.size 0 0 0 0 ∧ b4 w' t3.heap.size un u0 u1 u2) (by kernel_rfl) (mkq1 _ ((Below.refl _ _).drew)) (fun hHeld => ?_)
  refine rOne 0 rfl (fun K hK => ?_)
  go_simp
  go_at_call 15
  (with_reducible refine (Hq _ (b_step gb1 hHeld.1 gb1.size)).mono ?_)
  rintro e rq11 ⟨rfl, zq11⟩
  go_wp2_with fail
  refine hK.out _ _ (mkq1 _ (b_step hHeld.1 zq11 hHeld.1.size)) (fun hHeld2 => ?_)
  clear hK K hHeld
  have hHeld := hHeld2
  clear hHeld2
  (try simp only [Act.put, pSa, pSb, pSc])
  refine tkY 1 ?_ rfl ?_ ?_ (by assumption)
  rotate_left
  · intro w h; simp only [b3, b4, b6, cE] at h; go_simp <;> with_reducible rfl
  (try simp only [Act.put, pSa, pSb, pSc])
  refine tkY 2 ?_ rfl ?_ ?_ (by assumption)
  rotate_left
  · intro w h; simp only [b3, b4, b6, cE] at h; go_simp <;> with_reducible rfl
  (try simp only [Act.put, pSa, pSb, pSc])
  refine tkY 3 ?_ rfl ?_ ?_ (by assumption)
  rotate_left
  · intro w h; simp only [b3, b4, b6, cE] at h; go_simp <;> with_reducible rfl
  (try simp only [Act.put, pSa, pSb, pSc])
  refine tkY 4 ?_ rfl ?_ ?_ (by assumption)
  rotate_left
  · intro w h; simp only [b3, b4, b6, cE] at h; go_simp <;> with_reducible rfl
  (try simp only [Act.put, pSa, pSb, pSc])
  refine tkY 5 ?_ rfl ?_ ?_ (by assumption)
  rotate_left
  · intro w h; simp only [b3, b4, b6, cE] at h; go_simp <;> with_reducible rfl
  (try simp only [Act.put, pSa, pSb, pSc])
  refine tkY 6 ?_ rfl ?_ ?_ (by assumption)
  rotate_left
  · intro w h; simp only [b3, b4, b6, cE] at h; go_simp <;> with_reducible rfl
  (try simp only [Act.put, pSa, pSb, pSc])
  refine tkY 7 ?_ rfl ?_ ?_ (by assumption)
  rotate_left
  · intro w h; simp only [b3, b4, b6, cE] at h; go_simp <;> with_reducible rfl
  (try simp only [Act.put, pSa, pSb, pSc])
  refine rOne 8 rfl (fun K hK => ?_)
  go_simp
  go_at_call 44
  (with_reducible refine (Hp _).mono ?_)
  rintro e rq12 ⟨rfl, zq12⟩
  go_wp2_with fail
  refine hK.out _ _ (mkq1 _ (b_step hHeld.1 zq12 hHeld.1.size)) (fun hHeld2 => ?_)
  clear hK K hHeld
  have hHeld := hHeld2
  clear hHeld2
  (try simp only [Act.put, pSa, pSb, pSc])
  refine tkY 9 ?_ rfl ?_ ?_ (by assumption)
  rotate_left
  · intro w h; simp only [b3, b4, b6, cE] at h; go_simp <;> with_reducible rfl
  (try simp only [Act.put, pSa, pSb, pSc])
  refine tkY 10 ?_ rfl ?_ ?_ (by assumption)
  rotate_left
  · intro w h; simp only [b3, b4, b6, cE] at h; go_simp <;> with_reducible rfl
  (try simp only [Act.put, pSa, pSb, pSc])
  refine tkY 11 ?_ rfl ?_ ?_ (by assumption)
  rotate_left
  · intro w h; simp only [b3, b4, b6, cE] at h; go_simp <;> with_reducible rfl
  (try simp only [Act.put, pSa, pSb, pSc])
  refine tkN 12 rfl ?_ (by assumption)
  (try simp only [Act.put, pSa, pSb, pSc])
  refine tkN 13 rfl ?_ (by assumption)
  (try simp only [Act.put, pSa, pSb, pSc])
  refine tkN 14 rfl ?_ (by assumption)
  (try simp only [Act.put, pSa, pSb, pSc])
  refine tkN 15 rfl ?_ (by assumption)
  (try simp only [Act.put, pSa, pSb, pSc])
  refine tkN 16 rfl ?_ (by assumption)
  (try simp only [Act.put, pSa, pSb, pSc])
  refine tkN 17 rfl ?_ (by assumption)
  (try simp only [Act.put, pSa, pSb, pSc])
  refine tkN 18 rfl ?_ (by assumption)
  (try simp only [Act.put, pSa, pSb, pSc])
  refine tkY 19 ?_ rfl ?_ ?_ (by assumption)
  rotate_left
  · intro w h; simp only [b3, b4, b6, cE] at h; go_simp <;> with_reducible rfl
  (try simp only [Act.put, pSa, pSb, pSc])
  refine tkY 20 ?_ rfl ?_ ?_ (by assumption)
  rotate_left
  · intro w h; simp only [b3, b4, b6, cE] at h; go_simp <;> with_reducible rfl
  (try simp only [Act.put, pSa, pSb, pSc])
  refine tkY 21 ?_ rfl ?_ ?_ (by assumption)
  rotate_left
  · intro w h; simp only [b3, b4, b6, cE] at h; go_simp <;> with_reducible rfl
  (try simp only [Act.put, pSa, pSb, pSc])
  refine tkY 22 ?_ rfl ?_ ?_ (by assumption)
  rotate_left
  · intro w h; simp only [b3, b4, b6, cE] at h; go_simp <;> with_reducible rfl
  (try simp only [Act.put, pSa, pSb, pSc])
  refine tkY 23 ?_ rfl ?_ ?_ (by assumption)
  rotate_left
  · intro w h; simp only [b3, b4, b6, cE] at h; go_simp <;> with_reducible rfl
  (try simp only [Act.put, pSa, pSb, pSc])
  refine tkY 24 ?_ rfl ?_ ?_ (by assumption)
  rotate_left
  · intro w h; simp only [b3, b4, b6, cE] at h; go_simp <;> with_reducible rfl
  (try simp only [Act.put, pSa, pSb, pSc])
  refine tkN 25 rfl ?_ (by assumption)
  (try simp only [Act.put, pSa, pSb, pSc])
  refine tkN 26 rfl ?_ (by assumption)
  (try simp only [Act.put, pSa, pSb, pSc])
  refine tkN 27 rfl ?_ (by assumption)
  (try simp only [Act.put, pSa, pSb, pSc])
  refine tkN 28 rfl ?_ (by assumption)
  (try simp only [Act.put, pSa, pSb, pSc])
  refine tkN 29 rfl ?_ (by assumption)
  (try simp only [Act.put, pSa, pSb, pSc])
  refine tkY 30 ?_ rfl ?_ ?_ (by assumption)
  rotate_left
  · intro w h; simp only [b3, b4, b6, cE] at h; go_simp <;> with_reducible rfl
  (try simp only [Act.put, pSa, pSb, pSc])
  refine tkY 31 ?_ rfl ?_ ?_ (by assumption)
  rotate_left
  · intro w h; simp only [b3, b4, b6, cE] at h; go_simp <;> with_reducible rfl
  (try simp only [Act.put, pSa, pSb, pSc])
  refine tkY 32 ?_ rfl ?_ ?_ (by assumption)
  rotate_left
  · intro w h; simp only [b3, b4, b6, cE] at h; go_simp <;> with_reducible rfl
  (try simp only [Act.put, pSa, pSb, pSc])
  refine tkY 33 ?_ rfl ?_ ?_ (by assumption)
  rotate_left
  · intro w h; simp only [b3, b4, b6, cE] at h; go_simp <;> with_reducible rfl
  (try simp only [Act.put, pSa, pSb, pSc])
  refine tkY 34 ?_ rfl ?_ ?_ (by assumption)
  rotate_left
  · intro w h; simp only [b3, b4, b6, cE] at h; go_simp <;> with_reducible rfl
  (try simp only [Act.put, pSa, pSb, pSc])
  refine tkY 35 ?_ rfl ?_ ?_ (by assumption)
  rotate_left
  · intro w h; simp only [b3, b4, b6, cE] at h; go_simp <;> with_reducible rfl
  (try simp only [Act.put, pSa, pSb, pSc])
  refine tkY 36 ?_ rfl ?_ ?_ (by assumption)
  rotate_left
  · intro w h; simp only [b3, b4, b6, cE] at h; go_simp <;> with_reducible rfl
  (try simp only [Act.put, pSa, pSb, pSc])
  refine tkY 37 ?_ rfl ?_ ?_ (by assumption)
  rotate_left
  · intro w h; simp only [b3, b4, b6, cE] at h; go_simp <;> with_reducible rfl
  (try simp only [Act.put, pSa, pSb, pSc])
  refine tkY 38 ?_ rfl ?_ ?_ (by assumption)
  rotate_left
  · intro w h; simp only [b3, b4, b6, cE] at h; go_simp <;> with_reducible rfl
  (try simp only [Act.put, pSa, pSb, pSc])
  refine tkY 39 ?_ rfl ?_ ?_ (by assumption)
  rotate_left
  · intro w h; simp only [b3, b4, b6, cE] at h; go_simp <;> with_reducible rfl
  (try simp only [Act.put, pSa, pSb, pSc])
  refine tkY 40 ?_ rfl ?_ ?_ (by assumption)
  rotate_left
  · intro w h; simp only [b3, b4, b6, cE] at h; go_simp <;> with_reducible rfl
  (try simp only [Act.put, pSa, pSb, pSc])
  refine tkY 41 ?_ rfl ?_ ?_ (by assumption)
  rotate_left
  · intro w h; simp only [b3, b4, b6, cE] at h; go_simp <;> with_reducible rfl
  (try simp only [Act.put, pSa, pSb, pSc])
  refine tkY 42 ?_ rfl ?_ ?_ (by assumption)
  rotate_left
  · intro w h; simp only [b3, b4, b6, cE] at h; go_simp <;> with_reducible rfl
  (try simp only [Act.put, pSa, pSb, pSc])
  refine tkY 43 ?_ rfl ?_ ?_ (by assumption)
  rotate_left
  · intro w h; simp only [b3, b4, b6, cE] at h; go_simp <;> with_reducible rfl
  (try simp only [Act.put, pSa, pSb, pSc])
  refine tkY 44 ?_ rfl ?_ ?_ (by assumption)
  rotate_left
  · intro w h; simp only [b3, b4, b6, cE] at h; go_simp <;> with_reducible rfl
  (try simp only [Act.put, pSa, pSb, pSc])
  refine tkY 45 ?_ rfl ?_ ?_ (by assumption)
  rotate_left
  · intro w h; simp only [b3, b4, b6, cE] at h; go_simp <;> with_reducible rfl
  (try simp only [Act.put, pSa, pSb, pSc])
  refine tkY 46 ?_ rfl ?_ ?_ (by assumption)
  rotate_left
  · intro w h; simp only [b3, b4, b6, cE] at h; go_simp <;> with_reducible rfl
  (try simp only [Act.put, pSa, pSb, pSc])
  refine rOne 47 rfl (fun K hK => ?_)
  go_simp
  go_at_call 46
  (with_reducible refine (R3 _).mono ?_)
  rintro e rq13 ⟨rfl, zq13⟩
  go_wp2_with fail
  refine hK.out _ _ (mkq1 _ (b_step hHeld.1 zq13 hHeld.1.size)) (fun hHeld2 => ?_)
  clear hK K hHeld
  have hHeld := hHeld2
  clear hHeld2
  (try simp only [Act.put, pSa, pSb, pSc])
  refine tkY 48 ?_ rfl ?_ ?_ (by assumption)
  rotate_left
  · intro w h; simp only [b3, b4, b6, cE] at h; go_simp <;> with_reducible rfl
  (try simp only [Act.put, pSa, pSb, pSc])
  refine tkY 49 ?_ rfl ?_ ?_ (by assumption)
  rotate_left
  · intro w h; simp only [b3, b4, b6, cE] at h; go_simp <;> with_reducible rfl
  (try simp only [Act.put, pSa, pSb, pSc])
  refine tkY 50 ?_ rfl ?_ ?_ (by assumption)
  rotate_left
  · intro w h; simp only [b3, b4, b6, cE] at h; go_simp <;> with_reducible rfl
  (try simp only [Act.put, pSa, pSb, pSc])
  refine tkN 51 rfl ?_ (by assumption)
  (try simp only [Act.put, pSa, pSb, pSc])
  refine tkN 52 rfl ?_ (by assumption)
  (try simp only [Act.put, pSa, pSb, pSc])
  refine tkN 53 rfl ?_ (by assumption)
  (try simp only [Act.put, pSa, pSb, pSc])
  refine tkN 54 rfl ?_ (by assumption)
  (try simp only [Act.put, pSa, pSb, pSc])
  refine tkN 55 rfl ?_ (by assumption)
  (try simp only [Act.put, pSa, pSb, pSc])
  refine tkN 56 rfl ?_ (by assumption)
  (try simp only [Act.put, pSa, pSb, pSc])
  refine tkN 57 rfl ?_ (by assumption)
  (try simp only [Act.put, pSa, pSb, pSc])
  refine tkY 58 ?_ rfl ?_ ?_ (by assumption)
  rotate_left
  · intro w h; simp only [b3, b4, b6, cE] at h; go_simp <;> with_reducible rfl
  (try simp only [Act.put, pSa, pSb, pSc])
  refine tkY 59 ?_ rfl ?_ ?_ (by assumption)
  rotate_left
  · intro w h; simp only [b3, b4, b6, cE] at h; go_simp <;> with_reducible rfl
  (try simp only [Act.put, pSa, pSb, pSc])
  refine tkY 60 ?_ rfl ?_ ?_ (by assumption)
  rotate_left
  · intro w h; simp only [b3, b4, b6, cE] at h; go_simp <;> with_reducible rfl
  (try simp only [Act.put, pSa, pSb, pSc])
  refine wpAnyH_done (by kernel_rfl) ?_ _
  have belq1 := b_step gb1 hHeld.1 gb1.size
  obtain ⟨-, ⟨h1_0_0, h1_0_1, h1_0_2, h1_0_3⟩, ⟨h1_1_0, h1_1_1, h1_1_2, h1_1_3⟩, ⟨h1_2_0, h1_2_1, h1_2_2⟩, ⟨h1_3_0, h1_3_1, h1_3_2⟩, ⟨h1_4_0, h1_4_1, h1_4_2, h1_4_3⟩, ⟨h1_5_0, h1_5_1, h1_5_2, h1_5_3⟩⟩ := hHeld
  clear gb1 mkq1 g1_0_0 g1_0_1 g1_0_2 g1_0_3 g1_1_0 g1_1_1 g1_1_2 g1_1_3 g1_2_0 g1_2_1 g1_2_2 g1_3_0 g1_3_1 g1_3_2 g1_4_0 g1_4_1 g1_4_2 g1_4_3 g1_5_0 g1_5_1 g1_5_2 g1_5_3
  have zh1_0 := World.block_lt_of_cell? _ _ h1_0_0
  have zh1_1 := World.block_lt_of_cell? _ _ h1_1_0
  have zh1_2 := World.block_lt_of_cell? _ _ h1_2_0
  have zh1_3 := World.block_lt_of_cell? _ _ h1_3_0
  have zh1_4 := World.block_lt_of_cell? _ _ h1_4_0
  have zh1_5 := World.block_lt_of_cell? _ _ h1_5_0
  go_wp2
  go_ret
  exact ⟨rfl, belq1⟩

set_option maxRecDepth 100000 in
set_option maxHeartbeats 16000000 in
theorem poses_15 (n a0 a1 a2 m b0 b1 b2 x y z v0 v1 v2 jn j0 j1 j2 un u0 u1 u2 : Int) (w : World)
    (Hq : ∀ W, Below w.heap.size w W → Calls Tryd.prog 15 #[] W fun r w' => r = .returned (.bool true) ∧ Below W.heap.size W w')
    (H1 : ∀ w, Calls Tryd.prog 43 #[vP n a0 a1 a2, vV x y z] w fun r w' => r = .returned (.tuple #[vV v0 v1 v2, .int .i64 0]) ∧ Below w.heap.size w w')
    (H2 : ∀ w, Calls Tryd.prog 42 #[vP n a0 a1 a2, vP m b0 b1 b2] w fun r w' => r = .returned (.tuple #[vP jn j0 j1 j2, .int .i64 0]) ∧ Below w.heap.size w w')
    (H3 : ∀ w, Calls Tryd.prog 41 #[vP n a0 a1 a2] w fun r w' => r = .returned (.tuple #[vP un u0 u1 u2, .int .i64 0]) ∧ Below w.heap.size w w')
    (In : ∀ w, Calls Tryd.prog 14 #[.int .i64 n] w fun e w' => e = .returned (.bool true) ∧ w = w')
    (Im : ∀ w, Calls Tryd.prog 14 #[.int .i64 m] w fun e w' => e = .returned (.bool true) ∧ w = w')
    (Na : ∀ w, Calls Tryd.prog 17 #[vV a0 a1 a2] w fun r w' => r = .returned (.bool true) ∧ Below w.heap.size w w')
    (Np : ∀ w, Calls Tryd.prog 17 #[vV x y z] w fun r w' => r = .returned (.bool true) ∧ Below w.heap.size w w')
    (Hp : ∀ w, Calls Tryd.prog 44 #[vP n a0 a1 a2, vV x y z] w fun r w' => r = .returned (vV v0 v1 v2) ∧ Below w.heap.size w w')
    (Nv : ∀ w, Calls Tryd.prog 17 #[vV v0 v1 v2] w fun r w' => r = .returned (.bool true) ∧ Below w.heap.size w w')
    (Nb : ∀ w, Calls Tryd.prog 17 #[vV b0 b1 b2] w fun r w' => r = .returned (.bool true) ∧ Below w.heap.size w w')
    (Hj : ∀ w, Calls Tryd.prog 44 #[vP n a0 a1 a2, vV b0 b1 b2] w fun r w' => r = .returned (vV j0 j1 j2) ∧ Below w.heap.size w w')
    (Nj : ∀ w, Calls Tryd.prog 17 #[vV j0 j1 j2] w fun r w' => r = .returned (.bool true) ∧ Below w.heap.size w w')
    (R2 : ∀ w, Calls Tryd.prog 45 #[vP n a0 a1 a2, vP m b0 b1 b2] w fun r w' => r = .returned (vP jn j0 j1 j2) ∧ Below w.heap.size w w')
    (R3 : ∀ w, Calls Tryd.prog 46 #[vP n a0 a1 a2] w fun r w' => r = .returned (vP un u0 u1 u2) ∧ Below w.heap.size w w') :
    Calls Tryd.prog 10 #[vP n a0 a1 a2, vP m b0 b1 b2, vV x y z] w fun e w' => e = .returned (.bool true) ∧ Below w.heap.size w w' := by
  have ev : ∀ w, (binOp .eql 23 (vV v0 v1 v2) (vV v0 v1 v2)).run Tryd.prog w = .ok (.bool true) w := fun w => by rw [eql_V, decide_eq_true (by simp)]
  have ej : ∀ w, (binOp .eql 25 (vP jn j0 j1 j2) (vP jn j0 j1 j2)).run Tryd.prog w = .ok (.bool true) w := fun w => by rw [eql_P, decide_eq_true (by simp)]
  have eu : ∀ w, (binOp .eql 25 (vP un u0 u1 u2) (vP un u0 u1 u2)).run Tryd.prog w = .ok (.bool true) w := fun w => by rw [eql_P, decide_eq_true (by simp)]
  go_enter Tryd.func10, Tryd.ntmps10
  go_wp2_with fail
  go_at_call 43
  (with_reducible refine (H1 _).mono ?_)
  rintro e t1 ⟨rfl, y1⟩
  have hyy := y1.size
  (try simp only [World.size_alloc, World.size_setCell, World.size_drew] at hyy)
  obtain ⟨⟨c1_0_0, c1_0_1, c1_0_2, c1_0_3⟩, ⟨c1_1_0, c1_1_1, c1_1_2, c1_1_3⟩, ⟨c1_2_0, c1_2_1, c1_2_2⟩, bel1⟩ : b4 t1 w.heap.size n a0 a1 a2 ∧ b4 t1 (w.heap.size + 1) m b0 b1 b2 ∧ b3 t1 (w.heap.size + 1 + 1) x y z ∧ Below w.heap.size w t1 := by
    refine ⟨?_, ?_, ?_, b_step (by (repeat' (first | (with_reducible assumption) | (with_reducible exact Below.refl _ _) | (with_reducible refine Below.alloc ?_ ?_ _) | (with_reducible refine Below.drew ?_) | (with_reducible refine Below.setCell ?_ ?_ _) | (with_reducible refine b_step ?_ (by assumption) ?_) | omega | (simp only [World.size_alloc, World.size_setCell, World.size_drew]; omega)))) y1 (by simp only [World.size_alloc, World.size_setCell, World.size_drew]; omega)⟩ <;> (repeat' apply And.intro) <;> exact cell_later y1 (by (simp (disch := first | omega | (simp only [World.size_alloc, World.size_setCell, World.size_drew]; done) | (simp only [World.size_alloc, World.size_setCell, World.size_drew]; omega)) only [*, r_set_same, r_set_off, r_set_blk, r_set_f, r_alloc_at, r_alloc_past, r_falloc_at, r_falloc_past, World.cell?_drew, World.frozen?_drew, Option.map_some, List.getElem?_toArray, List.getElem?_cons_zero, List.getElem?_cons_succ]; done))
  clear hyy y1 
  have zc1_0 := World.block_lt_of_cell? _ _ c1_0_0
  have zc1_1 := World.block_lt_of_cell? _ _ c1_1_0
  have zc1_2 := World.block_lt_of_cell? _ _ c1_2_0
  go_wp2_with fail
  go_at_call 42
  (with_reducible refine (H2 _).mono ?_)
  rintro e t2 ⟨rfl, y2⟩
  obtain ⟨⟨c2_0_0, c2_0_1, c2_0_2, c2_0_3⟩, ⟨c2_1_0, c2_1_1, c2_1_2, c2_1_3⟩, ⟨c2_2_0, c2_2_1, c2_2_2⟩, ⟨c2_3_0, c2_3_1, c2_3_2⟩, bel2⟩ : b4 t2 w.heap.size n a0 a1 a2 ∧ b4 t2 (w.heap.size + 1) m b0 b1 b2 ∧ b3 t2 (w.heap.size + 1 + 1) x y z ∧ b3 t2 t1.heap.size v0 v1 v2 ∧ Below w.heap.size w t2 := by
    refine ⟨?_, ?_, ?_, ?_, bs1 bel1 y2⟩ <;> (repeat' apply And.intro) <;> exact cell_later y2 (by (first | assumption | exact c_alloc (by assumption) | exact c_at rfl rfl))
  clear y2 c1_0_0 c1_0_1 c1_0_2 c1_0_3 c1_1_0 c1_1_1 c1_1_2 c1_1_3 c1_2_0 c1_2_1 c1_2_2 bel1 zc1_0 zc1_1 zc1_2
  have zc2_0 := World.block_lt_of_cell? _ _ c2_0_0
  have zc2_1 := World.block_lt_of_cell? _ _ c2_1_0
  have zc2_2 := World.block_lt_of_cell? _ _ c2_2_0
  have zc2_3 := World.block_lt_of_cell? _ _ c2_3_0
  go_wp2_with fail
  go_at_call 41
  (with_reducible refine (H3 _).mono ?_)
  rintro e t3 ⟨rfl, y3⟩
  obtain ⟨⟨c3_0_0, c3_0_1, c3_0_2, c3_0_3⟩, ⟨c3_1_0, c3_1_1, c3_1_2, c3_1_3⟩, ⟨c3_2_0, c3_2_1, c3_2_2⟩, ⟨c3_3_0, c3_3_1, c3_3_2⟩, ⟨c3_4_0, c3_4_1, c3_4_2, c3_4_3⟩, bel3⟩ : b4 t3 w.heap.size n a0 a1 a2 ∧ b4 t3 (w.heap.size + 1) m b0 b1 b2 ∧ b3 t3 (w.heap.size + 1 + 1) x y z ∧ b3 t3 t1.heap.size v0 v1 v2 ∧ b4 t3 t2.heap.size jn j0 j1 j2 ∧ Below w.heap.size w t3 := by
    refine ⟨?_, ?_, ?_, ?_, ?_, bs1 bel2 y3⟩ <;> (repeat' apply And.intro) <;> exact cell_later y3 (by (first | assumption | exact c_alloc (by assumption) | exact c_at rfl rfl))
  clear y3 c2_0_0 c2_0_1 c2_0_2 c2_0_3 c2_1_0 c2_1_1 c2_1_2 c2_1_3 c2_2_0 c2_2_1 c2_2_2 c2_3_0 c2_3_1 c2_3_2 bel2 zc2_0 zc2_1 zc2_2 zc2_3
  have zc3_0 := World.block_lt_of_cell? _ _ c3_0_0
  have zc3_1 := World.block_lt_of_cell? _ _ c3_1_0
  have zc3_2 := World.block_lt_of_cell? _ _ c3_2_0
  have zc3_3 := World.block_lt_of_cell? _ _ c3_3_0
  have zc3_4 := World.block_lt_of_cell? _ _ c3_4_0
  go_wp2_with fail
  go_at_call 14
  (with_reducible refine (In _).mono ?_)
  rintro e tt ⟨rfl, rfl⟩
  go_wp2_with fail
  go_at_call 14
  (with_reducible refine (Im _).mono ?_)
  rintro e tt ⟨rfl, rfl⟩
  go_wp2_with fail
  go_at_call 17
  (with_reducible refine (Na _).mono ?_)
  rintro e t4 ⟨rfl, y4⟩
  obtain ⟨⟨c4_0_0, c4_0_1, c4_0_2, c4_0_3⟩, ⟨c4_1_0, c4_1_1, c4_1_2, c4_1_3⟩, ⟨c4_2_0, c4_2_1, c4_2_2⟩, ⟨c4_3_0, c4_3_1, c4_3_2⟩, ⟨c4_4_0, c4_4_1, c4_4_2, c4_4_3⟩, ⟨c4_5_0, c4_5_1, c4_5_2, c4_5_3⟩, bel4⟩ : b4 t4 w.heap.size n a0 a1 a2 ∧ b4 t4 (w.heap.size + 1) m b0 b1 b2 ∧ b3 t4 (w.heap.size + 1 + 1) x y z ∧ b3 t4 t1.heap.size v0 v1 v2 ∧ b4 t4 t2.heap.size jn j0 j1 j2 ∧ b4 t4 t3.heap.size un u0 u1 u2 ∧ Below w.heap.size w t4 := by
    refine ⟨?_, ?_, ?_, ?_, ?_, ?_, bs1 bel3 y4⟩ <;> (repeat' apply And.intro) <;> exact cell_later y4 (by (first | assumption | exact c_alloc (by assumption) | exact c_at rfl rfl))
  clear y4 c3_0_0 c3_0_1 c3_0_2 c3_0_3 c3_1_0 c3_1_1 c3_1_2 c3_1_3 c3_2_0 c3_2_1 c3_2_2 c3_3_0 c3_3_1 c3_3_2 c3_4_0 c3_4_1 c3_4_2 c3_4_3 bel3 zc3_0 zc3_1 zc3_2 zc3_3 zc3_4
  have zc4_0 := World.block_lt_of_cell? _ _ c4_0_0
  have zc4_1 := World.block_lt_of_cell? _ _ c4_1_0
  have zc4_2 := World.block_lt_of_cell? _ _ c4_2_0
  have zc4_3 := World.block_lt_of_cell? _ _ c4_3_0
  have zc4_4 := World.block_lt_of_cell? _ _ c4_4_0
  have zc4_5 := World.block_lt_of_cell? _ _ c4_5_0
  go_wp2_with fail
  go_at_call 17
  (with_reducible refine (Na _).mono ?_)
  rintro e t5 ⟨rfl, y5⟩
  obtain ⟨⟨c5_0_0, c5_0_1, c5_0_2, c5_0_3⟩, ⟨c5_1_0, c5_1_1, c5_1_2, c5_1_3⟩, ⟨c5_2_0, c5_2_1, c5_2_2⟩, ⟨c5_3_0, c5_3_1, c5_3_2⟩, ⟨c5_4_0, c5_4_1, c5_4_2, c5_4_3⟩, ⟨c5_5_0, c5_5_1, c5_5_2, c5_5_3⟩, bel5⟩ : b4 t5 w.heap.size n a0 a1 a2 ∧ b4 t5 (w.heap.size + 1) m b0 b1 b2 ∧ b3 t5 (w.heap.size + 1 + 1) x y z ∧ b3 t5 t1.heap.size v0 v1 v2 ∧ b4 t5 t2.heap.size jn j0 j1 j2 ∧ b4 t5 t3.heap.size un u0 u1 u2 ∧ Below w.heap.size w t5 := by
    refine ⟨?_, ?_, ?_, ?_, ?_, ?_, bs0 bel4 y5⟩ <;> (repeat' apply And.intro) <;> exact cell_later y5 (by (first | assumption | exact c_alloc (by assumption) | exact c_at rfl rfl))
  clear y5 c4_0_0 c4_0_1 c4_0_2 c4_0_3 c4_1_0 c4_1_1 c4_1_2 c4_1_3 c4_2_0 c4_2_1 c4_2_2 c4_3_0 c4_3_1 c4_3_2 c4_4_0 c4_4_1 c4_4_2 c4_4_3 c4_5_0 c4_5_1 c4_5_2 c4_5_3 bel4 zc4_0 zc4_1 zc4_2 zc4_3 zc4_4 zc4_5
  have zc5_0 := World.block_lt_of_cell? _ _ c5_0_0
  have zc5_1 := World.block_lt_of_cell? _ _ c5_1_0
  have zc5_2 := World.block_lt_of_cell? _ _ c5_2_0
  have zc5_3 := World.block_lt_of_cell? _ _ c5_3_0
  have zc5_4 := World.block_lt_of_cell? _ _ c5_4_0
  have zc5_5 := World.block_lt_of_cell? _ _ c5_5_0
  go_wp2_with fail
  go_at_call 17
  (with_reducible refine (Np _).mono ?_)
  rintro e t6 ⟨rfl, y6⟩
  obtain ⟨⟨c6_0_0, c6_0_1, c6_0_2, c6_0_3⟩, ⟨c6_1_0, c6_1_1, c6_1_2, c6_1_3⟩, ⟨c6_2_0, c6_2_1, c6_2_2⟩, ⟨c6_3_0, c6_3_1, c6_3_2⟩, ⟨c6_4_0, c6_4_1, c6_4_2, c6_4_3⟩, ⟨c6_5_0, c6_5_1, c6_5_2, c6_5_3⟩, bel6⟩ : b4 t6 w.heap.size n a0 a1 a2 ∧ b4 t6 (w.heap.size + 1) m b0 b1 b2 ∧ b3 t6 (w.heap.size + 1 + 1) x y z ∧ b3 t6 t1.heap.size v0 v1 v2 ∧ b4 t6 t2.heap.size jn j0 j1 j2 ∧ b4 t6 t3.heap.size un u0 u1 u2 ∧ Below w.heap.size w t6 := by
    refine ⟨?_, ?_, ?_, ?_, ?_, ?_, bs0 bel5 y6⟩ <;> (repeat' apply And.intro) <;> exact cell_later y6 (by (first | assumption | exact c_alloc (by assumption) | exact c_at rfl rfl))
  clear y6 c5_0_0 c5_0_1 c5_0_2 c5_0_3 c5_1_0 c5_1_1 c5_1_2 c5_1_3 c5_2_0 c5_2_1 c5_2_2 c5_3_0 c5_3_1 c5_3_2 c5_4_0 c5_4_1 c5_4_2 c5_4_3 c5_5_0 c5_5_1 c5_5_2 c5_5_3 bel5 zc5_0 zc5_1 zc5_2 zc5_3 zc5_4 zc5_5
  have zc6_0 := World.block_lt_of_cell? _ _ c6_0_0
  have zc6_1 := World.block_lt_of_cell? _ _ c6_1_0
  have zc6_2 := World.block_lt_of_cell? _ _ c6_2_0
  have zc6_3 := World.block_lt_of_cell? _ _ c6_3_0
  have zc6_4 := World.block_lt_of_cell? _ _ c6_4_0
  have zc6_5 := World.block_lt_of_cell? _ _ c6_5_0
  go_wp2_with fail
  go_at_call 44
  (with_reducible refine (Hp _).mono ?_)
  rintro e t7 ⟨rfl, y7⟩
  obtain ⟨⟨c7_0_0, c7_0_1, c7_0_2, c7_0_3⟩, ⟨c7_1_0, c7_1_1, c7_1_2, c7_1_3⟩, ⟨c7_2_0, c7_2_1, c7_2_2⟩, ⟨c7_3_0, c7_3_1, c7_3_2⟩, ⟨c7_4_0, c7_4_1, c7_4_2, c7_4_3⟩, ⟨c7_5_0, c7_5_1, c7_5_2, c7_5_3⟩, bel7⟩ : b4 t7 w.heap.size n a0 a1 a2 ∧ b4 t7 (w.heap.size + 1) m b0 b1 b2 ∧ b3 t7 (w.heap.size + 1 + 1) x y z ∧ b3 t7 t1.heap.size v0 v1 v2 ∧ b4 t7 t2.heap.size jn j0 j1 j2 ∧ b4 t7 t3.heap.size un u0 u1 u2 ∧ Below w.heap.size w t7 := by
    refine ⟨?_, ?_, ?_, ?_, ?_, ?_, bs0 bel6 y7⟩ <;> (repeat' apply And.intro) <;> exact cell_later y7 (by (first | assumption | exact c_alloc (by assumption) | exact c_at rfl rfl))
  clear y7 c6_0_0 c6_0_1 c6_0_2 c6_0_3 c6_1_0 c6_1_1 c6_1_2 c6_1_3 c6_2_0 c6_2_1 c6_2_2 c6_3_0 c6_3_1 c6_3_2 c6_4_0 c6_4_1 c6_4_2 c6_4_3 c6_5_0 c6_5_1 c6_5_2 c6_5_3 bel6 zc6_0 zc6_1 zc6_2 zc6_3 zc6_4 zc6_5
  have zc7_0 := World.block_lt_of_cell? _ _ c7_0_0
  have zc7_1 := World.block_lt_of_cell? _ _ c7_1_0
  have zc7_2 := World.block_lt_of_cell? _ _ c7_2_0
  have zc7_3 := World.block_lt_of_cell? _ _ c7_3_0
  have zc7_4 := World.block_lt_of_cell? _ _ c7_4_0
  have zc7_5 := World.block_lt_of_cell? _ _ c7_5_0
  go_wp2_with fail
  go_at_call 17
  (with_reducible refine (Nv _).mono ?_)
  rintro e t8 ⟨rfl, y8⟩
  obtain ⟨⟨c8_0_0, c8_0_1, c8_0_2, c8_0_3⟩, ⟨c8_1_0, c8_1_1, c8_1_2, c8_1_3⟩, ⟨c8_2_0, c8_2_1, c8_2_2⟩, ⟨c8_3_0, c8_3_1, c8_3_2⟩, ⟨c8_4_0, c8_4_1, c8_4_2, c8_4_3⟩, ⟨c8_5_0, c8_5_1, c8_5_2, c8_5_3⟩, bel8⟩ : b4 t8 w.heap.size n a0 a1 a2 ∧ b4 t8 (w.heap.size + 1) m b0 b1 b2 ∧ b3 t8 (w.heap.size + 1 + 1) x y z ∧ b3 t8 t1.heap.size v0 v1 v2 ∧ b4 t8 t2.heap.size jn j0 j1 j2 ∧ b4 t8 t3.heap.size un u0 u1 u2 ∧ Below w.heap.size w t8 := by
    refine ⟨?_, ?_, ?_, ?_, ?_, ?_, bs0 bel7 y8⟩ <;> (repeat' apply And.intro) <;> exact cell_later y8 (by (first | assumption | exact c_alloc (by assumption) | exact c_at rfl rfl))
  clear y8 c7_0_0 c7_0_1 c7_0_2 c7_0_3 c7_1_0 c7_1_1 c7_1_2 c7_1_3 c7_2_0 c7_2_1 c7_2_2 c7_3_0 c7_3_1 c7_3_2 c7_4_0 c7_4_1 c7_4_2 c7_4_3 c7_5_0 c7_5_1 c7_5_2 c7_5_3 bel7 zc7_0 zc7_1 zc7_2 zc7_3 zc7_4 zc7_5
  have zc8_0 := World.block_lt_of_cell? _ _ c8_0_0
  have zc8_1 := World.block_lt_of_cell? _ _ c8_1_0
  have zc8_2 := World.block_lt_of_cell? _ _ c8_2_0
  have zc8_3 := World.block_lt_of_cell? _ _ c8_3_0
  have zc8_4 := World.block_lt_of_cell? _ _ c8_4_0
  have zc8_5 := World.block_lt_of_cell? _ _ c8_5_0
  go_wp2_with fail
  go_at_call 17
  (with_reducible refine (Na _).mono ?_)
  rintro e t9 ⟨rfl, y9⟩
  obtain ⟨⟨c9_0_0, c9_0_1, c9_0_2, c9_0_3⟩, ⟨c9_1_0, c9_1_1, c9_1_2, c9_1_3⟩, ⟨c9_2_0, c9_2_1, c9_2_2⟩, ⟨c9_3_0, c9_3_1, c9_3_2⟩, ⟨c9_4_0, c9_4_1, c9_4_2, c9_4_3⟩, ⟨c9_5_0, c9_5_1, c9_5_2, c9_5_3⟩, bel9⟩ : b4 t9 w.heap.size n a0 a1 a2 ∧ b4 t9 (w.heap.size + 1) m b0 b1 b2 ∧ b3 t9 (w.heap.size + 1 + 1) x y z ∧ b3 t9 t1.heap.size v0 v1 v2 ∧ b4 t9 t2.heap.size jn j0 j1 j2 ∧ b4 t9 t3.heap.size un u0 u1 u2 ∧ Below w.heap.size w t9 := by
    refine ⟨?_, ?_, ?_, ?_, ?_, ?_, bs0 bel8 y9⟩ <;> (repeat' apply And.intro) <;> exact cell_later y9 (by (first | assumption | exact c_alloc (by assumption) | exact c_at rfl rfl))
  clear y9 c8_0_0 c8_0_1 c8_0_2 c8_0_3 c8_1_0 c8_1_1 c8_1_2 c8_1_3 c8_2_0 c8_2_1 c8_2_2 c8_3_0 c8_3_1 c8_3_2 c8_4_0 c8_4_1 c8_4_2 c8_4_3 c8_5_0 c8_5_1 c8_5_2 c8_5_3 bel8 zc8_0 zc8_1 zc8_2 zc8_3 zc8_4 zc8_5
  have zc9_0 := World.block_lt_of_cell? _ _ c9_0_0
  have zc9_1 := World.block_lt_of_cell? _ _ c9_1_0
  have zc9_2 := World.block_lt_of_cell? _ _ c9_2_0
  have zc9_3 := World.block_lt_of_cell? _ _ c9_3_0
  have zc9_4 := World.block_lt_of_cell? _ _ c9_4_0
  have zc9_5 := World.block_lt_of_cell? _ _ c9_5_0
  go_wp2_with fail
  go_at_call 17
  (with_reducible refine (Nb _).mono ?_)
  rintro e t10 ⟨rfl, y10⟩
  obtain ⟨⟨c10_0_0, c10_0_1, c10_0_2, c10_0_3⟩, ⟨c10_1_0, c10_1_1, c10_1_2, c10_1_3⟩, ⟨c10_2_0, c10_2_1, c10_2_2⟩, ⟨c10_3_0, c10_3_1, c10_3_2⟩, ⟨c10_4_0, c10_4_1, c10_4_2, c10_4_3⟩, ⟨c10_5_0, c10_5_1, c10_5_2, c10_5_3⟩, bel10⟩ : b4 t10 w.heap.size n a0 a1 a2 ∧ b4 t10 (w.heap.size + 1) m b0 b1 b2 ∧ b3 t10 (w.heap.size + 1 + 1) x y z ∧ b3 t10 t1.heap.size v0 v1 v2 ∧ b4 t10 t2.heap.size jn j0 j1 j2 ∧ b4 t10 t3.heap.size un u0 u1 u2 ∧ Below w.heap.size w t10 := by
    refine ⟨?_, ?_, ?_, ?_, ?_, ?_, bs0 bel9 y10⟩ <;> (repeat' apply And.intro) <;> exact cell_later y10 (by (first | assumption | exact c_alloc (by assumption) | exact c_at rfl rfl))
  clear y10 c9_0_0 c9_0_1 c9_0_2 c9_0_3 c9_1_0 c9_1_1 c9_1_2 c9_1_3 c9_2_0 c9_2_1 c9_2_2 c9_3_0 c9_3_1 c9_3_2 c9_4_0 c9_4_1 c9_4_2 c9_4_3 c9_5_0 c9_5_1 c9_5_2 c9_5_3 bel9 zc9_0 zc9_1 zc9_2 zc9_3 zc9_4 zc9_5
  have zc10_0 := World.block_lt_of_cell? _ _ c10_0_0
  have zc10_1 := World.block_lt_of_cell? _ _ c10_1_0
  have zc10_2 := World.block_lt_of_cell? _ _ c10_2_0
  have zc10_3 := World.block_lt_of_cell? _ _ c10_3_0
  have zc10_4 := World.block_lt_of_cell? _ _ c10_4_0
  have zc10_5 := World.block_lt_of_cell? _ _ c10_5_0
  go_wp2_with fail
  go_at_call 44
  (with_reducible refine (Hj _).mono ?_)
  rintro e t11 ⟨rfl, y11⟩
  obtain ⟨⟨c11_0_0, c11_0_1, c11_0_2, c11_0_3⟩, ⟨c11_1_0, c11_1_1, c11_1_2, c11_1_3⟩, ⟨c11_2_0, c11_2_1, c11_2_2⟩, ⟨c11_3_0, c11_3_1, c11_3_2⟩, ⟨c11_4_0, c11_4_1, c11_4_2, c11_4_3⟩, ⟨c11_5_0, c11_5_1, c11_5_2, c11_5_3⟩, bel11⟩ : b4 t11 w.heap.size n a0 a1 a2 ∧ b4 t11 (w.heap.size + 1) m b0 b1 b2 ∧ b3 t11 (w.heap.size + 1 + 1) x y z ∧ b3 t11 t1.heap.size v0 v1 v2 ∧ b4 t11 t2.heap.size jn j0 j1 j2 ∧ b4 t11 t3.heap.size un u0 u1 u2 ∧ Below w.heap.size w t11 := by
    refine ⟨?_, ?_, ?_, ?_, ?_, ?_, bs0 bel10 y11⟩ <;> (repeat' apply And.intro) <;> exact cell_later y11 (by (first | assumption | exact c_alloc (by assumption) | exact c_at rfl rfl))
  clear y11 c10_0_0 c10_0_1 c10_0_2 c10_0_3 c10_1_0 c10_1_1 c10_1_2 c10_1_3 c10_2_0 c10_2_1 c10_2_2 c10_3_0 c10_3_1 c10_3_2 c10_4_0 c10_4_1 c10_4_2 c10_4_3 c10_5_0 c10_5_1 c10_5_2 c10_5_3 bel10 zc10_0 zc10_1 zc10_2 zc10_3 zc10_4 zc10_5
  have zc11_0 := World.block_lt_of_cell? _ _ c11_0_0
  have zc11_1 := World.block_lt_of_cell? _ _ c11_1_0
  have zc11_2 := World.block_lt_of_cell? _ _ c11_2_0
  have zc11_3 := World.block_lt_of_cell? _ _ c11_3_0
  have zc11_4 := World.block_lt_of_cell? _ _ c11_4_0
  have zc11_5 := World.block_lt_of_cell? _ _ c11_5_0
  go_wp2_with fail
  go_at_call 17
  (with_reducible refine (Nj _).mono ?_)
  rintro e t12 ⟨rfl, y12⟩
  obtain ⟨⟨c12_0_0, c12_0_1, c12_0_2, c12_0_3⟩, ⟨c12_1_0, c12_1_1, c12_1_2, c12_1_3⟩, ⟨c12_2_0, c12_2_1, c12_2_2⟩, ⟨c12_3_0, c12_3_1, c12_3_2⟩, ⟨c12_4_0, c12_4_1, c12_4_2, c12_4_3⟩, ⟨c12_5_0, c12_5_1, c12_5_2, c12_5_3⟩, bel12⟩ : b4 t12 w.heap.size n a0 a1 a2 ∧ b4 t12 (w.heap.size + 1) m b0 b1 b2 ∧ b3 t12 (w.heap.size + 1 + 1) x y z ∧ b3 t12 t1.heap.size v0 v1 v2 ∧ b4 t12 t2.heap.size jn j0 j1 j2 ∧ b4 t12 t3.heap.size un u0 u1 u2 ∧ Below w.heap.size w t12 := by
    refine ⟨?_, ?_, ?_, ?_, ?_, ?_, bs0 bel11 y12⟩ <;> (repeat' apply And.intro) <;> exact cell_later y12 (by (first | assumption | exact c_alloc (by assumption) | exact c_at rfl rfl))
  clear y12 c11_0_0 c11_0_1 c11_0_2 c11_0_3 c11_1_0 c11_1_1 c11_1_2 c11_1_3 c11_2_0 c11_2_1 c11_2_2 c11_3_0 c11_3_1 c11_3_2 c11_4_0 c11_4_1 c11_4_2 c11_4_3 c11_5_0 c11_5_1 c11_5_2 c11_5_3 bel11 zc11_0 zc11_1 zc11_2 zc11_3 zc11_4 zc11_5
  have zc12_0 := World.block_lt_of_cell? _ _ c12_0_0
  have zc12_1 := World.block_lt_of_cell? _ _ c12_1_0
  have zc12_2 := World.block_lt_of_cell? _ _ c12_2_0
  have zc12_3 := World.block_lt_of_cell? _ _ c12_3_0
  have zc12_4 := World.block_lt_of_cell? _ _ c12_4_0
  have zc12_5 := World.block_lt_of_cell? _ _ c12_5_0
  go_upto_region 17 with fail
  refine gen_world (F := fun W1 => b4 W1 w.heap.size n a0 a1 a2 ∧ b4 W1 (w.heap.size + 1) m b0 b1 b2 ∧ b3 W1 (w.heap.size + 1 + 1) x y z ∧ b3 W1 t1.heap.size v0 v1 v2 ∧ b4 W1 t2.heap.size jn j0 j1 j2 ∧ b4 W1 t3.heap.size un u0 u1 u2 ∧ Below w.heap.size w W1) ?_ (fun W1 hW => ?_)
  · refine ⟨?_, ?_, ?_, ?_, ?_, ?_, bel12⟩ <;> (repeat' apply And.intro) <;> (first | assumption | exact c_alloc (by assumption) | exact c_at rfl rfl)
  obtain ⟨⟨g1_0_0, g1_0_1, g1_0_2, g1_0_3⟩, ⟨g1_1_0, g1_1_1, g1_1_2, g1_1_3⟩, ⟨g1_2_0, g1_2_1, g1_2_2⟩, ⟨g1_3_0, g1_3_1, g1_3_2⟩, ⟨g1_4_0, g1_4_1, g1_4_2, g1_4_3⟩, ⟨g1_5_0, g1_5_1, g1_5_2, g1_5_3⟩, gb1⟩ := hW
  clear c12_0_0 c12_0_1 c12_0_2 c12_0_3 c12_1_0 c12_1_1 c12_1_2 c12_1_3 c12_2_0 c12_2_1 c12_2_2 c12_3_0 c12_3_1 c12_3_2 c12_4_0 c12_4_1 c12_4_2 c12_4_3 c12_5_0 c12_5_1 c12_5_2 c12_5_3 bel12 zc12_0 zc12_1 zc12_2 zc12_3 zc12_4 zc12_5
  have mkq1 : ∀ w', Below W1.heap.size W1 w' → (Below W1.heap.size W1 w' ∧ b4 w' w.heap.size n a0 a1 a2 ∧ b4 w' (w.heap.size + 1) m b0 b1 b2 ∧ b3 w' (w.heap.size + 1 + 1) x y z ∧ b3 w' t1.heap.size v0 v1 v2 ∧ b4 w' t2.heap.size jn j0 j1 j2 ∧ b4 w' t3.heap.size un u0 u1 u2) := fun w' h => ⟨h, b4.later h ⟨g1_0_0, g1_0_1, g1_0_2, g1_0_3⟩, b4.later h ⟨g1_1_0, g1_1_1, g1_1_2, g1_1_3⟩, b3.later h ⟨g1_2_0, g1_2_1, g1_2_2⟩, b3.later h ⟨g1_3_0, g1_3_1, g1_3_2⟩, b4.later h ⟨g1_4_0, g1_4_1, g1_4_2, g1_4_3⟩, b4.later h ⟨g1_5_0, g1_5_1, g1_5_2, g1_5_3⟩⟩
  refine wp_region_held_drew (S := fun w' => Below W1.heap.size W1 w' ∧ b4 w' w.heap.size n a0 a1 a2 ∧ b4 w' (w.heap.size + 1) m b0 b1 b2 ∧ b3 w' (w.heap.size + 1 + 1) x y z ∧ b3 w' t1.heap.size v0 v1 v2 ∧ b4 w' t2.heap.size jn j0 j1 j2 ∧ b4 w' t3.heap.size un u0 u1 u2) (by kernel_rfl) (mkq1 _ ((Below.refl _ _).drew)) (fun hHeld => ?_)
  refine rOne 0 rfl (fun K hK => ?_)
  go_simp
  go_at_call 15
  (with_reducible refine (Hq _ (b_step gb1 hHeld.1 gb1.size)).mono ?_)
  rintro e rq11 ⟨rfl, zq11⟩
  go_wp2_with fail
  refine hK.out _ _ (mkq1 _ (b_step hHeld.1 zq11 hHeld.1.size)) (fun hHeld2 => ?_)
  clear hK K hHeld
  have hHeld := hHeld2
  clear hHeld2
  (try simp only [Act.put, pSa, pSb, pSc])
  refine tkY 1 ?_ rfl ?_ ?_ (by assumption)
  rotate_left
  · intro w h; simp only [b3, b4, b6, cE] at h; go_simp <;> with_reducible rfl
  (try simp only [Act.put, pSa, pSb, pSc])
  refine tkY 2 ?_ rfl ?_ ?_ (by assumption)
  rotate_left
  · intro w h; simp only [b3, b4, b6, cE] at h; go_simp <;> with_reducible rfl
  (try simp only [Act.put, pSa, pSb, pSc])
  refine tkY 3 ?_ rfl ?_ ?_ (by assumption)
  rotate_left
  · intro w h; simp only [b3, b4, b6, cE] at h; go_simp <;> with_reducible rfl
  (try simp only [Act.put, pSa, pSb, pSc])
  refine tkY 4 ?_ rfl ?_ ?_ (by assumption)
  rotate_left
  · intro w h; simp only [b3, b4, b6, cE] at h; go_simp <;> with_reducible rfl
  (try simp only [Act.put, pSa, pSb, pSc])
  refine tkY 5 ?_ rfl ?_ ?_ (by assumption)
  rotate_left
  · intro w h; simp only [b3, b4, b6, cE] at h; go_simp <;> with_reducible rfl
  (try simp only [Act.put, pSa, pSb, pSc])
  refine tkY 6 ?_ rfl ?_ ?_ (by assumption)
  rotate_left
  · intro w h; simp only [b3, b4, b6, cE] at h; go_simp <;> with_reducible rfl
  (try simp only [Act.put, pSa, pSb, pSc])
  refine tkY 7 ?_ rfl ?_ ?_ (by assumption)
  rotate_left
  · intro w h; simp only [b3, b4, b6, cE] at h; go_simp <;> with_reducible rfl
  (try simp only [Act.put, pSa, pSb, pSc])
  refine rOne 8 rfl (fun K hK => ?_)
  go_simp
  go_at_call 44
  (with_reducible refine (Hp _).mono ?_)
  rintro e rq12 ⟨rfl, zq12⟩
  go_wp2_with fail
  refine hK.out _ _ (mkq1 _ (b_step hHeld.1 zq12 hHeld.1.size)) (fun hHeld2 => ?_)
  clear hK K hHeld
  have hHeld := hHeld2
  clear hHeld2
  (try simp only [Act.put, pSa, pSb, pSc])
  refine tkY 9 ?_ rfl ?_ ?_ (by assumption)
  rotate_left
  · intro w h; simp only [b3, b4, b6, cE] at h; go_simp <;> with_reducible rfl
  (try simp only [Act.put, pSa, pSb, pSc])
  refine tkY 10 ?_ rfl ?_ ?_ (by assumption)
  rotate_left
  · intro w h; simp only [b3, b4, b6, cE] at h; go_simp <;> with_reducible rfl
  (try simp only [Act.put, pSa, pSb, pSc])
  refine tkY 11 ?_ rfl ?_ ?_ (by assumption)
  rotate_left
  · intro w h; simp only [b3, b4, b6, cE] at h; go_simp <;> with_reducible rfl
  (try simp only [Act.put, pSa, pSb, pSc])
  refine tkN 12 rfl ?_ (by assumption)
  (try simp only [Act.put, pSa, pSb, pSc])
  refine tkN 13 rfl ?_ (by assumption)
  (try simp only [Act.put, pSa, pSb, pSc])
  refine tkN 14 rfl ?_ (by assumption)
  (try simp only [Act.put, pSa, pSb, pSc])
  refine tkN 15 rfl ?_ (by assumption)
  (try simp only [Act.put, pSa, pSb, pSc])
  refine tkN 16 rfl ?_ (by assumption)
  (try simp only [Act.put, pSa, pSb, pSc])
  refine tkN 17 rfl ?_ (by assumption)
  (try simp only [Act.put, pSa, pSb, pSc])
  refine tkN 18 rfl ?_ (by assumption)
  (try simp only [Act.put, pSa, pSb, pSc])
  refine tkY 19 ?_ rfl ?_ ?_ (by assumption)
  rotate_left
  · intro w h; simp only [b3, b4, b6, cE] at h; go_simp <;> with_reducible rfl
  (try simp only [Act.put, pSa, pSb, pSc])
  refine tkY 20 ?_ rfl ?_ ?_ (by assumption)
  rotate_left
  · intro w h; simp only [b3, b4, b6, cE] at h; go_simp <;> with_reducible rfl
  (try simp only [Act.put, pSa, pSb, pSc])
  refine tkY 21 ?_ rfl ?_ ?_ (by assumption)
  rotate_left
  · intro w h; simp only [b3, b4, b6, cE] at h; go_simp <;> with_reducible rfl
  (try simp only [Act.put, pSa, pSb, pSc])
  refine tkY 22 ?_ rfl ?_ ?_ (by assumption)
  rotate_left
  · intro w h; simp only [b3, b4, b6, cE] at h; go_simp <;> with_reducible rfl
  (try simp only [Act.put, pSa, pSb, pSc])
  refine tkY 23 ?_ rfl ?_ ?_ (by assumption)
  rotate_left
  · intro w h; simp only [b3, b4, b6, cE] at h; go_simp <;> with_reducible rfl
  (try simp only [Act.put, pSa, pSb, pSc])
  refine tkY 24 ?_ rfl ?_ ?_ (by assumption)
  rotate_left
  · intro w h; simp only [b3, b4, b6, cE] at h; go_simp <;> with_reducible rfl
  (try simp only [Act.put, pSa, pSb, pSc])
  refine tkY 25 ?_ rfl ?_ ?_ (by assumption)
  rotate_left
  · intro w h; simp only [b3, b4, b6, cE] at h; go_simp <;> with_reducible rfl
  (try simp only [Act.put, pSa, pSb, pSc])
  refine tkY 26 ?_ rfl ?_ ?_ (by assumption)
  rotate_left
  · intro w h; simp only [b3, b4, b6, cE] at h; go_simp <;> with_reducible rfl
  (try simp only [Act.put, pSa, pSb, pSc])
  refine tkY 27 ?_ rfl ?_ ?_ (by assumption)
  rotate_left
  · intro w h; simp only [b3, b4, b6, cE] at h; go_simp <;> with_reducible rfl
  (try simp only [Act.put, pSa, pSb, pSc])
  refine rOne 28 rfl (fun K hK => ?_)
  go_simp
  go_at_call 45
  (with_reducible refine (R2 _).mono ?_)
  rintro e rq13 ⟨rfl, zq13⟩
  go_wp2_with fail
  refine hK.out _ _ (mkq1 _ (b_step hHeld.1 zq13 hHeld.1.size)) (fun hHeld2 => ?_)
  clear hK K hHeld
  have hHeld := hHeld2
  clear hHeld2
  (try simp only [Act.put, pSa, pSb, pSc])
  refine tkY 29 ?_ rfl ?_ ?_ (by assumption)
  rotate_left
  · intro w h; simp only [b3, b4, b6, cE] at h; go_simp <;> with_reducible rfl
  (try simp only [Act.put, pSa, pSb, pSc])
  refine tkY 30 ?_ rfl ?_ ?_ (by assumption)
  rotate_left
  · intro w h; simp only [b3, b4, b6, cE] at h; go_simp <;> with_reducible rfl
  (try simp only [Act.put, pSa, pSb, pSc])
  refine tkY 31 ?_ rfl ?_ ?_ (by assumption)
  rotate_left
  · intro w h; simp only [b3, b4, b6, cE] at h; go_simp <;> with_reducible rfl
  (try simp only [Act.put, pSa, pSb, pSc])
  refine tkN 32 rfl ?_ (by assumption)
  (try simp only [Act.put, pSa, pSb, pSc])
  refine tkN 33 rfl ?_ (by assumption)
  (try simp only [Act.put, pSa, pSb, pSc])
  refine tkN 34 rfl ?_ (by assumption)
  (try simp only [Act.put, pSa, pSb, pSc])
  refine tkN 35 rfl ?_ (by assumption)
  (try simp only [Act.put, pSa, pSb, pSc])
  refine tkN 36 rfl ?_ (by assumption)
  (try simp only [Act.put, pSa, pSb, pSc])
  refine tkN 37 rfl ?_ (by assumption)
  (try simp only [Act.put, pSa, pSb, pSc])
  refine tkN 38 rfl ?_ (by assumption)
  (try simp only [Act.put, pSa, pSb, pSc])
  refine tkY 39 ?_ rfl ?_ ?_ (by assumption)
  rotate_left
  · intro w h; simp only [b3, b4, b6, cE] at h; go_simp <;> with_reducible rfl
  (try simp only [Act.put, pSa, pSb, pSc])
  refine tkY 40 ?_ rfl ?_ ?_ (by assumption)
  rotate_left
  · intro w h; simp only [b3, b4, b6, cE] at h; go_simp <;> with_reducible rfl
  (try simp only [Act.put, pSa, pSb, pSc])
  refine tkY 41 ?_ rfl ?_ ?_ (by assumption)
  rotate_left
  · intro w h; simp only [b3, b4, b6, cE] at h; go_simp <;> with_reducible rfl
  (try simp only [Act.put, pSa, pSb, pSc])
  refine tkY 42 ?_ rfl ?_ ?_ (by assumption)
  rotate_left
  · intro w h; simp only [b3, b4, b6, cE] at h; go_simp <;> with_reducible rfl
  (try simp only [Act.put, pSa, pSb, pSc])
  refine tkY 43 ?_ rfl ?_ ?_ (by assumption)
  rotate_left
  · intro w h; simp only [b3, b4, b6, cE] at h; go_simp <;> with_reducible rfl
  (try simp only [Act.put, pSa, pSb, pSc])
  refine tkY 44 ?_ rfl ?_ ?_ (by assumption)
  rotate_left
  · intro w h; simp only [b3, b4, b6, cE] at h; go_simp <;> with_reducible rfl
  (try simp only [Act.put, pSa, pSb, pSc])
  refine tkY 45 ?_ rfl ?_ ?_ (by assumption)
  rotate_left
  · intro w h; simp only [b3, b4, b6, cE] at h; go_simp <;> with_reducible rfl
  (try simp only [Act.put, pSa, pSb, pSc])
  refine tkY 46 ?_ rfl ?_ ?_ (by assumption)
  rotate_left
  · intro w h; simp only [b3, b4, b6, cE] at h; go_simp <;> with_reducible rfl
  (try simp only [Act.put, pSa, pSb, pSc])
  refine rOne 47 rfl (fun K hK => ?_)
  go_simp
  go_at_call 46
  (with_reducible refine (R3 _).mono ?_)
  rintro e rq14 ⟨rfl, zq14⟩
  go_wp2_with fail
  refine hK.out _ _ (mkq1 _ (b_step hHeld.1 zq14 hHeld.1.size)) (fun hHeld2 => ?_)
  clear hK K hHeld
  have hHeld := hHeld2
  clear hHeld2
  (try simp only [Act.put, pSa, pSb, pSc])
  refine tkY 48 ?_ rfl ?_ ?_ (by assumption)
  rotate_left
  · intro w h; simp only [b3, b4, b6, cE] at h; go_simp <;> with_reducible rfl
  (try simp only [Act.put, pSa, pSb, pSc])
  refine tkY 49 ?_ rfl ?_ ?_ (by assumption)
  rotate_left
  · intro w h; simp only [b3, b4, b6, cE] at h; go_simp <;> with_reducible rfl
  (try simp only [Act.put, pSa, pSb, pSc])
  refine tkY 50 ?_ rfl ?_ ?_ (by assumption)
  rotate_left
  · intro w h; simp only [b3, b4, b6, cE] at h; go_simp <;> with_reducible rfl
  (try simp only [Act.put, pSa, pSb, pSc])
  refine tkN 51 rfl ?_ (by assumption)
  (try simp only [Act.put, pSa, pSb, pSc])
  refine tkN 52 rfl ?_ (by assumption)
  (try simp only [Act.put, pSa, pSb, pSc])
  refine tkN 53 rfl ?_ (by assumption)
  (try simp only [Act.put, pSa, pSb, pSc])
  refine tkN 54 rfl ?_ (by assumption)
  (try simp only [Act.put, pSa, pSb, pSc])
  refine tkN 55 rfl ?_ (by assumption)
  (try simp only [Act.put, pSa, pSb, pSc])
  refine tkN 56 rfl ?_ (by assumption)
  (try simp only [Act.put, pSa, pSb, pSc])
  refine tkN 57 rfl ?_ (by assumption)
  (try simp only [Act.put, pSa, pSb, pSc])
  refine tkY 58 ?_ rfl ?_ ?_ (by assumption)
  rotate_left
  · intro w h; simp only [b3, b4, b6, cE] at h; go_simp <;> with_reducible rfl
  (try simp only [Act.put, pSa, pSb, pSc])
  refine tkY 59 ?_ rfl ?_ ?_ (by assumption)
  rotate_left
  · intro w h; simp only [b3, b4, b6, cE] at h; go_simp <;> with_reducible rfl
  (try simp only [Act.put, pSa, pSb, pSc])
  refine tkY 60 ?_ rfl ?_ ?_ (by assumption)
  rotate_left
  · intro w h; simp only [b3, b4, b6, cE] at h; go_simp <;> with_reducible rfl
  (try simp only [Act.put, pSa, pSb, pSc])
  refine wpAnyH_done (by kernel_rfl) ?_ _
  have belq1 := b_step gb1 hHeld.1 gb1.size
  obtain ⟨-, ⟨h1_0_0, h1_0_1, h1_0_2, h1_0_3⟩, ⟨h1_1_0, h1_1_1, h1_1_2, h1_1_3⟩, ⟨h1_2_0, h1_2_1, h1_2_2⟩, ⟨h1_3_0, h1_3_1, h1_3_2⟩, ⟨h1_4_0, h1_4_1, h1_4_2, h1_4_3⟩, ⟨h1_5_0, h1_5_1, h1_5_2, h1_5_3⟩⟩ := hHeld
  clear gb1 mkq1 g1_0_0 g1_0_1 g1_0_2 g1_0_3 g1_1_0 g1_1_1 g1_1_2 g1_1_3 g1_2_0 g1_2_1 g1_2_2 g1_3_0 g1_3_1 g1_3_2 g1_4_0 g1_4_1 g1_4_2 g1_4_3 g1_5_0 g1_5_1 g1_5_2 g1_5_3
  have zh1_0 := World.block_lt_of_cell? _ _ h1_0_0
  have zh1_1 := World.block_lt_of_cell? _ _ h1_1_0
  have zh1_2 := World.block_lt_of_cell? _ _ h1_2_0
  have zh1_3 := World.block_lt_of_cell? _ _ h1_3_0
  have zh1_4 := World.block_lt_of_cell? _ _ h1_4_0
  have zh1_5 := World.block_lt_of_cell? _ _ h1_5_0
  go_wp2
  go_ret
  exact ⟨rfl, belq1⟩
end Go.Proofs.YtibncdefhphggaaDoor
