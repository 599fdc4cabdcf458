/- The walk of OrientBoxes: images out of range. -/
import Derived.Test.YtibncdefhphggaaDoorK2
namespace Go.Proofs.YtibncdefhphggaaDoor
open Go.RowKit
set_option linter.unusedSimpArgs false
set_option linter.unusedVariables false
attribute [local go_sem ↓] Go.wp_at_zero Go.wp_at_succ
theorem field_P1_W3c (n x y z : Int) (w : World) : (Instr.field 25 (vP n x y z) 1).run Tryd.prog w = .ok (vV x y z) w := by kernel_rfl

set_option maxRecDepth 100000 in
set_option maxHeartbeats 16000000 in
theorem boxes_12 (n a0 a1 a2 x0 x1 x2 x3 x4 x5 s0 s1 s2 c0 c1 c2 u0 u1 u2 u3 u4 u5 z0 z1 z2 q0 q1 q2 p0 p1 p2 : Int) (w : World)
    (Hq : ∀ W, Below w.heap.size w W → Calls Tryd.prog 15 #[] W fun r w' => r = .returned (.bool true) ∧ Below W.heap.size W w')
    (H1 : ∀ w, Calls Tryd.prog 11 #[vP n a0 a1 a2, vB x0 x1 x2 x3 x4 x5] w fun r w' => r = .returned (.tuple #[vB 0 0 0 0 0 0, .int .i64 6]) ∧ Below w.heap.size w w')
    (H2 : ∀ w, Calls Tryd.prog 12 #[.int .i64 n, vV s0 s1 s2] w fun r w' => r = .returned (.tuple #[vV 0 0 0, .int .i64 1]) ∧ Below w.heap.size w w')
    (H3 : ∀ w, Calls Tryd.prog 13 #[.int .i64 n, vV s0 s1 s2, vV c0 c1 c2] w fun r w' => r = .returned (.tuple #[vP 0 0 0 0, .int .i64 1]) ∧ Below w.heap.size w w')
    (In : ∀ w, Calls Tryd.prog 14 #[.int .i64 n] w fun e w' => e = .returned (.bool true) ∧ w = w')
    (Hv : ∀ w, Calls Tryd.prog 16 #[vB x0 x1 x2 x3 x4 x5] w fun r w' => r = .returned (.bool true) ∧ Below w.heap.size w w')
    (Ns : ∀ w, Calls Tryd.prog 17 #[vV a0 a1 a2] w fun r w' => r = .returned (.bool true) ∧ Below w.heap.size w w')
    (R1 : ∀ w, Calls Tryd.prog 19 #[vP n a0 a1 a2, vB x0 x1 x2 x3 x4 x5] w fun r w' => r = .returned (vB u0 u1 u2 u3 u4 u5) ∧ Below w.heap.size w w')
    (Hi : ∀ w, Calls Tryd.prog 18 #[vB u0 u1 u2 u3 u4 u5] w fun r w' => r = .returned (.int .i64 6) ∧ Below w.heap.size w w')
    (Hz : ∀ w, Calls Tryd.prog 20 #[vV s0 s1 s2] w fun r w' => r = .returned (.bool false) ∧ Below w.heap.size w w') :
    Calls Tryd.prog 3 #[vP n a0 a1 a2, vB x0 x1 x2 x3 x4 x5, vV s0 s1 s2, vV c0 c1 c2] w fun e w' => e = .returned (.bool true) ∧ Below w.heap.size w w' := by
  have fP : ∀ (n x y z : Int) w, (Instr.field 25 (vP n x y z) 1).run Tryd.prog w = .ok (vV x y z) w := field_P1_W3c
  go_enter Tryd.func3, Tryd.ntmps3
  go_wp2_with fail
  go_at_call 11
  (with_reducible refine (H1 _).mono ?_)
  rintro e t1 ⟨rfl, y1⟩
  have hyy := y1.size
  (try simp only [World.size_alloc, World.size_setCell, World.size_drew] at hyy)
  obtain ⟨⟨c1_0_0, c1_0_1, c1_0_2, c1_0_3⟩, ⟨c1_1_0, c1_1_1, c1_1_2, c1_1_3, c1_1_4, c1_1_5⟩, ⟨c1_2_0, c1_2_1, c1_2_2⟩, ⟨c1_3_0, c1_3_1, c1_3_2⟩, bel1⟩ : b4 t1 w.heap.size n a0 a1 a2 ∧ b6 t1 (w.heap.size + 1) x0 x1 x2 x3 x4 x5 ∧ b3 t1 (w.heap.size + 1 + 1) s0 s1 s2 ∧ b3 t1 (w.heap.size + 1 + 1 + 1) c0 c1 c2 ∧ Below w.heap.size w t1 := by
    refine ⟨?_, ?_, ?_, ?_, b_step (by (repeat' (first | (with_reducible assumption) | (with_reducible exact Below.refl _ _) | (with_reducible refine Below.alloc ?_ ?_ _) | (with_reducible refine Below.drew ?_) | (with_reducible refine Below.setCell ?_ ?_ _) | (with_reducible refine b_step ?_ (by assumption) ?_) | omega | (simp only [World.size_alloc, World.size_setCell, World.size_drew]; omega)))) y1 (by simp only [World.size_alloc, World.size_setCell, World.size_drew]; omega)⟩ <;> (repeat' apply And.intro) <;> exact cell_later y1 (by (simp (disch := first | omega | (simp only [World.size_alloc, World.size_setCell, World.size_drew]; done) | (simp only [World.size_alloc, World.size_setCell, World.size_drew]; omega)) only [*, r_set_same, r_set_off, r_set_blk, r_set_f, r_alloc_at, r_alloc_past, r_falloc_at, r_falloc_past, World.cell?_drew, World.frozen?_drew, Option.map_some, List.getElem?_toArray, List.getElem?_cons_zero, List.getElem?_cons_succ]; done))
  clear hyy y1 
  have zc1_0 := ltc c1_0_0
  have zc1_1 := ltc c1_1_0
  have zc1_2 := ltc c1_2_0
  have zc1_3 := ltc c1_3_0
  go_wp2_with fail
  go_at_call 12
  (with_reducible refine (H2 _).mono ?_)
  rintro e t2 ⟨rfl, y2⟩
  obtain ⟨⟨c2_0_0, c2_0_1, c2_0_2, c2_0_3⟩, ⟨c2_1_0, c2_1_1, c2_1_2, c2_1_3, c2_1_4, c2_1_5⟩, ⟨c2_2_0, c2_2_1, c2_2_2⟩, ⟨c2_3_0, c2_3_1, c2_3_2⟩, ⟨c2_4_0, c2_4_1, c2_4_2, c2_4_3, c2_4_4, c2_4_5⟩, bel2⟩ : b4 t2 w.heap.size n a0 a1 a2 ∧ b6 t2 (w.heap.size + 1) x0 x1 x2 x3 x4 x5 ∧ b3 t2 (w.heap.size + 1 + 1) s0 s1 s2 ∧ b3 t2 (w.heap.size + 1 + 1 + 1) c0 c1 c2 ∧ b6 t2 t1.heap.size 0 0 0 0 0 0 ∧ Below w.heap.size w t2 := by
    refine ⟨?_, ?_, ?_, ?_, ?_, bs1 bel1 y2⟩ <;> (repeat' apply And.intro) <;> exact cell_later y2 (by (first | assumption | exact c_alloc (by assumption) | exact c_at rfl rfl))
  clear y2 c1_0_0 c1_0_1 c1_0_2 c1_0_3 c1_1_0 c1_1_1 c1_1_2 c1_1_3 c1_1_4 c1_1_5 c1_2_0 c1_2_1 c1_2_2 c1_3_0 c1_3_1 c1_3_2 bel1 zc1_0 zc1_1 zc1_2 zc1_3
  have zc2_0 := ltc c2_0_0
  have zc2_1 := ltc c2_1_0
  have zc2_2 := ltc c2_2_0
  have zc2_3 := ltc c2_3_0
  have zc2_4 := ltc c2_4_0
  go_wp2_with fail
  go_at_call 13
  (with_reducible refine (H3 _).mono ?_)
  rintro e t3 ⟨rfl, y3⟩
  obtain ⟨⟨c3_0_0, c3_0_1, c3_0_2, c3_0_3⟩, ⟨c3_1_0, c3_1_1, c3_1_2, c3_1_3, c3_1_4, c3_1_5⟩, ⟨c3_2_0, c3_2_1, c3_2_2⟩, ⟨c3_3_0, c3_3_1, c3_3_2⟩, ⟨c3_4_0, c3_4_1, c3_4_2, c3_4_3, c3_4_4, c3_4_5⟩, ⟨c3_5_0, c3_5_1, c3_5_2⟩, bel3⟩ : b4 t3 w.heap.size n a0 a1 a2 ∧ b6 t3 (w.heap.size + 1) x0 x1 x2 x3 x4 x5 ∧ b3 t3 (w.heap.size + 1 + 1) s0 s1 s2 ∧ b3 t3 (w.heap.size + 1 + 1 + 1) c0 c1 c2 ∧ b6 t3 t1.heap.size 0 0 0 0 0 0 ∧ b3 t3 t2.heap.size 0 0 0 ∧ Below w.heap.size w t3 := by
    refine ⟨?_, ?_, ?_, ?_, ?_, ?_, bs1 bel2 y3⟩ <;> (repeat' apply And.intro) <;> exact cell_later y3 (by (first | assumption | exact c_alloc (by assumption) | exact c_at rfl rfl))
  clear y3 c2_0_0 c2_0_1 c2_0_2 c2_0_3 c2_1_0 c2_1_1 c2_1_2 c2_1_3 c2_1_4 c2_1_5 c2_2_0 c2_2_1 c2_2_2 c2_3_0 c2_3_1 c2_3_2 c2_4_0 c2_4_1 c2_4_2 c2_4_3 c2_4_4 c2_4_5 bel2 zc2_0 zc2_1 zc2_2 zc2_3 zc2_4
  have zc3_0 := ltc c3_0_0
  have zc3_1 := ltc c3_1_0
  have zc3_2 := ltc c3_2_0
  have zc3_3 := ltc c3_3_0
  have zc3_4 := ltc c3_4_0
  have zc3_5 := ltc c3_5_0
  go_wp2_with fail
  go_at_call 14
  (with_reducible refine (In _).mono ?_)
  rintro e tt ⟨rfl, rfl⟩
  go_wp2_with fail
  go_at_call 16
  (with_reducible refine (Hv _).mono ?_)
  rintro e t4 ⟨rfl, y4⟩
  obtain ⟨⟨c4_0_0, c4_0_1, c4_0_2, c4_0_3⟩, ⟨c4_1_0, c4_1_1, c4_1_2, c4_1_3, c4_1_4, c4_1_5⟩, ⟨c4_2_0, c4_2_1, c4_2_2⟩, ⟨c4_3_0, c4_3_1, c4_3_2⟩, ⟨c4_4_0, c4_4_1, c4_4_2, c4_4_3, c4_4_4, c4_4_5⟩, ⟨c4_5_0, c4_5_1, c4_5_2⟩, ⟨c4_6_0, c4_6_1, c4_6_2, c4_6_3⟩, bel4⟩ : b4 t4 w.heap.size n a0 a1 a2 ∧ b6 t4 (w.heap.size + 1) x0 x1 x2 x3 x4 x5 ∧ b3 t4 (w.heap.size + 1 + 1) s0 s1 s2 ∧ b3 t4 (w.heap.size + 1 + 1 + 1) c0 c1 c2 ∧ b6 t4 t1.heap.size 0 0 0 0 0 0 ∧ b3 t4 t2.heap.size 0 0 0 ∧ b4 t4 t3.heap.size 0 0 0 0 ∧ Below w.heap.size w t4 := by
    refine ⟨?_, ?_, ?_, ?_, ?_, ?_, ?_, bs1 bel3 y4⟩ <;> (repeat' apply And.intro) <;> exact cell_later y4 (by (first | assumption | exact c_alloc (by assumption) | exact c_at rfl rfl))
  clear y4 c3_0_0 c3_0_1 c3_0_2 c3_0_3 c3_1_0 c3_1_1 c3_1_2 c3_1_3 c3_1_4 c3_1_5 c3_2_0 c3_2_1 c3_2_2 c3_3_0 c3_3_1 c3_3_2 c3_4_0 c3_4_1 c3_4_2 c3_4_3 c3_4_4 c3_4_5 c3_5_0 c3_5_1 c3_5_2 bel3 zc3_0 zc3_1 zc3_2 zc3_3 zc3_4 zc3_5
  have zc4_0 := ltc c4_0_0
  have zc4_1 := ltc c4_1_0
  have zc4_2 := ltc c4_2_0
  have zc4_3 := ltc c4_3_0
  have zc4_4 := ltc c4_4_0
  have zc4_5 := ltc c4_5_0
  have zc4_6 := ltc c4_6_0
  go_wp2_with fail
  go_at_call 17
  (with_reducible refine (Ns _).mono ?_)
  rintro e t5 ⟨rfl, y5⟩
  obtain ⟨⟨c5_0_0, c5_0_1, c5_0_2, c5_0_3⟩, ⟨c5_1_0, c5_1_1, c5_1_2, c5_1_3, c5_1_4, c5_1_5⟩, ⟨c5_2_0, c5_2_1, c5_2_2⟩, ⟨c5_3_0, c5_3_1, c5_3_2⟩, ⟨c5_4_0, c5_4_1, c5_4_2, c5_4_3, c5_4_4, c5_4_5⟩, ⟨c5_5_0, c5_5_1, c5_5_2⟩, ⟨c5_6_0, c5_6_1, c5_6_2, c5_6_3⟩, bel5⟩ : b4 t5 w.heap.size n a0 a1 a2 ∧ b6 t5 (w.heap.size + 1) x0 x1 x2 x3 x4 x5 ∧ b3 t5 (w.heap.size + 1 + 1) s0 s1 s2 ∧ b3 t5 (w.heap.size + 1 + 1 + 1) c0 c1 c2 ∧ b6 t5 t1.heap.size 0 0 0 0 0 0 ∧ b3 t5 t2.heap.size 0 0 0 ∧ b4 t5 t3.heap.size 0 0 0 0 ∧ Below w.heap.size w t5 := by
    refine ⟨?_, ?_, ?_, ?_, ?_, ?_, ?_, bs0 bel4 y5⟩ <;> (repeat' apply And.intro) <;> exact cell_later y5 (by (first | assumption | exact c_alloc (by assumption) | exact c_at rfl rfl))
  clear y5 c4_0_0 c4_0_1 c4_0_2 c4_0_3 c4_1_0 c4_1_1 c4_1_2 c4_1_3 c4_1_4 c4_1_5 c4_2_0 c4_2_1 c4_2_2 c4_3_0 c4_3_1 c4_3_2 c4_4_0 c4_4_1 c4_4_2 c4_4_3 c4_4_4 c4_4_5 c4_5_0 c4_5_1 c4_5_2 c4_6_0 c4_6_1 c4_6_2 c4_6_3 bel4 zc4_0 zc4_1 zc4_2 zc4_3 zc4_4 zc4_5 zc4_6
  have zc5_0 := ltc c5_0_0
  have zc5_1 := ltc c5_1_0
  have zc5_2 := ltc c5_2_0
  have zc5_3 := ltc c5_3_0
  have zc5_4 := ltc c5_4_0
  have zc5_5 := ltc c5_5_0
  have zc5_6 := ltc c5_6_0
  go_wp2_with fail
  go_at_call 19
  (with_reducible refine (R1 _).mono ?_)
  rintro e t6 ⟨rfl, y6⟩
  obtain ⟨⟨c6_0_0, c6_0_1, c6_0_2, c6_0_3⟩, ⟨c6_1_0, c6_1_1, c6_1_2, c6_1_3, c6_1_4, c6_1_5⟩, ⟨c6_2_0, c6_2_1, c6_2_2⟩, ⟨c6_3_0, c6_3_1, c6_3_2⟩, ⟨c6_4_0, c6_4_1, c6_4_2, c6_4_3, c6_4_4, c6_4_5⟩, ⟨c6_5_0, c6_5_1, c6_5_2⟩, ⟨c6_6_0, c6_6_1, c6_6_2, c6_6_3⟩, bel6⟩ : b4 t6 w.heap.size n a0 a1 a2 ∧ b6 t6 (w.heap.size + 1) x0 x1 x2 x3 x4 x5 ∧ b3 t6 (w.heap.size + 1 + 1) s0 s1 s2 ∧ b3 t6 (w.heap.size + 1 + 1 + 1) c0 c1 c2 ∧ b6 t6 t1.heap.size 0 0 0 0 0 0 ∧ b3 t6 t2.heap.size 0 0 0 ∧ b4 t6 t3.heap.size 0 0 0 0 ∧ Below w.heap.size w t6 := by
    refine ⟨?_, ?_, ?_, ?_, ?_, ?_, ?_, bs0 bel5 y6⟩ <;> (repeat' apply And.intro) <;> exact cell_later y6 (by (first | assumption | exact c_alloc (by assumption) | exact c_at rfl rfl))
  clear y6 c5_0_0 c5_0_1 c5_0_2 c5_0_3 c5_1_0 c5_1_1 c5_1_2 c5_1_3 c5_1_4 c5_1_5 c5_2_0 c5_2_1 c5_2_2 c5_3_0 c5_3_1 c5_3_2 c5_4_0 c5_4_1 c5_4_2 c5_4_3 c5_4_4 c5_4_5 c5_5_0 c5_5_1 c5_5_2 c5_6_0 c5_6_1 c5_6_2 c5_6_3 bel5 zc5_0 zc5_1 zc5_2 zc5_3 zc5_4 zc5_5 zc5_6
  have zc6_0 := ltc c6_0_0
  have zc6_1 := ltc c6_1_0
  have zc6_2 := ltc c6_2_0
  have zc6_3 := ltc c6_3_0
  have zc6_4 := ltc c6_4_0
  have zc6_5 := ltc c6_5_0
  have zc6_6 := ltc c6_6_0
  go_wp2_with fail
  go_at_call 18
  (with_reducible refine (Hi _).mono ?_)
  rintro e t7 ⟨rfl, y7⟩
  obtain ⟨⟨c7_0_0, c7_0_1, c7_0_2, c7_0_3⟩, ⟨c7_1_0, c7_1_1, c7_1_2, c7_1_3, c7_1_4, c7_1_5⟩, ⟨c7_2_0, c7_2_1, c7_2_2⟩, ⟨c7_3_0, c7_3_1, c7_3_2⟩, ⟨c7_4_0, c7_4_1, c7_4_2, c7_4_3, c7_4_4, c7_4_5⟩, ⟨c7_5_0, c7_5_1, c7_5_2⟩, ⟨c7_6_0, c7_6_1, c7_6_2, c7_6_3⟩, bel7⟩ : b4 t7 w.heap.size n a0 a1 a2 ∧ b6 t7 (w.heap.size + 1) x0 x1 x2 x3 x4 x5 ∧ b3 t7 (w.heap.size + 1 + 1) s0 s1 s2 ∧ b3 t7 (w.heap.size + 1 + 1 + 1) c0 c1 c2 ∧ b6 t7 t1.heap.size 0 0 0 0 0 0 ∧ b3 t7 t2.heap.size 0 0 0 ∧ b4 t7 t3.heap.size 0 0 0 0 ∧ Below w.heap.size w t7 := by
    refine ⟨?_, ?_, ?_, ?_, ?_, ?_, ?_, bs0 bel6 y7⟩ <;> (repeat' apply And.intro) <;> exact cell_later y7 (by (first | assumption | exact c_alloc (by assumption) | exact c_at rfl rfl))
  clear y7 c6_0_0 c6_0_1 c6_0_2 c6_0_3 c6_1_0 c6_1_1 c6_1_2 c6_1_3 c6_1_4 c6_1_5 c6_2_0 c6_2_1 c6_2_2 c6_3_0 c6_3_1 c6_3_2 c6_4_0 c6_4_1 c6_4_2 c6_4_3 c6_4_4 c6_4_5 c6_5_0 c6_5_1 c6_5_2 c6_6_0 c6_6_1 c6_6_2 c6_6_3 bel6 zc6_0 zc6_1 zc6_2 zc6_3 zc6_4 zc6_5 zc6_6
  have zc7_0 := ltc c7_0_0
  have zc7_1 := ltc c7_1_0
  have zc7_2 := ltc c7_2_0
  have zc7_3 := ltc c7_3_0
  have zc7_4 := ltc c7_4_0
  have zc7_5 := ltc c7_5_0
  have zc7_6 := ltc c7_6_0
  go_upto_region 11 with fail
  refine gen_world (F := fun W1 => b4 W1 w.heap.size n a0 a1 a2 ∧ b6 W1 (w.heap.size + 1) x0 x1 x2 x3 x4 x5 ∧ b3 W1 (w.heap.size + 1 + 1) s0 s1 s2 ∧ b3 W1 (w.heap.size + 1 + 1 + 1) c0 c1 c2 ∧ b6 W1 t1.heap.size 0 0 0 0 0 0 ∧ b3 W1 t2.heap.size 0 0 0 ∧ b4 W1 t3.heap.size 0 0 0 0 ∧ Below w.heap.size w W1) ?_ (fun W1 hW => ?_)
  · refine ⟨?_, ?_, ?_, ?_, ?_, ?_, ?_, bel7⟩ <;> (repeat' apply And.intro) <;> (first | assumption | exact c_alloc (by assumption) | exact c_at rfl rfl)
  obtain ⟨⟨g1_0_0, g1_0_1, g1_0_2, g1_0_3⟩, ⟨g1_1_0, g1_1_1, g1_1_2, g1_1_3, g1_1_4, g1_1_5⟩, ⟨g1_2_0, g1_2_1, g1_2_2⟩, ⟨g1_3_0, g1_3_1, g1_3_2⟩, ⟨g1_4_0, g1_4_1, g1_4_2, g1_4_3, g1_4_4, g1_4_5⟩, ⟨g1_5_0, g1_5_1, g1_5_2⟩, ⟨g1_6_0, g1_6_1, g1_6_2, g1_6_3⟩, gb1⟩ := hW
  clear c7_0_0 c7_0_1 c7_0_2 c7_0_3 c7_1_0 c7_1_1 c7_1_2 c7_1_3 c7_1_4 c7_1_5 c7_2_0 c7_2_1 c7_2_2 c7_3_0 c7_3_1 c7_3_2 c7_4_0 c7_4_1 c7_4_2 c7_4_3 c7_4_4 c7_4_5 c7_5_0 c7_5_1 c7_5_2 c7_6_0 c7_6_1 c7_6_2 c7_6_3 bel7 zc7_0 zc7_1 zc7_2 zc7_3 zc7_4 zc7_5 zc7_6
  have mkq1 : ∀ w', Below W1.heap.size W1 w' → (Below W1.heap.size W1 w' ∧ b4 w' w.heap.size n a0 a1 a2 ∧ b6 w' (w.heap.size + 1) x0 x1 x2 x3 x4 x5 ∧ b3 w' (w.heap.size + 1 + 1) s0 s1 s2 ∧ b3 w' (w.heap.size + 1 + 1 + 1) c0 c1 c2 ∧ b6 w' t1.heap.size 0 0 0 0 0 0 ∧ b3 w' t2.heap.size 0 0 0 ∧ b4 w' t3.heap.size 0 0 0 0) := fun w' h => ⟨h, b4.later h ⟨g1_0_0, g1_0_1, g1_0_2, g1_0_3⟩, b6.later h ⟨g1_1_0, g1_1_1, g1_1_2, g1_1_3, g1_1_4, g1_1_5⟩, b3.later h ⟨g1_2_0, g1_2_1, g1_2_2⟩, b3.later h ⟨g1_3_0, g1_3_1, g1_3_2⟩, b6.later h ⟨g1_4_0, g1_4_1, g1_4_2, g1_4_3, g1_4_4, g1_4_5⟩, b3.later h ⟨g1_5_0, g1_5_1, g1_5_2⟩, b4.later h ⟨g1_6_0, g1_6_1, g1_6_2, g1_6_3⟩⟩
  refine wp_region_held_drew (S := fun w' => Below W1.heap.size W1 w' ∧ b4 w' w.heap.size n a0 a1 a2 ∧ b6 w' (w.heap.size + 1) x0 x1 x2 x3 x4 x5 ∧ b3 w' (w.heap.size + 1 + 1) s0 s1 s2 ∧ b3 w' (w.heap.size + 1 + 1 + 1) c0 c1 c2 ∧ b6 w' t1.heap.size 0 0 0 0 0 0 ∧ b3 w' t2.heap.size 0 0 0 ∧ b4 w' t3.heap.size 0 0 0 0) (by kernel_rfl) (mkq1 _ ((Below.refl _ _).drew)) (fun hHeld => ?_)
  refine tkZ 0 ?_ rfl ?_ ?_
  rotate_left
  · intro w _; go_simp <;> with_reducible rfl
  try simp only [Act.put, pSa, pSb, pSc]
  refine tkZ 1 ?_ rfl ?_ ?_
  rotate_left
  · intro w _; go_simp <;> with_reducible rfl
  try simp only [Act.put, pSa, pSb, pSc]
  refine tkZ 2 ?_ rfl ?_ ?_
  rotate_left
  · intro w _; go_simp <;> with_reducible rfl
  try simp only [Act.put, pSa, pSb, pSc]
  refine tkZ 3 ?_ rfl ?_ ?_
  rotate_left
  · intro w _; go_simp <;> with_reducible rfl
  try simp only [Act.put, pSa, pSb, pSc]
  refine tkZ 4 ?_ rfl ?_ ?_
  rotate_left
  · intro w _; go_simp <;> with_reducible rfl
  try simp only [Act.put, pSa, pSb, pSc]
  refine tkZ 5 ?_ rfl ?_ ?_
  rotate_left
  · intro w _; go_simp <;> with_reducible rfl
  try simp only [Act.put, pSa, pSb, pSc]
  refine tkZ 6 ?_ rfl ?_ ?_
  rotate_left
  · intro w _; go_simp <;> with_reducible rfl
  try simp only [Act.put, pSa, pSb, pSc]
  refine tnZ 7 rfl ?_
  try simp only [Act.put, pSa, pSb, pSc]
  refine tnZ 8 rfl ?_
  try simp only [Act.put, pSa, pSb, pSc]
  refine tnZ 9 rfl ?_
  try simp only [Act.put, pSa, pSb, pSc]
  refine tnZ 10 rfl ?_
  try simp only [Act.put, pSa, pSb, pSc]
  refine tnZ 11 rfl ?_
  try simp only [Act.put, pSa, pSb, pSc]
  refine tkZ 12 ?_ rfl ?_ ?_
  rotate_left
  · intro w _; go_simp <;> with_reducible rfl
  try simp only [Act.put, pSa, pSb, pSc]
  refine tkZ 13 ?_ rfl ?_ ?_
  rotate_left
  · intro w _; go_simp <;> with_reducible rfl
  try simp only [Act.put, pSa, pSb, pSc]
  refine tkZ 14 ?_ rfl ?_ ?_
  rotate_left
  · intro w _; go_simp <;> with_reducible rfl
  try simp only [Act.put, pSa, pSb, pSc]
  refine tkZ 15 ?_ rfl ?_ ?_
  rotate_left
  · intro w _; go_simp <;> with_reducible rfl
  try simp only [Act.put, pSa, pSb, pSc]
  refine tkZ 16 ?_ rfl ?_ ?_
  rotate_left
  · intro w _; go_simp <;> with_reducible rfl
  try simp only [Act.put, pSa, pSb, pSc]
  refine tkZ 17 ?_ rfl ?_ ?_
  rotate_left
  · intro w _; go_simp <;> with_reducible rfl
  try simp only [Act.put, pSa, pSb, pSc]
  refine tkZ 18 ?_ rfl ?_ ?_
  rotate_left
  · intro w h; simp only [b3, b4, b6, cE] at h; go_simp <;> with_reducible rfl
  try simp only [Act.put, pSa, pSb, pSc]
  refine tkZ 19 ?_ rfl ?_ ?_
  rotate_left
  · intro w _; go_simp <;> with_reducible rfl
  try simp only [Act.put, pSa, pSb, pSc]
  refine tkZ 20 ?_ rfl ?_ ?_
  rotate_left
  · intro w _; go_simp <;> with_reducible rfl
  try simp only [Act.put, pSa, pSb, pSc]
  refine tkZ 21 ?_ rfl ?_ ?_
  rotate_left
  · intro w _; go_simp <;> with_reducible rfl
  try simp only [Act.put, pSa, pSb, pSc]
  refine tkZ 22 ?_ rfl ?_ ?_
  rotate_left
  · intro w _; go_simp <;> with_reducible rfl
  try simp only [Act.put, pSa, pSb, pSc]
  refine wpAnyH_done (by kernel_rfl) ?_ _
  have belq1 := b_step gb1 hHeld.1 gb1.size
  obtain ⟨-, ⟨h1_0_0, h1_0_1, h1_0_2, h1_0_3⟩, ⟨h1_1_0, h1_1_1, h1_1_2, h1_1_3, h1_1_4, h1_1_5⟩, ⟨h1_2_0, h1_2_1, h1_2_2⟩, ⟨h1_3_0, h1_3_1, h1_3_2⟩, ⟨h1_4_0, h1_4_1, h1_4_2, h1_4_3, h1_4_4, h1_4_5⟩, ⟨h1_5_0, h1_5_1, h1_5_2⟩, ⟨h1_6_0, h1_6_1, h1_6_2, h1_6_3⟩⟩ := hHeld
  clear gb1 mkq1 g1_0_0 g1_0_1 g1_0_2 g1_0_3 g1_1_0 g1_1_1 g1_1_2 g1_1_3 g1_1_4 g1_1_5 g1_2_0 g1_2_1 g1_2_2 g1_3_0 g1_3_1 g1_3_2 g1_4_0 g1_4_1 g1_4_2 g1_4_3 g1_4_4 g1_4_5 g1_5_0 g1_5_1 g1_5_2 g1_6_0 g1_6_1 g1_6_2 g1_6_3
  have zh1_0 := ltc h1_0_0
  have zh1_1 := ltc h1_1_0
  have zh1_2 := ltc h1_2_0
  have zh1_3 := ltc h1_3_0
  have zh1_4 := ltc h1_4_0
  have zh1_5 := ltc h1_5_0
  have zh1_6 := ltc h1_6_0
  go_wp2_with fail
  go_at_call 20
  (with_reducible refine (Hz _).mono ?_)
  rintro e t8 ⟨rfl, y8⟩
  obtain ⟨⟨c8_0_0, c8_0_1, c8_0_2, c8_0_3⟩, ⟨c8_1_0, c8_1_1, c8_1_2, c8_1_3, c8_1_4, c8_1_5⟩, ⟨c8_2_0, c8_2_1, c8_2_2⟩, ⟨c8_3_0, c8_3_1, c8_3_2⟩, ⟨c8_4_0, c8_4_1, c8_4_2⟩, ⟨c8_5_0, c8_5_1, c8_5_2, c8_5_3⟩, bel8⟩ : b4 t8 w.heap.size n a0 a1 a2 ∧ b6 t8 (w.heap.size + 1) x0 x1 x2 x3 x4 x5 ∧ b3 t8 (w.heap.size + 1 + 1) s0 s1 s2 ∧ b3 t8 (w.heap.size + 1 + 1 + 1) c0 c1 c2 ∧ b3 t8 t2.heap.size 0 0 0 ∧ b4 t8 t3.heap.size 0 0 0 0 ∧ Below w.heap.size w t8 := by
    refine ⟨?_, ?_, ?_, ?_, ?_, ?_, bs0 belq1 y8⟩ <;> (repeat' apply And.intro) <;> exact cell_later y8 (by (first | assumption | exact c_alloc (by assumption) | exact c_at rfl rfl))
  clear y8 h1_0_0 h1_0_1 h1_0_2 h1_0_3 h1_1_0 h1_1_1 h1_1_2 h1_1_3 h1_1_4 h1_1_5 h1_2_0 h1_2_1 h1_2_2 h1_3_0 h1_3_1 h1_3_2 h1_4_0 h1_4_1 h1_4_2 h1_4_3 h1_4_4 h1_4_5 h1_5_0 h1_5_1 h1_5_2 h1_6_0 h1_6_1 h1_6_2 h1_6_3 belq1 zh1_0 zh1_1 zh1_2 zh1_3 zh1_4 zh1_5 zh1_6
  have zc8_0 := ltc c8_0_0
  have zc8_1 := ltc c8_1_0
  have zc8_2 := ltc c8_2_0
  have zc8_3 := ltc c8_3_0
  have zc8_4 := ltc c8_4_0
  have zc8_5 := ltc c8_5_0
  go_wp2_with fail
  go_at_call 15
  (with_reducible refine (Hq _ bel8).mono ?_)
  rintro e t9 ⟨rfl, y9⟩
  obtain ⟨⟨c9_0_0, c9_0_1, c9_0_2, c9_0_3⟩, ⟨c9_1_0, c9_1_1, c9_1_2, c9_1_3, c9_1_4, c9_1_5⟩, ⟨c9_2_0, c9_2_1, c9_2_2⟩, ⟨c9_3_0, c9_3_1, c9_3_2⟩, ⟨c9_4_0, c9_4_1, c9_4_2⟩, ⟨c9_5_0, c9_5_1, c9_5_2, c9_5_3⟩, bel9⟩ : b4 t9 w.heap.size n a0 a1 a2 ∧ b6 t9 (w.heap.size + 1) x0 x1 x2 x3 x4 x5 ∧ b3 t9 (w.heap.size + 1 + 1) s0 s1 s2 ∧ b3 t9 (w.heap.size + 1 + 1 + 1) c0 c1 c2 ∧ b3 t9 t2.heap.size 0 0 0 ∧ b4 t9 t3.heap.size 0 0 0 0 ∧ Below w.heap.size w t9 := by
    refine ⟨?_, ?_, ?_, ?_, ?_, ?_, bs0 bel8 y9⟩ <;> (repeat' apply And.intro) <;> exact cell_later y9 (by (first | assumption | exact c_alloc (by assumption) | exact c_at rfl rfl))
  clear y9 c8_0_0 c8_0_1 c8_0_2 c8_0_3 c8_1_0 c8_1_1 c8_1_2 c8_1_3 c8_1_4 c8_1_5 c8_2_0 c8_2_1 c8_2_2 c8_3_0 c8_3_1 c8_3_2 c8_4_0 c8_4_1 c8_4_2 c8_5_0 c8_5_1 c8_5_2 c8_5_3 bel8 zc8_0 zc8_1 zc8_2 zc8_3 zc8_4 zc8_5
  have zc9_0 := ltc c9_0_0
  have zc9_1 := ltc c9_1_0
  have zc9_2 := ltc c9_2_0
  have zc9_3 := ltc c9_3_0
  have zc9_4 := ltc c9_4_0
  have zc9_5 := ltc c9_5_0
  go_wp2
  go_ret
  exact ⟨rfl, bel9⟩

set_option maxRecDepth 100000 in
set_option maxHeartbeats 16000000 in
theorem boxes_13 (n a0 a1 a2 x0 x1 x2 x3 x4 x5 s0 s1 s2 c0 c1 c2 u0 u1 u2 u3 u4 u5 z0 z1 z2 q0 q1 q2 p0 p1 p2 : Int) (w : World)
    (Hq : ∀ W, Below w.heap.size w W → Calls Tryd.prog 15 #[] W fun r w' => r = .returned (.bool true) ∧ Below W.heap.size W w')
    (H1 : ∀ w, Calls Tryd.prog 11 #[vP n a0 a1 a2, vB x0 x1 x2 x3 x4 x5] w fun r w' => r = .returned (.tuple #[vB 0 0 0 0 0 0, .int .i64 6]) ∧ Below w.heap.size w w')
    (H2 : ∀ w, Calls Tryd.prog 12 #[.int .i64 n, vV s0 s1 s2] w fun r w' => r = .returned (.tuple #[vV z0 z1 z2, .int .i64 0]) ∧ Below w.heap.size w w')
    (H3 : ∀ w, Calls Tryd.prog 13 #[.int .i64 n, vV s0 s1 s2, vV c0 c1 c2] w fun r w' => r = .returned (.tuple #[vP 0 0 0 0, .int .i64 6]) ∧ Below w.heap.size w w')
    (In : ∀ w, Calls Tryd.prog 14 #[.int .i64 n] w fun e w' => e = .returned (.bool true) ∧ w = w')
    (Hv : ∀ w, Calls Tryd.prog 16 #[vB x0 x1 x2 x3 x4 x5] w fun r w' => r = .returned (.bool true) ∧ Below w.heap.size w w')
    (Ns : ∀ w, Calls Tryd.prog 17 #[vV a0 a1 a2] w fun r w' => r = .returned (.bool true) ∧ Below w.heap.size w w')
    (R1 : ∀ w, Calls Tryd.prog 19 #[vP n a0 a1 a2, vB x0 x1 x2 x3 x4 x5] w fun r w' => r = .returned (vB u0 u1 u2 u3 u4 u5) ∧ Below w.heap.size w w')
    (Hi : ∀ w, Calls Tryd.prog 18 #[vB u0 u1 u2 u3 u4 u5] w fun r w' => r = .returned (.int .i64 6) ∧ Below w.heap.size w w')
    (Hz : ∀ w, Calls Tryd.prog 20 #[vV s0 s1 s2] w fun r w' => r = .returned (.bool true) ∧ Below w.heap.size w w')
    (R2 : ∀ w, Calls Tryd.prog 21 #[.int .i64 n, vV s0 s1 s2] w fun r w' => r = .returned (vV z0 z1 z2) ∧ Below w.heap.size w w')
    (Nc : ∀ w, Calls Tryd.prog 17 #[vV c0 c1 c2] w fun r w' => r = .returned (.bool false) ∧ Below w.heap.size w w') :
    Calls Tryd.prog 3 #[vP n a0 a1 a2, vB x0 x1 x2 x3 x4 x5, vV s0 s1 s2, vV c0 c1 c2] w fun e w' => e = .returned (.bool true) ∧ Below w.heap.size w w' := by
  have fP : ∀ (n x y z : Int) w, (Instr.field 25 (vP n x y z) 1).run Tryd.prog w = .ok (vV x y z) w := field_P1_W3c
  have ez : ∀ w, (binOp .neq 23 (vV z0 z1 z2) (vV z0 z1 z2)).run Tryd.prog w = .ok (.bool false) w := fun w => by rw [neq_V, decide_eq_true (by simp)]; rfl
  go_enter Tryd.func3, Tryd.ntmps3
  go_wp2_with fail
  go_at_call 11
  (with_reducible refine (H1 _).mono ?_)
  rintro e t1 ⟨rfl, y1⟩
  have hyy := y1.size
  (try simp only [World.size_alloc, World.size_setCell, World.size_drew] at hyy)
  obtain ⟨⟨c1_0_0, c1_0_1, c1_0_2, c1_0_3⟩, ⟨c1_1_0, c1_1_1, c1_1_2, c1_1_3, c1_1_4, c1_1_5⟩, ⟨c1_2_0, c1_2_1, c1_2_2⟩, ⟨c1_3_0, c1_3_1, c1_3_2⟩, bel1⟩ : b4 t1 w.heap.size n a0 a1 a2 ∧ b6 t1 (w.heap.size + 1) x0 x1 x2 x3 x4 x5 ∧ b3 t1 (w.heap.size + 1 + 1) s0 s1 s2 ∧ b3 t1 (w.heap.size + 1 + 1 + 1) c0 c1 c2 ∧ Below w.heap.size w t1 := by
    refine ⟨?_, ?_, ?_, ?_, b_step (by (repeat' (first | (with_reducible assumption) | (with_reducible exact Below.refl _ _) | (with_reducible refine Below.alloc ?_ ?_ _) | (with_reducible refine Below.drew ?_) | (with_reducible refine Below.setCell ?_ ?_ _) | (with_reducible refine b_step ?_ (by assumption) ?_) | omega | (simp only [World.size_alloc, World.size_setCell, World.size_drew]; omega)))) y1 (by simp only [World.size_alloc, World.size_setCell, World.size_drew]; omega)⟩ <;> (repeat' apply And.intro) <;> exact cell_later y1 (by (simp (disch := first | omega | (simp only [World.size_alloc, World.size_setCell, World.size_drew]; done) | (simp only [World.size_alloc, World.size_setCell, World.size_drew]; omega)) only [*, r_set_same, r_set_off, r_set_blk, r_set_f, r_alloc_at, r_alloc_past, r_falloc_at, r_falloc_past, World.cell?_drew, World.frozen?_drew, Option.map_some, List.getElem?_toArray, List.getElem?_cons_zero, List.getElem?_cons_succ]; done))
  clear hyy y1 
  have zc1_0 := ltc c1_0_0
  have zc1_1 := ltc c1_1_0
  have zc1_2 := ltc c1_2_0
  have zc1_3 := ltc c1_3_0
  go_wp2_with fail
  go_at_call 12
  (with_reducible refine (H2 _).mono ?_)
  rintro e t2 ⟨rfl, y2⟩
  obtain ⟨⟨c2_0_0, c2_0_1, c2_0_2, c2_0_3⟩, ⟨c2_1_0, c2_1_1, c2_1_2, c2_1_3, c2_1_4, c2_1_5⟩, ⟨c2_2_0, c2_2_1, c2_2_2⟩, ⟨c2_3_0, c2_3_1, c2_3_2⟩, ⟨c2_4_0, c2_4_1, c2_4_2, c2_4_3, c2_4_4, c2_4_5⟩, bel2⟩ : b4 t2 w.heap.size n a0 a1 a2 ∧ b6 t2 (w.heap.size + 1) x0 x1 x2 x3 x4 x5 ∧ b3 t2 (w.heap.size + 1 + 1) s0 s1 s2 ∧ b3 t2 (w.heap.size + 1 + 1 + 1) c0 c1 c2 ∧ b6 t2 t1.heap.size 0 0 0 0 0 0 ∧ Below w.heap.size w t2 := by
    refine ⟨?_, ?_, ?_, ?_, ?_, bs1 bel1 y2⟩ <;> (repeat' apply And.intro) <;> exact cell_later y2 (by (first | assumption | exact c_alloc (by assumption) | exact c_at rfl rfl))
  clear y2 c1_0_0 c1_0_1 c1_0_2 c1_0_3 c1_1_0 c1_1_1 c1_1_2 c1_1_3 c1_1_4 c1_1_5 c1_2_0 c1_2_1 c1_2_2 c1_3_0 c1_3_1 c1_3_2 bel1 zc1_0 zc1_1 zc1_2 zc1_3
  have zc2_0 := ltc c2_0_0
  have zc2_1 := ltc c2_1_0
  have zc2_2 := ltc c2_2_0
  have zc2_3 := ltc c2_3_0
  have zc2_4 := ltc c2_4_0
  go_wp2_with fail
  go_at_call 13
  (with_reducible refine (H3 _).mono ?_)
  rintro e t3 ⟨rfl, y3⟩
  obtain ⟨⟨c3_0_0, c3_0_1, c3_0_2, c3_0_3⟩, ⟨c3_1_0, c3_1_1, c3_1_2, c3_1_3, c3_1_4, c3_1_5⟩, ⟨c3_2_0, c3_2_1, c3_2_2⟩, ⟨c3_3_0, c3_3_1, c3_3_2⟩, ⟨c3_4_0, c3_4_1, c3_4_2, c3_4_3, c3_4_4, c3_4_5⟩, ⟨c3_5_0, c3_5_1, c3_5_2⟩, bel3⟩ : b4 t3 w.heap.size n a0 a1 a2 ∧ b6 t3 (w.heap.size + 1) x0 x1 x2 x3 x4 x5 ∧ b3 t3 (w.heap.size + 1 + 1) s0 s1 s2 ∧ b3 t3 (w.heap.size + 1 + 1 + 1) c0 c1 c2 ∧ b6 t3 t1.heap.size 0 0 0 0 0 0 ∧ b3 t3 t2.heap.size z0 z1 z2 ∧ Below w.heap.size w t3 := by
    refine ⟨?_, ?_, ?_, ?_, ?_, ?_, bs1 bel2 y3⟩ <;> (repeat' apply And.intro) <;> exact cell_later y3 (by (first | assumption | exact c_alloc (by assumption) | exact c_at rfl rfl))
  clear y3 c2_0_0 c2_0_1 c2_0_2 c2_0_3 c2_1_0 c2_1_1 c2_1_2 c2_1_3 c2_1_4 c2_1_5 c2_2_0 c2_2_1 c2_2_2 c2_3_0 c2_3_1 c2_3_2 c2_4_0 c2_4_1 c2_4_2 c2_4_3 c2_4_4 c2_4_5 bel2 zc2_0 zc2_1 zc2_2 zc2_3 zc2_4
  have zc3_0 := ltc c3_0_0
  have zc3_1 := ltc c3_1_0
  have zc3_2 := ltc c3_2_0
  have zc3_3 := ltc c3_3_0
  have zc3_4 := ltc c3_4_0
  have zc3_5 := ltc c3_5_0
  go_wp2_with fail
  go_at_call 14
  (with_reducible refine (In _).mono ?_)
  rintro e tt ⟨rfl, rfl⟩
  go_wp2_with fail
  go_at_call 16
  (with_reducible refine (Hv _).mono ?_)
  rintro e t4 ⟨rfl, y4⟩
  obtain ⟨⟨c4_0_0, c4_0_1, c4_0_2, c4_0_3⟩, ⟨c4_1_0, c4_1_1, c4_1_2, c4_1_3, c4_1_4, c4_1_5⟩, ⟨c4_2_0, c4_2_1, c4_2_2⟩, ⟨c4_3_0, c4_3_1, c4_3_2⟩, ⟨c4_4_0, c4_4_1, c4_4_2, c4_4_3, c4_4_4, c4_4_5⟩, ⟨c4_5_0, c4_5_1, c4_5_2⟩, ⟨c4_6_0, c4_6_1, c4_6_2, c4_6_3⟩, bel4⟩ : b4 t4 w.heap.size n a0 a1 a2 ∧ b6 t4 (w.heap.size + 1) x0 x1 x2 x3 x4 x5 ∧ b3 t4 (w.heap.size + 1 + 1) s0 s1 s2 ∧ b3 t4 (w.heap.size + 1 + 1 + 1) c0 c1 c2 ∧ b6 t4 t1.heap.size 0 0 0 0 0 0 ∧ b3 t4 t2.heap.size z0 z1 z2 ∧ b4 t4 t3.heap.size 0 0 0 0 ∧ Below w.heap.size w t4 := by
    refine ⟨?_, ?_, ?_, ?_, ?_, ?_, ?_, bs1 bel3 y4⟩ <;> (repeat' apply And.intro) <;> exact cell_later y4 (by (first | assumption | exact c_alloc (by assumption) | exact c_at rfl rfl))
  clear y4 c3_0_0 c3_0_1 c3_0_2 c3_0_3 c3_1_0 c3_1_1 c3_1_2 c3_1_3 c3_1_4 c3_1_5 c3_2_0 c3_2_1 c3_2_2 c3_3_0 c3_3_1 c3_3_2 c3_4_0 c3_4_1 c3_4_2 c3_4_3 c3_4_4 c3_4_5 c3_5_0 c3_5_1 c3_5_2 bel3 zc3_0 zc3_1 zc3_2 zc3_3 zc3_4 zc3_5
  have zc4_0 := ltc c4_0_0
  have zc4_1 := ltc c4_1_0
  have zc4_2 := ltc c4_2_0
  have zc4_3 := ltc c4_3_0
  have zc4_4 := ltc c4_4_0
  have zc4_5 := ltc c4_5_0
  have zc4_6 := ltc c4_6_0
  go_wp2_with fail
  go_at_call 17
  (with_reducible refine (Ns _).mono ?_)
  rintro e t5 ⟨rfl, y5⟩
  obtain ⟨⟨c5_0_0, c5_0_1, c5_0_2, c5_0_3⟩, ⟨c5_1_0, c5_1_1, c5_1_2, c5_1_3, c5_1_4, c5_1_5⟩, ⟨c5_2_0, c5_2_1, c5_2_2⟩, ⟨c5_3_0, c5_3_1, c5_3_2⟩, ⟨c5_4_0, c5_4_1, c5_4_2, c5_4_3, c5_4_4, c5_4_5⟩, ⟨c5_5_0, c5_5_1, c5_5_2⟩, ⟨c5_6_0, c5_6_1, c5_6_2, c5_6_3⟩, bel5⟩ : b4 t5 w.heap.size n a0 a1 a2 ∧ b6 t5 (w.heap.size + 1) x0 x1 x2 x3 x4 x5 ∧ b3 t5 (w.heap.size + 1 + 1) s0 s1 s2 ∧ b3 t5 (w.heap.size + 1 + 1 + 1) c0 c1 c2 ∧ b6 t5 t1.heap.size 0 0 0 0 0 0 ∧ b3 t5 t2.heap.size z0 z1 z2 ∧ b4 t5 t3.heap.size 0 0 0 0 ∧ Below w.heap.size w t5 := by
    refine ⟨?_, ?_, ?_, ?_, ?_, ?_, ?_, bs0 bel4 y5⟩ <;> (repeat' apply And.intro) <;> exact cell_later y5 (by (first | assumption | exact c_alloc (by assumption) | exact c_at rfl rfl))
  clear y5 c4_0_0 c4_0_1 c4_0_2 c4_0_3 c4_1_0 c4_1_1 c4_1_2 c4_1_3 c4_1_4 c4_1_5 c4_2_0 c4_2_1 c4_2_2 c4_3_0 c4_3_1 c4_3_2 c4_4_0 c4_4_1 c4_4_2 c4_4_3 c4_4_4 c4_4_5 c4_5_0 c4_5_1 c4_5_2 c4_6_0 c4_6_1 c4_6_2 c4_6_3 bel4 zc4_0 zc4_1 zc4_2 zc4_3 zc4_4 zc4_5 zc4_6
  have zc5_0 := ltc c5_0_0
  have zc5_1 := ltc c5_1_0
  have zc5_2 := ltc c5_2_0
  have zc5_3 := ltc c5_3_0
  have zc5_4 := ltc c5_4_0
  have zc5_5 := ltc c5_5_0
  have zc5_6 := ltc c5_6_0
  go_wp2_with fail
  go_at_call 19
  (with_reducible refine (R1 _).mono ?_)
  rintro e t6 ⟨rfl, y6⟩
  obtain ⟨⟨c6_0_0, c6_0_1, c6_0_2, c6_0_3⟩, ⟨c6_1_0, c6_1_1, c6_1_2, c6_1_3, c6_1_4, c6_1_5⟩, ⟨c6_2_0, c6_2_1, c6_2_2⟩, ⟨c6_3_0, c6_3_1, c6_3_2⟩, ⟨c6_4_0, c6_4_1, c6_4_2, c6_4_3, c6_4_4, c6_4_5⟩, ⟨c6_5_0, c6_5_1, c6_5_2⟩, ⟨c6_6_0, c6_6_1, c6_6_2, c6_6_3⟩, bel6⟩ : b4 t6 w.heap.size n a0 a1 a2 ∧ b6 t6 (w.heap.size + 1) x0 x1 x2 x3 x4 x5 ∧ b3 t6 (w.heap.size + 1 + 1) s0 s1 s2 ∧ b3 t6 (w.heap.size + 1 + 1 + 1) c0 c1 c2 ∧ b6 t6 t1.heap.size 0 0 0 0 0 0 ∧ b3 t6 t2.heap.size z0 z1 z2 ∧ b4 t6 t3.heap.size 0 0 0 0 ∧ Below w.heap.size w t6 := by
    refine ⟨?_, ?_, ?_, ?_, ?_, ?_, ?_, bs0 bel5 y6⟩ <;> (repeat' apply And.intro) <;> exact cell_later y6 (by (first | assumption | exact c_alloc (by assumption) | exact c_at rfl rfl))
  clear y6 c5_0_0 c5_0_1 c5_0_2 c5_0_3 c5_1_0 c5_1_1 c5_1_2 c5_1_3 c5_1_4 c5_1_5 c5_2_0 c5_2_1 c5_2_2 c5_3_0 c5_3_1 c5_3_2 c5_4_0 c5_4_1 c5_4_2 c5_4_3 c5_4_4 c5_4_5 c5_5_0 c5_5_1 c5_5_2 c5_6_0 c5_6_1 c5_6_2 c5_6_3 bel5 zc5_0 zc5_1 zc5_2 zc5_3 zc5_4 zc5_5 zc5_6
  have zc6_0 := ltc c6_0_0
  have zc6_1 := ltc c6_1_0
  have zc6_2 := ltc c6_2_0
  have zc6_3 := ltc c6_3_0
  have zc6_4 := ltc c6_4_0
  have zc6_5 := ltc c6_5_0
  have zc6_6 := ltc c6_6_0
  go_wp2_with fail
  go_at_call 18
  (with_reducible refine (Hi _).mono ?_)
  rintro e t7 ⟨rfl, y7⟩
  obtain ⟨⟨c7_0_0, c7_0_1, c7_0_2, c7_0_3⟩, ⟨c7_1_0, c7_1_1, c7_1_2, c7_1_3, c7_1_4, c7_1_5⟩, ⟨c7_2_0, c7_2_1, c7_2_2⟩, ⟨c7_3_0, c7_3_1, c7_3_2⟩, ⟨c7_4_0, c7_4_1, c7_4_2, c7_4_3, c7_4_4, c7_4_5⟩, ⟨c7_5_0, c7_5_1, c7_5_2⟩, ⟨c7_6_0, c7_6_1, c7_6_2, c7_6_3⟩, bel7⟩ : b4 t7 w.heap.size n a0 a1 a2 ∧ b6 t7 (w.heap.size + 1) x0 x1 x2 x3 x4 x5 ∧ b3 t7 (w.heap.size + 1 + 1) s0 s1 s2 ∧ b3 t7 (w.heap.size + 1 + 1 + 1) c0 c1 c2 ∧ b6 t7 t1.heap.size 0 0 0 0 0 0 ∧ b3 t7 t2.heap.size z0 z1 z2 ∧ b4 t7 t3.heap.size 0 0 0 0 ∧ Below w.heap.size w t7 := by
    refine ⟨?_, ?_, ?_, ?_, ?_, ?_, ?_, bs0 bel6 y7⟩ <;> (repeat' apply And.intro) <;> exact cell_later y7 (by (first | assumption | exact c_alloc (by assumption) | exact c_at rfl rfl))
  clear y7 c6_0_0 c6_0_1 c6_0_2 c6_0_3 c6_1_0 c6_1_1 c6_1_2 c6_1_3 c6_1_4 c6_1_5 c6_2_0 c6_2_1 c6_2_2 c6_3_0 c6_3_1 c6_3_2 c6_4_0 c6_4_1 c6_4_2 c6_4_3 c6_4_4 c6_4_5 c6_5_0 c6_5_1 c6_5_2 c6_6_0 c6_6_1 c6_6_2 c6_6_3 bel6 zc6_0 zc6_1 zc6_2 zc6_3 zc6_4 zc6_5 zc6_6
  have zc7_0 := ltc c7_0_0
  have zc7_1 := ltc c7_1_0
  have zc7_2 := ltc c7_2_0
  have zc7_3 := ltc c7_3_0
  have zc7_4 := ltc c7_4_0
  have zc7_5 := ltc c7_5_0
  have zc7_6 := ltc c7_6_0
  go_upto_region 11 with fail
  refine gen_world (F := fun W1 => b4 W1 w.heap.size n a0 a1 a2 ∧ b6 W1 (w.heap.size + 1) x0 x1 x2 x3 x4 x5 ∧ b3 W1 (w.heap.size + 1 + 1) s0 s1 s2 ∧ b3 W1 (w.heap.size + 1 + 1 + 1) c0 c1 c2 ∧ b6 W1 t1.heap.size 0 0 0 0 0 0 ∧ b3 W1 t2.heap.size z0 z1 z2 ∧ b4 W1 t3.heap.size 0 0 0 0 ∧ Below w.heap.size w W1) ?_ (fun W1 hW => ?_)
  · refine ⟨?_, ?_, ?_, ?_, ?_, ?_, ?_, bel7⟩ <;> (repeat' apply And.intro) <;> (first | assumption | exact c_alloc (by assumption) | exact c_at rfl rfl)
  obtain ⟨⟨g1_0_0, g1_0_1, g1_0_2, g1_0_3⟩, ⟨g1_1_0, g1_1_1, g1_1_2, g1_1_3, g1_1_4, g1_1_5⟩, ⟨g1_2_0, g1_2_1, g1_2_2⟩, ⟨g1_3_0, g1_3_1, g1_3_2⟩, ⟨g1_4_0, g1_4_1, g1_4_2, g1_4_3, g1_4_4, g1_4_5⟩, ⟨g1_5_0, g1_5_1, g1_5_2⟩, ⟨g1_6_0, g1_6_1, g1_6_2, g1_6_3⟩, gb1⟩ := hW
  clear c7_0_0 c7_0_1 c7_0_2 c7_0_3 c7_1_0 c7_1_1 c7_1_2 c7_1_3 c7_1_4 c7_1_5 c7_2_0 c7_2_1 c7_2_2 c7_3_0 c7_3_1 c7_3_2 c7_4_0 c7_4_1 c7_4_2 c7_4_3 c7_4_4 c7_4_5 c7_5_0 c7_5_1 c7_5_2 c7_6_0 c7_6_1 c7_6_2 c7_6_3 bel7 zc7_0 zc7_1 zc7_2 zc7_3 zc7_4 zc7_5 zc7_6
  have mkq1 : ∀ w', Below W1.heap.size W1 w' → (Below W1.heap.size W1 w' ∧ b4 w' w.heap.size n a0 a1 a2 ∧ b6 w' (w.heap.size + 1) x0 x1 x2 x3 x4 x5 ∧ b3 w' (w.heap.size + 1 + 1) s0 s1 s2 ∧ b3 w' (w.heap.size + 1 + 1 + 1) c0 c1 c2 ∧ b6 w' t1.heap.size 0 0 0 0 0 0 ∧ b3 w' t2.heap.size z0 z1 z2 ∧ b4 w' t3.heap.size 0 0 0 0) := fun w' h => ⟨h, b4.later h ⟨g1_0_0, g1_0_1, g1_0_2, g1_0_3⟩, b6.later h ⟨g1_1_0, g1_1_1, g1_1_2, g1_1_3, g1_1_4, g1_1_5⟩, b3.later h ⟨g1_2_0, g1_2_1, g1_2_2⟩, b3.later h ⟨g1_3_0, g1_3_1, g1_3_2⟩, b6.later h ⟨g1_4_0, g1_4_1, g1_4_2, g1_4_3, g1_4_4, g1_4_5⟩, b3.later h ⟨g1_5_0, g1_5_1, g1_5_2⟩, b4.later h ⟨g1_6_0, g1_6_1, g1_6_2, g1_6_3⟩⟩
  refine wp_region_held_drew (S := fun w' => Below W1.heap.size W1 w' ∧ b4 w' w.heap.size n a0 a1 a2 ∧ b6 w' (w.heap.size + 1) x0 x1 x2 x3 x4 x5 ∧ b3 w' (w.heap.size + 1 + 1) s0 s1 s2 ∧ b3 w' (w.heap.size + 1 + 1 + 1) c0 c1 c2 ∧ b6 w' t1.heap.size 0 0 0 0 0 0 ∧ b3 w' t2.heap.size z0 z1 z2 ∧ b4 w' t3.heap.size 0 0 0 0) (by kernel_rfl) (mkq1 _ ((Below.refl _ _).drew)) (fun hHeld => ?_)
  refine tkZ 0 ?_ rfl ?_ ?_
  rotate_left
  · intro w _; go_simp <;> with_reducible rfl
  try simp only [Act.put, pSa, pSb, pSc]
  refine tkZ 1 ?_ rfl ?_ ?_
  rotate_left
  · intro w _; go_simp <;> with_reducible rfl
  try simp only [Act.put, pSa, pSb, pSc]
  refine tkZ 2 ?_ rfl ?_ ?_
  rotate_left
  · intro w _; go_simp <;> with_reducible rfl
  try simp only [Act.put, pSa, pSb, pSc]
  refine tkZ 3 ?_ rfl ?_ ?_
  rotate_left
  · intro w _; go_simp <;> with_reducible rfl
  try simp only [Act.put, pSa, pSb, pSc]
  refine tkZ 4 ?_ rfl ?_ ?_
  rotate_left
  · intro w _; go_simp <;> with_reducible rfl
  try simp only [Act.put, pSa, pSb, pSc]
  refine tkZ 5 ?_ rfl ?_ ?_
  rotate_left
  · intro w _; go_simp <;> with_reducible rfl
  try simp only [Act.put, pSa, pSb, pSc]
  refine tkZ 6 ?_ rfl ?_ ?_
  rotate_left
  · intro w _; go_simp <;> with_reducible rfl
  try simp only [Act.put, pSa, pSb, pSc]
  refine tnZ 7 rfl ?_
  try simp only [Act.put, pSa, pSb, pSc]
  refine tnZ 8 rfl ?_
  try simp only [Act.put, pSa, pSb, pSc]
  refine tnZ 9 rfl ?_
  try simp only [Act.put, pSa, pSb, pSc]
  refine tnZ 10 rfl ?_
  try simp only [Act.put, pSa, pSb, pSc]
  refine tnZ 11 rfl ?_
  try simp only [Act.put, pSa, pSb, pSc]
  refine tkZ 12 ?_ rfl ?_ ?_
  rotate_left
  · intro w _; go_simp <;> with_reducible rfl
  try simp only [Act.put, pSa, pSb, pSc]
  refine tkZ 13 ?_ rfl ?_ ?_
  rotate_left
  · intro w _; go_simp <;> with_reducible rfl
  try simp only [Act.put, pSa, pSb, pSc]
  refine tkZ 14 ?_ rfl ?_ ?_
  rotate_left
  · intro w _; go_simp <;> with_reducible rfl
  try simp only [Act.put, pSa, pSb, pSc]
  refine tkZ 15 ?_ rfl ?_ ?_
  rotate_left
  · intro w _; go_simp <;> with_reducible rfl
  try simp only [Act.put, pSa, pSb, pSc]
  refine tkZ 16 ?_ rfl ?_ ?_
  rotate_left
  · intro w _; go_simp <;> with_reducible rfl
  try simp only [Act.put, pSa, pSb, pSc]
  refine tkZ 17 ?_ rfl ?_ ?_
  rotate_left
  · intro w _; go_simp <;> with_reducible rfl
  try simp only [Act.put, pSa, pSb, pSc]
  refine tkZ 18 ?_ rfl ?_ ?_
  rotate_left
  · intro w h; simp only [b3, b4, b6, cE] at h; go_simp <;> with_reducible rfl
  try simp only [Act.put, pSa, pSb, pSc]
  refine tkZ 19 ?_ rfl ?_ ?_
  rotate_left
  · intro w _; go_simp <;> with_reducible rfl
  try simp only [Act.put, pSa, pSb, pSc]
  refine tkZ 20 ?_ rfl ?_ ?_
  rotate_left
  · intro w _; go_simp <;> with_reducible rfl
  try simp only [Act.put, pSa, pSb, pSc]
  refine tkZ 21 ?_ rfl ?_ ?_
  rotate_left
  · intro w _; go_simp <;> with_reducible rfl
  try simp only [Act.put, pSa, pSb, pSc]
  refine tkZ 22 ?_ rfl ?_ ?_
  rotate_left
  · intro w _; go_simp <;> with_reducible rfl
  try simp only [Act.put, pSa, pSb, pSc]
  refine wpAnyH_done (by kernel_rfl) ?_ _
  have belq1 := b_step gb1 hHeld.1 gb1.size
  obtain ⟨-, ⟨h1_0_0, h1_0_1, h1_0_2, h1_0_3⟩, ⟨h1_1_0, h1_1_1, h1_1_2, h1_1_3, h1_1_4, h1_1_5⟩, ⟨h1_2_0, h1_2_1, h1_2_2⟩, ⟨h1_3_0, h1_3_1, h1_3_2⟩, ⟨h1_4_0, h1_4_1, h1_4_2, h1_4_3, h1_4_4, h1_4_5⟩, ⟨h1_5_0, h1_5_1, h1_5_2⟩, ⟨h1_6_0, h1_6_1, h1_6_2, h1_6_3⟩⟩ := hHeld
  clear gb1 mkq1 g1_0_0 g1_0_1 g1_0_2 g1_0_3 g1_1_0 g1_1_1 g1_1_2 g1_1_3 g1_1_4 g1_1_5 g1_2_0 g1_2_1 g1_2_2 g1_3_0 g1_3_1 g1_3_2 g1_4_0 g1_4_1 g1_4_2 g1_4_3 g1_4_4 g1_4_5 g1_5_0 g1_5_1 g1_5_2 g1_6_0 g1_6_1 g1_6_2 g1_6_3
  have zh1_0 := ltc h1_0_0
  have zh1_1 := ltc h1_1_0
  have zh1_2 := ltc h1_2_0
  have zh1_3 := ltc h1_3_0
  have zh1_4 := ltc h1_4_0
  have zh1_5 := ltc h1_5_0
  have zh1_6 := ltc h1_6_0
  go_wp2_with fail
  go_at_call 20
  (with_reducible refine (Hz _).mono ?_)
  rintro e t8 ⟨rfl, y8⟩
  obtain ⟨⟨c8_0_0, c8_0_1, c8_0_2, c8_0_3⟩, ⟨c8_1_0, c8_1_1, c8_1_2, c8_1_3, c8_1_4, c8_1_5⟩, ⟨c8_2_0, c8_2_1, c8_2_2⟩, ⟨c8_3_0, c8_3_1, c8_3_2⟩, ⟨c8_4_0, c8_4_1, c8_4_2⟩, ⟨c8_5_0, c8_5_1, c8_5_2, c8_5_3⟩, bel8⟩ : b4 t8 w.heap.size n a0 a1 a2 ∧ b6 t8 (w.heap.size + 1) x0 x1 x2 x3 x4 x5 ∧ b3 t8 (w.heap.size + 1 + 1) s0 s1 s2 ∧ b3 t8 (w.heap.size + 1 + 1 + 1) c0 c1 c2 ∧ b3 t8 t2.heap.size z0 z1 z2 ∧ b4 t8 t3.heap.size 0 0 0 0 ∧ Below w.heap.size w t8 := by
    refine ⟨?_, ?_, ?_, ?_, ?_, ?_, bs0 belq1 y8⟩ <;> (repeat' apply And.intro) <;> exact cell_later y8 (by (first | assumption | exact c_alloc (by assumption) | exact c_at rfl rfl))
  clear y8 h1_0_0 h1_0_1 h1_0_2 h1_0_3 h1_1_0 h1_1_1 h1_1_2 h1_1_3 h1_1_4 h1_1_5 h1_2_0 h1_2_1 h1_2_2 h1_3_0 h1_3_1 h1_3_2 h1_4_0 h1_4_1 h1_4_2 h1_4_3 h1_4_4 h1_4_5 h1_5_0 h1_5_1 h1_5_2 h1_6_0 h1_6_1 h1_6_2 h1_6_3 belq1 zh1_0 zh1_1 zh1_2 zh1_3 zh1_4 zh1_5 zh1_6
  have zc8_0 := ltc c8_0_0
  have zc8_1 := ltc c8_1_0
  have zc8_2 := ltc c8_2_0
  have zc8_3 := ltc c8_3_0
  have zc8_4 := ltc c8_4_0
  have zc8_5 := ltc c8_5_0
  go_upto_region 15 with fail
  refine gen_world (F := fun W2 => b4 W2 w.heap.size n a0 a1 a2 ∧ b6 W2 (w.heap.size + 1) x0 x1 x2 x3 x4 x5 ∧ b3 W2 (w.heap.size + 1 + 1) s0 s1 s2 ∧ b3 W2 (w.heap.size + 1 + 1 + 1) c0 c1 c2 ∧ b3 W2 t2.heap.size z0 z1 z2 ∧ b4 W2 t3.heap.size 0 0 0 0 ∧ Below w.heap.size w W2) ?_ (fun W2 hW => ?_)
  · refine ⟨?_, ?_, ?_, ?_, ?_, ?_, bel8⟩ <;> (repeat' apply And.intro) <;> (first | assumption | exact c_alloc (by assumption) | exact c_at rfl rfl)
  obtain ⟨⟨g2_0_0, g2_0_1, g2_0_2, g2_0_3⟩, ⟨g2_1_0, g2_1_1, g2_1_2, g2_1_3, g2_1_4, g2_1_5⟩, ⟨g2_2_0, g2_2_1, g2_2_2⟩, ⟨g2_3_0, g2_3_1, g2_3_2⟩, ⟨g2_4_0, g2_4_1, g2_4_2⟩, ⟨g2_5_0, g2_5_1, g2_5_2, g2_5_3⟩, gb2⟩ := hW
  clear c8_0_0 c8_0_1 c8_0_2 c8_0_3 c8_1_0 c8_1_1 c8_1_2 c8_1_3 c8_1_4 c8_1_5 c8_2_0 c8_2_1 c8_2_2 c8_3_0 c8_3_1 c8_3_2 c8_4_0 c8_4_1 c8_4_2 c8_5_0 c8_5_1 c8_5_2 c8_5_3 bel8 zc8_0 zc8_1 zc8_2 zc8_3 zc8_4 zc8_5
  have mkq2 : ∀ w', Below W2.heap.size W2 w' → (Below W2.heap.size W2 w' ∧ b4 w' w.heap.size n a0 a1 a2 ∧ b6 w' (w.heap.size + 1) x0 x1 x2 x3 x4 x5 ∧ b3 w' (w.heap.size + 1 + 1) s0 s1 s2 ∧ b3 w' (w.heap.size + 1 + 1 + 1) c0 c1 c2 ∧ b3 w' t2.heap.size z0 z1 z2 ∧ b4 w' t3.heap.size 0 0 0 0) := fun w' h => ⟨h, b4.later h ⟨g2_0_0, g2_0_1, g2_0_2, g2_0_3⟩, b6.later h ⟨g2_1_0, g2_1_1, g2_1_2, g2_1_3, g2_1_4, g2_1_5⟩, b3.later h ⟨g2_2_0, g2_2_1, g2_2_2⟩, b3.later h ⟨g2_3_0, g2_3_1, g2_3_2⟩, b3.later h ⟨g2_4_0, g2_4_1, g2_4_2⟩, b4.later h ⟨g2_5_0, g2_5_1, g2_5_2, g2_5_3⟩⟩
  refine wp_region_held_drew (S := fun w' => Below W2.heap.size W2 w' ∧ b4 w' w.heap.size n a0 a1 a2 ∧ b6 w' (w.heap.size + 1) x0 x1 x2 x3 x4 x5 ∧ b3 w' (w.heap.size + 1 + 1) s0 s1 s2 ∧ b3 w' (w.heap.size + 1 + 1 + 1) c0 c1 c2 ∧ b3 w' t2.heap.size z0 z1 z2 ∧ b4 w' t3.heap.size 0 0 0 0) (by kernel_rfl) (mkq2 _ ((Below.refl _ _).drew)) (fun hHeld => ?_)
  refine tkZ 0 ?_ rfl ?_ ?_
  rotate_left
  · intro w _; go_simp <;> with_reducible rfl
  try simp only [Act.put, pSa, pSb, pSc]
  refine tkZ 1 ?_ rfl ?_ ?_
  rotate_left
  · intro w _; go_simp <;> with_reducible rfl
  try simp only [Act.put, pSa, pSb, pSc]
  refine tkZ 2 ?_ rfl ?_ ?_
  rotate_left
  · intro w _; go_simp <;> with_reducible rfl
  try simp only [Act.put, pSa, pSb, pSc]
  refine tkZ 3 ?_ rfl ?_ ?_
  rotate_left
  · intro w h; simp only [b3, b4, b6, cE] at h; go_simp <;> with_reducible rfl
  try simp only [Act.put, pSa, pSb, pSc]
  refine tkZ 4 ?_ rfl ?_ ?_
  rotate_left
  · intro w _; go_simp <;> with_reducible rfl
  try simp only [Act.put, pSa, pSb, pSc]
  refine tkZ 5 ?_ rfl ?_ ?_
  rotate_left
  · intro w h; simp only [b3, b4, b6, cE] at h; go_simp <;> with_reducible rfl
  try simp only [Act.put, pSa, pSb, pSc]
  refine tkZ 6 ?_ rfl ?_ ?_
  rotate_left
  · intro w h; simp only [b3, b4, b6, cE] at h; go_simp <;> with_reducible rfl
  try simp only [Act.put, pSa, pSb, pSc]
  refine rOne 7 rfl (fun K hK => ?_)
  go_simp
  go_at_call 21
  (with_reducible refine (R2 _).mono ?_)
  rintro e rq21 ⟨rfl, zq21⟩
  go_wp2_with fail
  refine hK.out _ _ (mkq2 _ (b_step hHeld.1 zq21 hHeld.1.size)) (fun hHeld2 => ?_)
  clear hK K hHeld
  have hHeld := hHeld2
  clear hHeld2
  (try simp only [Act.put, pSa, pSb, pSc])
  refine tkZ 8 ?_ rfl ?_ ?_
  rotate_left
  · intro w _; go_simp <;> with_reducible rfl
  try simp only [Act.put, pSa, pSb, pSc]
  refine tkZ 9 ?_ rfl ?_ ?_
  rotate_left
  · intro w _; go_simp <;> with_reducible rfl
  try simp only [Act.put, pSa, pSb, pSc]
  refine wpAnyH_done (by kernel_rfl) ?_ _
  have belq2 := b_step gb2 hHeld.1 gb2.size
  obtain ⟨-, ⟨h2_0_0, h2_0_1, h2_0_2, h2_0_3⟩, ⟨h2_1_0, h2_1_1, h2_1_2, h2_1_3, h2_1_4, h2_1_5⟩, ⟨h2_2_0, h2_2_1, h2_2_2⟩, ⟨h2_3_0, h2_3_1, h2_3_2⟩, ⟨h2_4_0, h2_4_1, h2_4_2⟩, ⟨h2_5_0, h2_5_1, h2_5_2, h2_5_3⟩⟩ := hHeld
  clear gb2 mkq2 g2_0_0 g2_0_1 g2_0_2 g2_0_3 g2_1_0 g2_1_1 g2_1_2 g2_1_3 g2_1_4 g2_1_5 g2_2_0 g2_2_1 g2_2_2 g2_3_0 g2_3_1 g2_3_2 g2_4_0 g2_4_1 g2_4_2 g2_5_0 g2_5_1 g2_5_2 g2_5_3
  have zh2_0 := ltc h2_0_0
  have zh2_1 := ltc h2_1_0
  have zh2_2 := ltc h2_2_0
  have zh2_3 := ltc h2_3_0
  have zh2_4 := ltc h2_4_0
  have zh2_5 := ltc h2_5_0
  go_wp2_with fail
  go_at_call 17
  (with_reducible refine (Nc _).mono ?_)
  rintro e t9 ⟨rfl, y9⟩
  obtain ⟨⟨c9_0_0, c9_0_1, c9_0_2, c9_0_3⟩, ⟨c9_1_0, c9_1_1, c9_1_2, c9_1_3, c9_1_4, c9_1_5⟩, ⟨c9_2_0, c9_2_1, c9_2_2⟩, ⟨c9_3_0, c9_3_1, c9_3_2⟩, ⟨c9_4_0, c9_4_1, c9_4_2⟩, ⟨c9_5_0, c9_5_1, c9_5_2, c9_5_3⟩, bel9⟩ : b4 t9 w.heap.size n a0 a1 a2 ∧ b6 t9 (w.heap.size + 1) x0 x1 x2 x3 x4 x5 ∧ b3 t9 (w.heap.size + 1 + 1) s0 s1 s2 ∧ b3 t9 (w.heap.size + 1 + 1 + 1) c0 c1 c2 ∧ b3 t9 t2.heap.size z0 z1 z2 ∧ b4 t9 t3.heap.size 0 0 0 0 ∧ Below w.heap.size w t9 := by
    refine ⟨?_, ?_, ?_, ?_, ?_, ?_, bs0 belq2 y9⟩ <;> (repeat' apply And.intro) <;> exact cell_later y9 (by (first | assumption | exact c_alloc (by assumption) | exact c_at rfl rfl))
  clear y9 h2_0_0 h2_0_1 h2_0_2 h2_0_3 h2_1_0 h2_1_1 h2_1_2 h2_1_3 h2_1_4 h2_1_5 h2_2_0 h2_2_1 h2_2_2 h2_3_0 h2_3_1 h2_3_2 h2_4_0 h2_4_1 h2_4_2 h2_5_0 h2_5_1 h2_5_2 h2_5_3 belq2 zh2_0 zh2_1 zh2_2 zh2_3 zh2_4 zh2_5
  have zc9_0 := ltc c9_0_0
  have zc9_1 := ltc c9_1_0
  have zc9_2 := ltc c9_2_0
  have zc9_3 := ltc c9_3_0
  have zc9_4 := ltc c9_4_0
  have zc9_5 := ltc c9_5_0
  go_upto_region 20 with fail
  refine gen_world (F := fun W3 => b4 W3 w.heap.size n a0 a1 a2 ∧ b6 W3 (w.heap.size + 1) x0 x1 x2 x3 x4 x5 ∧ b3 W3 (w.heap.size + 1 + 1) s0 s1 s2 ∧ b3 W3 (w.heap.size + 1 + 1 + 1) c0 c1 c2 ∧ b3 W3 t2.heap.size z0 z1 z2 ∧ b4 W3 t3.heap.size 0 0 0 0 ∧ Below w.heap.size w W3) ?_ (fun W3 hW => ?_)
  · refine ⟨?_, ?_, ?_, ?_, ?_, ?_, bel9⟩ <;> (repeat' apply And.intro) <;> (first | assumption | exact c_alloc (by assumption) | exact c_at rfl rfl)
  obtain ⟨⟨g3_0_0, g3_0_1, g3_0_2, g3_0_3⟩, ⟨g3_1_0, g3_1_1, g3_1_2, g3_1_3, g3_1_4, g3_1_5⟩, ⟨g3_2_0, g3_2_1, g3_2_2⟩, ⟨g3_3_0, g3_3_1, g3_3_2⟩, ⟨g3_4_0, g3_4_1, g3_4_2⟩, ⟨g3_5_0, g3_5_1, g3_5_2, g3_5_3⟩, gb3⟩ := hW
  clear c9_0_0 c9_0_1 c9_0_2 c9_0_3 c9_1_0 c9_1_1 c9_1_2 c9_1_3 c9_1_4 c9_1_5 c9_2_0 c9_2_1 c9_2_2 c9_3_0 c9_3_1 c9_3_2 c9_4_0 c9_4_1 c9_4_2 c9_5_0 c9_5_1 c9_5_2 c9_5_3 bel9 zc9_0 zc9_1 zc9_2 zc9_3 zc9_4 zc9_5
  have mkq3 : ∀ w', Below W3.heap.size W3 w' → (Below W3.heap.size W3 w' ∧ b4 w' w.heap.size n a0 a1 a2 ∧ b6 w' (w.heap.size + 1) x0 x1 x2 x3 x4 x5 ∧ b3 w' (w.heap.size + 1 + 1) s0 s1 s2 ∧ b3 w' (w.heap.size + 1 + 1 + 1) c0 c1 c2 ∧ b3 w' t2.heap.size z0 z1 z2 ∧ b4 w' t3.heap.size 0 0 0 0) := fun w' h => ⟨h, b4.later h ⟨g3_0_0, g3_0_1, g3_0_2, g3_0_3⟩, b6.later h ⟨g3_1_0, g3_1_1, g3_1_2, g3_1_3, g3_1_4, g3_1_5⟩, b3.later h ⟨g3_2_0, g3_2_1, g3_2_2⟩, b3.later h ⟨g3_3_0, g3_3_1, g3_3_2⟩, b3.later h ⟨g3_4_0, g3_4_1, g3_4_2⟩, b4.later h ⟨g3_5_0, g3_5_1, g3_5_2, g3_5_3⟩⟩
  refine wp_region_held_drew (S := fun w' => Below W3.heap.size W3 w' ∧ b4 w' w.heap.size n a0 a1 a2 ∧ b6 w' (w.heap.size + 1) x0 x1 x2 x3 x4 x5 ∧ b3 w' (w.heap.size + 1 + 1) s0 s1 s2 ∧ b3 w' (w.heap.size + 1 + 1 + 1) c0 c1 c2 ∧ b3 w' t2.heap.size z0 z1 z2 ∧ b4 w' t3.heap.size 0 0 0 0) (by kernel_rfl) (mkq3 _ ((Below.refl _ _).drew)) (fun hHeld => ?_)
  refine rOne 0 rfl (fun K hK => ?_)
  go_simp
  go_at_call 15
  (with_reducible refine (Hq _ (b_step gb3 hHeld.1 gb3.size)).mono ?_)
  rintro e rq31 ⟨rfl, zq31⟩
  go_wp2_with fail
  refine hK.out _ _ (mkq3 _ (b_step hHeld.1 zq31 hHeld.1.size)) (fun hHeld2 => ?_)
  clear hK K hHeld
  have hHeld := hHeld2
  clear hHeld2
  (try simp only [Act.put, pSa, pSb, pSc])
  refine tkZ 1 ?_ rfl ?_ ?_
  rotate_left
  · intro w _; go_simp <;> with_reducible rfl
  try simp only [Act.put, pSa, pSb, pSc]
  refine tkZ 2 ?_ rfl ?_ ?_
  rotate_left
  · intro w _; go_simp <;> with_reducible rfl
  try simp only [Act.put, pSa, pSb, pSc]
  refine tkZ 3 ?_ rfl ?_ ?_
  rotate_left
  · intro w _; go_simp <;> with_reducible rfl
  try simp only [Act.put, pSa, pSb, pSc]
  refine tkZ 4 ?_ rfl ?_ ?_
  rotate_left
  · intro w _; go_simp <;> with_reducible rfl
  try simp only [Act.put, pSa, pSb, pSc]
  refine tkZ 5 ?_ rfl ?_ ?_
  rotate_left
  · intro w _; go_simp <;> with_reducible rfl
  try simp only [Act.put, pSa, pSb, pSc]
  refine tkZ 6 ?_ rfl ?_ ?_
  rotate_left
  · intro w _; go_simp <;> with_reducible rfl
  try simp only [Act.put, pSa, pSb, pSc]
  refine tkZ 7 ?_ rfl ?_ ?_
  rotate_left
  · intro w _; go_simp <;> with_reducible rfl
  try simp only [Act.put, pSa, pSb, pSc]
  refine tkZ 8 ?_ rfl ?_ ?_
  rotate_left
  · intro w _; go_simp <;> with_reducible rfl
  try simp only [Act.put, pSa, pSb, pSc]
  refine tkZ 9 ?_ rfl ?_ ?_
  rotate_left
  · intro w _; go_simp <;> with_reducible rfl
  try simp only [Act.put, pSa, pSb, pSc]
  refine tnZ 10 rfl ?_
  try simp only [Act.put, pSa, pSb, pSc]
  refine tnZ 11 rfl ?_
  try simp only [Act.put, pSa, pSb, pSc]
  refine tnZ 12 rfl ?_
  try simp only [Act.put, pSa, pSb, pSc]
  refine tnZ 13 rfl ?_
  try simp only [Act.put, pSa, pSb, pSc]
  refine tnZ 14 rfl ?_
  try simp only [Act.put, pSa, pSb, pSc]
  refine tnZ 15 rfl ?_
  try simp only [Act.put, pSa, pSb, pSc]
  refine tnZ 16 rfl ?_
  try simp only [Act.put, pSa, pSb, pSc]
  refine tkZ 17 ?_ rfl ?_ ?_
  rotate_left
  · intro w _; go_simp <;> with_reducible rfl
  try simp only [Act.put, pSa, pSb, pSc]
  refine tkZ 18 ?_ rfl ?_ ?_
  rotate_left
  · intro w _; go_simp <;> with_reducible rfl
  try simp only [Act.put, pSa, pSb, pSc]
  refine tkZ 19 ?_ rfl ?_ ?_
  rotate_left
  · intro w _; go_simp <;> with_reducible rfl
  try simp only [Act.put, pSa, pSb, pSc]
  refine tkZ 20 ?_ rfl ?_ ?_
  rotate_left
  · intro w _; go_simp <;> with_reducible rfl
  try simp only [Act.put, pSa, pSb, pSc]
  refine tkZ 21 ?_ rfl ?_ ?_
  rotate_left
  · intro w _; go_simp <;> with_reducible rfl
  try simp only [Act.put, pSa, pSb, pSc]
  refine tkZ 22 ?_ rfl ?_ ?_
  rotate_left
  · intro w h; simp only [b3, b4, b6, cE] at h; go_simp <;> with_reducible rfl
  try simp only [Act.put, pSa, pSb, pSc]
  refine tkZ 23 ?_ rfl ?_ ?_
  rotate_left
  · intro w _; go_simp <;> with_reducible rfl
  try simp only [Act.put, pSa, pSb, pSc]
  refine tkZ 24 ?_ rfl ?_ ?_
  rotate_left
  · intro w _; go_simp <;> with_reducible rfl
  try simp only [Act.put, pSa, pSb, pSc]
  refine tkZ 25 ?_ rfl ?_ ?_
  rotate_left
  · intro w _; go_simp <;> with_reducible rfl
  try simp only [Act.put, pSa, pSb, pSc]
  refine tkZ 26 ?_ rfl ?_ ?_
  rotate_left
  · intro w _; go_simp <;> with_reducible rfl
  try simp only [Act.put, pSa, pSb, pSc]
  refine tkZ 27 ?_ rfl ?_ ?_
  rotate_left
  · intro w _; go_simp <;> with_reducible rfl
  try simp only [Act.put, pSa, pSb, pSc]
  refine tkZ 28 ?_ rfl ?_ ?_
  rotate_left
  · intro w _; go_simp <;> with_reducible rfl
  try simp only [Act.put, pSa, pSb, pSc]
  refine wpAnyH_done (by kernel_rfl) ?_ _
  have belq3 := b_step gb3 hHeld.1 gb3.size
  obtain ⟨-, ⟨h3_0_0, h3_0_1, h3_0_2, h3_0_3⟩, ⟨h3_1_0, h3_1_1, h3_1_2, h3_1_3, h3_1_4, h3_1_5⟩, ⟨h3_2_0, h3_2_1, h3_2_2⟩, ⟨h3_3_0, h3_3_1, h3_3_2⟩, ⟨h3_4_0, h3_4_1, h3_4_2⟩, ⟨h3_5_0, h3_5_1, h3_5_2, h3_5_3⟩⟩ := hHeld
  clear gb3 mkq3 g3_0_0 g3_0_1 g3_0_2 g3_0_3 g3_1_0 g3_1_1 g3_1_2 g3_1_3 g3_1_4 g3_1_5 g3_2_0 g3_2_1 g3_2_2 g3_3_0 g3_3_1 g3_3_2 g3_4_0 g3_4_1 g3_4_2 g3_5_0 g3_5_1 g3_5_2 g3_5_3
  have zh3_0 := ltc h3_0_0
  have zh3_1 := ltc h3_1_0
  have zh3_2 := ltc h3_2_0
  have zh3_3 := ltc h3_3_0
  have zh3_4 := ltc h3_4_0
  have zh3_5 := ltc h3_5_0
  go_wp2
  go_ret
  exact ⟨rfl, belq3⟩

set_option maxRecDepth 100000 in
set_option maxHeartbeats 16000000 in
theorem boxes_14 (n a0 a1 a2 x0 x1 x2 x3 x4 x5 s0 s1 s2 c0 c1 c2 u0 u1 u2 u3 u4 u5 z0 z1 z2 q0 q1 q2 p0 p1 p2 : Int) (w : World)
    (Hq : ∀ W, Below w.heap.size w W → Calls Tryd.prog 15 #[] W fun r w' => r = .returned (.bool true) ∧ Below W.heap.size W w')
    (H1 : ∀ w, Calls Tryd.prog 11 #[vP n a0 a1 a2, vB x0 x1 x2 x3 x4 x5] w fun r w' => r = .returned (.tuple #[vB 0 0 0 0 0 0, .int .i64 6]) ∧ Below w.heap.size w w')
    (H2 : ∀ w, Calls Tryd.prog 12 #[.int .i64 n, vV s0 s1 s2] w fun r w' => r = .returned (.tuple #[vV z0 z1 z2, .int .i64 0]) ∧ Below w.heap.size w w')
    (H3 : ∀ w, Calls Tryd.prog 13 #[.int .i64 n, vV s0 s1 s2, vV c0 c1 c2] w fun r w' => r = .returned (.tuple #[vP 0 0 0 0, .int .i64 6]) ∧ Below w.heap.size w w')
    (In : ∀ w, Calls Tryd.prog 14 #[.int .i64 n] w fun e w' => e = .returned (.bool true) ∧ w = w')
    (Hv : ∀ w, Calls Tryd.prog 16 #[vB x0 x1 x2 x3 x4 x5] w fun r w' => r = .returned (.bool true) ∧ Below w.heap.size w w')
    (Ns : ∀ w, Calls Tryd.prog 17 #[vV a0 a1 a2] w fun r w' => r = .returned (.bool true) ∧ Below w.heap.size w w')
    (R1 : ∀ w, Calls Tryd.prog 19 #[vP n a0 a1 a2, vB x0 x1 x2 x3 x4 x5] w fun r w' => r = .returned (vB u0 u1 u2 u3 u4 u5) ∧ Below w.heap.size w w')
    (Hi : ∀ w, Calls Tryd.prog 18 #[vB u0 u1 u2 u3 u4 u5] w fun r w' => r = .returned (.int .i64 6) ∧ Below w.heap.size w w')
    (Hz : ∀ w, Calls Tryd.prog 20 #[vV s0 s1 s2] w fun r w' => r = .returned (.bool true) ∧ Below w.heap.size w w')
    (R2 : ∀ w, Calls Tryd.prog 21 #[.int .i64 n, vV s0 s1 s2] w fun r w' => r = .returned (vV z0 z1 z2) ∧ Below w.heap.size w w')
    (Nc : ∀ w, Calls Tryd.prog 17 #[vV c0 c1 c2] w fun r w' => r = .returned (.bool true) ∧ Below w.heap.size w w')
    (Hp : ∀ w, Calls Tryd.prog 22 #[vV c0 c1 c2, vV z0 z1 z2] w fun r w' => r = .returned (vV p0 p1 p2) ∧ Below w.heap.size w w')
    (Np : ∀ w, Calls Tryd.prog 17 #[vV p0 p1 p2] w fun r w' => r = .returned (.bool false) ∧ Below w.heap.size w w') :
    Calls Tryd.prog 3 #[vP n a0 a1 a2, vB x0 x1 x2 x3 x4 x5, vV s0 s1 s2, vV c0 c1 c2] w fun e w' => e = .returned (.bool true) ∧ Below w.heap.size w w' := by
  have fP : ∀ (n x y z : Int) w, (Instr.field 25 (vP n x y z) 1).run Tryd.prog w = .ok (vV x y z) w := field_P1_W3c
  have ez : ∀ w, (binOp .neq 23 (vV z0 z1 z2) (vV z0 z1 z2)).run Tryd.prog w = .ok (.bool false) w := fun w => by rw [neq_V, decide_eq_true (by simp)]; rfl
  go_enter Tryd.func3, Tryd.ntmps3
  go_wp2_with fail
  go_at_call 11
  (with_reducible refine (H1 _).mono ?_)
  rintro e t1 ⟨rfl, y1⟩
  have hyy := y1.size
  (try simp only [World.size_alloc, World.size_setCell, World.size_drew] at hyy)
  obtain ⟨⟨c1_0_0, c1_0_1, c1_0_2, c1_0_3⟩, ⟨c1_1_0, c1_1_1, c1_1_2, c1_1_3, c1_1_4, c1_1_5⟩, ⟨c1_2_0, c1_2_1, c1_2_2⟩, ⟨c1_3_0, c1_3_1, c1_3_2⟩, bel1⟩ : b4 t1 w.heap.size n a0 a1 a2 ∧ b6 t1 (w.heap.size + 1) x0 x1 x2 x3 x4 x5 ∧ b3 t1 (w.heap.size + 1 + 1) s0 s1 s2 ∧ b3 t1 (w.heap.size + 1 + 1 + 1) c0 c1 c2 ∧ Below w.heap.size w t1 := by
    refine ⟨?_, ?_, ?_, ?_, b_step (by (repeat' (first | (with_reducible assumption) | (with_reducible exact Below.refl _ _) | (with_reducible refine Below.alloc ?_ ?_ _) | (with_reducible refine Below.drew ?_) | (with_reducible refine Below.setCell ?_ ?_ _) | (with_reducible refine b_step ?_ (by assumption) ?_) | omega | (simp only [World.size_alloc, World.size_setCell, World.size_drew]; omega)))) y1 (by simp only [World.size_alloc, World.size_setCell, World.size_drew]; omega)⟩ <;> (repeat' apply And.intro) <;> exact cell_later y1 (by (simp (disch := first | omega | (simp only [World.size_alloc, World.size_setCell, World.size_drew]; done) | (simp only [World.size_alloc, World.size_setCell, World.size_drew]; omega)) only [*, r_set_same, r_set_off, r_set_blk, r_set_f, r_alloc_at, r_alloc_past, r_falloc_at, r_falloc_past, World.cell?_drew, World.frozen?_drew, Option.map_some, List.getElem?_toArray, List.getElem?_cons_zero, List.getElem?_cons_succ]; done))
  clear hyy y1 
  have zc1_0 := ltc c1_0_0
  have zc1_1 := ltc c1_1_0
  have zc1_2 := ltc c1_2_0
  have zc1_3 := ltc c1_3_0
  go_wp2_with fail
  go_at_call 12
  (with_reducible refine (H2 _).mono ?_)
  rintro e t2 ⟨rfl, y2⟩
  obtain ⟨⟨c2_0_0, c2_0_1, c2_0_2, c2_0_3⟩, ⟨c2_1_0, c2_1_1, c2_1_2, c2_1_3, c2_1_4, c2_1_5⟩, ⟨c2_2_0, c2_2_1, c2_2_2⟩, ⟨c2_3_0, c2_3_1, c2_3_2⟩, ⟨c2_4_0, c2_4_1, c2_4_2, c2_4_3, c2_4_4, c2_4_5⟩, bel2⟩ : b4 t2 w.heap.size n a0 a1 a2 ∧ b6 t2 (w.heap.size + 1) x0 x1 x2 x3 x4 x5 ∧ b3 t2 (w.heap.size + 1 + 1) s0 s1 s2 ∧ b3 t2 (w.heap.size + 1 + 1 + 1) c0 c1 c2 ∧ b6 t2 t1.heap.size 0 0 0 0 0 0 ∧ Below w.heap.size w t2 := by
    refine ⟨?_, ?_, ?_, ?_, ?_, bs1 bel1 y2⟩ <;> (repeat' apply And.intro) <;> exact cell_later y2 (by (first | assumption | exact c_alloc (by assumption) | exact c_at rfl rfl))
  clear y2 c1_0_0 c1_0_1 c1_0_2 c1_0_3 c1_1_0 c1_1_1 c1_1_2 c1_1_3 c1_1_4 c1_1_5 c1_2_0 c1_2_1 c1_2_2 c1_3_0 c1_3_1 c1_3_2 bel1 zc1_0 zc1_1 zc1_2 zc1_3
  have zc2_0 := ltc c2_0_0
  have zc2_1 := ltc c2_1_0
  have zc2_2 := ltc c2_2_0
  have zc2_3 := ltc c2_3_0
  have zc2_4 := ltc c2_4_0
  go_wp2_with fail
  go_at_call 13
  (with_reducible refine (H3 _).mono ?_)
  rintro e t3 ⟨rfl, y3⟩
  obtain ⟨⟨c3_0_0, c3_0_1, c3_0_2, c3_0_3⟩, ⟨c3_1_0, c3_1_1, c3_1_2, c3_1_3, c3_1_4, c3_1_5⟩, ⟨c3_2_0, c3_2_1, c3_2_2⟩, ⟨c3_3_0, c3_3_1, c3_3_2⟩, ⟨c3_4_0, c3_4_1, c3_4_2, c3_4_3, c3_4_4, c3_4_5⟩, ⟨c3_5_0, c3_5_1, c3_5_2⟩, bel3⟩ : b4 t3 w.heap.size n a0 a1 a2 ∧ b6 t3 (w.heap.size + 1) x0 x1 x2 x3 x4 x5 ∧ b3 t3 (w.heap.size + 1 + 1) s0 s1 s2 ∧ b3 t3 (w.heap.size + 1 + 1 + 1) c0 c1 c2 ∧ b6 t3 t1.heap.size 0 0 0 0 0 0 ∧ b3 t3 t2.heap.size z0 z1 z2 ∧ Below w.heap.size w t3 := by
    refine ⟨?_, ?_, ?_, ?_, ?_, ?_, bs1 bel2 y3⟩ <;> (repeat' apply And.intro) <;> exact cell_later y3 (by (first | assumption | exact c_alloc (by assumption) | exact c_at rfl rfl))
  clear y3 c2_0_0 c2_0_1 c2_0_2 c2_0_3 c2_1_0 c2_1_1 c2_1_2 c2_1_3 c2_1_4 c2_1_5 c2_2_0 c2_2_1 c2_2_2 c2_3_0 c2_3_1 c2_3_2 c2_4_0 c2_4_1 c2_4_2 c2_4_3 c2_4_4 c2_4_5 bel2 zc2_0 zc2_1 zc2_2 zc2_3 zc2_4
  have zc3_0 := ltc c3_0_0
  have zc3_1 := ltc c3_1_0
  have zc3_2 := ltc c3_2_0
  have zc3_3 := ltc c3_3_0
  have zc3_4 := ltc c3_4_0
  have zc3_5 := ltc c3_5_0
  go_wp2_with fail
  go_at_call 14
  (with_reducible refine (In _).mono ?_)
  rintro e tt ⟨rfl, rfl⟩
  go_wp2_with fail
  go_at_call 16
  (with_reducible refine (Hv _).mono ?_)
  rintro e t4 ⟨rfl, y4⟩
  obtain ⟨⟨c4_0_0, c4_0_1, c4_0_2, c4_0_3⟩, ⟨c4_1_0, c4_1_1, c4_1_2, c4_1_3, c4_1_4, c4_1_5⟩, ⟨c4_2_0, c4_2_1, c4_2_2⟩, ⟨c4_3_0, c4_3_1, c4_3_2⟩, ⟨c4_4_0, c4_4_1, c4_4_2, c4_4_3, c4_4_4, c4_4_5⟩, ⟨c4_5_0, c4_5_1, c4_5_2⟩, ⟨c4_6_0, c4_6_1, c4_6_2, c4_6_3⟩, bel4⟩ : b4 t4 w.heap.size n a0 a1 a2 ∧ b6 t4 (w.heap.size + 1) x0 x1 x2 x3 x4 x5 ∧ b3 t4 (w.heap.size + 1 + 1) s0 s1 s2 ∧ b3 t4 (w.heap.size + 1 + 1 + 1) c0 c1 c2 ∧ b6 t4 t1.heap.size 0 0 0 0 0 0 ∧ b3 t4 t2.heap.size z0 z1 z2 ∧ b4 t4 t3.heap.size 0 0 0 0 ∧ Below w.heap.size w t4 := by
    refine ⟨?_, ?_, ?_, ?_, ?_, ?_, ?_, bs1 bel3 y4⟩ <;> (repeat' apply And.intro) <;> exact cell_later y4 (by (first | assumption | exact c_alloc (by assumption) | exact c_at rfl rfl))
  clear y4 c3_0_0 c3_0_1 c3_0_2 c3_0_3 c3_1_0 c3_1_1 c3_1_2 c3_1_3 c3_1_4 c3_1_5 c3_2_0 c3_2_1 c3_2_2 c3_3_0 c3_3_1 c3_3_2 c3_4_0 c3_4_1 c3_4_2 c3_4_3 c3_4_4 c3_4_5 c3_5_0 c3_5_1 c3_5_2 bel3 zc3_0 zc3_1 zc3_2 zc3_3 zc3_4 zc3_5
  have zc4_0 := ltc c4_0_0
  have zc4_1 := ltc c4_1_0
  have zc4_2 := ltc c4_2_0
  have zc4_3 := ltc c4_3_0
  have zc4_4 := ltc c4_4_0
  have zc4_5 := ltc c4_5_0
  have zc4_6 := ltc c4_6_0
  go_wp2_with fail
  go_at_call 17
  (with_reducible refine (Ns _).mono ?_)
  rintro e t5 ⟨rfl, y5⟩
  obtain ⟨⟨c5_0_0, c5_0_1, c5_0_2, c5_0_3⟩, ⟨c5_1_0, c5_1_1, c5_1_2, c5_1_3, c5_1_4, c5_1_5⟩, ⟨c5_2_0, c5_2_1, c5_2_2⟩, ⟨c5_3_0, c5_3_1, c5_3_2⟩, ⟨c5_4_0, c5_4_1, c5_4_2, c5_4_3, c5_4_4, c5_4_5⟩, ⟨c5_5_0, c5_5_1, c5_5_2⟩, ⟨c5_6_0, c5_6_1, c5_6_2, c5_6_3⟩, bel5⟩ : b4 t5 w.heap.size n a0 a1 a2 ∧ b6 t5 (w.heap.size + 1) x0 x1 x2 x3 x4 x5 ∧ b3 t5 (w.heap.size + 1 + 1) s0 s1 s2 ∧ b3 t5 (w.heap.size + 1 + 1 + 1) c0 c1 c2 ∧ b6 t5 t1.heap.size 0 0 0 0 0 0 ∧ b3 t5 t2.heap.size z0 z1 z2 ∧ b4 t5 t3.heap.size 0 0 0 0 ∧ Below w.heap.size w t5 := by
    refine ⟨?_, ?_, ?_, ?_, ?_, ?_, ?_, bs0 bel4 y5⟩ <;> (repeat' apply And.intro) <;> exact cell_later y5 (by (first | assumption | exact c_alloc (by assumption) | exact c_at rfl rfl))
  clear y5 c4_0_0 c4_0_1 c4_0_2 c4_0_3 c4_1_0 c4_1_1 c4_1_2 c4_1_3 c4_1_4 c4_1_5 c4_2_0 c4_2_1 c4_2_2 c4_3_0 c4_3_1 c4_3_2 c4_4_0 c4_4_1 c4_4_2 c4_4_3 c4_4_4 c4_4_5 c4_5_0 c4_5_1 c4_5_2 c4_6_0 c4_6_1 c4_6_2 c4_6_3 bel4 zc4_0 zc4_1 zc4_2 zc4_3 zc4_4 zc4_5 zc4_6
  have zc5_0 := ltc c5_0_0
  have zc5_1 := ltc c5_1_0
  have zc5_2 := ltc c5_2_0
  have zc5_3 := ltc c5_3_0
  have zc5_4 := ltc c5_4_0
  have zc5_5 := ltc c5_5_0
  have zc5_6 := ltc c5_6_0
  go_wp2_with fail
  go_at_call 19
  (with_reducible refine (R1 _).mono ?_)
  rintro e t6 ⟨rfl, y6⟩
  obtain ⟨⟨c6_0_0, c6_0_1, c6_0_2, c6_0_3⟩, ⟨c6_1_0, c6_1_1, c6_1_2, c6_1_3, c6_1_4, c6_1_5⟩, ⟨c6_2_0, c6_2_1, c6_2_2⟩, ⟨c6_3_0, c6_3_1, c6_3_2⟩, ⟨c6_4_0, c6_4_1, c6_4_2, c6_4_3, c6_4_4, c6_4_5⟩, ⟨c6_5_0, c6_5_1, c6_5_2⟩, ⟨c6_6_0, c6_6_1, c6_6_2, c6_6_3⟩, bel6⟩ : b4 t6 w.heap.size n a0 a1 a2 ∧ b6 t6 (w.heap.size + 1) x0 x1 x2 x3 x4 x5 ∧ b3 t6 (w.heap.size + 1 + 1) s0 s1 s2 ∧ b3 t6 (w.heap.size + 1 + 1 + 1) c0 c1 c2 ∧ b6 t6 t1.heap.size 0 0 0 0 0 0 ∧ b3 t6 t2.heap.size z0 z1 z2 ∧ b4 t6 t3.heap.size 0 0 0 0 ∧ Below w.heap.size w t6 := by
    refine ⟨?_, ?_, ?_, ?_, ?_, ?_, ?_, bs0 bel5 y6⟩ <;> (repeat' apply And.intro) <;> exact cell_later y6 (by (first | assumption | exact c_alloc (by assumption) | exact c_at rfl rfl))
  clear y6 c5_0_0 c5_0_1 c5_0_2 c5_0_3 c5_1_0 c5_1_1 c5_1_2 c5_1_3 c5_1_4 c5_1_5 c5_2_0 c5_2_1 c5_2_2 c5_3_0 c5_3_1 c5_3_2 c5_4_0 c5_4_1 c5_4_2 c5_4_3 c5_4_4 c5_4_5 c5_5_0 c5_5_1 c5_5_2 c5_6_0 c5_6_1 c5_6_2 c5_6_3 bel5 zc5_0 zc5_1 zc5_2 zc5_3 zc5_4 zc5_5 zc5_6
  have zc6_0 := ltc c6_0_0
  have zc6_1 := ltc c6_1_0
  have zc6_2 := ltc c6_2_0
  have zc6_3 := ltc c6_3_0
  have zc6_4 := ltc c6_4_0
  have zc6_5 := ltc c6_5_0
  have zc6_6 := ltc c6_6_0
  go_wp2_with fail
  go_at_call 18
  (with_reducible refine (Hi _).mono ?_)
  rintro e t7 ⟨rfl, y7⟩
  obtain ⟨⟨c7_0_0, c7_0_1, c7_0_2, c7_0_3⟩, ⟨c7_1_0, c7_1_1, c7_1_2, c7_1_3, c7_1_4, c7_1_5⟩, ⟨c7_2_0, c7_2_1, c7_2_2⟩, ⟨c7_3_0, c7_3_1, c7_3_2⟩, ⟨c7_4_0, c7_4_1, c7_4_2, c7_4_3, c7_4_4, c7_4_5⟩, ⟨c7_5_0, c7_5_1, c7_5_2⟩, ⟨c7_6_0, c7_6_1, c7_6_2, c7_6_3⟩, bel7⟩ : b4 t7 w.heap.size n a0 a1 a2 ∧ b6 t7 (w.heap.size + 1) x0 x1 x2 x3 x4 x5 ∧ b3 t7 (w.heap.size + 1 + 1) s0 s1 s2 ∧ b3 t7 (w.heap.size + 1 + 1 + 1) c0 c1 c2 ∧ b6 t7 t1.heap.size 0 0 0 0 0 0 ∧ b3 t7 t2.heap.size z0 z1 z2 ∧ b4 t7 t3.heap.size 0 0 0 0 ∧ Below w.heap.size w t7 := by
    refine ⟨?_, ?_, ?_, ?_, ?_, ?_, ?_, bs0 bel6 y7⟩ <;> (repeat' apply And.intro) <;> exact cell_later y7 (by (first | assumption | exact c_alloc (by assumption) | exact c_at rfl rfl))
  clear y7 c6_0_0 c6_0_1 c6_0_2 c6_0_3 c6_1_0 c6_1_1 c6_1_2 c6_1_3 c6_1_4 c6_1_5 c6_2_0 c6_2_1 c6_2_2 c6_3_0 c6_3_1 c6_3_2 c6_4_0 c6_4_1 c6_4_2 c6_4_3 c6_4_4 c6_4_5 c6_5_0 c6_5_1 c6_5_2 c6_6_0 c6_6_1 c6_6_2 c6_6_3 bel6 zc6_0 zc6_1 zc6_2 zc6_3 zc6_4 zc6_5 zc6_6
  have zc7_0 := ltc c7_0_0
  have zc7_1 := ltc c7_1_0
  have zc7_2 := ltc c7_2_0
  have zc7_3 := ltc c7_3_0
  have zc7_4 := ltc c7_4_0
  have zc7_5 := ltc c7_5_0
  have zc7_6 := ltc c7_6_0
  go_upto_region 11 with fail
  refine gen_world (F := fun W1 => b4 W1 w.heap.size n a0 a1 a2 ∧ b6 W1 (w.heap.size + 1) x0 x1 x2 x3 x4 x5 ∧ b3 W1 (w.heap.size + 1 + 1) s0 s1 s2 ∧ b3 W1 (w.heap.size + 1 + 1 + 1) c0 c1 c2 ∧ b6 W1 t1.heap.size 0 0 0 0 0 0 ∧ b3 W1 t2.heap.size z0 z1 z2 ∧ b4 W1 t3.heap.size 0 0 0 0 ∧ Below w.heap.size w W1) ?_ (fun W1 hW => ?_)
  · refine ⟨?_, ?_, ?_, ?_, ?_, ?_, ?_, bel7⟩ <;> (repeat' apply And.intro) <;> (first | assumption | exact c_alloc (by assumption) | exact c_at rfl rfl)
  obtain ⟨⟨g1_0_0, g1_0_1, g1_0_2, g1_0_3⟩, ⟨g1_1_0, g1_1_1, g1_1_2, g1_1_3, g1_1_4, g1_1_5⟩, ⟨g1_2_0, g1_2_1, g1_2_2⟩, ⟨g1_3_0, g1_3_1, g1_3_2⟩, ⟨g1_4_0, g1_4_1, g1_4_2, g1_4_3, g1_4_4, g1_4_5⟩, ⟨g1_5_0, g1_5_1, g1_5_2⟩, ⟨g1_6_0, g1_6_1, g1_6_2, g1_6_3⟩, gb1⟩ := hW
  clear c7_0_0 c7_0_1 c7_0_2 c7_0_3 c7_1_0 c7_1_1 c7_1_2 c7_1_3 c7_1_4 c7_1_5 c7_2_0 c7_2_1 c7_2_2 c7_3_0 c7_3_1 c7_3_2 c7_4_0 c7_4_1 c7_4_2 c7_4_3 c7_4_4 c7_4_5 c7_5_0 c7_5_1 c7_5_2 c7_6_0 c7_6_1 c7_6_2 c7_6_3 bel7 zc7_0 zc7_1 zc7_2 zc7_3 zc7_4 zc7_5 zc7_6
  have mkq1 : ∀ w', Below W1.heap.size W1 w' → (Below W1.heap.size W1 w' ∧ b4 w' w.heap.size n a0 a1 a2 ∧ b6 w' (w.heap.size + 1) x0 x1 x2 x3 x4 x5 ∧ b3 w' (w.heap.size + 1 + 1) s0 s1 s2 ∧ b3 w' (w.heap.size + 1 + 1 + 1) c0 c1 c2 ∧ b6 w' t1.heap.size 0 0 0 0 0 0 ∧ b3 w' t2.heap.size z0 z1 z2 ∧ b4 w' t3.heap.size 0 0 0 0) := fun w' h => ⟨h, b4.later h ⟨g1_0_0, g1_0_1, g1_0_2, g1_0_3⟩, b6.later h ⟨g1_1_0, g1_1_1, g1_1_2, g1_1_3, g1_1_4, g1_1_5⟩, b3.later h ⟨g1_2_0, g1_2_1, g1_2_2⟩, b3.later h ⟨g1_3_0, g1_3_1, g1_3_2⟩, b6.later h ⟨g1_4_0, g1_4_1, g1_4_2, g1_4_3, g1_4_4, g1_4_5⟩, b3.later h ⟨g1_5_0, g1_5_1, g1_5_2⟩, b4.later h ⟨g1_6_0, g1_6_1, g1_6_2, g1_6_3⟩⟩
  refine wp_region_held_drew (S := fun w' => Below W1.heap.size W1 w' ∧ b4 w' w.heap.size n a0 a1 a2 ∧ b6 w' (w.heap.size + 1) x0 x1 x2 x3 x4 x5 ∧ b3 w' (w.heap.size + 1 + 1) s0 s1 s2 ∧ b3 w' (w.heap.size + 1 + 1 + 1) c0 c1 c2 ∧ b6 w' t1.heap.size 0 0 0 0 0 0 ∧ b3 w' t2.heap.size z0 z1 z2 ∧ b4 w' t3.heap.size 0 0 0 0) (by kernel_rfl) (mkq1 _ ((Below.refl _ _).drew)) (fun hHeld => ?_)
  refine tkZ 0 ?_ rfl ?_ ?_
  rotate_left
  · intro w _; go_simp <;> with_reducible rfl
  try simp only [Act.put, pSa, pSb, pSc]
  refine tkZ 1 ?_ rfl ?_ ?_
  rotate_left
  · intro w _; go_simp <;> with_reducible rfl
  try simp only [Act.put, pSa, pSb, pSc]
  refine tkZ 2 ?_ rfl ?_ ?_
  rotate_left
  · intro w _; go_simp <;> with_reducible rfl
  try simp only [Act.put, pSa, pSb, pSc]
  refine tkZ 3 ?_ rfl ?_ ?_
  rotate_left
  · intro w _; go_simp <;> with_reducible rfl
  try simp only [Act.put, pSa, pSb, pSc]
  refine tkZ 4 ?_ rfl ?_ ?_
  rotate_left
  · intro w _; go_simp <;> with_reducible rfl
  try simp only [Act.put, pSa, pSb, pSc]
  refine tkZ 5 ?_ rfl ?_ ?_
  rotate_left
  · intro w _; go_simp <;> with_reducible rfl
  try simp only [Act.put, pSa, pSb, pSc]
  refine tkZ 6 ?_ rfl ?_ ?_
  rotate_left
  · intro w _; go_simp <;> with_reducible rfl
  try simp only [Act.put, pSa, pSb, pSc]
  refine tnZ 7 rfl ?_
  try simp only [Act.put, pSa, pSb, pSc]
  refine tnZ 8 rfl ?_
  try simp only [Act.put, pSa, pSb, pSc]
  refine tnZ 9 rfl ?_
  try simp only [Act.put, pSa, pSb, pSc]
  refine tnZ 10 rfl ?_
  try simp only [Act.put, pSa, pSb, pSc]
  refine tnZ 11 rfl ?_
  try simp only [Act.put, pSa, pSb, pSc]
  refine tkZ 12 ?_ rfl ?_ ?_
  rotate_left
  · intro w _; go_simp <;> with_reducible rfl
  try simp only [Act.put, pSa, pSb, pSc]
  refine tkZ 13 ?_ rfl ?_ ?_
  rotate_left
  · intro w _; go_simp <;> with_reducible rfl
  try simp only [Act.put, pSa, pSb, pSc]
  refine tkZ 14 ?_ rfl ?_ ?_
  rotate_left
  · intro w _; go_simp <;> with_reducible rfl
  try simp only [Act.put, pSa, pSb, pSc]
  refine tkZ 15 ?_ rfl ?_ ?_
  rotate_left
  · intro w _; go_simp <;> with_reducible rfl
  try simp only [Act.put, pSa, pSb, pSc]
  refine tkZ 16 ?_ rfl ?_ ?_
  rotate_left
  · intro w _; go_simp <;> with_reducible rfl
  try simp only [Act.put, pSa, pSb, pSc]
  refine tkZ 17 ?_ rfl ?_ ?_
  rotate_left
  · intro w _; go_simp <;> with_reducible rfl
  try simp only [Act.put, pSa, pSb, pSc]
  refine tkZ 18 ?_ rfl ?_ ?_
  rotate_left
  · intro w h; simp only [b3, b4, b6, cE] at h; go_simp <;> with_reducible rfl
  try simp only [Act.put, pSa, pSb, pSc]
  refine tkZ 19 ?_ rfl ?_ ?_
  rotate_left
  · intro w _; go_simp <;> with_reducible rfl
  try simp only [Act.put, pSa, pSb, pSc]
  refine tkZ 20 ?_ rfl ?_ ?_
  rotate_left
  · intro w _; go_simp <;> with_reducible rfl
  try simp only [Act.put, pSa, pSb, pSc]
  refine tkZ 21 ?_ rfl ?_ ?_
  rotate_left
  · intro w _; go_simp <;> with_reducible rfl
  try simp only [Act.put, pSa, pSb, pSc]
  refine tkZ 22 ?_ rfl ?_ ?_
  rotate_left
  · intro w _; go_simp <;> with_reducible rfl
  try simp only [Act.put, pSa, pSb, pSc]
  refine wpAnyH_done (by kernel_rfl) ?_ _
  have belq1 := b_step gb1 hHeld.1 gb1.size
  obtain ⟨-, ⟨h1_0_0, h1_0_1, h1_0_2, h1_0_3⟩, ⟨h1_1_0, h1_1_1, h1_1_2, h1_1_3, h1_1_4, h1_1_5⟩, ⟨h1_2_0, h1_2_1, h1_2_2⟩, ⟨h1_3_0, h1_3_1, h1_3_2⟩, ⟨h1_4_0, h1_4_1, h1_4_2, h1_4_3, h1_4_4, h1_4_5⟩, ⟨h1_5_0, h1_5_1, h1_5_2⟩, ⟨h1_6_0, h1_6_1, h1_6_2, h1_6_3⟩⟩ := hHeld
  clear gb1 mkq1 g1_0_0 g1_0_1 g1_0_2 g1_0_3 g1_1_0 g1_1_1 g1_1_2 g1_1_3 g1_1_4 g1_1_5 g1_2_0 g1_2_1 g1_2_2 g1_3_0 g1_3_1 g1_3_2 g1_4_0 g1_4_1 g1_4_2 g1_4_3 g1_4_4 g1_4_5 g1_5_0 g1_5_1 g1_5_2 g1_6_0 g1_6_1 g1_6_2 g1_6_3
  have zh1_0 := ltc h1_0_0
  have zh1_1 := ltc h1_1_0
  have zh1_2 := ltc h1_2_0
  have zh1_3 := ltc h1_3_0
  have zh1_4 := ltc h1_4_0
  have zh1_5 := ltc h1_5_0
  have zh1_6 := ltc h1_6_0
  go_wp2_with fail
  go_at_call 20
  (with_reducible refine (Hz _).mono ?_)
  rintro e t8 ⟨rfl, y8⟩
  obtain ⟨⟨c8_0_0, c8_0_1, c8_0_2, c8_0_3⟩, ⟨c8_1_0, c8_1_1, c8_1_2, c8_1_3, c8_1_4, c8_1_5⟩, ⟨c8_2_0, c8_2_1, c8_2_2⟩, ⟨c8_3_0, c8_3_1, c8_3_2⟩, ⟨c8_4_0, c8_4_1, c8_4_2⟩, ⟨c8_5_0, c8_5_1, c8_5_2, c8_5_3⟩, bel8⟩ : b4 t8 w.heap.size n a0 a1 a2 ∧ b6 t8 (w.heap.size + 1) x0 x1 x2 x3 x4 x5 ∧ b3 t8 (w.heap.size + 1 + 1) s0 s1 s2 ∧ b3 t8 (w.heap.size + 1 + 1 + 1) c0 c1 c2 ∧ b3 t8 t2.heap.size z0 z1 z2 ∧ b4 t8 t3.heap.size 0 0 0 0 ∧ Below w.heap.size w t8 := by
    refine ⟨?_, ?_, ?_, ?_, ?_, ?_, bs0 belq1 y8⟩ <;> (repeat' apply And.intro) <;> exact cell_later y8 (by (first | assumption | exact c_alloc (by assumption) | exact c_at rfl rfl))
  clear y8 h1_0_0 h1_0_1 h1_0_2 h1_0_3 h1_1_0 h1_1_1 h1_1_2 h1_1_3 h1_1_4 h1_1_5 h1_2_0 h1_2_1 h1_2_2 h1_3_0 h1_3_1 h1_3_2 h1_4_0 h1_4_1 h1_4_2 h1_4_3 h1_4_4 h1_4_5 h1_5_0 h1_5_1 h1_5_2 h1_6_0 h1_6_1 h1_6_2 h1_6_3 belq1 zh1_0 zh1_1 zh1_2 zh1_3 zh1_4 zh1_5 zh1_6
  have zc8_0 := ltc c8_0_0
  have zc8_1 := ltc c8_1_0
  have zc8_2 := ltc c8_2_0
  have zc8_3 := ltc c8_3_0
  have zc8_4 := ltc c8_4_0
  have zc8_5 := ltc c8_5_0
  go_upto_region 15 with fail
  refine gen_world (F := fun W2 => b4 W2 w.heap.size n a0 a1 a2 ∧ b6 W2 (w.heap.size + 1) x0 x1 x2 x3 x4 x5 ∧ b3 W2 (w.heap.size + 1 + 1) s0 s1 s2 ∧ b3 W2 (w.heap.size + 1 + 1 + 1) c0 c1 c2 ∧ b3 W2 t2.heap.size z0 z1 z2 ∧ b4 W2 t3.heap.size 0 0 0 0 ∧ Below w.heap.size w W2) ?_ (fun W2 hW => ?_)
  · refine ⟨?_, ?_, ?_, ?_, ?_, ?_, bel8⟩ <;> (repeat' apply And.intro) <;> (first | assumption | exact c_alloc (by assumption) | exact c_at rfl rfl)
  obtain ⟨⟨g2_0_0, g2_0_1, g2_0_2, g2_0_3⟩, ⟨g2_1_0, g2_1_1, g2_1_2, g2_1_3, g2_1_4, g2_1_5⟩, ⟨g2_2_0, g2_2_1, g2_2_2⟩, ⟨g2_3_0, g2_3_1, g2_3_2⟩, ⟨g2_4_0, g2_4_1, g2_4_2⟩, ⟨g2_5_0, g2_5_1, g2_5_2, g2_5_3⟩, gb2⟩ := hW
  clear c8_0_0 c8_0_1 c8_0_2 c8_0_3 c8_1_0 c8_1_1 c8_1_2 c8_1_3 c8_1_4 c8_1_5 c8_2_0 c8_2_1 c8_2_2 c8_3_0 c8_3_1 c8_3_2 c8_4_0 c8_4_1 c8_4_2 c8_5_0 c8_5_1 c8_5_2 c8_5_3 bel8 zc8_0 zc8_1 zc8_2 zc8_3 zc8_4 zc8_5
  have mkq2 : ∀ w', Below W2.heap.size W2 w' → (Below W2.heap.size W2 w' ∧ b4 w' w.heap.size n a0 a1 a2 ∧ b6 w' (w.heap.size + 1) x0 x1 x2 x3 x4 x5 ∧ b3 w' (w.heap.size + 1 + 1) s0 s1 s2 ∧ b3 w' (w.heap.size + 1 + 1 + 1) c0 c1 c2 ∧ b3 w' t2.heap.size z0 z1 z2 ∧ b4 w' t3.heap.size 0 0 0 0) := fun w' h => ⟨h, b4.later h ⟨g2_0_0, g2_0_1, g2_0_2, g2_0_3⟩, b6.later h ⟨g2_1_0, g2_1_1, g2_1_2, g2_1_3, g2_1_4, g2_1_5⟩, b3.later h ⟨g2_2_0, g2_2_1, g2_2_2⟩, b3.later h ⟨g2_3_0, g2_3_1, g2_3_2⟩, b3.later h ⟨g2_4_0, g2_4_1, g2_4_2⟩, b4.later h ⟨g2_5_0, g2_5_1, g2_5_2, g2_5_3⟩⟩
  refine wp_region_held_drew (S := fun w' => Below W2.heap.size W2 w' ∧ b4 w' w.heap.size n a0 a1 a2 ∧ b6 w' (w.heap.size + 1) x0 x1 x2 x3 x4 x5 ∧ b3 w' (w.heap.size + 1 + 1) s0 s1 s2 ∧ b3 w' (w.heap.size + 1 + 1 + 1) c0 c1 c2 ∧ b3 w' t2.heap.size z0 z1 z2 ∧ b4 w' t3.heap.size 0 0 0 0) (by kernel_rfl) (mkq2 _ ((Below.refl _ _).drew)) (fun hHeld => ?_)
  refine tkZ 0 ?_ rfl ?_ ?_
  rotate_left
  · intro w _; go_simp <;> with_reducible rfl
  try simp only [Act.put, pSa, pSb, pSc]
  refine tkZ 1 ?_ rfl ?_ ?_
  rotate_left
  · intro w _; go_simp <;> with_reducible rfl
  try simp only [Act.put, pSa, pSb, pSc]
  refine tkZ 2 ?_ rfl ?_ ?_
  rotate_left
  · intro w _; go_simp <;> with_reducible rfl
  try simp only [Act.put, pSa, pSb, pSc]
  refine tkZ 3 ?_ rfl ?_ ?_
  rotate_left
  · intro w h; simp only [b3, b4, b6, cE] at h; go_simp <;> with_reducible rfl
  try simp only [Act.put, pSa, pSb, pSc]
  refine tkZ 4 ?_ rfl ?_ ?_
  rotate_left
  · intro w _; go_simp <;> with_reducible rfl
  try simp only [Act.put, pSa, pSb, pSc]
  refine tkZ 5 ?_ rfl ?_ ?_
  rotate_left
  · intro w h; simp only [b3, b4, b6, cE] at h; go_simp <;> with_reducible rfl
  try simp only [Act.put, pSa, pSb, pSc]
  refine tkZ 6 ?_ rfl ?_ ?_
  rotate_left
  · intro w h; simp only [b3, b4, b6, cE] at h; go_simp <;> with_reducible rfl
  try simp only [Act.put, pSa, pSb, pSc]
  refine rOne 7 rfl (fun K hK => ?_)
  go_simp
  go_at_call 21
  (with_reducible refine (R2 _).mono ?_)
  rintro e rq21 ⟨rfl, zq21⟩
  go_wp2_with fail
  refine hK.out _ _ (mkq2 _ (b_step hHeld.1 zq21 hHeld.1.size)) (fun hHeld2 => ?_)
  clear hK K hHeld
  have hHeld := hHeld2
  clear hHeld2
  (try simp only [Act.put, pSa, pSb, pSc])
  refine tkZ 8 ?_ rfl ?_ ?_
  rotate_left
  · intro w _; go_simp <;> with_reducible rfl
  try simp only [Act.put, pSa, pSb, pSc]
  refine tkZ 9 ?_ rfl ?_ ?_
  rotate_left
  · intro w _; go_simp <;> with_reducible rfl
  try simp only [Act.put, pSa, pSb, pSc]
  refine wpAnyH_done (by kernel_rfl) ?_ _
  have belq2 := b_step gb2 hHeld.1 gb2.size
  obtain ⟨-, ⟨h2_0_0, h2_0_1, h2_0_2, h2_0_3⟩, ⟨h2_1_0, h2_1_1, h2_1_2, h2_1_3, h2_1_4, h2_1_5⟩, ⟨h2_2_0, h2_2_1, h2_2_2⟩, ⟨h2_3_0, h2_3_1, h2_3_2⟩, ⟨h2_4_0, h2_4_1, h2_4_2⟩, ⟨h2_5_0, h2_5_1, h2_5_2, h2_5_3⟩⟩ := hHeld
  clear gb2 mkq2 g2_0_0 g2_0_1 g2_0_2 g2_0_3 g2_1_0 g2_1_1 g2_1_2 g2_1_3 g2_1_4 g2_1_5 g2_2_0 g2_2_1 g2_2_2 g2_3_0 g2_3_1 g2_3_2 g2_4_0 g2_4_1 g2_4_2 g2_5_0 g2_5_1 g2_5_2 g2_5_3
  have zh2_0 := ltc h2_0_0
  have zh2_1 := ltc h2_1_0
  have zh2_2 := ltc h2_2_0
  have zh2_3 := ltc h2_3_0
  have zh2_4 := ltc h2_4_0
  have zh2_5 := ltc h2_5_0
  go_wp2_with fail
  go_at_call 17
  (with_reducible refine (Nc _).mono ?_)
  rintro e t9 ⟨rfl, y9⟩
  obtain ⟨⟨c9_0_0, c9_0_1, c9_0_2, c9_0_3⟩, ⟨c9_1_0, c9_1_1, c9_1_2, c9_1_3, c9_1_4, c9_1_5⟩, ⟨c9_2_0, c9_2_1, c9_2_2⟩, ⟨c9_3_0, c9_3_1, c9_3_2⟩, ⟨c9_4_0, c9_4_1, c9_4_2⟩, ⟨c9_5_0, c9_5_1, c9_5_2, c9_5_3⟩, bel9⟩ : b4 t9 w.heap.size n a0 a1 a2 ∧ b6 t9 (w.heap.size + 1) x0 x1 x2 x3 x4 x5 ∧ b3 t9 (w.heap.size + 1 + 1) s0 s1 s2 ∧ b3 t9 (w.heap.size + 1 + 1 + 1) c0 c1 c2 ∧ b3 t9 t2.heap.size z0 z1 z2 ∧ b4 t9 t3.heap.size 0 0 0 0 ∧ Below w.heap.size w t9 := by
    refine ⟨?_, ?_, ?_, ?_, ?_, ?_, bs0 belq2 y9⟩ <;> (repeat' apply And.intro) <;> exact cell_later y9 (by (first | assumption | exact c_alloc (by assumption) | exact c_at rfl rfl))
  clear y9 h2_0_0 h2_0_1 h2_0_2 h2_0_3 h2_1_0 h2_1_1 h2_1_2 h2_1_3 h2_1_4 h2_1_5 h2_2_0 h2_2_1 h2_2_2 h2_3_0 h2_3_1 h2_3_2 h2_4_0 h2_4_1 h2_4_2 h2_5_0 h2_5_1 h2_5_2 h2_5_3 belq2 zh2_0 zh2_1 zh2_2 zh2_3 zh2_4 zh2_5
  have zc9_0 := ltc c9_0_0
  have zc9_1 := ltc c9_1_0
  have zc9_2 := ltc c9_2_0
  have zc9_3 := ltc c9_3_0
  have zc9_4 := ltc c9_4_0
  have zc9_5 := ltc c9_5_0
  go_wp2_with fail
  go_at_call 22
  (with_reducible refine (Hp _).mono ?_)
  rintro e t10 ⟨rfl, y10⟩
  obtain ⟨⟨c10_0_0, c10_0_1, c10_0_2, c10_0_3⟩, ⟨c10_1_0, c10_1_1, c10_1_2, c10_1_3, c10_1_4, c10_1_5⟩, ⟨c10_2_0, c10_2_1, c10_2_2⟩, ⟨c10_3_0, c10_3_1, c10_3_2⟩, ⟨c10_4_0, c10_4_1, c10_4_2⟩, ⟨c10_5_0, c10_5_1, c10_5_2, c10_5_3⟩, bel10⟩ : b4 t10 w.heap.size n a0 a1 a2 ∧ b6 t10 (w.heap.size + 1) x0 x1 x2 x3 x4 x5 ∧ b3 t10 (w.heap.size + 1 + 1) s0 s1 s2 ∧ b3 t10 (w.heap.size + 1 + 1 + 1) c0 c1 c2 ∧ b3 t10 t2.heap.size z0 z1 z2 ∧ b4 t10 t3.heap.size 0 0 0 0 ∧ Below w.heap.size w t10 := by
    refine ⟨?_, ?_, ?_, ?_, ?_, ?_, bs0 bel9 y10⟩ <;> (repeat' apply And.intro) <;> exact cell_later y10 (by (first | assumption | exact c_alloc (by assumption) | exact c_at rfl rfl))
  clear y10 c9_0_0 c9_0_1 c9_0_2 c9_0_3 c9_1_0 c9_1_1 c9_1_2 c9_1_3 c9_1_4 c9_1_5 c9_2_0 c9_2_1 c9_2_2 c9_3_0 c9_3_1 c9_3_2 c9_4_0 c9_4_1 c9_4_2 c9_5_0 c9_5_1 c9_5_2 c9_5_3 bel9 zc9_0 zc9_1 zc9_2 zc9_3 zc9_4 zc9_5
  have zc10_0 := ltc c10_0_0
  have zc10_1 := ltc c10_1_0
  have zc10_2 := ltc c10_2_0
  have zc10_3 := ltc c10_3_0
  have zc10_4 := ltc c10_4_0
  have zc10_5 := ltc c10_5_0
  go_wp2_with fail
  go_at_call 17
  (with_reducible refine (Np _).mono ?_)
  rintro e t11 ⟨rfl, y11⟩
  obtain ⟨⟨c11_0_0, c11_0_1, c11_0_2, c11_0_3⟩, ⟨c11_1_0, c11_1_1, c11_1_2, c11_1_3, c11_1_4, c11_1_5⟩, ⟨c11_2_0, c11_2_1, c11_2_2⟩, ⟨c11_3_0, c11_3_1, c11_3_2⟩, ⟨c11_4_0, c11_4_1, c11_4_2⟩, ⟨c11_5_0, c11_5_1, c11_5_2, c11_5_3⟩, bel11⟩ : b4 t11 w.heap.size n a0 a1 a2 ∧ b6 t11 (w.heap.size + 1) x0 x1 x2 x3 x4 x5 ∧ b3 t11 (w.heap.size + 1 + 1) s0 s1 s2 ∧ b3 t11 (w.heap.size + 1 + 1 + 1) c0 c1 c2 ∧ b3 t11 t2.heap.size z0 z1 z2 ∧ b4 t11 t3.heap.size 0 0 0 0 ∧ Below w.heap.size w t11 := by
    refine ⟨?_, ?_, ?_, ?_, ?_, ?_, bs0 bel10 y11⟩ <;> (repeat' apply And.intro) <;> exact cell_later y11 (by (first | assumption | exact c_alloc (by assumption) | exact c_at rfl rfl))
  clear y11 c10_0_0 c10_0_1 c10_0_2 c10_0_3 c10_1_0 c10_1_1 c10_1_2 c10_1_3 c10_1_4 c10_1_5 c10_2_0 c10_2_1 c10_2_2 c10_3_0 c10_3_1 c10_3_2 c10_4_0 c10_4_1 c10_4_2 c10_5_0 c10_5_1 c10_5_2 c10_5_3 bel10 zc10_0 zc10_1 zc10_2 zc10_3 zc10_4 zc10_5
  have zc11_0 := ltc c11_0_0
  have zc11_1 := ltc c11_1_0
  have zc11_2 := ltc c11_2_0
  have zc11_3 := ltc c11_3_0
  have zc11_4 := ltc c11_4_0
  have zc11_5 := ltc c11_5_0
  go_upto_region 20 with fail
  refine gen_world (F := fun W3 => b4 W3 w.heap.size n a0 a1 a2 ∧ b6 W3 (w.heap.size + 1) x0 x1 x2 x3 x4 x5 ∧ b3 W3 (w.heap.size + 1 + 1) s0 s1 s2 ∧ b3 W3 (w.heap.size + 1 + 1 + 1) c0 c1 c2 ∧ b3 W3 t2.heap.size z0 z1 z2 ∧ b4 W3 t3.heap.size 0 0 0 0 ∧ Below w.heap.size w W3) ?_ (fun W3 hW => ?_)
  · refine ⟨?_, ?_, ?_, ?_, ?_, ?_, bel11⟩ <;> (repeat' apply And.intro) <;> (first | assumption | exact c_alloc (by assumption) | exact c_at rfl rfl)
  obtain ⟨⟨g3_0_0, g3_0_1, g3_0_2, g3_0_3⟩, ⟨g3_1_0, g3_1_1, g3_1_2, g3_1_3, g3_1_4, g3_1_5⟩, ⟨g3_2_0, g3_2_1, g3_2_2⟩, ⟨g3_3_0, g3_3_1, g3_3_2⟩, ⟨g3_4_0, g3_4_1, g3_4_2⟩, ⟨g3_5_0, g3_5_1, g3_5_2, g3_5_3⟩, gb3⟩ := hW
  clear c11_0_0 c11_0_1 c11_0_2 c11_0_3 c11_1_0 c11_1_1 c11_1_2 c11_1_3 c11_1_4 c11_1_5 c11_2_0 c11_2_1 c11_2_2 c11_3_0 c11_3_1 c11_3_2 c11_4_0 c11_4_1 c11_4_2 c11_5_0 c11_5_1 c11_5_2 c11_5_3 bel11 zc11_0 zc11_1 zc11_2 zc11_3 zc11_4 zc11_5
  have mkq3 : ∀ w', Below W3.heap.size W3 w' → (Below W3.heap.size W3 w' ∧ b4 w' w.heap.size n a0 a1 a2 ∧ b6 w' (w.heap.size + 1) x0 x1 x2 x3 x4 x5 ∧ b3 w' (w.heap.size + 1 + 1) s0 s1 s2 ∧ b3 w' (w.heap.size + 1 + 1 + 1) c0 c1 c2 ∧ b3 w' t2.heap.size z0 z1 z2 ∧ b4 w' t3.heap.size 0 0 0 0) := fun w' h => ⟨h, b4.later h ⟨g3_0_0, g3_0_1, g3_0_2, g3_0_3⟩, b6.later h ⟨g3_1_0, g3_1_1, g3_1_2, g3_1_3, g3_1_4, g3_1_5⟩, b3.later h ⟨g3_2_0, g3_2_1, g3_2_2⟩, b3.later h ⟨g3_3_0, g3_3_1, g3_3_2⟩, b3.later h ⟨g3_4_0, g3_4_1, g3_4_2⟩, b4.later h ⟨g3_5_0, g3_5_1, g3_5_2, g3_5_3⟩⟩
  refine wp_region_held_drew (S := fun w' => Below W3.heap.size W3 w' ∧ b4 w' w.heap.size n a0 a1 a2 ∧ b6 w' (w.heap.size + 1) x0 x1 x2 x3 x4 x5 ∧ b3 w' (w.heap.size + 1 + 1) s0 s1 s2 ∧ b3 w' (w.heap.size + 1 + 1 + 1) c0 c1 c2 ∧ b3 w' t2.heap.size z0 z1 z2 ∧ b4 w' t3.heap.size 0 0 0 0) (by kernel_rfl) (mkq3 _ ((Below.refl _ _).drew)) (fun hHeld => ?_)
  refine rOne 0 rfl (fun K hK => ?_)
  go_simp
  go_at_call 15
  (with_reducible refine (Hq _ (b_step gb3 hHeld.1 gb3.size)).mono ?_)
  rintro e rq31 ⟨rfl, zq31⟩
  go_wp2_with fail
  refine hK.out _ _ (mkq3 _ (b_step hHeld.1 zq31 hHeld.1.size)) (fun hHeld2 => ?_)
  clear hK K hHeld
  have hHeld := hHeld2
  clear hHeld2
  (try simp only [Act.put, pSa, pSb, pSc])
  refine tkZ 1 ?_ rfl ?_ ?_
  rotate_left
  · intro w _; go_simp <;> with_reducible rfl
  try simp only [Act.put, pSa, pSb, pSc]
  refine tkZ 2 ?_ rfl ?_ ?_
  rotate_left
  · intro w _; go_simp <;> with_reducible rfl
  try simp only [Act.put, pSa, pSb, pSc]
  refine tkZ 3 ?_ rfl ?_ ?_
  rotate_left
  · intro w _; go_simp <;> with_reducible rfl
  try simp only [Act.put, pSa, pSb, pSc]
  refine tkZ 4 ?_ rfl ?_ ?_
  rotate_left
  · intro w _; go_simp <;> with_reducible rfl
  try simp only [Act.put, pSa, pSb, pSc]
  refine tkZ 5 ?_ rfl ?_ ?_
  rotate_left
  · intro w _; go_simp <;> with_reducible rfl
  try simp only [Act.put, pSa, pSb, pSc]
  refine tkZ 6 ?_ rfl ?_ ?_
  rotate_left
  · intro w _; go_simp <;> with_reducible rfl
  try simp only [Act.put, pSa, pSb, pSc]
  refine tkZ 7 ?_ rfl ?_ ?_
  rotate_left
  · intro w _; go_simp <;> with_reducible rfl
  try simp only [Act.put, pSa, pSb, pSc]
  refine tkZ 8 ?_ rfl ?_ ?_
  rotate_left
  · intro w _; go_simp <;> with_reducible rfl
  try simp only [Act.put, pSa, pSb, pSc]
  refine tkZ 9 ?_ rfl ?_ ?_
  rotate_left
  · intro w _; go_simp <;> with_reducible rfl
  try simp only [Act.put, pSa, pSb, pSc]
  refine tnZ 10 rfl ?_
  try simp only [Act.put, pSa, pSb, pSc]
  refine tnZ 11 rfl ?_
  try simp only [Act.put, pSa, pSb, pSc]
  refine tnZ 12 rfl ?_
  try simp only [Act.put, pSa, pSb, pSc]
  refine tnZ 13 rfl ?_
  try simp only [Act.put, pSa, pSb, pSc]
  refine tnZ 14 rfl ?_
  try simp only [Act.put, pSa, pSb, pSc]
  refine tnZ 15 rfl ?_
  try simp only [Act.put, pSa, pSb, pSc]
  refine tnZ 16 rfl ?_
  try simp only [Act.put, pSa, pSb, pSc]
  refine tkZ 17 ?_ rfl ?_ ?_
  rotate_left
  · intro w _; go_simp <;> with_reducible rfl
  try simp only [Act.put, pSa, pSb, pSc]
  refine tkZ 18 ?_ rfl ?_ ?_
  rotate_left
  · intro w _; go_simp <;> with_reducible rfl
  try simp only [Act.put, pSa, pSb, pSc]
  refine tkZ 19 ?_ rfl ?_ ?_
  rotate_left
  · intro w _; go_simp <;> with_reducible rfl
  try simp only [Act.put, pSa, pSb, pSc]
  refine tkZ 20 ?_ rfl ?_ ?_
  rotate_left
  · intro w _; go_simp <;> with_reducible rfl
  try simp only [Act.put, pSa, pSb, pSc]
  refine tkZ 21 ?_ rfl ?_ ?_
  rotate_left
  · intro w _; go_simp <;> with_reducible rfl
  try simp only [Act.put, pSa, pSb, pSc]
  refine tkZ 22 ?_ rfl ?_ ?_
  rotate_left
  · intro w h; simp only [b3, b4, b6, cE] at h; go_simp <;> with_reducible rfl
  try simp only [Act.put, pSa, pSb, pSc]
  refine tkZ 23 ?_ rfl ?_ ?_
  rotate_left
  · intro w _; go_simp <;> with_reducible rfl
  try simp only [Act.put, pSa, pSb, pSc]
  refine tkZ 24 ?_ rfl ?_ ?_
  rotate_left
  · intro w _; go_simp <;> with_reducible rfl
  try simp only [Act.put, pSa, pSb, pSc]
  refine tkZ 25 ?_ rfl ?_ ?_
  rotate_left
  · intro w _; go_simp <;> with_reducible rfl
  try simp only [Act.put, pSa, pSb, pSc]
  refine tkZ 26 ?_ rfl ?_ ?_
  rotate_left
  · intro w _; go_simp <;> with_reducible rfl
  try simp only [Act.put, pSa, pSb, pSc]
  refine tkZ 27 ?_ rfl ?_ ?_
  rotate_left
  · intro w _; go_simp <;> with_reducible rfl
  try simp only [Act.put, pSa, pSb, pSc]
  refine tkZ 28 ?_ rfl ?_ ?_
  rotate_left
  · intro w _; go_simp <;> with_reducible rfl
  try simp only [Act.put, pSa, pSb, pSc]
  refine wpAnyH_done (by kernel_rfl) ?_ _
  have belq3 := b_step gb3 hHeld.1 gb3.size
  obtain ⟨-, ⟨h3_0_0, h3_0_1, h3_0_2, h3_0_3⟩, ⟨h3_1_0, h3_1_1, h3_1_2, h3_1_3, h3_1_4, h3_1_5⟩, ⟨h3_2_0, h3_2_1, h3_2_2⟩, ⟨h3_3_0, h3_3_1, h3_3_2⟩, ⟨h3_4_0, h3_4_1, h3_4_2⟩, ⟨h3_5_0, h3_5_1, h3_5_2, h3_5_3⟩⟩ := hHeld
  clear gb3 mkq3 g3_0_0 g3_0_1 g3_0_2 g3_0_3 g3_1_0 g3_1_1 g3_1_2 g3_1_3 g3_1_4 g3_1_5 g3_2_0 g3_2_1 g3_2_2 g3_3_0 g3_3_1 g3_3_2 g3_4_0 g3_4_1 g3_4_2 g3_5_0 g3_5_1 g3_5_2 g3_5_3
  have zh3_0 := ltc h3_0_0
  have zh3_1 := ltc h3_1_0
  have zh3_2 := ltc h3_2_0
  have zh3_3 := ltc h3_3_0
  have zh3_4 := ltc h3_4_0
  have zh3_5 := ltc h3_5_0
  go_wp2
  go_ret
  exact ⟨rfl, belq3⟩

set_option maxRecDepth 100000 in
set_option maxHeartbeats 16000000 in
theorem boxes_15 (n a0 a1 a2 x0 x1 x2 x3 x4 x5 s0 s1 s2 c0 c1 c2 u0 u1 u2 u3 u4 u5 z0 z1 z2 q0 q1 q2 p0 p1 p2 : Int) (w : World)
    (Hq : ∀ W, Below w.heap.size w W → Calls Tryd.prog 15 #[] W fun r w' => r = .returned (.bool true) ∧ Below W.heap.size W w')
    (H1 : ∀ w, Calls Tryd.prog 11 #[vP n a0 a1 a2, vB x0 x1 x2 x3 x4 x5] w fun r w' => r = .returned (.tuple #[vB 0 0 0 0 0 0, .int .i64 6]) ∧ Below w.heap.size w w')
    (H2 : ∀ w, Calls Tryd.prog 12 #[.int .i64 n, vV s0 s1 s2] w fun r w' => r = .returned (.tuple #[vV z0 z1 z2, .int .i64 0]) ∧ Below w.heap.size w w')
    (H3 : ∀ w, Calls Tryd.prog 13 #[.int .i64 n, vV s0 s1 s2, vV c0 c1 c2] w fun r w' => r = .returned (.tuple #[vP 0 0 0 0, .int .i64 6]) ∧ Below w.heap.size w w')
    (In : ∀ w, Calls Tryd.prog 14 #[.int .i64 n] w fun e w' => e = .returned (.bool true) ∧ w = w')
    (Hv : ∀ w, Calls Tryd.prog 16 #[vB x0 x1 x2 x3 x4 x5] w fun r w' => r = .returned (.bool true) ∧ Below w.heap.size w w')
    (Ns : ∀ w, Calls Tryd.prog 17 #[vV a0 a1 a2] w fun r w' => r = .returned (.bool true) ∧ Below w.heap.size w w')
    (R1 : ∀ w, Calls Tryd.prog 19 #[vP n a0 a1 a2, vB x0 x1 x2 x3 x4 x5] w fun r w' => r = .returned (vB u0 u1 u2 u3 u4 u5) ∧ Below w.heap.size w w')
    (Hi : ∀ w, Calls Tryd.prog 18 #[vB u0 u1 u2 u3 u4 u5] w fun r w' => r = .returned (.int .i64 6) ∧ Below w.heap.size w w')
    (Hz : ∀ w, Calls Tryd.prog 20 #[vV s0 s1 s2] w fun r w' => r = .returned (.bool true) ∧ Below w.heap.size w w')
    (R2 : ∀ w, Calls Tryd.prog 21 #[.int .i64 n, vV s0 s1 s2] w fun r w' => r = .returned (vV z0 z1 z2) ∧ Below w.heap.size w w')
    (Nc : ∀ w, Calls Tryd.prog 17 #[vV c0 c1 c2] w fun r w' => r = .returned (.bool true) ∧ Below w.heap.size w w')
    (Hp : ∀ w, Calls Tryd.prog 22 #[vV c0 c1 c2, vV z0 z1 z2] w fun r w' => r = .returned (vV p0 p1 p2) ∧ Below w.heap.size w w')
    (Np : ∀ w, Calls Tryd.prog 17 #[vV p0 p1 p2] w fun r w' => r = .returned (.bool true) ∧ Below w.heap.size w w')
    (R3 : ∀ w, Calls Tryd.prog 23 #[.int .i64 n, vV s0 s1 s2, vV c0 c1 c2] w fun r w' => r = .returned (vP n q0 q1 q2) ∧ Below w.heap.size w w')
    (Nq : ∀ w, Calls Tryd.prog 17 #[vV q0 q1 q2] w fun r w' => r = .returned (.bool false) ∧ Below w.heap.size w w') :
    Calls Tryd.prog 3 #[vP n a0 a1 a2, vB x0 x1 x2 x3 x4 x5, vV s0 s1 s2, vV c0 c1 c2] w fun e w' => e = .returned (.bool true) ∧ Below w.heap.size w w' := by
  have fP : ∀ (n x y z : Int) w, (Instr.field 25 (vP n x y z) 1).run Tryd.prog w = .ok (vV x y z) w := field_P1_W3c
  have ez : ∀ w, (binOp .neq 23 (vV z0 z1 z2) (vV z0 z1 z2)).run Tryd.prog w = .ok (.bool false) w := fun w => by rw [neq_V, decide_eq_true (by simp)]; rfl
  go_enter Tryd.func3, Tryd.ntmps3
  go_wp2_with fail
  go_at_call 11
  (with_reducible refine (H1 _).mono ?_)
  rintro e t1 ⟨rfl, y1⟩
  have hyy := y1.size
  (try simp only [World.size_alloc, World.size_setCell, World.size_drew] at hyy)
  obtain ⟨⟨c1_0_0, c1_0_1, c1_0_2, c1_0_3⟩, ⟨c1_1_0, c1_1_1, c1_1_2, c1_1_3, c1_1_4, c1_1_5⟩, ⟨c1_2_0, c1_2_1, c1_2_2⟩, ⟨c1_3_0, c1_3_1, c1_3_2⟩, bel1⟩ : b4 t1 w.heap.size n a0 a1 a2 ∧ b6 t1 (w.heap.size + 1) x0 x1 x2 x3 x4 x5 ∧ b3 t1 (w.heap.size + 1 + 1) s0 s1 s2 ∧ b3 t1 (w.heap.size + 1 + 1 + 1) c0 c1 c2 ∧ Below w.heap.size w t1 := by
    refine ⟨?_, ?_, ?_, ?_, b_step (by (repeat' (first | (with_reducible assumption) | (with_reducible exact Below.refl _ _) | (with_reducible refine Below.alloc ?_ ?_ _) | (with_reducible refine Below.drew ?_) | (with_reducible refine Below.setCell ?_ ?_ _) | (with_reducible refine b_step ?_ (by assumption) ?_) | omega | (simp only [World.size_alloc, World.size_setCell, World.size_drew]; omega)))) y1 (by simp only [World.size_alloc, World.size_setCell, World.size_drew]; omega)⟩ <;> (repeat' apply And.intro) <;> exact cell_later y1 (by (simp (disch := first | omega | (simp only [World.size_alloc, World.size_setCell, World.size_drew]; done) | (simp only [World.size_alloc, World.size_setCell, World.size_drew]; omega)) only [*, r_set_same, r_set_off, r_set_blk, r_set_f, r_alloc_at, r_alloc_past, r_falloc_at, r_falloc_past, World.cell?_drew, World.frozen?_drew, Option.map_some, List.getElem?_toArray, List.getElem?_cons_zero, List.getElem?_cons_succ]; done))
  clear hyy y1 
  have zc1_0 := ltc c1_0_0
  have zc1_1 := ltc c1_1_0
  have zc1_2 := ltc c1_2_0
  have zc1_3 := ltc c1_3_0
  go_wp2_with fail
  go_at_call 12
  (with_reducible refine (H2 _).mono ?_)
  rintro e t2 ⟨rfl, y2⟩
  obtain ⟨⟨c2_0_0, c2_0_1, c2_0_2, c2_0_3⟩, ⟨c2_1_0, c2_1_1, c2_1_2, c2_1_3, c2_1_4, c2_1_5⟩, ⟨c2_2_0, c2_2_1, c2_2_2⟩, ⟨c2_3_0, c2_3_1, c2_3_2⟩, ⟨c2_4_0, c2_4_1, c2_4_2, c2_4_3, c2_4_4, c2_4_5⟩, bel2⟩ : b4 t2 w.heap.size n a0 a1 a2 ∧ b6 t2 (w.heap.size + 1) x0 x1 x2 x3 x4 x5 ∧ b3 t2 (w.heap.size + 1 + 1) s0 s1 s2 ∧ b3 t2 (w.heap.size + 1 + 1 + 1) c0 c1 c2 ∧ b6 t2 t1.heap.size 0 0 0 0 0 0 ∧ Below w.heap.size w t2 := by
    refine ⟨?_, ?_, ?_, ?_, ?_, bs1 bel1 y2⟩ <;> (repeat' apply And.intro) <;> exact cell_later y2 (by (first | assumption | exact c_alloc (by assumption) | exact c_at rfl rfl))
  clear y2 c1_0_0 c1_0_1 c1_0_2 c1_0_3 c1_1_0 c1_1_1 c1_1_2 c1_1_3 c1_1_4 c1_1_5 c1_2_0 c1_2_1 c1_2_2 c1_3_0 c1_3_1 c1_3_2 bel1 zc1_0 zc1_1 zc1_2 zc1_3
  have zc2_0 := ltc c2_0_0
  have zc2_1 := ltc c2_1_0
  have zc2_2 := ltc c2_2_0
  have zc2_3 := ltc c2_3_0
  have zc2_4 := ltc c2_4_0
  go_wp2_with fail
  go_at_call 13
  (with_reducible refine (H3 _).mono ?_)
  rintro e t3 ⟨rfl, y3⟩
  obtain ⟨⟨c3_0_0, c3_0_1, c3_0_2, c3_0_3⟩, ⟨c3_1_0, c3_1_1, c3_1_2, c3_1_3, c3_1_4, c3_1_5⟩, ⟨c3_2_0, c3_2_1, c3_2_2⟩, ⟨c3_3_0, c3_3_1, c3_3_2⟩, ⟨c3_4_0, c3_4_1, c3_4_2, c3_4_3, c3_4_4, c3_4_5⟩, ⟨c3_5_0, c3_5_1, c3_5_2⟩, bel3⟩ : b4 t3 w.heap.size n a0 a1 a2 ∧ b6 t3 (w.heap.size + 1) x0 x1 x2 x3 x4 x5 ∧ b3 t3 (w.heap.size + 1 + 1) s0 s1 s2 ∧ b3 t3 (w.heap.size + 1 + 1 + 1) c0 c1 c2 ∧ b6 t3 t1.heap.size 0 0 0 0 0 0 ∧ b3 t3 t2.heap.size z0 z1 z2 ∧ Below w.heap.size w t3 := by
    refine ⟨?_, ?_, ?_, ?_, ?_, ?_, bs1 bel2 y3⟩ <;> (repeat' apply And.intro) <;> exact cell_later y3 (by (first | assumption | exact c_alloc (by assumption) | exact c_at rfl rfl))
  clear y3 c2_0_0 c2_0_1 c2_0_2 c2_0_3 c2_1_0 c2_1_1 c2_1_2 c2_1_3 c2_1_4 c2_1_5 c2_2_0 c2_2_1 c2_2_2 c2_3_0 c2_3_1 c2_3_2 c2_4_0 c2_4_1 c2_4_2 c2_4_3 c2_4_4 c2_4_5 bel2 zc2_0 zc2_1 zc2_2 zc2_3 zc2_4
  have zc3_0 := ltc c3_0_0
  have zc3_1 := ltc c3_1_0
  have zc3_2 := ltc c3_2_0
  have zc3_3 := ltc c3_3_0
  have zc3_4 := ltc c3_4_0
  have zc3_5 := ltc c3_5_0
  go_wp2_with fail
  go_at_call 14
  (with_reducible refine (In _).mono ?_)
  rintro e tt ⟨rfl, rfl⟩
  go_wp2_with fail
  go_at_call 16
  (with_reducible refine (Hv _).mono ?_)
  rintro e t4 ⟨rfl, y4⟩
  obtain ⟨⟨c4_0_0, c4_0_1, c4_0_2, c4_0_3⟩, ⟨c4_1_0, c4_1_1, c4_1_2, c4_1_3, c4_1_4, c4_1_5⟩, ⟨c4_2_0, c4_2_1, c4_2_2⟩, ⟨c4_3_0, c4_3_1, c4_3_2⟩, ⟨c4_4_0, c4_4_1, c4_4_2, c4_4_3, c4_4_4, c4_4_5⟩, ⟨c4_5_0, c4_5_1, c4_5_2⟩, ⟨c4_6_0, c4_6_1, c4_6_2, c4_6_3⟩, bel4⟩ : b4 t4 w.heap.size n a0 a1 a2 ∧ b6 t4 (w.heap.size + 1) x0 x1 x2 x3 x4 x5 ∧ b3 t4 (w.heap.size + 1 + 1) s0 s1 s2 ∧ b3 t4 (w.heap.size + 1 + 1 + 1) c0 c1 c2 ∧ b6 t4 t1.heap.size 0 0 0 0 0 0 ∧ b3 t4 t2.heap.size z0 z1 z2 ∧ b4 t4 t3.heap.size 0 0 0 0 ∧ Below w.heap.size w t4 := by
    refine ⟨?_, ?_, ?_, ?_, ?_, ?_, ?_, bs1 bel3 y4⟩ <;> (repeat' apply And.intro) <;> exact cell_later y4 (by (first | assumption | exact c_alloc (by assumption) | exact c_at rfl rfl))
  clear y4 c3_0_0 c3_0_1 c3_0_2 c3_0_3 c3_1_0 c3_1_1 c3_1_2 c3_1_3 c3_1_4 c3_1_5 c3_2_0 c3_2_1 c3_2_2 c3_3_0 c3_3_1 c3_3_2 c3_4_0 c3_4_1 c3_4_2 c3_4_3 c3_4_4 c3_4_5 c3_5_0 c3_5_1 c3_5_2 bel3 zc3_0 zc3_1 zc3_2 zc3_3 zc3_4 zc3_5
  have zc4_0 := ltc c4_0_0
  have zc4_1 := ltc c4_1_0
  have zc4_2 := ltc c4_2_0
  have zc4_3 := ltc c4_3_0
  have zc4_4 := ltc c4_4_0
  have zc4_5 := ltc c4_5_0
  have zc4_6 := ltc c4_6_0
  go_wp2_with fail
  go_at_call 17
  (with_reducible refine (Ns _).mono ?_)
  rintro e t5 ⟨rfl, y5⟩
  obtain ⟨⟨c5_0_0, c5_0_1, c5_0_2, c5_0_3⟩, ⟨c5_1_0, c5_1_1, c5_1_2, c5_1_3, c5_1_4, c5_1_5⟩, ⟨c5_2_0, c5_2_1, c5_2_2⟩, ⟨c5_3_0, c5_3_1, c5_3_2⟩, ⟨c5_4_0, c5_4_1, c5_4_2, c5_4_3, c5_4_4, c5_4_5⟩, ⟨c5_5_0, c5_5_1, c5_5_2⟩, ⟨c5_6_0, c5_6_1, c5_6_2, c5_6_3⟩, bel5⟩ : b4 t5 w.heap.size n a0 a1 a2 ∧ b6 t5 (w.heap.size + 1) x0 x1 x2 x3 x4 x5 ∧ b3 t5 (w.heap.size + 1 + 1) s0 s1 s2 ∧ b3 t5 (w.heap.size + 1 + 1 + 1) c0 c1 c2 ∧ b6 t5 t1.heap.size 0 0 0 0 0 0 ∧ b3 t5 t2.heap.size z0 z1 z2 ∧ b4 t5 t3.heap.size 0 0 0 0 ∧ Below w.heap.size w t5 := by
    refine ⟨?_, ?_, ?_, ?_, ?_, ?_, ?_, bs0 bel4 y5⟩ <;> (repeat' apply And.intro) <;> exact cell_later y5 (by (first | assumption | exact c_alloc (by assumption) | exact c_at rfl rfl))
  clear y5 c4_0_0 c4_0_1 c4_0_2 c4_0_3 c4_1_0 c4_1_1 c4_1_2 c4_1_3 c4_1_4 c4_1_5 c4_2_0 c4_2_1 c4_2_2 c4_3_0 c4_3_1 c4_3_2 c4_4_0 c4_4_1 c4_4_2 c4_4_3 c4_4_4 c4_4_5 c4_5_0 c4_5_1 c4_5_2 c4_6_0 c4_6_1 c4_6_2 c4_6_3 bel4 zc4_0 zc4_1 zc4_2 zc4_3 zc4_4 zc4_5 zc4_6
  have zc5_0 := ltc c5_0_0
  have zc5_1 := ltc c5_1_0
  have zc5_2 := ltc c5_2_0
  have zc5_3 := ltc c5_3_0
  have zc5_4 := ltc c5_4_0
  have zc5_5 := ltc c5_5_0
  have zc5_6 := ltc c5_6_0
  go_wp2_with fail
  go_at_call 19
  (with_reducible refine (R1 _).mono ?_)
  rintro e t6 ⟨rfl, y6⟩
  obtain ⟨⟨c6_0_0, c6_0_1, c6_0_2, c6_0_3⟩, ⟨c6_1_0, c6_1_1, c6_1_2, c6_1_3, c6_1_4, c6_1_5⟩, ⟨c6_2_0, c6_2_1, c6_2_2⟩, ⟨c6_3_0, c6_3_1, c6_3_2⟩, ⟨c6_4_0, c6_4_1, c6_4_2, c6_4_3, c6_4_4, c6_4_5⟩, ⟨c6_5_0, c6_5_1, c6_5_2⟩, ⟨c6_6_0, c6_6_1, c6_6_2, c6_6_3⟩, bel6⟩ : b4 t6 w.heap.size n a0 a1 a2 ∧ b6 t6 (w.heap.size + 1) x0 x1 x2 x3 x4 x5 ∧ b3 t6 (w.heap.size + 1 + 1) s0 s1 s2 ∧ b3 t6 (w.heap.size + 1 + 1 + 1) c0 c1 c2 ∧ b6 t6 t1.heap.size 0 0 0 0 0 0 ∧ b3 t6 t2.heap.size z0 z1 z2 ∧ b4 t6 t3.heap.size 0 0 0 0 ∧ Below w.heap.size w t6 := by
    refine ⟨?_, ?_, ?_, ?_, ?_, ?_, ?_, bs0 bel5 y6⟩ <;> (repeat' apply And.intro) <;> exact cell_later y6 (by (first | assumption | exact c_alloc (by assumption) | exact c_at rfl rfl))
  clear y6 c5_0_0 c5_0_1 c5_0_2 c5_0_3 c5_1_0 c5_1_1 c5_1_2 c5_1_3 c5_1_4 c5_1_5 c5_2_0 c5_2_1 c5_2_2 c5_3_0 c5_3_1 c5_3_2 c5_4_0 c5_4_1 c5_4_2 c5_4_3 c5_4_4 c5_4_5 c5_5_0 c5_5_1 c5_5_2 c5_6_0 c5_6_1 c5_6_2 c5_6_3 bel5 zc5_0 zc5_1 zc5_2 zc5_3 zc5_4 zc5_5 zc5_6
  have zc6_0 := ltc c6_0_0
  have zc6_1 := ltc c6_1_0
  have zc6_2 := ltc c6_2_0
  have zc6_3 := ltc c6_3_0
  have zc6_4 := ltc c6_4_0
  have zc6_5 := ltc c6_5_0
  have zc6_6 := ltc c6_6_0
  go_wp2_with fail
  go_at_call 18
  (with_reducible refine (Hi _).mono ?_)
  rintro e t7 ⟨rfl, y7⟩
  obtain ⟨⟨c7_0_0, c7_0_1, c7_0_2, c7_0_3⟩, ⟨c7_1_0, c7_1_1, c7_1_2, c7_1_3, c7_1_4, c7_1_5⟩, ⟨c7_2_0, c7_2_1, c7_2_2⟩, ⟨c7_3_0, c7_3_1, c7_3_2⟩, ⟨c7_4_0, c7_4_1, c7_4_2, c7_4_3, c7_4_4, c7_4_5⟩, ⟨c7_5_0, c7_5_1, c7_5_2⟩, ⟨c7_6_0, c7_6_1, c7_6_2, c7_6_3⟩, bel7⟩ : b4 t7 w.heap.size n a0 a1 a2 ∧ b6 t7 (w.heap.size + 1) x0 x1 x2 x3 x4 x5 ∧ b3 t7 (w.heap.size + 1 + 1) s0 s1 s2 ∧ b3 t7 (w.heap.size + 1 + 1 + 1) c0 c1 c2 ∧ b6 t7 t1.heap.size 0 0 0 0 0 0 ∧ b3 t7 t2.heap.size z0 z1 z2 ∧ b4 t7 t3.heap.size 0 0 0 0 ∧ Below w.heap.size w t7 := by
    refine ⟨?_, ?_, ?_, ?_, ?_, ?_, ?_, bs0 bel6 y7⟩ <;> (repeat' apply And.intro) <;> exact cell_later y7 (by (first | assumption | exact c_alloc (by assumption) | exact c_at rfl rfl))
  clear y7 c6_0_0 c6_0_1 c6_0_2 c6_0_3 c6_1_0 c6_1_1 c6_1_2 c6_1_3 c6_1_4 c6_1_5 c6_2_0 c6_2_1 c6_2_2 c6_3_0 c6_3_1 c6_3_2 c6_4_0 c6_4_1 c6_4_2 c6_4_3 c6_4_4 c6_4_5 c6_5_0 c6_5_1 c6_5_2 c6_6_0 c6_6_1 c6_6_2 c6_6_3 bel6 zc6_0 zc6_1 zc6_2 zc6_3 zc6_4 zc6_5 zc6_6
  have zc7_0 := ltc c7_0_0
  have zc7_1 := ltc c7_1_0
  have zc7_2 := ltc c7_2_0
  have zc7_3 := ltc c7_3_0
  have zc7_4 := ltc c7_4_0
  have zc7_5 := ltc c7_5_0
  have zc7_6 := ltc c7_6_0
  go_upto_region 11 with fail
  refine gen_world (F := fun W1 => b4 W1 w.heap.size n a0 a1 a2 ∧ b6 W1 (w.heap.size + 1) x0 x1 x2 x3 x4 x5 ∧ b3 W1 (w.heap.size + 1 + 1) s0 s1 s2 ∧ b3 W1 (w.heap.size + 1 + 1 + 1) c0 c1 c2 ∧ b6 W1 t1.heap.size 0 0 0 0 0 0 ∧ b3 W1 t2.heap.size z0 z1 z2 ∧ b4 W1 t3.heap.size 0 0 0 0 ∧ Below w.heap.size w W1) ?_ (fun W1 hW => ?_)
  · refine ⟨?_, ?_, ?_, ?_, ?_, ?_, ?_, bel7⟩ <;> (repeat' apply And.intro) <;> (first | assumption | exact c_alloc (by assumption) | exact c_at rfl rfl)
  obtain ⟨⟨g1_0_0, g1_0_1, g1_0_2, g1_0_3⟩, ⟨g1_1_0, g1_1_1, g1_1_2, g1_1_3, g1_1_4, g1_1_5⟩, ⟨g1_2_0, g1_2_1, g1_2_2⟩, ⟨g1_3_0, g1_3_1, g1_3_2⟩, ⟨g1_4_0, g1_4_1, g1_4_2, g1_4_3, g1_4_4, g1_4_5⟩, ⟨g1_5_0, g1_5_1, g1_5_2⟩, ⟨g1_6_0, g1_6_1, g1_6_2, g1_6_3⟩, gb1⟩ := hW
  clear c7_0_0 c7_0_1 c7_0_2 c7_0_3 c7_1_0 c7_1_1 c7_1_2 c7_1_3 c7_1_4 c7_1_5 c7_2_0 c7_2_1 c7_2_2 c7_3_0 c7_3_1 c7_3_2 c7_4_0 c7_4_1 c7_4_2 c7_4_3 c7_4_4 c7_4_5 c7_5_0 c7_5_1 c7_5_2 c7_6_0 c7_6_1 c7_6_2 c7_6_3 bel7 zc7_0 zc7_1 zc7_2 zc7_3 zc7_4 zc7_5 zc7_6
  have mkq1 : ∀ w', Below W1.heap.size W1 w' → (Below W1.heap.size W1 w' ∧ b4 w' w.heap.size n a0 a1 a2 ∧ b6 w' (w.heap.size + 1) x0 x1 x2 x3 x4 x5 ∧ b3 w' (w.heap.size + 1 + 1) s0 s1 s2 ∧ b3 w' (w.heap.size + 1 + 1 + 1) c0 c1 c2 ∧ b6 w' t1.heap.size 0 0 0 0 0 0 ∧ b3 w' t2.heap.size z0 z1 z2 ∧ b4 w' t3.heap.size 0 0 0 0) := fun w' h => ⟨h, b4.later h ⟨g1_0_0, g1_0_1, g1_0_2, g1_0_3⟩, b6.later h ⟨g1_1_0, g1_1_1, g1_1_2, g1_1_3, g1_1_4, g1_1_5⟩, b3.later h ⟨g1_2_0, g1_2_1, g1_2_2⟩, b3.later h ⟨g1_3_0, g1_3_1, g1_3_2⟩, b6.later h ⟨g1_4_0, g1_4_1, g1_4_2, g1_4_3, g1_4_4, g1_4_5⟩, b3.later h ⟨g1_5_0, g1_5_1, g1_5_2⟩, b4.later h ⟨g1_6_0, g1_6_1, g1_6_2, g1_6_3⟩⟩
  refine wp_region_held_drew (S := fun w' => Below W1.heap.size W1 w' ∧ b4 w' w.heap.size n a0 a1 a2 ∧ b6 w' (w.heap.size + 1) x0 x1 x2 x3 x4 x5 ∧ b3 w' (w.heap.size + 1 + 1) s0 s1 s2 ∧ b3 w' (w.heap.size + 1 + 1 + 1) c0 c1 c2 ∧ b6 w' t1.heap.size 0 0 0 0 0 0 ∧ b3 w' t2.heap.size z0 z1 z2 ∧ b4 w' t3.heap.size 0 0 0 0) (by kernel_rfl) (mkq1 _ ((Below.refl _ _).drew)) (fun hHeld => ?_)
  refine tkZ 0 ?_ rfl ?_ ?_
  rotate_left
  · intro w _; go_simp <;> with_reducible rfl
  try simp only [Act.put, pSa, pSb, pSc]
  refine tkZ 1 ?_ rfl ?_ ?_
  rotate_left
  · intro w _; go_simp <;> with_reducible rfl
  try simp only [Act.put, pSa, pSb, pSc]
  refine tkZ 2 ?_ rfl ?_ ?_
  rotate_left
  · intro w _; go_simp <;> with_reducible rfl
  try simp only [Act.put, pSa, pSb, pSc]
  refine tkZ 3 ?_ rfl ?_ ?_
  rotate_left
  · intro w _; go_simp <;> with_reducible rfl
  try simp only [Act.put, pSa, pSb, pSc]
  refine tkZ 4 ?_ rfl ?_ ?_
  rotate_left
  · intro w _; go_simp <;> with_reducible rfl
  try simp only [Act.put, pSa, pSb, pSc]
  refine tkZ 5 ?_ rfl ?_ ?_
  rotate_left
  · intro w _; go_simp <;> with_reducible rfl
  try simp only [Act.put, pSa, pSb, pSc]
  refine tkZ 6 ?_ rfl ?_ ?_
  rotate_left
  · intro w _; go_simp <;> with_reducible rfl
  try simp only [Act.put, pSa, pSb, pSc]
  refine tnZ 7 rfl ?_
  try simp only [Act.put, pSa, pSb, pSc]
  refine tnZ 8 rfl ?_
  try simp only [Act.put, pSa, pSb, pSc]
  refine tnZ 9 rfl ?_
  try simp only [Act.put, pSa, pSb, pSc]
  refine tnZ 10 rfl ?_
  try simp only [Act.put, pSa, pSb, pSc]
  refine tnZ 11 rfl ?_
  try simp only [Act.put, pSa, pSb, pSc]
  refine tkZ 12 ?_ rfl ?_ ?_
  rotate_left
  · intro w _; go_simp <;> with_reducible rfl
  try simp only [Act.put, pSa, pSb, pSc]
  refine tkZ 13 ?_ rfl ?_ ?_
  rotate_left
  · intro w _; go_simp <;> with_reducible rfl
  try simp only [Act.put, pSa, pSb, pSc]
  refine tkZ 14 ?_ rfl ?_ ?_
  rotate_left
  · intro w _; go_simp <;> with_reducible rfl
  try simp only [Act.put, pSa, pSb, pSc]
  refine tkZ 15 ?_ rfl ?_ ?_
  rotate_left
  · intro w _; go_simp <;> with_reducible rfl
  try simp only [Act.put, pSa, pSb, pSc]
  refine tkZ 16 ?_ rfl ?_ ?_
  rotate_left
  · intro w _; go_simp <;> with_reducible rfl
  try simp only [Act.put, pSa, pSb, pSc]
  refine tkZ 17 ?_ rfl ?_ ?_
  rotate_left
  · intro w _; go_simp <;> with_reducible rfl
  try simp only [Act.put, pSa, pSb, pSc]
  refine tkZ 18 ?_ rfl ?_ ?_
  rotate_left
  · intro w h; simp only [b3, b4, b6, cE] at h; go_simp <;> with_reducible rfl
  try simp only [Act.put, pSa, pSb, pSc]
  refine tkZ 19 ?_ rfl ?_ ?_
  rotate_left
  · intro w _; go_simp <;> with_reducible rfl
  try simp only [Act.put, pSa, pSb, pSc]
  refine tkZ 20 ?_ rfl ?_ ?_
  rotate_left
  · intro w _; go_simp <;> with_reducible rfl
  try simp only [Act.put, pSa, pSb, pSc]
  refine tkZ 21 ?_ rfl ?_ ?_
  rotate_left
  · intro w _; go_simp <;> with_reducible rfl
  try simp only [Act.put, pSa, pSb, pSc]
  refine tkZ 22 ?_ rfl ?_ ?_
  rotate_left
  · intro w _; go_simp <;> with_reducible rfl
  try simp only [Act.put, pSa, pSb, pSc]
  refine wpAnyH_done (by kernel_rfl) ?_ _
  have belq1 := b_step gb1 hHeld.1 gb1.size
  obtain ⟨-, ⟨h1_0_0, h1_0_1, h1_0_2, h1_0_3⟩, ⟨h1_1_0, h1_1_1, h1_1_2, h1_1_3, h1_1_4, h1_1_5⟩, ⟨h1_2_0, h1_2_1, h1_2_2⟩, ⟨h1_3_0, h1_3_1, h1_3_2⟩, ⟨h1_4_0, h1_4_1, h1_4_2, h1_4_3, h1_4_4, h1_4_5⟩, ⟨h1_5_0, h1_5_1, h1_5_2⟩, ⟨h1_6_0, h1_6_1, h1_6_2, h1_6_3⟩⟩ := hHeld
  clear gb1 mkq1 g1_0_0 g1_0_1 g1_0_2 g1_0_3 g1_1_0 g1_1_1 g1_1_2 g1_1_3 g1_1_4 g1_1_5 g1_2_0 g1_2_1 g1_2_2 g1_3_0 g1_3_1 g1_3_2 g1_4_0 g1_4_1 g1_4_2 g1_4_3 g1_4_4 g1_4_5 g1_5_0 g1_5_1 g1_5_2 g1_6_0 g1_6_1 g1_6_2 g1_6_3
  have zh1_0 := ltc h1_0_0
  have zh1_1 := ltc h1_1_0
  have zh1_2 := ltc h1_2_0
  have zh1_3 := ltc h1_3_0
  have zh1_4 := ltc h1_4_0
  have zh1_5 := ltc h1_5_0
  have zh1_6 := ltc h1_6_0
  go_wp2_with fail
  go_at_call 20
  (with_reducible refine (Hz _).mono ?_)
  rintro e t8 ⟨rfl, y8⟩
  obtain ⟨⟨c8_0_0, c8_0_1, c8_0_2, c8_0_3⟩, ⟨c8_1_0, c8_1_1, c8_1_2, c8_1_3, c8_1_4, c8_1_5⟩, ⟨c8_2_0, c8_2_1, c8_2_2⟩, ⟨c8_3_0, c8_3_1, c8_3_2⟩, ⟨c8_4_0, c8_4_1, c8_4_2⟩, ⟨c8_5_0, c8_5_1, c8_5_2, c8_5_3⟩, bel8⟩ : b4 t8 w.heap.size n a0 a1 a2 ∧ b6 t8 (w.heap.size + 1) x0 x1 x2 x3 x4 x5 ∧ b3 t8 (w.heap.size + 1 + 1) s0 s1 s2 ∧ b3 t8 (w.heap.size + 1 + 1 + 1) c0 c1 c2 ∧ b3 t8 t2.heap.size z0 z1 z2 ∧ b4 t8 t3.heap.size 0 0 0 0 ∧ Below w.heap.size w t8 := by
    refine ⟨?_, ?_, ?_, ?_, ?_, ?_, bs0 belq1 y8⟩ <;> (repeat' apply And.intro) <;> exact cell_later y8 (by (first | assumption | exact c_alloc (by assumption) | exact c_at rfl rfl))
  clear y8 h1_0_0 h1_0_1 h1_0_2 h1_0_3 h1_1_0 h1_1_1 h1_1_2 h1_1_3 h1_1_4 h1_1_5 h1_2_0 h1_2_1 h1_2_2 h1_3_0 h1_3_1 h1_3_2 h1_4_0 h1_4_1 h1_4_2 h1_4_3 h1_4_4 h1_4_5 h1_5_0 h1_5_1 h1_5_2 h1_6_0 h1_6_1 h1_6_2 h1_6_3 belq1 zh1_0 zh1_1 zh1_2 zh1_3 zh1_4 zh1_5 zh1_6
  have zc8_0 := ltc c8_0_0
  have zc8_1 := ltc c8_1_0
  have zc8_2 := ltc c8_2_0
  have zc8_3 := ltc c8_3_0
  have zc8_4 := ltc c8_4_0
  have zc8_5 := ltc c8_5_0
  go_upto_region 15 with fail
  refine gen_world (F := fun W2 => b4 W2 w.heap.size n a0 a1 a2 ∧ b6 W2 (w.heap.size + 1) x0 x1 x2 x3 x4 x5 ∧ b3 W2 (w.heap.size + 1 + 1) s0 s1 s2 ∧ b3 W2 (w.heap.size + 1 + 1 + 1) c0 c1 c2 ∧ b3 W2 t2.heap.size z0 z1 z2 ∧ b4 W2 t3.heap.size 0 0 0 0 ∧ Below w.heap.size w W2) ?_ (fun W2 hW => ?_)
  · refine ⟨?_, ?_, ?_, ?_, ?_, ?_, bel8⟩ <;> (repeat' apply And.intro) <;> (first | assumption | exact c_alloc (by assumption) | exact c_at rfl rfl)
  obtain ⟨⟨g2_0_0, g2_0_1, g2_0_2, g2_0_3⟩, ⟨g2_1_0, g2_1_1, g2_1_2, g2_1_3, g2_1_4, g2_1_5⟩, ⟨g2_2_0, g2_2_1, g2_2_2⟩, ⟨g2_3_0, g2_3_1, g2_3_2⟩, ⟨g2_4_0, g2_4_1, g2_4_2⟩, ⟨g2_5_0, g2_5_1, g2_5_2, g2_5_3⟩, gb2⟩ := hW
  clear c8_0_0 c8_0_1 c8_0_2 c8_0_3 c8_1_0 c8_1_1 c8_1_2 c8_1_3 c8_1_4 c8_1_5 c8_2_0 c8_2_1 c8_2_2 c8_3_0 c8_3_1 c8_3_2 c8_4_0 c8_4_1 c8_4_2 c8_5_0 c8_5_1 c8_5_2 c8_5_3 bel8 zc8_0 zc8_1 zc8_2 zc8_3 zc8_4 zc8_5
  have mkq2 : ∀ w', Below W2.heap.size W2 w' → (Below W2.heap.size W2 w' ∧ b4 w' w.heap.size n a0 a1 a2 ∧ b6 w' (w.heap.size + 1) x0 x1 x2 x3 x4 x5 ∧ b3 w' (w.heap.size + 1 + 1) s0 s1 s2 ∧ b3 w' (w.heap.size + 1 + 1 + 1) c0 c1 c2 ∧ b3 w' t2.heap.size z0 z1 z2 ∧ b4 w' t3.heap.size 0 0 0 0) := fun w' h => ⟨h, b4.later h ⟨g2_0_0, g2_0_1, g2_0_2, g2_0_3⟩, b6.later h ⟨g2_1_0, g2_1_1, g2_1_2, g2_1_3, g2_1_4, g2_1_5⟩, b3.later h ⟨g2_2_0, g2_2_1, g2_2_2⟩, b3.later h ⟨g2_3_0, g2_3_1, g2_3_2⟩, b3.later h ⟨g2_4_0, g2_4_1, g2_4_2⟩, b4.later h ⟨g2_5_0, g2_5_1, g2_5_2, g2_5_3⟩⟩
  refine wp_region_held_drew (S := fun w' => Below W2.heap.size W2 w' ∧ b4 w' w.heap.size n a0 a1 a2 ∧ b6 w' (w.heap.size + 1) x0 x1 x2 x3 x4 x5 ∧ b3 w' (w.heap.size + 1 + 1) s0 s1 s2 ∧ b3 w' (w.heap.size + 1 + 1 + 1) c0 c1 c2 ∧ b3 w' t2.heap.size z0 z1 z2 ∧ b4 w' t3.heap.size 0 0 0 0) (by kernel_rfl) (mkq2 _ ((Below.refl _ _).drew)) (fun hHeld => ?_)
  refine tkZ 0 ?_ rfl ?_ ?_
  rotate_left
  · intro w _; go_simp <;> with_reducible rfl
  try simp only [Act.put, pSa, pSb, pSc]
  refine tkZ 1 ?_ rfl ?_ ?_
  rotate_left
  · intro w _; go_simp <;> with_reducible rfl
  try simp only [Act.put, pSa, pSb, pSc]
  refine tkZ 2 ?_ rfl ?_ ?_
  rotate_left
  · intro w _; go_simp <;> with_reducible rfl
  try simp only [Act.put, pSa, pSb, pSc]
  refine tkZ 3 ?_ rfl ?_ ?_
  rotate_left
  · intro w h; simp only [b3, b4, b6, cE] at h; go_simp <;> with_reducible rfl
  try simp only [Act.put, pSa, pSb, pSc]
  refine tkZ 4 ?_ rfl ?_ ?_
  rotate_left
  · intro w _; go_simp <;> with_reducible rfl
  try simp only [Act.put, pSa, pSb, pSc]
  refine tkZ 5 ?_ rfl ?_ ?_
  rotate_left
  · intro w h; simp only [b3, b4, b6, cE] at h; go_simp <;> with_reducible rfl
  try simp only [Act.put, pSa, pSb, pSc]
  refine tkZ 6 ?_ rfl ?_ ?_
  rotate_left
  · intro w h; simp only [b3, b4, b6, cE] at h; go_simp <;> with_reducible rfl
  try simp only [Act.put, pSa, pSb, pSc]
  refine rOne 7 rfl (fun K hK => ?_)
  go_simp
  go_at_call 21
  (with_reducible refine (R2 _).mono ?_)
  rintro e rq21 ⟨rfl, zq21⟩
  go_wp2_with fail
  refine hK.out _ _ (mkq2 _ (b_step hHeld.1 zq21 hHeld.1.size)) (fun hHeld2 => ?_)
  clear hK K hHeld
  have hHeld := hHeld2
  clear hHeld2
  (try simp only [Act.put, pSa, pSb, pSc])
  refine tkZ 8 ?_ rfl ?_ ?_
  rotate_left
  · intro w _; go_simp <;> with_reducible rfl
  try simp only [Act.put, pSa, pSb, pSc]
  refine tkZ 9 ?_ rfl ?_ ?_
  rotate_left
  · intro w _; go_simp <;> with_reducible rfl
  try simp only [Act.put, pSa, pSb, pSc]
  refine wpAnyH_done (by kernel_rfl) ?_ _
  have belq2 := b_step gb2 hHeld.1 gb2.size
  obtain ⟨-, ⟨h2_0_0, h2_0_1, h2_0_2, h2_0_3⟩, ⟨h2_1_0, h2_1_1, h2_1_2, h2_1_3, h2_1_4, h2_1_5⟩, ⟨h2_2_0, h2_2_1, h2_2_2⟩, ⟨h2_3_0, h2_3_1, h2_3_2⟩, ⟨h2_4_0, h2_4_1, h2_4_2⟩, ⟨h2_5_0, h2_5_1, h2_5_2, h2_5_3⟩⟩ := hHeld
  clear gb2 mkq2 g2_0_0 g2_0_1 g2_0_2 g2_0_3 g2_1_0 g2_1_1 g2_1_2 g2_1_3 g2_1_4 g2_1_5 g2_2_0 g2_2_1 g2_2_2 g2_3_0 g2_3_1 g2_3_2 g2_4_0 g2_4_1 g2_4_2 g2_5_0 g2_5_1 g2_5_2 g2_5_3
  have zh2_0 := ltc h2_0_0
  have zh2_1 := ltc h2_1_0
  have zh2_2 := ltc h2_2_0
  have zh2_3 := ltc h2_3_0
  have zh2_4 := ltc h2_4_0
  have zh2_5 := ltc h2_5_0
  go_wp2_with fail
  go_at_call 17
  (with_reducible refine (Nc _).mono ?_)
  rintro e t9 ⟨rfl, y9⟩
  obtain ⟨⟨c9_0_0, c9_0_1, c9_0_2, c9_0_3⟩, ⟨c9_1_0, c9_1_1, c9_1_2, c9_1_3, c9_1_4, c9_1_5⟩, ⟨c9_2_0, c9_2_1, c9_2_2⟩, ⟨c9_3_0, c9_3_1, c9_3_2⟩, ⟨c9_4_0, c9_4_1, c9_4_2⟩, ⟨c9_5_0, c9_5_1, c9_5_2, c9_5_3⟩, bel9⟩ : b4 t9 w.heap.size n a0 a1 a2 ∧ b6 t9 (w.heap.size + 1) x0 x1 x2 x3 x4 x5 ∧ b3 t9 (w.heap.size + 1 + 1) s0 s1 s2 ∧ b3 t9 (w.heap.size + 1 + 1 + 1) c0 c1 c2 ∧ b3 t9 t2.heap.size z0 z1 z2 ∧ b4 t9 t3.heap.size 0 0 0 0 ∧ Below w.heap.size w t9 := by
    refine ⟨?_, ?_, ?_, ?_, ?_, ?_, bs0 belq2 y9⟩ <;> (repeat' apply And.intro) <;> exact cell_later y9 (by (first | assumption | exact c_alloc (by assumption) | exact c_at rfl rfl))
  clear y9 h2_0_0 h2_0_1 h2_0_2 h2_0_3 h2_1_0 h2_1_1 h2_1_2 h2_1_3 h2_1_4 h2_1_5 h2_2_0 h2_2_1 h2_2_2 h2_3_0 h2_3_1 h2_3_2 h2_4_0 h2_4_1 h2_4_2 h2_5_0 h2_5_1 h2_5_2 h2_5_3 belq2 zh2_0 zh2_1 zh2_2 zh2_3 zh2_4 zh2_5
  have zc9_0 := ltc c9_0_0
  have zc9_1 := ltc c9_1_0
  have zc9_2 := ltc c9_2_0
  have zc9_3 := ltc c9_3_0
  have zc9_4 := ltc c9_4_0
  have zc9_5 := ltc c9_5_0
  go_wp2_with fail
  go_at_call 22
  (with_reducible refine (Hp _).mono ?_)
  rintro e t10 ⟨rfl, y10⟩
  obtain ⟨⟨c10_0_0, c10_0_1, c10_0_2, c10_0_3⟩, ⟨c10_1_0, c10_1_1, c10_1_2, c10_1_3, c10_1_4, c10_1_5⟩, ⟨c10_2_0, c10_2_1, c10_2_2⟩, ⟨c10_3_0, c10_3_1, c10_3_2⟩, ⟨c10_4_0, c10_4_1, c10_4_2⟩, ⟨c10_5_0, c10_5_1, c10_5_2, c10_5_3⟩, bel10⟩ : b4 t10 w.heap.size n a0 a1 a2 ∧ b6 t10 (w.heap.size + 1) x0 x1 x2 x3 x4 x5 ∧ b3 t10 (w.heap.size + 1 + 1) s0 s1 s2 ∧ b3 t10 (w.heap.size + 1 + 1 + 1) c0 c1 c2 ∧ b3 t10 t2.heap.size z0 z1 z2 ∧ b4 t10 t3.heap.size 0 0 0 0 ∧ Below w.heap.size w t10 := by
    refine ⟨?_, ?_, ?_, ?_, ?_, ?_, bs0 bel9 y10⟩ <;> (repeat' apply And.intro) <;> exact cell_later y10 (by (first | assumption | exact c_alloc (by assumption) | exact c_at rfl rfl))
  clear y10 c9_0_0 c9_0_1 c9_0_2 c9_0_3 c9_1_0 c9_1_1 c9_1_2 c9_1_3 c9_1_4 c9_1_5 c9_2_0 c9_2_1 c9_2_2 c9_3_0 c9_3_1 c9_3_2 c9_4_0 c9_4_1 c9_4_2 c9_5_0 c9_5_1 c9_5_2 c9_5_3 bel9 zc9_0 zc9_1 zc9_2 zc9_3 zc9_4 zc9_5
  have zc10_0 := ltc c10_0_0
  have zc10_1 := ltc c10_1_0
  have zc10_2 := ltc c10_2_0
  have zc10_3 := ltc c10_3_0
  have zc10_4 := ltc c10_4_0
  have zc10_5 := ltc c10_5_0
  go_wp2_with fail
  go_at_call 17
  (with_reducible refine (Np _).mono ?_)
  rintro e t11 ⟨rfl, y11⟩
  obtain ⟨⟨c11_0_0, c11_0_1, c11_0_2, c11_0_3⟩, ⟨c11_1_0, c11_1_1, c11_1_2, c11_1_3, c11_1_4, c11_1_5⟩, ⟨c11_2_0, c11_2_1, c11_2_2⟩, ⟨c11_3_0, c11_3_1, c11_3_2⟩, ⟨c11_4_0, c11_4_1, c11_4_2⟩, ⟨c11_5_0, c11_5_1, c11_5_2, c11_5_3⟩, bel11⟩ : b4 t11 w.heap.size n a0 a1 a2 ∧ b6 t11 (w.heap.size + 1) x0 x1 x2 x3 x4 x5 ∧ b3 t11 (w.heap.size + 1 + 1) s0 s1 s2 ∧ b3 t11 (w.heap.size + 1 + 1 + 1) c0 c1 c2 ∧ b3 t11 t2.heap.size z0 z1 z2 ∧ b4 t11 t3.heap.size 0 0 0 0 ∧ Below w.heap.size w t11 := by
    refine ⟨?_, ?_, ?_, ?_, ?_, ?_, bs0 bel10 y11⟩ <;> (repeat' apply And.intro) <;> exact cell_later y11 (by (first | assumption | exact c_alloc (by assumption) | exact c_at rfl rfl))
  clear y11 c10_0_0 c10_0_1 c10_0_2 c10_0_3 c10_1_0 c10_1_1 c10_1_2 c10_1_3 c10_1_4 c10_1_5 c10_2_0 c10_2_1 c10_2_2 c10_3_0 c10_3_1 c10_3_2 c10_4_0 c10_4_1 c10_4_2 c10_5_0 c10_5_1 c10_5_2 c10_5_3 bel10 zc10_0 zc10_1 zc10_2 zc10_3 zc10_4 zc10_5
  have zc11_0 := ltc c11_0_0
  have zc11_1 := ltc c11_1_0
  have zc11_2 := ltc c11_2_0
  have zc11_3 := ltc c11_3_0
  have zc11_4 := ltc c11_4_0
  have zc11_5 := ltc c11_5_0
  go_wp2_with fail
  go_at_call 23
  (with_reducible refine (R3 _).mono ?_)
  rintro e t12 ⟨rfl, y12⟩
  obtain ⟨⟨c12_0_0, c12_0_1, c12_0_2, c12_0_3⟩, ⟨c12_1_0, c12_1_1, c12_1_2, c12_1_3, c12_1_4, c12_1_5⟩, ⟨c12_2_0, c12_2_1, c12_2_2⟩, ⟨c12_3_0, c12_3_1, c12_3_2⟩, ⟨c12_4_0, c12_4_1, c12_4_2⟩, ⟨c12_5_0, c12_5_1, c12_5_2, c12_5_3⟩, bel12⟩ : b4 t12 w.heap.size n a0 a1 a2 ∧ b6 t12 (w.heap.size + 1) x0 x1 x2 x3 x4 x5 ∧ b3 t12 (w.heap.size + 1 + 1) s0 s1 s2 ∧ b3 t12 (w.heap.size + 1 + 1 + 1) c0 c1 c2 ∧ b3 t12 t2.heap.size z0 z1 z2 ∧ b4 t12 t3.heap.size 0 0 0 0 ∧ Below w.heap.size w t12 := by
    refine ⟨?_, ?_, ?_, ?_, ?_, ?_, bs0 bel11 y12⟩ <;> (repeat' apply And.intro) <;> exact cell_later y12 (by (first | assumption | exact c_alloc (by assumption) | exact c_at rfl rfl))
  clear y12 c11_0_0 c11_0_1 c11_0_2 c11_0_3 c11_1_0 c11_1_1 c11_1_2 c11_1_3 c11_1_4 c11_1_5 c11_2_0 c11_2_1 c11_2_2 c11_3_0 c11_3_1 c11_3_2 c11_4_0 c11_4_1 c11_4_2 c11_5_0 c11_5_1 c11_5_2 c11_5_3 bel11 zc11_0 zc11_1 zc11_2 zc11_3 zc11_4 zc11_5
  have zc12_0 := ltc c12_0_0
  have zc12_1 := ltc c12_1_0
  have zc12_2 := ltc c12_2_0
  have zc12_3 := ltc c12_3_0
  have zc12_4 := ltc c12_4_0
  have zc12_5 := ltc c12_5_0
  go_wp2_with fail
  go_at_call 17
  (with_reducible refine (Nq _).mono ?_)
  rintro e t13 ⟨rfl, y13⟩
  obtain ⟨⟨c13_0_0, c13_0_1, c13_0_2, c13_0_3⟩, ⟨c13_1_0, c13_1_1, c13_1_2, c13_1_3, c13_1_4, c13_1_5⟩, ⟨c13_2_0, c13_2_1, c13_2_2⟩, ⟨c13_3_0, c13_3_1, c13_3_2⟩, ⟨c13_4_0, c13_4_1, c13_4_2⟩, ⟨c13_5_0, c13_5_1, c13_5_2, c13_5_3⟩, bel13⟩ : b4 t13 w.heap.size n a0 a1 a2 ∧ b6 t13 (w.heap.size + 1) x0 x1 x2 x3 x4 x5 ∧ b3 t13 (w.heap.size + 1 + 1) s0 s1 s2 ∧ b3 t13 (w.heap.size + 1 + 1 + 1) c0 c1 c2 ∧ b3 t13 t2.heap.size z0 z1 z2 ∧ b4 t13 t3.heap.size 0 0 0 0 ∧ Below w.heap.size w t13 := by
    refine ⟨?_, ?_, ?_, ?_, ?_, ?_, bs0 bel12 y13⟩ <;> (repeat' apply And.intro) <;> exact cell_later y13 (by (first | assumption | exact c_alloc (by assumption) | exact c_at rfl rfl))
  clear y13 c12_0_0 c12_0_1 c12_0_2 c12_0_3 c12_1_0 c12_1_1 c12_1_2 c12_1_3 c12_1_4 c12_1_5 c12_2_0 c12_2_1 c12_2_2 c12_3_0 c12_3_1 c12_3_2 c12_4_0 c12_4_1 c12_4_2 c12_5_0 c12_5_1 c12_5_2 c12_5_3 bel12 zc12_0 zc12_1 zc12_2 zc12_3 zc12_4 zc12_5
  have zc13_0 := ltc c13_0_0
  have zc13_1 := ltc c13_1_0
  have zc13_2 := ltc c13_2_0
  have zc13_3 := ltc c13_3_0
  have zc13_4 := ltc c13_4_0
  have zc13_5 := ltc c13_5_0
  go_upto_region 20 with fail
  refine gen_world (F := fun W3 => b4 W3 w.heap.size n a0 a1 a2 ∧ b6 W3 (w.heap.size + 1) x0 x1 x2 x3 x4 x5 ∧ b3 W3 (w.heap.size + 1 + 1) s0 s1 s2 ∧ b3 W3 (w.heap.size + 1 + 1 + 1) c0 c1 c2 ∧ b3 W3 t2.heap.size z0 z1 z2 ∧ b4 W3 t3.heap.size 0 0 0 0 ∧ Below w.heap.size w W3) ?_ (fun W3 hW => ?_)
  · refine ⟨?_, ?_, ?_, ?_, ?_, ?_, bel13⟩ <;> (repeat' apply And.intro) <;> (first | assumption | exact c_alloc (by assumption) | exact c_at rfl rfl)
  obtain ⟨⟨g3_0_0, g3_0_1, g3_0_2, g3_0_3⟩, ⟨g3_1_0, g3_1_1, g3_1_2, g3_1_3, g3_1_4, g3_1_5⟩, ⟨g3_2_0, g3_2_1, g3_2_2⟩, ⟨g3_3_0, g3_3_1, g3_3_2⟩, ⟨g3_4_0, g3_4_1, g3_4_2⟩, ⟨g3_5_0, g3_5_1, g3_5_2, g3_5_3⟩, gb3⟩ := hW
  clear c13_0_0 c13_0_1 c13_0_2 c13_0_3 c13_1_0 c13_1_1 c13_1_2 c13_1_3 c13_1_4 c13_1_5 c13_2_0 c13_2_1 c13_2_2 c13_3_0 c13_3_1 c13_3_2 c13_4_0 c13_4_1 c13_4_2 c13_5_0 c13_5_1 c13_5_2 c13_5_3 bel13 zc13_0 zc13_1 zc13_2 zc13_3 zc13_4 zc13_5
  have mkq3 : ∀ w', Below W3.heap.size W3 w' → (Below W3.heap.size W3 w' ∧ b4 w' w.heap.size n a0 a1 a2 ∧ b6 w' (w.heap.size + 1) x0 x1 x2 x3 x4 x5 ∧ b3 w' (w.heap.size + 1 + 1) s0 s1 s2 ∧ b3 w' (w.heap.size + 1 + 1 + 1) c0 c1 c2 ∧ b3 w' t2.heap.size z0 z1 z2 ∧ b4 w' t3.heap.size 0 0 0 0) := fun w' h => ⟨h, b4.later h ⟨g3_0_0, g3_0_1, g3_0_2, g3_0_3⟩, b6.later h ⟨g3_1_0, g3_1_1, g3_1_2, g3_1_3, g3_1_4, g3_1_5⟩, b3.later h ⟨g3_2_0, g3_2_1, g3_2_2⟩, b3.later h ⟨g3_3_0, g3_3_1, g3_3_2⟩, b3.later h ⟨g3_4_0, g3_4_1, g3_4_2⟩, b4.later h ⟨g3_5_0, g3_5_1, g3_5_2, g3_5_3⟩⟩
  refine wp_region_held_drew (S := fun w' => Below W3.heap.size W3 w' ∧ b4 w' w.heap.size n a0 a1 a2 ∧ b6 w' (w.heap.size + 1) x0 x1 x2 x3 x4 x5 ∧ b3 w' (w.heap.size + 1 + 1) s0 s1 s2 ∧ b3 w' (w.heap.size + 1 + 1 + 1) c0 c1 c2 ∧ b3 w' t2.heap.size z0 z1 z2 ∧ b4 w' t3.heap.size 0 0 0 0) (by kernel_rfl) (mkq3 _ ((Below.refl _ _).drew)) (fun hHeld => ?_)
  refine rOne 0 rfl (fun K hK => ?_)
  go_simp
  go_at_call 15
  (with_reducible refine (Hq _ (b_step gb3 hHeld.1 gb3.size)).mono ?_)
  rintro e rq31 ⟨rfl, zq31⟩
  go_wp2_with fail
  refine hK.out _ _ (mkq3 _ (b_step hHeld.1 zq31 hHeld.1.size)) (fun hHeld2 => ?_)
  clear hK K hHeld
  have hHeld := hHeld2
  clear hHeld2
  (try simp only [Act.put, pSa, pSb, pSc])
  refine tkZ 1 ?_ rfl ?_ ?_
  rotate_left
  · intro w _; go_simp <;> with_reducible rfl
  try simp only [Act.put, pSa, pSb, pSc]
  refine tkZ 2 ?_ rfl ?_ ?_
  rotate_left
  · intro w _; go_simp <;> with_reducible rfl
  try simp only [Act.put, pSa, pSb, pSc]
  refine tkZ 3 ?_ rfl ?_ ?_
  rotate_left
  · intro w _; go_simp <;> with_reducible rfl
  try simp only [Act.put, pSa, pSb, pSc]
  refine tkZ 4 ?_ rfl ?_ ?_
  rotate_left
  · intro w _; go_simp <;> with_reducible rfl
  try simp only [Act.put, pSa, pSb, pSc]
  refine tkZ 5 ?_ rfl ?_ ?_
  rotate_left
  · intro w _; go_simp <;> with_reducible rfl
  try simp only [Act.put, pSa, pSb, pSc]
  refine tkZ 6 ?_ rfl ?_ ?_
  rotate_left
  · intro w _; go_simp <;> with_reducible rfl
  try simp only [Act.put, pSa, pSb, pSc]
  refine tkZ 7 ?_ rfl ?_ ?_
  rotate_left
  · intro w _; go_simp <;> with_reducible rfl
  try simp only [Act.put, pSa, pSb, pSc]
  refine tkZ 8 ?_ rfl ?_ ?_
  rotate_left
  · intro w _; go_simp <;> with_reducible rfl
  try simp only [Act.put, pSa, pSb, pSc]
  refine tkZ 9 ?_ rfl ?_ ?_
  rotate_left
  · intro w _; go_simp <;> with_reducible rfl
  try simp only [Act.put, pSa, pSb, pSc]
  refine tnZ 10 rfl ?_
  try simp only [Act.put, pSa, pSb, pSc]
  refine tnZ 11 rfl ?_
  try simp only [Act.put, pSa, pSb, pSc]
  refine tnZ 12 rfl ?_
  try simp only [Act.put, pSa, pSb, pSc]
  refine tnZ 13 rfl ?_
  try simp only [Act.put, pSa, pSb, pSc]
  refine tnZ 14 rfl ?_
  try simp only [Act.put, pSa, pSb, pSc]
  refine tnZ 15 rfl ?_
  try simp only [Act.put, pSa, pSb, pSc]
  refine tnZ 16 rfl ?_
  try simp only [Act.put, pSa, pSb, pSc]
  refine tkZ 17 ?_ rfl ?_ ?_
  rotate_left
  · intro w _; go_simp <;> with_reducible rfl
  try simp only [Act.put, pSa, pSb, pSc]
  refine tkZ 18 ?_ rfl ?_ ?_
  rotate_left
  · intro w _; go_simp <;> with_reducible rfl
  try simp only [Act.put, pSa, pSb, pSc]
  refine tkZ 19 ?_ rfl ?_ ?_
  rotate_left
  · intro w _; go_simp <;> with_reducible rfl
  try simp only [Act.put, pSa, pSb, pSc]
  refine tkZ 20 ?_ rfl ?_ ?_
  rotate_left
  · intro w _; go_simp <;> with_reducible rfl
  try simp only [Act.put, pSa, pSb, pSc]
  refine tkZ 21 ?_ rfl ?_ ?_
  rotate_left
  · intro w _; go_simp <;> with_reducible rfl
  try simp only [Act.put, pSa, pSb, pSc]
  refine tkZ 22 ?_ rfl ?_ ?_
  rotate_left
  · intro w h; simp only [b3, b4, b6, cE] at h; go_simp <;> with_reducible rfl
  try simp only [Act.put, pSa, pSb, pSc]
  refine tkZ 23 ?_ rfl ?_ ?_
  rotate_left
  · intro w _; go_simp <;> with_reducible rfl
  try simp only [Act.put, pSa, pSb, pSc]
  refine tkZ 24 ?_ rfl ?_ ?_
  rotate_left
  · intro w _; go_simp <;> with_reducible rfl
  try simp only [Act.put, pSa, pSb, pSc]
  refine tkZ 25 ?_ rfl ?_ ?_
  rotate_left
  · intro w _; go_simp <;> with_reducible rfl
  try simp only [Act.put, pSa, pSb, pSc]
  refine tkZ 26 ?_ rfl ?_ ?_
  rotate_left
  · intro w _; go_simp <;> with_reducible rfl
  try simp only [Act.put, pSa, pSb, pSc]
  refine tkZ 27 ?_ rfl ?_ ?_
  rotate_left
  · intro w _; go_simp <;> with_reducible rfl
  try simp only [Act.put, pSa, pSb, pSc]
  refine tkZ 28 ?_ rfl ?_ ?_
  rotate_left
  · intro w _; go_simp <;> with_reducible rfl
  try simp only [Act.put, pSa, pSb, pSc]
  refine wpAnyH_done (by kernel_rfl) ?_ _
  have belq3 := b_step gb3 hHeld.1 gb3.size
  obtain ⟨-, ⟨h3_0_0, h3_0_1, h3_0_2, h3_0_3⟩, ⟨h3_1_0, h3_1_1, h3_1_2, h3_1_3, h3_1_4, h3_1_5⟩, ⟨h3_2_0, h3_2_1, h3_2_2⟩, ⟨h3_3_0, h3_3_1, h3_3_2⟩, ⟨h3_4_0, h3_4_1, h3_4_2⟩, ⟨h3_5_0, h3_5_1, h3_5_2, h3_5_3⟩⟩ := hHeld
  clear gb3 mkq3 g3_0_0 g3_0_1 g3_0_2 g3_0_3 g3_1_0 g3_1_1 g3_1_2 g3_1_3 g3_1_4 g3_1_5 g3_2_0 g3_2_1 g3_2_2 g3_3_0 g3_3_1 g3_3_2 g3_4_0 g3_4_1 g3_4_2 g3_5_0 g3_5_1 g3_5_2 g3_5_3
  have zh3_0 := ltc h3_0_0
  have zh3_1 := ltc h3_1_0
  have zh3_2 := ltc h3_2_0
  have zh3_3 := ltc h3_3_0
  have zh3_4 := ltc h3_4_0
  have zh3_5 := ltc h3_5_0
  go_wp2
  go_ret
  exact ⟨rfl, belq3⟩

set_option maxRecDepth 100000 in
set_option maxHeartbeats 16000000 in
theorem boxes_16 (n a0 a1 a2 x0 x1 x2 x3 x4 x5 s0 s1 s2 c0 c1 c2 u0 u1 u2 u3 u4 u5 z0 z1 z2 q0 q1 q2 p0 p1 p2 : Int) (w : World)
    (Hq : ∀ W, Below w.heap.size w W → Calls Tryd.prog 15 #[] W fun r w' => r = .returned (.bool true) ∧ Below W.heap.size W w')
    (H1 : ∀ w, Calls Tryd.prog 11 #[vP n a0 a1 a2, vB x0 x1 x2 x3 x4 x5] w fun r w' => r = .returned (.tuple #[vB 0 0 0 0 0 0, .int .i64 6]) ∧ Below w.heap.size w w')
    (H2 : ∀ w, Calls Tryd.prog 12 #[.int .i64 n, vV s0 s1 s2] w fun r w' => r = .returned (.tuple #[vV z0 z1 z2, .int .i64 0]) ∧ Below w.heap.size w w')
    (H3 : ∀ w, Calls Tryd.prog 13 #[.int .i64 n, vV s0 s1 s2, vV c0 c1 c2] w fun r w' => r = .returned (.tuple #[vP n q0 q1 q2, .int .i64 0]) ∧ Below w.heap.size w w')
    (In : ∀ w, Calls Tryd.prog 14 #[.int .i64 n] w fun e w' => e = .returned (.bool true) ∧ w = w')
    (Hv : ∀ w, Calls Tryd.prog 16 #[vB x0 x1 x2 x3 x4 x5] w fun r w' => r = .returned (.bool true) ∧ Below w.heap.size w w')
    (Ns : ∀ w, Calls Tryd.prog 17 #[vV a0 a1 a2] w fun r w' => r = .returned (.bool true) ∧ Below w.heap.size w w')
    (R1 : ∀ w, Calls Tryd.prog 19 #[vP n a0 a1 a2, vB x0 x1 x2 x3 x4 x5] w fun r w' => r = .returned (vB u0 u1 u2 u3 u4 u5) ∧ Below w.heap.size w w')
    (Hi : ∀ w, Calls Tryd.prog 18 #[vB u0 u1 u2 u3 u4 u5] w fun r w' => r = .returned (.int .i64 6) ∧ Below w.heap.size w w')
    (Hz : ∀ w, Calls Tryd.prog 20 #[vV s0 s1 s2] w fun r w' => r = .returned (.bool true) ∧ Below w.heap.size w w')
    (R2 : ∀ w, Calls Tryd.prog 21 #[.int .i64 n, vV s0 s1 s2] w fun r w' => r = .returned (vV z0 z1 z2) ∧ Below w.heap.size w w')
    (Nc : ∀ w, Calls Tryd.prog 17 #[vV c0 c1 c2] w fun r w' => r = .returned (.bool true) ∧ Below w.heap.size w w')
    (Hp : ∀ w, Calls Tryd.prog 22 #[vV c0 c1 c2, vV z0 z1 z2] w fun r w' => r = .returned (vV p0 p1 p2) ∧ Below w.heap.size w w')
    (Np : ∀ w, Calls Tryd.prog 17 #[vV p0 p1 p2] w fun r w' => r = .returned (.bool true) ∧ Below w.heap.size w w')
    (R3 : ∀ w, Calls Tryd.prog 23 #[.int .i64 n, vV s0 s1 s2, vV c0 c1 c2] w fun r w' => r = .returned (vP n q0 q1 q2) ∧ Below w.heap.size w w')
    (Nq : ∀ w, Calls Tryd.prog 17 #[vV q0 q1 q2] w fun r w' => r = .returned (.bool true) ∧ Below w.heap.size w w') :
    Calls Tryd.prog 3 #[vP n a0 a1 a2, vB x0 x1 x2 x3 x4 x5, vV s0 s1 s2, vV c0 c1 c2] w fun e w' => e = .returned (.bool true) ∧ Below w.heap.size w w' := by
  have fP : ∀ (n x y z : Int) w, (Instr.field 25 (vP n x y z) 1).run Tryd.prog w = .ok (vV x y z) w := field_P1_W3c
  have ez : ∀ w, (binOp .neq 23 (vV z0 z1 z2) (vV z0 z1 z2)).run Tryd.prog w = .ok (.bool false) w := fun w => by rw [neq_V, decide_eq_true (by simp)]; rfl
  have eq : ∀ w, (binOp .eql 25 (vP n q0 q1 q2) (vP n q0 q1 q2)).run Tryd.prog w = .ok (.bool true) w := fun w => by rw [eql_P, decide_eq_true (by simp)]
  go_enter Tryd.func3, Tryd.ntmps3
  go_wp2_with fail
  go_at_call 11
  (with_reducible refine (H1 _).mono ?_)
  rintro e t1 ⟨rfl, y1⟩
  have hyy := y1.size
  (try simp only [World.size_alloc, World.size_setCell, World.size_drew] at hyy)
  obtain ⟨⟨c1_0_0, c1_0_1, c1_0_2, c1_0_3⟩, ⟨c1_1_0, c1_1_1, c1_1_2, c1_1_3, c1_1_4, c1_1_5⟩, ⟨c1_2_0, c1_2_1, c1_2_2⟩, ⟨c1_3_0, c1_3_1, c1_3_2⟩, bel1⟩ : b4 t1 w.heap.size n a0 a1 a2 ∧ b6 t1 (w.heap.size + 1) x0 x1 x2 x3 x4 x5 ∧ b3 t1 (w.heap.size + 1 + 1) s0 s1 s2 ∧ b3 t1 (w.heap.size + 1 + 1 + 1) c0 c1 c2 ∧ Below w.heap.size w t1 := by
    refine ⟨?_, ?_, ?_, ?_, b_step (by (repeat' (first | (with_reducible assumption) | (with_reducible exact Below.refl _ _) | (with_reducible refine Below.alloc ?_ ?_ _) | (with_reducible refine Below.drew ?_) | (with_reducible refine Below.setCell ?_ ?_ _) | (with_reducible refine b_step ?_ (by assumption) ?_) | omega | (simp only [World.size_alloc, World.size_setCell, World.size_drew]; omega)))) y1 (by simp only [World.size_alloc, World.size_setCell, World.size_drew]; omega)⟩ <;> (repeat' apply And.intro) <;> exact cell_later y1 (by (simp (disch := first | omega | (simp only [World.size_alloc, World.size_setCell, World.size_drew]; done) | (simp only [World.size_alloc, World.size_setCell, World.size_drew]; omega)) only [*, r_set_same, r_set_off, r_set_blk, r_set_f, r_alloc_at, r_alloc_past, r_falloc_at, r_falloc_past, World.cell?_drew, World.frozen?_drew, Option.map_some, List.getElem?_toArray, List.getElem?_cons_zero, List.getElem?_cons_succ]; done))
  clear hyy y1 
  have zc1_0 := ltc c1_0_0
  have zc1_1 := ltc c1_1_0
  have zc1_2 := ltc c1_2_0
  have zc1_3 := ltc c1_3_0
  go_wp2_with fail
  go_at_call 12
  (with_reducible refine (H2 _).mono ?_)
  rintro e t2 ⟨rfl, y2⟩
  obtain ⟨⟨c2_0_0, c2_0_1, c2_0_2, c2_0_3⟩, ⟨c2_1_0, c2_1_1, c2_1_2, c2_1_3, c2_1_4, c2_1_5⟩, ⟨c2_2_0, c2_2_1, c2_2_2⟩, ⟨c2_3_0, c2_3_1, c2_3_2⟩, ⟨c2_4_0, c2_4_1, c2_4_2, c2_4_3, c2_4_4, c2_4_5⟩, bel2⟩ : b4 t2 w.heap.size n a0 a1 a2 ∧ b6 t2 (w.heap.size + 1) x0 x1 x2 x3 x4 x5 ∧ b3 t2 (w.heap.size + 1 + 1) s0 s1 s2 ∧ b3 t2 (w.heap.size + 1 + 1 + 1) c0 c1 c2 ∧ b6 t2 t1.heap.size 0 0 0 0 0 0 ∧ Below w.heap.size w t2 := by
    refine ⟨?_, ?_, ?_, ?_, ?_, bs1 bel1 y2⟩ <;> (repeat' apply And.intro) <;> exact cell_later y2 (by (first | assumption | exact c_alloc (by assumption) | exact c_at rfl rfl))
  clear y2 c1_0_0 c1_0_1 c1_0_2 c1_0_3 c1_1_0 c1_1_1 c1_1_2 c1_1_3 c1_1_4 c1_1_5 c1_2_0 c1_2_1 c1_2_2 c1_3_0 c1_3_1 c1_3_2 bel1 zc1_0 zc1_1 zc1_2 zc1_3
  have zc2_0 := ltc c2_0_0
  have zc2_1 := ltc c2_1_0
  have zc2_2 := ltc c2_2_0
  have zc2_3 := ltc c2_3_0
  have zc2_4 := ltc c2_4_0
  go_wp2_with fail
  go_at_call 13
  (with_reducible refine (H3 _).mono ?_)
  rintro e t3 ⟨rfl, y3⟩
  obtain ⟨⟨c3_0_0, c3_0_1, c3_0_2, c3_0_3⟩, ⟨c3_1_0, c3_1_1, c3_1_2, c3_1_3, c3_1_4, c3_1_5⟩, ⟨c3_2_0, c3_2_1, c3_2_2⟩, ⟨c3_3_0, c3_3_1, c3_3_2⟩, ⟨c3_4_0, c3_4_1, c3_4_2, c3_4_3, c3_4_4, c3_4_5⟩, ⟨c3_5_0, c3_5_1, c3_5_2⟩, bel3⟩ : b4 t3 w.heap.size n a0 a1 a2 ∧ b6 t3 (w.heap.size + 1) x0 x1 x2 x3 x4 x5 ∧ b3 t3 (w.heap.size + 1 + 1) s0 s1 s2 ∧ b3 t3 (w.heap.size + 1 + 1 + 1) c0 c1 c2 ∧ b6 t3 t1.heap.size 0 0 0 0 0 0 ∧ b3 t3 t2.heap.size z0 z1 z2 ∧ Below w.heap.size w t3 := by
    refine ⟨?_, ?_, ?_, ?_, ?_, ?_, bs1 bel2 y3⟩ <;> (repeat' apply And.intro) <;> exact cell_later y3 (by (first | assumption | exact c_alloc (by assumption) | exact c_at rfl rfl))
  clear y3 c2_0_0 c2_0_1 c2_0_2 c2_0_3 c2_1_0 c2_1_1 c2_1_2 c2_1_3 c2_1_4 c2_1_5 c2_2_0 c2_2_1 c2_2_2 c2_3_0 c2_3_1 c2_3_2 c2_4_0 c2_4_1 c2_4_2 c2_4_3 c2_4_4 c2_4_5 bel2 zc2_0 zc2_1 zc2_2 zc2_3 zc2_4
  have zc3_0 := ltc c3_0_0
  have zc3_1 := ltc c3_1_0
  have zc3_2 := ltc c3_2_0
  have zc3_3 := ltc c3_3_0
  have zc3_4 := ltc c3_4_0
  have zc3_5 := ltc c3_5_0
  go_wp2_with fail
  go_at_call 14
  (with_reducible refine (In _).mono ?_)
  rintro e tt ⟨rfl, rfl⟩
  go_wp2_with fail
  go_at_call 16
  (with_reducible refine (Hv _).mono ?_)
  rintro e t4 ⟨rfl, y4⟩
  obtain ⟨⟨c4_0_0, c4_0_1, c4_0_2, c4_0_3⟩, ⟨c4_1_0, c4_1_1, c4_1_2, c4_1_3, c4_1_4, c4_1_5⟩, ⟨c4_2_0, c4_2_1, c4_2_2⟩, ⟨c4_3_0, c4_3_1, c4_3_2⟩, ⟨c4_4_0, c4_4_1, c4_4_2, c4_4_3, c4_4_4, c4_4_5⟩, ⟨c4_5_0, c4_5_1, c4_5_2⟩, ⟨c4_6_0, c4_6_1, c4_6_2, c4_6_3⟩, bel4⟩ : b4 t4 w.heap.size n a0 a1 a2 ∧ b6 t4 (w.heap.size + 1) x0 x1 x2 x3 x4 x5 ∧ b3 t4 (w.heap.size + 1 + 1) s0 s1 s2 ∧ b3 t4 (w.heap.size + 1 + 1 + 1) c0 c1 c2 ∧ b6 t4 t1.heap.size 0 0 0 0 0 0 ∧ b3 t4 t2.heap.size z0 z1 z2 ∧ b4 t4 t3.heap.size n q0 q1 q2 ∧ Below w.heap.size w t4 := by
    refine ⟨?_, ?_, ?_, ?_, ?_, ?_, ?_, bs1 bel3 y4⟩ <;> (repeat' apply And.intro) <;> exact cell_later y4 (by (first | assumption | exact c_alloc (by assumption) | exact c_at rfl rfl))
  clear y4 c3_0_0 c3_0_1 c3_0_2 c3_0_3 c3_1_0 c3_1_1 c3_1_2 c3_1_3 c3_1_4 c3_1_5 c3_2_0 c3_2_1 c3_2_2 c3_3_0 c3_3_1 c3_3_2 c3_4_0 c3_4_1 c3_4_2 c3_4_3 c3_4_4 c3_4_5 c3_5_0 c3_5_1 c3_5_2 bel3 zc3_0 zc3_1 zc3_2 zc3_3 zc3_4 zc3_5
  have zc4_0 := ltc c4_0_0
  have zc4_1 := ltc c4_1_0
  have zc4_2 := ltc c4_2_0
  have zc4_3 := ltc c4_3_0
  have zc4_4 := ltc c4_4_0
  have zc4_5 := ltc c4_5_0
  have zc4_6 := ltc c4_6_0
  go_wp2_with fail
  go_at_call 17
  (with_reducible refine (Ns _).mono ?_)
  rintro e t5 ⟨rfl, y5⟩
  obtain ⟨⟨c5_0_0, c5_0_1, c5_0_2, c5_0_3⟩, ⟨c5_1_0, c5_1_1, c5_1_2, c5_1_3, c5_1_4, c5_1_5⟩, ⟨c5_2_0, c5_2_1, c5_2_2⟩, ⟨c5_3_0, c5_3_1, c5_3_2⟩, ⟨c5_4_0, c5_4_1, c5_4_2, c5_4_3, c5_4_4, c5_4_5⟩, ⟨c5_5_0, c5_5_1, c5_5_2⟩, ⟨c5_6_0, c5_6_1, c5_6_2, c5_6_3⟩, bel5⟩ : b4 t5 w.heap.size n a0 a1 a2 ∧ b6 t5 (w.heap.size + 1) x0 x1 x2 x3 x4 x5 ∧ b3 t5 (w.heap.size + 1 + 1) s0 s1 s2 ∧ b3 t5 (w.heap.size + 1 + 1 + 1) c0 c1 c2 ∧ b6 t5 t1.heap.size 0 0 0 0 0 0 ∧ b3 t5 t2.heap.size z0 z1 z2 ∧ b4 t5 t3.heap.size n q0 q1 q2 ∧ Below w.heap.size w t5 := by
    refine ⟨?_, ?_, ?_, ?_, ?_, ?_, ?_, bs0 bel4 y5⟩ <;> (repeat' apply And.intro) <;> exact cell_later y5 (by (first | assumption | exact c_alloc (by assumption) | exact c_at rfl rfl))
  clear y5 c4_0_0 c4_0_1 c4_0_2 c4_0_3 c4_1_0 c4_1_1 c4_1_2 c4_1_3 c4_1_4 c4_1_5 c4_2_0 c4_2_1 c4_2_2 c4_3_0 c4_3_1 c4_3_2 c4_4_0 c4_4_1 c4_4_2 c4_4_3 c4_4_4 c4_4_5 c4_5_0 c4_5_1 c4_5_2 c4_6_0 c4_6_1 c4_6_2 c4_6_3 bel4 zc4_0 zc4_1 zc4_2 zc4_3 zc4_4 zc4_5 zc4_6
  have zc5_0 := ltc c5_0_0
  have zc5_1 := ltc c5_1_0
  have zc5_2 := ltc c5_2_0
  have zc5_3 := ltc c5_3_0
  have zc5_4 := ltc c5_4_0
  have zc5_5 := ltc c5_5_0
  have zc5_6 := ltc c5_6_0
  go_wp2_with fail
  go_at_call 19
  (with_reducible refine (R1 _).mono ?_)
  rintro e t6 ⟨rfl, y6⟩
  obtain ⟨⟨c6_0_0, c6_0_1, c6_0_2, c6_0_3⟩, ⟨c6_1_0, c6_1_1, c6_1_2, c6_1_3, c6_1_4, c6_1_5⟩, ⟨c6_2_0, c6_2_1, c6_2_2⟩, ⟨c6_3_0, c6_3_1, c6_3_2⟩, ⟨c6_4_0, c6_4_1, c6_4_2, c6_4_3, c6_4_4, c6_4_5⟩, ⟨c6_5_0, c6_5_1, c6_5_2⟩, ⟨c6_6_0, c6_6_1, c6_6_2, c6_6_3⟩, bel6⟩ : b4 t6 w.heap.size n a0 a1 a2 ∧ b6 t6 (w.heap.size + 1) x0 x1 x2 x3 x4 x5 ∧ b3 t6 (w.heap.size + 1 + 1) s0 s1 s2 ∧ b3 t6 (w.heap.size + 1 + 1 + 1) c0 c1 c2 ∧ b6 t6 t1.heap.size 0 0 0 0 0 0 ∧ b3 t6 t2.heap.size z0 z1 z2 ∧ b4 t6 t3.heap.size n q0 q1 q2 ∧ Below w.heap.size w t6 := by
    refine ⟨?_, ?_, ?_, ?_, ?_, ?_, ?_, bs0 bel5 y6⟩ <;> (repeat' apply And.intro) <;> exact cell_later y6 (by (first | assumption | exact c_alloc (by assumption) | exact c_at rfl rfl))
  clear y6 c5_0_0 c5_0_1 c5_0_2 c5_0_3 c5_1_0 c5_1_1 c5_1_2 c5_1_3 c5_1_4 c5_1_5 c5_2_0 c5_2_1 c5_2_2 c5_3_0 c5_3_1 c5_3_2 c5_4_0 c5_4_1 c5_4_2 c5_4_3 c5_4_4 c5_4_5 c5_5_0 c5_5_1 c5_5_2 c5_6_0 c5_6_1 c5_6_2 c5_6_3 bel5 zc5_0 zc5_1 zc5_2 zc5_3 zc5_4 zc5_5 zc5_6
  have zc6_0 := ltc c6_0_0
  have zc6_1 := ltc c6_1_0
  have zc6_2 := ltc c6_2_0
  have zc6_3 := ltc c6_3_0
  have zc6_4 := ltc c6_4_0
  have zc6_5 := ltc c6_5_0
  have zc6_6 := ltc c6_6_0
  go_wp2_with fail
  go_at_call 18
  (with_reducible refine (Hi _).mono ?_)
  rintro e t7 ⟨rfl, y7⟩
  obtain ⟨⟨c7_0_0, c7_0_1, c7_0_2, c7_0_3⟩, ⟨c7_1_0, c7_1_1, c7_1_2, c7_1_3, c7_1_4, c7_1_5⟩, ⟨c7_2_0, c7_2_1, c7_2_2⟩, ⟨c7_3_0, c7_3_1, c7_3_2⟩, ⟨c7_4_0, c7_4_1, c7_4_2, c7_4_3, c7_4_4, c7_4_5⟩, ⟨c7_5_0, c7_5_1, c7_5_2⟩, ⟨c7_6_0, c7_6_1, c7_6_2, c7_6_3⟩, bel7⟩ : b4 t7 w.heap.size n a0 a1 a2 ∧ b6 t7 (w.heap.size + 1) x0 x1 x2 x3 x4 x5 ∧ b3 t7 (w.heap.size + 1 + 1) s0 s1 s2 ∧ b3 t7 (w.heap.size + 1 + 1 + 1) c0 c1 c2 ∧ b6 t7 t1.heap.size 0 0 0 0 0 0 ∧ b3 t7 t2.heap.size z0 z1 z2 ∧ b4 t7 t3.heap.size n q0 q1 q2 ∧ Below w.heap.size w t7 := by
    refine ⟨?_, ?_, ?_, ?_, ?_, ?_, ?_, bs0 bel6 y7⟩ <;> (repeat' apply And.intro) <;> exact cell_later y7 (by (first | assumption | exact c_alloc (by assumption) | exact c_at rfl rfl))
  clear y7 c6_0_0 c6_0_1 c6_0_2 c6_0_3 c6_1_0 c6_1_1 c6_1_2 c6_1_3 c6_1_4 c6_1_5 c6_2_0 c6_2_1 c6_2_2 c6_3_0 c6_3_1 c6_3_2 c6_4_0 c6_4_1 c6_4_2 c6_4_3 c6_4_4 c6_4_5 c6_5_0 c6_5_1 c6_5_2 c6_6_0 c6_6_1 c6_6_2 c6_6_3 bel6 zc6_0 zc6_1 zc6_2 zc6_3 zc6_4 zc6_5 zc6_6
  have zc7_0 := ltc c7_0_0
  have zc7_1 := ltc c7_1_0
  have zc7_2 := ltc c7_2_0
  have zc7_3 := ltc c7_3_0
  have zc7_4 := ltc c7_4_0
  have zc7_5 := ltc c7_5_0
  have zc7_6 := ltc c7_6_0
  go_upto_region 11 with fail
  refine gen_world (F := fun W1 => b4 W1 w.heap.size n a0 a1 a2 ∧ b6 W1 (w.heap.size + 1) x0 x1 x2 x3 x4 x5 ∧ b3 W1 (w.heap.size + 1 + 1) s0 s1 s2 ∧ b3 W1 (w.heap.size + 1 + 1 + 1) c0 c1 c2 ∧ b6 W1 t1.heap.size 0 0 0 0 0 0 ∧ b3 W1 t2.heap.size z0 z1 z2 ∧ b4 W1 t3.heap.size n q0 q1 q2 ∧ Below w.heap.size w W1) ?_ (fun W1 hW => ?_)
  · refine ⟨?_, ?_, ?_, ?_, ?_, ?_, ?_, bel7⟩ <;> (repeat' apply And.intro) <;> (first | assumption | exact c_alloc (by assumption) | exact c_at rfl rfl)
  obtain ⟨⟨g1_0_0, g1_0_1, g1_0_2, g1_0_3⟩, ⟨g1_1_0, g1_1_1, g1_1_2, g1_1_3, g1_1_4, g1_1_5⟩, ⟨g1_2_0, g1_2_1, g1_2_2⟩, ⟨g1_3_0, g1_3_1, g1_3_2⟩, ⟨g1_4_0, g1_4_1, g1_4_2, g1_4_3, g1_4_4, g1_4_5⟩, ⟨g1_5_0, g1_5_1, g1_5_2⟩, ⟨g1_6_0, g1_6_1, g1_6_2, g1_6_3⟩, gb1⟩ := hW
  clear c7_0_0 c7_0_1 c7_0_2 c7_0_3 c7_1_0 c7_1_1 c7_1_2 c7_1_3 c7_1_4 c7_1_5 c7_2_0 c7_2_1 c7_2_2 c7_3_0 c7_3_1 c7_3_2 c7_4_0 c7_4_1 c7_4_2 c7_4_3 c7_4_4 c7_4_5 c7_5_0 c7_5_1 c7_5_2 c7_6_0 c7_6_1 c7_6_2 c7_6_3 bel7 zc7_0 zc7_1 zc7_2 zc7_3 zc7_4 zc7_5 zc7_6
  have mkq1 : ∀ w', Below W1.heap.size W1 w' → (Below W1.heap.size W1 w' ∧ b4 w' w.heap.size n a0 a1 a2 ∧ b6 w' (w.heap.size + 1) x0 x1 x2 x3 x4 x5 ∧ b3 w' (w.heap.size + 1 + 1) s0 s1 s2 ∧ b3 w' (w.heap.size + 1 + 1 + 1) c0 c1 c2 ∧ b6 w' t1.heap.size 0 0 0 0 0 0 ∧ b3 w' t2.heap.size z0 z1 z2 ∧ b4 w' t3.heap.size n q0 q1 q2) := fun w' h => ⟨h, b4.later h ⟨g1_0_0, g1_0_1, g1_0_2, g1_0_3⟩, b6.later h ⟨g1_1_0, g1_1_1, g1_1_2, g1_1_3, g1_1_4, g1_1_5⟩, b3.later h ⟨g1_2_0, g1_2_1, g1_2_2⟩, b3.later h ⟨g1_3_0, g1_3_1, g1_3_2⟩, b6.later h ⟨g1_4_0, g1_4_1, g1_4_2, g1_4_3, g1_4_4, g1_4_5⟩, b3.later h ⟨g1_5_0, g1_5_1, g1_5_2⟩, b4.later h ⟨g1_6_0, g1_6_1, g1_6_2, g1_6_3⟩⟩
  refine wp_region_held_drew (S := fun w' => Below W1.heap.size W1 w' ∧ b4 w' w.heap.size n a0 a1 a2 ∧ b6 w' (w.heap.size + 1) x0 x1 x2 x3 x4 x5 ∧ b3 w' (w.heap.size + 1 + 1) s0 s1 s2 ∧ b3 w' (w.heap.size + 1 + 1 + 1) c0 c1 c2 ∧ b6 w' t1.heap.size 0 0 0 0 0 0 ∧ b3 w' t2.heap.size z0 z1 z2 ∧ b4 w' t3.heap.size n q0 q1 q2) (by kernel_rfl) (mkq1 _ ((Below.refl _ _).drew)) (fun hHeld => ?_)
  refine tkZ 0 ?_ rfl ?_ ?_
  rotate_left
  · intro w _; go_simp <;> with_reducible rfl
  try simp only [Act.put, pSa, pSb, pSc]
  refine tkZ 1 ?_ rfl ?_ ?_
  rotate_left
  · intro w _; go_simp <;> with_reducible rfl
  try simp only [Act.put, pSa, pSb, pSc]
  refine tkZ 2 ?_ rfl ?_ ?_
  rotate_left
  · intro w _; go_simp <;> with_reducible rfl
  try simp only [Act.put, pSa, pSb, pSc]
  refine tkZ 3 ?_ rfl ?_ ?_
  rotate_left
  · intro w _; go_simp <;> with_reducible rfl
  try simp only [Act.put, pSa, pSb, pSc]
  refine tkZ 4 ?_ rfl ?_ ?_
  rotate_left
  · intro w _; go_simp <;> with_reducible rfl
  try simp only [Act.put, pSa, pSb, pSc]
  refine tkZ 5 ?_ rfl ?_ ?_
  rotate_left
  · intro w _; go_simp <;> with_reducible rfl
  try simp only [Act.put, pSa, pSb, pSc]
  refine tkZ 6 ?_ rfl ?_ ?_
  rotate_left
  · intro w _; go_simp <;> with_reducible rfl
  try simp only [Act.put, pSa, pSb, pSc]
  refine tnZ 7 rfl ?_
  try simp only [Act.put, pSa, pSb, pSc]
  refine tnZ 8 rfl ?_
  try simp only [Act.put, pSa, pSb, pSc]
  refine tnZ 9 rfl ?_
  try simp only [Act.put, pSa, pSb, pSc]
  refine tnZ 10 rfl ?_
  try simp only [Act.put, pSa, pSb, pSc]
  refine tnZ 11 rfl ?_
  try simp only [Act.put, pSa, pSb, pSc]
  refine tkZ 12 ?_ rfl ?_ ?_
  rotate_left
  · intro w _; go_simp <;> with_reducible rfl
  try simp only [Act.put, pSa, pSb, pSc]
  refine tkZ 13 ?_ rfl ?_ ?_
  rotate_left
  · intro w _; go_simp <;> with_reducible rfl
  try simp only [Act.put, pSa, pSb, pSc]
  refine tkZ 14 ?_ rfl ?_ ?_
  rotate_left
  · intro w _; go_simp <;> with_reducible rfl
  try simp only [Act.put, pSa, pSb, pSc]
  refine tkZ 15 ?_ rfl ?_ ?_
  rotate_left
  · intro w _; go_simp <;> with_reducible rfl
  try simp only [Act.put, pSa, pSb, pSc]
  refine tkZ 16 ?_ rfl ?_ ?_
  rotate_left
  · intro w _; go_simp <;> with_reducible rfl
  try simp only [Act.put, pSa, pSb, pSc]
  refine tkZ 17 ?_ rfl ?_ ?_
  rotate_left
  · intro w _; go_simp <;> with_reducible rfl
  try simp only [Act.put, pSa, pSb, pSc]
  refine tkZ 18 ?_ rfl ?_ ?_
  rotate_left
  · intro w h; simp only [b3, b4, b6, cE] at h; go_simp <;> with_reducible rfl
  try simp only [Act.put, pSa, pSb, pSc]
  refine tkZ 19 ?_ rfl ?_ ?_
  rotate_left
  · intro w _; go_simp <;> with_reducible rfl
  try simp only [Act.put, pSa, pSb, pSc]
  refine tkZ 20 ?_ rfl ?_ ?_
  rotate_left
  · intro w _; go_simp <;> with_reducible rfl
  try simp only [Act.put, pSa, pSb, pSc]
  refine tkZ 21 ?_ rfl ?_ ?_
  rotate_left
  · intro w _; go_simp <;> with_reducible rfl
  try simp only [Act.put, pSa, pSb, pSc]
  refine tkZ 22 ?_ rfl ?_ ?_
  rotate_left
  · intro w _; go_simp <;> with_reducible rfl
  try simp only [Act.put, pSa, pSb, pSc]
  refine wpAnyH_done (by kernel_rfl) ?_ _
  have belq1 := b_step gb1 hHeld.1 gb1.size
  obtain ⟨-, ⟨h1_0_0, h1_0_1, h1_0_2, h1_0_3⟩, ⟨h1_1_0, h1_1_1, h1_1_2, h1_1_3, h1_1_4, h1_1_5⟩, ⟨h1_2_0, h1_2_1, h1_2_2⟩, ⟨h1_3_0, h1_3_1, h1_3_2⟩, ⟨h1_4_0, h1_4_1, h1_4_2, h1_4_3, h1_4_4, h1_4_5⟩, ⟨h1_5_0, h1_5_1, h1_5_2⟩, ⟨h1_6_0, h1_6_1, h1_6_2, h1_6_3⟩⟩ := hHeld
  clear gb1 mkq1 g1_0_0 g1_0_1 g1_0_2 g1_0_3 g1_1_0 g1_1_1 g1_1_2 g1_1_3 g1_1_4 g1_1_5 g1_2_0 g1_2_1 g1_2_2 g1_3_0 g1_3_1 g1_3_2 g1_4_0 g1_4_1 g1_4_2 g1_4_3 g1_4_4 g1_4_5 g1_5_0 g1_5_1 g1_5_2 g1_6_0 g1_6_1 g1_6_2 g1_6_3
  have zh1_0 := ltc h1_0_0
  have zh1_1 := ltc h1_1_0
  have zh1_2 := ltc h1_2_0
  have zh1_3 := ltc h1_3_0
  have zh1_4 := ltc h1_4_0
  have zh1_5 := ltc h1_5_0
  have zh1_6 := ltc h1_6_0
  go_wp2_with fail
  go_at_call 20
  (with_reducible refine (Hz _).mono ?_)
  rintro e t8 ⟨rfl, y8⟩
  obtain ⟨⟨c8_0_0, c8_0_1, c8_0_2, c8_0_3⟩, ⟨c8_1_0, c8_1_1, c8_1_2, c8_1_3, c8_1_4, c8_1_5⟩, ⟨c8_2_0, c8_2_1, c8_2_2⟩, ⟨c8_3_0, c8_3_1, c8_3_2⟩, ⟨c8_4_0, c8_4_1, c8_4_2⟩, ⟨c8_5_0, c8_5_1, c8_5_2, c8_5_3⟩, bel8⟩ : b4 t8 w.heap.size n a0 a1 a2 ∧ b6 t8 (w.heap.size + 1) x0 x1 x2 x3 x4 x5 ∧ b3 t8 (w.heap.size + 1 + 1) s0 s1 s2 ∧ b3 t8 (w.heap.size + 1 + 1 + 1) c0 c1 c2 ∧ b3 t8 t2.heap.size z0 z1 z2 ∧ b4 t8 t3.heap.size n q0 q1 q2 ∧ Below w.heap.size w t8 := by
    refine ⟨?_, ?_, ?_, ?_, ?_, ?_, bs0 belq1 y8⟩ <;> (repeat' apply And.intro) <;> exact cell_later y8 (by (first | assumption | exact c_alloc (by assumption) | exact c_at rfl rfl))
  clear y8 h1_0_0 h1_0_1 h1_0_2 h1_0_3 h1_1_0 h1_1_1 h1_1_2 h1_1_3 h1_1_4 h1_1_5 h1_2_0 h1_2_1 h1_2_2 h1_3_0 h1_3_1 h1_3_2 h1_4_0 h1_4_1 h1_4_2 h1_4_3 h1_4_4 h1_4_5 h1_5_0 h1_5_1 h1_5_2 h1_6_0 h1_6_1 h1_6_2 h1_6_3 belq1 zh1_0 zh1_1 zh1_2 zh1_3 zh1_4 zh1_5 zh1_6
  have zc8_0 := ltc c8_0_0
  have zc8_1 := ltc c8_1_0
  have zc8_2 := ltc c8_2_0
  have zc8_3 := ltc c8_3_0
  have zc8_4 := ltc c8_4_0
  have zc8_5 := ltc c8_5_0
  go_upto_region 15 with fail
  refine gen_world (F := fun W2 => b4 W2 w.heap.size n a0 a1 a2 ∧ b6 W2 (w.heap.size + 1) x0 x1 x2 x3 x4 x5 ∧ b3 W2 (w.heap.size + 1 + 1) s0 s1 s2 ∧ b3 W2 (w.heap.size + 1 + 1 + 1) c0 c1 c2 ∧ b3 W2 t2.heap.size z0 z1 z2 ∧ b4 W2 t3.heap.size n q0 q1 q2 ∧ Below w.heap.size w W2) ?_ (fun W2 hW => ?_)
  · refine ⟨?_, ?_, ?_, ?_, ?_, ?_, bel8⟩ <;> (repeat' apply And.intro) <;> (first | assumption | exact c_alloc (by assumption) | exact c_at rfl rfl)
  obtain ⟨⟨g2_0_0, g2_0_1, g2_0_2, g2_0_3⟩, ⟨g2_1_0, g2_1_1, g2_1_2, g2_1_3, g2_1_4, g2_1_5⟩, ⟨g2_2_0, g2_2_1, g2_2_2⟩, ⟨g2_3_0, g2_3_1, g2_3_2⟩, ⟨g2_4_0, g2_4_1, g2_4_2⟩, ⟨g2_5_0, g2_5_1, g2_5_2, g2_5_3⟩, gb2⟩ := hW
  clear c8_0_0 c8_0_1 c8_0_2 c8_0_3 c8_1_0 c8_1_1 c8_1_2 c8_1_3 c8_1_4 c8_1_5 c8_2_0 c8_2_1 c8_2_2 c8_3_0 c8_3_1 c8_3_2 c8_4_0 c8_4_1 c8_4_2 c8_5_0 c8_5_1 c8_5_2 c8_5_3 bel8 zc8_0 zc8_1 zc8_2 zc8_3 zc8_4 zc8_5
  have mkq2 : ∀ w', Below W2.heap.size W2 w' → (Below W2.heap.size W2 w' ∧ b4 w' w.heap.size n a0 a1 a2 ∧ b6 w' (w.heap.size + 1) x0 x1 x2 x3 x4 x5 ∧ b3 w' (w.heap.size + 1 + 1) s0 s1 s2 ∧ b3 w' (w.heap.size + 1 + 1 + 1) c0 c1 c2 ∧ b3 w' t2.heap.size z0 z1 z2 ∧ b4 w' t3.heap.size n q0 q1 q2) := fun w' h => ⟨h, b4.later h ⟨g2_0_0, g2_0_1, g2_0_2, g2_0_3⟩, b6.later h ⟨g2_1_0, g2_1_1, g2_1_2, g2_1_3, g2_1_4, g2_1_5⟩, b3.later h ⟨g2_2_0, g2_2_1, g2_2_2⟩, b3.later h ⟨g2_3_0, g2_3_1, g2_3_2⟩, b3.later h ⟨g2_4_0, g2_4_1, g2_4_2⟩, b4.later h ⟨g2_5_0, g2_5_1, g2_5_2, g2_5_3⟩⟩
  refine wp_region_held_drew (S := fun w' => Below W2.heap.size W2 w' ∧ b4 w' w.heap.size n a0 a1 a2 ∧ b6 w' (w.heap.size + 1) x0 x1 x2 x3 x4 x5 ∧ b3 w' (w.heap.size + 1 + 1) s0 s1 s2 ∧ b3 w' (w.heap.size + 1 + 1 + 1) c0 c1 c2 ∧ b3 w' t2.heap.size z0 z1 z2 ∧ b4 w' t3.heap.size n q0 q1 q2) (by kernel_rfl) (mkq2 _ ((Below.refl _ _).drew)) (fun hHeld => ?_)
  refine tkZ 0 ?_ rfl ?_ ?_
  rotate_left
  · intro w _; go_simp <;> with_reducible rfl
  try simp only [Act.put, pSa, pSb, pSc]
  refine tkZ 1 ?_ rfl ?_ ?_
  rotate_left
  · intro w _; go_simp <;> with_reducible rfl
  try simp only [Act.put, pSa, pSb, pSc]
  refine tkZ 2 ?_ rfl ?_ ?_
  rotate_left
  · intro w _; go_simp <;> with_reducible rfl
  try simp only [Act.put, pSa, pSb, pSc]
  refine tkZ 3 ?_ rfl ?_ ?_
  rotate_left
  · intro w h; simp only [b3, b4, b6, cE] at h; go_simp <;> with_reducible rfl
  try simp only [Act.put, pSa, pSb, pSc]
  refine tkZ 4 ?_ rfl ?_ ?_
  rotate_left
  · intro w _; go_simp <;> with_reducible rfl
  try simp only [Act.put, pSa, pSb, pSc]
  refine tkZ 5 ?_ rfl ?_ ?_
  rotate_left
  · intro w h; simp only [b3, b4, b6, cE] at h; go_simp <;> with_reducible rfl
  try simp only [Act.put, pSa, pSb, pSc]
  refine tkZ 6 ?_ rfl ?_ ?_
  rotate_left
  · intro w h; simp only [b3, b4, b6, cE] at h; go_simp <;> with_reducible rfl
  try simp only [Act.put, pSa, pSb, pSc]
  refine rOne 7 rfl (fun K hK => ?_)
  go_simp
  go_at_call 21
  (with_reducible refine (R2 _).mono ?_)
  rintro e rq21 ⟨rfl, zq21⟩
  go_wp2_with fail
  refine hK.out _ _ (mkq2 _ (b_step hHeld.1 zq21 hHeld.1.size)) (fun hHeld2 => ?_)
  clear hK K hHeld
  have hHeld := hHeld2
  clear hHeld2
  (try simp only [Act.put, pSa, pSb, pSc])
  refine tkZ 8 ?_ rfl ?_ ?_
  rotate_left
  · intro w _; go_simp <;> with_reducible rfl
  try simp only [Act.put, pSa, pSb, pSc]
  refine tkZ 9 ?_ rfl ?_ ?_
  rotate_left
  · intro w _; go_simp <;> with_reducible rfl
  try simp only [Act.put, pSa, pSb, pSc]
  refine wpAnyH_done (by kernel_rfl) ?_ _
  have belq2 := b_step gb2 hHeld.1 gb2.size
  obtain ⟨-, ⟨h2_0_0, h2_0_1, h2_0_2, h2_0_3⟩, ⟨h2_1_0, h2_1_1, h2_1_2, h2_1_3, h2_1_4, h2_1_5⟩, ⟨h2_2_0, h2_2_1, h2_2_2⟩, ⟨h2_3_0, h2_3_1, h2_3_2⟩, ⟨h2_4_0, h2_4_1, h2_4_2⟩, ⟨h2_5_0, h2_5_1, h2_5_2, h2_5_3⟩⟩ := hHeld
  clear gb2 mkq2 g2_0_0 g2_0_1 g2_0_2 g2_0_3 g2_1_0 g2_1_1 g2_1_2 g2_1_3 g2_1_4 g2_1_5 g2_2_0 g2_2_1 g2_2_2 g2_3_0 g2_3_1 g2_3_2 g2_4_0 g2_4_1 g2_4_2 g2_5_0 g2_5_1 g2_5_2 g2_5_3
  have zh2_0 := ltc h2_0_0
  have zh2_1 := ltc h2_1_0
  have zh2_2 := ltc h2_2_0
  have zh2_3 := ltc h2_3_0
  have zh2_4 := ltc h2_4_0
  have zh2_5 := ltc h2_5_0
  go_wp2_with fail
  go_at_call 17
  (with_reducible refine (Nc _).mono ?_)
  rintro e t9 ⟨rfl, y9⟩
  obtain ⟨⟨c9_0_0, c9_0_1, c9_0_2, c9_0_3⟩, ⟨c9_1_0, c9_1_1, c9_1_2, c9_1_3, c9_1_4, c9_1_5⟩, ⟨c9_2_0, c9_2_1, c9_2_2⟩, ⟨c9_3_0, c9_3_1, c9_3_2⟩, ⟨c9_4_0, c9_4_1, c9_4_2⟩, ⟨c9_5_0, c9_5_1, c9_5_2, c9_5_3⟩, bel9⟩ : b4 t9 w.heap.size n a0 a1 a2 ∧ b6 t9 (w.heap.size + 1) x0 x1 x2 x3 x4 x5 ∧ b3 t9 (w.heap.size + 1 + 1) s0 s1 s2 ∧ b3 t9 (w.heap.size + 1 + 1 + 1) c0 c1 c2 ∧ b3 t9 t2.heap.size z0 z1 z2 ∧ b4 t9 t3.heap.size n q0 q1 q2 ∧ Below w.heap.size w t9 := by
    refine ⟨?_, ?_, ?_, ?_, ?_, ?_, bs0 belq2 y9⟩ <;> (repeat' apply And.intro) <;> exact cell_later y9 (by (first | assumption | exact c_alloc (by assumption) | exact c_at rfl rfl))
  clear y9 h2_0_0 h2_0_1 h2_0_2 h2_0_3 h2_1_0 h2_1_1 h2_1_2 h2_1_3 h2_1_4 h2_1_5 h2_2_0 h2_2_1 h2_2_2 h2_3_0 h2_3_1 h2_3_2 h2_4_0 h2_4_1 h2_4_2 h2_5_0 h2_5_1 h2_5_2 h2_5_3 belq2 zh2_0 zh2_1 zh2_2 zh2_3 zh2_4 zh2_5
  have zc9_0 := ltc c9_0_0
  have zc9_1 := ltc c9_1_0
  have zc9_2 := ltc c9_2_0
  have zc9_3 := ltc c9_3_0
  have zc9_4 := ltc c9_4_0
  have zc9_5 := ltc c9_5_0
  go_wp2_with fail
  go_at_call 22
  (with_reducible refine (Hp _).mono ?_)
  rintro e t10 ⟨rfl, y10⟩
  obtain ⟨⟨c10_0_0, c10_0_1, c10_0_2, c10_0_3⟩, ⟨c10_1_0, c10_1_1, c10_1_2, c10_1_3, c10_1_4, c10_1_5⟩, ⟨c10_2_0, c10_2_1, c10_2_2⟩, ⟨c10_3_0, c10_3_1, c10_3_2⟩, ⟨c10_4_0, c10_4_1, c10_4_2⟩, ⟨c10_5_0, c10_5_1, c10_5_2, c10_5_3⟩, bel10⟩ : b4 t10 w.heap.size n a0 a1 a2 ∧ b6 t10 (w.heap.size + 1) x0 x1 x2 x3 x4 x5 ∧ b3 t10 (w.heap.size + 1 + 1) s0 s1 s2 ∧ b3 t10 (w.heap.size + 1 + 1 + 1) c0 c1 c2 ∧ b3 t10 t2.heap.size z0 z1 z2 ∧ b4 t10 t3.heap.size n q0 q1 q2 ∧ Below w.heap.size w t10 := by
    refine ⟨?_, ?_, ?_, ?_, ?_, ?_, bs0 bel9 y10⟩ <;> (repeat' apply And.intro) <;> exact cell_later y10 (by (first | assumption | exact c_alloc (by assumption) | exact c_at rfl rfl))
  clear y10 c9_0_0 c9_0_1 c9_0_2 c9_0_3 c9_1_0 c9_1_1 c9_1_2 c9_1_3 c9_1_4 c9_1_5 c9_2_0 c9_2_1 c9_2_2 c9_3_0 c9_3_1 c9_3_2 c9_4_0 c9_4_1 c9_4_2 c9_5_0 c9_5_1 c9_5_2 c9_5_3 bel9 zc9_0 zc9_1 zc9_2 zc9_3 zc9_4 zc9_5
  have zc10_0 := ltc c10_0_0
  have zc10_1 := ltc c10_1_0
  have zc10_2 := ltc c10_2_0
  have zc10_3 := ltc c10_3_0
  have zc10_4 := ltc c10_4_0
  have zc10_5 := ltc c10_5_0
  go_wp2_with fail
  go_at_call 17
  (with_reducible refine (Np _).mono ?_)
  rintro e t11 ⟨rfl, y11⟩
  obtain ⟨⟨c11_0_0, c11_0_1, c11_0_2, c11_0_3⟩, ⟨c11_1_0, c11_1_1, c11_1_2, c11_1_3, c11_1_4, c11_1_5⟩, ⟨c11_2_0, c11_2_1, c11_2_2⟩, ⟨c11_3_0, c11_3_1, c11_3_2⟩, ⟨c11_4_0, c11_4_1, c11_4_2⟩, ⟨c11_5_0, c11_5_1, c11_5_2, c11_5_3⟩, bel11⟩ : b4 t11 w.heap.size n a0 a1 a2 ∧ b6 t11 (w.heap.size + 1) x0 x1 x2 x3 x4 x5 ∧ b3 t11 (w.heap.size + 1 + 1) s0 s1 s2 ∧ b3 t11 (w.heap.size + 1 + 1 + 1) c0 c1 c2 ∧ b3 t11 t2.heap.size z0 z1 z2 ∧ b4 t11 t3.heap.size n q0 q1 q2 ∧ Below w.heap.size w t11 := by
    refine ⟨?_, ?_, ?_, ?_, ?_, ?_, bs0 bel10 y11⟩ <;> (repeat' apply And.intro) <;> exact cell_later y11 (by (first | assumption | exact c_alloc (by assumption) | exact c_at rfl rfl))
  clear y11 c10_0_0 c10_0_1 c10_0_2 c10_0_3 c10_1_0 c10_1_1 c10_1_2 c10_1_3 c10_1_4 c10_1_5 c10_2_0 c10_2_1 c10_2_2 c10_3_0 c10_3_1 c10_3_2 c10_4_0 c10_4_1 c10_4_2 c10_5_0 c10_5_1 c10_5_2 c10_5_3 bel10 zc10_0 zc10_1 zc10_2 zc10_3 zc10_4 zc10_5
  have zc11_0 := ltc c11_0_0
  have zc11_1 := ltc c11_1_0
  have zc11_2 := ltc c11_2_0
  have zc11_3 := ltc c11_3_0
  have zc11_4 := ltc c11_4_0
  have zc11_5 := ltc c11_5_0
  go_wp2_with fail
  go_at_call 23
  (with_reducible refine (R3 _).mono ?_)
  rintro e t12 ⟨rfl, y12⟩
  obtain ⟨⟨c12_0_0, c12_0_1, c12_0_2, c12_0_3⟩, ⟨c12_1_0, c12_1_1, c12_1_2, c12_1_3, c12_1_4, c12_1_5⟩, ⟨c12_2_0, c12_2_1, c12_2_2⟩, ⟨c12_3_0, c12_3_1, c12_3_2⟩, ⟨c12_4_0, c12_4_1, c12_4_2⟩, ⟨c12_5_0, c12_5_1, c12_5_2, c12_5_3⟩, bel12⟩ : b4 t12 w.heap.size n a0 a1 a2 ∧ b6 t12 (w.heap.size + 1) x0 x1 x2 x3 x4 x5 ∧ b3 t12 (w.heap.size + 1 + 1) s0 s1 s2 ∧ b3 t12 (w.heap.size + 1 + 1 + 1) c0 c1 c2 ∧ b3 t12 t2.heap.size z0 z1 z2 ∧ b4 t12 t3.heap.size n q0 q1 q2 ∧ Below w.heap.size w t12 := by
    refine ⟨?_, ?_, ?_, ?_, ?_, ?_, bs0 bel11 y12⟩ <;> (repeat' apply And.intro) <;> exact cell_later y12 (by (first | assumption | exact c_alloc (by assumption) | exact c_at rfl rfl))
  clear y12 c11_0_0 c11_0_1 c11_0_2 c11_0_3 c11_1_0 c11_1_1 c11_1_2 c11_1_3 c11_1_4 c11_1_5 c11_2_0 c11_2_1 c11_2_2 c11_3_0 c11_3_1 c11_3_2 c11_4_0 c11_4_1 c11_4_2 c11_5_0 c11_5_1 c11_5_2 c11_5_3 bel11 zc11_0 zc11_1 zc11_2 zc11_3 zc11_4 zc11_5
  have zc12_0 := ltc c12_0_0
  have zc12_1 := ltc c12_1_0
  have zc12_2 := ltc c12_2_0
  have zc12_3 := ltc c12_3_0
  have zc12_4 := ltc c12_4_0
  have zc12_5 := ltc c12_5_0
  go_wp2_with fail
  go_at_call 17
  (with_reducible refine (Nq _).mono ?_)
  rintro e t13 ⟨rfl, y13⟩
  obtain ⟨⟨c13_0_0, c13_0_1, c13_0_2, c13_0_3⟩, ⟨c13_1_0, c13_1_1, c13_1_2, c13_1_3, c13_1_4, c13_1_5⟩, ⟨c13_2_0, c13_2_1, c13_2_2⟩, ⟨c13_3_0, c13_3_1, c13_3_2⟩, ⟨c13_4_0, c13_4_1, c13_4_2⟩, ⟨c13_5_0, c13_5_1, c13_5_2, c13_5_3⟩, bel13⟩ : b4 t13 w.heap.size n a0 a1 a2 ∧ b6 t13 (w.heap.size + 1) x0 x1 x2 x3 x4 x5 ∧ b3 t13 (w.heap.size + 1 + 1) s0 s1 s2 ∧ b3 t13 (w.heap.size + 1 + 1 + 1) c0 c1 c2 ∧ b3 t13 t2.heap.size z0 z1 z2 ∧ b4 t13 t3.heap.size n q0 q1 q2 ∧ Below w.heap.size w t13 := by
    refine ⟨?_, ?_, ?_, ?_, ?_, ?_, bs0 bel12 y13⟩ <;> (repeat' apply And.intro) <;> exact cell_later y13 (by (first | assumption | exact c_alloc (by assumption) | exact c_at rfl rfl))
  clear y13 c12_0_0 c12_0_1 c12_0_2 c12_0_3 c12_1_0 c12_1_1 c12_1_2 c12_1_3 c12_1_4 c12_1_5 c12_2_0 c12_2_1 c12_2_2 c12_3_0 c12_3_1 c12_3_2 c12_4_0 c12_4_1 c12_4_2 c12_5_0 c12_5_1 c12_5_2 c12_5_3 bel12 zc12_0 zc12_1 zc12_2 zc12_3 zc12_4 zc12_5
  have zc13_0 := ltc c13_0_0
  have zc13_1 := ltc c13_1_0
  have zc13_2 := ltc c13_2_0
  have zc13_3 := ltc c13_3_0
  have zc13_4 := ltc c13_4_0
  have zc13_5 := ltc c13_5_0
  go_upto_region 20 with fail
  refine gen_world (F := fun W3 => b4 W3 w.heap.size n a0 a1 a2 ∧ b6 W3 (w.heap.size + 1) x0 x1 x2 x3 x4 x5 ∧ b3 W3 (w.heap.size + 1 + 1) s0 s1 s2 ∧ b3 W3 (w.heap.size + 1 + 1 + 1) c0 c1 c2 ∧ b3 W3 t2.heap.size z0 z1 z2 ∧ b4 W3 t3.heap.size n q0 q1 q2 ∧ Below w.heap.size w W3) ?_ (fun W3 hW => ?_)
  · refine ⟨?_, ?_, ?_, ?_, ?_, ?_, bel13⟩ <;> (repeat' apply And.intro) <;> (first | assumption | exact c_alloc (by assumption) | exact c_at rfl rfl)
  obtain ⟨⟨g3_0_0, g3_0_1, g3_0_2, g3_0_3⟩, ⟨g3_1_0, g3_1_1, g3_1_2, g3_1_3, g3_1_4, g3_1_5⟩, ⟨g3_2_0, g3_2_1, g3_2_2⟩, ⟨g3_3_0, g3_3_1, g3_3_2⟩, ⟨g3_4_0, g3_4_1, g3_4_2⟩, ⟨g3_5_0, g3_5_1, g3_5_2, g3_5_3⟩, gb3⟩ := hW
  clear c13_0_0 c13_0_1 c13_0_2 c13_0_3 c13_1_0 c13_1_1 c13_1_2 c13_1_3 c13_1_4 c13_1_5 c13_2_0 c13_2_1 c13_2_2 c13_3_0 c13_3_1 c13_3_2 c13_4_0 c13_4_1 c13_4_2 c13_5_0 c13_5_1 c13_5_2 c13_5_3 bel13 zc13_0 zc13_1 zc13_2 zc13_3 zc13_4 zc13_5
  have mkq3 : ∀ w', Below W3.heap.size W3 w' → (Below W3.heap.size W3 w' ∧ b4 w' w.heap.size n a0 a1 a2 ∧ b6 w' (w.heap.size + 1) x0 x1 x2 x3 x4 x5 ∧ b3 w' (w.heap.size + 1 + 1) s0 s1 s2 ∧ b3 w' (w.heap.size + 1 + 1 + 1) c0 c1 c2 ∧ b3 w' t2.heap.size z0 z1 z2 ∧ b4 w' t3.heap.size n q0 q1 q2) := fun w' h => ⟨h, b4.later h ⟨g3_0_0, g3_0_1, g3_0_2, g3_0_3⟩, b6.later h ⟨g3_1_0, g3_1_1, g3_1_2, g3_1_3, g3_1_4, g3_1_5⟩, b3.later h ⟨g3_2_0, g3_2_1, g3_2_2⟩, b3.later h ⟨g3_3_0, g3_3_1, g3_3_2⟩, b3.later h ⟨g3_4_0, g3_4_1, g3_4_2⟩, b4.later h ⟨g3_5_0, g3_5_1, g3_5_2, g3_5_3⟩⟩
  refine wp_region_held_drew (S := fun w' => Below W3.heap.size W3 w' ∧ b4 w' w.heap.size n a0 a1 a2 ∧ b6 w' (w.heap.size + 1) x0 x1 x2 x3 x4 x5 ∧ b3 w' (w.heap.size + 1 + 1) s0 s1 s2 ∧ b3 w' (w.heap.size + 1 + 1 + 1) c0 c1 c2 ∧ b3 w' t2.heap.size z0 z1 z2 ∧ b4 w' t3.heap.size n q0 q1 q2) (by kernel_rfl) (mkq3 _ ((Below.refl _ _).drew)) (fun hHeld => ?_)
  refine rOne 0 rfl (fun K hK => ?_)
  go_simp
  go_at_call 15
  (with_reducible refine (Hq _ (b_step gb3 hHeld.1 gb3.size)).mono ?_)
  rintro e rq31 ⟨rfl, zq31⟩
  go_wp2_with fail
  refine hK.out _ _ (mkq3 _ (b_step hHeld.1 zq31 hHeld.1.size)) (fun hHeld2 => ?_)
  clear hK K hHeld
  have hHeld := hHeld2
  clear hHeld2
  (try simp only [Act.put, pSa, pSb, pSc])
  refine tkZ 1 ?_ rfl ?_ ?_
  rotate_left
  · intro w _; go_simp <;> with_reducible rfl
  try simp only [Act.put, pSa, pSb, pSc]
  refine tkZ 2 ?_ rfl ?_ ?_
  rotate_left
  · intro w _; go_simp <;> with_reducible rfl
  try simp only [Act.put, pSa, pSb, pSc]
  refine tkZ 3 ?_ rfl ?_ ?_
  rotate_left
  · intro w _; go_simp <;> with_reducible rfl
  try simp only [Act.put, pSa, pSb, pSc]
  refine tkZ 4 ?_ rfl ?_ ?_
  rotate_left
  · intro w _; go_simp <;> with_reducible rfl
  try simp only [Act.put, pSa, pSb, pSc]
  refine tkZ 5 ?_ rfl ?_ ?_
  rotate_left
  · intro w _; go_simp <;> with_reducible rfl
  try simp only [Act.put, pSa, pSb, pSc]
  refine tkZ 6 ?_ rfl ?_ ?_
  rotate_left
  · intro w _; go_simp <;> with_reducible rfl
  try simp only [Act.put, pSa, pSb, pSc]
  refine tkZ 7 ?_ rfl ?_ ?_
  rotate_left
  · intro w _; go_simp <;> with_reducible rfl
  try simp only [Act.put, pSa, pSb, pSc]
  refine tkZ 8 ?_ rfl ?_ ?_
  rotate_left
  · intro w _; go_simp <;> with_reducible rfl
  try simp only [Act.put, pSa, pSb, pSc]
  refine tkZ 9 ?_ rfl ?_ ?_
  rotate_left
  · intro w _; go_simp <;> with_reducible rfl
  try simp only [Act.put, pSa, pSb, pSc]
  refine tkZ 10 ?_ rfl ?_ ?_
  rotate_left
  · intro w h; simp only [b3, b4, b6, cE] at h; go_simp <;> with_reducible rfl
  try simp only [Act.put, pSa, pSb, pSc]
  refine tkZ 11 ?_ rfl ?_ ?_
  rotate_left
  · intro w _; go_simp <;> with_reducible rfl
  try simp only [Act.put, pSa, pSb, pSc]
  refine tkZ 12 ?_ rfl ?_ ?_
  rotate_left
  · intro w h; simp only [b3, b4, b6, cE] at h; go_simp <;> with_reducible rfl
  try simp only [Act.put, pSa, pSb, pSc]
  refine tkZ 13 ?_ rfl ?_ ?_
  rotate_left
  · intro w h; simp only [b3, b4, b6, cE] at h; go_simp <;> with_reducible rfl
  try simp only [Act.put, pSa, pSb, pSc]
  refine tkZ 14 ?_ rfl ?_ ?_
  rotate_left
  · intro w h; simp only [b3, b4, b6, cE] at h; go_simp <;> with_reducible rfl
  try simp only [Act.put, pSa, pSb, pSc]
  refine rOne 15 rfl (fun K hK => ?_)
  go_simp
  go_at_call 23
  (with_reducible refine (R3 _).mono ?_)
  rintro e rq32 ⟨rfl, zq32⟩
  go_wp2_with fail
  refine hK.out _ _ (mkq3 _ (b_step hHeld.1 zq32 hHeld.1.size)) (fun hHeld2 => ?_)
  clear hK K hHeld
  have hHeld := hHeld2
  clear hHeld2
  (try simp only [Act.put, pSa, pSb, pSc])
  refine tkZ 16 ?_ rfl ?_ ?_
  rotate_left
  · intro w _; go_simp <;> with_reducible rfl
  try simp only [Act.put, pSa, pSb, pSc]
  refine tkZ 17 ?_ rfl ?_ ?_
  rotate_left
  · intro w _; go_simp <;> with_reducible rfl
  try simp only [Act.put, pSa, pSb, pSc]
  refine tkZ 18 ?_ rfl ?_ ?_
  rotate_left
  · intro w _; go_simp <;> with_reducible rfl
  try simp only [Act.put, pSa, pSb, pSc]
  refine tnZ 19 rfl ?_
  try simp only [Act.put, pSa, pSb, pSc]
  refine tnZ 20 rfl ?_
  try simp only [Act.put, pSa, pSb, pSc]
  refine tnZ 21 rfl ?_
  try simp only [Act.put, pSa, pSb, pSc]
  refine tnZ 22 rfl ?_
  try simp only [Act.put, pSa, pSb, pSc]
  refine tnZ 23 rfl ?_
  try simp only [Act.put, pSa, pSb, pSc]
  refine tnZ 24 rfl ?_
  try simp only [Act.put, pSa, pSb, pSc]
  refine tnZ 25 rfl ?_
  try simp only [Act.put, pSa, pSb, pSc]
  refine tkZ 26 ?_ rfl ?_ ?_
  rotate_left
  · intro w _; go_simp <;> with_reducible rfl
  try simp only [Act.put, pSa, pSb, pSc]
  refine tkZ 27 ?_ rfl ?_ ?_
  rotate_left
  · intro w _; go_simp <;> with_reducible rfl
  try simp only [Act.put, pSa, pSb, pSc]
  refine tkZ 28 ?_ rfl ?_ ?_
  rotate_left
  · intro w _; go_simp <;> with_reducible rfl
  try simp only [Act.put, pSa, pSb, pSc]
  refine wpAnyH_done (by kernel_rfl) ?_ _
  have belq3 := b_step gb3 hHeld.1 gb3.size
  obtain ⟨-, ⟨h3_0_0, h3_0_1, h3_0_2, h3_0_3⟩, ⟨h3_1_0, h3_1_1, h3_1_2, h3_1_3, h3_1_4, h3_1_5⟩, ⟨h3_2_0, h3_2_1, h3_2_2⟩, ⟨h3_3_0, h3_3_1, h3_3_2⟩, ⟨h3_4_0, h3_4_1, h3_4_2⟩, ⟨h3_5_0, h3_5_1, h3_5_2, h3_5_3⟩⟩ := hHeld
  clear gb3 mkq3 g3_0_0 g3_0_1 g3_0_2 g3_0_3 g3_1_0 g3_1_1 g3_1_2 g3_1_3 g3_1_4 g3_1_5 g3_2_0 g3_2_1 g3_2_2 g3_3_0 g3_3_1 g3_3_2 g3_4_0 g3_4_1 g3_4_2 g3_5_0 g3_5_1 g3_5_2 g3_5_3
  have zh3_0 := ltc h3_0_0
  have zh3_1 := ltc h3_1_0
  have zh3_2 := ltc h3_2_0
  have zh3_3 := ltc h3_3_0
  have zh3_4 := ltc h3_4_0
  have zh3_5 := ltc h3_5_0
  go_wp2
  go_ret
  exact ⟨rfl, belq3⟩
end Go.Proofs.YtibncdefhphggaaDoor
