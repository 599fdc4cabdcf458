/- The walk of OrientPlaces, first part. -/
import Derived.Test.YtibncdefhphggaaDoorK
namespace Go.Proofs.YtibncdefhphggaaDoor
open Go.RowKit
set_option linter.unusedSimpArgs false
set_option linter.unusedVariables false
attribute [local go_sem ↓] Go.wp_at_zero Go.wp_at_succ

set_option maxRecDepth 100000 in
set_option maxHeartbeats 16000000 in
theorem places_1 (n s0 s1 s2 c0 c1 c2 k z q0 q1 q2 d0 d1 d2 e0 e1 e2 : Int) (w : World)
    (Hq : ∀ W, Below w.heap.size w W → Calls Tryd.prog 15 #[] W fun r w' => r = .returned (.bool true) ∧ Below W.heap.size W w')
    (Hp : ∀ w, Calls Tryd.prog 13 #[.int .i64 n, vV s0 s1 s2, vV c0 c1 c2] w fun r w' => r = .returned (.tuple #[vP k q0 q1 q2, .int .i64 z]) ∧ Below w.heap.size w w')
    (L0 : ∀ W, Below w.heap.size w W → Calls Tryd.prog 24 #[.int .i64 0] W fun r w' => ∃ a k, r = .returned (.tuple #[.slice a 24 k, .int .i64 0]) ∧ Below W.heap.size W w')
    (L1 : ∀ W, Below w.heap.size w W → Calls Tryd.prog 24 #[.int .i64 1] W fun r w' => ∃ a k, r = .returned (.tuple #[.slice a 8 k, .int .i64 0]) ∧ Below W.heap.size W w')
    (L2 : ∀ W, Below w.heap.size w W → Calls Tryd.prog 24 #[.int .i64 2] W fun r w' => ∃ a k, r = .returned (.tuple #[.slice a 4 k, .int .i64 0]) ∧ Below W.heap.size W w')
    (L3 : ∀ W, Below w.heap.size w W → Calls Tryd.prog 24 #[.int .i64 3] W fun r w' => ∃ a k, r = .returned (.tuple #[.slice a 16 k, .int .i64 0]) ∧ Below W.heap.size W w')
    (hn : n < 0) (hz : z ≠ 0) :
    Calls Tryd.prog 8 #[.int .i64 n, vV s0 s1 s2, vV c0 c1 c2] w fun e w' => e = .returned (.bool true) ∧ Below w.heap.size w w' := by
  go_enter Tryd.func8, Tryd.ntmps8
  go_wp2
  refine wp_loop_rounds 5 ?_
  rw [rounds_succ]
  go_wp2_with fail
  go_at_call 24
  (with_reducible refine (L0 _ (by (repeat' (first | (with_reducible assumption) | (with_reducible exact Below.refl _ _) | (with_reducible refine Below.alloc ?_ ?_ _) | (with_reducible refine Below.drew ?_) | (with_reducible refine Below.setCell ?_ ?_ _) | (with_reducible refine b_step ?_ (by assumption) ?_) | omega | (simp only [World.size_alloc, World.size_setCell, World.size_drew]; omega))))).mono ?_)
  rintro e t1 ⟨a0, k0, rfl, y1⟩
  have hyy := y1.size
  (try simp only [World.size_alloc, World.size_setCell, World.size_drew] at hyy)
  obtain ⟨⟨c1_0_0, c1_0_1, c1_0_2⟩, ⟨c1_1_0, c1_1_1, c1_1_2⟩, ⟨c1_2_0, c1_2_1, c1_2_2, c1_2_3⟩, bel1⟩ : b3 t1 w.heap.size s0 s1 s2 ∧ b3 t1 (w.heap.size + 1) c0 c1 c2 ∧ b4 t1 (w.heap.size + 1 + 1) 24 8 4 16 ∧ Below w.heap.size w t1 := by
    refine ⟨?_, ?_, ?_, b_step (by (repeat' (first | (with_reducible assumption) | (with_reducible exact Below.refl _ _) | (with_reducible refine Below.alloc ?_ ?_ _) | (with_reducible refine Below.drew ?_) | (with_reducible refine Below.setCell ?_ ?_ _) | (with_reducible refine b_step ?_ (by assumption) ?_) | omega | (simp only [World.size_alloc, World.size_setCell, World.size_drew]; omega)))) y1 (by simp only [World.size_alloc, World.size_setCell, World.size_drew]; omega)⟩ <;> (repeat' apply And.intro) <;> exact cell_later y1 (by (simp (disch := first | omega | (simp only [World.size_alloc, World.size_setCell, World.size_drew]; done) | (simp only [World.size_alloc, World.size_setCell, World.size_drew]; omega)) only [*, r_set_same, r_set_off, r_set_blk, r_set_f, r_alloc_at, r_alloc_past, r_falloc_at, r_falloc_past, World.cell?_drew, World.frozen?_drew, Option.map_some, List.getElem?_toArray, List.getElem?_cons_zero, List.getElem?_cons_succ]; done))
  clear hyy y1 
  have zc1_0 := World.block_lt_of_cell? _ _ c1_0_0
  have zc1_1 := World.block_lt_of_cell? _ _ c1_1_0
  have zc1_2 := World.block_lt_of_cell? _ _ c1_2_0
  go_wp2
  rw [rounds_succ]
  go_wp2_with fail
  go_at_call 24
  (with_reducible refine (L1 _ bel1).mono ?_)
  rintro e t2 ⟨a1, k1, rfl, y2⟩
  obtain ⟨⟨c2_0_0, c2_0_1, c2_0_2⟩, ⟨c2_1_0, c2_1_1, c2_1_2⟩, ⟨c2_2_0, c2_2_1, c2_2_2, c2_2_3⟩, bel2⟩ : b3 t2 w.heap.size s0 s1 s2 ∧ b3 t2 (w.heap.size + 1) c0 c1 c2 ∧ b4 t2 (w.heap.size + 1 + 1) 24 8 4 16 ∧ Below w.heap.size w t2 := by
    refine ⟨?_, ?_, ?_, bs0 bel1 y2⟩ <;> (repeat' apply And.intro) <;> exact cell_later y2 (by (first | assumption | exact c_alloc (by assumption) | exact c_at rfl rfl))
  clear y2 c1_0_0 c1_0_1 c1_0_2 c1_1_0 c1_1_1 c1_1_2 c1_2_0 c1_2_1 c1_2_2 c1_2_3 bel1 zc1_0 zc1_1 zc1_2
  have zc2_0 := World.block_lt_of_cell? _ _ c2_0_0
  have zc2_1 := World.block_lt_of_cell? _ _ c2_1_0
  have zc2_2 := World.block_lt_of_cell? _ _ c2_2_0
  go_wp2
  rw [rounds_succ]
  go_wp2_with fail
  go_at_call 24
  (with_reducible refine (L2 _ bel2).mono ?_)
  rintro e t3 ⟨a2, k2, rfl, y3⟩
  obtain ⟨⟨c3_0_0, c3_0_1, c3_0_2⟩, ⟨c3_1_0, c3_1_1, c3_1_2⟩, ⟨c3_2_0, c3_2_1, c3_2_2, c3_2_3⟩, bel3⟩ : b3 t3 w.heap.size s0 s1 s2 ∧ b3 t3 (w.heap.size + 1) c0 c1 c2 ∧ b4 t3 (w.heap.size + 1 + 1) 24 8 4 16 ∧ Below w.heap.size w t3 := by
    refine ⟨?_, ?_, ?_, bs0 bel2 y3⟩ <;> (repeat' apply And.intro) <;> exact cell_later y3 (by (first | assumption | exact c_alloc (by assumption) | exact c_at rfl rfl))
  clear y3 c2_0_0 c2_0_1 c2_0_2 c2_1_0 c2_1_1 c2_1_2 c2_2_0 c2_2_1 c2_2_2 c2_2_3 bel2 zc2_0 zc2_1 zc2_2
  have zc3_0 := World.block_lt_of_cell? _ _ c3_0_0
  have zc3_1 := World.block_lt_of_cell? _ _ c3_1_0
  have zc3_2 := World.block_lt_of_cell? _ _ c3_2_0
  go_wp2
  rw [rounds_succ]
  go_wp2_with fail
  go_at_call 24
  (with_reducible refine (L3 _ bel3).mono ?_)
  rintro e t4 ⟨a3, k3, rfl, y4⟩
  obtain ⟨⟨c4_0_0, c4_0_1, c4_0_2⟩, ⟨c4_1_0, c4_1_1, c4_1_2⟩, ⟨c4_2_0, c4_2_1, c4_2_2, c4_2_3⟩, bel4⟩ : b3 t4 w.heap.size s0 s1 s2 ∧ b3 t4 (w.heap.size + 1) c0 c1 c2 ∧ b4 t4 (w.heap.size + 1 + 1) 24 8 4 16 ∧ Below w.heap.size w t4 := by
    refine ⟨?_, ?_, ?_, bs0 bel3 y4⟩ <;> (repeat' apply And.intro) <;> exact cell_later y4 (by (first | assumption | exact c_alloc (by assumption) | exact c_at rfl rfl))
  clear y4 c3_0_0 c3_0_1 c3_0_2 c3_1_0 c3_1_1 c3_1_2 c3_2_0 c3_2_1 c3_2_2 c3_2_3 bel3 zc3_0 zc3_1 zc3_2
  have zc4_0 := World.block_lt_of_cell? _ _ c4_0_0
  have zc4_1 := World.block_lt_of_cell? _ _ c4_1_0
  have zc4_2 := World.block_lt_of_cell? _ _ c4_2_0
  go_wp2
  rw [rounds_succ]
  go_wp2_with fail
  go_at_call 13
  (with_reducible refine (Hp _).mono ?_)
  rintro e t5 ⟨rfl, y5⟩
  obtain ⟨⟨c5_0_0, c5_0_1, c5_0_2⟩, ⟨c5_1_0, c5_1_1, c5_1_2⟩, bel5⟩ : b3 t5 w.heap.size s0 s1 s2 ∧ b3 t5 (w.heap.size + 1) c0 c1 c2 ∧ Below w.heap.size w t5 := by
    refine ⟨?_, ?_, bs0 bel4 y5⟩ <;> (repeat' apply And.intro) <;> exact cell_later y5 (by (first | assumption | exact c_alloc (by assumption) | exact c_at rfl rfl))
  clear y5 c4_0_0 c4_0_1 c4_0_2 c4_1_0 c4_1_1 c4_1_2 c4_2_0 c4_2_1 c4_2_2 c4_2_3 bel4 zc4_0 zc4_1 zc4_2
  have zc5_0 := World.block_lt_of_cell? _ _ c5_0_0
  have zc5_1 := World.block_lt_of_cell? _ _ c5_1_0
  go_wp2_with fail
  go_at_call 15
  (with_reducible refine (Hq _ (bel5.alloc bel5.size _)).mono ?_)
  rintro e t6 ⟨rfl, y6⟩
  obtain ⟨⟨c6_0_0, c6_0_1, c6_0_2⟩, ⟨c6_1_0, c6_1_1, c6_1_2⟩, ⟨c6_2_0, c6_2_1, c6_2_2, c6_2_3⟩, bel6⟩ : b3 t6 w.heap.size s0 s1 s2 ∧ b3 t6 (w.heap.size + 1) c0 c1 c2 ∧ b4 t6 t5.heap.size k q0 q1 q2 ∧ Below w.heap.size w t6 := by
    refine ⟨?_, ?_, ?_, bs1 bel5 y6⟩ <;> (repeat' apply And.intro) <;> exact cell_later y6 (by (first | assumption | exact c_alloc (by assumption) | exact c_at rfl rfl))
  clear y6 c5_0_0 c5_0_1 c5_0_2 c5_1_0 c5_1_1 c5_1_2 bel5 zc5_0 zc5_1
  have zc6_0 := World.block_lt_of_cell? _ _ c6_0_0
  have zc6_1 := World.block_lt_of_cell? _ _ c6_1_0
  have zc6_2 := World.block_lt_of_cell? _ _ c6_2_0
  go_wp2
  go_ret
  exact ⟨rfl, bel6⟩

set_option maxRecDepth 100000 in
set_option maxHeartbeats 16000000 in
theorem places_2 (n s0 s1 s2 c0 c1 c2 k z q0 q1 q2 d0 d1 d2 e0 e1 e2 : Int) (w : World)
    (Hq : ∀ W, Below w.heap.size w W → Calls Tryd.prog 15 #[] W fun r w' => r = .returned (.bool true) ∧ Below W.heap.size W w')
    (Hp : ∀ w, Calls Tryd.prog 13 #[.int .i64 n, vV s0 s1 s2, vV c0 c1 c2] w fun r w' => r = .returned (.tuple #[vP k q0 q1 q2, .int .i64 z]) ∧ Below w.heap.size w w')
    (L0 : ∀ W, Below w.heap.size w W → Calls Tryd.prog 24 #[.int .i64 0] W fun r w' => ∃ a k, r = .returned (.tuple #[.slice a 24 k, .int .i64 0]) ∧ Below W.heap.size W w')
    (L1 : ∀ W, Below w.heap.size w W → Calls Tryd.prog 24 #[.int .i64 1] W fun r w' => ∃ a k, r = .returned (.tuple #[.slice a 8 k, .int .i64 0]) ∧ Below W.heap.size W w')
    (L2 : ∀ W, Below w.heap.size w W → Calls Tryd.prog 24 #[.int .i64 2] W fun r w' => ∃ a k, r = .returned (.tuple #[.slice a 4 k, .int .i64 0]) ∧ Below W.heap.size W w')
    (L3 : ∀ W, Below w.heap.size w W → Calls Tryd.prog 24 #[.int .i64 3] W fun r w' => ∃ a k, r = .returned (.tuple #[.slice a 16 k, .int .i64 0]) ∧ Below W.heap.size W w')
    (hn : 0 ≤ n) (hn' : 24 ≤ n) (hz : z ≠ 0) :
    Calls Tryd.prog 8 #[.int .i64 n, vV s0 s1 s2, vV c0 c1 c2] w fun e w' => e = .returned (.bool true) ∧ Below w.heap.size w w' := by
  go_enter Tryd.func8, Tryd.ntmps8
  go_wp2
  refine wp_loop_rounds 5 ?_
  rw [rounds_succ]
  go_wp2_with fail
  go_at_call 24
  (with_reducible refine (L0 _ (by (repeat' (first | (with_reducible assumption) | (with_reducible exact Below.refl _ _) | (with_reducible refine Below.alloc ?_ ?_ _) | (with_reducible refine Below.drew ?_) | (with_reducible refine Below.setCell ?_ ?_ _) | (with_reducible refine b_step ?_ (by assumption) ?_) | omega | (simp only [World.size_alloc, World.size_setCell, World.size_drew]; omega))))).mono ?_)
  rintro e t1 ⟨a0, k0, rfl, y1⟩
  have hyy := y1.size
  (try simp only [World.size_alloc, World.size_setCell, World.size_drew] at hyy)
  obtain ⟨⟨c1_0_0, c1_0_1, c1_0_2⟩, ⟨c1_1_0, c1_1_1, c1_1_2⟩, ⟨c1_2_0, c1_2_1, c1_2_2, c1_2_3⟩, bel1⟩ : b3 t1 w.heap.size s0 s1 s2 ∧ b3 t1 (w.heap.size + 1) c0 c1 c2 ∧ b4 t1 (w.heap.size + 1 + 1) 24 8 4 16 ∧ Below w.heap.size w t1 := by
    refine ⟨?_, ?_, ?_, b_step (by (repeat' (first | (with_reducible assumption) | (with_reducible exact Below.refl _ _) | (with_reducible refine Below.alloc ?_ ?_ _) | (with_reducible refine Below.drew ?_) | (with_reducible refine Below.setCell ?_ ?_ _) | (with_reducible refine b_step ?_ (by assumption) ?_) | omega | (simp only [World.size_alloc, World.size_setCell, World.size_drew]; omega)))) y1 (by simp only [World.size_alloc, World.size_setCell, World.size_drew]; omega)⟩ <;> (repeat' apply And.intro) <;> exact cell_later y1 (by (simp (disch := first | omega | (simp only [World.size_alloc, World.size_setCell, World.size_drew]; done) | (simp only [World.size_alloc, World.size_setCell, World.size_drew]; omega)) only [*, r_set_same, r_set_off, r_set_blk, r_set_f, r_alloc_at, r_alloc_past, r_falloc_at, r_falloc_past, World.cell?_drew, World.frozen?_drew, Option.map_some, List.getElem?_toArray, List.getElem?_cons_zero, List.getElem?_cons_succ]; done))
  clear hyy y1 
  have zc1_0 := World.block_lt_of_cell? _ _ c1_0_0
  have zc1_1 := World.block_lt_of_cell? _ _ c1_1_0
  have zc1_2 := World.block_lt_of_cell? _ _ c1_2_0
  go_wp2
  rw [rounds_succ]
  go_wp2_with fail
  go_at_call 24
  (with_reducible refine (L1 _ bel1).mono ?_)
  rintro e t2 ⟨a1, k1, rfl, y2⟩
  obtain ⟨⟨c2_0_0, c2_0_1, c2_0_2⟩, ⟨c2_1_0, c2_1_1, c2_1_2⟩, ⟨c2_2_0, c2_2_1, c2_2_2, c2_2_3⟩, bel2⟩ : b3 t2 w.heap.size s0 s1 s2 ∧ b3 t2 (w.heap.size + 1) c0 c1 c2 ∧ b4 t2 (w.heap.size + 1 + 1) 24 8 4 16 ∧ Below w.heap.size w t2 := by
    refine ⟨?_, ?_, ?_, bs0 bel1 y2⟩ <;> (repeat' apply And.intro) <;> exact cell_later y2 (by (first | assumption | exact c_alloc (by assumption) | exact c_at rfl rfl))
  clear y2 c1_0_0 c1_0_1 c1_0_2 c1_1_0 c1_1_1 c1_1_2 c1_2_0 c1_2_1 c1_2_2 c1_2_3 bel1 zc1_0 zc1_1 zc1_2
  have zc2_0 := World.block_lt_of_cell? _ _ c2_0_0
  have zc2_1 := World.block_lt_of_cell? _ _ c2_1_0
  have zc2_2 := World.block_lt_of_cell? _ _ c2_2_0
  go_wp2
  rw [rounds_succ]
  go_wp2_with fail
  go_at_call 24
  (with_reducible refine (L2 _ bel2).mono ?_)
  rintro e t3 ⟨a2, k2, rfl, y3⟩
  obtain ⟨⟨c3_0_0, c3_0_1, c3_0_2⟩, ⟨c3_1_0, c3_1_1, c3_1_2⟩, ⟨c3_2_0, c3_2_1, c3_2_2, c3_2_3⟩, bel3⟩ : b3 t3 w.heap.size s0 s1 s2 ∧ b3 t3 (w.heap.size + 1) c0 c1 c2 ∧ b4 t3 (w.heap.size + 1 + 1) 24 8 4 16 ∧ Below w.heap.size w t3 := by
    refine ⟨?_, ?_, ?_, bs0 bel2 y3⟩ <;> (repeat' apply And.intro) <;> exact cell_later y3 (by (first | assumption | exact c_alloc (by assumption) | exact c_at rfl rfl))
  clear y3 c2_0_0 c2_0_1 c2_0_2 c2_1_0 c2_1_1 c2_1_2 c2_2_0 c2_2_1 c2_2_2 c2_2_3 bel2 zc2_0 zc2_1 zc2_2
  have zc3_0 := World.block_lt_of_cell? _ _ c3_0_0
  have zc3_1 := World.block_lt_of_cell? _ _ c3_1_0
  have zc3_2 := World.block_lt_of_cell? _ _ c3_2_0
  go_wp2
  rw [rounds_succ]
  go_wp2_with fail
  go_at_call 24
  (with_reducible refine (L3 _ bel3).mono ?_)
  rintro e t4 ⟨a3, k3, rfl, y4⟩
  obtain ⟨⟨c4_0_0, c4_0_1, c4_0_2⟩, ⟨c4_1_0, c4_1_1, c4_1_2⟩, ⟨c4_2_0, c4_2_1, c4_2_2, c4_2_3⟩, bel4⟩ : b3 t4 w.heap.size s0 s1 s2 ∧ b3 t4 (w.heap.size + 1) c0 c1 c2 ∧ b4 t4 (w.heap.size + 1 + 1) 24 8 4 16 ∧ Below w.heap.size w t4 := by
    refine ⟨?_, ?_, ?_, bs0 bel3 y4⟩ <;> (repeat' apply And.intro) <;> exact cell_later y4 (by (first | assumption | exact c_alloc (by assumption) | exact c_at rfl rfl))
  clear y4 c3_0_0 c3_0_1 c3_0_2 c3_1_0 c3_1_1 c3_1_2 c3_2_0 c3_2_1 c3_2_2 c3_2_3 bel3 zc3_0 zc3_1 zc3_2
  have zc4_0 := World.block_lt_of_cell? _ _ c4_0_0
  have zc4_1 := World.block_lt_of_cell? _ _ c4_1_0
  have zc4_2 := World.block_lt_of_cell? _ _ c4_2_0
  go_wp2
  rw [rounds_succ]
  go_wp2_with fail
  go_at_call 13
  (with_reducible refine (Hp _).mono ?_)
  rintro e t5 ⟨rfl, y5⟩
  obtain ⟨⟨c5_0_0, c5_0_1, c5_0_2⟩, ⟨c5_1_0, c5_1_1, c5_1_2⟩, bel5⟩ : b3 t5 w.heap.size s0 s1 s2 ∧ b3 t5 (w.heap.size + 1) c0 c1 c2 ∧ Below w.heap.size w t5 := by
    refine ⟨?_, ?_, bs0 bel4 y5⟩ <;> (repeat' apply And.intro) <;> exact cell_later y5 (by (first | assumption | exact c_alloc (by assumption) | exact c_at rfl rfl))
  clear y5 c4_0_0 c4_0_1 c4_0_2 c4_1_0 c4_1_1 c4_1_2 c4_2_0 c4_2_1 c4_2_2 c4_2_3 bel4 zc4_0 zc4_1 zc4_2
  have zc5_0 := World.block_lt_of_cell? _ _ c5_0_0
  have zc5_1 := World.block_lt_of_cell? _ _ c5_1_0
  go_wp2_with fail
  go_at_call 15
  (with_reducible refine (Hq _ (bel5.alloc bel5.size _)).mono ?_)
  rintro e t6 ⟨rfl, y6⟩
  obtain ⟨⟨c6_0_0, c6_0_1, c6_0_2⟩, ⟨c6_1_0, c6_1_1, c6_1_2⟩, ⟨c6_2_0, c6_2_1, c6_2_2, c6_2_3⟩, bel6⟩ : b3 t6 w.heap.size s0 s1 s2 ∧ b3 t6 (w.heap.size + 1) c0 c1 c2 ∧ b4 t6 t5.heap.size k q0 q1 q2 ∧ Below w.heap.size w t6 := by
    refine ⟨?_, ?_, ?_, bs1 bel5 y6⟩ <;> (repeat' apply And.intro) <;> exact cell_later y6 (by (first | assumption | exact c_alloc (by assumption) | exact c_at rfl rfl))
  clear y6 c5_0_0 c5_0_1 c5_0_2 c5_1_0 c5_1_1 c5_1_2 bel5 zc5_0 zc5_1
  have zc6_0 := World.block_lt_of_cell? _ _ c6_0_0
  have zc6_1 := World.block_lt_of_cell? _ _ c6_1_0
  have zc6_2 := World.block_lt_of_cell? _ _ c6_2_0
  go_wp2
  go_ret
  exact ⟨rfl, bel6⟩

set_option maxRecDepth 100000 in
set_option maxHeartbeats 16000000 in
theorem places_3 (n s0 s1 s2 c0 c1 c2 k z q0 q1 q2 d0 d1 d2 e0 e1 e2 : Int) (w : World)
    (Hq : ∀ W, Below w.heap.size w W → Calls Tryd.prog 15 #[] W fun r w' => r = .returned (.bool true) ∧ Below W.heap.size W w')
    (Hp : ∀ w, Calls Tryd.prog 13 #[.int .i64 n, vV s0 s1 s2, vV c0 c1 c2] w fun r w' => r = .returned (.tuple #[vP k q0 q1 q2, .int .i64 z]) ∧ Below w.heap.size w w')
    (L0 : ∀ W, Below w.heap.size w W → Calls Tryd.prog 24 #[.int .i64 0] W fun r w' => ∃ a k, r = .returned (.tuple #[.slice a 24 k, .int .i64 0]) ∧ Below W.heap.size W w')
    (L1 : ∀ W, Below w.heap.size w W → Calls Tryd.prog 24 #[.int .i64 1] W fun r w' => ∃ a k, r = .returned (.tuple #[.slice a 8 k, .int .i64 0]) ∧ Below W.heap.size W w')
    (L2 : ∀ W, Below w.heap.size w W → Calls Tryd.prog 24 #[.int .i64 2] W fun r w' => ∃ a k, r = .returned (.tuple #[.slice a 4 k, .int .i64 0]) ∧ Below W.heap.size W w')
    (L3 : ∀ W, Below w.heap.size w W → Calls Tryd.prog 24 #[.int .i64 3] W fun r w' => ∃ a k, r = .returned (.tuple #[.slice a 16 k, .int .i64 0]) ∧ Below W.heap.size W w')
    (hn : 0 ≤ n) (hn' : n < 24)
    (A2 : ∀ W, Below w.heap.size w W → Calls Tryd.prog 26 #[.int .i64 2, .int .i64 n] W fun r w' => r = .returned (.bool true) ∧ Below W.heap.size W w')
    (A1 : ∀ W, Below w.heap.size w W → Calls Tryd.prog 26 #[.int .i64 1, .int .i64 n] W fun r w' => r = .returned (.bool true) ∧ Below W.heap.size W w')
    (A3 : ∀ W, Below w.heap.size w W → Calls Tryd.prog 26 #[.int .i64 3, .int .i64 n] W fun r w' => r = .returned (.bool false) ∧ Below W.heap.size W w') (hz : z ≠ 0) :
    Calls Tryd.prog 8 #[.int .i64 n, vV s0 s1 s2, vV c0 c1 c2] w fun e w' => e = .returned (.bool true) ∧ Below w.heap.size w w' := by
  go_enter Tryd.func8, Tryd.ntmps8
  go_wp2
  refine wp_loop_rounds 5 ?_
  rw [rounds_succ]
  go_wp2_with fail
  go_at_call 24
  (with_reducible refine (L0 _ (by (repeat' (first | (with_reducible assumption) | (with_reducible exact Below.refl _ _) | (with_reducible refine Below.alloc ?_ ?_ _) | (with_reducible refine Below.drew ?_) | (with_reducible refine Below.setCell ?_ ?_ _) | (with_reducible refine b_step ?_ (by assumption) ?_) | omega | (simp only [World.size_alloc, World.size_setCell, World.size_drew]; omega))))).mono ?_)
  rintro e t1 ⟨a0, k0, rfl, y1⟩
  have hyy := y1.size
  (try simp only [World.size_alloc, World.size_setCell, World.size_drew] at hyy)
  obtain ⟨⟨c1_0_0, c1_0_1, c1_0_2⟩, ⟨c1_1_0, c1_1_1, c1_1_2⟩, ⟨c1_2_0, c1_2_1, c1_2_2, c1_2_3⟩, bel1⟩ : b3 t1 w.heap.size s0 s1 s2 ∧ b3 t1 (w.heap.size + 1) c0 c1 c2 ∧ b4 t1 (w.heap.size + 1 + 1) 24 8 4 16 ∧ Below w.heap.size w t1 := by
    refine ⟨?_, ?_, ?_, b_step (by (repeat' (first | (with_reducible assumption) | (with_reducible exact Below.refl _ _) | (with_reducible refine Below.alloc ?_ ?_ _) | (with_reducible refine Below.drew ?_) | (with_reducible refine Below.setCell ?_ ?_ _) | (with_reducible refine b_step ?_ (by assumption) ?_) | omega | (simp only [World.size_alloc, World.size_setCell, World.size_drew]; omega)))) y1 (by simp only [World.size_alloc, World.size_setCell, World.size_drew]; omega)⟩ <;> (repeat' apply And.intro) <;> exact cell_later y1 (by (simp (disch := first | omega | (simp only [World.size_alloc, World.size_setCell, World.size_drew]; done) | (simp only [World.size_alloc, World.size_setCell, World.size_drew]; omega)) only [*, r_set_same, r_set_off, r_set_blk, r_set_f, r_alloc_at, r_alloc_past, r_falloc_at, r_falloc_past, World.cell?_drew, World.frozen?_drew, Option.map_some, List.getElem?_toArray, List.getElem?_cons_zero, List.getElem?_cons_succ]; done))
  clear hyy y1 
  have zc1_0 := World.block_lt_of_cell? _ _ c1_0_0
  have zc1_1 := World.block_lt_of_cell? _ _ c1_1_0
  have zc1_2 := World.block_lt_of_cell? _ _ c1_2_0
  go_wp2
  rw [rounds_succ]
  go_wp2_with fail
  go_at_call 24
  (with_reducible refine (L1 _ bel1).mono ?_)
  rintro e t2 ⟨a1, k1, rfl, y2⟩
  obtain ⟨⟨c2_0_0, c2_0_1, c2_0_2⟩, ⟨c2_1_0, c2_1_1, c2_1_2⟩, ⟨c2_2_0, c2_2_1, c2_2_2, c2_2_3⟩, bel2⟩ : b3 t2 w.heap.size s0 s1 s2 ∧ b3 t2 (w.heap.size + 1) c0 c1 c2 ∧ b4 t2 (w.heap.size + 1 + 1) 24 8 4 16 ∧ Below w.heap.size w t2 := by
    refine ⟨?_, ?_, ?_, bs0 bel1 y2⟩ <;> (repeat' apply And.intro) <;> exact cell_later y2 (by (first | assumption | exact c_alloc (by assumption) | exact c_at rfl rfl))
  clear y2 c1_0_0 c1_0_1 c1_0_2 c1_1_0 c1_1_1 c1_1_2 c1_2_0 c1_2_1 c1_2_2 c1_2_3 bel1 zc1_0 zc1_1 zc1_2
  have zc2_0 := World.block_lt_of_cell? _ _ c2_0_0
  have zc2_1 := World.block_lt_of_cell? _ _ c2_1_0
  have zc2_2 := World.block_lt_of_cell? _ _ c2_2_0
  go_wp2
  rw [rounds_succ]
  go_wp2_with fail
  go_at_call 24
  (with_reducible refine (L2 _ bel2).mono ?_)
  rintro e t3 ⟨a2, k2, rfl, y3⟩
  obtain ⟨⟨c3_0_0, c3_0_1, c3_0_2⟩, ⟨c3_1_0, c3_1_1, c3_1_2⟩, ⟨c3_2_0, c3_2_1, c3_2_2, c3_2_3⟩, bel3⟩ : b3 t3 w.heap.size s0 s1 s2 ∧ b3 t3 (w.heap.size + 1) c0 c1 c2 ∧ b4 t3 (w.heap.size + 1 + 1) 24 8 4 16 ∧ Below w.heap.size w t3 := by
    refine ⟨?_, ?_, ?_, bs0 bel2 y3⟩ <;> (repeat' apply And.intro) <;> exact cell_later y3 (by (first | assumption | exact c_alloc (by assumption) | exact c_at rfl rfl))
  clear y3 c2_0_0 c2_0_1 c2_0_2 c2_1_0 c2_1_1 c2_1_2 c2_2_0 c2_2_1 c2_2_2 c2_2_3 bel2 zc2_0 zc2_1 zc2_2
  have zc3_0 := World.block_lt_of_cell? _ _ c3_0_0
  have zc3_1 := World.block_lt_of_cell? _ _ c3_1_0
  have zc3_2 := World.block_lt_of_cell? _ _ c3_2_0
  go_wp2
  rw [rounds_succ]
  go_wp2_with fail
  go_at_call 24
  (with_reducible refine (L3 _ bel3).mono ?_)
  rintro e t4 ⟨a3, k3, rfl, y4⟩
  obtain ⟨⟨c4_0_0, c4_0_1, c4_0_2⟩, ⟨c4_1_0, c4_1_1, c4_1_2⟩, ⟨c4_2_0, c4_2_1, c4_2_2, c4_2_3⟩, bel4⟩ : b3 t4 w.heap.size s0 s1 s2 ∧ b3 t4 (w.heap.size + 1) c0 c1 c2 ∧ b4 t4 (w.heap.size + 1 + 1) 24 8 4 16 ∧ Below w.heap.size w t4 := by
    refine ⟨?_, ?_, ?_, bs0 bel3 y4⟩ <;> (repeat' apply And.intro) <;> exact cell_later y4 (by (first | assumption | exact c_alloc (by assumption) | exact c_at rfl rfl))
  clear y4 c3_0_0 c3_0_1 c3_0_2 c3_1_0 c3_1_1 c3_1_2 c3_2_0 c3_2_1 c3_2_2 c3_2_3 bel3 zc3_0 zc3_1 zc3_2
  have zc4_0 := World.block_lt_of_cell? _ _ c4_0_0
  have zc4_1 := World.block_lt_of_cell? _ _ c4_1_0
  have zc4_2 := World.block_lt_of_cell? _ _ c4_2_0
  go_wp2
  rw [rounds_succ]
  go_wp2_with fail
  go_at_call 26
  (with_reducible refine (A2 _ bel4).mono ?_)
  rintro e t5 ⟨rfl, y5⟩
  obtain ⟨⟨c5_0_0, c5_0_1, c5_0_2⟩, ⟨c5_1_0, c5_1_1, c5_1_2⟩, bel5⟩ : b3 t5 w.heap.size s0 s1 s2 ∧ b3 t5 (w.heap.size + 1) c0 c1 c2 ∧ Below w.heap.size w t5 := by
    refine ⟨?_, ?_, bs0 bel4 y5⟩ <;> (repeat' apply And.intro) <;> exact cell_later y5 (by (first | assumption | exact c_alloc (by assumption) | exact c_at rfl rfl))
  clear y5 c4_0_0 c4_0_1 c4_0_2 c4_1_0 c4_1_1 c4_1_2 c4_2_0 c4_2_1 c4_2_2 c4_2_3 bel4 zc4_0 zc4_1 zc4_2
  have zc5_0 := World.block_lt_of_cell? _ _ c5_0_0
  have zc5_1 := World.block_lt_of_cell? _ _ c5_1_0
  go_wp2_with fail
  go_at_call 26
  (with_reducible refine (A1 _ bel5).mono ?_)
  rintro e t6 ⟨rfl, y6⟩
  obtain ⟨⟨c6_0_0, c6_0_1, c6_0_2⟩, ⟨c6_1_0, c6_1_1, c6_1_2⟩, bel6⟩ : b3 t6 w.heap.size s0 s1 s2 ∧ b3 t6 (w.heap.size + 1) c0 c1 c2 ∧ Below w.heap.size w t6 := by
    refine ⟨?_, ?_, bs0 bel5 y6⟩ <;> (repeat' apply And.intro) <;> exact cell_later y6 (by (first | assumption | exact c_alloc (by assumption) | exact c_at rfl rfl))
  clear y6 c5_0_0 c5_0_1 c5_0_2 c5_1_0 c5_1_1 c5_1_2 bel5 zc5_0 zc5_1
  have zc6_0 := World.block_lt_of_cell? _ _ c6_0_0
  have zc6_1 := World.block_lt_of_cell? _ _ c6_1_0
  go_wp2_with fail
  go_at_call 26
  (with_reducible refine (A1 _ bel6).mono ?_)
  rintro e t7 ⟨rfl, y7⟩
  obtain ⟨⟨c7_0_0, c7_0_1, c7_0_2⟩, ⟨c7_1_0, c7_1_1, c7_1_2⟩, bel7⟩ : b3 t7 w.heap.size s0 s1 s2 ∧ b3 t7 (w.heap.size + 1) c0 c1 c2 ∧ Below w.heap.size w t7 := by
    refine ⟨?_, ?_, bs0 bel6 y7⟩ <;> (repeat' apply And.intro) <;> exact cell_later y7 (by (first | assumption | exact c_alloc (by assumption) | exact c_at rfl rfl))
  clear y7 c6_0_0 c6_0_1 c6_0_2 c6_1_0 c6_1_1 c6_1_2 bel6 zc6_0 zc6_1
  have zc7_0 := World.block_lt_of_cell? _ _ c7_0_0
  have zc7_1 := World.block_lt_of_cell? _ _ c7_1_0
  go_wp2_with fail
  go_at_call 26
  (with_reducible refine (A3 _ bel7).mono ?_)
  rintro e t8 ⟨rfl, y8⟩
  obtain ⟨⟨c8_0_0, c8_0_1, c8_0_2⟩, ⟨c8_1_0, c8_1_1, c8_1_2⟩, bel8⟩ : b3 t8 w.heap.size s0 s1 s2 ∧ b3 t8 (w.heap.size + 1) c0 c1 c2 ∧ Below w.heap.size w t8 := by
    refine ⟨?_, ?_, bs0 bel7 y8⟩ <;> (repeat' apply And.intro) <;> exact cell_later y8 (by (first | assumption | exact c_alloc (by assumption) | exact c_at rfl rfl))
  clear y8 c7_0_0 c7_0_1 c7_0_2 c7_1_0 c7_1_1 c7_1_2 bel7 zc7_0 zc7_1
  have zc8_0 := World.block_lt_of_cell? _ _ c8_0_0
  have zc8_1 := World.block_lt_of_cell? _ _ c8_1_0
  go_wp2_with fail
  go_at_call 13
  (with_reducible refine (Hp _).mono ?_)
  rintro e t9 ⟨rfl, y9⟩
  obtain ⟨⟨c9_0_0, c9_0_1, c9_0_2⟩, ⟨c9_1_0, c9_1_1, c9_1_2⟩, bel9⟩ : b3 t9 w.heap.size s0 s1 s2 ∧ b3 t9 (w.heap.size + 1) c0 c1 c2 ∧ Below w.heap.size w t9 := by
    refine ⟨?_, ?_, bs0 bel8 y9⟩ <;> (repeat' apply And.intro) <;> exact cell_later y9 (by (first | assumption | exact c_alloc (by assumption) | exact c_at rfl rfl))
  clear y9 c8_0_0 c8_0_1 c8_0_2 c8_1_0 c8_1_1 c8_1_2 bel8 zc8_0 zc8_1
  have zc9_0 := World.block_lt_of_cell? _ _ c9_0_0
  have zc9_1 := World.block_lt_of_cell? _ _ c9_1_0
  go_wp2_with fail
  go_at_call 15
  (with_reducible refine (Hq _ (bel9.alloc bel9.size _)).mono ?_)
  rintro e t10 ⟨rfl, y10⟩
  obtain ⟨⟨c10_0_0, c10_0_1, c10_0_2⟩, ⟨c10_1_0, c10_1_1, c10_1_2⟩, ⟨c10_2_0, c10_2_1, c10_2_2, c10_2_3⟩, bel10⟩ : b3 t10 w.heap.size s0 s1 s2 ∧ b3 t10 (w.heap.size + 1) c0 c1 c2 ∧ b4 t10 t9.heap.size k q0 q1 q2 ∧ Below w.heap.size w t10 := by
    refine ⟨?_, ?_, ?_, bs1 bel9 y10⟩ <;> (repeat' apply And.intro) <;> exact cell_later y10 (by (first | assumption | exact c_alloc (by assumption) | exact c_at rfl rfl))
  clear y10 c9_0_0 c9_0_1 c9_0_2 c9_1_0 c9_1_1 c9_1_2 bel9 zc9_0 zc9_1
  have zc10_0 := World.block_lt_of_cell? _ _ c10_0_0
  have zc10_1 := World.block_lt_of_cell? _ _ c10_1_0
  have zc10_2 := World.block_lt_of_cell? _ _ c10_2_0
  go_wp2
  go_ret
  exact ⟨rfl, bel10⟩

set_option maxRecDepth 100000 in
set_option maxHeartbeats 16000000 in
theorem places_4 (n s0 s1 s2 c0 c1 c2 k z q0 q1 q2 d0 d1 d2 e0 e1 e2 : Int) (w : World)
    (Hq : ∀ W, Below w.heap.size w W → Calls Tryd.prog 15 #[] W fun r w' => r = .returned (.bool true) ∧ Below W.heap.size W w')
    (Hp : ∀ w, Calls Tryd.prog 13 #[.int .i64 n, vV s0 s1 s2, vV c0 c1 c2] w fun r w' => r = .returned (.tuple #[vP n q0 q1 q2, .int .i64 0]) ∧ Below w.heap.size w w')
    (L0 : ∀ W, Below w.heap.size w W → Calls Tryd.prog 24 #[.int .i64 0] W fun r w' => ∃ a k, r = .returned (.tuple #[.slice a 24 k, .int .i64 0]) ∧ Below W.heap.size W w')
    (L1 : ∀ W, Below w.heap.size w W → Calls Tryd.prog 24 #[.int .i64 1] W fun r w' => ∃ a k, r = .returned (.tuple #[.slice a 8 k, .int .i64 0]) ∧ Below W.heap.size W w')
    (L2 : ∀ W, Below w.heap.size w W → Calls Tryd.prog 24 #[.int .i64 2] W fun r w' => ∃ a k, r = .returned (.tuple #[.slice a 4 k, .int .i64 0]) ∧ Below W.heap.size W w')
    (L3 : ∀ W, Below w.heap.size w W → Calls Tryd.prog 24 #[.int .i64 3] W fun r w' => ∃ a k, r = .returned (.tuple #[.slice a 16 k, .int .i64 0]) ∧ Below W.heap.size W w')
    (hn : 0 ≤ n) (hn' : n < 24)
    (A2 : ∀ W, Below w.heap.size w W → Calls Tryd.prog 26 #[.int .i64 2, .int .i64 n] W fun r w' => r = .returned (.bool true) ∧ Below W.heap.size W w')
    (A1 : ∀ W, Below w.heap.size w W → Calls Tryd.prog 26 #[.int .i64 1, .int .i64 n] W fun r w' => r = .returned (.bool true) ∧ Below W.heap.size W w')
    (A3 : ∀ W, Below w.heap.size w W → Calls Tryd.prog 26 #[.int .i64 3, .int .i64 n] W fun r w' => r = .returned (.bool false) ∧ Below W.heap.size W w')
    (Hb : ∀ w, Calls Tryd.prog 11 #[vP n q0 q1 q2, vB 0 0 0 s0 s1 s2] w fun r w' => r = .returned (.tuple #[vB c0 c1 c2 d0 d1 d2, .int .i64 0]) ∧ Below w.heap.size w w')
    (Hs : ∀ w, Calls Tryd.prog 12 #[.int .i64 n, vV s0 s1 s2] w fun r w' => r = .returned (.tuple #[vV e0 e1 e2, .int .i64 0]) ∧ Below w.heap.size w w')
    (Hm : ∀ w, Calls Tryd.prog 35 #[vV d0 d1 d2, vV c0 c1 c2] w fun r w' => r = .returned (vV e0 e1 e2) ∧ Below w.heap.size w w') :
    Calls Tryd.prog 8 #[.int .i64 n, vV s0 s1 s2, vV c0 c1 c2] w fun e w' => e = .returned (.bool true) ∧ Below w.heap.size w w' := by
  have qc : ∀ w, (binOp .eql 23 (vV c0 c1 c2) (vV c0 c1 c2)).run Tryd.prog w = .ok (.bool true) w := fun w => by rw [eql_V, decide_eq_true (by simp)]
  have qe : ∀ w, (binOp .eql 23 (vV e0 e1 e2) (vV e0 e1 e2)).run Tryd.prog w = .ok (.bool true) w := fun w => by rw [eql_V, decide_eq_true (by simp)]
  go_enter Tryd.func8, Tryd.ntmps8
  go_wp2
  refine wp_loop_rounds 5 ?_
  rw [rounds_succ]
  go_wp2_with fail
  go_at_call 24
  (with_reducible refine (L0 _ (by (repeat' (first | (with_reducible assumption) | (with_reducible exact Below.refl _ _) | (with_reducible refine Below.alloc ?_ ?_ _) | (with_reducible refine Below.drew ?_) | (with_reducible refine Below.setCell ?_ ?_ _) | (with_reducible refine b_step ?_ (by assumption) ?_) | omega | (simp only [World.size_alloc, World.size_setCell, World.size_drew]; omega))))).mono ?_)
  rintro e t1 ⟨a0, k0, rfl, y1⟩
  have hyy := y1.size
  (try simp only [World.size_alloc, World.size_setCell, World.size_drew] at hyy)
  obtain ⟨⟨c1_0_0, c1_0_1, c1_0_2⟩, ⟨c1_1_0, c1_1_1, c1_1_2⟩, ⟨c1_2_0, c1_2_1, c1_2_2, c1_2_3⟩, bel1⟩ : b3 t1 w.heap.size s0 s1 s2 ∧ b3 t1 (w.heap.size + 1) c0 c1 c2 ∧ b4 t1 (w.heap.size + 1 + 1) 24 8 4 16 ∧ Below w.heap.size w t1 := by
    refine ⟨?_, ?_, ?_, b_step (by (repeat' (first | (with_reducible assumption) | (with_reducible exact Below.refl _ _) | (with_reducible refine Below.alloc ?_ ?_ _) | (with_reducible refine Below.drew ?_) | (with_reducible refine Below.setCell ?_ ?_ _) | (with_reducible refine b_step ?_ (by assumption) ?_) | omega | (simp only [World.size_alloc, World.size_setCell, World.size_drew]; omega)))) y1 (by simp only [World.size_alloc, World.size_setCell, World.size_drew]; omega)⟩ <;> (repeat' apply And.intro) <;> exact cell_later y1 (by (simp (disch := first | omega | (simp only [World.size_alloc, World.size_setCell, World.size_drew]; done) | (simp only [World.size_alloc, World.size_setCell, World.size_drew]; omega)) only [*, r_set_same, r_set_off, r_set_blk, r_set_f, r_alloc_at, r_alloc_past, r_falloc_at, r_falloc_past, World.cell?_drew, World.frozen?_drew, Option.map_some, List.getElem?_toArray, List.getElem?_cons_zero, List.getElem?_cons_succ]; done))
  clear hyy y1 
  have zc1_0 := World.block_lt_of_cell? _ _ c1_0_0
  have zc1_1 := World.block_lt_of_cell? _ _ c1_1_0
  have zc1_2 := World.block_lt_of_cell? _ _ c1_2_0
  go_wp2
  rw [rounds_succ]
  go_wp2_with fail
  go_at_call 24
  (with_reducible refine (L1 _ bel1).mono ?_)
  rintro e t2 ⟨a1, k1, rfl, y2⟩
  obtain ⟨⟨c2_0_0, c2_0_1, c2_0_2⟩, ⟨c2_1_0, c2_1_1, c2_1_2⟩, ⟨c2_2_0, c2_2_1, c2_2_2, c2_2_3⟩, bel2⟩ : b3 t2 w.heap.size s0 s1 s2 ∧ b3 t2 (w.heap.size + 1) c0 c1 c2 ∧ b4 t2 (w.heap.size + 1 + 1) 24 8 4 16 ∧ Below w.heap.size w t2 := by
    refine ⟨?_, ?_, ?_, bs0 bel1 y2⟩ <;> (repeat' apply And.intro) <;> exact cell_later y2 (by (first | assumption | exact c_alloc (by assumption) | exact c_at rfl rfl))
  clear y2 c1_0_0 c1_0_1 c1_0_2 c1_1_0 c1_1_1 c1_1_2 c1_2_0 c1_2_1 c1_2_2 c1_2_3 bel1 zc1_0 zc1_1 zc1_2
  have zc2_0 := World.block_lt_of_cell? _ _ c2_0_0
  have zc2_1 := World.block_lt_of_cell? _ _ c2_1_0
  have zc2_2 := World.block_lt_of_cell? _ _ c2_2_0
  go_wp2
  rw [rounds_succ]
  go_wp2_with fail
  go_at_call 24
  (with_reducible refine (L2 _ bel2).mono ?_)
  rintro e t3 ⟨a2, k2, rfl, y3⟩
  obtain ⟨⟨c3_0_0, c3_0_1, c3_0_2⟩, ⟨c3_1_0, c3_1_1, c3_1_2⟩, ⟨c3_2_0, c3_2_1, c3_2_2, c3_2_3⟩, bel3⟩ : b3 t3 w.heap.size s0 s1 s2 ∧ b3 t3 (w.heap.size + 1) c0 c1 c2 ∧ b4 t3 (w.heap.size + 1 + 1) 24 8 4 16 ∧ Below w.heap.size w t3 := by
    refine ⟨?_, ?_, ?_, bs0 bel2 y3⟩ <;> (repeat' apply And.intro) <;> exact cell_later y3 (by (first | assumption | exact c_alloc (by assumption) | exact c_at rfl rfl))
  clear y3 c2_0_0 c2_0_1 c2_0_2 c2_1_0 c2_1_1 c2_1_2 c2_2_0 c2_2_1 c2_2_2 c2_2_3 bel2 zc2_0 zc2_1 zc2_2
  have zc3_0 := World.block_lt_of_cell? _ _ c3_0_0
  have zc3_1 := World.block_lt_of_cell? _ _ c3_1_0
  have zc3_2 := World.block_lt_of_cell? _ _ c3_2_0
  go_wp2
  rw [rounds_succ]
  go_wp2_with fail
  go_at_call 24
  (with_reducible refine (L3 _ bel3).mono ?_)
  rintro e t4 ⟨a3, k3, rfl, y4⟩
  obtain ⟨⟨c4_0_0, c4_0_1, c4_0_2⟩, ⟨c4_1_0, c4_1_1, c4_1_2⟩, ⟨c4_2_0, c4_2_1, c4_2_2, c4_2_3⟩, bel4⟩ : b3 t4 w.heap.size s0 s1 s2 ∧ b3 t4 (w.heap.size + 1) c0 c1 c2 ∧ b4 t4 (w.heap.size + 1 + 1) 24 8 4 16 ∧ Below w.heap.size w t4 := by
    refine ⟨?_, ?_, ?_, bs0 bel3 y4⟩ <;> (repeat' apply And.intro) <;> exact cell_later y4 (by (first | assumption | exact c_alloc (by assumption) | exact c_at rfl rfl))
  clear y4 c3_0_0 c3_0_1 c3_0_2 c3_1_0 c3_1_1 c3_1_2 c3_2_0 c3_2_1 c3_2_2 c3_2_3 bel3 zc3_0 zc3_1 zc3_2
  have zc4_0 := World.block_lt_of_cell? _ _ c4_0_0
  have zc4_1 := World.block_lt_of_cell? _ _ c4_1_0
  have zc4_2 := World.block_lt_of_cell? _ _ c4_2_0
  go_wp2
  rw [rounds_succ]
  go_wp2_with fail
  go_at_call 26
  (with_reducible refine (A2 _ bel4).mono ?_)
  rintro e t5 ⟨rfl, y5⟩
  obtain ⟨⟨c5_0_0, c5_0_1, c5_0_2⟩, ⟨c5_1_0, c5_1_1, c5_1_2⟩, bel5⟩ : b3 t5 w.heap.size s0 s1 s2 ∧ b3 t5 (w.heap.size + 1) c0 c1 c2 ∧ Below w.heap.size w t5 := by
    refine ⟨?_, ?_, bs0 bel4 y5⟩ <;> (repeat' apply And.intro) <;> exact cell_later y5 (by (first | assumption | exact c_alloc (by assumption) | exact c_at rfl rfl))
  clear y5 c4_0_0 c4_0_1 c4_0_2 c4_1_0 c4_1_1 c4_1_2 c4_2_0 c4_2_1 c4_2_2 c4_2_3 bel4 zc4_0 zc4_1 zc4_2
  have zc5_0 := World.block_lt_of_cell? _ _ c5_0_0
  have zc5_1 := World.block_lt_of_cell? _ _ c5_1_0
  go_wp2_with fail
  go_at_call 26
  (with_reducible refine (A1 _ bel5).mono ?_)
  rintro e t6 ⟨rfl, y6⟩
  obtain ⟨⟨c6_0_0, c6_0_1, c6_0_2⟩, ⟨c6_1_0, c6_1_1, c6_1_2⟩, bel6⟩ : b3 t6 w.heap.size s0 s1 s2 ∧ b3 t6 (w.heap.size + 1) c0 c1 c2 ∧ Below w.heap.size w t6 := by
    refine ⟨?_, ?_, bs0 bel5 y6⟩ <;> (repeat' apply And.intro) <;> exact cell_later y6 (by (first | assumption | exact c_alloc (by assumption) | exact c_at rfl rfl))
  clear y6 c5_0_0 c5_0_1 c5_0_2 c5_1_0 c5_1_1 c5_1_2 bel5 zc5_0 zc5_1
  have zc6_0 := World.block_lt_of_cell? _ _ c6_0_0
  have zc6_1 := World.block_lt_of_cell? _ _ c6_1_0
  go_wp2_with fail
  go_at_call 26
  (with_reducible refine (A1 _ bel6).mono ?_)
  rintro e t7 ⟨rfl, y7⟩
  obtain ⟨⟨c7_0_0, c7_0_1, c7_0_2⟩, ⟨c7_1_0, c7_1_1, c7_1_2⟩, bel7⟩ : b3 t7 w.heap.size s0 s1 s2 ∧ b3 t7 (w.heap.size + 1) c0 c1 c2 ∧ Below w.heap.size w t7 := by
    refine ⟨?_, ?_, bs0 bel6 y7⟩ <;> (repeat' apply And.intro) <;> exact cell_later y7 (by (first | assumption | exact c_alloc (by assumption) | exact c_at rfl rfl))
  clear y7 c6_0_0 c6_0_1 c6_0_2 c6_1_0 c6_1_1 c6_1_2 bel6 zc6_0 zc6_1
  have zc7_0 := World.block_lt_of_cell? _ _ c7_0_0
  have zc7_1 := World.block_lt_of_cell? _ _ c7_1_0
  go_wp2_with fail
  go_at_call 26
  (with_reducible refine (A3 _ bel7).mono ?_)
  rintro e t8 ⟨rfl, y8⟩
  obtain ⟨⟨c8_0_0, c8_0_1, c8_0_2⟩, ⟨c8_1_0, c8_1_1, c8_1_2⟩, bel8⟩ : b3 t8 w.heap.size s0 s1 s2 ∧ b3 t8 (w.heap.size + 1) c0 c1 c2 ∧ Below w.heap.size w t8 := by
    refine ⟨?_, ?_, bs0 bel7 y8⟩ <;> (repeat' apply And.intro) <;> exact cell_later y8 (by (first | assumption | exact c_alloc (by assumption) | exact c_at rfl rfl))
  clear y8 c7_0_0 c7_0_1 c7_0_2 c7_1_0 c7_1_1 c7_1_2 bel7 zc7_0 zc7_1
  have zc8_0 := World.block_lt_of_cell? _ _ c8_0_0
  have zc8_1 := World.block_lt_of_cell? _ _ c8_1_0
  go_wp2_with fail
  go_at_call 13
  (with_reducible refine (Hp _).mono ?_)
  rintro e t9 ⟨rfl, y9⟩
  obtain ⟨⟨c9_0_0, c9_0_1, c9_0_2⟩, ⟨c9_1_0, c9_1_1, c9_1_2⟩, bel9⟩ : b3 t9 w.heap.size s0 s1 s2 ∧ b3 t9 (w.heap.size + 1) c0 c1 c2 ∧ Below w.heap.size w t9 := by
    refine ⟨?_, ?_, bs0 bel8 y9⟩ <;> (repeat' apply And.intro) <;> exact cell_later y9 (by (first | assumption | exact c_alloc (by assumption) | exact c_at rfl rfl))
  clear y9 c8_0_0 c8_0_1 c8_0_2 c8_1_0 c8_1_1 c8_1_2 bel8 zc8_0 zc8_1
  have zc9_0 := World.block_lt_of_cell? _ _ c9_0_0
  have zc9_1 := World.block_lt_of_cell? _ _ c9_1_0
  go_wp2_with fail
  go_at_call 11
  (with_reducible refine (Hb _).mono ?_)
  rintro e t10 ⟨rfl, y10⟩
  obtain ⟨⟨c10_0_0, c10_0_1, c10_0_2⟩, ⟨c10_1_0, c10_1_1, c10_1_2⟩, ⟨c10_2_0, c10_2_1, c10_2_2, c10_2_3⟩, bel10⟩ : b3 t10 w.heap.size s0 s1 s2 ∧ b3 t10 (w.heap.size + 1) c0 c1 c2 ∧ b4 t10 t9.heap.size n q0 q1 q2 ∧ Below w.heap.size w t10 := by
    refine ⟨?_, ?_, ?_, bs1 bel9 y10⟩ <;> (repeat' apply And.intro) <;> exact cell_later y10 (by (first | assumption | exact c_alloc (by assumption) | exact c_at rfl rfl))
  clear y10 c9_0_0 c9_0_1 c9_0_2 c9_1_0 c9_1_1 c9_1_2 bel9 zc9_0 zc9_1
  have zc10_0 := World.block_lt_of_cell? _ _ c10_0_0
  have zc10_1 := World.block_lt_of_cell? _ _ c10_1_0
  have zc10_2 := World.block_lt_of_cell? _ _ c10_2_0
  go_wp2_with fail
  go_at_call 12
  (with_reducible refine (Hs _).mono ?_)
  rintro e t11 ⟨rfl, y11⟩
  obtain ⟨⟨c11_0_0, c11_0_1, c11_0_2⟩, ⟨c11_1_0, c11_1_1, c11_1_2⟩, ⟨c11_2_0, c11_2_1, c11_2_2, c11_2_3⟩, ⟨c11_3_0, c11_3_1, c11_3_2, c11_3_3, c11_3_4, c11_3_5⟩, bel11⟩ : b3 t11 w.heap.size s0 s1 s2 ∧ b3 t11 (w.heap.size + 1) c0 c1 c2 ∧ b4 t11 t9.heap.size n q0 q1 q2 ∧ b6 t11 t10.heap.size c0 c1 c2 d0 d1 d2 ∧ Below w.heap.size w t11 := by
    refine ⟨?_, ?_, ?_, ?_, bs1 bel10 y11⟩ <;> (repeat' apply And.intro) <;> exact cell_later y11 (by (first | assumption | exact c_alloc (by assumption) | exact c_at rfl rfl))
  clear y11 c10_0_0 c10_0_1 c10_0_2 c10_1_0 c10_1_1 c10_1_2 c10_2_0 c10_2_1 c10_2_2 c10_2_3 bel10 zc10_0 zc10_1 zc10_2
  have zc11_0 := World.block_lt_of_cell? _ _ c11_0_0
  have zc11_1 := World.block_lt_of_cell? _ _ c11_1_0
  have zc11_2 := World.block_lt_of_cell? _ _ c11_2_0
  have zc11_3 := World.block_lt_of_cell? _ _ c11_3_0
  go_upto_region 15 with fail
  refine gen_world (F := fun W1 => b3 W1 w.heap.size s0 s1 s2 ∧ b3 W1 (w.heap.size + 1) c0 c1 c2 ∧ b4 W1 t9.heap.size n q0 q1 q2 ∧ b6 W1 t10.heap.size c0 c1 c2 d0 d1 d2 ∧ b3 W1 t11.heap.size e0 e1 e2 ∧ Below w.heap.size w W1) ?_ (fun W1 hW => ?_)
  · refine ⟨?_, ?_, ?_, ?_, ?_, (bel11.alloc bel11.size _)⟩ <;> (repeat' apply And.intro) <;> (first | assumption | exact c_alloc (by assumption) | exact c_at rfl rfl)
  obtain ⟨⟨g1_0_0, g1_0_1, g1_0_2⟩, ⟨g1_1_0, g1_1_1, g1_1_2⟩, ⟨g1_2_0, g1_2_1, g1_2_2, g1_2_3⟩, ⟨g1_3_0, g1_3_1, g1_3_2, g1_3_3, g1_3_4, g1_3_5⟩, ⟨g1_4_0, g1_4_1, g1_4_2⟩, gb1⟩ := hW
  clear c11_0_0 c11_0_1 c11_0_2 c11_1_0 c11_1_1 c11_1_2 c11_2_0 c11_2_1 c11_2_2 c11_2_3 c11_3_0 c11_3_1 c11_3_2 c11_3_3 c11_3_4 c11_3_5 bel11 zc11_0 zc11_1 zc11_2 zc11_3
  have mkq1 : ∀ w', Below W1.heap.size W1 w' → (Below W1.heap.size W1 w' ∧ b3 w' w.heap.size s0 s1 s2 ∧ b3 w' (w.heap.size + 1) c0 c1 c2 ∧ b4 w' t9.heap.size n q0 q1 q2 ∧ b6 w' t10.heap.size c0 c1 c2 d0 d1 d2 ∧ b3 w' t11.heap.size e0 e1 e2) := fun w' h => ⟨h, b3.later h ⟨g1_0_0, g1_0_1, g1_0_2⟩, b3.later h ⟨g1_1_0, g1_1_1, g1_1_2⟩, b4.later h ⟨g1_2_0, g1_2_1, g1_2_2, g1_2_3⟩, b6.later h ⟨g1_3_0, g1_3_1, g1_3_2, g1_3_3, g1_3_4, g1_3_5⟩, b3.later h ⟨g1_4_0, g1_4_1, g1_4_2⟩⟩
  refine wp_region_held_drew (S := fun w' => Below W1.heap.size W1 w' ∧ b3 w' w.heap.size s0 s1 s2 ∧ b3 w' (w.heap.size + 1) c0 c1 c2 ∧ b4 w' t9.heap.size n q0 q1 q2 ∧ b6 w' t10.heap.size c0 c1 c2 d0 d1 d2 ∧ b3 w' t11.heap.size e0 e1 e2) (by kernel_rfl) (mkq1 _ ((Below.refl _ _).drew)) (fun hHeld => ?_)
  refine rOne 0 rfl (fun K hK => ?_)
  go_simp
  go_at_call 15
  (with_reducible refine (Hq _ (b_step gb1 hHeld.1 gb1.size)).mono ?_)
  rintro e rq11 ⟨rfl, zq11⟩
  go_wp2_with fail
  refine hK.out _ _ (mkq1 _ (b_step hHeld.1 zq11 hHeld.1.size)) (fun hHeld2 => ?_)
  clear hK K hHeld
  have hHeld := hHeld2
  clear hHeld2
  (try simp only [Act.put, pSa, pSb, pSc])
  refine tkY 1 ?_ rfl ?_ ?_ (by assumption)
  rotate_left
  · intro w h; simp only [b3, b4, b6, cE] at h; go_simp <;> with_reducible rfl
  (try simp only [Act.put, pSa, pSb, pSc])
  refine tkY 2 ?_ rfl ?_ ?_ (by assumption)
  rotate_left
  · intro w h; simp only [b3, b4, b6, cE] at h; go_simp <;> with_reducible rfl
  (try simp only [Act.put, pSa, pSb, pSc])
  refine tkY 3 ?_ rfl ?_ ?_ (by assumption)
  rotate_left
  · intro w h; simp only [b3, b4, b6, cE] at h; go_simp <;> with_reducible rfl
  (try simp only [Act.put, pSa, pSb, pSc])
  refine tkY 4 ?_ rfl ?_ ?_ (by assumption)
  rotate_left
  · intro w h; simp only [b3, b4, b6, cE] at h; go_simp <;> with_reducible rfl
  (try simp only [Act.put, pSa, pSb, pSc])
  refine tkY 5 ?_ rfl ?_ ?_ (by assumption)
  rotate_left
  · intro w h; simp only [b3, b4, b6, cE] at h; go_simp <;> with_reducible rfl
  (try simp only [Act.put, pSa, pSb, pSc])
  refine tkY 6 ?_ rfl ?_ ?_ (by assumption)
  rotate_left
  · intro w h; simp only [b3, b4, b6, cE] at h; go_simp <;> with_reducible rfl
  (try simp only [Act.put, pSa, pSb, pSc])
  refine tkY 7 ?_ rfl ?_ ?_ (by assumption)
  rotate_left
  · intro w h; simp only [b3, b4, b6, cE] at h; go_simp <;> with_reducible rfl
  (try simp only [Act.put, pSa, pSb, pSc])
  refine tkY 8 ?_ rfl ?_ ?_ (by assumption)
  rotate_left
  · intro w h; simp only [b3, b4, b6, cE] at h; go_simp <;> with_reducible rfl
  (try simp only [Act.put, pSa, pSb, pSc])
  refine tkY 9 ?_ rfl ?_ ?_ (by assumption)
  rotate_left
  · intro w h; simp only [b3, b4, b6, cE] at h; go_simp <;> with_reducible rfl
  (try simp only [Act.put, pSa, pSb, pSc])
  refine tkY 10 ?_ rfl ?_ ?_ (by assumption)
  rotate_left
  · intro w h; simp only [b3, b4, b6, cE] at h; go_simp <;> with_reducible rfl
  (try simp only [Act.put, pSa, pSb, pSc])
  refine tkY 11 ?_ rfl ?_ ?_ (by assumption)
  rotate_left
  · intro w h; simp only [b3, b4, b6, cE] at h; go_simp <;> with_reducible rfl
  (try simp only [Act.put, pSa, pSb, pSc])
  refine tkY 12 ?_ rfl ?_ ?_ (by assumption)
  rotate_left
  · intro w h; simp only [b3, b4, b6, cE] at h; go_simp <;> with_reducible rfl
  (try simp only [Act.put, pSa, pSb, pSc])
  refine tkY 13 ?_ rfl ?_ ?_ (by assumption)
  rotate_left
  · intro w h; simp only [b3, b4, b6, cE] at h; go_simp <;> with_reducible rfl
  (try simp only [Act.put, pSa, pSb, pSc])
  refine tkY 14 ?_ rfl ?_ ?_ (by assumption)
  rotate_left
  · intro w h; simp only [b3, b4, b6, cE] at h; go_simp <;> with_reducible rfl
  (try simp only [Act.put, pSa, pSb, pSc])
  refine tkY 15 ?_ rfl ?_ ?_ (by assumption)
  rotate_left
  · intro w h; simp only [b3, b4, b6, cE] at h; go_simp <;> with_reducible rfl
  (try simp only [Act.put, pSa, pSb, pSc])
  refine tkY 16 ?_ rfl ?_ ?_ (by assumption)
  rotate_left
  · intro w h; simp only [b3, b4, b6, cE] at h; go_simp <;> with_reducible rfl
  (try simp only [Act.put, pSa, pSb, pSc])
  refine tkY 17 ?_ rfl ?_ ?_ (by assumption)
  rotate_left
  · intro w h; simp only [b3, b4, b6, cE] at h; go_simp <;> with_reducible rfl
  (try simp only [Act.put, pSa, pSb, pSc])
  refine tkY 18 ?_ rfl ?_ ?_ (by assumption)
  rotate_left
  · intro w h; simp only [b3, b4, b6, cE] at h; go_simp <;> with_reducible rfl
  (try simp only [Act.put, pSa, pSb, pSc])
  refine tkY 19 ?_ rfl ?_ ?_ (by assumption)
  rotate_left
  · intro w h; simp only [b3, b4, b6, cE] at h; go_simp <;> with_reducible rfl
  (try simp only [Act.put, pSa, pSb, pSc])
  refine tkY 21 ?_ rfl ?_ ?_ (by assumption)
  rotate_left
  · intro w h; simp only [b3, b4, b6, cE] at h; go_simp <;> with_reducible rfl
  (try simp only [Act.put, pSa, pSb, pSc])
  refine rOne 20 rfl (fun K hK => ?_)
  go_simp
  go_at_call 35
  (with_reducible refine (Hm _).mono ?_)
  rintro e rq12 ⟨rfl, zq12⟩
  go_wp2_with fail
  refine hK.out _ _ (mkq1 _ (b_step hHeld.1 zq12 hHeld.1.size)) (fun hHeld2 => ?_)
  clear hK K hHeld
  have hHeld := hHeld2
  clear hHeld2
  (try simp only [Act.put, pSa, pSb, pSc])
  refine tkY 22 ?_ rfl ?_ ?_ (by assumption)
  rotate_left
  · intro w h; simp only [b3, b4, b6, cE] at h; go_simp <;> with_reducible rfl
  (try simp only [Act.put, pSa, pSb, pSc])
  refine tkY 23 ?_ rfl ?_ ?_ (by assumption)
  rotate_left
  · intro w h; simp only [b3, b4, b6, cE] at h; go_simp <;> with_reducible rfl
  (try simp only [Act.put, pSa, pSb, pSc])
  refine tkY 24 ?_ rfl ?_ ?_ (by assumption)
  rotate_left
  · intro w h; simp only [b3, b4, b6, cE] at h; go_simp <;> with_reducible rfl
  (try simp only [Act.put, pSa, pSb, pSc])
  refine wpAnyH_done (by kernel_rfl) ?_ _
  have belq1 := b_step gb1 hHeld.1 gb1.size
  obtain ⟨-, ⟨h1_0_0, h1_0_1, h1_0_2⟩, ⟨h1_1_0, h1_1_1, h1_1_2⟩, ⟨h1_2_0, h1_2_1, h1_2_2, h1_2_3⟩, ⟨h1_3_0, h1_3_1, h1_3_2, h1_3_3, h1_3_4, h1_3_5⟩, ⟨h1_4_0, h1_4_1, h1_4_2⟩⟩ := hHeld
  clear gb1 mkq1 g1_0_0 g1_0_1 g1_0_2 g1_1_0 g1_1_1 g1_1_2 g1_2_0 g1_2_1 g1_2_2 g1_2_3 g1_3_0 g1_3_1 g1_3_2 g1_3_3 g1_3_4 g1_3_5 g1_4_0 g1_4_1 g1_4_2
  have zh1_0 := World.block_lt_of_cell? _ _ h1_0_0
  have zh1_1 := World.block_lt_of_cell? _ _ h1_1_0
  have zh1_2 := World.block_lt_of_cell? _ _ h1_2_0
  have zh1_3 := World.block_lt_of_cell? _ _ h1_3_0
  have zh1_4 := World.block_lt_of_cell? _ _ h1_4_0
  go_wp2
  go_ret
  exact ⟨rfl, belq1⟩
end Go.Proofs.YtibncdefhphggaaDoor
