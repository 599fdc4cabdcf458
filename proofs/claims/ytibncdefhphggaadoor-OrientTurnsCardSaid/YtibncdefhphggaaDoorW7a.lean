/- The walk of OrientTurns, first part. -/
import Derived.Test.YtibncdefhphggaaDoorK
namespace Go.Proofs.YtibncdefhphggaaDoor
open Go.RowKit
set_option linter.unusedSimpArgs false
set_option linter.unusedVariables false
attribute [local go_sem ↓] Go.wp_at_zero Go.wp_at_succ

set_option maxRecDepth 100000 in
set_option maxHeartbeats 16000000 in
theorem turns_1 (n m x y z d v0 v1 v2 k i q : Int) (w : World)
    (Hq : ∀ W, Below w.heap.size w W → Calls Tryd.prog 15 #[] W fun r w' => r = .returned (.bool true) ∧ Below W.heap.size W w')
    (H1 : ∀ w, Calls Tryd.prog 32 #[.int .i64 n, vV x y z] w fun r w' => r = .returned (.tuple #[vV 0 0 0, .int .i64 1]) ∧ Below w.heap.size w w')
    (H2 : ∀ w, Calls Tryd.prog 30 #[.int .i64 n, .int .i64 m] w fun r w' => r = .returned (.tuple #[.int .i64 0, .int .i64 1]) ∧ Below w.heap.size w w')
    (H3 : ∀ w, Calls Tryd.prog 31 #[.int .i64 n] w fun r w' => r = .returned (.tuple #[.int .i64 0, .int .i64 1]) ∧ Below w.heap.size w w')
    (H4 : ∀ W, Below w.heap.size w W → Calls Tryd.prog 33 #[.int .i64 n, .int .i64 d] W fun r w' => r = .returned (.tuple #[.int .i64 0, .int .i64 1]) ∧ Below W.heap.size W w')
    (In : ∀ w, Calls Tryd.prog 14 #[.int .i64 n] w fun e w' => e = .returned (.bool false) ∧ w = w') :
    Calls Tryd.prog 7 #[.int .i64 n, .int .i64 m, vV x y z, .int .i64 d] w fun e w' => e = .returned (.bool true) ∧ Below w.heap.size w w' := by
  go_enter Tryd.func7, Tryd.ntmps7
  go_wp2_with fail
  go_at_call 32
  (with_reducible refine (H1 _).mono ?_)
  rintro e t1 ⟨rfl, y1⟩
  have hyy := y1.size
  (try simp only [World.size_alloc, World.size_setCell, World.size_drew] at hyy)
  obtain ⟨⟨c1_0_0, c1_0_1, c1_0_2⟩, bel1⟩ : b3 t1 w.heap.size x y z ∧ Below w.heap.size w t1 := by
    refine ⟨?_, b_step (by (repeat' (first | (with_reducible assumption) | (with_reducible exact Below.refl _ _) | (with_reducible refine Below.alloc ?_ ?_ _) | (with_reducible refine Below.drew ?_) | (with_reducible refine Below.setCell ?_ ?_ _) | (with_reducible refine b_step ?_ (by assumption) ?_) | omega | (simp only [World.size_alloc, World.size_setCell, World.size_drew]; omega)))) y1 (by simp only [World.size_alloc, World.size_setCell, World.size_drew]; omega)⟩ <;> (repeat' apply And.intro) <;> exact cell_later y1 (by (simp (disch := first | omega | (simp only [World.size_alloc, World.size_setCell, World.size_drew]; done) | (simp only [World.size_alloc, World.size_setCell, World.size_drew]; omega)) only [*, r_set_same, r_set_off, r_set_blk, r_set_f, r_alloc_at, r_alloc_past, r_falloc_at, r_falloc_past, World.cell?_drew, World.frozen?_drew, Option.map_some, List.getElem?_toArray, List.getElem?_cons_zero, List.getElem?_cons_succ]; done))
  clear hyy y1 
  have zc1_0 := World.block_lt_of_cell? _ _ c1_0_0
  go_wp2_with fail
  go_at_call 30
  (with_reducible refine (H2 _).mono ?_)
  rintro e t2 ⟨rfl, y2⟩
  obtain ⟨⟨c2_0_0, c2_0_1, c2_0_2⟩, ⟨c2_1_0, c2_1_1, c2_1_2⟩, bel2⟩ : b3 t2 w.heap.size x y z ∧ b3 t2 t1.heap.size 0 0 0 ∧ Below w.heap.size w t2 := by
    refine ⟨?_, ?_, bs1 bel1 y2⟩ <;> (repeat' apply And.intro) <;> exact cell_later y2 (by (first | assumption | exact c_alloc (by assumption) | exact c_at rfl rfl))
  clear y2 c1_0_0 c1_0_1 c1_0_2 bel1 zc1_0
  have zc2_0 := World.block_lt_of_cell? _ _ c2_0_0
  have zc2_1 := World.block_lt_of_cell? _ _ c2_1_0
  go_wp2_with fail
  go_at_call 31
  (with_reducible refine (H3 _).mono ?_)
  rintro e t3 ⟨rfl, y3⟩
  obtain ⟨⟨c3_0_0, c3_0_1, c3_0_2⟩, ⟨c3_1_0, c3_1_1, c3_1_2⟩, bel3⟩ : b3 t3 w.heap.size x y z ∧ b3 t3 t1.heap.size 0 0 0 ∧ Below w.heap.size w t3 := by
    refine ⟨?_, ?_, bs0 bel2 y3⟩ <;> (repeat' apply And.intro) <;> exact cell_later y3 (by (first | assumption | exact c_alloc (by assumption) | exact c_at rfl rfl))
  clear y3 c2_0_0 c2_0_1 c2_0_2 c2_1_0 c2_1_1 c2_1_2 bel2 zc2_0 zc2_1
  have zc3_0 := World.block_lt_of_cell? _ _ c3_0_0
  have zc3_1 := World.block_lt_of_cell? _ _ c3_1_0
  go_wp2_with fail
  go_at_call 33
  (with_reducible refine (H4 _ bel3).mono ?_)
  rintro e t4 ⟨rfl, y4⟩
  obtain ⟨⟨c4_0_0, c4_0_1, c4_0_2⟩, ⟨c4_1_0, c4_1_1, c4_1_2⟩, bel4⟩ : b3 t4 w.heap.size x y z ∧ b3 t4 t1.heap.size 0 0 0 ∧ Below w.heap.size w t4 := by
    refine ⟨?_, ?_, bs0 bel3 y4⟩ <;> (repeat' apply And.intro) <;> exact cell_later y4 (by (first | assumption | exact c_alloc (by assumption) | exact c_at rfl rfl))
  clear y4 c3_0_0 c3_0_1 c3_0_2 c3_1_0 c3_1_1 c3_1_2 bel3 zc3_0 zc3_1
  have zc4_0 := World.block_lt_of_cell? _ _ c4_0_0
  have zc4_1 := World.block_lt_of_cell? _ _ c4_1_0
  go_wp2_with fail
  go_at_call 14
  (with_reducible refine (In _).mono ?_)
  rintro e tt ⟨rfl, rfl⟩
  go_wp2_with fail
  go_at_call 15
  (with_reducible refine (Hq _ bel4).mono ?_)
  rintro e t5 ⟨rfl, y5⟩
  obtain ⟨⟨c5_0_0, c5_0_1, c5_0_2⟩, ⟨c5_1_0, c5_1_1, c5_1_2⟩, bel5⟩ : b3 t5 w.heap.size x y z ∧ b3 t5 t1.heap.size 0 0 0 ∧ Below w.heap.size w t5 := by
    refine ⟨?_, ?_, bs0 bel4 y5⟩ <;> (repeat' apply And.intro) <;> exact cell_later y5 (by (first | assumption | exact c_alloc (by assumption) | exact c_at rfl rfl))
  clear y5 c4_0_0 c4_0_1 c4_0_2 c4_1_0 c4_1_1 c4_1_2 bel4 zc4_0 zc4_1
  have zc5_0 := World.block_lt_of_cell? _ _ c5_0_0
  have zc5_1 := World.block_lt_of_cell? _ _ c5_1_0
  go_wp2
  go_ret
  exact ⟨rfl, bel5⟩

set_option maxRecDepth 100000 in
set_option maxHeartbeats 16000000 in
theorem turns_2 (n m x y z d v0 v1 v2 k i q : Int) (w : World)
    (Hq : ∀ W, Below w.heap.size w W → Calls Tryd.prog 15 #[] W fun r w' => r = .returned (.bool true) ∧ Below W.heap.size W w')
    (H1 : ∀ w, Calls Tryd.prog 32 #[.int .i64 n, vV x y z] w fun r w' => r = .returned (.tuple #[vV 0 0 0, .int .i64 6]) ∧ Below w.heap.size w w')
    (H2 : ∀ w, Calls Tryd.prog 30 #[.int .i64 n, .int .i64 m] w fun r w' => r = .returned (.tuple #[.int .i64 0, .int .i64 1]) ∧ Below w.heap.size w w')
    (H3 : ∀ w, Calls Tryd.prog 31 #[.int .i64 n] w fun r w' => r = .returned (.tuple #[.int .i64 i, .int .i64 0]) ∧ Below w.heap.size w w')
    (H4 : ∀ W, Below w.heap.size w W → Calls Tryd.prog 33 #[.int .i64 n, .int .i64 d] W fun r w' => r = .returned (.tuple #[.int .i64 0, .int .i64 1]) ∧ Below W.heap.size W w')
    (In : ∀ w, Calls Tryd.prog 14 #[.int .i64 n] w fun e w' => e = .returned (.bool true) ∧ w = w')
    (Np : ∀ w, Calls Tryd.prog 17 #[vV x y z] w fun r w' => r = .returned (.bool false) ∧ Below w.heap.size w w')
    (Im : ∀ w, Calls Tryd.prog 14 #[.int .i64 m] w fun e w' => e = .returned (.bool false) ∧ w = w')
    (R3 : ∀ w, Calls Tryd.prog 39 #[.int .i64 n] w fun r w' => r = .returned (.int .i64 i) ∧ Below w.heap.size w w') (hd : d < 0) :
    Calls Tryd.prog 7 #[.int .i64 n, .int .i64 m, vV x y z, .int .i64 d] w fun e w' => e = .returned (.bool true) ∧ Below w.heap.size w w' := by
  go_enter Tryd.func7, Tryd.ntmps7
  go_wp2_with fail
  go_at_call 32
  (with_reducible refine (H1 _).mono ?_)
  rintro e t1 ⟨rfl, y1⟩
  have hyy := y1.size
  (try simp only [World.size_alloc, World.size_setCell, World.size_drew] at hyy)
  obtain ⟨⟨c1_0_0, c1_0_1, c1_0_2⟩, bel1⟩ : b3 t1 w.heap.size x y z ∧ Below w.heap.size w t1 := by
    refine ⟨?_, b_step (by (repeat' (first | (with_reducible assumption) | (with_reducible exact Below.refl _ _) | (with_reducible refine Below.alloc ?_ ?_ _) | (with_reducible refine Below.drew ?_) | (with_reducible refine Below.setCell ?_ ?_ _) | (with_reducible refine b_step ?_ (by assumption) ?_) | omega | (simp only [World.size_alloc, World.size_setCell, World.size_drew]; omega)))) y1 (by simp only [World.size_alloc, World.size_setCell, World.size_drew]; omega)⟩ <;> (repeat' apply And.intro) <;> exact cell_later y1 (by (simp (disch := first | omega | (simp only [World.size_alloc, World.size_setCell, World.size_drew]; done) | (simp only [World.size_alloc, World.size_setCell, World.size_drew]; omega)) only [*, r_set_same, r_set_off, r_set_blk, r_set_f, r_alloc_at, r_alloc_past, r_falloc_at, r_falloc_past, World.cell?_drew, World.frozen?_drew, Option.map_some, List.getElem?_toArray, List.getElem?_cons_zero, List.getElem?_cons_succ]; done))
  clear hyy y1 
  have zc1_0 := World.block_lt_of_cell? _ _ c1_0_0
  go_wp2_with fail
  go_at_call 30
  (with_reducible refine (H2 _).mono ?_)
  rintro e t2 ⟨rfl, y2⟩
  obtain ⟨⟨c2_0_0, c2_0_1, c2_0_2⟩, ⟨c2_1_0, c2_1_1, c2_1_2⟩, bel2⟩ : b3 t2 w.heap.size x y z ∧ b3 t2 t1.heap.size 0 0 0 ∧ Below w.heap.size w t2 := by
    refine ⟨?_, ?_, bs1 bel1 y2⟩ <;> (repeat' apply And.intro) <;> exact cell_later y2 (by (first | assumption | exact c_alloc (by assumption) | exact c_at rfl rfl))
  clear y2 c1_0_0 c1_0_1 c1_0_2 bel1 zc1_0
  have zc2_0 := World.block_lt_of_cell? _ _ c2_0_0
  have zc2_1 := World.block_lt_of_cell? _ _ c2_1_0
  go_wp2_with fail
  go_at_call 31
  (with_reducible refine (H3 _).mono ?_)
  rintro e t3 ⟨rfl, y3⟩
  obtain ⟨⟨c3_0_0, c3_0_1, c3_0_2⟩, ⟨c3_1_0, c3_1_1, c3_1_2⟩, bel3⟩ : b3 t3 w.heap.size x y z ∧ b3 t3 t1.heap.size 0 0 0 ∧ Below w.heap.size w t3 := by
    refine ⟨?_, ?_, bs0 bel2 y3⟩ <;> (repeat' apply And.intro) <;> exact cell_later y3 (by (first | assumption | exact c_alloc (by assumption) | exact c_at rfl rfl))
  clear y3 c2_0_0 c2_0_1 c2_0_2 c2_1_0 c2_1_1 c2_1_2 bel2 zc2_0 zc2_1
  have zc3_0 := World.block_lt_of_cell? _ _ c3_0_0
  have zc3_1 := World.block_lt_of_cell? _ _ c3_1_0
  go_wp2_with fail
  go_at_call 33
  (with_reducible refine (H4 _ bel3).mono ?_)
  rintro e t4 ⟨rfl, y4⟩
  obtain ⟨⟨c4_0_0, c4_0_1, c4_0_2⟩, ⟨c4_1_0, c4_1_1, c4_1_2⟩, bel4⟩ : b3 t4 w.heap.size x y z ∧ b3 t4 t1.heap.size 0 0 0 ∧ Below w.heap.size w t4 := by
    refine ⟨?_, ?_, bs0 bel3 y4⟩ <;> (repeat' apply And.intro) <;> exact cell_later y4 (by (first | assumption | exact c_alloc (by assumption) | exact c_at rfl rfl))
  clear y4 c3_0_0 c3_0_1 c3_0_2 c3_1_0 c3_1_1 c3_1_2 bel3 zc3_0 zc3_1
  have zc4_0 := World.block_lt_of_cell? _ _ c4_0_0
  have zc4_1 := World.block_lt_of_cell? _ _ c4_1_0
  go_wp2_with fail
  go_at_call 14
  (with_reducible refine (In _).mono ?_)
  rintro e tt ⟨rfl, rfl⟩
  go_upto_region 7 with fail
  refine gen_world (F := fun W1 => b3 W1 w.heap.size x y z ∧ b3 W1 t1.heap.size 0 0 0 ∧ Below w.heap.size w W1) ?_ (fun W1 hW => ?_)
  · refine ⟨?_, ?_, bel4⟩ <;> (repeat' apply And.intro) <;> (first | assumption | exact c_alloc (by assumption) | exact c_at rfl rfl)
  obtain ⟨⟨g1_0_0, g1_0_1, g1_0_2⟩, ⟨g1_1_0, g1_1_1, g1_1_2⟩, gb1⟩ := hW
  clear c4_0_0 c4_0_1 c4_0_2 c4_1_0 c4_1_1 c4_1_2 bel4 zc4_0 zc4_1
  have mkq1 : ∀ w', Below W1.heap.size W1 w' → (Below W1.heap.size W1 w' ∧ b3 w' w.heap.size x y z ∧ b3 w' t1.heap.size 0 0 0) := fun w' h => ⟨h, b3.later h ⟨g1_0_0, g1_0_1, g1_0_2⟩, b3.later h ⟨g1_1_0, g1_1_1, g1_1_2⟩⟩
  refine wp_region_held_drew (S := fun w' => Below W1.heap.size W1 w' ∧ b3 w' w.heap.size x y z ∧ b3 w' t1.heap.size 0 0 0) (by kernel_rfl) (mkq1 _ ((Below.refl _ _).drew)) (fun hHeld => ?_)
  refine tkY 0 ?_ rfl ?_ ?_ (by assumption)
  rotate_left
  · intro w h; simp only [b3, b4, b6, cE] at h; go_simp <;> with_reducible rfl
  (try simp only [Act.put, pSa, pSb, pSc])
  refine rOne 1 rfl (fun K hK => ?_)
  go_simp
  go_at_call 17
  (with_reducible refine (Np _).mono ?_)
  rintro e rq11 ⟨rfl, zq11⟩
  go_wp2_with fail
  refine hK.out _ _ (mkq1 _ (b_step hHeld.1 zq11 hHeld.1.size)) (fun hHeld2 => ?_)
  clear hK K hHeld
  have hHeld := hHeld2
  clear hHeld2
  (try simp only [Act.put, pSa, pSb, pSc])
  refine tkY 2 ?_ rfl ?_ ?_ (by assumption)
  rotate_left
  · intro w h; simp only [b3, b4, b6, cE] at h; go_simp <;> with_reducible rfl
  (try simp only [Act.put, pSa, pSb, pSc])
  refine tkY 3 ?_ rfl ?_ ?_ (by assumption)
  rotate_left
  · intro w h; simp only [b3, b4, b6, cE] at h; go_simp <;> with_reducible rfl
  (try simp only [Act.put, pSa, pSb, pSc])
  refine tkY 4 ?_ rfl ?_ ?_ (by assumption)
  rotate_left
  · intro w h; simp only [b3, b4, b6, cE] at h; go_simp <;> with_reducible rfl
  (try simp only [Act.put, pSa, pSb, pSc])
  refine tkY 5 ?_ rfl ?_ ?_ (by assumption)
  rotate_left
  · intro w h; simp only [b3, b4, b6, cE] at h; go_simp <;> with_reducible rfl
  (try simp only [Act.put, pSa, pSb, pSc])
  refine tkY 6 ?_ rfl ?_ ?_ (by assumption)
  rotate_left
  · intro w h; simp only [b3, b4, b6, cE] at h; go_simp <;> with_reducible rfl
  (try simp only [Act.put, pSa, pSb, pSc])
  refine tkY 7 ?_ rfl ?_ ?_ (by assumption)
  rotate_left
  · intro w h; simp only [b3, b4, b6, cE] at h; go_simp <;> with_reducible rfl
  (try simp only [Act.put, pSa, pSb, pSc])
  refine tkY 8 ?_ rfl ?_ ?_ (by assumption)
  rotate_left
  · intro w h; simp only [b3, b4, b6, cE] at h; go_simp <;> with_reducible rfl
  (try simp only [Act.put, pSa, pSb, pSc])
  refine tkY 9 ?_ rfl ?_ ?_ (by assumption)
  rotate_left
  · intro w h; simp only [b3, b4, b6, cE] at h; go_simp <;> with_reducible rfl
  (try simp only [Act.put, pSa, pSb, pSc])
  refine tkY 10 ?_ rfl ?_ ?_ (by assumption)
  rotate_left
  · intro w h; simp only [b3, b4, b6, cE] at h; go_simp <;> with_reducible rfl
  (try simp only [Act.put, pSa, pSb, pSc])
  refine tkY 11 ?_ rfl ?_ ?_ (by assumption)
  rotate_left
  · intro w h; simp only [b3, b4, b6, cE] at h; go_simp <;> with_reducible rfl
  (try simp only [Act.put, pSa, pSb, pSc])
  refine tkY 12 ?_ rfl ?_ ?_ (by assumption)
  rotate_left
  · intro w h; simp only [b3, b4, b6, cE] at h; go_simp <;> with_reducible rfl
  (try simp only [Act.put, pSa, pSb, pSc])
  refine tkY 13 ?_ rfl ?_ ?_ (by assumption)
  rotate_left
  · intro w h; simp only [b3, b4, b6, cE] at h; go_simp <;> with_reducible rfl
  (try simp only [Act.put, pSa, pSb, pSc])
  refine rOne 14 rfl (fun K hK => ?_)
  go_simp
  go_at_call 17
  (with_reducible refine (Np _).mono ?_)
  rintro e rq12 ⟨rfl, zq12⟩
  go_wp2_with fail
  refine hK.out _ _ (mkq1 _ (b_step hHeld.1 zq12 hHeld.1.size)) (fun hHeld2 => ?_)
  clear hK K hHeld
  have hHeld := hHeld2
  clear hHeld2
  (try simp only [Act.put, pSa, pSb, pSc])
  refine tkY 15 ?_ rfl ?_ ?_ (by assumption)
  rotate_left
  · intro w h; simp only [b3, b4, b6, cE] at h; go_simp <;> with_reducible rfl
  (try simp only [Act.put, pSa, pSb, pSc])
  refine tkN 16 rfl ?_ (by assumption)
  (try simp only [Act.put, pSa, pSb, pSc])
  refine tkN 17 rfl ?_ (by assumption)
  (try simp only [Act.put, pSa, pSb, pSc])
  refine tkN 18 rfl ?_ (by assumption)
  (try simp only [Act.put, pSa, pSb, pSc])
  refine tkN 19 rfl ?_ (by assumption)
  (try simp only [Act.put, pSa, pSb, pSc])
  refine tkN 20 rfl ?_ (by assumption)
  (try simp only [Act.put, pSa, pSb, pSc])
  refine tkN 21 rfl ?_ (by assumption)
  (try simp only [Act.put, pSa, pSb, pSc])
  refine tkN 22 rfl ?_ (by assumption)
  (try simp only [Act.put, pSa, pSb, pSc])
  refine tkN 23 rfl ?_ (by assumption)
  (try simp only [Act.put, pSa, pSb, pSc])
  refine tkN 24 rfl ?_ (by assumption)
  (try simp only [Act.put, pSa, pSb, pSc])
  refine tkY 25 ?_ rfl ?_ ?_ (by assumption)
  rotate_left
  · intro w h; simp only [b3, b4, b6, cE] at h; go_simp <;> with_reducible rfl
  (try simp only [Act.put, pSa, pSb, pSc])
  refine tkY 26 ?_ rfl ?_ ?_ (by assumption)
  rotate_left
  · intro w h; simp only [b3, b4, b6, cE] at h; go_simp <;> with_reducible rfl
  (try simp only [Act.put, pSa, pSb, pSc])
  refine wpAnyH_done (by kernel_rfl) ?_ _
  have belq1 := b_step gb1 hHeld.1 gb1.size
  obtain ⟨-, ⟨h1_0_0, h1_0_1, h1_0_2⟩, ⟨h1_1_0, h1_1_1, h1_1_2⟩⟩ := hHeld
  clear gb1 mkq1 g1_0_0 g1_0_1 g1_0_2 g1_1_0 g1_1_1 g1_1_2
  have zh1_0 := World.block_lt_of_cell? _ _ h1_0_0
  have zh1_1 := World.block_lt_of_cell? _ _ h1_1_0
  go_wp2_with fail
  go_at_call 14
  (with_reducible refine (Im _).mono ?_)
  rintro e tt ⟨rfl, rfl⟩
  go_wp2_with fail
  go_at_call 14
  (with_reducible refine (Im _).mono ?_)
  rintro e tt ⟨rfl, rfl⟩
  go_wp2_with fail
  go_at_call 15
  (with_reducible refine (Hq _ belq1).mono ?_)
  rintro e t5 ⟨rfl, y5⟩
  obtain ⟨⟨c5_0_0, c5_0_1, c5_0_2⟩, ⟨c5_1_0, c5_1_1, c5_1_2⟩, bel5⟩ : b3 t5 w.heap.size x y z ∧ b3 t5 t1.heap.size 0 0 0 ∧ Below w.heap.size w t5 := by
    refine ⟨?_, ?_, bs0 belq1 y5⟩ <;> (repeat' apply And.intro) <;> exact cell_later y5 (by (first | assumption | exact c_alloc (by assumption) | exact c_at rfl rfl))
  clear y5 h1_0_0 h1_0_1 h1_0_2 h1_1_0 h1_1_1 h1_1_2 belq1 zh1_0 zh1_1
  have zc5_0 := World.block_lt_of_cell? _ _ c5_0_0
  have zc5_1 := World.block_lt_of_cell? _ _ c5_1_0
  go_wp2_with fail
  go_at_call 39
  (with_reducible refine (R3 _).mono ?_)
  rintro e t6 ⟨rfl, y6⟩
  obtain ⟨⟨c6_0_0, c6_0_1, c6_0_2⟩, ⟨c6_1_0, c6_1_1, c6_1_2⟩, bel6⟩ : b3 t6 w.heap.size x y z ∧ b3 t6 t1.heap.size 0 0 0 ∧ Below w.heap.size w t6 := by
    refine ⟨?_, ?_, bs0 bel5 y6⟩ <;> (repeat' apply And.intro) <;> exact cell_later y6 (by (first | assumption | exact c_alloc (by assumption) | exact c_at rfl rfl))
  clear y6 c5_0_0 c5_0_1 c5_0_2 c5_1_0 c5_1_1 c5_1_2 bel5 zc5_0 zc5_1
  have zc6_0 := World.block_lt_of_cell? _ _ c6_0_0
  have zc6_1 := World.block_lt_of_cell? _ _ c6_1_0
  go_wp2
  go_ret
  exact ⟨rfl, bel6⟩

set_option maxRecDepth 100000 in
set_option maxHeartbeats 16000000 in
theorem turns_3 (n m x y z d v0 v1 v2 k i q : Int) (w : World)
    (Hq : ∀ W, Below w.heap.size w W → Calls Tryd.prog 15 #[] W fun r w' => r = .returned (.bool true) ∧ Below W.heap.size W w')
    (H1 : ∀ w, Calls Tryd.prog 32 #[.int .i64 n, vV x y z] w fun r w' => r = .returned (.tuple #[vV 0 0 0, .int .i64 6]) ∧ Below w.heap.size w w')
    (H2 : ∀ w, Calls Tryd.prog 30 #[.int .i64 n, .int .i64 m] w fun r w' => r = .returned (.tuple #[.int .i64 0, .int .i64 1]) ∧ Below w.heap.size w w')
    (H3 : ∀ w, Calls Tryd.prog 31 #[.int .i64 n] w fun r w' => r = .returned (.tuple #[.int .i64 i, .int .i64 0]) ∧ Below w.heap.size w w')
    (H4 : ∀ W, Below w.heap.size w W → Calls Tryd.prog 33 #[.int .i64 n, .int .i64 d] W fun r w' => r = .returned (.tuple #[.int .i64 0, .int .i64 1]) ∧ Below W.heap.size W w')
    (In : ∀ w, Calls Tryd.prog 14 #[.int .i64 n] w fun e w' => e = .returned (.bool true) ∧ w = w')
    (Np : ∀ w, Calls Tryd.prog 17 #[vV x y z] w fun r w' => r = .returned (.bool false) ∧ Below w.heap.size w w')
    (Im : ∀ w, Calls Tryd.prog 14 #[.int .i64 m] w fun e w' => e = .returned (.bool false) ∧ w = w')
    (R3 : ∀ w, Calls Tryd.prog 39 #[.int .i64 n] w fun r w' => r = .returned (.int .i64 i) ∧ Below w.heap.size w w') (hd' : 0 ≤ d) (hd : 5 < d) :
    Calls Tryd.prog 7 #[.int .i64 n, .int .i64 m, vV x y z, .int .i64 d] w fun e w' => e = .returned (.bool true) ∧ Below w.heap.size w w' := by
  go_enter Tryd.func7, Tryd.ntmps7
  go_wp2_with fail
  go_at_call 32
  (with_reducible refine (H1 _).mono ?_)
  rintro e t1 ⟨rfl, y1⟩
  have hyy := y1.size
  (try simp only [World.size_alloc, World.size_setCell, World.size_drew] at hyy)
  obtain ⟨⟨c1_0_0, c1_0_1, c1_0_2⟩, bel1⟩ : b3 t1 w.heap.size x y z ∧ Below w.heap.size w t1 := by
    refine ⟨?_, b_step (by (repeat' (first | (with_reducible assumption) | (with_reducible exact Below.refl _ _) | (with_reducible refine Below.alloc ?_ ?_ _) | (with_reducible refine Below.drew ?_) | (with_reducible refine Below.setCell ?_ ?_ _) | (with_reducible refine b_step ?_ (by assumption) ?_) | omega | (simp only [World.size_alloc, World.size_setCell, World.size_drew]; omega)))) y1 (by simp only [World.size_alloc, World.size_setCell, World.size_drew]; omega)⟩ <;> (repeat' apply And.intro) <;> exact cell_later y1 (by (simp (disch := first | omega | (simp only [World.size_alloc, World.size_setCell, World.size_drew]; done) | (simp only [World.size_alloc, World.size_setCell, World.size_drew]; omega)) only [*, r_set_same, r_set_off, r_set_blk, r_set_f, r_alloc_at, r_alloc_past, r_falloc_at, r_falloc_past, World.cell?_drew, World.frozen?_drew, Option.map_some, List.getElem?_toArray, List.getElem?_cons_zero, List.getElem?_cons_succ]; done))
  clear hyy y1 
  have zc1_0 := World.block_lt_of_cell? _ _ c1_0_0
  go_wp2_with fail
  go_at_call 30
  (with_reducible refine (H2 _).mono ?_)
  rintro e t2 ⟨rfl, y2⟩
  obtain ⟨⟨c2_0_0, c2_0_1, c2_0_2⟩, ⟨c2_1_0, c2_1_1, c2_1_2⟩, bel2⟩ : b3 t2 w.heap.size x y z ∧ b3 t2 t1.heap.size 0 0 0 ∧ Below w.heap.size w t2 := by
    refine ⟨?_, ?_, bs1 bel1 y2⟩ <;> (repeat' apply And.intro) <;> exact cell_later y2 (by (first | assumption | exact c_alloc (by assumption) | exact c_at rfl rfl))
  clear y2 c1_0_0 c1_0_1 c1_0_2 bel1 zc1_0
  have zc2_0 := World.block_lt_of_cell? _ _ c2_0_0
  have zc2_1 := World.block_lt_of_cell? _ _ c2_1_0
  go_wp2_with fail
  go_at_call 31
  (with_reducible refine (H3 _).mono ?_)
  rintro e t3 ⟨rfl, y3⟩
  obtain ⟨⟨c3_0_0, c3_0_1, c3_0_2⟩, ⟨c3_1_0, c3_1_1, c3_1_2⟩, bel3⟩ : b3 t3 w.heap.size x y z ∧ b3 t3 t1.heap.size 0 0 0 ∧ Below w.heap.size w t3 := by
    refine ⟨?_, ?_, bs0 bel2 y3⟩ <;> (repeat' apply And.intro) <;> exact cell_later y3 (by (first | assumption | exact c_alloc (by assumption) | exact c_at rfl rfl))
  clear y3 c2_0_0 c2_0_1 c2_0_2 c2_1_0 c2_1_1 c2_1_2 bel2 zc2_0 zc2_1
  have zc3_0 := World.block_lt_of_cell? _ _ c3_0_0
  have zc3_1 := World.block_lt_of_cell? _ _ c3_1_0
  go_wp2_with fail
  go_at_call 33
  (with_reducible refine (H4 _ bel3).mono ?_)
  rintro e t4 ⟨rfl, y4⟩
  obtain ⟨⟨c4_0_0, c4_0_1, c4_0_2⟩, ⟨c4_1_0, c4_1_1, c4_1_2⟩, bel4⟩ : b3 t4 w.heap.size x y z ∧ b3 t4 t1.heap.size 0 0 0 ∧ Below w.heap.size w t4 := by
    refine ⟨?_, ?_, bs0 bel3 y4⟩ <;> (repeat' apply And.intro) <;> exact cell_later y4 (by (first | assumption | exact c_alloc (by assumption) | exact c_at rfl rfl))
  clear y4 c3_0_0 c3_0_1 c3_0_2 c3_1_0 c3_1_1 c3_1_2 bel3 zc3_0 zc3_1
  have zc4_0 := World.block_lt_of_cell? _ _ c4_0_0
  have zc4_1 := World.block_lt_of_cell? _ _ c4_1_0
  go_wp2_with fail
  go_at_call 14
  (with_reducible refine (In _).mono ?_)
  rintro e tt ⟨rfl, rfl⟩
  go_upto_region 7 with fail
  refine gen_world (F := fun W1 => b3 W1 w.heap.size x y z ∧ b3 W1 t1.heap.size 0 0 0 ∧ Below w.heap.size w W1) ?_ (fun W1 hW => ?_)
  · refine ⟨?_, ?_, bel4⟩ <;> (repeat' apply And.intro) <;> (first | assumption | exact c_alloc (by assumption) | exact c_at rfl rfl)
  obtain ⟨⟨g1_0_0, g1_0_1, g1_0_2⟩, ⟨g1_1_0, g1_1_1, g1_1_2⟩, gb1⟩ := hW
  clear c4_0_0 c4_0_1 c4_0_2 c4_1_0 c4_1_1 c4_1_2 bel4 zc4_0 zc4_1
  have mkq1 : ∀ w', Below W1.heap.size W1 w' → (Below W1.heap.size W1 w' ∧ b3 w' w.heap.size x y z ∧ b3 w' t1.heap.size 0 0 0) := fun w' h => ⟨h, b3.later h ⟨g1_0_0, g1_0_1, g1_0_2⟩, b3.later h ⟨g1_1_0, g1_1_1, g1_1_2⟩⟩
  refine wp_region_held_drew (S := fun w' => Below W1.heap.size W1 w' ∧ b3 w' w.heap.size x y z ∧ b3 w' t1.heap.size 0 0 0) (by kernel_rfl) (mkq1 _ ((Below.refl _ _).drew)) (fun hHeld => ?_)
  refine tkY 0 ?_ rfl ?_ ?_ (by assumption)
  rotate_left
  · intro w h; simp only [b3, b4, b6, cE] at h; go_simp <;> with_reducible rfl
  (try simp only [Act.put, pSa, pSb, pSc])
  refine rOne 1 rfl (fun K hK => ?_)
  go_simp
  go_at_call 17
  (with_reducible refine (Np _).mono ?_)
  rintro e rq11 ⟨rfl, zq11⟩
  go_wp2_with fail
  refine hK.out _ _ (mkq1 _ (b_step hHeld.1 zq11 hHeld.1.size)) (fun hHeld2 => ?_)
  clear hK K hHeld
  have hHeld := hHeld2
  clear hHeld2
  (try simp only [Act.put, pSa, pSb, pSc])
  refine tkY 2 ?_ rfl ?_ ?_ (by assumption)
  rotate_left
  · intro w h; simp only [b3, b4, b6, cE] at h; go_simp <;> with_reducible rfl
  (try simp only [Act.put, pSa, pSb, pSc])
  refine tkY 3 ?_ rfl ?_ ?_ (by assumption)
  rotate_left
  · intro w h; simp only [b3, b4, b6, cE] at h; go_simp <;> with_reducible rfl
  (try simp only [Act.put, pSa, pSb, pSc])
  refine tkY 4 ?_ rfl ?_ ?_ (by assumption)
  rotate_left
  · intro w h; simp only [b3, b4, b6, cE] at h; go_simp <;> with_reducible rfl
  (try simp only [Act.put, pSa, pSb, pSc])
  refine tkY 5 ?_ rfl ?_ ?_ (by assumption)
  rotate_left
  · intro w h; simp only [b3, b4, b6, cE] at h; go_simp <;> with_reducible rfl
  (try simp only [Act.put, pSa, pSb, pSc])
  refine tkY 6 ?_ rfl ?_ ?_ (by assumption)
  rotate_left
  · intro w h; simp only [b3, b4, b6, cE] at h; go_simp <;> with_reducible rfl
  (try simp only [Act.put, pSa, pSb, pSc])
  refine tkY 7 ?_ rfl ?_ ?_ (by assumption)
  rotate_left
  · intro w h; simp only [b3, b4, b6, cE] at h; go_simp <;> with_reducible rfl
  (try simp only [Act.put, pSa, pSb, pSc])
  refine tkY 8 ?_ rfl ?_ ?_ (by assumption)
  rotate_left
  · intro w h; simp only [b3, b4, b6, cE] at h; go_simp <;> with_reducible rfl
  (try simp only [Act.put, pSa, pSb, pSc])
  refine tkY 9 ?_ rfl ?_ ?_ (by assumption)
  rotate_left
  · intro w h; simp only [b3, b4, b6, cE] at h; go_simp <;> with_reducible rfl
  (try simp only [Act.put, pSa, pSb, pSc])
  refine tkY 10 ?_ rfl ?_ ?_ (by assumption)
  rotate_left
  · intro w h; simp only [b3, b4, b6, cE] at h; go_simp <;> with_reducible rfl
  (try simp only [Act.put, pSa, pSb, pSc])
  refine tkY 11 ?_ rfl ?_ ?_ (by assumption)
  rotate_left
  · intro w h; simp only [b3, b4, b6, cE] at h; go_simp <;> with_reducible rfl
  (try simp only [Act.put, pSa, pSb, pSc])
  refine tkY 12 ?_ rfl ?_ ?_ (by assumption)
  rotate_left
  · intro w h; simp only [b3, b4, b6, cE] at h; go_simp <;> with_reducible rfl
  (try simp only [Act.put, pSa, pSb, pSc])
  refine tkY 13 ?_ rfl ?_ ?_ (by assumption)
  rotate_left
  · intro w h; simp only [b3, b4, b6, cE] at h; go_simp <;> with_reducible rfl
  (try simp only [Act.put, pSa, pSb, pSc])
  refine rOne 14 rfl (fun K hK => ?_)
  go_simp
  go_at_call 17
  (with_reducible refine (Np _).mono ?_)
  rintro e rq12 ⟨rfl, zq12⟩
  go_wp2_with fail
  refine hK.out _ _ (mkq1 _ (b_step hHeld.1 zq12 hHeld.1.size)) (fun hHeld2 => ?_)
  clear hK K hHeld
  have hHeld := hHeld2
  clear hHeld2
  (try simp only [Act.put, pSa, pSb, pSc])
  refine tkY 15 ?_ rfl ?_ ?_ (by assumption)
  rotate_left
  · intro w h; simp only [b3, b4, b6, cE] at h; go_simp <;> with_reducible rfl
  (try simp only [Act.put, pSa, pSb, pSc])
  refine tkN 16 rfl ?_ (by assumption)
  (try simp only [Act.put, pSa, pSb, pSc])
  refine tkN 17 rfl ?_ (by assumption)
  (try simp only [Act.put, pSa, pSb, pSc])
  refine tkN 18 rfl ?_ (by assumption)
  (try simp only [Act.put, pSa, pSb, pSc])
  refine tkN 19 rfl ?_ (by assumption)
  (try simp only [Act.put, pSa, pSb, pSc])
  refine tkN 20 rfl ?_ (by assumption)
  (try simp only [Act.put, pSa, pSb, pSc])
  refine tkN 21 rfl ?_ (by assumption)
  (try simp only [Act.put, pSa, pSb, pSc])
  refine tkN 22 rfl ?_ (by assumption)
  (try simp only [Act.put, pSa, pSb, pSc])
  refine tkN 23 rfl ?_ (by assumption)
  (try simp only [Act.put, pSa, pSb, pSc])
  refine tkN 24 rfl ?_ (by assumption)
  (try simp only [Act.put, pSa, pSb, pSc])
  refine tkY 25 ?_ rfl ?_ ?_ (by assumption)
  rotate_left
  · intro w h; simp only [b3, b4, b6, cE] at h; go_simp <;> with_reducible rfl
  (try simp only [Act.put, pSa, pSb, pSc])
  refine tkY 26 ?_ rfl ?_ ?_ (by assumption)
  rotate_left
  · intro w h; simp only [b3, b4, b6, cE] at h; go_simp <;> with_reducible rfl
  (try simp only [Act.put, pSa, pSb, pSc])
  refine wpAnyH_done (by kernel_rfl) ?_ _
  have belq1 := b_step gb1 hHeld.1 gb1.size
  obtain ⟨-, ⟨h1_0_0, h1_0_1, h1_0_2⟩, ⟨h1_1_0, h1_1_1, h1_1_2⟩⟩ := hHeld
  clear gb1 mkq1 g1_0_0 g1_0_1 g1_0_2 g1_1_0 g1_1_1 g1_1_2
  have zh1_0 := World.block_lt_of_cell? _ _ h1_0_0
  have zh1_1 := World.block_lt_of_cell? _ _ h1_1_0
  go_wp2_with fail
  go_at_call 14
  (with_reducible refine (Im _).mono ?_)
  rintro e tt ⟨rfl, rfl⟩
  go_wp2_with fail
  go_at_call 14
  (with_reducible refine (Im _).mono ?_)
  rintro e tt ⟨rfl, rfl⟩
  go_wp2_with fail
  go_at_call 15
  (with_reducible refine (Hq _ belq1).mono ?_)
  rintro e t5 ⟨rfl, y5⟩
  obtain ⟨⟨c5_0_0, c5_0_1, c5_0_2⟩, ⟨c5_1_0, c5_1_1, c5_1_2⟩, bel5⟩ : b3 t5 w.heap.size x y z ∧ b3 t5 t1.heap.size 0 0 0 ∧ Below w.heap.size w t5 := by
    refine ⟨?_, ?_, bs0 belq1 y5⟩ <;> (repeat' apply And.intro) <;> exact cell_later y5 (by (first | assumption | exact c_alloc (by assumption) | exact c_at rfl rfl))
  clear y5 h1_0_0 h1_0_1 h1_0_2 h1_1_0 h1_1_1 h1_1_2 belq1 zh1_0 zh1_1
  have zc5_0 := World.block_lt_of_cell? _ _ c5_0_0
  have zc5_1 := World.block_lt_of_cell? _ _ c5_1_0
  go_wp2_with fail
  go_at_call 39
  (with_reducible refine (R3 _).mono ?_)
  rintro e t6 ⟨rfl, y6⟩
  obtain ⟨⟨c6_0_0, c6_0_1, c6_0_2⟩, ⟨c6_1_0, c6_1_1, c6_1_2⟩, bel6⟩ : b3 t6 w.heap.size x y z ∧ b3 t6 t1.heap.size 0 0 0 ∧ Below w.heap.size w t6 := by
    refine ⟨?_, ?_, bs0 bel5 y6⟩ <;> (repeat' apply And.intro) <;> exact cell_later y6 (by (first | assumption | exact c_alloc (by assumption) | exact c_at rfl rfl))
  clear y6 c5_0_0 c5_0_1 c5_0_2 c5_1_0 c5_1_1 c5_1_2 bel5 zc5_0 zc5_1
  have zc6_0 := World.block_lt_of_cell? _ _ c6_0_0
  have zc6_1 := World.block_lt_of_cell? _ _ c6_1_0
  go_wp2
  go_ret
  exact ⟨rfl, bel6⟩

set_option maxRecDepth 100000 in
set_option maxHeartbeats 16000000 in
theorem turns_4 (n m x y z d v0 v1 v2 k i q : Int) (w : World)
    (Hq : ∀ W, Below w.heap.size w W → Calls Tryd.prog 15 #[] W fun r w' => r = .returned (.bool true) ∧ Below W.heap.size W w')
    (H1 : ∀ w, Calls Tryd.prog 32 #[.int .i64 n, vV x y z] w fun r w' => r = .returned (.tuple #[vV 0 0 0, .int .i64 6]) ∧ Below w.heap.size w w')
    (H2 : ∀ w, Calls Tryd.prog 30 #[.int .i64 n, .int .i64 m] w fun r w' => r = .returned (.tuple #[.int .i64 0, .int .i64 1]) ∧ Below w.heap.size w w')
    (H3 : ∀ w, Calls Tryd.prog 31 #[.int .i64 n] w fun r w' => r = .returned (.tuple #[.int .i64 i, .int .i64 0]) ∧ Below w.heap.size w w')
    (H4 : ∀ W, Below w.heap.size w W → Calls Tryd.prog 33 #[.int .i64 n, .int .i64 d] W fun r w' => r = .returned (.tuple #[.int .i64 q, .int .i64 0]) ∧ Below W.heap.size W w')
    (In : ∀ w, Calls Tryd.prog 14 #[.int .i64 n] w fun e w' => e = .returned (.bool true) ∧ w = w')
    (Np : ∀ w, Calls Tryd.prog 17 #[vV x y z] w fun r w' => r = .returned (.bool false) ∧ Below w.heap.size w w')
    (Im : ∀ w, Calls Tryd.prog 14 #[.int .i64 m] w fun e w' => e = .returned (.bool false) ∧ w = w')
    (R3 : ∀ w, Calls Tryd.prog 39 #[.int .i64 n] w fun r w' => r = .returned (.int .i64 i) ∧ Below w.heap.size w w')
    (R4 : ∀ w, Calls Tryd.prog 40 #[.int .i64 n, .int .i64 d] w fun r w' => r = .returned (.int .i64 q) ∧ Below w.heap.size w w') (hd : 0 ≤ d) (hd' : d ≤ 5) :
    Calls Tryd.prog 7 #[.int .i64 n, .int .i64 m, vV x y z, .int .i64 d] w fun e w' => e = .returned (.bool true) ∧ Below w.heap.size w w' := by
  go_enter Tryd.func7, Tryd.ntmps7
  go_wp2_with fail
  go_at_call 32
  (with_reducible refine (H1 _).mono ?_)
  rintro e t1 ⟨rfl, y1⟩
  have hyy := y1.size
  (try simp only [World.size_alloc, World.size_setCell, World.size_drew] at hyy)
  obtain ⟨⟨c1_0_0, c1_0_1, c1_0_2⟩, bel1⟩ : b3 t1 w.heap.size x y z ∧ Below w.heap.size w t1 := by
    refine ⟨?_, b_step (by (repeat' (first | (with_reducible assumption) | (with_reducible exact Below.refl _ _) | (with_reducible refine Below.alloc ?_ ?_ _) | (with_reducible refine Below.drew ?_) | (with_reducible refine Below.setCell ?_ ?_ _) | (with_reducible refine b_step ?_ (by assumption) ?_) | omega | (simp only [World.size_alloc, World.size_setCell, World.size_drew]; omega)))) y1 (by simp only [World.size_alloc, World.size_setCell, World.size_drew]; omega)⟩ <;> (repeat' apply And.intro) <;> exact cell_later y1 (by (simp (disch := first | omega | (simp only [World.size_alloc, World.size_setCell, World.size_drew]; done) | (simp only [World.size_alloc, World.size_setCell, World.size_drew]; omega)) only [*, r_set_same, r_set_off, r_set_blk, r_set_f, r_alloc_at, r_alloc_past, r_falloc_at, r_falloc_past, World.cell?_drew, World.frozen?_drew, Option.map_some, List.getElem?_toArray, List.getElem?_cons_zero, List.getElem?_cons_succ]; done))
  clear hyy y1 
  have zc1_0 := World.block_lt_of_cell? _ _ c1_0_0
  go_wp2_with fail
  go_at_call 30
  (with_reducible refine (H2 _).mono ?_)
  rintro e t2 ⟨rfl, y2⟩
  obtain ⟨⟨c2_0_0, c2_0_1, c2_0_2⟩, ⟨c2_1_0, c2_1_1, c2_1_2⟩, bel2⟩ : b3 t2 w.heap.size x y z ∧ b3 t2 t1.heap.size 0 0 0 ∧ Below w.heap.size w t2 := by
    refine ⟨?_, ?_, bs1 bel1 y2⟩ <;> (repeat' apply And.intro) <;> exact cell_later y2 (by (first | assumption | exact c_alloc (by assumption) | exact c_at rfl rfl))
  clear y2 c1_0_0 c1_0_1 c1_0_2 bel1 zc1_0
  have zc2_0 := World.block_lt_of_cell? _ _ c2_0_0
  have zc2_1 := World.block_lt_of_cell? _ _ c2_1_0
  go_wp2_with fail
  go_at_call 31
  (with_reducible refine (H3 _).mono ?_)
  rintro e t3 ⟨rfl, y3⟩
  obtain ⟨⟨c3_0_0, c3_0_1, c3_0_2⟩, ⟨c3_1_0, c3_1_1, c3_1_2⟩, bel3⟩ : b3 t3 w.heap.size x y z ∧ b3 t3 t1.heap.size 0 0 0 ∧ Below w.heap.size w t3 := by
    refine ⟨?_, ?_, bs0 bel2 y3⟩ <;> (repeat' apply And.intro) <;> exact cell_later y3 (by (first | assumption | exact c_alloc (by assumption) | exact c_at rfl rfl))
  clear y3 c2_0_0 c2_0_1 c2_0_2 c2_1_0 c2_1_1 c2_1_2 bel2 zc2_0 zc2_1
  have zc3_0 := World.block_lt_of_cell? _ _ c3_0_0
  have zc3_1 := World.block_lt_of_cell? _ _ c3_1_0
  go_wp2_with fail
  go_at_call 33
  (with_reducible refine (H4 _ bel3).mono ?_)
  rintro e t4 ⟨rfl, y4⟩
  obtain ⟨⟨c4_0_0, c4_0_1, c4_0_2⟩, ⟨c4_1_0, c4_1_1, c4_1_2⟩, bel4⟩ : b3 t4 w.heap.size x y z ∧ b3 t4 t1.heap.size 0 0 0 ∧ Below w.heap.size w t4 := by
    refine ⟨?_, ?_, bs0 bel3 y4⟩ <;> (repeat' apply And.intro) <;> exact cell_later y4 (by (first | assumption | exact c_alloc (by assumption) | exact c_at rfl rfl))
  clear y4 c3_0_0 c3_0_1 c3_0_2 c3_1_0 c3_1_1 c3_1_2 bel3 zc3_0 zc3_1
  have zc4_0 := World.block_lt_of_cell? _ _ c4_0_0
  have zc4_1 := World.block_lt_of_cell? _ _ c4_1_0
  go_wp2_with fail
  go_at_call 14
  (with_reducible refine (In _).mono ?_)
  rintro e tt ⟨rfl, rfl⟩
  go_upto_region 7 with fail
  refine gen_world (F := fun W1 => b3 W1 w.heap.size x y z ∧ b3 W1 t1.heap.size 0 0 0 ∧ Below w.heap.size w W1) ?_ (fun W1 hW => ?_)
  · refine ⟨?_, ?_, bel4⟩ <;> (repeat' apply And.intro) <;> (first | assumption | exact c_alloc (by assumption) | exact c_at rfl rfl)
  obtain ⟨⟨g1_0_0, g1_0_1, g1_0_2⟩, ⟨g1_1_0, g1_1_1, g1_1_2⟩, gb1⟩ := hW
  clear c4_0_0 c4_0_1 c4_0_2 c4_1_0 c4_1_1 c4_1_2 bel4 zc4_0 zc4_1
  have mkq1 : ∀ w', Below W1.heap.size W1 w' → (Below W1.heap.size W1 w' ∧ b3 w' w.heap.size x y z ∧ b3 w' t1.heap.size 0 0 0) := fun w' h => ⟨h, b3.later h ⟨g1_0_0, g1_0_1, g1_0_2⟩, b3.later h ⟨g1_1_0, g1_1_1, g1_1_2⟩⟩
  refine wp_region_held_drew (S := fun w' => Below W1.heap.size W1 w' ∧ b3 w' w.heap.size x y z ∧ b3 w' t1.heap.size 0 0 0) (by kernel_rfl) (mkq1 _ ((Below.refl _ _).drew)) (fun hHeld => ?_)
  refine tkY 0 ?_ rfl ?_ ?_ (by assumption)
  rotate_left
  · intro w h; simp only [b3, b4, b6, cE] at h; go_simp <;> with_reducible rfl
  (try simp only [Act.put, pSa, pSb, pSc])
  refine rOne 1 rfl (fun K hK => ?_)
  go_simp
  go_at_call 17
  (with_reducible refine (Np _).mono ?_)
  rintro e rq11 ⟨rfl, zq11⟩
  go_wp2_with fail
  refine hK.out _ _ (mkq1 _ (b_step hHeld.1 zq11 hHeld.1.size)) (fun hHeld2 => ?_)
  clear hK K hHeld
  have hHeld := hHeld2
  clear hHeld2
  (try simp only [Act.put, pSa, pSb, pSc])
  refine tkY 2 ?_ rfl ?_ ?_ (by assumption)
  rotate_left
  · intro w h; simp only [b3, b4, b6, cE] at h; go_simp <;> with_reducible rfl
  (try simp only [Act.put, pSa, pSb, pSc])
  refine tkY 3 ?_ rfl ?_ ?_ (by assumption)
  rotate_left
  · intro w h; simp only [b3, b4, b6, cE] at h; go_simp <;> with_reducible rfl
  (try simp only [Act.put, pSa, pSb, pSc])
  refine tkY 4 ?_ rfl ?_ ?_ (by assumption)
  rotate_left
  · intro w h; simp only [b3, b4, b6, cE] at h; go_simp <;> with_reducible rfl
  (try simp only [Act.put, pSa, pSb, pSc])
  refine tkY 5 ?_ rfl ?_ ?_ (by assumption)
  rotate_left
  · intro w h; simp only [b3, b4, b6, cE] at h; go_simp <;> with_reducible rfl
  (try simp only [Act.put, pSa, pSb, pSc])
  refine tkY 6 ?_ rfl ?_ ?_ (by assumption)
  rotate_left
  · intro w h; simp only [b3, b4, b6, cE] at h; go_simp <;> with_reducible rfl
  (try simp only [Act.put, pSa, pSb, pSc])
  refine tkY 7 ?_ rfl ?_ ?_ (by assumption)
  rotate_left
  · intro w h; simp only [b3, b4, b6, cE] at h; go_simp <;> with_reducible rfl
  (try simp only [Act.put, pSa, pSb, pSc])
  refine tkY 8 ?_ rfl ?_ ?_ (by assumption)
  rotate_left
  · intro w h; simp only [b3, b4, b6, cE] at h; go_simp <;> with_reducible rfl
  (try simp only [Act.put, pSa, pSb, pSc])
  refine tkY 9 ?_ rfl ?_ ?_ (by assumption)
  rotate_left
  · intro w h; simp only [b3, b4, b6, cE] at h; go_simp <;> with_reducible rfl
  (try simp only [Act.put, pSa, pSb, pSc])
  refine tkY 10 ?_ rfl ?_ ?_ (by assumption)
  rotate_left
  · intro w h; simp only [b3, b4, b6, cE] at h; go_simp <;> with_reducible rfl
  (try simp only [Act.put, pSa, pSb, pSc])
  refine tkY 11 ?_ rfl ?_ ?_ (by assumption)
  rotate_left
  · intro w h; simp only [b3, b4, b6, cE] at h; go_simp <;> with_reducible rfl
  (try simp only [Act.put, pSa, pSb, pSc])
  refine tkY 12 ?_ rfl ?_ ?_ (by assumption)
  rotate_left
  · intro w h; simp only [b3, b4, b6, cE] at h; go_simp <;> with_reducible rfl
  (try simp only [Act.put, pSa, pSb, pSc])
  refine tkY 13 ?_ rfl ?_ ?_ (by assumption)
  rotate_left
  · intro w h; simp only [b3, b4, b6, cE] at h; go_simp <;> with_reducible rfl
  (try simp only [Act.put, pSa, pSb, pSc])
  refine rOne 14 rfl (fun K hK => ?_)
  go_simp
  go_at_call 17
  (with_reducible refine (Np _).mono ?_)
  rintro e rq12 ⟨rfl, zq12⟩
  go_wp2_with fail
  refine hK.out _ _ (mkq1 _ (b_step hHeld.1 zq12 hHeld.1.size)) (fun hHeld2 => ?_)
  clear hK K hHeld
  have hHeld := hHeld2
  clear hHeld2
  (try simp only [Act.put, pSa, pSb, pSc])
  refine tkY 15 ?_ rfl ?_ ?_ (by assumption)
  rotate_left
  · intro w h; simp only [b3, b4, b6, cE] at h; go_simp <;> with_reducible rfl
  (try simp only [Act.put, pSa, pSb, pSc])
  refine tkN 16 rfl ?_ (by assumption)
  (try simp only [Act.put, pSa, pSb, pSc])
  refine tkN 17 rfl ?_ (by assumption)
  (try simp only [Act.put, pSa, pSb, pSc])
  refine tkN 18 rfl ?_ (by assumption)
  (try simp only [Act.put, pSa, pSb, pSc])
  refine tkN 19 rfl ?_ (by assumption)
  (try simp only [Act.put, pSa, pSb, pSc])
  refine tkN 20 rfl ?_ (by assumption)
  (try simp only [Act.put, pSa, pSb, pSc])
  refine tkN 21 rfl ?_ (by assumption)
  (try simp only [Act.put, pSa, pSb, pSc])
  refine tkN 22 rfl ?_ (by assumption)
  (try simp only [Act.put, pSa, pSb, pSc])
  refine tkN 23 rfl ?_ (by assumption)
  (try simp only [Act.put, pSa, pSb, pSc])
  refine tkN 24 rfl ?_ (by assumption)
  (try simp only [Act.put, pSa, pSb, pSc])
  refine tkY 25 ?_ rfl ?_ ?_ (by assumption)
  rotate_left
  · intro w h; simp only [b3, b4, b6, cE] at h; go_simp <;> with_reducible rfl
  (try simp only [Act.put, pSa, pSb, pSc])
  refine tkY 26 ?_ rfl ?_ ?_ (by assumption)
  rotate_left
  · intro w h; simp only [b3, b4, b6, cE] at h; go_simp <;> with_reducible rfl
  (try simp only [Act.put, pSa, pSb, pSc])
  refine wpAnyH_done (by kernel_rfl) ?_ _
  have belq1 := b_step gb1 hHeld.1 gb1.size
  obtain ⟨-, ⟨h1_0_0, h1_0_1, h1_0_2⟩, ⟨h1_1_0, h1_1_1, h1_1_2⟩⟩ := hHeld
  clear gb1 mkq1 g1_0_0 g1_0_1 g1_0_2 g1_1_0 g1_1_1 g1_1_2
  have zh1_0 := World.block_lt_of_cell? _ _ h1_0_0
  have zh1_1 := World.block_lt_of_cell? _ _ h1_1_0
  go_wp2_with fail
  go_at_call 14
  (with_reducible refine (Im _).mono ?_)
  rintro e tt ⟨rfl, rfl⟩
  go_wp2_with fail
  go_at_call 14
  (with_reducible refine (Im _).mono ?_)
  rintro e tt ⟨rfl, rfl⟩
  go_wp2_with fail
  go_at_call 15
  (with_reducible refine (Hq _ belq1).mono ?_)
  rintro e t5 ⟨rfl, y5⟩
  obtain ⟨⟨c5_0_0, c5_0_1, c5_0_2⟩, ⟨c5_1_0, c5_1_1, c5_1_2⟩, bel5⟩ : b3 t5 w.heap.size x y z ∧ b3 t5 t1.heap.size 0 0 0 ∧ Below w.heap.size w t5 := by
    refine ⟨?_, ?_, bs0 belq1 y5⟩ <;> (repeat' apply And.intro) <;> exact cell_later y5 (by (first | assumption | exact c_alloc (by assumption) | exact c_at rfl rfl))
  clear y5 h1_0_0 h1_0_1 h1_0_2 h1_1_0 h1_1_1 h1_1_2 belq1 zh1_0 zh1_1
  have zc5_0 := World.block_lt_of_cell? _ _ c5_0_0
  have zc5_1 := World.block_lt_of_cell? _ _ c5_1_0
  go_wp2_with fail
  go_at_call 39
  (with_reducible refine (R3 _).mono ?_)
  rintro e t6 ⟨rfl, y6⟩
  obtain ⟨⟨c6_0_0, c6_0_1, c6_0_2⟩, ⟨c6_1_0, c6_1_1, c6_1_2⟩, bel6⟩ : b3 t6 w.heap.size x y z ∧ b3 t6 t1.heap.size 0 0 0 ∧ Below w.heap.size w t6 := by
    refine ⟨?_, ?_, bs0 bel5 y6⟩ <;> (repeat' apply And.intro) <;> exact cell_later y6 (by (first | assumption | exact c_alloc (by assumption) | exact c_at rfl rfl))
  clear y6 c5_0_0 c5_0_1 c5_0_2 c5_1_0 c5_1_1 c5_1_2 bel5 zc5_0 zc5_1
  have zc6_0 := World.block_lt_of_cell? _ _ c6_0_0
  have zc6_1 := World.block_lt_of_cell? _ _ c6_1_0
  go_wp2_with fail
  go_at_call 40
  (with_reducible refine (R4 _).mono ?_)
  rintro e t7 ⟨rfl, y7⟩
  obtain ⟨⟨c7_0_0, c7_0_1, c7_0_2⟩, ⟨c7_1_0, c7_1_1, c7_1_2⟩, bel7⟩ : b3 t7 w.heap.size x y z ∧ b3 t7 t1.heap.size 0 0 0 ∧ Below w.heap.size w t7 := by
    refine ⟨?_, ?_, bs0 bel6 y7⟩ <;> (repeat' apply And.intro) <;> exact cell_later y7 (by (first | assumption | exact c_alloc (by assumption) | exact c_at rfl rfl))
  clear y7 c6_0_0 c6_0_1 c6_0_2 c6_1_0 c6_1_1 c6_1_2 bel6 zc6_0 zc6_1
  have zc7_0 := World.block_lt_of_cell? _ _ c7_0_0
  have zc7_1 := World.block_lt_of_cell? _ _ c7_1_0
  go_wp2
  go_ret
  exact ⟨rfl, bel7⟩

set_option maxRecDepth 100000 in
set_option maxHeartbeats 16000000 in
theorem turns_5 (n m x y z d v0 v1 v2 k i q : Int) (w : World)
    (Hq : ∀ W, Below w.heap.size w W → Calls Tryd.prog 15 #[] W fun r w' => r = .returned (.bool true) ∧ Below W.heap.size W w')
    (H1 : ∀ w, Calls Tryd.prog 32 #[.int .i64 n, vV x y z] w fun r w' => r = .returned (.tuple #[vV 0 0 0, .int .i64 6]) ∧ Below w.heap.size w w')
    (H2 : ∀ w, Calls Tryd.prog 30 #[.int .i64 n, .int .i64 m] w fun r w' => r = .returned (.tuple #[.int .i64 k, .int .i64 0]) ∧ Below w.heap.size w w')
    (H3 : ∀ w, Calls Tryd.prog 31 #[.int .i64 n] w fun r w' => r = .returned (.tuple #[.int .i64 i, .int .i64 0]) ∧ Below w.heap.size w w')
    (H4 : ∀ W, Below w.heap.size w W → Calls Tryd.prog 33 #[.int .i64 n, .int .i64 d] W fun r w' => r = .returned (.tuple #[.int .i64 0, .int .i64 1]) ∧ Below W.heap.size W w')
    (In : ∀ w, Calls Tryd.prog 14 #[.int .i64 n] w fun e w' => e = .returned (.bool true) ∧ w = w')
    (Np : ∀ w, Calls Tryd.prog 17 #[vV x y z] w fun r w' => r = .returned (.bool false) ∧ Below w.heap.size w w')
    (Im : ∀ w, Calls Tryd.prog 14 #[.int .i64 m] w fun e w' => e = .returned (.bool true) ∧ w = w')
    (R2 : ∀ w, Calls Tryd.prog 38 #[.int .i64 n, .int .i64 m] w fun r w' => r = .returned (.int .i64 k) ∧ Below w.heap.size w w')
    (R3 : ∀ w, Calls Tryd.prog 39 #[.int .i64 n] w fun r w' => r = .returned (.int .i64 i) ∧ Below w.heap.size w w') (hd : d < 0) :
    Calls Tryd.prog 7 #[.int .i64 n, .int .i64 m, vV x y z, .int .i64 d] w fun e w' => e = .returned (.bool true) ∧ Below w.heap.size w w' := by
  go_enter Tryd.func7, Tryd.ntmps7
  go_wp2_with fail
  go_at_call 32
  (with_reducible refine (H1 _).mono ?_)
  rintro e t1 ⟨rfl, y1⟩
  have hyy := y1.size
  (try simp only [World.size_alloc, World.size_setCell, World.size_drew] at hyy)
  obtain ⟨⟨c1_0_0, c1_0_1, c1_0_2⟩, bel1⟩ : b3 t1 w.heap.size x y z ∧ Below w.heap.size w t1 := by
    refine ⟨?_, b_step (by (repeat' (first | (with_reducible assumption) | (with_reducible exact Below.refl _ _) | (with_reducible refine Below.alloc ?_ ?_ _) | (with_reducible refine Below.drew ?_) | (with_reducible refine Below.setCell ?_ ?_ _) | (with_reducible refine b_step ?_ (by assumption) ?_) | omega | (simp only [World.size_alloc, World.size_setCell, World.size_drew]; omega)))) y1 (by simp only [World.size_alloc, World.size_setCell, World.size_drew]; omega)⟩ <;> (repeat' apply And.intro) <;> exact cell_later y1 (by (simp (disch := first | omega | (simp only [World.size_alloc, World.size_setCell, World.size_drew]; done) | (simp only [World.size_alloc, World.size_setCell, World.size_drew]; omega)) only [*, r_set_same, r_set_off, r_set_blk, r_set_f, r_alloc_at, r_alloc_past, r_falloc_at, r_falloc_past, World.cell?_drew, World.frozen?_drew, Option.map_some, List.getElem?_toArray, List.getElem?_cons_zero, List.getElem?_cons_succ]; done))
  clear hyy y1 
  have zc1_0 := World.block_lt_of_cell? _ _ c1_0_0
  go_wp2_with fail
  go_at_call 30
  (with_reducible refine (H2 _).mono ?_)
  rintro e t2 ⟨rfl, y2⟩
  obtain ⟨⟨c2_0_0, c2_0_1, c2_0_2⟩, ⟨c2_1_0, c2_1_1, c2_1_2⟩, bel2⟩ : b3 t2 w.heap.size x y z ∧ b3 t2 t1.heap.size 0 0 0 ∧ Below w.heap.size w t2 := by
    refine ⟨?_, ?_, bs1 bel1 y2⟩ <;> (repeat' apply And.intro) <;> exact cell_later y2 (by (first | assumption | exact c_alloc (by assumption) | exact c_at rfl rfl))
  clear y2 c1_0_0 c1_0_1 c1_0_2 bel1 zc1_0
  have zc2_0 := World.block_lt_of_cell? _ _ c2_0_0
  have zc2_1 := World.block_lt_of_cell? _ _ c2_1_0
  go_wp2_with fail
  go_at_call 31
  (with_reducible refine (H3 _).mono ?_)
  rintro e t3 ⟨rfl, y3⟩
  obtain ⟨⟨c3_0_0, c3_0_1, c3_0_2⟩, ⟨c3_1_0, c3_1_1, c3_1_2⟩, bel3⟩ : b3 t3 w.heap.size x y z ∧ b3 t3 t1.heap.size 0 0 0 ∧ Below w.heap.size w t3 := by
    refine ⟨?_, ?_, bs0 bel2 y3⟩ <;> (repeat' apply And.intro) <;> exact cell_later y3 (by (first | assumption | exact c_alloc (by assumption) | exact c_at rfl rfl))
  clear y3 c2_0_0 c2_0_1 c2_0_2 c2_1_0 c2_1_1 c2_1_2 bel2 zc2_0 zc2_1
  have zc3_0 := World.block_lt_of_cell? _ _ c3_0_0
  have zc3_1 := World.block_lt_of_cell? _ _ c3_1_0
  go_wp2_with fail
  go_at_call 33
  (with_reducible refine (H4 _ bel3).mono ?_)
  rintro e t4 ⟨rfl, y4⟩
  obtain ⟨⟨c4_0_0, c4_0_1, c4_0_2⟩, ⟨c4_1_0, c4_1_1, c4_1_2⟩, bel4⟩ : b3 t4 w.heap.size x y z ∧ b3 t4 t1.heap.size 0 0 0 ∧ Below w.heap.size w t4 := by
    refine ⟨?_, ?_, bs0 bel3 y4⟩ <;> (repeat' apply And.intro) <;> exact cell_later y4 (by (first | assumption | exact c_alloc (by assumption) | exact c_at rfl rfl))
  clear y4 c3_0_0 c3_0_1 c3_0_2 c3_1_0 c3_1_1 c3_1_2 bel3 zc3_0 zc3_1
  have zc4_0 := World.block_lt_of_cell? _ _ c4_0_0
  have zc4_1 := World.block_lt_of_cell? _ _ c4_1_0
  go_wp2_with fail
  go_at_call 14
  (with_reducible refine (In _).mono ?_)
  rintro e tt ⟨rfl, rfl⟩
  go_upto_region 7 with fail
  refine gen_world (F := fun W1 => b3 W1 w.heap.size x y z ∧ b3 W1 t1.heap.size 0 0 0 ∧ Below w.heap.size w W1) ?_ (fun W1 hW => ?_)
  · refine ⟨?_, ?_, bel4⟩ <;> (repeat' apply And.intro) <;> (first | assumption | exact c_alloc (by assumption) | exact c_at rfl rfl)
  obtain ⟨⟨g1_0_0, g1_0_1, g1_0_2⟩, ⟨g1_1_0, g1_1_1, g1_1_2⟩, gb1⟩ := hW
  clear c4_0_0 c4_0_1 c4_0_2 c4_1_0 c4_1_1 c4_1_2 bel4 zc4_0 zc4_1
  have mkq1 : ∀ w', Below W1.heap.size W1 w' → (Below W1.heap.size W1 w' ∧ b3 w' w.heap.size x y z ∧ b3 w' t1.heap.size 0 0 0) := fun w' h => ⟨h, b3.later h ⟨g1_0_0, g1_0_1, g1_0_2⟩, b3.later h ⟨g1_1_0, g1_1_1, g1_1_2⟩⟩
  refine wp_region_held_drew (S := fun w' => Below W1.heap.size W1 w' ∧ b3 w' w.heap.size x y z ∧ b3 w' t1.heap.size 0 0 0) (by kernel_rfl) (mkq1 _ ((Below.refl _ _).drew)) (fun hHeld => ?_)
  refine tkY 0 ?_ rfl ?_ ?_ (by assumption)
  rotate_left
  · intro w h; simp only [b3, b4, b6, cE] at h; go_simp <;> with_reducible rfl
  (try simp only [Act.put, pSa, pSb, pSc])
  refine rOne 1 rfl (fun K hK => ?_)
  go_simp
  go_at_call 17
  (with_reducible refine (Np _).mono ?_)
  rintro e rq11 ⟨rfl, zq11⟩
  go_wp2_with fail
  refine hK.out _ _ (mkq1 _ (b_step hHeld.1 zq11 hHeld.1.size)) (fun hHeld2 => ?_)
  clear hK K hHeld
  have hHeld := hHeld2
  clear hHeld2
  (try simp only [Act.put, pSa, pSb, pSc])
  refine tkY 2 ?_ rfl ?_ ?_ (by assumption)
  rotate_left
  · intro w h; simp only [b3, b4, b6, cE] at h; go_simp <;> with_reducible rfl
  (try simp only [Act.put, pSa, pSb, pSc])
  refine tkY 3 ?_ rfl ?_ ?_ (by assumption)
  rotate_left
  · intro w h; simp only [b3, b4, b6, cE] at h; go_simp <;> with_reducible rfl
  (try simp only [Act.put, pSa, pSb, pSc])
  refine tkY 4 ?_ rfl ?_ ?_ (by assumption)
  rotate_left
  · intro w h; simp only [b3, b4, b6, cE] at h; go_simp <;> with_reducible rfl
  (try simp only [Act.put, pSa, pSb, pSc])
  refine tkY 5 ?_ rfl ?_ ?_ (by assumption)
  rotate_left
  · intro w h; simp only [b3, b4, b6, cE] at h; go_simp <;> with_reducible rfl
  (try simp only [Act.put, pSa, pSb, pSc])
  refine tkY 6 ?_ rfl ?_ ?_ (by assumption)
  rotate_left
  · intro w h; simp only [b3, b4, b6, cE] at h; go_simp <;> with_reducible rfl
  (try simp only [Act.put, pSa, pSb, pSc])
  refine tkY 7 ?_ rfl ?_ ?_ (by assumption)
  rotate_left
  · intro w h; simp only [b3, b4, b6, cE] at h; go_simp <;> with_reducible rfl
  (try simp only [Act.put, pSa, pSb, pSc])
  refine tkY 8 ?_ rfl ?_ ?_ (by assumption)
  rotate_left
  · intro w h; simp only [b3, b4, b6, cE] at h; go_simp <;> with_reducible rfl
  (try simp only [Act.put, pSa, pSb, pSc])
  refine tkY 9 ?_ rfl ?_ ?_ (by assumption)
  rotate_left
  · intro w h; simp only [b3, b4, b6, cE] at h; go_simp <;> with_reducible rfl
  (try simp only [Act.put, pSa, pSb, pSc])
  refine tkY 10 ?_ rfl ?_ ?_ (by assumption)
  rotate_left
  · intro w h; simp only [b3, b4, b6, cE] at h; go_simp <;> with_reducible rfl
  (try simp only [Act.put, pSa, pSb, pSc])
  refine tkY 11 ?_ rfl ?_ ?_ (by assumption)
  rotate_left
  · intro w h; simp only [b3, b4, b6, cE] at h; go_simp <;> with_reducible rfl
  (try simp only [Act.put, pSa, pSb, pSc])
  refine tkY 12 ?_ rfl ?_ ?_ (by assumption)
  rotate_left
  · intro w h; simp only [b3, b4, b6, cE] at h; go_simp <;> with_reducible rfl
  (try simp only [Act.put, pSa, pSb, pSc])
  refine tkY 13 ?_ rfl ?_ ?_ (by assumption)
  rotate_left
  · intro w h; simp only [b3, b4, b6, cE] at h; go_simp <;> with_reducible rfl
  (try simp only [Act.put, pSa, pSb, pSc])
  refine rOne 14 rfl (fun K hK => ?_)
  go_simp
  go_at_call 17
  (with_reducible refine (Np _).mono ?_)
  rintro e rq12 ⟨rfl, zq12⟩
  go_wp2_with fail
  refine hK.out _ _ (mkq1 _ (b_step hHeld.1 zq12 hHeld.1.size)) (fun hHeld2 => ?_)
  clear hK K hHeld
  have hHeld := hHeld2
  clear hHeld2
  (try simp only [Act.put, pSa, pSb, pSc])
  refine tkY 15 ?_ rfl ?_ ?_ (by assumption)
  rotate_left
  · intro w h; simp only [b3, b4, b6, cE] at h; go_simp <;> with_reducible rfl
  (try simp only [Act.put, pSa, pSb, pSc])
  refine tkN 16 rfl ?_ (by assumption)
  (try simp only [Act.put, pSa, pSb, pSc])
  refine tkN 17 rfl ?_ (by assumption)
  (try simp only [Act.put, pSa, pSb, pSc])
  refine tkN 18 rfl ?_ (by assumption)
  (try simp only [Act.put, pSa, pSb, pSc])
  refine tkN 19 rfl ?_ (by assumption)
  (try simp only [Act.put, pSa, pSb, pSc])
  refine tkN 20 rfl ?_ (by assumption)
  (try simp only [Act.put, pSa, pSb, pSc])
  refine tkN 21 rfl ?_ (by assumption)
  (try simp only [Act.put, pSa, pSb, pSc])
  refine tkN 22 rfl ?_ (by assumption)
  (try simp only [Act.put, pSa, pSb, pSc])
  refine tkN 23 rfl ?_ (by assumption)
  (try simp only [Act.put, pSa, pSb, pSc])
  refine tkN 24 rfl ?_ (by assumption)
  (try simp only [Act.put, pSa, pSb, pSc])
  refine tkY 25 ?_ rfl ?_ ?_ (by assumption)
  rotate_left
  · intro w h; simp only [b3, b4, b6, cE] at h; go_simp <;> with_reducible rfl
  (try simp only [Act.put, pSa, pSb, pSc])
  refine tkY 26 ?_ rfl ?_ ?_ (by assumption)
  rotate_left
  · intro w h; simp only [b3, b4, b6, cE] at h; go_simp <;> with_reducible rfl
  (try simp only [Act.put, pSa, pSb, pSc])
  refine wpAnyH_done (by kernel_rfl) ?_ _
  have belq1 := b_step gb1 hHeld.1 gb1.size
  obtain ⟨-, ⟨h1_0_0, h1_0_1, h1_0_2⟩, ⟨h1_1_0, h1_1_1, h1_1_2⟩⟩ := hHeld
  clear gb1 mkq1 g1_0_0 g1_0_1 g1_0_2 g1_1_0 g1_1_1 g1_1_2
  have zh1_0 := World.block_lt_of_cell? _ _ h1_0_0
  have zh1_1 := World.block_lt_of_cell? _ _ h1_1_0
  go_wp2_with fail
  go_at_call 14
  (with_reducible refine (Im _).mono ?_)
  rintro e tt ⟨rfl, rfl⟩
  go_wp2_with fail
  go_at_call 14
  (with_reducible refine (Im _).mono ?_)
  rintro e tt ⟨rfl, rfl⟩
  go_wp2_with fail
  go_at_call 38
  (with_reducible refine (R2 _).mono ?_)
  rintro e t5 ⟨rfl, y5⟩
  obtain ⟨⟨c5_0_0, c5_0_1, c5_0_2⟩, ⟨c5_1_0, c5_1_1, c5_1_2⟩, bel5⟩ : b3 t5 w.heap.size x y z ∧ b3 t5 t1.heap.size 0 0 0 ∧ Below w.heap.size w t5 := by
    refine ⟨?_, ?_, bs0 belq1 y5⟩ <;> (repeat' apply And.intro) <;> exact cell_later y5 (by (first | assumption | exact c_alloc (by assumption) | exact c_at rfl rfl))
  clear y5 h1_0_0 h1_0_1 h1_0_2 h1_1_0 h1_1_1 h1_1_2 belq1 zh1_0 zh1_1
  have zc5_0 := World.block_lt_of_cell? _ _ c5_0_0
  have zc5_1 := World.block_lt_of_cell? _ _ c5_1_0
  go_wp2_with fail
  go_at_call 15
  (with_reducible refine (Hq _ bel5).mono ?_)
  rintro e t6 ⟨rfl, y6⟩
  obtain ⟨⟨c6_0_0, c6_0_1, c6_0_2⟩, ⟨c6_1_0, c6_1_1, c6_1_2⟩, bel6⟩ : b3 t6 w.heap.size x y z ∧ b3 t6 t1.heap.size 0 0 0 ∧ Below w.heap.size w t6 := by
    refine ⟨?_, ?_, bs0 bel5 y6⟩ <;> (repeat' apply And.intro) <;> exact cell_later y6 (by (first | assumption | exact c_alloc (by assumption) | exact c_at rfl rfl))
  clear y6 c5_0_0 c5_0_1 c5_0_2 c5_1_0 c5_1_1 c5_1_2 bel5 zc5_0 zc5_1
  have zc6_0 := World.block_lt_of_cell? _ _ c6_0_0
  have zc6_1 := World.block_lt_of_cell? _ _ c6_1_0
  go_wp2_with fail
  go_at_call 39
  (with_reducible refine (R3 _).mono ?_)
  rintro e t7 ⟨rfl, y7⟩
  obtain ⟨⟨c7_0_0, c7_0_1, c7_0_2⟩, ⟨c7_1_0, c7_1_1, c7_1_2⟩, bel7⟩ : b3 t7 w.heap.size x y z ∧ b3 t7 t1.heap.size 0 0 0 ∧ Below w.heap.size w t7 := by
    refine ⟨?_, ?_, bs0 bel6 y7⟩ <;> (repeat' apply And.intro) <;> exact cell_later y7 (by (first | assumption | exact c_alloc (by assumption) | exact c_at rfl rfl))
  clear y7 c6_0_0 c6_0_1 c6_0_2 c6_1_0 c6_1_1 c6_1_2 bel6 zc6_0 zc6_1
  have zc7_0 := World.block_lt_of_cell? _ _ c7_0_0
  have zc7_1 := World.block_lt_of_cell? _ _ c7_1_0
  go_wp2
  go_ret
  exact ⟨rfl, bel7⟩

set_option maxRecDepth 100000 in
set_option maxHeartbeats 16000000 in
theorem turns_6 (n m x y z d v0 v1 v2 k i q : Int) (w : World)
    (Hq : ∀ W, Below w.heap.size w W → Calls Tryd.prog 15 #[] W fun r w' => r = .returned (.bool true) ∧ Below W.heap.size W w')
    (H1 : ∀ w, Calls Tryd.prog 32 #[.int .i64 n, vV x y z] w fun r w' => r = .returned (.tuple #[vV 0 0 0, .int .i64 6]) ∧ Below w.heap.size w w')
    (H2 : ∀ w, Calls Tryd.prog 30 #[.int .i64 n, .int .i64 m] w fun r w' => r = .returned (.tuple #[.int .i64 k, .int .i64 0]) ∧ Below w.heap.size w w')
    (H3 : ∀ w, Calls Tryd.prog 31 #[.int .i64 n] w fun r w' => r = .returned (.tuple #[.int .i64 i, .int .i64 0]) ∧ Below w.heap.size w w')
    (H4 : ∀ W, Below w.heap.size w W → Calls Tryd.prog 33 #[.int .i64 n, .int .i64 d] W fun r w' => r = .returned (.tuple #[.int .i64 0, .int .i64 1]) ∧ Below W.heap.size W w')
    (In : ∀ w, Calls Tryd.prog 14 #[.int .i64 n] w fun e w' => e = .returned (.bool true) ∧ w = w')
    (Np : ∀ w, Calls Tryd.prog 17 #[vV x y z] w fun r w' => r = .returned (.bool false) ∧ Below w.heap.size w w')
    (Im : ∀ w, Calls Tryd.prog 14 #[.int .i64 m] w fun e w' => e = .returned (.bool true) ∧ w = w')
    (R2 : ∀ w, Calls Tryd.prog 38 #[.int .i64 n, .int .i64 m] w fun r w' => r = .returned (.int .i64 k) ∧ Below w.heap.size w w')
    (R3 : ∀ w, Calls Tryd.prog 39 #[.int .i64 n] w fun r w' => r = .returned (.int .i64 i) ∧ Below w.heap.size w w') (hd' : 0 ≤ d) (hd : 5 < d) :
    Calls Tryd.prog 7 #[.int .i64 n, .int .i64 m, vV x y z, .int .i64 d] w fun e w' => e = .returned (.bool true) ∧ Below w.heap.size w w' := by
  go_enter Tryd.func7, Tryd.ntmps7
  go_wp2_with fail
  go_at_call 32
  (with_reducible refine (H1 _).mono ?_)
  rintro e t1 ⟨rfl, y1⟩
  have hyy := y1.size
  (try simp only [World.size_alloc, World.size_setCell, World.size_drew] at hyy)
  obtain ⟨⟨c1_0_0, c1_0_1, c1_0_2⟩, bel1⟩ : b3 t1 w.heap.size x y z ∧ Below w.heap.size w t1 := by
    refine ⟨?_, b_step (by (repeat' (first | (with_reducible assumption) | (with_reducible exact Below.refl _ _) | (with_reducible refine Below.alloc ?_ ?_ _) | (with_reducible refine Below.drew ?_) | (with_reducible refine Below.setCell ?_ ?_ _) | (with_reducible refine b_step ?_ (by assumption) ?_) | omega | (simp only [World.size_alloc, World.size_setCell, World.size_drew]; omega)))) y1 (by simp only [World.size_alloc, World.size_setCell, World.size_drew]; omega)⟩ <;> (repeat' apply And.intro) <;> exact cell_later y1 (by (simp (disch := first | omega | (simp only [World.size_alloc, World.size_setCell, World.size_drew]; done) | (simp only [World.size_alloc, World.size_setCell, World.size_drew]; omega)) only [*, r_set_same, r_set_off, r_set_blk, r_set_f, r_alloc_at, r_alloc_past, r_falloc_at, r_falloc_past, World.cell?_drew, World.frozen?_drew, Option.map_some, List.getElem?_toArray, List.getElem?_cons_zero, List.getElem?_cons_succ]; done))
  clear hyy y1 
  have zc1_0 := World.block_lt_of_cell? _ _ c1_0_0
  go_wp2_with fail
  go_at_call 30
  (with_reducible refine (H2 _).mono ?_)
  rintro e t2 ⟨rfl, y2⟩
  obtain ⟨⟨c2_0_0, c2_0_1, c2_0_2⟩, ⟨c2_1_0, c2_1_1, c2_1_2⟩, bel2⟩ : b3 t2 w.heap.size x y z ∧ b3 t2 t1.heap.size 0 0 0 ∧ Below w.heap.size w t2 := by
    refine ⟨?_, ?_, bs1 bel1 y2⟩ <;> (repeat' apply And.intro) <;> exact cell_later y2 (by (first | assumption | exact c_alloc (by assumption) | exact c_at rfl rfl))
  clear y2 c1_0_0 c1_0_1 c1_0_2 bel1 zc1_0
  have zc2_0 := World.block_lt_of_cell? _ _ c2_0_0
  have zc2_1 := World.block_lt_of_cell? _ _ c2_1_0
  go_wp2_with fail
  go_at_call 31
  (with_reducible refine (H3 _).mono ?_)
  rintro e t3 ⟨rfl, y3⟩
  obtain ⟨⟨c3_0_0, c3_0_1, c3_0_2⟩, ⟨c3_1_0, c3_1_1, c3_1_2⟩, bel3⟩ : b3 t3 w.heap.size x y z ∧ b3 t3 t1.heap.size 0 0 0 ∧ Below w.heap.size w t3 := by
    refine ⟨?_, ?_, bs0 bel2 y3⟩ <;> (repeat' apply And.intro) <;> exact cell_later y3 (by (first | assumption | exact c_alloc (by assumption) | exact c_at rfl rfl))
  clear y3 c2_0_0 c2_0_1 c2_0_2 c2_1_0 c2_1_1 c2_1_2 bel2 zc2_0 zc2_1
  have zc3_0 := World.block_lt_of_cell? _ _ c3_0_0
  have zc3_1 := World.block_lt_of_cell? _ _ c3_1_0
  go_wp2_with fail
  go_at_call 33
  (with_reducible refine (H4 _ bel3).mono ?_)
  rintro e t4 ⟨rfl, y4⟩
  obtain ⟨⟨c4_0_0, c4_0_1, c4_0_2⟩, ⟨c4_1_0, c4_1_1, c4_1_2⟩, bel4⟩ : b3 t4 w.heap.size x y z ∧ b3 t4 t1.heap.size 0 0 0 ∧ Below w.heap.size w t4 := by
    refine ⟨?_, ?_, bs0 bel3 y4⟩ <;> (repeat' apply And.intro) <;> exact cell_later y4 (by (first | assumption | exact c_alloc (by assumption) | exact c_at rfl rfl))
  clear y4 c3_0_0 c3_0_1 c3_0_2 c3_1_0 c3_1_1 c3_1_2 bel3 zc3_0 zc3_1
  have zc4_0 := World.block_lt_of_cell? _ _ c4_0_0
  have zc4_1 := World.block_lt_of_cell? _ _ c4_1_0
  go_wp2_with fail
  go_at_call 14
  (with_reducible refine (In _).mono ?_)
  rintro e tt ⟨rfl, rfl⟩
  go_upto_region 7 with fail
  refine gen_world (F := fun W1 => b3 W1 w.heap.size x y z ∧ b3 W1 t1.heap.size 0 0 0 ∧ Below w.heap.size w W1) ?_ (fun W1 hW => ?_)
  · refine ⟨?_, ?_, bel4⟩ <;> (repeat' apply And.intro) <;> (first | assumption | exact c_alloc (by assumption) | exact c_at rfl rfl)
  obtain ⟨⟨g1_0_0, g1_0_1, g1_0_2⟩, ⟨g1_1_0, g1_1_1, g1_1_2⟩, gb1⟩ := hW
  clear c4_0_0 c4_0_1 c4_0_2 c4_1_0 c4_1_1 c4_1_2 bel4 zc4_0 zc4_1
  have mkq1 : ∀ w', Below W1.heap.size W1 w' → (Below W1.heap.size W1 w' ∧ b3 w' w.heap.size x y z ∧ b3 w' t1.heap.size 0 0 0) := fun w' h => ⟨h, b3.later h ⟨g1_0_0, g1_0_1, g1_0_2⟩, b3.later h ⟨g1_1_0, g1_1_1, g1_1_2⟩⟩
  refine wp_region_held_drew (S := fun w' => Below W1.heap.size W1 w' ∧ b3 w' w.heap.size x y z ∧ b3 w' t1.heap.size 0 0 0) (by kernel_rfl) (mkq1 _ ((Below.refl _ _).drew)) (fun hHeld => ?_)
  refine tkY 0 ?_ rfl ?_ ?_ (by assumption)
  rotate_left
  · intro w h; simp only [b3, b4, b6, cE] at h; go_simp <;> with_reducible rfl
  (try simp only [Act.put, pSa, pSb, pSc])
  refine rOne 1 rfl (fun K hK => ?_)
  go_simp
  go_at_call 17
  (with_reducible refine (Np _).mono ?_)
  rintro e rq11 ⟨rfl, zq11⟩
  go_wp2_with fail
  refine hK.out _ _ (mkq1 _ (b_step hHeld.1 zq11 hHeld.1.size)) (fun hHeld2 => ?_)
  clear hK K hHeld
  have hHeld := hHeld2
  clear hHeld2
  (try simp only [Act.put, pSa, pSb, pSc])
  refine tkY 2 ?_ rfl ?_ ?_ (by assumption)
  rotate_left
  · intro w h; simp only [b3, b4, b6, cE] at h; go_simp <;> with_reducible rfl
  (try simp only [Act.put, pSa, pSb, pSc])
  refine tkY 3 ?_ rfl ?_ ?_ (by assumption)
  rotate_left
  · intro w h; simp only [b3, b4, b6, cE] at h; go_simp <;> with_reducible rfl
  (try simp only [Act.put, pSa, pSb, pSc])
  refine tkY 4 ?_ rfl ?_ ?_ (by assumption)
  rotate_left
  · intro w h; simp only [b3, b4, b6, cE] at h; go_simp <;> with_reducible rfl
  (try simp only [Act.put, pSa, pSb, pSc])
  refine tkY 5 ?_ rfl ?_ ?_ (by assumption)
  rotate_left
  · intro w h; simp only [b3, b4, b6, cE] at h; go_simp <;> with_reducible rfl
  (try simp only [Act.put, pSa, pSb, pSc])
  refine tkY 6 ?_ rfl ?_ ?_ (by assumption)
  rotate_left
  · intro w h; simp only [b3, b4, b6, cE] at h; go_simp <;> with_reducible rfl
  (try simp only [Act.put, pSa, pSb, pSc])
  refine tkY 7 ?_ rfl ?_ ?_ (by assumption)
  rotate_left
  · intro w h; simp only [b3, b4, b6, cE] at h; go_simp <;> with_reducible rfl
  (try simp only [Act.put, pSa, pSb, pSc])
  refine tkY 8 ?_ rfl ?_ ?_ (by assumption)
  rotate_left
  · intro w h; simp only [b3, b4, b6, cE] at h; go_simp <;> with_reducible rfl
  (try simp only [Act.put, pSa, pSb, pSc])
  refine tkY 9 ?_ rfl ?_ ?_ (by assumption)
  rotate_left
  · intro w h; simp only [b3, b4, b6, cE] at h; go_simp <;> with_reducible rfl
  (try simp only [Act.put, pSa, pSb, pSc])
  refine tkY 10 ?_ rfl ?_ ?_ (by assumption)
  rotate_left
  · intro w h; simp only [b3, b4, b6, cE] at h; go_simp <;> with_reducible rfl
  (try simp only [Act.put, pSa, pSb, pSc])
  refine tkY 11 ?_ rfl ?_ ?_ (by assumption)
  rotate_left
  · intro w h; simp only [b3, b4, b6, cE] at h; go_simp <;> with_reducible rfl
  (try simp only [Act.put, pSa, pSb, pSc])
  refine tkY 12 ?_ rfl ?_ ?_ (by assumption)
  rotate_left
  · intro w h; simp only [b3, b4, b6, cE] at h; go_simp <;> with_reducible rfl
  (try simp only [Act.put, pSa, pSb, pSc])
  refine tkY 13 ?_ rfl ?_ ?_ (by assumption)
  rotate_left
  · intro w h; simp only [b3, b4, b6, cE] at h; go_simp <;> with_reducible rfl
  (try simp only [Act.put, pSa, pSb, pSc])
  refine rOne 14 rfl (fun K hK => ?_)
  go_simp
  go_at_call 17
  (with_reducible refine (Np _).mono ?_)
  rintro e rq12 ⟨rfl, zq12⟩
  go_wp2_with fail
  refine hK.out _ _ (mkq1 _ (b_step hHeld.1 zq12 hHeld.1.size)) (fun hHeld2 => ?_)
  clear hK K hHeld
  have hHeld := hHeld2
  clear hHeld2
  (try simp only [Act.put, pSa, pSb, pSc])
  refine tkY 15 ?_ rfl ?_ ?_ (by assumption)
  rotate_left
  · intro w h; simp only [b3, b4, b6, cE] at h; go_simp <;> with_reducible rfl
  (try simp only [Act.put, pSa, pSb, pSc])
  refine tkN 16 rfl ?_ (by assumption)
  (try simp only [Act.put, pSa, pSb, pSc])
  refine tkN 17 rfl ?_ (by assumption)
  (try simp only [Act.put, pSa, pSb, pSc])
  refine tkN 18 rfl ?_ (by assumption)
  (try simp only [Act.put, pSa, pSb, pSc])
  refine tkN 19 rfl ?_ (by assumption)
  (try simp only [Act.put, pSa, pSb, pSc])
  refine tkN 20 rfl ?_ (by assumption)
  (try simp only [Act.put, pSa, pSb, pSc])
  refine tkN 21 rfl ?_ (by assumption)
  (try simp only [Act.put, pSa, pSb, pSc])
  refine tkN 22 rfl ?_ (by assumption)
  (try simp only [Act.put, pSa, pSb, pSc])
  refine tkN 23 rfl ?_ (by assumption)
  (try simp only [Act.put, pSa, pSb, pSc])
  refine tkN 24 rfl ?_ (by assumption)
  (try simp only [Act.put, pSa, pSb, pSc])
  refine tkY 25 ?_ rfl ?_ ?_ (by assumption)
  rotate_left
  · intro w h; simp only [b3, b4, b6, cE] at h; go_simp <;> with_reducible rfl
  (try simp only [Act.put, pSa, pSb, pSc])
  refine tkY 26 ?_ rfl ?_ ?_ (by assumption)
  rotate_left
  · intro w h; simp only [b3, b4, b6, cE] at h; go_simp <;> with_reducible rfl
  (try simp only [Act.put, pSa, pSb, pSc])
  refine wpAnyH_done (by kernel_rfl) ?_ _
  have belq1 := b_step gb1 hHeld.1 gb1.size
  obtain ⟨-, ⟨h1_0_0, h1_0_1, h1_0_2⟩, ⟨h1_1_0, h1_1_1, h1_1_2⟩⟩ := hHeld
  clear gb1 mkq1 g1_0_0 g1_0_1 g1_0_2 g1_1_0 g1_1_1 g1_1_2
  have zh1_0 := World.block_lt_of_cell? _ _ h1_0_0
  have zh1_1 := World.block_lt_of_cell? _ _ h1_1_0
  go_wp2_with fail
  go_at_call 14
  (with_reducible refine (Im _).mono ?_)
  rintro e tt ⟨rfl, rfl⟩
  go_wp2_with fail
  go_at_call 14
  (with_reducible refine (Im _).mono ?_)
  rintro e tt ⟨rfl, rfl⟩
  go_wp2_with fail
  go_at_call 38
  (with_reducible refine (R2 _).mono ?_)
  rintro e t5 ⟨rfl, y5⟩
  obtain ⟨⟨c5_0_0, c5_0_1, c5_0_2⟩, ⟨c5_1_0, c5_1_1, c5_1_2⟩, bel5⟩ : b3 t5 w.heap.size x y z ∧ b3 t5 t1.heap.size 0 0 0 ∧ Below w.heap.size w t5 := by
    refine ⟨?_, ?_, bs0 belq1 y5⟩ <;> (repeat' apply And.intro) <;> exact cell_later y5 (by (first | assumption | exact c_alloc (by assumption) | exact c_at rfl rfl))
  clear y5 h1_0_0 h1_0_1 h1_0_2 h1_1_0 h1_1_1 h1_1_2 belq1 zh1_0 zh1_1
  have zc5_0 := World.block_lt_of_cell? _ _ c5_0_0
  have zc5_1 := World.block_lt_of_cell? _ _ c5_1_0
  go_wp2_with fail
  go_at_call 15
  (with_reducible refine (Hq _ bel5).mono ?_)
  rintro e t6 ⟨rfl, y6⟩
  obtain ⟨⟨c6_0_0, c6_0_1, c6_0_2⟩, ⟨c6_1_0, c6_1_1, c6_1_2⟩, bel6⟩ : b3 t6 w.heap.size x y z ∧ b3 t6 t1.heap.size 0 0 0 ∧ Below w.heap.size w t6 := by
    refine ⟨?_, ?_, bs0 bel5 y6⟩ <;> (repeat' apply And.intro) <;> exact cell_later y6 (by (first | assumption | exact c_alloc (by assumption) | exact c_at rfl rfl))
  clear y6 c5_0_0 c5_0_1 c5_0_2 c5_1_0 c5_1_1 c5_1_2 bel5 zc5_0 zc5_1
  have zc6_0 := World.block_lt_of_cell? _ _ c6_0_0
  have zc6_1 := World.block_lt_of_cell? _ _ c6_1_0
  go_wp2_with fail
  go_at_call 39
  (with_reducible refine (R3 _).mono ?_)
  rintro e t7 ⟨rfl, y7⟩
  obtain ⟨⟨c7_0_0, c7_0_1, c7_0_2⟩, ⟨c7_1_0, c7_1_1, c7_1_2⟩, bel7⟩ : b3 t7 w.heap.size x y z ∧ b3 t7 t1.heap.size 0 0 0 ∧ Below w.heap.size w t7 := by
    refine ⟨?_, ?_, bs0 bel6 y7⟩ <;> (repeat' apply And.intro) <;> exact cell_later y7 (by (first | assumption | exact c_alloc (by assumption) | exact c_at rfl rfl))
  clear y7 c6_0_0 c6_0_1 c6_0_2 c6_1_0 c6_1_1 c6_1_2 bel6 zc6_0 zc6_1
  have zc7_0 := World.block_lt_of_cell? _ _ c7_0_0
  have zc7_1 := World.block_lt_of_cell? _ _ c7_1_0
  go_wp2
  go_ret
  exact ⟨rfl, bel7⟩

set_option maxRecDepth 100000 in
set_option maxHeartbeats 16000000 in
theorem turns_7 (n m x y z d v0 v1 v2 k i q : Int) (w : World)
    (Hq : ∀ W, Below w.heap.size w W → Calls Tryd.prog 15 #[] W fun r w' => r = .returned (.bool true) ∧ Below W.heap.size W w')
    (H1 : ∀ w, Calls Tryd.prog 32 #[.int .i64 n, vV x y z] w fun r w' => r = .returned (.tuple #[vV 0 0 0, .int .i64 6]) ∧ Below w.heap.size w w')
    (H2 : ∀ w, Calls Tryd.prog 30 #[.int .i64 n, .int .i64 m] w fun r w' => r = .returned (.tuple #[.int .i64 k, .int .i64 0]) ∧ Below w.heap.size w w')
    (H3 : ∀ w, Calls Tryd.prog 31 #[.int .i64 n] w fun r w' => r = .returned (.tuple #[.int .i64 i, .int .i64 0]) ∧ Below w.heap.size w w')
    (H4 : ∀ W, Below w.heap.size w W → Calls Tryd.prog 33 #[.int .i64 n, .int .i64 d] W fun r w' => r = .returned (.tuple #[.int .i64 q, .int .i64 0]) ∧ Below W.heap.size W w')
    (In : ∀ w, Calls Tryd.prog 14 #[.int .i64 n] w fun e w' => e = .returned (.bool true) ∧ w = w')
    (Np : ∀ w, Calls Tryd.prog 17 #[vV x y z] w fun r w' => r = .returned (.bool false) ∧ Below w.heap.size w w')
    (Im : ∀ w, Calls Tryd.prog 14 #[.int .i64 m] w fun e w' => e = .returned (.bool true) ∧ w = w')
    (R2 : ∀ w, Calls Tryd.prog 38 #[.int .i64 n, .int .i64 m] w fun r w' => r = .returned (.int .i64 k) ∧ Below w.heap.size w w')
    (R3 : ∀ w, Calls Tryd.prog 39 #[.int .i64 n] w fun r w' => r = .returned (.int .i64 i) ∧ Below w.heap.size w w')
    (R4 : ∀ w, Calls Tryd.prog 40 #[.int .i64 n, .int .i64 d] w fun r w' => r = .returned (.int .i64 q) ∧ Below w.heap.size w w') (hd : 0 ≤ d) (hd' : d ≤ 5) :
    Calls Tryd.prog 7 #[.int .i64 n, .int .i64 m, vV x y z, .int .i64 d] w fun e w' => e = .returned (.bool true) ∧ Below w.heap.size w w' := by
  go_enter Tryd.func7, Tryd.ntmps7
  go_wp2_with fail
  go_at_call 32
  (with_reducible refine (H1 _).mono ?_)
  rintro e t1 ⟨rfl, y1⟩
  have hyy := y1.size
  (try simp only [World.size_alloc, World.size_setCell, World.size_drew] at hyy)
  obtain ⟨⟨c1_0_0, c1_0_1, c1_0_2⟩, bel1⟩ : b3 t1 w.heap.size x y z ∧ Below w.heap.size w t1 := by
    refine ⟨?_, b_step (by (repeat' (first | (with_reducible assumption) | (with_reducible exact Below.refl _ _) | (with_reducible refine Below.alloc ?_ ?_ _) | (with_reducible refine Below.drew ?_) | (with_reducible refine Below.setCell ?_ ?_ _) | (with_reducible refine b_step ?_ (by assumption) ?_) | omega | (simp only [World.size_alloc, World.size_setCell, World.size_drew]; omega)))) y1 (by simp only [World.size_alloc, World.size_setCell, World.size_drew]; omega)⟩ <;> (repeat' apply And.intro) <;> exact cell_later y1 (by (simp (disch := first | omega | (simp only [World.size_alloc, World.size_setCell, World.size_drew]; done) | (simp only [World.size_alloc, World.size_setCell, World.size_drew]; omega)) only [*, r_set_same, r_set_off, r_set_blk, r_set_f, r_alloc_at, r_alloc_past, r_falloc_at, r_falloc_past, World.cell?_drew, World.frozen?_drew, Option.map_some, List.getElem?_toArray, List.getElem?_cons_zero, List.getElem?_cons_succ]; done))
  clear hyy y1 
  have zc1_0 := World.block_lt_of_cell? _ _ c1_0_0
  go_wp2_with fail
  go_at_call 30
  (with_reducible refine (H2 _).mono ?_)
  rintro e t2 ⟨rfl, y2⟩
  obtain ⟨⟨c2_0_0, c2_0_1, c2_0_2⟩, ⟨c2_1_0, c2_1_1, c2_1_2⟩, bel2⟩ : b3 t2 w.heap.size x y z ∧ b3 t2 t1.heap.size 0 0 0 ∧ Below w.heap.size w t2 := by
    refine ⟨?_, ?_, bs1 bel1 y2⟩ <;> (repeat' apply And.intro) <;> exact cell_later y2 (by (first | assumption | exact c_alloc (by assumption) | exact c_at rfl rfl))
  clear y2 c1_0_0 c1_0_1 c1_0_2 bel1 zc1_0
  have zc2_0 := World.block_lt_of_cell? _ _ c2_0_0
  have zc2_1 := World.block_lt_of_cell? _ _ c2_1_0
  go_wp2_with fail
  go_at_call 31
  (with_reducible refine (H3 _).mono ?_)
  rintro e t3 ⟨rfl, y3⟩
  obtain ⟨⟨c3_0_0, c3_0_1, c3_0_2⟩, ⟨c3_1_0, c3_1_1, c3_1_2⟩, bel3⟩ : b3 t3 w.heap.size x y z ∧ b3 t3 t1.heap.size 0 0 0 ∧ Below w.heap.size w t3 := by
    refine ⟨?_, ?_, bs0 bel2 y3⟩ <;> (repeat' apply And.intro) <;> exact cell_later y3 (by (first | assumption | exact c_alloc (by assumption) | exact c_at rfl rfl))
  clear y3 c2_0_0 c2_0_1 c2_0_2 c2_1_0 c2_1_1 c2_1_2 bel2 zc2_0 zc2_1
  have zc3_0 := World.block_lt_of_cell? _ _ c3_0_0
  have zc3_1 := World.block_lt_of_cell? _ _ c3_1_0
  go_wp2_with fail
  go_at_call 33
  (with_reducible refine (H4 _ bel3).mono ?_)
  rintro e t4 ⟨rfl, y4⟩
  obtain ⟨⟨c4_0_0, c4_0_1, c4_0_2⟩, ⟨c4_1_0, c4_1_1, c4_1_2⟩, bel4⟩ : b3 t4 w.heap.size x y z ∧ b3 t4 t1.heap.size 0 0 0 ∧ Below w.heap.size w t4 := by
    refine ⟨?_, ?_, bs0 bel3 y4⟩ <;> (repeat' apply And.intro) <;> exact cell_later y4 (by (first | assumption | exact c_alloc (by assumption) | exact c_at rfl rfl))
  clear y4 c3_0_0 c3_0_1 c3_0_2 c3_1_0 c3_1_1 c3_1_2 bel3 zc3_0 zc3_1
  have zc4_0 := World.block_lt_of_cell? _ _ c4_0_0
  have zc4_1 := World.block_lt_of_cell? _ _ c4_1_0
  go_wp2_with fail
  go_at_call 14
  (with_reducible refine (In _).mono ?_)
  rintro e tt ⟨rfl, rfl⟩
  go_upto_region 7 with fail
  refine gen_world (F := fun W1 => b3 W1 w.heap.size x y z ∧ b3 W1 t1.heap.size 0 0 0 ∧ Below w.heap.size w W1) ?_ (fun W1 hW => ?_)
  · refine ⟨?_, ?_, bel4⟩ <;> (repeat' apply And.intro) <;> (first | assumption | exact c_alloc (by assumption) | exact c_at rfl rfl)
  obtain ⟨⟨g1_0_0, g1_0_1, g1_0_2⟩, ⟨g1_1_0, g1_1_1, g1_1_2⟩, gb1⟩ := hW
  clear c4_0_0 c4_0_1 c4_0_2 c4_1_0 c4_1_1 c4_1_2 bel4 zc4_0 zc4_1
  have mkq1 : ∀ w', Below W1.heap.size W1 w' → (Below W1.heap.size W1 w' ∧ b3 w' w.heap.size x y z ∧ b3 w' t1.heap.size 0 0 0) := fun w' h => ⟨h, b3.later h ⟨g1_0_0, g1_0_1, g1_0_2⟩, b3.later h ⟨g1_1_0, g1_1_1, g1_1_2⟩⟩
  refine wp_region_held_drew (S := fun w' => Below W1.heap.size W1 w' ∧ b3 w' w.heap.size x y z ∧ b3 w' t1.heap.size 0 0 0) (by kernel_rfl) (mkq1 _ ((Below.refl _ _).drew)) (fun hHeld => ?_)
  refine tkY 0 ?_ rfl ?_ ?_ (by assumption)
  rotate_left
  · intro w h; simp only [b3, b4, b6, cE] at h; go_simp <;> with_reducible rfl
  (try simp only [Act.put, pSa, pSb, pSc])
  refine rOne 1 rfl (fun K hK => ?_)
  go_simp
  go_at_call 17
  (with_reducible refine (Np _).mono ?_)
  rintro e rq11 ⟨rfl, zq11⟩
  go_wp2_with fail
  refine hK.out _ _ (mkq1 _ (b_step hHeld.1 zq11 hHeld.1.size)) (fun hHeld2 => ?_)
  clear hK K hHeld
  have hHeld := hHeld2
  clear hHeld2
  (try simp only [Act.put, pSa, pSb, pSc])
  refine tkY 2 ?_ rfl ?_ ?_ (by assumption)
  rotate_left
  · intro w h; simp only [b3, b4, b6, cE] at h; go_simp <;> with_reducible rfl
  (try simp only [Act.put, pSa, pSb, pSc])
  refine tkY 3 ?_ rfl ?_ ?_ (by assumption)
  rotate_left
  · intro w h; simp only [b3, b4, b6, cE] at h; go_simp <;> with_reducible rfl
  (try simp only [Act.put, pSa, pSb, pSc])
  refine tkY 4 ?_ rfl ?_ ?_ (by assumption)
  rotate_left
  · intro w h; simp only [b3, b4, b6, cE] at h; go_simp <;> with_reducible rfl
  (try simp only [Act.put, pSa, pSb, pSc])
  refine tkY 5 ?_ rfl ?_ ?_ (by assumption)
  rotate_left
  · intro w h; simp only [b3, b4, b6, cE] at h; go_simp <;> with_reducible rfl
  (try simp only [Act.put, pSa, pSb, pSc])
  refine tkY 6 ?_ rfl ?_ ?_ (by assumption)
  rotate_left
  · intro w h; simp only [b3, b4, b6, cE] at h; go_simp <;> with_reducible rfl
  (try simp only [Act.put, pSa, pSb, pSc])
  refine tkY 7 ?_ rfl ?_ ?_ (by assumption)
  rotate_left
  · intro w h; simp only [b3, b4, b6, cE] at h; go_simp <;> with_reducible rfl
  (try simp only [Act.put, pSa, pSb, pSc])
  refine tkY 8 ?_ rfl ?_ ?_ (by assumption)
  rotate_left
  · intro w h; simp only [b3, b4, b6, cE] at h; go_simp <;> with_reducible rfl
  (try simp only [Act.put, pSa, pSb, pSc])
  refine tkY 9 ?_ rfl ?_ ?_ (by assumption)
  rotate_left
  · intro w h; simp only [b3, b4, b6, cE] at h; go_simp <;> with_reducible rfl
  (try simp only [Act.put, pSa, pSb, pSc])
  refine tkY 10 ?_ rfl ?_ ?_ (by assumption)
  rotate_left
  · intro w h; simp only [b3, b4, b6, cE] at h; go_simp <;> with_reducible rfl
  (try simp only [Act.put, pSa, pSb, pSc])
  refine tkY 11 ?_ rfl ?_ ?_ (by assumption)
  rotate_left
  · intro w h; simp only [b3, b4, b6, cE] at h; go_simp <;> with_reducible rfl
  (try simp only [Act.put, pSa, pSb, pSc])
  refine tkY 12 ?_ rfl ?_ ?_ (by assumption)
  rotate_left
  · intro w h; simp only [b3, b4, b6, cE] at h; go_simp <;> with_reducible rfl
  (try simp only [Act.put, pSa, pSb, pSc])
  refine tkY 13 ?_ rfl ?_ ?_ (by assumption)
  rotate_left
  · intro w h; simp only [b3, b4, b6, cE] at h; go_simp <;> with_reducible rfl
  (try simp only [Act.put, pSa, pSb, pSc])
  refine rOne 14 rfl (fun K hK => ?_)
  go_simp
  go_at_call 17
  (with_reducible refine (Np _).mono ?_)
  rintro e rq12 ⟨rfl, zq12⟩
  go_wp2_with fail
  refine hK.out _ _ (mkq1 _ (b_step hHeld.1 zq12 hHeld.1.size)) (fun hHeld2 => ?_)
  clear hK K hHeld
  have hHeld := hHeld2
  clear hHeld2
  (try simp only [Act.put, pSa, pSb, pSc])
  refine tkY 15 ?_ rfl ?_ ?_ (by assumption)
  rotate_left
  · intro w h; simp only [b3, b4, b6, cE] at h; go_simp <;> with_reducible rfl
  (try simp only [Act.put, pSa, pSb, pSc])
  refine tkN 16 rfl ?_ (by assumption)
  (try simp only [Act.put, pSa, pSb, pSc])
  refine tkN 17 rfl ?_ (by assumption)
  (try simp only [Act.put, pSa, pSb, pSc])
  refine tkN 18 rfl ?_ (by assumption)
  (try simp only [Act.put, pSa, pSb, pSc])
  refine tkN 19 rfl ?_ (by assumption)
  (try simp only [Act.put, pSa, pSb, pSc])
  refine tkN 20 rfl ?_ (by assumption)
  (try simp only [Act.put, pSa, pSb, pSc])
  refine tkN 21 rfl ?_ (by assumption)
  (try simp only [Act.put, pSa, pSb, pSc])
  refine tkN 22 rfl ?_ (by assumption)
  (try simp only [Act.put, pSa, pSb, pSc])
  refine tkN 23 rfl ?_ (by assumption)
  (try simp only [Act.put, pSa, pSb, pSc])
  refine tkN 24 rfl ?_ (by assumption)
  (try simp only [Act.put, pSa, pSb, pSc])
  refine tkY 25 ?_ rfl ?_ ?_ (by assumption)
  rotate_left
  · intro w h; simp only [b3, b4, b6, cE] at h; go_simp <;> with_reducible rfl
  (try simp only [Act.put, pSa, pSb, pSc])
  refine tkY 26 ?_ rfl ?_ ?_ (by assumption)
  rotate_left
  · intro w h; simp only [b3, b4, b6, cE] at h; go_simp <;> with_reducible rfl
  (try simp only [Act.put, pSa, pSb, pSc])
  refine wpAnyH_done (by kernel_rfl) ?_ _
  have belq1 := b_step gb1 hHeld.1 gb1.size
  obtain ⟨-, ⟨h1_0_0, h1_0_1, h1_0_2⟩, ⟨h1_1_0, h1_1_1, h1_1_2⟩⟩ := hHeld
  clear gb1 mkq1 g1_0_0 g1_0_1 g1_0_2 g1_1_0 g1_1_1 g1_1_2
  have zh1_0 := World.block_lt_of_cell? _ _ h1_0_0
  have zh1_1 := World.block_lt_of_cell? _ _ h1_1_0
  go_wp2_with fail
  go_at_call 14
  (with_reducible refine (Im _).mono ?_)
  rintro e tt ⟨rfl, rfl⟩
  go_wp2_with fail
  go_at_call 14
  (with_reducible refine (Im _).mono ?_)
  rintro e tt ⟨rfl, rfl⟩
  go_wp2_with fail
  go_at_call 38
  (with_reducible refine (R2 _).mono ?_)
  rintro e t5 ⟨rfl, y5⟩
  obtain ⟨⟨c5_0_0, c5_0_1, c5_0_2⟩, ⟨c5_1_0, c5_1_1, c5_1_2⟩, bel5⟩ : b3 t5 w.heap.size x y z ∧ b3 t5 t1.heap.size 0 0 0 ∧ Below w.heap.size w t5 := by
    refine ⟨?_, ?_, bs0 belq1 y5⟩ <;> (repeat' apply And.intro) <;> exact cell_later y5 (by (first | assumption | exact c_alloc (by assumption) | exact c_at rfl rfl))
  clear y5 h1_0_0 h1_0_1 h1_0_2 h1_1_0 h1_1_1 h1_1_2 belq1 zh1_0 zh1_1
  have zc5_0 := World.block_lt_of_cell? _ _ c5_0_0
  have zc5_1 := World.block_lt_of_cell? _ _ c5_1_0
  go_wp2_with fail
  go_at_call 15
  (with_reducible refine (Hq _ bel5).mono ?_)
  rintro e t6 ⟨rfl, y6⟩
  obtain ⟨⟨c6_0_0, c6_0_1, c6_0_2⟩, ⟨c6_1_0, c6_1_1, c6_1_2⟩, bel6⟩ : b3 t6 w.heap.size x y z ∧ b3 t6 t1.heap.size 0 0 0 ∧ Below w.heap.size w t6 := by
    refine ⟨?_, ?_, bs0 bel5 y6⟩ <;> (repeat' apply And.intro) <;> exact cell_later y6 (by (first | assumption | exact c_alloc (by assumption) | exact c_at rfl rfl))
  clear y6 c5_0_0 c5_0_1 c5_0_2 c5_1_0 c5_1_1 c5_1_2 bel5 zc5_0 zc5_1
  have zc6_0 := World.block_lt_of_cell? _ _ c6_0_0
  have zc6_1 := World.block_lt_of_cell? _ _ c6_1_0
  go_wp2_with fail
  go_at_call 39
  (with_reducible refine (R3 _).mono ?_)
  rintro e t7 ⟨rfl, y7⟩
  obtain ⟨⟨c7_0_0, c7_0_1, c7_0_2⟩, ⟨c7_1_0, c7_1_1, c7_1_2⟩, bel7⟩ : b3 t7 w.heap.size x y z ∧ b3 t7 t1.heap.size 0 0 0 ∧ Below w.heap.size w t7 := by
    refine ⟨?_, ?_, bs0 bel6 y7⟩ <;> (repeat' apply And.intro) <;> exact cell_later y7 (by (first | assumption | exact c_alloc (by assumption) | exact c_at rfl rfl))
  clear y7 c6_0_0 c6_0_1 c6_0_2 c6_1_0 c6_1_1 c6_1_2 bel6 zc6_0 zc6_1
  have zc7_0 := World.block_lt_of_cell? _ _ c7_0_0
  have zc7_1 := World.block_lt_of_cell? _ _ c7_1_0
  go_wp2_with fail
  go_at_call 40
  (with_reducible refine (R4 _).mono ?_)
  rintro e t8 ⟨rfl, y8⟩
  obtain ⟨⟨c8_0_0, c8_0_1, c8_0_2⟩, ⟨c8_1_0, c8_1_1, c8_1_2⟩, bel8⟩ : b3 t8 w.heap.size x y z ∧ b3 t8 t1.heap.size 0 0 0 ∧ Below w.heap.size w t8 := by
    refine ⟨?_, ?_, bs0 bel7 y8⟩ <;> (repeat' apply And.intro) <;> exact cell_later y8 (by (first | assumption | exact c_alloc (by assumption) | exact c_at rfl rfl))
  clear y8 c7_0_0 c7_0_1 c7_0_2 c7_1_0 c7_1_1 c7_1_2 bel7 zc7_0 zc7_1
  have zc8_0 := World.block_lt_of_cell? _ _ c8_0_0
  have zc8_1 := World.block_lt_of_cell? _ _ c8_1_0
  go_wp2
  go_ret
  exact ⟨rfl, bel8⟩
end Go.Proofs.YtibncdefhphggaaDoor
