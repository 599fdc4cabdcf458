/- The contracts of the reference's same, Compose, Invert, Direction. -/
import Derived.Test.YtibncdefhphggaaDoorB5
namespace Go.Proofs.YtibncdefhphggaaDoor
open Go.RowKit
set_option linter.unusedSimpArgs false
set_option linter.unusedVariables false
attribute [local go_sem ↓] Go.wp_at_zero Go.wp_at_succ

set_option maxHeartbeats 4000000 in
theorem same3_0 (t a b : Nat) (T M R : Nat → Nat → Int) (w : World)
    (t0 : ∀ w, Calls Tryd.prog 37 #[.int .i64 t, vV 1 0 0] w fun e w' => e = .returned (vV (T 0 0) (T 0 1) (T 0 2)) ∧ Below w.heap.size w w') (m0 : ∀ w, Calls Tryd.prog 37 #[.int .i64 b, vV 1 0 0] w fun e w' => e = .returned (vV (M 0 0) (M 0 1) (M 0 2)) ∧ Below w.heap.size w w') (r0 : ∀ w, Calls Tryd.prog 37 #[.int .i64 a, vV (M 0 0) (M 0 1) (M 0 2)] w fun e w' => e = .returned (vV (R 0 0) (R 0 1) (R 0 2)) ∧ Below w.heap.size w w') (q0 : ¬ (T 0 0 = R 0 0 ∧ T 0 1 = R 0 1 ∧ T 0 2 = R 0 2)) :
    Calls Tryd.prog 64 #[.int .i64 t, .int .i64 a, .int .i64 b] w fun e w' => e = .returned (.bool false) ∧ Below w.heap.size w w' := by
  have e0 : ∀ w, (binOp .neq 23 (vV (T 0 0) (T 0 1) (T 0 2)) (vV (R 0 0) (R 0 1) (R 0 2))).run Tryd.prog w = .ok (.bool true) w := fun w => by rw [neq_V, decide_eq_false q0]; rfl
  have A0 := Lib.hid t0; clear t0
  have B0 := Lib.hid m0; clear m0
  have C0 := Lib.hid r0; clear r0 q0
  go_enter Tryd.func64, Tryd.ntmps64
  go_wp2_with fail
  refine wp_loop_rounds 4 ?_
  rw [rounds_succ]
  go_wp2_with fail
  refine gen_world (F := fun W => W.cell? ⟨w.heap.size, 0, none⟩ = some (.int .i64 1) ∧ W.cell? ⟨w.heap.size, 1, none⟩ = some (.int .i64 0) ∧ W.cell? ⟨w.heap.size, 2, none⟩ = some (.int .i64 0) ∧ w.heap.size < W.heap.size ∧ Below w.heap.size w W) (by (repeat' apply And.intro) <;> first | (simp; done) | (simp (disch := first | omega | (simp only [World.size_alloc, World.size_setCell, World.size_drew]; done) | (simp only [World.size_alloc, World.size_setCell, World.size_drew]; omega)) only [*, r_set_same, r_set_off, r_set_blk, r_set_f, r_alloc_at, r_alloc_past, r_falloc_at, r_falloc_past, World.cell?_drew, World.frozen?_drew, Option.map_some, List.getElem?_toArray, List.getElem?_cons_zero, List.getElem?_cons_succ]; done) | (repeat' (first | (with_reducible assumption) | (with_reducible exact Below.refl _ _) | (with_reducible refine Below.alloc ?_ ?_ _) | (with_reducible refine Below.drew ?_) | (with_reducible refine Below.setCell ?_ ?_ _) | (with_reducible refine b_step ?_ (by assumption) ?_) | omega | (simp only [World.size_alloc, World.size_setCell, World.size_drew]; omega)))) (fun W0 hW => ?_)
  obtain ⟨c00, c01, c02, zW0, bW0⟩ := hW
  have mkS0 : ∀ w', Sm [w.heap.size] W0 w' → (Sm [w.heap.size] W0 w' ∧ w'.cell? ⟨w.heap.size, 0, none⟩ = some (.int .i64 1) ∧ w'.cell? ⟨w.heap.size, 1, none⟩ = some (.int .i64 0) ∧ w'.cell? ⟨w.heap.size, 2, none⟩ = some (.int .i64 0)) := fun w' h => ⟨h, h.cell (by simp) (by assumption), h.cell (by simp) (by assumption), h.cell (by simp) (by assumption)⟩
  have rfS0 : Sm [w.heap.size] W0 W0 := Sm.refl (by simp; try omega)
  go_region_held3 (fun w' => Sm [w.heap.size] W0 w' ∧ w'.cell? ⟨w.heap.size, 0, none⟩ = some (.int .i64 1) ∧ w'.cell? ⟨w.heap.size, 1, none⟩ = some (.int .i64 0) ∧ w'.cell? ⟨w.heap.size, 2, none⟩ = some (.int .i64 0)) ((refine mkS0 _ ?_; repeat' (first | (with_reducible exact rfS0.drew) | (with_reducible exact rfS0) | (with_reducible refine Sm.alloc ?_ _) | (with_reducible refine Sm.drew ?_) | (with_reducible refine Sm.below ?_ (by assumption)) | (with_reducible refine Sm.far ?_ _ _ (by simp; try omega)))))
    (first | (go_at_call 37; (with_reducible refine (A0.out _).mono ?_); rintro e v01 ⟨rfl, y01⟩) | (go_at_call 37; (with_reducible refine (B0.out _).mono ?_); rintro e v02 ⟨rfl, y02⟩) | (go_at_call 37; (with_reducible refine (C0.out _).mono ?_); rintro e v03 ⟨rfl, y03⟩))
  have s01 := y01.size
  have s02 := y02.size
  have s03 := y03.size
  simp only [World.size_alloc, World.size_drew, World.size_setCell] at s01 s02 s03
  have bv0 : Below w.heap.size w v03 := by (repeat' (first | (with_reducible assumption) | (with_reducible exact Below.refl _ _) | (with_reducible refine Below.alloc ?_ ?_ _) | (with_reducible refine Below.drew ?_) | (with_reducible refine Below.setCell ?_ ?_ _) | (with_reducible refine b_step ?_ (by assumption) ?_) | omega | (simp only [World.size_alloc, World.size_setCell, World.size_drew]; omega)))
  have zv0 := bv0.size
  go_wp2
  go_ret
  exact ⟨rfl, bv0⟩

set_option maxHeartbeats 4000000 in
theorem same3_1 (t a b : Nat) (T M R : Nat → Nat → Int) (w : World)
    (t0 : ∀ w, Calls Tryd.prog 37 #[.int .i64 t, vV 1 0 0] w fun e w' => e = .returned (vV (T 0 0) (T 0 1) (T 0 2)) ∧ Below w.heap.size w w') (m0 : ∀ w, Calls Tryd.prog 37 #[.int .i64 b, vV 1 0 0] w fun e w' => e = .returned (vV (M 0 0) (M 0 1) (M 0 2)) ∧ Below w.heap.size w w') (r0 : ∀ w, Calls Tryd.prog 37 #[.int .i64 a, vV (M 0 0) (M 0 1) (M 0 2)] w fun e w' => e = .returned (vV (R 0 0) (R 0 1) (R 0 2)) ∧ Below w.heap.size w w') (q0 : (T 0 0 = R 0 0 ∧ T 0 1 = R 0 1 ∧ T 0 2 = R 0 2))
    (t1 : ∀ w, Calls Tryd.prog 37 #[.int .i64 t, vV 0 1 0] w fun e w' => e = .returned (vV (T 1 0) (T 1 1) (T 1 2)) ∧ Below w.heap.size w w') (m1 : ∀ w, Calls Tryd.prog 37 #[.int .i64 b, vV 0 1 0] w fun e w' => e = .returned (vV (M 1 0) (M 1 1) (M 1 2)) ∧ Below w.heap.size w w') (r1 : ∀ w, Calls Tryd.prog 37 #[.int .i64 a, vV (M 1 0) (M 1 1) (M 1 2)] w fun e w' => e = .returned (vV (R 1 0) (R 1 1) (R 1 2)) ∧ Below w.heap.size w w') (q1 : ¬ (T 1 0 = R 1 0 ∧ T 1 1 = R 1 1 ∧ T 1 2 = R 1 2)) :
    Calls Tryd.prog 64 #[.int .i64 t, .int .i64 a, .int .i64 b] w fun e w' => e = .returned (.bool false) ∧ Below w.heap.size w w' := by
  have e0 : ∀ w, (binOp .neq 23 (vV (T 0 0) (T 0 1) (T 0 2)) (vV (R 0 0) (R 0 1) (R 0 2))).run Tryd.prog w = .ok (.bool false) w := fun w => by rw [neq_V, decide_eq_true q0]; rfl
  have A0 := Lib.hid t0; clear t0
  have B0 := Lib.hid m0; clear m0
  have C0 := Lib.hid r0; clear r0 q0
  have e1 : ∀ w, (binOp .neq 23 (vV (T 1 0) (T 1 1) (T 1 2)) (vV (R 1 0) (R 1 1) (R 1 2))).run Tryd.prog w = .ok (.bool true) w := fun w => by rw [neq_V, decide_eq_false q1]; rfl
  have A1 := Lib.hid t1; clear t1
  have B1 := Lib.hid m1; clear m1
  have C1 := Lib.hid r1; clear r1 q1
  go_enter Tryd.func64, Tryd.ntmps64
  go_wp2_with fail
  refine wp_loop_rounds 4 ?_
  rw [rounds_succ]
  go_wp2_with fail
  refine gen_world (F := fun W => W.cell? ⟨w.heap.size, 0, none⟩ = some (.int .i64 1) ∧ W.cell? ⟨w.heap.size, 1, none⟩ = some (.int .i64 0) ∧ W.cell? ⟨w.heap.size, 2, none⟩ = some (.int .i64 0) ∧ w.heap.size < W.heap.size ∧ Below w.heap.size w W) (by (repeat' apply And.intro) <;> first | (simp; done) | (simp (disch := first | omega | (simp only [World.size_alloc, World.size_setCell, World.size_drew]; done) | (simp only [World.size_alloc, World.size_setCell, World.size_drew]; omega)) only [*, r_set_same, r_set_off, r_set_blk, r_set_f, r_alloc_at, r_alloc_past, r_falloc_at, r_falloc_past, World.cell?_drew, World.frozen?_drew, Option.map_some, List.getElem?_toArray, List.getElem?_cons_zero, List.getElem?_cons_succ]; done) | (repeat' (first | (with_reducible assumption) | (with_reducible exact Below.refl _ _) | (with_reducible refine Below.alloc ?_ ?_ _) | (with_reducible refine Below.drew ?_) | (with_reducible refine Below.setCell ?_ ?_ _) | (with_reducible refine b_step ?_ (by assumption) ?_) | omega | (simp only [World.size_alloc, World.size_setCell, World.size_drew]; omega)))) (fun W0 hW => ?_)
  obtain ⟨c00, c01, c02, zW0, bW0⟩ := hW
  have mkS0 : ∀ w', Sm [w.heap.size] W0 w' → (Sm [w.heap.size] W0 w' ∧ w'.cell? ⟨w.heap.size, 0, none⟩ = some (.int .i64 1) ∧ w'.cell? ⟨w.heap.size, 1, none⟩ = some (.int .i64 0) ∧ w'.cell? ⟨w.heap.size, 2, none⟩ = some (.int .i64 0)) := fun w' h => ⟨h, h.cell (by simp) (by assumption), h.cell (by simp) (by assumption), h.cell (by simp) (by assumption)⟩
  have rfS0 : Sm [w.heap.size] W0 W0 := Sm.refl (by simp; try omega)
  go_region_held3 (fun w' => Sm [w.heap.size] W0 w' ∧ w'.cell? ⟨w.heap.size, 0, none⟩ = some (.int .i64 1) ∧ w'.cell? ⟨w.heap.size, 1, none⟩ = some (.int .i64 0) ∧ w'.cell? ⟨w.heap.size, 2, none⟩ = some (.int .i64 0)) ((refine mkS0 _ ?_; repeat' (first | (with_reducible exact rfS0.drew) | (with_reducible exact rfS0) | (with_reducible refine Sm.alloc ?_ _) | (with_reducible refine Sm.drew ?_) | (with_reducible refine Sm.below ?_ (by assumption)) | (with_reducible refine Sm.far ?_ _ _ (by simp; try omega)))))
    (first | (go_at_call 37; (with_reducible refine (A0.out _).mono ?_); rintro e v01 ⟨rfl, y01⟩) | (go_at_call 37; (with_reducible refine (B0.out _).mono ?_); rintro e v02 ⟨rfl, y02⟩) | (go_at_call 37; (with_reducible refine (C0.out _).mono ?_); rintro e v03 ⟨rfl, y03⟩))
  have s01 := y01.size
  have s02 := y02.size
  have s03 := y03.size
  simp only [World.size_alloc, World.size_drew, World.size_setCell] at s01 s02 s03
  have bv0 : Below w.heap.size w v03 := by (repeat' (first | (with_reducible assumption) | (with_reducible exact Below.refl _ _) | (with_reducible refine Below.alloc ?_ ?_ _) | (with_reducible refine Below.drew ?_) | (with_reducible refine Below.setCell ?_ ?_ _) | (with_reducible refine b_step ?_ (by assumption) ?_) | omega | (simp only [World.size_alloc, World.size_setCell, World.size_drew]; omega)))
  have zv0 := bv0.size
  go_wp2
  rw [rounds_succ]
  go_wp2_with fail
  refine gen_world (F := fun W => W.cell? ⟨v03.heap.size, 0, none⟩ = some (.int .i64 0) ∧ W.cell? ⟨v03.heap.size, 1, none⟩ = some (.int .i64 1) ∧ W.cell? ⟨v03.heap.size, 2, none⟩ = some (.int .i64 0) ∧ v03.heap.size < W.heap.size ∧ Below w.heap.size w W) (by (repeat' apply And.intro) <;> first | (simp; done) | (simp (disch := first | omega | (simp only [World.size_alloc, World.size_setCell, World.size_drew]; done) | (simp only [World.size_alloc, World.size_setCell, World.size_drew]; omega)) only [*, r_set_same, r_set_off, r_set_blk, r_set_f, r_alloc_at, r_alloc_past, r_falloc_at, r_falloc_past, World.cell?_drew, World.frozen?_drew, Option.map_some, List.getElem?_toArray, List.getElem?_cons_zero, List.getElem?_cons_succ]; done) | (repeat' (first | (with_reducible assumption) | (with_reducible exact Below.refl _ _) | (with_reducible refine Below.alloc ?_ ?_ _) | (with_reducible refine Below.drew ?_) | (with_reducible refine Below.setCell ?_ ?_ _) | (with_reducible refine b_step ?_ (by assumption) ?_) | omega | (simp only [World.size_alloc, World.size_setCell, World.size_drew]; omega)))) (fun W1 hW => ?_)
  obtain ⟨c10, c11, c12, zW1, bW1⟩ := hW
  have mkS1 : ∀ w', Sm [v03.heap.size] W1 w' → (Sm [v03.heap.size] W1 w' ∧ w'.cell? ⟨v03.heap.size, 0, none⟩ = some (.int .i64 0) ∧ w'.cell? ⟨v03.heap.size, 1, none⟩ = some (.int .i64 1) ∧ w'.cell? ⟨v03.heap.size, 2, none⟩ = some (.int .i64 0)) := fun w' h => ⟨h, h.cell (by simp) (by assumption), h.cell (by simp) (by assumption), h.cell (by simp) (by assumption)⟩
  have rfS1 : Sm [v03.heap.size] W1 W1 := Sm.refl (by simp; try omega)
  go_region_held3 (fun w' => Sm [v03.heap.size] W1 w' ∧ w'.cell? ⟨v03.heap.size, 0, none⟩ = some (.int .i64 0) ∧ w'.cell? ⟨v03.heap.size, 1, none⟩ = some (.int .i64 1) ∧ w'.cell? ⟨v03.heap.size, 2, none⟩ = some (.int .i64 0)) ((refine mkS1 _ ?_; repeat' (first | (with_reducible exact rfS1.drew) | (with_reducible exact rfS1) | (with_reducible refine Sm.alloc ?_ _) | (with_reducible refine Sm.drew ?_) | (with_reducible refine Sm.below ?_ (by assumption)) | (with_reducible refine Sm.far ?_ _ _ (by simp; try omega)))))
    (first | (go_at_call 37; (with_reducible refine (A1.out _).mono ?_); rintro e v11 ⟨rfl, y11⟩) | (go_at_call 37; (with_reducible refine (B1.out _).mono ?_); rintro e v12 ⟨rfl, y12⟩) | (go_at_call 37; (with_reducible refine (C1.out _).mono ?_); rintro e v13 ⟨rfl, y13⟩))
  have s11 := y11.size
  have s12 := y12.size
  have s13 := y13.size
  simp only [World.size_alloc, World.size_drew, World.size_setCell] at s11 s12 s13
  have bv1 : Below w.heap.size w v13 := by (repeat' (first | (with_reducible assumption) | (with_reducible exact Below.refl _ _) | (with_reducible refine Below.alloc ?_ ?_ _) | (with_reducible refine Below.drew ?_) | (with_reducible refine Below.setCell ?_ ?_ _) | (with_reducible refine b_step ?_ (by assumption) ?_) | omega | (simp only [World.size_alloc, World.size_setCell, World.size_drew]; omega)))
  have zv1 := bv1.size
  go_wp2
  go_ret
  exact ⟨rfl, bv1⟩

set_option maxHeartbeats 4000000 in
theorem same3_2 (t a b : Nat) (T M R : Nat → Nat → Int) (w : World)
    (t0 : ∀ w, Calls Tryd.prog 37 #[.int .i64 t, vV 1 0 0] w fun e w' => e = .returned (vV (T 0 0) (T 0 1) (T 0 2)) ∧ Below w.heap.size w w') (m0 : ∀ w, Calls Tryd.prog 37 #[.int .i64 b, vV 1 0 0] w fun e w' => e = .returned (vV (M 0 0) (M 0 1) (M 0 2)) ∧ Below w.heap.size w w') (r0 : ∀ w, Calls Tryd.prog 37 #[.int .i64 a, vV (M 0 0) (M 0 1) (M 0 2)] w fun e w' => e = .returned (vV (R 0 0) (R 0 1) (R 0 2)) ∧ Below w.heap.size w w') (q0 : (T 0 0 = R 0 0 ∧ T 0 1 = R 0 1 ∧ T 0 2 = R 0 2))
    (t1 : ∀ w, Calls Tryd.prog 37 #[.int .i64 t, vV 0 1 0] w fun e w' => e = .returned (vV (T 1 0) (T 1 1) (T 1 2)) ∧ Below w.heap.size w w') (m1 : ∀ w, Calls Tryd.prog 37 #[.int .i64 b, vV 0 1 0] w fun e w' => e = .returned (vV (M 1 0) (M 1 1) (M 1 2)) ∧ Below w.heap.size w w') (r1 : ∀ w, Calls Tryd.prog 37 #[.int .i64 a, vV (M 1 0) (M 1 1) (M 1 2)] w fun e w' => e = .returned (vV (R 1 0) (R 1 1) (R 1 2)) ∧ Below w.heap.size w w') (q1 : (T 1 0 = R 1 0 ∧ T 1 1 = R 1 1 ∧ T 1 2 = R 1 2))
    (t2 : ∀ w, Calls Tryd.prog 37 #[.int .i64 t, vV 0 0 1] w fun e w' => e = .returned (vV (T 2 0) (T 2 1) (T 2 2)) ∧ Below w.heap.size w w') (m2 : ∀ w, Calls Tryd.prog 37 #[.int .i64 b, vV 0 0 1] w fun e w' => e = .returned (vV (M 2 0) (M 2 1) (M 2 2)) ∧ Below w.heap.size w w') (r2 : ∀ w, Calls Tryd.prog 37 #[.int .i64 a, vV (M 2 0) (M 2 1) (M 2 2)] w fun e w' => e = .returned (vV (R 2 0) (R 2 1) (R 2 2)) ∧ Below w.heap.size w w') (q2 : ¬ (T 2 0 = R 2 0 ∧ T 2 1 = R 2 1 ∧ T 2 2 = R 2 2)) :
    Calls Tryd.prog 64 #[.int .i64 t, .int .i64 a, .int .i64 b] w fun e w' => e = .returned (.bool false) ∧ Below w.heap.size w w' := by
  have e0 : ∀ w, (binOp .neq 23 (vV (T 0 0) (T 0 1) (T 0 2)) (vV (R 0 0) (R 0 1) (R 0 2))).run Tryd.prog w = .ok (.bool false) w := fun w => by rw [neq_V, decide_eq_true q0]; rfl
  have A0 := Lib.hid t0; clear t0
  have B0 := Lib.hid m0; clear m0
  have C0 := Lib.hid r0; clear r0 q0
  have e1 : ∀ w, (binOp .neq 23 (vV (T 1 0) (T 1 1) (T 1 2)) (vV (R 1 0) (R 1 1) (R 1 2))).run Tryd.prog w = .ok (.bool false) w := fun w => by rw [neq_V, decide_eq_true q1]; rfl
  have A1 := Lib.hid t1; clear t1
  have B1 := Lib.hid m1; clear m1
  have C1 := Lib.hid r1; clear r1 q1
  have e2 : ∀ w, (binOp .neq 23 (vV (T 2 0) (T 2 1) (T 2 2)) (vV (R 2 0) (R 2 1) (R 2 2))).run Tryd.prog w = .ok (.bool true) w := fun w => by rw [neq_V, decide_eq_false q2]; rfl
  have A2 := Lib.hid t2; clear t2
  have B2 := Lib.hid m2; clear m2
  have C2 := Lib.hid r2; clear r2 q2
  go_enter Tryd.func64, Tryd.ntmps64
  go_wp2_with fail
  refine wp_loop_rounds 4 ?_
  rw [rounds_succ]
  go_wp2_with fail
  refine gen_world (F := fun W => W.cell? ⟨w.heap.size, 0, none⟩ = some (.int .i64 1) ∧ W.cell? ⟨w.heap.size, 1, none⟩ = some (.int .i64 0) ∧ W.cell? ⟨w.heap.size, 2, none⟩ = some (.int .i64 0) ∧ w.heap.size < W.heap.size ∧ Below w.heap.size w W) (by (repeat' apply And.intro) <;> first | (simp; done) | (simp (disch := first | omega | (simp only [World.size_alloc, World.size_setCell, World.size_drew]; done) | (simp only [World.size_alloc, World.size_setCell, World.size_drew]; omega)) only [*, r_set_same, r_set_off, r_set_blk, r_set_f, r_alloc_at, r_alloc_past, r_falloc_at, r_falloc_past, World.cell?_drew, World.frozen?_drew, Option.map_some, List.getElem?_toArray, List.getElem?_cons_zero, List.getElem?_cons_succ]; done) | (repeat' (first | (with_reducible assumption) | (with_reducible exact Below.refl _ _) | (with_reducible refine Below.alloc ?_ ?_ _) | (with_reducible refine Below.drew ?_) | (with_reducible refine Below.setCell ?_ ?_ _) | (with_reducible refine b_step ?_ (by assumption) ?_) | omega | (simp only [World.size_alloc, World.size_setCell, World.size_drew]; omega)))) (fun W0 hW => ?_)
  obtain ⟨c00, c01, c02, zW0, bW0⟩ := hW
  have mkS0 : ∀ w', Sm [w.heap.size] W0 w' → (Sm [w.heap.size] W0 w' ∧ w'.cell? ⟨w.heap.size, 0, none⟩ = some (.int .i64 1) ∧ w'.cell? ⟨w.heap.size, 1, none⟩ = some (.int .i64 0) ∧ w'.cell? ⟨w.heap.size, 2, none⟩ = some (.int .i64 0)) := fun w' h => ⟨h, h.cell (by simp) (by assumption), h.cell (by simp) (by assumption), h.cell (by simp) (by assumption)⟩
  have rfS0 : Sm [w.heap.size] W0 W0 := Sm.refl (by simp; try omega)
  go_region_held3 (fun w' => Sm [w.heap.size] W0 w' ∧ w'.cell? ⟨w.heap.size, 0, none⟩ = some (.int .i64 1) ∧ w'.cell? ⟨w.heap.size, 1, none⟩ = some (.int .i64 0) ∧ w'.cell? ⟨w.heap.size, 2, none⟩ = some (.int .i64 0)) ((refine mkS0 _ ?_; repeat' (first | (with_reducible exact rfS0.drew) | (with_reducible exact rfS0) | (with_reducible refine Sm.alloc ?_ _) | (with_reducible refine Sm.drew ?_) | (with_reducible refine Sm.below ?_ (by assumption)) | (with_reducible refine Sm.far ?_ _ _ (by simp; try omega)))))
    (first | (go_at_call 37; (with_reducible refine (A0.out _).mono ?_); rintro e v01 ⟨rfl, y01⟩) | (go_at_call 37; (with_reducible refine (B0.out _).mono ?_); rintro e v02 ⟨rfl, y02⟩) | (go_at_call 37; (with_reducible refine (C0.out _).mono ?_); rintro e v03 ⟨rfl, y03⟩))
  have s01 := y01.size
  have s02 := y02.size
  have s03 := y03.size
  simp only [World.size_alloc, World.size_drew, World.size_setCell] at s01 s02 s03
  have bv0 : Below w.heap.size w v03 := by (repeat' (first | (with_reducible assumption) | (with_reducible exact Below.refl _ _) | (with_reducible refine Below.alloc ?_ ?_ _) | (with_reducible refine Below.drew ?_) | (with_reducible refine Below.setCell ?_ ?_ _) | (with_reducible refine b_step ?_ (by assumption) ?_) | omega | (simp only [World.size_alloc, World.size_setCell, World.size_drew]; omega)))
  have zv0 := bv0.size
  go_wp2
  rw [rounds_succ]
  go_wp2_with fail
  refine gen_world (F := fun W => W.cell? ⟨v03.heap.size, 0, none⟩ = some (.int .i64 0) ∧ W.cell? ⟨v03.heap.size, 1, none⟩ = some (.int .i64 1) ∧ W.cell? ⟨v03.heap.size, 2, none⟩ = some (.int .i64 0) ∧ v03.heap.size < W.heap.size ∧ Below w.heap.size w W) (by (repeat' apply And.intro) <;> first | (simp; done) | (simp (disch := first | omega | (simp only [World.size_alloc, World.size_setCell, World.size_drew]; done) | (simp only [World.size_alloc, World.size_setCell, World.size_drew]; omega)) only [*, r_set_same, r_set_off, r_set_blk, r_set_f, r_alloc_at, r_alloc_past, r_falloc_at, r_falloc_past, World.cell?_drew, World.frozen?_drew, Option.map_some, List.getElem?_toArray, List.getElem?_cons_zero, List.getElem?_cons_succ]; done) | (repeat' (first | (with_reducible assumption) | (with_reducible exact Below.refl _ _) | (with_reducible refine Below.alloc ?_ ?_ _) | (with_reducible refine Below.drew ?_) | (with_reducible refine Below.setCell ?_ ?_ _) | (with_reducible refine b_step ?_ (by assumption) ?_) | omega | (simp only [World.size_alloc, World.size_setCell, World.size_drew]; omega)))) (fun W1 hW => ?_)
  obtain ⟨c10, c11, c12, zW1, bW1⟩ := hW
  have mkS1 : ∀ w', Sm [v03.heap.size] W1 w' → (Sm [v03.heap.size] W1 w' ∧ w'.cell? ⟨v03.heap.size, 0, none⟩ = some (.int .i64 0) ∧ w'.cell? ⟨v03.heap.size, 1, none⟩ = some (.int .i64 1) ∧ w'.cell? ⟨v03.heap.size, 2, none⟩ = some (.int .i64 0)) := fun w' h => ⟨h, h.cell (by simp) (by assumption), h.cell (by simp) (by assumption), h.cell (by simp) (by assumption)⟩
  have rfS1 : Sm [v03.heap.size] W1 W1 := Sm.refl (by simp; try omega)
  go_region_held3 (fun w' => Sm [v03.heap.size] W1 w' ∧ w'.cell? ⟨v03.heap.size, 0, none⟩ = some (.int .i64 0) ∧ w'.cell? ⟨v03.heap.size, 1, none⟩ = some (.int .i64 1) ∧ w'.cell? ⟨v03.heap.size, 2, none⟩ = some (.int .i64 0)) ((refine mkS1 _ ?_; repeat' (first | (with_reducible exact rfS1.drew) | (with_reducible exact rfS1) | (with_reducible refine Sm.alloc ?_ _) | (with_reducible refine Sm.drew ?_) | (with_reducible refine Sm.below ?_ (by assumption)) | (with_reducible refine Sm.far ?_ _ _ (by simp; try omega)))))
    (first | (go_at_call 37; (with_reducible refine (A1.out _).mono ?_); rintro e v11 ⟨rfl, y11⟩) | (go_at_call 37; (with_reducible refine (B1.out _).mono ?_); rintro e v12 ⟨rfl, y12⟩) | (go_at_call 37; (with_reducible refine (C1.out _).mono ?_); rintro e v13 ⟨rfl, y13⟩))
  have s11 := y11.size
  have s12 := y12.size
  have s13 := y13.size
  simp only [World.size_alloc, World.size_drew, World.size_setCell] at s11 s12 s13
  have bv1 : Below w.heap.size w v13 := by (repeat' (first | (with_reducible assumption) | (with_reducible exact Below.refl _ _) | (with_reducible refine Below.alloc ?_ ?_ _) | (with_reducible refine Below.drew ?_) | (with_reducible refine Below.setCell ?_ ?_ _) | (with_reducible refine b_step ?_ (by assumption) ?_) | omega | (simp only [World.size_alloc, World.size_setCell, World.size_drew]; omega)))
  have zv1 := bv1.size
  go_wp2
  rw [rounds_succ]
  go_wp2_with fail
  refine gen_world (F := fun W => W.cell? ⟨v13.heap.size, 0, none⟩ = some (.int .i64 0) ∧ W.cell? ⟨v13.heap.size, 1, none⟩ = some (.int .i64 0) ∧ W.cell? ⟨v13.heap.size, 2, none⟩ = some (.int .i64 1) ∧ v13.heap.size < W.heap.size ∧ Below w.heap.size w W) (by (repeat' apply And.intro) <;> first | (simp; done) | (simp (disch := first | omega | (simp only [World.size_alloc, World.size_setCell, World.size_drew]; done) | (simp only [World.size_alloc, World.size_setCell, World.size_drew]; omega)) only [*, r_set_same, r_set_off, r_set_blk, r_set_f, r_alloc_at, r_alloc_past, r_falloc_at, r_falloc_past, World.cell?_drew, World.frozen?_drew, Option.map_some, List.getElem?_toArray, List.getElem?_cons_zero, List.getElem?_cons_succ]; done) | (repeat' (first | (with_reducible assumption) | (with_reducible exact Below.refl _ _) | (with_reducible refine Below.alloc ?_ ?_ _) | (with_reducible refine Below.drew ?_) | (with_reducible refine Below.setCell ?_ ?_ _) | (with_reducible refine b_step ?_ (by assumption) ?_) | omega | (simp only [World.size_alloc, World.size_setCell, World.size_drew]; omega)))) (fun W2 hW => ?_)
  obtain ⟨c20, c21, c22, zW2, bW2⟩ := hW
  have mkS2 : ∀ w', Sm [v13.heap.size] W2 w' → (Sm [v13.heap.size] W2 w' ∧ w'.cell? ⟨v13.heap.size, 0, none⟩ = some (.int .i64 0) ∧ w'.cell? ⟨v13.heap.size, 1, none⟩ = some (.int .i64 0) ∧ w'.cell? ⟨v13.heap.size, 2, none⟩ = some (.int .i64 1)) := fun w' h => ⟨h, h.cell (by simp) (by assumption), h.cell (by simp) (by assumption), h.cell (by simp) (by assumption)⟩
  have rfS2 : Sm [v13.heap.size] W2 W2 := Sm.refl (by simp; try omega)
  go_region_held3 (fun w' => Sm [v13.heap.size] W2 w' ∧ w'.cell? ⟨v13.heap.size, 0, none⟩ = some (.int .i64 0) ∧ w'.cell? ⟨v13.heap.size, 1, none⟩ = some (.int .i64 0) ∧ w'.cell? ⟨v13.heap.size, 2, none⟩ = some (.int .i64 1)) ((refine mkS2 _ ?_; repeat' (first | (with_reducible exact rfS2.drew) | (with_reducible exact rfS2) | (with_reducible refine Sm.alloc ?_ _) | (with_reducible refine Sm.drew ?_) | (with_reducible refine Sm.below ?_ (by assumption)) | (with_reducible refine Sm.far ?_ _ _ (by simp; try omega)))))
    (first | (go_at_call 37; (with_reducible refine (A2.out _).mono ?_); rintro e v21 ⟨rfl, y21⟩) | (go_at_call 37; (with_reducible refine (B2.out _).mono ?_); rintro e v22 ⟨rfl, y22⟩) | (go_at_call 37; (with_reducible refine (C2.out _).mono ?_); rintro e v23 ⟨rfl, y23⟩))
  have s21 := y21.size
  have s22 := y22.size
  have s23 := y23.size
  simp only [World.size_alloc, World.size_drew, World.size_setCell] at s21 s22 s23
  have bv2 : Below w.heap.size w v23 := by (repeat' (first | (with_reducible assumption) | (with_reducible exact Below.refl _ _) | (with_reducible refine Below.alloc ?_ ?_ _) | (with_reducible refine Below.drew ?_) | (with_reducible refine Below.setCell ?_ ?_ _) | (with_reducible refine b_step ?_ (by assumption) ?_) | omega | (simp only [World.size_alloc, World.size_setCell, World.size_drew]; omega)))
  have zv2 := bv2.size
  go_wp2
  go_ret
  exact ⟨rfl, bv2⟩

set_option maxHeartbeats 4000000 in
theorem same3_3 (t a b : Nat) (T M R : Nat → Nat → Int) (w : World)
    (t0 : ∀ w, Calls Tryd.prog 37 #[.int .i64 t, vV 1 0 0] w fun e w' => e = .returned (vV (T 0 0) (T 0 1) (T 0 2)) ∧ Below w.heap.size w w') (m0 : ∀ w, Calls Tryd.prog 37 #[.int .i64 b, vV 1 0 0] w fun e w' => e = .returned (vV (M 0 0) (M 0 1) (M 0 2)) ∧ Below w.heap.size w w') (r0 : ∀ w, Calls Tryd.prog 37 #[.int .i64 a, vV (M 0 0) (M 0 1) (M 0 2)] w fun e w' => e = .returned (vV (R 0 0) (R 0 1) (R 0 2)) ∧ Below w.heap.size w w') (q0 : (T 0 0 = R 0 0 ∧ T 0 1 = R 0 1 ∧ T 0 2 = R 0 2))
    (t1 : ∀ w, Calls Tryd.prog 37 #[.int .i64 t, vV 0 1 0] w fun e w' => e = .returned (vV (T 1 0) (T 1 1) (T 1 2)) ∧ Below w.heap.size w w') (m1 : ∀ w, Calls Tryd.prog 37 #[.int .i64 b, vV 0 1 0] w fun e w' => e = .returned (vV (M 1 0) (M 1 1) (M 1 2)) ∧ Below w.heap.size w w') (r1 : ∀ w, Calls Tryd.prog 37 #[.int .i64 a, vV (M 1 0) (M 1 1) (M 1 2)] w fun e w' => e = .returned (vV (R 1 0) (R 1 1) (R 1 2)) ∧ Below w.heap.size w w') (q1 : (T 1 0 = R 1 0 ∧ T 1 1 = R 1 1 ∧ T 1 2 = R 1 2))
    (t2 : ∀ w, Calls Tryd.prog 37 #[.int .i64 t, vV 0 0 1] w fun e w' => e = .returned (vV (T 2 0) (T 2 1) (T 2 2)) ∧ Below w.heap.size w w') (m2 : ∀ w, Calls Tryd.prog 37 #[.int .i64 b, vV 0 0 1] w fun e w' => e = .returned (vV (M 2 0) (M 2 1) (M 2 2)) ∧ Below w.heap.size w w') (r2 : ∀ w, Calls Tryd.prog 37 #[.int .i64 a, vV (M 2 0) (M 2 1) (M 2 2)] w fun e w' => e = .returned (vV (R 2 0) (R 2 1) (R 2 2)) ∧ Below w.heap.size w w') (q2 : (T 2 0 = R 2 0 ∧ T 2 1 = R 2 1 ∧ T 2 2 = R 2 2)) :
    Calls Tryd.prog 64 #[.int .i64 t, .int .i64 a, .int .i64 b] w fun e w' => e = .returned (.bool true) ∧ Below w.heap.size w w' := by
  have e0 : ∀ w, (binOp .neq 23 (vV (T 0 0) (T 0 1) (T 0 2)) (vV (R 0 0) (R 0 1) (R 0 2))).run Tryd.prog w = .ok (.bool false) w := fun w => by rw [neq_V, decide_eq_true q0]; rfl
  have A0 := Lib.hid t0; clear t0
  have B0 := Lib.hid m0; clear m0
  have C0 := Lib.hid r0; clear r0 q0
  have e1 : ∀ w, (binOp .neq 23 (vV (T 1 0) (T 1 1) (T 1 2)) (vV (R 1 0) (R 1 1) (R 1 2))).run Tryd.prog w = .ok (.bool false) w := fun w => by rw [neq_V, decide_eq_true q1]; rfl
  have A1 := Lib.hid t1; clear t1
  have B1 := Lib.hid m1; clear m1
  have C1 := Lib.hid r1; clear r1 q1
  have e2 : ∀ w, (binOp .neq 23 (vV (T 2 0) (T 2 1) (T 2 2)) (vV (R 2 0) (R 2 1) (R 2 2))).run Tryd.prog w = .ok (.bool false) w := fun w => by rw [neq_V, decide_eq_true q2]; rfl
  have A2 := Lib.hid t2; clear t2
  have B2 := Lib.hid m2; clear m2
  have C2 := Lib.hid r2; clear r2 q2
  go_enter Tryd.func64, Tryd.ntmps64
  go_wp2_with fail
  refine wp_loop_rounds 4 ?_
  rw [rounds_succ]
  go_wp2_with fail
  refine gen_world (F := fun W => W.cell? ⟨w.heap.size, 0, none⟩ = some (.int .i64 1) ∧ W.cell? ⟨w.heap.size, 1, none⟩ = some (.int .i64 0) ∧ W.cell? ⟨w.heap.size, 2, none⟩ = some (.int .i64 0) ∧ w.heap.size < W.heap.size ∧ Below w.heap.size w W) (by (repeat' apply And.intro) <;> first | (simp; done) | (simp (disch := first | omega | (simp only [World.size_alloc, World.size_setCell, World.size_drew]; done) | (simp only [World.size_alloc, World.size_setCell, World.size_drew]; omega)) only [*, r_set_same, r_set_off, r_set_blk, r_set_f, r_alloc_at, r_alloc_past, r_falloc_at, r_falloc_past, World.cell?_drew, World.frozen?_drew, Option.map_some, List.getElem?_toArray, List.getElem?_cons_zero, List.getElem?_cons_succ]; done) | (repeat' (first | (with_reducible assumption) | (with_reducible exact Below.refl _ _) | (with_reducible refine Below.alloc ?_ ?_ _) | (with_reducible refine Below.drew ?_) | (with_reducible refine Below.setCell ?_ ?_ _) | (with_reducible refine b_step ?_ (by assumption) ?_) | omega | (simp only [World.size_alloc, World.size_setCell, World.size_drew]; omega)))) (fun W0 hW => ?_)
  obtain ⟨c00, c01, c02, zW0, bW0⟩ := hW
  have mkS0 : ∀ w', Sm [w.heap.size] W0 w' → (Sm [w.heap.size] W0 w' ∧ w'.cell? ⟨w.heap.size, 0, none⟩ = some (.int .i64 1) ∧ w'.cell? ⟨w.heap.size, 1, none⟩ = some (.int .i64 0) ∧ w'.cell? ⟨w.heap.size, 2, none⟩ = some (.int .i64 0)) := fun w' h => ⟨h, h.cell (by simp) (by assumption), h.cell (by simp) (by assumption), h.cell (by simp) (by assumption)⟩
  have rfS0 : Sm [w.heap.size] W0 W0 := Sm.refl (by simp; try omega)
  go_region_held3 (fun w' => Sm [w.heap.size] W0 w' ∧ w'.cell? ⟨w.heap.size, 0, none⟩ = some (.int .i64 1) ∧ w'.cell? ⟨w.heap.size, 1, none⟩ = some (.int .i64 0) ∧ w'.cell? ⟨w.heap.size, 2, none⟩ = some (.int .i64 0)) ((refine mkS0 _ ?_; repeat' (first | (with_reducible exact rfS0.drew) | (with_reducible exact rfS0) | (with_reducible refine Sm.alloc ?_ _) | (with_reducible refine Sm.drew ?_) | (with_reducible refine Sm.below ?_ (by assumption)) | (with_reducible refine Sm.far ?_ _ _ (by simp; try omega)))))
    (first | (go_at_call 37; (with_reducible refine (A0.out _).mono ?_); rintro e v01 ⟨rfl, y01⟩) | (go_at_call 37; (with_reducible refine (B0.out _).mono ?_); rintro e v02 ⟨rfl, y02⟩) | (go_at_call 37; (with_reducible refine (C0.out _).mono ?_); rintro e v03 ⟨rfl, y03⟩))
  have s01 := y01.size
  have s02 := y02.size
  have s03 := y03.size
  simp only [World.size_alloc, World.size_drew, World.size_setCell] at s01 s02 s03
  have bv0 : Below w.heap.size w v03 := by (repeat' (first | (with_reducible assumption) | (with_reducible exact Below.refl _ _) | (with_reducible refine Below.alloc ?_ ?_ _) | (with_reducible refine Below.drew ?_) | (with_reducible refine Below.setCell ?_ ?_ _) | (with_reducible refine b_step ?_ (by assumption) ?_) | omega | (simp only [World.size_alloc, World.size_setCell, World.size_drew]; omega)))
  have zv0 := bv0.size
  go_wp2
  rw [rounds_succ]
  go_wp2_with fail
  refine gen_world (F := fun W => W.cell? ⟨v03.heap.size, 0, none⟩ = some (.int .i64 0) ∧ W.cell? ⟨v03.heap.size, 1, none⟩ = some (.int .i64 1) ∧ W.cell? ⟨v03.heap.size, 2, none⟩ = some (.int .i64 0) ∧ v03.heap.size < W.heap.size ∧ Below w.heap.size w W) (by (repeat' apply And.intro) <;> first | (simp; done) | (simp (disch := first | omega | (simp only [World.size_alloc, World.size_setCell, World.size_drew]; done) | (simp only [World.size_alloc, World.size_setCell, World.size_drew]; omega)) only [*, r_set_same, r_set_off, r_set_blk, r_set_f, r_alloc_at, r_alloc_past, r_falloc_at, r_falloc_past, World.cell?_drew, World.frozen?_drew, Option.map_some, List.getElem?_toArray, List.getElem?_cons_zero, List.getElem?_cons_succ]; done) | (repeat' (first | (with_reducible assumption) | (with_reducible exact Below.refl _ _) | (with_reducible refine Below.alloc ?_ ?_ _) | (with_reducible refine Below.drew ?_) | (with_reducible refine Below.setCell ?_ ?_ _) | (with_reducible refine b_step ?_ (by assumption) ?_) | omega | (simp only [World.size_alloc, World.size_setCell, World.size_drew]; omega)))) (fun W1 hW => ?_)
  obtain ⟨c10, c11, c12, zW1, bW1⟩ := hW
  have mkS1 : ∀ w', Sm [v03.heap.size] W1 w' → (Sm [v03.heap.size] W1 w' ∧ w'.cell? ⟨v03.heap.size, 0, none⟩ = some (.int .i64 0) ∧ w'.cell? ⟨v03.heap.size, 1, none⟩ = some (.int .i64 1) ∧ w'.cell? ⟨v03.heap.size, 2, none⟩ = some (.int .i64 0)) := fun w' h => ⟨h, h.cell (by simp) (by assumption), h.cell (by simp) (by assumption), h.cell (by simp) (by assumption)⟩
  have rfS1 : Sm [v03.heap.size] W1 W1 := Sm.refl (by simp; try omega)
  go_region_held3 (fun w' => Sm [v03.heap.size] W1 w' ∧ w'.cell? ⟨v03.heap.size, 0, none⟩ = some (.int .i64 0) ∧ w'.cell? ⟨v03.heap.size, 1, none⟩ = some (.int .i64 1) ∧ w'.cell? ⟨v03.heap.size, 2, none⟩ = some (.int .i64 0)) ((refine mkS1 _ ?_; repeat' (first | (with_reducible exact rfS1.drew) | (with_reducible exact rfS1) | (with_reducible refine Sm.alloc ?_ _) | (with_reducible refine Sm.drew ?_) | (with_reducible refine Sm.below ?_ (by assumption)) | (with_reducible refine Sm.far ?_ _ _ (by simp; try omega)))))
    (first | (go_at_call 37; (with_reducible refine (A1.out _).mono ?_); rintro e v11 ⟨rfl, y11⟩) | (go_at_call 37; (with_reducible refine (B1.out _).mono ?_); rintro e v12 ⟨rfl, y12⟩) | (go_at_call 37; (with_reducible refine (C1.out _).mono ?_); rintro e v13 ⟨rfl, y13⟩))
  have s11 := y11.size
  have s12 := y12.size
  have s13 := y13.size
  simp only [World.size_alloc, World.size_drew, World.size_setCell] at s11 s12 s13
  have bv1 : Below w.heap.size w v13 := by (repeat' (first | (with_reducible assumption) | (with_reducible exact Below.refl _ _) | (with_reducible refine Below.alloc ?_ ?_ _) | (with_reducible refine Below.drew ?_) | (with_reducible refine Below.setCell ?_ ?_ _) | (with_reducible refine b_step ?_ (by assumption) ?_) | omega | (simp only [World.size_alloc, World.size_setCell, World.size_drew]; omega)))
  have zv1 := bv1.size
  go_wp2
  rw [rounds_succ]
  go_wp2_with fail
  refine gen_world (F := fun W => W.cell? ⟨v13.heap.size, 0, none⟩ = some (.int .i64 0) ∧ W.cell? ⟨v13.heap.size, 1, none⟩ = some (.int .i64 0) ∧ W.cell? ⟨v13.heap.size, 2, none⟩ = some (.int .i64 1) ∧ v13.heap.size < W.heap.size ∧ Below w.heap.size w W) (by (repeat' apply And.intro) <;> first | (simp; done) | (simp (disch := first | omega | (simp only [World.size_alloc, World.size_setCell, World.size_drew]; done) | (simp only [World.size_alloc, World.size_setCell, World.size_drew]; omega)) only [*, r_set_same, r_set_off, r_set_blk, r_set_f, r_alloc_at, r_alloc_past, r_falloc_at, r_falloc_past, World.cell?_drew, World.frozen?_drew, Option.map_some, List.getElem?_toArray, List.getElem?_cons_zero, List.getElem?_cons_succ]; done) | (repeat' (first | (with_reducible assumption) | (with_reducible exact Below.refl _ _) | (with_reducible refine Below.alloc ?_ ?_ _) | (with_reducible refine Below.drew ?_) | (with_reducible refine Below.setCell ?_ ?_ _) | (with_reducible refine b_step ?_ (by assumption) ?_) | omega | (simp only [World.size_alloc, World.size_setCell, World.size_drew]; omega)))) (fun W2 hW => ?_)
  obtain ⟨c20, c21, c22, zW2, bW2⟩ := hW
  have mkS2 : ∀ w', Sm [v13.heap.size] W2 w' → (Sm [v13.heap.size] W2 w' ∧ w'.cell? ⟨v13.heap.size, 0, none⟩ = some (.int .i64 0) ∧ w'.cell? ⟨v13.heap.size, 1, none⟩ = some (.int .i64 0) ∧ w'.cell? ⟨v13.heap.size, 2, none⟩ = some (.int .i64 1)) := fun w' h => ⟨h, h.cell (by simp) (by assumption), h.cell (by simp) (by assumption), h.cell (by simp) (by assumption)⟩
  have rfS2 : Sm [v13.heap.size] W2 W2 := Sm.refl (by simp; try omega)
  go_region_held3 (fun w' => Sm [v13.heap.size] W2 w' ∧ w'.cell? ⟨v13.heap.size, 0, none⟩ = some (.int .i64 0) ∧ w'.cell? ⟨v13.heap.size, 1, none⟩ = some (.int .i64 0) ∧ w'.cell? ⟨v13.heap.size, 2, none⟩ = some (.int .i64 1)) ((refine mkS2 _ ?_; repeat' (first | (with_reducible exact rfS2.drew) | (with_reducible exact rfS2) | (with_reducible refine Sm.alloc ?_ _) | (with_reducible refine Sm.drew ?_) | (with_reducible refine Sm.below ?_ (by assumption)) | (with_reducible refine Sm.far ?_ _ _ (by simp; try omega)))))
    (first | (go_at_call 37; (with_reducible refine (A2.out _).mono ?_); rintro e v21 ⟨rfl, y21⟩) | (go_at_call 37; (with_reducible refine (B2.out _).mono ?_); rintro e v22 ⟨rfl, y22⟩) | (go_at_call 37; (with_reducible refine (C2.out _).mono ?_); rintro e v23 ⟨rfl, y23⟩))
  have s21 := y21.size
  have s22 := y22.size
  have s23 := y23.size
  simp only [World.size_alloc, World.size_drew, World.size_setCell] at s21 s22 s23
  have bv2 : Below w.heap.size w v23 := by (repeat' (first | (with_reducible assumption) | (with_reducible exact Below.refl _ _) | (with_reducible refine Below.alloc ?_ ?_ _) | (with_reducible refine Below.drew ?_) | (with_reducible refine Below.setCell ?_ ?_ _) | (with_reducible refine b_step ?_ (by assumption) ?_) | omega | (simp only [World.size_alloc, World.size_setCell, World.size_drew]; omega)))
  have zv2 := bv2.size
  go_wp2
  rw [rounds_succ]
  go_wp2
  go_ret
  exact ⟨rfl, bv2⟩


end Go.Proofs.YtibncdefhphggaaDoor
