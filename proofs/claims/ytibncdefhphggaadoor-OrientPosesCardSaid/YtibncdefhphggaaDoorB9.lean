/- The contracts of the reference's Box, Size, Place, Allowed and Fits. -/
import Derived.Test.YtibncdefhphggaaDoorB8
import Derived.Test.YtibncdefhphggaaDoorA12
namespace Go.Proofs.YtibncdefhphggaaDoor
open Go.RowKit
set_option linter.unusedSimpArgs false
set_option linter.unusedVariables false
attribute [local go_sem ↓] Go.wp_at_zero Go.wp_at_succ

theorem rbox_c (n : Nat) (h : n < 24) (s0 s1 s2 x y z p q r : Int) (h0 : -1000000 ≤ x ∧ x ≤ 1000000) (h1 : -1000000 ≤ y ∧ y ≤ 1000000) (h2 : -1000000 ≤ z ∧ z ≤ 1000000) (h3 : -1000000 ≤ p ∧ p ≤ 1000000) (h4 : -1000000 ≤ q ∧ q ≤ 1000000) (h5 : -1000000 ≤ r ∧ r ≤ 1000000) (h6 : -1000000 ≤ s0 ∧ s0 ≤ 1000000) (h7 : -1000000 ≤ s1 ∧ s1 ≤ 1000000) (h8 : -1000000 ≤ s2 ∧ s2 ≤ 1000000) (w : World) :
    Calls Tryd.prog 19 #[vP n s0 s1 s2, vB x y z p q r] w fun e w' => e = .returned (vImg n s0 s1 s2 x y z p q r) ∧ Below w.heap.size w w' :=
  rbox_aux n s0 s1 s2 x y z p q r _ _ _ _ _ _ w (fun w => rpoint_c n h s0 s1 s2 x y z h0 h1 h2 h6 h7 h8 w) (fun w => rpoint_c n h s0 s1 s2 p q r h3 h4 h5 h6 h7 h8 w)

set_option maxHeartbeats 4000000 in
theorem rsize_aux (n : Nat) (x y z a0 a1 a2 b0 b1 b2 : Int) (w : World)
    (Hb : ∀ w, Calls Tryd.prog 19 #[vP n 0 0 0, vB 0 0 0 x y z] w fun e w' => e = .returned (vB a0 a1 a2 b0 b1 b2) ∧ Below w.heap.size w w')
    (Hm : ∀ w, Calls Tryd.prog 35 #[vV b0 b1 b2, vV a0 a1 a2] w fun e w' => e = .returned (vV (b0 - a0) (b1 - a1) (b2 - a2)) ∧ Below w.heap.size w w') :
    Calls Tryd.prog 21 #[.int .i64 n, vV x y z] w fun e w' => e = .returned (vV (b0 - a0) (b1 - a1) (b2 - a2)) ∧ Below w.heap.size w w' := by
  have K := Lib.hid Hb; clear Hb
  have M := Lib.hid Hm; clear Hm
  go_enter Tryd.func21, Tryd.ntmps21
  go_wp2_with fail
  (with_reducible refine (K.out _).mono ?_)
  rintro e t1 ⟨rfl, y1⟩
  have zy1 := y1.size
  (try simp only [World.size_alloc, World.size_setCell, World.size_drew] at zy1)
  have l1d : w.heap.size + 1 < t1.heap.size := by omega
  have d1_0 : t1.cell? ⟨w.heap.size + 1, 0, none⟩ = some (.int .i64 0) := cell_later y1 (by (simp (disch := first | omega | (simp only [World.size_alloc, World.size_setCell, World.size_drew]; done) | (simp only [World.size_alloc, World.size_setCell, World.size_drew]; omega)) only [*, r_set_same, r_set_off, r_set_blk, r_set_f, r_alloc_at, r_alloc_past, r_falloc_at, r_falloc_past, World.cell?_drew, World.frozen?_drew, Option.map_some, List.getElem?_toArray, List.getElem?_cons_zero, List.getElem?_cons_succ]; done))
  have d1_1 : t1.cell? ⟨w.heap.size + 1, 1, none⟩ = some (.int .i64 0) := cell_later y1 (by (simp (disch := first | omega | (simp only [World.size_alloc, World.size_setCell, World.size_drew]; done) | (simp only [World.size_alloc, World.size_setCell, World.size_drew]; omega)) only [*, r_set_same, r_set_off, r_set_blk, r_set_f, r_alloc_at, r_alloc_past, r_falloc_at, r_falloc_past, World.cell?_drew, World.frozen?_drew, Option.map_some, List.getElem?_toArray, List.getElem?_cons_zero, List.getElem?_cons_succ]; done))
  have d1_2 : t1.cell? ⟨w.heap.size + 1, 2, none⟩ = some (.int .i64 0) := cell_later y1 (by (simp (disch := first | omega | (simp only [World.size_alloc, World.size_setCell, World.size_drew]; done) | (simp only [World.size_alloc, World.size_setCell, World.size_drew]; omega)) only [*, r_set_same, r_set_off, r_set_blk, r_set_f, r_alloc_at, r_alloc_past, r_falloc_at, r_falloc_past, World.cell?_drew, World.frozen?_drew, Option.map_some, List.getElem?_toArray, List.getElem?_cons_zero, List.getElem?_cons_succ]; done))
  have f1_0 : t1.frozen? ⟨w.heap.size + 1, 0, none⟩ = false := f_later y1 (by (try dsimp only); first | omega | (simp only [World.size_alloc, World.size_drew, World.size_setCell]; done) | (simp only [World.size_alloc, World.size_drew, World.size_setCell]; omega)) (by (simp (disch := first | omega | (simp only [World.size_alloc, World.size_setCell, World.size_drew]; done) | (simp only [World.size_alloc, World.size_setCell, World.size_drew]; omega)) only [*, r_set_same, r_set_off, r_set_blk, r_set_f, r_alloc_at, r_alloc_past, r_falloc_at, r_falloc_past, World.cell?_drew, World.frozen?_drew, Option.map_some, List.getElem?_toArray, List.getElem?_cons_zero, List.getElem?_cons_succ]; done))
  have f1_1 : t1.frozen? ⟨w.heap.size + 1, 1, none⟩ = false := f_later y1 (by (try dsimp only); first | omega | (simp only [World.size_alloc, World.size_drew, World.size_setCell]; done) | (simp only [World.size_alloc, World.size_drew, World.size_setCell]; omega)) (by (simp (disch := first | omega | (simp only [World.size_alloc, World.size_setCell, World.size_drew]; done) | (simp only [World.size_alloc, World.size_setCell, World.size_drew]; omega)) only [*, r_set_same, r_set_off, r_set_blk, r_set_f, r_alloc_at, r_alloc_past, r_falloc_at, r_falloc_past, World.cell?_drew, World.frozen?_drew, Option.map_some, List.getElem?_toArray, List.getElem?_cons_zero, List.getElem?_cons_succ]; done))
  have f1_2 : t1.frozen? ⟨w.heap.size + 1, 2, none⟩ = false := f_later y1 (by (try dsimp only); first | omega | (simp only [World.size_alloc, World.size_drew, World.size_setCell]; done) | (simp only [World.size_alloc, World.size_drew, World.size_setCell]; omega)) (by (simp (disch := first | omega | (simp only [World.size_alloc, World.size_setCell, World.size_drew]; done) | (simp only [World.size_alloc, World.size_setCell, World.size_drew]; omega)) only [*, r_set_same, r_set_off, r_set_blk, r_set_f, r_alloc_at, r_alloc_past, r_falloc_at, r_falloc_past, World.cell?_drew, World.frozen?_drew, Option.map_some, List.getElem?_toArray, List.getElem?_cons_zero, List.getElem?_cons_succ]; done))
  go_wp2_with fail
  (with_reducible refine (M.out _).mono ?_)
  rintro e t2 ⟨rfl, y2⟩
  have zy2 := y2.size
  (try simp only [World.size_alloc, World.size_setCell, World.size_drew] at zy2)
  have l2d : w.heap.size + 1 < t2.heap.size := by omega
  have d2_0 : t2.cell? ⟨w.heap.size + 1, 0, none⟩ = some (.int .i64 0) := cell_later y2 (by (simp (disch := first | omega | (simp only [World.size_alloc, World.size_setCell, World.size_drew]; done) | (simp only [World.size_alloc, World.size_setCell, World.size_drew]; omega)) only [*, r_set_same, r_set_off, r_set_blk, r_set_f, r_alloc_at, r_alloc_past, r_falloc_at, r_falloc_past, World.cell?_drew, World.frozen?_drew, Option.map_some, List.getElem?_toArray, List.getElem?_cons_zero, List.getElem?_cons_succ]; done))
  have d2_1 : t2.cell? ⟨w.heap.size + 1, 1, none⟩ = some (.int .i64 0) := cell_later y2 (by (simp (disch := first | omega | (simp only [World.size_alloc, World.size_setCell, World.size_drew]; done) | (simp only [World.size_alloc, World.size_setCell, World.size_drew]; omega)) only [*, r_set_same, r_set_off, r_set_blk, r_set_f, r_alloc_at, r_alloc_past, r_falloc_at, r_falloc_past, World.cell?_drew, World.frozen?_drew, Option.map_some, List.getElem?_toArray, List.getElem?_cons_zero, List.getElem?_cons_succ]; done))
  have d2_2 : t2.cell? ⟨w.heap.size + 1, 2, none⟩ = some (.int .i64 0) := cell_later y2 (by (simp (disch := first | omega | (simp only [World.size_alloc, World.size_setCell, World.size_drew]; done) | (simp only [World.size_alloc, World.size_setCell, World.size_drew]; omega)) only [*, r_set_same, r_set_off, r_set_blk, r_set_f, r_alloc_at, r_alloc_past, r_falloc_at, r_falloc_past, World.cell?_drew, World.frozen?_drew, Option.map_some, List.getElem?_toArray, List.getElem?_cons_zero, List.getElem?_cons_succ]; done))
  have f2_0 : t2.frozen? ⟨w.heap.size + 1, 0, none⟩ = false := f_later y2 (by (try dsimp only); first | omega | (simp only [World.size_alloc, World.size_drew, World.size_setCell]; done) | (simp only [World.size_alloc, World.size_drew, World.size_setCell]; omega)) (by (simp (disch := first | omega | (simp only [World.size_alloc, World.size_setCell, World.size_drew]; done) | (simp only [World.size_alloc, World.size_setCell, World.size_drew]; omega)) only [*, r_set_same, r_set_off, r_set_blk, r_set_f, r_alloc_at, r_alloc_past, r_falloc_at, r_falloc_past, World.cell?_drew, World.frozen?_drew, Option.map_some, List.getElem?_toArray, List.getElem?_cons_zero, List.getElem?_cons_succ]; done))
  have f2_1 : t2.frozen? ⟨w.heap.size + 1, 1, none⟩ = false := f_later y2 (by (try dsimp only); first | omega | (simp only [World.size_alloc, World.size_drew, World.size_setCell]; done) | (simp only [World.size_alloc, World.size_drew, World.size_setCell]; omega)) (by (simp (disch := first | omega | (simp only [World.size_alloc, World.size_setCell, World.size_drew]; done) | (simp only [World.size_alloc, World.size_setCell, World.size_drew]; omega)) only [*, r_set_same, r_set_off, r_set_blk, r_set_f, r_alloc_at, r_alloc_past, r_falloc_at, r_falloc_past, World.cell?_drew, World.frozen?_drew, Option.map_some, List.getElem?_toArray, List.getElem?_cons_zero, List.getElem?_cons_succ]; done))
  have f2_2 : t2.frozen? ⟨w.heap.size + 1, 2, none⟩ = false := f_later y2 (by (try dsimp only); first | omega | (simp only [World.size_alloc, World.size_drew, World.size_setCell]; done) | (simp only [World.size_alloc, World.size_drew, World.size_setCell]; omega)) (by (simp (disch := first | omega | (simp only [World.size_alloc, World.size_setCell, World.size_drew]; done) | (simp only [World.size_alloc, World.size_setCell, World.size_drew]; omega)) only [*, r_set_same, r_set_off, r_set_blk, r_set_f, r_alloc_at, r_alloc_past, r_falloc_at, r_falloc_past, World.cell?_drew, World.frozen?_drew, Option.map_some, List.getElem?_toArray, List.getElem?_cons_zero, List.getElem?_cons_succ]; done))
  go_wp2
  refine bodyPost_ret (res_1 rfl rfl (load_V (x := (b0 - a0)) (y := (b1 - a1)) (z := (b2 - a2)) ?_ ?_ ?_)) rfl ⟨rfl, ?_⟩ <;> first | (simp (disch := first | omega | (simp only [World.size_alloc, World.size_setCell, World.size_drew]; done) | (simp only [World.size_alloc, World.size_setCell, World.size_drew]; omega)) only [*, r_set_same, r_set_off, r_set_blk, r_set_f, r_alloc_at, r_alloc_past, r_falloc_at, r_falloc_past, World.cell?_drew, World.frozen?_drew, Option.map_some, List.getElem?_toArray, List.getElem?_cons_zero, List.getElem?_cons_succ]; done) | (repeat' (first | (with_reducible assumption) | (with_reducible exact Below.refl _ _) | (with_reducible refine Below.alloc ?_ ?_ _) | (with_reducible refine Below.drew ?_) | (with_reducible refine Below.setCell ?_ ?_ _) | (with_reducible refine b_step ?_ (by assumption) ?_) | omega | (simp only [World.size_alloc, World.size_setCell, World.size_drew]; omega)))

set_option maxHeartbeats 4000000 in
theorem rplace_aux (n : Nat) (x y z t0 t1' t2' a0 a1 a2 b0 b1 b2 : Int) (w : World)
    (Hb : ∀ w, Calls Tryd.prog 19 #[vP n 0 0 0, vB 0 0 0 x y z] w fun e w' => e = .returned (vB a0 a1 a2 b0 b1 b2) ∧ Below w.heap.size w w')
    (Hm : ∀ w, Calls Tryd.prog 35 #[vV t0 t1' t2', vV a0 a1 a2] w fun e w' => e = .returned (vV (t0 - a0) (t1' - a1) (t2' - a2)) ∧ Below w.heap.size w w') :
    Calls Tryd.prog 23 #[.int .i64 n, vV x y z, vV t0 t1' t2'] w fun e w' => e = .returned (vP n (t0 - a0) (t1' - a1) (t2' - a2)) ∧ Below w.heap.size w w' := by
  have K := Lib.hid Hb; clear Hb
  have M := Lib.hid Hm; clear Hm
  go_enter Tryd.func23, Tryd.ntmps23
  go_wp2_with fail
  (with_reducible refine (K.out _).mono ?_)
  rintro e t1 ⟨rfl, y1⟩
  have zy1 := y1.size
  (try simp only [World.size_alloc, World.size_setCell, World.size_drew] at zy1)
  have l1d : w.heap.size + 1 + 1 < t1.heap.size := by omega
  have d1_0 : t1.cell? ⟨w.heap.size + 1 + 1, 0, none⟩ = some (.int .i64 0) := cell_later y1 (by (simp (disch := first | omega | (simp only [World.size_alloc, World.size_setCell, World.size_drew]; done) | (simp only [World.size_alloc, World.size_setCell, World.size_drew]; omega)) only [*, r_set_same, r_set_off, r_set_blk, r_set_f, r_alloc_at, r_alloc_past, r_falloc_at, r_falloc_past, World.cell?_drew, World.frozen?_drew, Option.map_some, List.getElem?_toArray, List.getElem?_cons_zero, List.getElem?_cons_succ]; done))
  have d1_1 : t1.cell? ⟨w.heap.size + 1 + 1, 1, none⟩ = some (.int .i64 0) := cell_later y1 (by (simp (disch := first | omega | (simp only [World.size_alloc, World.size_setCell, World.size_drew]; done) | (simp only [World.size_alloc, World.size_setCell, World.size_drew]; omega)) only [*, r_set_same, r_set_off, r_set_blk, r_set_f, r_alloc_at, r_alloc_past, r_falloc_at, r_falloc_past, World.cell?_drew, World.frozen?_drew, Option.map_some, List.getElem?_toArray, List.getElem?_cons_zero, List.getElem?_cons_succ]; done))
  have d1_2 : t1.cell? ⟨w.heap.size + 1 + 1, 2, none⟩ = some (.int .i64 0) := cell_later y1 (by (simp (disch := first | omega | (simp only [World.size_alloc, World.size_setCell, World.size_drew]; done) | (simp only [World.size_alloc, World.size_setCell, World.size_drew]; omega)) only [*, r_set_same, r_set_off, r_set_blk, r_set_f, r_alloc_at, r_alloc_past, r_falloc_at, r_falloc_past, World.cell?_drew, World.frozen?_drew, Option.map_some, List.getElem?_toArray, List.getElem?_cons_zero, List.getElem?_cons_succ]; done))
  have d1_3 : t1.cell? ⟨w.heap.size + 1 + 1, 3, none⟩ = some (.int .i64 0) := cell_later y1 (by (simp (disch := first | omega | (simp only [World.size_alloc, World.size_setCell, World.size_drew]; done) | (simp only [World.size_alloc, World.size_setCell, World.size_drew]; omega)) only [*, r_set_same, r_set_off, r_set_blk, r_set_f, r_alloc_at, r_alloc_past, r_falloc_at, r_falloc_past, World.cell?_drew, World.frozen?_drew, Option.map_some, List.getElem?_toArray, List.getElem?_cons_zero, List.getElem?_cons_succ]; done))
  have l1v : w.heap.size + 1 < t1.heap.size := by omega
  have v1_0 : t1.cell? ⟨w.heap.size + 1, 0, none⟩ = some (.int .i64 t0) := cell_later y1 (by (simp (disch := first | omega | (simp only [World.size_alloc, World.size_setCell, World.size_drew]; done) | (simp only [World.size_alloc, World.size_setCell, World.size_drew]; omega)) only [*, r_set_same, r_set_off, r_set_blk, r_set_f, r_alloc_at, r_alloc_past, r_falloc_at, r_falloc_past, World.cell?_drew, World.frozen?_drew, Option.map_some, List.getElem?_toArray, List.getElem?_cons_zero, List.getElem?_cons_succ]; done))
  have v1_1 : t1.cell? ⟨w.heap.size + 1, 1, none⟩ = some (.int .i64 t1') := cell_later y1 (by (simp (disch := first | omega | (simp only [World.size_alloc, World.size_setCell, World.size_drew]; done) | (simp only [World.size_alloc, World.size_setCell, World.size_drew]; omega)) only [*, r_set_same, r_set_off, r_set_blk, r_set_f, r_alloc_at, r_alloc_past, r_falloc_at, r_falloc_past, World.cell?_drew, World.frozen?_drew, Option.map_some, List.getElem?_toArray, List.getElem?_cons_zero, List.getElem?_cons_succ]; done))
  have v1_2 : t1.cell? ⟨w.heap.size + 1, 2, none⟩ = some (.int .i64 t2') := cell_later y1 (by (simp (disch := first | omega | (simp only [World.size_alloc, World.size_setCell, World.size_drew]; done) | (simp only [World.size_alloc, World.size_setCell, World.size_drew]; omega)) only [*, r_set_same, r_set_off, r_set_blk, r_set_f, r_alloc_at, r_alloc_past, r_falloc_at, r_falloc_past, World.cell?_drew, World.frozen?_drew, Option.map_some, List.getElem?_toArray, List.getElem?_cons_zero, List.getElem?_cons_succ]; done))
  have f1_0 : t1.frozen? ⟨w.heap.size + 1 + 1, 0, none⟩ = false := f_later y1 (by (try dsimp only); first | omega | (simp only [World.size_alloc, World.size_drew, World.size_setCell]; done) | (simp only [World.size_alloc, World.size_drew, World.size_setCell]; omega)) (by (simp (disch := first | omega | (simp only [World.size_alloc, World.size_setCell, World.size_drew]; done) | (simp only [World.size_alloc, World.size_setCell, World.size_drew]; omega)) only [*, r_set_same, r_set_off, r_set_blk, r_set_f, r_alloc_at, r_alloc_past, r_falloc_at, r_falloc_past, World.cell?_drew, World.frozen?_drew, Option.map_some, List.getElem?_toArray, List.getElem?_cons_zero, List.getElem?_cons_succ]; done))
  have f1_1 : t1.frozen? ⟨w.heap.size + 1 + 1, 1, none⟩ = false := f_later y1 (by (try dsimp only); first | omega | (simp only [World.size_alloc, World.size_drew, World.size_setCell]; done) | (simp only [World.size_alloc, World.size_drew, World.size_setCell]; omega)) (by (simp (disch := first | omega | (simp only [World.size_alloc, World.size_setCell, World.size_drew]; done) | (simp only [World.size_alloc, World.size_setCell, World.size_drew]; omega)) only [*, r_set_same, r_set_off, r_set_blk, r_set_f, r_alloc_at, r_alloc_past, r_falloc_at, r_falloc_past, World.cell?_drew, World.frozen?_drew, Option.map_some, List.getElem?_toArray, List.getElem?_cons_zero, List.getElem?_cons_succ]; done))
  have f1_2 : t1.frozen? ⟨w.heap.size + 1 + 1, 2, none⟩ = false := f_later y1 (by (try dsimp only); first | omega | (simp only [World.size_alloc, World.size_drew, World.size_setCell]; done) | (simp only [World.size_alloc, World.size_drew, World.size_setCell]; omega)) (by (simp (disch := first | omega | (simp only [World.size_alloc, World.size_setCell, World.size_drew]; done) | (simp only [World.size_alloc, World.size_setCell, World.size_drew]; omega)) only [*, r_set_same, r_set_off, r_set_blk, r_set_f, r_alloc_at, r_alloc_past, r_falloc_at, r_falloc_past, World.cell?_drew, World.frozen?_drew, Option.map_some, List.getElem?_toArray, List.getElem?_cons_zero, List.getElem?_cons_succ]; done))
  have f1_3 : t1.frozen? ⟨w.heap.size + 1 + 1, 3, none⟩ = false := f_later y1 (by (try dsimp only); first | omega | (simp only [World.size_alloc, World.size_drew, World.size_setCell]; done) | (simp only [World.size_alloc, World.size_drew, World.size_setCell]; omega)) (by (simp (disch := first | omega | (simp only [World.size_alloc, World.size_setCell, World.size_drew]; done) | (simp only [World.size_alloc, World.size_setCell, World.size_drew]; omega)) only [*, r_set_same, r_set_off, r_set_blk, r_set_f, r_alloc_at, r_alloc_past, r_falloc_at, r_falloc_past, World.cell?_drew, World.frozen?_drew, Option.map_some, List.getElem?_toArray, List.getElem?_cons_zero, List.getElem?_cons_succ]; done))
  go_wp2_with fail
  (with_reducible refine (M.out _).mono ?_)
  rintro e t2 ⟨rfl, y2⟩
  have zy2 := y2.size
  (try simp only [World.size_alloc, World.size_setCell, World.size_drew] at zy2)
  have l2d : w.heap.size + 1 + 1 < t2.heap.size := by omega
  have d2_0 : t2.cell? ⟨w.heap.size + 1 + 1, 0, none⟩ = some (.int .i64 0) := cell_later y2 (by (simp (disch := first | omega | (simp only [World.size_alloc, World.size_setCell, World.size_drew]; done) | (simp only [World.size_alloc, World.size_setCell, World.size_drew]; omega)) only [*, r_set_same, r_set_off, r_set_blk, r_set_f, r_alloc_at, r_alloc_past, r_falloc_at, r_falloc_past, World.cell?_drew, World.frozen?_drew, Option.map_some, List.getElem?_toArray, List.getElem?_cons_zero, List.getElem?_cons_succ]; done))
  have d2_1 : t2.cell? ⟨w.heap.size + 1 + 1, 1, none⟩ = some (.int .i64 0) := cell_later y2 (by (simp (disch := first | omega | (simp only [World.size_alloc, World.size_setCell, World.size_drew]; done) | (simp only [World.size_alloc, World.size_setCell, World.size_drew]; omega)) only [*, r_set_same, r_set_off, r_set_blk, r_set_f, r_alloc_at, r_alloc_past, r_falloc_at, r_falloc_past, World.cell?_drew, World.frozen?_drew, Option.map_some, List.getElem?_toArray, List.getElem?_cons_zero, List.getElem?_cons_succ]; done))
  have d2_2 : t2.cell? ⟨w.heap.size + 1 + 1, 2, none⟩ = some (.int .i64 0) := cell_later y2 (by (simp (disch := first | omega | (simp only [World.size_alloc, World.size_setCell, World.size_drew]; done) | (simp only [World.size_alloc, World.size_setCell, World.size_drew]; omega)) only [*, r_set_same, r_set_off, r_set_blk, r_set_f, r_alloc_at, r_alloc_past, r_falloc_at, r_falloc_past, World.cell?_drew, World.frozen?_drew, Option.map_some, List.getElem?_toArray, List.getElem?_cons_zero, List.getElem?_cons_succ]; done))
  have d2_3 : t2.cell? ⟨w.heap.size + 1 + 1, 3, none⟩ = some (.int .i64 0) := cell_later y2 (by (simp (disch := first | omega | (simp only [World.size_alloc, World.size_setCell, World.size_drew]; done) | (simp only [World.size_alloc, World.size_setCell, World.size_drew]; omega)) only [*, r_set_same, r_set_off, r_set_blk, r_set_f, r_alloc_at, r_alloc_past, r_falloc_at, r_falloc_past, World.cell?_drew, World.frozen?_drew, Option.map_some, List.getElem?_toArray, List.getElem?_cons_zero, List.getElem?_cons_succ]; done))
  have f2_0 : t2.frozen? ⟨w.heap.size + 1 + 1, 0, none⟩ = false := f_later y2 (by (try dsimp only); first | omega | (simp only [World.size_alloc, World.size_drew, World.size_setCell]; done) | (simp only [World.size_alloc, World.size_drew, World.size_setCell]; omega)) (by (simp (disch := first | omega | (simp only [World.size_alloc, World.size_setCell, World.size_drew]; done) | (simp only [World.size_alloc, World.size_setCell, World.size_drew]; omega)) only [*, r_set_same, r_set_off, r_set_blk, r_set_f, r_alloc_at, r_alloc_past, r_falloc_at, r_falloc_past, World.cell?_drew, World.frozen?_drew, Option.map_some, List.getElem?_toArray, List.getElem?_cons_zero, List.getElem?_cons_succ]; done))
  have f2_1 : t2.frozen? ⟨w.heap.size + 1 + 1, 1, none⟩ = false := f_later y2 (by (try dsimp only); first | omega | (simp only [World.size_alloc, World.size_drew, World.size_setCell]; done) | (simp only [World.size_alloc, World.size_drew, World.size_setCell]; omega)) (by (simp (disch := first | omega | (simp only [World.size_alloc, World.size_setCell, World.size_drew]; done) | (simp only [World.size_alloc, World.size_setCell, World.size_drew]; omega)) only [*, r_set_same, r_set_off, r_set_blk, r_set_f, r_alloc_at, r_alloc_past, r_falloc_at, r_falloc_past, World.cell?_drew, World.frozen?_drew, Option.map_some, List.getElem?_toArray, List.getElem?_cons_zero, List.getElem?_cons_succ]; done))
  have f2_2 : t2.frozen? ⟨w.heap.size + 1 + 1, 2, none⟩ = false := f_later y2 (by (try dsimp only); first | omega | (simp only [World.size_alloc, World.size_drew, World.size_setCell]; done) | (simp only [World.size_alloc, World.size_drew, World.size_setCell]; omega)) (by (simp (disch := first | omega | (simp only [World.size_alloc, World.size_setCell, World.size_drew]; done) | (simp only [World.size_alloc, World.size_setCell, World.size_drew]; omega)) only [*, r_set_same, r_set_off, r_set_blk, r_set_f, r_alloc_at, r_alloc_past, r_falloc_at, r_falloc_past, World.cell?_drew, World.frozen?_drew, Option.map_some, List.getElem?_toArray, List.getElem?_cons_zero, List.getElem?_cons_succ]; done))
  have f2_3 : t2.frozen? ⟨w.heap.size + 1 + 1, 3, none⟩ = false := f_later y2 (by (try dsimp only); first | omega | (simp only [World.size_alloc, World.size_drew, World.size_setCell]; done) | (simp only [World.size_alloc, World.size_drew, World.size_setCell]; omega)) (by (simp (disch := first | omega | (simp only [World.size_alloc, World.size_setCell, World.size_drew]; done) | (simp only [World.size_alloc, World.size_setCell, World.size_drew]; omega)) only [*, r_set_same, r_set_off, r_set_blk, r_set_f, r_alloc_at, r_alloc_past, r_falloc_at, r_falloc_past, World.cell?_drew, World.frozen?_drew, Option.map_some, List.getElem?_toArray, List.getElem?_cons_zero, List.getElem?_cons_succ]; done))
  go_wp2
  refine bodyPost_ret (res_1 rfl rfl (load_P (n := n) (x := (t0 - a0)) (y := (t1' - a1)) (z := (t2' - a2)) ?_ ?_ ?_ ?_)) rfl ⟨rfl, ?_⟩ <;> first | (simp (disch := first | omega | (simp only [World.size_alloc, World.size_setCell, World.size_drew]; done) | (simp only [World.size_alloc, World.size_setCell, World.size_drew]; omega)) only [*, r_set_same, r_set_off, r_set_blk, r_set_f, r_alloc_at, r_alloc_past, r_falloc_at, r_falloc_past, World.cell?_drew, World.frozen?_drew, Option.map_some, List.getElem?_toArray, List.getElem?_cons_zero, List.getElem?_cons_succ]; done) | (repeat' (first | (with_reducible assumption) | (with_reducible exact Below.refl _ _) | (with_reducible refine Below.alloc ?_ ?_ _) | (with_reducible refine Below.drew ?_) | (with_reducible refine Below.setCell ?_ ?_ _) | (with_reducible refine b_step ?_ (by assumption) ?_) | omega | (simp only [World.size_alloc, World.size_setCell, World.size_drew]; omega)))

/-- Which turns a bed allows, by the reference. -/
def ralB (bed c : Int) : Bool := if bed = 0 then true else if bed = 1 then decide (c ≠ 0) else if bed = 2 then decide (c = 1) else if bed = 3 then decide (c = 0) else false

set_option maxHeartbeats 1000000 in
theorem rallowed_no (bed n : Int) (h : isB n = false) (w : World) :
    Calls Tryd.prog 27 #[.int .i64 bed, .int .i64 n] w fun e w' => e = .returned (.bool false) ∧ Below w.heap.size w w' := by
  have N := Lib.hid (fun w => rIs_c n _ h w); clear h
  go_enter Tryd.func27, Tryd.ntmps27
  go_wp2_with fail
  (with_reducible refine (N.out _).mono ?_)
  rintro e t1 ⟨rfl, rfl⟩
  go_wp2
  go_ret
  exact ⟨rfl, by (repeat' (first | (with_reducible assumption) | (with_reducible exact Below.refl _ _) | (with_reducible refine Below.alloc ?_ ?_ _) | (with_reducible refine Below.drew ?_) | (with_reducible refine Below.setCell ?_ ?_ _) | (with_reducible refine b_step ?_ (by assumption) ?_) | omega | (simp only [World.size_alloc, World.size_setCell, World.size_drew]; omega)))⟩

set_option maxHeartbeats 4000000 in
theorem rallowed_aux (bed a b c : Int) (n : Nat) (h : isB n = true) (w : World)
    (Ha : ∀ w, Calls Tryd.prog 37 #[.int .i64 n, vV 0 0 1] w fun e w' => e = .returned (vV a b c) ∧ Below w.heap.size w w') :
    Calls Tryd.prog 27 #[.int .i64 bed, .int .i64 n] w fun e w' => e = .returned (.bool (ralB bed c)) ∧ Below w.heap.size w w' := by
  have N := Lib.hid (fun w => rIs_c n _ h w); clear h
  have A := Lib.hid Ha; clear Ha
  have R : Hid (∀ t, t = ralB bed c → t = (if bed = 0 then true else if bed = 1 then decide (c ≠ 0) else if bed = 2 then decide (c = 1) else if bed = 3 then decide (c = 0) else false)) := fun t ht => ht
  rcases (show bed = 0 ∨ bed = 1 ∨ bed = 2 ∨ bed = 3 ∨ (¬ bed = 0 ∧ ¬ bed = 1 ∧ ¬ bed = 2 ∧ ¬ bed = 3) by omega) with hb | hb | hb | hb | ⟨b0, b1, b2, b3⟩
  rotate_left 4
  · have e0 : (bed == 0) = false := by simpa using b0
    have e1 : (bed == 1) = false := by simpa using b1
    have e2 : (bed == 2) = false := by simpa using b2
    have e3 : (bed == 3) = false := by simpa using b3
    have hr : ralB bed c = false := by unfold ralB; rw [if_neg b0, if_neg b1, if_neg b2, if_neg b3]
    rw [hr]
    clear b0 b1 b2 b3 hr
    go_enter Tryd.func27, Tryd.ntmps27
    go_wp2_with fail
    (with_reducible refine (N.out _).mono ?_)
    rintro e t1 ⟨rfl, rfl⟩
    go_wp2_with fail
    (with_reducible refine (A.out _).mono ?_)
    rintro e t2 ⟨rfl, y2⟩
    have zy2 := y2.size
    (try simp only [World.size_alloc, World.size_setCell, World.size_drew] at zy2)
    go_wp2
    go_ret
    exact ⟨rfl, by (repeat' (first | (with_reducible assumption) | (with_reducible exact Below.refl _ _) | (with_reducible refine Below.alloc ?_ ?_ _) | (with_reducible refine Below.drew ?_) | (with_reducible refine Below.setCell ?_ ?_ _) | (with_reducible refine b_step ?_ (by assumption) ?_) | omega | (simp only [World.size_alloc, World.size_setCell, World.size_drew]; omega)))⟩
  all_goals
    subst hb
    go_enter Tryd.func27, Tryd.ntmps27
    go_wp2_with fail
    (with_reducible refine (N.out _).mono ?_)
    rintro e t1 ⟨rfl, rfl⟩
    go_wp2_with fail
    (with_reducible refine (A.out _).mono ?_)
    rintro e t2 ⟨rfl, y2⟩
    have zy2 := y2.size
    (try simp only [World.size_alloc, World.size_setCell, World.size_drew] at zy2)
    go_wp2
    go_ret
    exact ⟨ret_bool (by first | rfl | (by_cases hc : c = 0 <;> simp [ralB, hc]) | (by_cases hc : c = 1 <;> simp [ralB, hc])), by (repeat' (first | (with_reducible assumption) | (with_reducible exact Below.refl _ _) | (with_reducible refine Below.alloc ?_ ?_ _) | (with_reducible refine Below.drew ?_) | (with_reducible refine Below.setCell ?_ ?_ _) | (with_reducible refine b_step ?_ (by assumption) ?_) | omega | (simp only [World.size_alloc, World.size_setCell, World.size_drew]; omega)))⟩
theorem rallowed_c (bed : Int) (n : Nat) (h : n < 24) (w : World) :
    Calls Tryd.prog 27 #[.int .i64 bed, .int .i64 n] w fun e w' => e = .returned (.bool (ralB bed (ap n 2 0 0 1))) ∧ Below w.heap.size w w' :=
  rallowed_aux bed _ _ _ n (isB_t.2 (by omega)) w (fun w => rapply_c n h 0 0 1 (by decide) (by decide) (by decide) w)
end Go.Proofs.YtibncdefhphggaaDoor
