/- The walk of OrientGroup. -/
import Derived.Test.YtibncdefhphggaaDoorA19
import Derived.Test.YtibncdefhphggaaDoorL1
namespace Go.Proofs.YtibncdefhphggaaDoor
open Go.RowKit
set_option linter.unusedSimpArgs false
set_option linter.unusedVariables false
attribute [local go_sem ↓] Go.wp_at_zero Go.wp_at_succ


set_option maxHeartbeats 8000000 in
theorem group_1 (a b c x y z k e2 : Int) (w : World) (hu : Units w)
    (Hab : ∀ w, Calls Tryd.prog 30 #[.int .i64 a, .int .i64 b] w fun e w' => e = .returned (.tuple #[.int .i64 0, .int .i64 1]) ∧ Below w.heap.size w w')
    (Hbc : ∀ w, Calls Tryd.prog 30 #[.int .i64 b, .int .i64 c] w fun e w' => e = .returned (.tuple #[.int .i64 k, .int .i64 e2]) ∧ Below w.heap.size w w') :
    Calls Tryd.prog 5 #[.int .i64 a, .int .i64 b, .int .i64 c, vV x y z] w fun e w' => e = .returned (.bool true) ∧ Below w.heap.size w w' := by
  go_enter Tryd.func5, Tryd.ntmps5
  go_wp2_with fail
  (with_reducible refine (Hab _).mono ?_)
  rintro e t1 ⟨rfl, y1⟩
  have zy1 := y1.size
  (try simp only [World.size_alloc, World.size_setCell, World.size_drew] at zy1)
  go_wp2_with fail
  (with_reducible refine (Hbc _).mono ?_)
  rintro e t2 ⟨rfl, y2⟩
  have zy2 := y2.size
  (try simp only [World.size_alloc, World.size_setCell, World.size_drew] at zy2)
  go_wp2_with fail
  (with_reducible refine (awake_c _ (hu.later (by (repeat' (first | (with_reducible assumption) | (with_reducible exact Below.refl _ _) | (with_reducible refine Below.alloc ?_ ?_ _) | (with_reducible refine Below.drew ?_) | (with_reducible refine Below.setCell ?_ ?_ _) | (with_reducible refine b_step ?_ (by assumption) ?_) | omega | (simp only [World.size_alloc, World.size_setCell, World.size_drew]; omega)))))).mono ?_)
  rintro e t3 ⟨rfl, y3⟩
  have zy3 := y3.size
  (try simp only [World.size_alloc, World.size_setCell, World.size_drew] at zy3)
  go_wp2
  go_ret
  exact ⟨rfl, by (repeat' (first | (with_reducible assumption) | (with_reducible exact Below.refl _ _) | (with_reducible refine Below.alloc ?_ ?_ _) | (with_reducible refine Below.drew ?_) | (with_reducible refine Below.setCell ?_ ?_ _) | (with_reducible refine b_step ?_ (by assumption) ?_) | omega | (simp only [World.size_alloc, World.size_setCell, World.size_drew]; omega)))⟩

set_option maxHeartbeats 8000000 in
theorem group_2 (a b c x y z k : Int) (w : World) (hu : Units w)
    (Hab : ∀ w, Calls Tryd.prog 30 #[.int .i64 a, .int .i64 b] w fun e w' => e = .returned (.tuple #[.int .i64 k, .int .i64 0]) ∧ Below w.heap.size w w')
    (Hbc : ∀ w, Calls Tryd.prog 30 #[.int .i64 b, .int .i64 c] w fun e w' => e = .returned (.tuple #[.int .i64 0, .int .i64 1]) ∧ Below w.heap.size w w') :
    Calls Tryd.prog 5 #[.int .i64 a, .int .i64 b, .int .i64 c, vV x y z] w fun e w' => e = .returned (.bool true) ∧ Below w.heap.size w w' := by
  go_enter Tryd.func5, Tryd.ntmps5
  go_wp2_with fail
  (with_reducible refine (Hab _).mono ?_)
  rintro e t1 ⟨rfl, y1⟩
  have zy1 := y1.size
  (try simp only [World.size_alloc, World.size_setCell, World.size_drew] at zy1)
  go_wp2_with fail
  (with_reducible refine (Hbc _).mono ?_)
  rintro e t2 ⟨rfl, y2⟩
  have zy2 := y2.size
  (try simp only [World.size_alloc, World.size_setCell, World.size_drew] at zy2)
  go_wp2_with fail
  (with_reducible refine (awake_c _ (hu.later (by (repeat' (first | (with_reducible assumption) | (with_reducible exact Below.refl _ _) | (with_reducible refine Below.alloc ?_ ?_ _) | (with_reducible refine Below.drew ?_) | (with_reducible refine Below.setCell ?_ ?_ _) | (with_reducible refine b_step ?_ (by assumption) ?_) | omega | (simp only [World.size_alloc, World.size_setCell, World.size_drew]; omega)))))).mono ?_)
  rintro e t3 ⟨rfl, y3⟩
  have zy3 := y3.size
  (try simp only [World.size_alloc, World.size_setCell, World.size_drew] at zy3)
  go_wp2
  go_ret
  exact ⟨rfl, by (repeat' (first | (with_reducible assumption) | (with_reducible exact Below.refl _ _) | (with_reducible refine Below.alloc ?_ ?_ _) | (with_reducible refine Below.drew ?_) | (with_reducible refine Below.setCell ?_ ?_ _) | (with_reducible refine b_step ?_ (by assumption) ?_) | omega | (simp only [World.size_alloc, World.size_setCell, World.size_drew]; omega)))⟩

set_option maxHeartbeats 8000000 in
theorem group_3 (a b c x y z ab bc k i : Int) (w : World) (hu : Units w)
    (Hab : ∀ w, Calls Tryd.prog 30 #[.int .i64 a, .int .i64 b] w fun e w' => e = .returned (.tuple #[.int .i64 ab, .int .i64 0]) ∧ Below w.heap.size w w')
    (Hbc : ∀ w, Calls Tryd.prog 30 #[.int .i64 b, .int .i64 c] w fun e w' => e = .returned (.tuple #[.int .i64 bc, .int .i64 0]) ∧ Below w.heap.size w w')
    (Hx : ∀ w, Calls Tryd.prog 30 #[.int .i64 ab, .int .i64 c] w fun e w' => e = .returned (.tuple #[.int .i64 k, .int .i64 0]) ∧ Below w.heap.size w w')
    (Hy : ∀ w, Calls Tryd.prog 30 #[.int .i64 a, .int .i64 bc] w fun e w' => e = .returned (.tuple #[.int .i64 k, .int .i64 0]) ∧ Below w.heap.size w w')
    (Hi : ∀ w, Calls Tryd.prog 31 #[.int .i64 a] w fun e w' => e = .returned (.tuple #[.int .i64 i, .int .i64 0]) ∧ Below w.heap.size w w')
    (Ho : ∀ w, Calls Tryd.prog 30 #[.int .i64 i, .int .i64 a] w fun e w' => e = .returned (.tuple #[.int .i64 0, .int .i64 0]) ∧ Below w.heap.size w w')
    (Ht : ∀ w, Calls Tryd.prog 30 #[.int .i64 a, .int .i64 i] w fun e w' => e = .returned (.tuple #[.int .i64 0, .int .i64 0]) ∧ Below w.heap.size w w')
    (Hv : ∀ w, Calls Tryd.prog 32 #[.int .i64 b, vV x y z] w fun e w' => e = .returned (.tuple #[vV 0 0 0, .int .i64 6]) ∧ Below w.heap.size w w') :
    Calls Tryd.prog 5 #[.int .i64 a, .int .i64 b, .int .i64 c, vV x y z] w fun e w' => e = .returned (.bool true) ∧ Below w.heap.size w w' := by
  go_enter Tryd.func5, Tryd.ntmps5
  go_wp2_with fail
  (with_reducible refine (Hab _).mono ?_)
  rintro e t1 ⟨rfl, y1⟩
  have zy1 := y1.size
  (try simp only [World.size_alloc, World.size_setCell, World.size_drew] at zy1)
  have l1a : w.heap.size < t1.heap.size := by omega
  have a1_0 : t1.cell? ⟨w.heap.size, 0, none⟩ = some (.int .i64 x) := cell_later y1 (by (simp (disch := first | omega | (simp only [World.size_alloc, World.size_setCell, World.size_drew]; done) | (simp only [World.size_alloc, World.size_setCell, World.size_drew]; omega)) only [*, r_set_same, r_set_off, r_set_blk, r_set_f, r_alloc_at, r_alloc_past, r_falloc_at, r_falloc_past, World.cell?_drew, World.frozen?_drew, Option.map_some, List.getElem?_toArray, List.getElem?_cons_zero, List.getElem?_cons_succ]; done))
  have a1_1 : t1.cell? ⟨w.heap.size, 1, none⟩ = some (.int .i64 y) := cell_later y1 (by (simp (disch := first | omega | (simp only [World.size_alloc, World.size_setCell, World.size_drew]; done) | (simp only [World.size_alloc, World.size_setCell, World.size_drew]; omega)) only [*, r_set_same, r_set_off, r_set_blk, r_set_f, r_alloc_at, r_alloc_past, r_falloc_at, r_falloc_past, World.cell?_drew, World.frozen?_drew, Option.map_some, List.getElem?_toArray, List.getElem?_cons_zero, List.getElem?_cons_succ]; done))
  have a1_2 : t1.cell? ⟨w.heap.size, 2, none⟩ = some (.int .i64 z) := cell_later y1 (by (simp (disch := first | omega | (simp only [World.size_alloc, World.size_setCell, World.size_drew]; done) | (simp only [World.size_alloc, World.size_setCell, World.size_drew]; omega)) only [*, r_set_same, r_set_off, r_set_blk, r_set_f, r_alloc_at, r_alloc_past, r_falloc_at, r_falloc_past, World.cell?_drew, World.frozen?_drew, Option.map_some, List.getElem?_toArray, List.getElem?_cons_zero, List.getElem?_cons_succ]; done))
  go_wp2_with fail
  (with_reducible refine (Hbc _).mono ?_)
  rintro e t2 ⟨rfl, y2⟩
  have zy2 := y2.size
  (try simp only [World.size_alloc, World.size_setCell, World.size_drew] at zy2)
  have l2a : w.heap.size < t2.heap.size := by omega
  have a2_0 : t2.cell? ⟨w.heap.size, 0, none⟩ = some (.int .i64 x) := cell_later y2 (by (simp (disch := first | omega | (simp only [World.size_alloc, World.size_setCell, World.size_drew]; done) | (simp only [World.size_alloc, World.size_setCell, World.size_drew]; omega)) only [*, r_set_same, r_set_off, r_set_blk, r_set_f, r_alloc_at, r_alloc_past, r_falloc_at, r_falloc_past, World.cell?_drew, World.frozen?_drew, Option.map_some, List.getElem?_toArray, List.getElem?_cons_zero, List.getElem?_cons_succ]; done))
  have a2_1 : t2.cell? ⟨w.heap.size, 1, none⟩ = some (.int .i64 y) := cell_later y2 (by (simp (disch := first | omega | (simp only [World.size_alloc, World.size_setCell, World.size_drew]; done) | (simp only [World.size_alloc, World.size_setCell, World.size_drew]; omega)) only [*, r_set_same, r_set_off, r_set_blk, r_set_f, r_alloc_at, r_alloc_past, r_falloc_at, r_falloc_past, World.cell?_drew, World.frozen?_drew, Option.map_some, List.getElem?_toArray, List.getElem?_cons_zero, List.getElem?_cons_succ]; done))
  have a2_2 : t2.cell? ⟨w.heap.size, 2, none⟩ = some (.int .i64 z) := cell_later y2 (by (simp (disch := first | omega | (simp only [World.size_alloc, World.size_setCell, World.size_drew]; done) | (simp only [World.size_alloc, World.size_setCell, World.size_drew]; omega)) only [*, r_set_same, r_set_off, r_set_blk, r_set_f, r_alloc_at, r_alloc_past, r_falloc_at, r_falloc_past, World.cell?_drew, World.frozen?_drew, Option.map_some, List.getElem?_toArray, List.getElem?_cons_zero, List.getElem?_cons_succ]; done))
  go_wp2_with fail
  (with_reducible refine (Hx _).mono ?_)
  rintro e t3 ⟨rfl, y3⟩
  have zy3 := y3.size
  (try simp only [World.size_alloc, World.size_setCell, World.size_drew] at zy3)
  have l3a : w.heap.size < t3.heap.size := by omega
  have a3_0 : t3.cell? ⟨w.heap.size, 0, none⟩ = some (.int .i64 x) := cell_later y3 (by (simp (disch := first | omega | (simp only [World.size_alloc, World.size_setCell, World.size_drew]; done) | (simp only [World.size_alloc, World.size_setCell, World.size_drew]; omega)) only [*, r_set_same, r_set_off, r_set_blk, r_set_f, r_alloc_at, r_alloc_past, r_falloc_at, r_falloc_past, World.cell?_drew, World.frozen?_drew, Option.map_some, List.getElem?_toArray, List.getElem?_cons_zero, List.getElem?_cons_succ]; done))
  have a3_1 : t3.cell? ⟨w.heap.size, 1, none⟩ = some (.int .i64 y) := cell_later y3 (by (simp (disch := first | omega | (simp only [World.size_alloc, World.size_setCell, World.size_drew]; done) | (simp only [World.size_alloc, World.size_setCell, World.size_drew]; omega)) only [*, r_set_same, r_set_off, r_set_blk, r_set_f, r_alloc_at, r_alloc_past, r_falloc_at, r_falloc_past, World.cell?_drew, World.frozen?_drew, Option.map_some, List.getElem?_toArray, List.getElem?_cons_zero, List.getElem?_cons_succ]; done))
  have a3_2 : t3.cell? ⟨w.heap.size, 2, none⟩ = some (.int .i64 z) := cell_later y3 (by (simp (disch := first | omega | (simp only [World.size_alloc, World.size_setCell, World.size_drew]; done) | (simp only [World.size_alloc, World.size_setCell, World.size_drew]; omega)) only [*, r_set_same, r_set_off, r_set_blk, r_set_f, r_alloc_at, r_alloc_past, r_falloc_at, r_falloc_past, World.cell?_drew, World.frozen?_drew, Option.map_some, List.getElem?_toArray, List.getElem?_cons_zero, List.getElem?_cons_succ]; done))
  go_wp2_with fail
  (with_reducible refine (Hy _).mono ?_)
  rintro e t4 ⟨rfl, y4⟩
  have zy4 := y4.size
  (try simp only [World.size_alloc, World.size_setCell, World.size_drew] at zy4)
  have l4a : w.heap.size < t4.heap.size := by omega
  have a4_0 : t4.cell? ⟨w.heap.size, 0, none⟩ = some (.int .i64 x) := cell_later y4 (by (simp (disch := first | omega | (simp only [World.size_alloc, World.size_setCell, World.size_drew]; done) | (simp only [World.size_alloc, World.size_setCell, World.size_drew]; omega)) only [*, r_set_same, r_set_off, r_set_blk, r_set_f, r_alloc_at, r_alloc_past, r_falloc_at, r_falloc_past, World.cell?_drew, World.frozen?_drew, Option.map_some, List.getElem?_toArray, List.getElem?_cons_zero, List.getElem?_cons_succ]; done))
  have a4_1 : t4.cell? ⟨w.heap.size, 1, none⟩ = some (.int .i64 y) := cell_later y4 (by (simp (disch := first | omega | (simp only [World.size_alloc, World.size_setCell, World.size_drew]; done) | (simp only [World.size_alloc, World.size_setCell, World.size_drew]; omega)) only [*, r_set_same, r_set_off, r_set_blk, r_set_f, r_alloc_at, r_alloc_past, r_falloc_at, r_falloc_past, World.cell?_drew, World.frozen?_drew, Option.map_some, List.getElem?_toArray, List.getElem?_cons_zero, List.getElem?_cons_succ]; done))
  have a4_2 : t4.cell? ⟨w.heap.size, 2, none⟩ = some (.int .i64 z) := cell_later y4 (by (simp (disch := first | omega | (simp only [World.size_alloc, World.size_setCell, World.size_drew]; done) | (simp only [World.size_alloc, World.size_setCell, World.size_drew]; omega)) only [*, r_set_same, r_set_off, r_set_blk, r_set_f, r_alloc_at, r_alloc_past, r_falloc_at, r_falloc_past, World.cell?_drew, World.frozen?_drew, Option.map_some, List.getElem?_toArray, List.getElem?_cons_zero, List.getElem?_cons_succ]; done))
  go_wp2_with fail
  (with_reducible refine (Hi _).mono ?_)
  rintro e t5 ⟨rfl, y5⟩
  have zy5 := y5.size
  (try simp only [World.size_alloc, World.size_setCell, World.size_drew] at zy5)
  have l5a : w.heap.size < t5.heap.size := by omega
  have a5_0 : t5.cell? ⟨w.heap.size, 0, none⟩ = some (.int .i64 x) := cell_later y5 (by (simp (disch := first | omega | (simp only [World.size_alloc, World.size_setCell, World.size_drew]; done) | (simp only [World.size_alloc, World.size_setCell, World.size_drew]; omega)) only [*, r_set_same, r_set_off, r_set_blk, r_set_f, r_alloc_at, r_alloc_past, r_falloc_at, r_falloc_past, World.cell?_drew, World.frozen?_drew, Option.map_some, List.getElem?_toArray, List.getElem?_cons_zero, List.getElem?_cons_succ]; done))
  have a5_1 : t5.cell? ⟨w.heap.size, 1, none⟩ = some (.int .i64 y) := cell_later y5 (by (simp (disch := first | omega | (simp only [World.size_alloc, World.size_setCell, World.size_drew]; done) | (simp only [World.size_alloc, World.size_setCell, World.size_drew]; omega)) only [*, r_set_same, r_set_off, r_set_blk, r_set_f, r_alloc_at, r_alloc_past, r_falloc_at, r_falloc_past, World.cell?_drew, World.frozen?_drew, Option.map_some, List.getElem?_toArray, List.getElem?_cons_zero, List.getElem?_cons_succ]; done))
  have a5_2 : t5.cell? ⟨w.heap.size, 2, none⟩ = some (.int .i64 z) := cell_later y5 (by (simp (disch := first | omega | (simp only [World.size_alloc, World.size_setCell, World.size_drew]; done) | (simp only [World.size_alloc, World.size_setCell, World.size_drew]; omega)) only [*, r_set_same, r_set_off, r_set_blk, r_set_f, r_alloc_at, r_alloc_past, r_falloc_at, r_falloc_past, World.cell?_drew, World.frozen?_drew, Option.map_some, List.getElem?_toArray, List.getElem?_cons_zero, List.getElem?_cons_succ]; done))
  go_wp2_with fail
  (with_reducible refine (Ho _).mono ?_)
  rintro e t6 ⟨rfl, y6⟩
  have zy6 := y6.size
  (try simp only [World.size_alloc, World.size_setCell, World.size_drew] at zy6)
  have l6a : w.heap.size < t6.heap.size := by omega
  have a6_0 : t6.cell? ⟨w.heap.size, 0, none⟩ = some (.int .i64 x) := cell_later y6 (by (simp (disch := first | omega | (simp only [World.size_alloc, World.size_setCell, World.size_drew]; done) | (simp only [World.size_alloc, World.size_setCell, World.size_drew]; omega)) only [*, r_set_same, r_set_off, r_set_blk, r_set_f, r_alloc_at, r_alloc_past, r_falloc_at, r_falloc_past, World.cell?_drew, World.frozen?_drew, Option.map_some, List.getElem?_toArray, List.getElem?_cons_zero, List.getElem?_cons_succ]; done))
  have a6_1 : t6.cell? ⟨w.heap.size, 1, none⟩ = some (.int .i64 y) := cell_later y6 (by (simp (disch := first | omega | (simp only [World.size_alloc, World.size_setCell, World.size_drew]; done) | (simp only [World.size_alloc, World.size_setCell, World.size_drew]; omega)) only [*, r_set_same, r_set_off, r_set_blk, r_set_f, r_alloc_at, r_alloc_past, r_falloc_at, r_falloc_past, World.cell?_drew, World.frozen?_drew, Option.map_some, List.getElem?_toArray, List.getElem?_cons_zero, List.getElem?_cons_succ]; done))
  have a6_2 : t6.cell? ⟨w.heap.size, 2, none⟩ = some (.int .i64 z) := cell_later y6 (by (simp (disch := first | omega | (simp only [World.size_alloc, World.size_setCell, World.size_drew]; done) | (simp only [World.size_alloc, World.size_setCell, World.size_drew]; omega)) only [*, r_set_same, r_set_off, r_set_blk, r_set_f, r_alloc_at, r_alloc_past, r_falloc_at, r_falloc_past, World.cell?_drew, World.frozen?_drew, Option.map_some, List.getElem?_toArray, List.getElem?_cons_zero, List.getElem?_cons_succ]; done))
  go_wp2_with fail
  (with_reducible refine (Ht _).mono ?_)
  rintro e t7 ⟨rfl, y7⟩
  have zy7 := y7.size
  (try simp only [World.size_alloc, World.size_setCell, World.size_drew] at zy7)
  have l7a : w.heap.size < t7.heap.size := by omega
  have a7_0 : t7.cell? ⟨w.heap.size, 0, none⟩ = some (.int .i64 x) := cell_later y7 (by (simp (disch := first | omega | (simp only [World.size_alloc, World.size_setCell, World.size_drew]; done) | (simp only [World.size_alloc, World.size_setCell, World.size_drew]; omega)) only [*, r_set_same, r_set_off, r_set_blk, r_set_f, r_alloc_at, r_alloc_past, r_falloc_at, r_falloc_past, World.cell?_drew, World.frozen?_drew, Option.map_some, List.getElem?_toArray, List.getElem?_cons_zero, List.getElem?_cons_succ]; done))
  have a7_1 : t7.cell? ⟨w.heap.size, 1, none⟩ = some (.int .i64 y) := cell_later y7 (by (simp (disch := first | omega | (simp only [World.size_alloc, World.size_setCell, World.size_drew]; done) | (simp only [World.size_alloc, World.size_setCell, World.size_drew]; omega)) only [*, r_set_same, r_set_off, r_set_blk, r_set_f, r_alloc_at, r_alloc_past, r_falloc_at, r_falloc_past, World.cell?_drew, World.frozen?_drew, Option.map_some, List.getElem?_toArray, List.getElem?_cons_zero, List.getElem?_cons_succ]; done))
  have a7_2 : t7.cell? ⟨w.heap.size, 2, none⟩ = some (.int .i64 z) := cell_later y7 (by (simp (disch := first | omega | (simp only [World.size_alloc, World.size_setCell, World.size_drew]; done) | (simp only [World.size_alloc, World.size_setCell, World.size_drew]; omega)) only [*, r_set_same, r_set_off, r_set_blk, r_set_f, r_alloc_at, r_alloc_past, r_falloc_at, r_falloc_past, World.cell?_drew, World.frozen?_drew, Option.map_some, List.getElem?_toArray, List.getElem?_cons_zero, List.getElem?_cons_succ]; done))
  go_wp2_with fail
  (with_reducible refine (Hv _).mono ?_)
  rintro e t8 ⟨rfl, y8⟩
  have zy8 := y8.size
  (try simp only [World.size_alloc, World.size_setCell, World.size_drew] at zy8)
  have l8a : w.heap.size < t8.heap.size := by omega
  have a8_0 : t8.cell? ⟨w.heap.size, 0, none⟩ = some (.int .i64 x) := cell_later y8 (by (simp (disch := first | omega | (simp only [World.size_alloc, World.size_setCell, World.size_drew]; done) | (simp only [World.size_alloc, World.size_setCell, World.size_drew]; omega)) only [*, r_set_same, r_set_off, r_set_blk, r_set_f, r_alloc_at, r_alloc_past, r_falloc_at, r_falloc_past, World.cell?_drew, World.frozen?_drew, Option.map_some, List.getElem?_toArray, List.getElem?_cons_zero, List.getElem?_cons_succ]; done))
  have a8_1 : t8.cell? ⟨w.heap.size, 1, none⟩ = some (.int .i64 y) := cell_later y8 (by (simp (disch := first | omega | (simp only [World.size_alloc, World.size_setCell, World.size_drew]; done) | (simp only [World.size_alloc, World.size_setCell, World.size_drew]; omega)) only [*, r_set_same, r_set_off, r_set_blk, r_set_f, r_alloc_at, r_alloc_past, r_falloc_at, r_falloc_past, World.cell?_drew, World.frozen?_drew, Option.map_some, List.getElem?_toArray, List.getElem?_cons_zero, List.getElem?_cons_succ]; done))
  have a8_2 : t8.cell? ⟨w.heap.size, 2, none⟩ = some (.int .i64 z) := cell_later y8 (by (simp (disch := first | omega | (simp only [World.size_alloc, World.size_setCell, World.size_drew]; done) | (simp only [World.size_alloc, World.size_setCell, World.size_drew]; omega)) only [*, r_set_same, r_set_off, r_set_blk, r_set_f, r_alloc_at, r_alloc_past, r_falloc_at, r_falloc_past, World.cell?_drew, World.frozen?_drew, Option.map_some, List.getElem?_toArray, List.getElem?_cons_zero, List.getElem?_cons_succ]; done))
  go_wp2_with fail
  (with_reducible refine (awake_c _ (hu.later (by (repeat' (first | (with_reducible assumption) | (with_reducible exact Below.refl _ _) | (with_reducible refine Below.alloc ?_ ?_ _) | (with_reducible refine Below.drew ?_) | (with_reducible refine Below.setCell ?_ ?_ _) | (with_reducible refine b_step ?_ (by assumption) ?_) | omega | (simp only [World.size_alloc, World.size_setCell, World.size_drew]; omega)))))).mono ?_)
  rintro e t9 ⟨rfl, y9⟩
  have zy9 := y9.size
  (try simp only [World.size_alloc, World.size_setCell, World.size_drew] at zy9)
  go_wp2
  go_ret
  exact ⟨rfl, by (repeat' (first | (with_reducible assumption) | (with_reducible exact Below.refl _ _) | (with_reducible refine Below.alloc ?_ ?_ _) | (with_reducible refine Below.drew ?_) | (with_reducible refine Below.setCell ?_ ?_ _) | (with_reducible refine b_step ?_ (by assumption) ?_) | omega | (simp only [World.size_alloc, World.size_setCell, World.size_drew]; omega)))⟩

set_option maxHeartbeats 8000000 in
theorem group_4 (a b c x y z ab bc k i v0 v1 v2 u0 u1 u2 : Int) (w : World) (hu : Units w)
    (Hab : ∀ w, Calls Tryd.prog 30 #[.int .i64 a, .int .i64 b] w fun e w' => e = .returned (.tuple #[.int .i64 ab, .int .i64 0]) ∧ Below w.heap.size w w')
    (Hbc : ∀ w, Calls Tryd.prog 30 #[.int .i64 b, .int .i64 c] w fun e w' => e = .returned (.tuple #[.int .i64 bc, .int .i64 0]) ∧ Below w.heap.size w w')
    (Hx : ∀ w, Calls Tryd.prog 30 #[.int .i64 ab, .int .i64 c] w fun e w' => e = .returned (.tuple #[.int .i64 k, .int .i64 0]) ∧ Below w.heap.size w w')
    (Hy : ∀ w, Calls Tryd.prog 30 #[.int .i64 a, .int .i64 bc] w fun e w' => e = .returned (.tuple #[.int .i64 k, .int .i64 0]) ∧ Below w.heap.size w w')
    (Hi : ∀ w, Calls Tryd.prog 31 #[.int .i64 a] w fun e w' => e = .returned (.tuple #[.int .i64 i, .int .i64 0]) ∧ Below w.heap.size w w')
    (Ho : ∀ w, Calls Tryd.prog 30 #[.int .i64 i, .int .i64 a] w fun e w' => e = .returned (.tuple #[.int .i64 0, .int .i64 0]) ∧ Below w.heap.size w w')
    (Ht : ∀ w, Calls Tryd.prog 30 #[.int .i64 a, .int .i64 i] w fun e w' => e = .returned (.tuple #[.int .i64 0, .int .i64 0]) ∧ Below w.heap.size w w')
    (Hv : ∀ w, Calls Tryd.prog 32 #[.int .i64 b, vV x y z] w fun e w' => e = .returned (.tuple #[vV v0 v1 v2, .int .i64 0]) ∧ Below w.heap.size w w')
    (Hw : ∀ w, Calls Tryd.prog 32 #[.int .i64 a, vV v0 v1 v2] w fun e w' => e = .returned (.tuple #[vV u0 u1 u2, .int .i64 0]) ∧ Below w.heap.size w w')
    (Hu : ∀ w, Calls Tryd.prog 32 #[.int .i64 ab, vV x y z] w fun e w' => e = .returned (.tuple #[vV u0 u1 u2, .int .i64 0]) ∧ Below w.heap.size w w') :
    Calls Tryd.prog 5 #[.int .i64 a, .int .i64 b, .int .i64 c, vV x y z] w fun e w' => e = .returned (.bool true) ∧ Below w.heap.size w w' := by
  go_enter Tryd.func5, Tryd.ntmps5
  go_wp2_with fail
  (with_reducible refine (Hab _).mono ?_)
  rintro e t1 ⟨rfl, y1⟩
  have zy1 := y1.size
  (try simp only [World.size_alloc, World.size_setCell, World.size_drew] at zy1)
  have l1a : w.heap.size < t1.heap.size := by omega
  have a1_0 : t1.cell? ⟨w.heap.size, 0, none⟩ = some (.int .i64 x) := cell_later y1 (by (simp (disch := first | omega | (simp only [World.size_alloc, World.size_setCell, World.size_drew]; done) | (simp only [World.size_alloc, World.size_setCell, World.size_drew]; omega)) only [*, r_set_same, r_set_off, r_set_blk, r_set_f, r_alloc_at, r_alloc_past, r_falloc_at, r_falloc_past, World.cell?_drew, World.frozen?_drew, Option.map_some, List.getElem?_toArray, List.getElem?_cons_zero, List.getElem?_cons_succ]; done))
  have a1_1 : t1.cell? ⟨w.heap.size, 1, none⟩ = some (.int .i64 y) := cell_later y1 (by (simp (disch := first | omega | (simp only [World.size_alloc, World.size_setCell, World.size_drew]; done) | (simp only [World.size_alloc, World.size_setCell, World.size_drew]; omega)) only [*, r_set_same, r_set_off, r_set_blk, r_set_f, r_alloc_at, r_alloc_past, r_falloc_at, r_falloc_past, World.cell?_drew, World.frozen?_drew, Option.map_some, List.getElem?_toArray, List.getElem?_cons_zero, List.getElem?_cons_succ]; done))
  have a1_2 : t1.cell? ⟨w.heap.size, 2, none⟩ = some (.int .i64 z) := cell_later y1 (by (simp (disch := first | omega | (simp only [World.size_alloc, World.size_setCell, World.size_drew]; done) | (simp only [World.size_alloc, World.size_setCell, World.size_drew]; omega)) only [*, r_set_same, r_set_off, r_set_blk, r_set_f, r_alloc_at, r_alloc_past, r_falloc_at, r_falloc_past, World.cell?_drew, World.frozen?_drew, Option.map_some, List.getElem?_toArray, List.getElem?_cons_zero, List.getElem?_cons_succ]; done))
  go_wp2_with fail
  (with_reducible refine (Hbc _).mono ?_)
  rintro e t2 ⟨rfl, y2⟩
  have zy2 := y2.size
  (try simp only [World.size_alloc, World.size_setCell, World.size_drew] at zy2)
  have l2a : w.heap.size < t2.heap.size := by omega
  have a2_0 : t2.cell? ⟨w.heap.size, 0, none⟩ = some (.int .i64 x) := cell_later y2 (by (simp (disch := first | omega | (simp only [World.size_alloc, World.size_setCell, World.size_drew]; done) | (simp only [World.size_alloc, World.size_setCell, World.size_drew]; omega)) only [*, r_set_same, r_set_off, r_set_blk, r_set_f, r_alloc_at, r_alloc_past, r_falloc_at, r_falloc_past, World.cell?_drew, World.frozen?_drew, Option.map_some, List.getElem?_toArray, List.getElem?_cons_zero, List.getElem?_cons_succ]; done))
  have a2_1 : t2.cell? ⟨w.heap.size, 1, none⟩ = some (.int .i64 y) := cell_later y2 (by (simp (disch := first | omega | (simp only [World.size_alloc, World.size_setCell, World.size_drew]; done) | (simp only [World.size_alloc, World.size_setCell, World.size_drew]; omega)) only [*, r_set_same, r_set_off, r_set_blk, r_set_f, r_alloc_at, r_alloc_past, r_falloc_at, r_falloc_past, World.cell?_drew, World.frozen?_drew, Option.map_some, List.getElem?_toArray, List.getElem?_cons_zero, List.getElem?_cons_succ]; done))
  have a2_2 : t2.cell? ⟨w.heap.size, 2, none⟩ = some (.int .i64 z) := cell_later y2 (by (simp (disch := first | omega | (simp only [World.size_alloc, World.size_setCell, World.size_drew]; done) | (simp only [World.size_alloc, World.size_setCell, World.size_drew]; omega)) only [*, r_set_same, r_set_off, r_set_blk, r_set_f, r_alloc_at, r_alloc_past, r_falloc_at, r_falloc_past, World.cell?_drew, World.frozen?_drew, Option.map_some, List.getElem?_toArray, List.getElem?_cons_zero, List.getElem?_cons_succ]; done))
  go_wp2_with fail
  (with_reducible refine (Hx _).mono ?_)
  rintro e t3 ⟨rfl, y3⟩
  have zy3 := y3.size
  (try simp only [World.size_alloc, World.size_setCell, World.size_drew] at zy3)
  have l3a : w.heap.size < t3.heap.size := by omega
  have a3_0 : t3.cell? ⟨w.heap.size, 0, none⟩ = some (.int .i64 x) := cell_later y3 (by (simp (disch := first | omega | (simp only [World.size_alloc, World.size_setCell, World.size_drew]; done) | (simp only [World.size_alloc, World.size_setCell, World.size_drew]; omega)) only [*, r_set_same, r_set_off, r_set_blk, r_set_f, r_alloc_at, r_alloc_past, r_falloc_at, r_falloc_past, World.cell?_drew, World.frozen?_drew, Option.map_some, List.getElem?_toArray, List.getElem?_cons_zero, List.getElem?_cons_succ]; done))
  have a3_1 : t3.cell? ⟨w.heap.size, 1, none⟩ = some (.int .i64 y) := cell_later y3 (by (simp (disch := first | omega | (simp only [World.size_alloc, World.size_setCell, World.size_drew]; done) | (simp only [World.size_alloc, World.size_setCell, World.size_drew]; omega)) only [*, r_set_same, r_set_off, r_set_blk, r_set_f, r_alloc_at, r_alloc_past, r_falloc_at, r_falloc_past, World.cell?_drew, World.frozen?_drew, Option.map_some, List.getElem?_toArray, List.getElem?_cons_zero, List.getElem?_cons_succ]; done))
  have a3_2 : t3.cell? ⟨w.heap.size, 2, none⟩ = some (.int .i64 z) := cell_later y3 (by (simp (disch := first | omega | (simp only [World.size_alloc, World.size_setCell, World.size_drew]; done) | (simp only [World.size_alloc, World.size_setCell, World.size_drew]; omega)) only [*, r_set_same, r_set_off, r_set_blk, r_set_f, r_alloc_at, r_alloc_past, r_falloc_at, r_falloc_past, World.cell?_drew, World.frozen?_drew, Option.map_some, List.getElem?_toArray, List.getElem?_cons_zero, List.getElem?_cons_succ]; done))
  go_wp2_with fail
  (with_reducible refine (Hy _).mono ?_)
  rintro e t4 ⟨rfl, y4⟩
  have zy4 := y4.size
  (try simp only [World.size_alloc, World.size_setCell, World.size_drew] at zy4)
  have l4a : w.heap.size < t4.heap.size := by omega
  have a4_0 : t4.cell? ⟨w.heap.size, 0, none⟩ = some (.int .i64 x) := cell_later y4 (by (simp (disch := first | omega | (simp only [World.size_alloc, World.size_setCell, World.size_drew]; done) | (simp only [World.size_alloc, World.size_setCell, World.size_drew]; omega)) only [*, r_set_same, r_set_off, r_set_blk, r_set_f, r_alloc_at, r_alloc_past, r_falloc_at, r_falloc_past, World.cell?_drew, World.frozen?_drew, Option.map_some, List.getElem?_toArray, List.getElem?_cons_zero, List.getElem?_cons_succ]; done))
  have a4_1 : t4.cell? ⟨w.heap.size, 1, none⟩ = some (.int .i64 y) := cell_later y4 (by (simp (disch := first | omega | (simp only [World.size_alloc, World.size_setCell, World.size_drew]; done) | (simp only [World.size_alloc, World.size_setCell, World.size_drew]; omega)) only [*, r_set_same, r_set_off, r_set_blk, r_set_f, r_alloc_at, r_alloc_past, r_falloc_at, r_falloc_past, World.cell?_drew, World.frozen?_drew, Option.map_some, List.getElem?_toArray, List.getElem?_cons_zero, List.getElem?_cons_succ]; done))
  have a4_2 : t4.cell? ⟨w.heap.size, 2, none⟩ = some (.int .i64 z) := cell_later y4 (by (simp (disch := first | omega | (simp only [World.size_alloc, World.size_setCell, World.size_drew]; done) | (simp only [World.size_alloc, World.size_setCell, World.size_drew]; omega)) only [*, r_set_same, r_set_off, r_set_blk, r_set_f, r_alloc_at, r_alloc_past, r_falloc_at, r_falloc_past, World.cell?_drew, World.frozen?_drew, Option.map_some, List.getElem?_toArray, List.getElem?_cons_zero, List.getElem?_cons_succ]; done))
  go_wp2_with fail
  (with_reducible refine (Hi _).mono ?_)
  rintro e t5 ⟨rfl, y5⟩
  have zy5 := y5.size
  (try simp only [World.size_alloc, World.size_setCell, World.size_drew] at zy5)
  have l5a : w.heap.size < t5.heap.size := by omega
  have a5_0 : t5.cell? ⟨w.heap.size, 0, none⟩ = some (.int .i64 x) := cell_later y5 (by (simp (disch := first | omega | (simp only [World.size_alloc, World.size_setCell, World.size_drew]; done) | (simp only [World.size_alloc, World.size_setCell, World.size_drew]; omega)) only [*, r_set_same, r_set_off, r_set_blk, r_set_f, r_alloc_at, r_alloc_past, r_falloc_at, r_falloc_past, World.cell?_drew, World.frozen?_drew, Option.map_some, List.getElem?_toArray, List.getElem?_cons_zero, List.getElem?_cons_succ]; done))
  have a5_1 : t5.cell? ⟨w.heap.size, 1, none⟩ = some (.int .i64 y) := cell_later y5 (by (simp (disch := first | omega | (simp only [World.size_alloc, World.size_setCell, World.size_drew]; done) | (simp only [World.size_alloc, World.size_setCell, World.size_drew]; omega)) only [*, r_set_same, r_set_off, r_set_blk, r_set_f, r_alloc_at, r_alloc_past, r_falloc_at, r_falloc_past, World.cell?_drew, World.frozen?_drew, Option.map_some, List.getElem?_toArray, List.getElem?_cons_zero, List.getElem?_cons_succ]; done))
  have a5_2 : t5.cell? ⟨w.heap.size, 2, none⟩ = some (.int .i64 z) := cell_later y5 (by (simp (disch := first | omega | (simp only [World.size_alloc, World.size_setCell, World.size_drew]; done) | (simp only [World.size_alloc, World.size_setCell, World.size_drew]; omega)) only [*, r_set_same, r_set_off, r_set_blk, r_set_f, r_alloc_at, r_alloc_past, r_falloc_at, r_falloc_past, World.cell?_drew, World.frozen?_drew, Option.map_some, List.getElem?_toArray, List.getElem?_cons_zero, List.getElem?_cons_succ]; done))
  go_wp2_with fail
  (with_reducible refine (Ho _).mono ?_)
  rintro e t6 ⟨rfl, y6⟩
  have zy6 := y6.size
  (try simp only [World.size_alloc, World.size_setCell, World.size_drew] at zy6)
  have l6a : w.heap.size < t6.heap.size := by omega
  have a6_0 : t6.cell? ⟨w.heap.size, 0, none⟩ = some (.int .i64 x) := cell_later y6 (by (simp (disch := first | omega | (simp only [World.size_alloc, World.size_setCell, World.size_drew]; done) | (simp only [World.size_alloc, World.size_setCell, World.size_drew]; omega)) only [*, r_set_same, r_set_off, r_set_blk, r_set_f, r_alloc_at, r_alloc_past, r_falloc_at, r_falloc_past, World.cell?_drew, World.frozen?_drew, Option.map_some, List.getElem?_toArray, List.getElem?_cons_zero, List.getElem?_cons_succ]; done))
  have a6_1 : t6.cell? ⟨w.heap.size, 1, none⟩ = some (.int .i64 y) := cell_later y6 (by (simp (disch := first | omega | (simp only [World.size_alloc, World.size_setCell, World.size_drew]; done) | (simp only [World.size_alloc, World.size_setCell, World.size_drew]; omega)) only [*, r_set_same, r_set_off, r_set_blk, r_set_f, r_alloc_at, r_alloc_past, r_falloc_at, r_falloc_past, World.cell?_drew, World.frozen?_drew, Option.map_some, List.getElem?_toArray, List.getElem?_cons_zero, List.getElem?_cons_succ]; done))
  have a6_2 : t6.cell? ⟨w.heap.size, 2, none⟩ = some (.int .i64 z) := cell_later y6 (by (simp (disch := first | omega | (simp only [World.size_alloc, World.size_setCell, World.size_drew]; done) | (simp only [World.size_alloc, World.size_setCell, World.size_drew]; omega)) only [*, r_set_same, r_set_off, r_set_blk, r_set_f, r_alloc_at, r_alloc_past, r_falloc_at, r_falloc_past, World.cell?_drew, World.frozen?_drew, Option.map_some, List.getElem?_toArray, List.getElem?_cons_zero, List.getElem?_cons_succ]; done))
  go_wp2_with fail
  (with_reducible refine (Ht _).mono ?_)
  rintro e t7 ⟨rfl, y7⟩
  have zy7 := y7.size
  (try simp only [World.size_alloc, World.size_setCell, World.size_drew] at zy7)
  have l7a : w.heap.size < t7.heap.size := by omega
  have a7_0 : t7.cell? ⟨w.heap.size, 0, none⟩ = some (.int .i64 x) := cell_later y7 (by (simp (disch := first | omega | (simp only [World.size_alloc, World.size_setCell, World.size_drew]; done) | (simp only [World.size_alloc, World.size_setCell, World.size_drew]; omega)) only [*, r_set_same, r_set_off, r_set_blk, r_set_f, r_alloc_at, r_alloc_past, r_falloc_at, r_falloc_past, World.cell?_drew, World.frozen?_drew, Option.map_some, List.getElem?_toArray, List.getElem?_cons_zero, List.getElem?_cons_succ]; done))
  have a7_1 : t7.cell? ⟨w.heap.size, 1, none⟩ = some (.int .i64 y) := cell_later y7 (by (simp (disch := first | omega | (simp only [World.size_alloc, World.size_setCell, World.size_drew]; done) | (simp only [World.size_alloc, World.size_setCell, World.size_drew]; omega)) only [*, r_set_same, r_set_off, r_set_blk, r_set_f, r_alloc_at, r_alloc_past, r_falloc_at, r_falloc_past, World.cell?_drew, World.frozen?_drew, Option.map_some, List.getElem?_toArray, List.getElem?_cons_zero, List.getElem?_cons_succ]; done))
  have a7_2 : t7.cell? ⟨w.heap.size, 2, none⟩ = some (.int .i64 z) := cell_later y7 (by (simp (disch := first | omega | (simp only [World.size_alloc, World.size_setCell, World.size_drew]; done) | (simp only [World.size_alloc, World.size_setCell, World.size_drew]; omega)) only [*, r_set_same, r_set_off, r_set_blk, r_set_f, r_alloc_at, r_alloc_past, r_falloc_at, r_falloc_past, World.cell?_drew, World.frozen?_drew, Option.map_some, List.getElem?_toArray, List.getElem?_cons_zero, List.getElem?_cons_succ]; done))
  go_wp2_with fail
  (with_reducible refine (Hv _).mono ?_)
  rintro e t8 ⟨rfl, y8⟩
  have zy8 := y8.size
  (try simp only [World.size_alloc, World.size_setCell, World.size_drew] at zy8)
  have l8a : w.heap.size < t8.heap.size := by omega
  have a8_0 : t8.cell? ⟨w.heap.size, 0, none⟩ = some (.int .i64 x) := cell_later y8 (by (simp (disch := first | omega | (simp only [World.size_alloc, World.size_setCell, World.size_drew]; done) | (simp only [World.size_alloc, World.size_setCell, World.size_drew]; omega)) only [*, r_set_same, r_set_off, r_set_blk, r_set_f, r_alloc_at, r_alloc_past, r_falloc_at, r_falloc_past, World.cell?_drew, World.frozen?_drew, Option.map_some, List.getElem?_toArray, List.getElem?_cons_zero, List.getElem?_cons_succ]; done))
  have a8_1 : t8.cell? ⟨w.heap.size, 1, none⟩ = some (.int .i64 y) := cell_later y8 (by (simp (disch := first | omega | (simp only [World.size_alloc, World.size_setCell, World.size_drew]; done) | (simp only [World.size_alloc, World.size_setCell, World.size_drew]; omega)) only [*, r_set_same, r_set_off, r_set_blk, r_set_f, r_alloc_at, r_alloc_past, r_falloc_at, r_falloc_past, World.cell?_drew, World.frozen?_drew, Option.map_some, List.getElem?_toArray, List.getElem?_cons_zero, List.getElem?_cons_succ]; done))
  have a8_2 : t8.cell? ⟨w.heap.size, 2, none⟩ = some (.int .i64 z) := cell_later y8 (by (simp (disch := first | omega | (simp only [World.size_alloc, World.size_setCell, World.size_drew]; done) | (simp only [World.size_alloc, World.size_setCell, World.size_drew]; omega)) only [*, r_set_same, r_set_off, r_set_blk, r_set_f, r_alloc_at, r_alloc_past, r_falloc_at, r_falloc_past, World.cell?_drew, World.frozen?_drew, Option.map_some, List.getElem?_toArray, List.getElem?_cons_zero, List.getElem?_cons_succ]; done))
  go_wp2_with fail
  (with_reducible refine (Hw _).mono ?_)
  rintro e t9 ⟨rfl, y9⟩
  have zy9 := y9.size
  (try simp only [World.size_alloc, World.size_setCell, World.size_drew] at zy9)
  have l9a : w.heap.size < t9.heap.size := by omega
  have a9_0 : t9.cell? ⟨w.heap.size, 0, none⟩ = some (.int .i64 x) := cell_later y9 (by (simp (disch := first | omega | (simp only [World.size_alloc, World.size_setCell, World.size_drew]; done) | (simp only [World.size_alloc, World.size_setCell, World.size_drew]; omega)) only [*, r_set_same, r_set_off, r_set_blk, r_set_f, r_alloc_at, r_alloc_past, r_falloc_at, r_falloc_past, World.cell?_drew, World.frozen?_drew, Option.map_some, List.getElem?_toArray, List.getElem?_cons_zero, List.getElem?_cons_succ]; done))
  have a9_1 : t9.cell? ⟨w.heap.size, 1, none⟩ = some (.int .i64 y) := cell_later y9 (by (simp (disch := first | omega | (simp only [World.size_alloc, World.size_setCell, World.size_drew]; done) | (simp only [World.size_alloc, World.size_setCell, World.size_drew]; omega)) only [*, r_set_same, r_set_off, r_set_blk, r_set_f, r_alloc_at, r_alloc_past, r_falloc_at, r_falloc_past, World.cell?_drew, World.frozen?_drew, Option.map_some, List.getElem?_toArray, List.getElem?_cons_zero, List.getElem?_cons_succ]; done))
  have a9_2 : t9.cell? ⟨w.heap.size, 2, none⟩ = some (.int .i64 z) := cell_later y9 (by (simp (disch := first | omega | (simp only [World.size_alloc, World.size_setCell, World.size_drew]; done) | (simp only [World.size_alloc, World.size_setCell, World.size_drew]; omega)) only [*, r_set_same, r_set_off, r_set_blk, r_set_f, r_alloc_at, r_alloc_past, r_falloc_at, r_falloc_past, World.cell?_drew, World.frozen?_drew, Option.map_some, List.getElem?_toArray, List.getElem?_cons_zero, List.getElem?_cons_succ]; done))
  have l9v : t8.heap.size < t9.heap.size := by omega
  have v9_0 : t9.cell? ⟨t8.heap.size, 0, none⟩ = some (.int .i64 v0) := cell_later y9 (by (simp (disch := first | omega | (simp only [World.size_alloc, World.size_setCell, World.size_drew]; done) | (simp only [World.size_alloc, World.size_setCell, World.size_drew]; omega)) only [*, r_set_same, r_set_off, r_set_blk, r_set_f, r_alloc_at, r_alloc_past, r_falloc_at, r_falloc_past, World.cell?_drew, World.frozen?_drew, Option.map_some, List.getElem?_toArray, List.getElem?_cons_zero, List.getElem?_cons_succ]; done))
  have v9_1 : t9.cell? ⟨t8.heap.size, 1, none⟩ = some (.int .i64 v1) := cell_later y9 (by (simp (disch := first | omega | (simp only [World.size_alloc, World.size_setCell, World.size_drew]; done) | (simp only [World.size_alloc, World.size_setCell, World.size_drew]; omega)) only [*, r_set_same, r_set_off, r_set_blk, r_set_f, r_alloc_at, r_alloc_past, r_falloc_at, r_falloc_past, World.cell?_drew, World.frozen?_drew, Option.map_some, List.getElem?_toArray, List.getElem?_cons_zero, List.getElem?_cons_succ]; done))
  have v9_2 : t9.cell? ⟨t8.heap.size, 2, none⟩ = some (.int .i64 v2) := cell_later y9 (by (simp (disch := first | omega | (simp only [World.size_alloc, World.size_setCell, World.size_drew]; done) | (simp only [World.size_alloc, World.size_setCell, World.size_drew]; omega)) only [*, r_set_same, r_set_off, r_set_blk, r_set_f, r_alloc_at, r_alloc_past, r_falloc_at, r_falloc_past, World.cell?_drew, World.frozen?_drew, Option.map_some, List.getElem?_toArray, List.getElem?_cons_zero, List.getElem?_cons_succ]; done))
  go_wp2_with fail
  (with_reducible refine (Hu _).mono ?_)
  rintro e t10 ⟨rfl, y10⟩
  have zy10 := y10.size
  (try simp only [World.size_alloc, World.size_setCell, World.size_drew] at zy10)
  have l10u : t9.heap.size < t10.heap.size := by omega
  have u10_0 : t10.cell? ⟨t9.heap.size, 0, none⟩ = some (.int .i64 u0) := cell_later y10 (by (simp (disch := first | omega | (simp only [World.size_alloc, World.size_setCell, World.size_drew]; done) | (simp only [World.size_alloc, World.size_setCell, World.size_drew]; omega)) only [*, r_set_same, r_set_off, r_set_blk, r_set_f, r_alloc_at, r_alloc_past, r_falloc_at, r_falloc_past, World.cell?_drew, World.frozen?_drew, Option.map_some, List.getElem?_toArray, List.getElem?_cons_zero, List.getElem?_cons_succ]; done))
  have u10_1 : t10.cell? ⟨t9.heap.size, 1, none⟩ = some (.int .i64 u1) := cell_later y10 (by (simp (disch := first | omega | (simp only [World.size_alloc, World.size_setCell, World.size_drew]; done) | (simp only [World.size_alloc, World.size_setCell, World.size_drew]; omega)) only [*, r_set_same, r_set_off, r_set_blk, r_set_f, r_alloc_at, r_alloc_past, r_falloc_at, r_falloc_past, World.cell?_drew, World.frozen?_drew, Option.map_some, List.getElem?_toArray, List.getElem?_cons_zero, List.getElem?_cons_succ]; done))
  have u10_2 : t10.cell? ⟨t9.heap.size, 2, none⟩ = some (.int .i64 u2) := cell_later y10 (by (simp (disch := first | omega | (simp only [World.size_alloc, World.size_setCell, World.size_drew]; done) | (simp only [World.size_alloc, World.size_setCell, World.size_drew]; omega)) only [*, r_set_same, r_set_off, r_set_blk, r_set_f, r_alloc_at, r_alloc_past, r_falloc_at, r_falloc_past, World.cell?_drew, World.frozen?_drew, Option.map_some, List.getElem?_toArray, List.getElem?_cons_zero, List.getElem?_cons_succ]; done))
  go_wp2_with fail
  (with_reducible refine (awake_c _ (hu.later (by (repeat' (first | (with_reducible assumption) | (with_reducible exact Below.refl _ _) | (with_reducible refine Below.alloc ?_ ?_ _) | (with_reducible refine Below.drew ?_) | (with_reducible refine Below.setCell ?_ ?_ _) | (with_reducible refine b_step ?_ (by assumption) ?_) | omega | (simp only [World.size_alloc, World.size_setCell, World.size_drew]; omega)))))).mono ?_)
  rintro e t11 ⟨rfl, y11⟩
  have zy11 := y11.size
  (try simp only [World.size_alloc, World.size_setCell, World.size_drew] at zy11)
  have l11u : t9.heap.size < t11.heap.size := by omega
  have u11_0 : t11.cell? ⟨t9.heap.size, 0, none⟩ = some (.int .i64 u0) := cell_later y11 (by (simp (disch := first | omega | (simp only [World.size_alloc, World.size_setCell, World.size_drew]; done) | (simp only [World.size_alloc, World.size_setCell, World.size_drew]; omega)) only [*, r_set_same, r_set_off, r_set_blk, r_set_f, r_alloc_at, r_alloc_past, r_falloc_at, r_falloc_past, World.cell?_drew, World.frozen?_drew, Option.map_some, List.getElem?_toArray, List.getElem?_cons_zero, List.getElem?_cons_succ]; done))
  have u11_1 : t11.cell? ⟨t9.heap.size, 1, none⟩ = some (.int .i64 u1) := cell_later y11 (by (simp (disch := first | omega | (simp only [World.size_alloc, World.size_setCell, World.size_drew]; done) | (simp only [World.size_alloc, World.size_setCell, World.size_drew]; omega)) only [*, r_set_same, r_set_off, r_set_blk, r_set_f, r_alloc_at, r_alloc_past, r_falloc_at, r_falloc_past, World.cell?_drew, World.frozen?_drew, Option.map_some, List.getElem?_toArray, List.getElem?_cons_zero, List.getElem?_cons_succ]; done))
  have u11_2 : t11.cell? ⟨t9.heap.size, 2, none⟩ = some (.int .i64 u2) := cell_later y11 (by (simp (disch := first | omega | (simp only [World.size_alloc, World.size_setCell, World.size_drew]; done) | (simp only [World.size_alloc, World.size_setCell, World.size_drew]; omega)) only [*, r_set_same, r_set_off, r_set_blk, r_set_f, r_alloc_at, r_alloc_past, r_falloc_at, r_falloc_past, World.cell?_drew, World.frozen?_drew, Option.map_some, List.getElem?_toArray, List.getElem?_cons_zero, List.getElem?_cons_succ]; done))
  have l11s : t10.heap.size < t11.heap.size := by omega
  have s11_0 : t11.cell? ⟨t10.heap.size, 0, none⟩ = some (.int .i64 u0) := cell_later y11 (by (simp (disch := first | omega | (simp only [World.size_alloc, World.size_setCell, World.size_drew]; done) | (simp only [World.size_alloc, World.size_setCell, World.size_drew]; omega)) only [*, r_set_same, r_set_off, r_set_blk, r_set_f, r_alloc_at, r_alloc_past, r_falloc_at, r_falloc_past, World.cell?_drew, World.frozen?_drew, Option.map_some, List.getElem?_toArray, List.getElem?_cons_zero, List.getElem?_cons_succ]; done))
  have s11_1 : t11.cell? ⟨t10.heap.size, 1, none⟩ = some (.int .i64 u1) := cell_later y11 (by (simp (disch := first | omega | (simp only [World.size_alloc, World.size_setCell, World.size_drew]; done) | (simp only [World.size_alloc, World.size_setCell, World.size_drew]; omega)) only [*, r_set_same, r_set_off, r_set_blk, r_set_f, r_alloc_at, r_alloc_past, r_falloc_at, r_falloc_past, World.cell?_drew, World.frozen?_drew, Option.map_some, List.getElem?_toArray, List.getElem?_cons_zero, List.getElem?_cons_succ]; done))
  have s11_2 : t11.cell? ⟨t10.heap.size, 2, none⟩ = some (.int .i64 u2) := cell_later y11 (by (simp (disch := first | omega | (simp only [World.size_alloc, World.size_setCell, World.size_drew]; done) | (simp only [World.size_alloc, World.size_setCell, World.size_drew]; omega)) only [*, r_set_same, r_set_off, r_set_blk, r_set_f, r_alloc_at, r_alloc_past, r_falloc_at, r_falloc_past, World.cell?_drew, World.frozen?_drew, Option.map_some, List.getElem?_toArray, List.getElem?_cons_zero, List.getElem?_cons_succ]; done))
  go_wp2
  go_ret
  exact ⟨rfl, by (repeat' (first | (with_reducible assumption) | (with_reducible exact Below.refl _ _) | (with_reducible refine Below.alloc ?_ ?_ _) | (with_reducible refine Below.drew ?_) | (with_reducible refine Below.setCell ?_ ?_ _) | (with_reducible refine b_step ?_ (by assumption) ?_) | omega | (simp only [World.size_alloc, World.size_setCell, World.size_drew]; omega)))⟩

end Go.Proofs.YtibncdefhphggaaDoor
