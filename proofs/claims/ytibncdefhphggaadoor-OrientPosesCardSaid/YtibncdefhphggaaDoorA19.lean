/- awake, the examples of the chapter. -/
import Derived.Test.YtibncdefhphggaaDoorA18
import Derived.Test.YtibncdefhphggaaDoorB10
import Derived.Test.YtibncdefhphggaaDoorB3
namespace Go.Proofs.YtibncdefhphggaaDoor
open Go.RowKit
set_option linter.unusedSimpArgs false
set_option linter.unusedVariables false
attribute [local go_sem ↓] Go.wp_at_zero Go.wp_at_succ

theorem aw1 (w : World) : Calls Tryd.prog 32 #[.int .i64 8, vV 1 2 3] w fun e w' => e = .returned (.tuple #[vV 2 1 (-3), .int .i64 0]) ∧ Below w.heap.size w w' := by
  have h := Apply_c 8 1 2 3 (by decide) (by decide) w
  rw [show ap 8 0 1 2 3 = 2 from by decide, show ap 8 1 1 2 3 = 1 from by decide, show ap 8 2 1 2 3 = -3 from by decide] at h
  exact h
theorem aw2 (w : World) : Calls Tryd.prog 31 #[.int .i64 12] w fun e w' => e = .returned (.tuple #[.int .i64 16, .int .i64 0]) ∧ Below w.heap.size w w' := by
  have h := Invert_c 12 (by decide) w
  rw [show invT 12 = 16 from by decide +kernel] at h
  exact h
theorem aw3 (w : World) : Calls Tryd.prog 11 #[vP 8 10 0 0, vB 0 0 0 1 2 3] w fun e w' => e = .returned (.tuple #[vB 10 0 (-3) 12 1 0, .int .i64 0]) ∧ Below w.heap.size w w' := by
  have h := Box_c 8 10 0 0 0 0 0 1 2 3 w
  have e : boxV 8 10 0 0 0 0 0 1 2 3 = .tuple #[vB 10 0 (-3) 12 1 0, .int .i64 0] := by kernel_rfl
  rw [e] at h
  exact h
theorem aw4 (w : World) (hu : Units w) : Calls Tryd.prog 25 #[.int .i64 2, vV 1 2 3, vV 2 1 3] w (RetRowE w.heap.size w [9, 10] 0) := by
  have h := Fits_c 2 1 2 3 2 1 3 (by decide) (by decide) w hu
  have e : kept (fitP 2 1 2 3 2 1 3) 24 = [9, 10] := by decide +kernel
  rw [e] at h
  exact h
theorem aw5 (w : World) : Calls Tryd.prog 13 #[.int .i64 8, vV 1 2 3, vV 0 0 0] w fun e w' => e = .returned (.tuple #[vP 8 0 0 3, .int .i64 0]) ∧ Below w.heap.size w w' := by
  have h := Place_c 8 1 2 3 0 0 0 w
  have e : placeV 8 1 2 3 0 0 0 = .tuple #[vP 8 0 0 3, .int .i64 0] := by kernel_rfl
  rw [e] at h
  exact h

set_option maxHeartbeats 8000000 in
theorem awake_c (w : World) (hu : Units w) : Calls Tryd.prog 15 #[] w fun e w' => e = .returned (.bool true) ∧ Below w.heap.size w w' := by
  go_enter Tryd.func15, Tryd.ntmps15
  go_wp2_with fail
  (with_reducible refine (aw1 _).mono ?_)
  rintro e t1 ⟨rfl, y1⟩
  have zy1 := y1.size
  (try simp only [World.size_alloc, World.size_setCell, World.size_drew] at zy1)
  go_wp2_with fail
  (with_reducible refine (aw2 _).mono ?_)
  rintro e t2 ⟨rfl, y2⟩
  have zy2 := y2.size
  (try simp only [World.size_alloc, World.size_setCell, World.size_drew] at zy2)
  have l2a : t1.heap.size < t2.heap.size := by omega
  have a2_0 : t2.cell? ⟨t1.heap.size, 0, none⟩ = some (.int .i64 2) := cell_later y2 (by (simp (disch := first | omega | (simp only [World.size_alloc, World.size_setCell, World.size_drew]; done) | (simp only [World.size_alloc, World.size_setCell, World.size_drew]; omega)) only [*, r_set_same, r_set_off, r_set_blk, r_set_f, r_alloc_at, r_alloc_past, r_falloc_at, r_falloc_past, World.cell?_drew, World.frozen?_drew, Option.map_some, List.getElem?_toArray, List.getElem?_cons_zero, List.getElem?_cons_succ]; done))
  have a2_1 : t2.cell? ⟨t1.heap.size, 1, none⟩ = some (.int .i64 1) := cell_later y2 (by (simp (disch := first | omega | (simp only [World.size_alloc, World.size_setCell, World.size_drew]; done) | (simp only [World.size_alloc, World.size_setCell, World.size_drew]; omega)) only [*, r_set_same, r_set_off, r_set_blk, r_set_f, r_alloc_at, r_alloc_past, r_falloc_at, r_falloc_past, World.cell?_drew, World.frozen?_drew, Option.map_some, List.getElem?_toArray, List.getElem?_cons_zero, List.getElem?_cons_succ]; done))
  have a2_2 : t2.cell? ⟨t1.heap.size, 2, none⟩ = some (.int .i64 (-3)) := cell_later y2 (by (simp (disch := first | omega | (simp only [World.size_alloc, World.size_setCell, World.size_drew]; done) | (simp only [World.size_alloc, World.size_setCell, World.size_drew]; omega)) only [*, r_set_same, r_set_off, r_set_blk, r_set_f, r_alloc_at, r_alloc_past, r_falloc_at, r_falloc_past, World.cell?_drew, World.frozen?_drew, Option.map_some, List.getElem?_toArray, List.getElem?_cons_zero, List.getElem?_cons_succ]; done))
  go_wp2_with fail
  (with_reducible refine (aw3 _).mono ?_)
  rintro e t3 ⟨rfl, y3⟩
  have zy3 := y3.size
  (try simp only [World.size_alloc, World.size_setCell, World.size_drew] at zy3)
  have l3a : t1.heap.size < t3.heap.size := by omega
  have a3_0 : t3.cell? ⟨t1.heap.size, 0, none⟩ = some (.int .i64 2) := cell_later y3 (by (simp (disch := first | omega | (simp only [World.size_alloc, World.size_setCell, World.size_drew]; done) | (simp only [World.size_alloc, World.size_setCell, World.size_drew]; omega)) only [*, r_set_same, r_set_off, r_set_blk, r_set_f, r_alloc_at, r_alloc_past, r_falloc_at, r_falloc_past, World.cell?_drew, World.frozen?_drew, Option.map_some, List.getElem?_toArray, List.getElem?_cons_zero, List.getElem?_cons_succ]; done))
  have a3_1 : t3.cell? ⟨t1.heap.size, 1, none⟩ = some (.int .i64 1) := cell_later y3 (by (simp (disch := first | omega | (simp only [World.size_alloc, World.size_setCell, World.size_drew]; done) | (simp only [World.size_alloc, World.size_setCell, World.size_drew]; omega)) only [*, r_set_same, r_set_off, r_set_blk, r_set_f, r_alloc_at, r_alloc_past, r_falloc_at, r_falloc_past, World.cell?_drew, World.frozen?_drew, Option.map_some, List.getElem?_toArray, List.getElem?_cons_zero, List.getElem?_cons_succ]; done))
  have a3_2 : t3.cell? ⟨t1.heap.size, 2, none⟩ = some (.int .i64 (-3)) := cell_later y3 (by (simp (disch := first | omega | (simp only [World.size_alloc, World.size_setCell, World.size_drew]; done) | (simp only [World.size_alloc, World.size_setCell, World.size_drew]; omega)) only [*, r_set_same, r_set_off, r_set_blk, r_set_f, r_alloc_at, r_alloc_past, r_falloc_at, r_falloc_past, World.cell?_drew, World.frozen?_drew, Option.map_some, List.getElem?_toArray, List.getElem?_cons_zero, List.getElem?_cons_succ]; done))
  go_wp2_with fail
  (with_reducible refine (aw4 _ (hu.later (by (repeat' (first | (with_reducible assumption) | (with_reducible exact Below.refl _ _) | (with_reducible refine Below.alloc ?_ ?_ _) | (with_reducible refine Below.drew ?_) | (with_reducible refine Below.setCell ?_ ?_ _) | (with_reducible refine b_step ?_ (by assumption) ?_) | omega | (simp only [World.size_alloc, World.size_setCell, World.size_drew]; omega)))))).mono ?_)
  rintro e t4 ⟨v4, rfl, o4, y4⟩
  have zy4 := y4.size
  (try simp only [World.size_alloc, World.size_setCell, World.size_drew] at zy4)
  have l4a : t1.heap.size < t4.heap.size := by omega
  have a4_0 : t4.cell? ⟨t1.heap.size, 0, none⟩ = some (.int .i64 2) := cell_later y4 (by (simp (disch := first | omega | (simp only [World.size_alloc, World.size_setCell, World.size_drew]; done) | (simp only [World.size_alloc, World.size_setCell, World.size_drew]; omega)) only [*, r_set_same, r_set_off, r_set_blk, r_set_f, r_alloc_at, r_alloc_past, r_falloc_at, r_falloc_past, World.cell?_drew, World.frozen?_drew, Option.map_some, List.getElem?_toArray, List.getElem?_cons_zero, List.getElem?_cons_succ]; done))
  have a4_1 : t4.cell? ⟨t1.heap.size, 1, none⟩ = some (.int .i64 1) := cell_later y4 (by (simp (disch := first | omega | (simp only [World.size_alloc, World.size_setCell, World.size_drew]; done) | (simp only [World.size_alloc, World.size_setCell, World.size_drew]; omega)) only [*, r_set_same, r_set_off, r_set_blk, r_set_f, r_alloc_at, r_alloc_past, r_falloc_at, r_falloc_past, World.cell?_drew, World.frozen?_drew, Option.map_some, List.getElem?_toArray, List.getElem?_cons_zero, List.getElem?_cons_succ]; done))
  have a4_2 : t4.cell? ⟨t1.heap.size, 2, none⟩ = some (.int .i64 (-3)) := cell_later y4 (by (simp (disch := first | omega | (simp only [World.size_alloc, World.size_setCell, World.size_drew]; done) | (simp only [World.size_alloc, World.size_setCell, World.size_drew]; omega)) only [*, r_set_same, r_set_off, r_set_blk, r_set_f, r_alloc_at, r_alloc_past, r_falloc_at, r_falloc_past, World.cell?_drew, World.frozen?_drew, Option.map_some, List.getElem?_toArray, List.getElem?_cons_zero, List.getElem?_cons_succ]; done))
  have l4b : t3.heap.size < t4.heap.size := by omega
  have b4_0 : t4.cell? ⟨t3.heap.size, 0, none⟩ = some (.int .i64 10) := cell_later y4 (by (simp (disch := first | omega | (simp only [World.size_alloc, World.size_setCell, World.size_drew]; done) | (simp only [World.size_alloc, World.size_setCell, World.size_drew]; omega)) only [*, r_set_same, r_set_off, r_set_blk, r_set_f, r_alloc_at, r_alloc_past, r_falloc_at, r_falloc_past, World.cell?_drew, World.frozen?_drew, Option.map_some, List.getElem?_toArray, List.getElem?_cons_zero, List.getElem?_cons_succ]; done))
  have b4_1 : t4.cell? ⟨t3.heap.size, 1, none⟩ = some (.int .i64 0) := cell_later y4 (by (simp (disch := first | omega | (simp only [World.size_alloc, World.size_setCell, World.size_drew]; done) | (simp only [World.size_alloc, World.size_setCell, World.size_drew]; omega)) only [*, r_set_same, r_set_off, r_set_blk, r_set_f, r_alloc_at, r_alloc_past, r_falloc_at, r_falloc_past, World.cell?_drew, World.frozen?_drew, Option.map_some, List.getElem?_toArray, List.getElem?_cons_zero, List.getElem?_cons_succ]; done))
  have b4_2 : t4.cell? ⟨t3.heap.size, 2, none⟩ = some (.int .i64 (-3)) := cell_later y4 (by (simp (disch := first | omega | (simp only [World.size_alloc, World.size_setCell, World.size_drew]; done) | (simp only [World.size_alloc, World.size_setCell, World.size_drew]; omega)) only [*, r_set_same, r_set_off, r_set_blk, r_set_f, r_alloc_at, r_alloc_past, r_falloc_at, r_falloc_past, World.cell?_drew, World.frozen?_drew, Option.map_some, List.getElem?_toArray, List.getElem?_cons_zero, List.getElem?_cons_succ]; done))
  have b4_3 : t4.cell? ⟨t3.heap.size, 3, none⟩ = some (.int .i64 12) := cell_later y4 (by (simp (disch := first | omega | (simp only [World.size_alloc, World.size_setCell, World.size_drew]; done) | (simp only [World.size_alloc, World.size_setCell, World.size_drew]; omega)) only [*, r_set_same, r_set_off, r_set_blk, r_set_f, r_alloc_at, r_alloc_past, r_falloc_at, r_falloc_past, World.cell?_drew, World.frozen?_drew, Option.map_some, List.getElem?_toArray, List.getElem?_cons_zero, List.getElem?_cons_succ]; done))
  have b4_4 : t4.cell? ⟨t3.heap.size, 4, none⟩ = some (.int .i64 1) := cell_later y4 (by (simp (disch := first | omega | (simp only [World.size_alloc, World.size_setCell, World.size_drew]; done) | (simp only [World.size_alloc, World.size_setCell, World.size_drew]; omega)) only [*, r_set_same, r_set_off, r_set_blk, r_set_f, r_alloc_at, r_alloc_past, r_falloc_at, r_falloc_past, World.cell?_drew, World.frozen?_drew, Option.map_some, List.getElem?_toArray, List.getElem?_cons_zero, List.getElem?_cons_succ]; done))
  have b4_5 : t4.cell? ⟨t3.heap.size, 5, none⟩ = some (.int .i64 0) := cell_later y4 (by (simp (disch := first | omega | (simp only [World.size_alloc, World.size_setCell, World.size_drew]; done) | (simp only [World.size_alloc, World.size_setCell, World.size_drew]; omega)) only [*, r_set_same, r_set_off, r_set_blk, r_set_f, r_alloc_at, r_alloc_past, r_falloc_at, r_falloc_past, World.cell?_drew, World.frozen?_drew, Option.map_some, List.getElem?_toArray, List.getElem?_cons_zero, List.getElem?_cons_succ]; done))
  go_wp2_with fail
  (with_reducible refine (aw5 _).mono ?_)
  rintro e t5 ⟨rfl, y5⟩
  have zy5 := y5.size
  (try simp only [World.size_alloc, World.size_setCell, World.size_drew] at zy5)
  have l5a : t1.heap.size < t5.heap.size := by omega
  have a5_0 : t5.cell? ⟨t1.heap.size, 0, none⟩ = some (.int .i64 2) := cell_later y5 (by (simp (disch := first | omega | (simp only [World.size_alloc, World.size_setCell, World.size_drew]; done) | (simp only [World.size_alloc, World.size_setCell, World.size_drew]; omega)) only [*, r_set_same, r_set_off, r_set_blk, r_set_f, r_alloc_at, r_alloc_past, r_falloc_at, r_falloc_past, World.cell?_drew, World.frozen?_drew, Option.map_some, List.getElem?_toArray, List.getElem?_cons_zero, List.getElem?_cons_succ]; done))
  have a5_1 : t5.cell? ⟨t1.heap.size, 1, none⟩ = some (.int .i64 1) := cell_later y5 (by (simp (disch := first | omega | (simp only [World.size_alloc, World.size_setCell, World.size_drew]; done) | (simp only [World.size_alloc, World.size_setCell, World.size_drew]; omega)) only [*, r_set_same, r_set_off, r_set_blk, r_set_f, r_alloc_at, r_alloc_past, r_falloc_at, r_falloc_past, World.cell?_drew, World.frozen?_drew, Option.map_some, List.getElem?_toArray, List.getElem?_cons_zero, List.getElem?_cons_succ]; done))
  have a5_2 : t5.cell? ⟨t1.heap.size, 2, none⟩ = some (.int .i64 (-3)) := cell_later y5 (by (simp (disch := first | omega | (simp only [World.size_alloc, World.size_setCell, World.size_drew]; done) | (simp only [World.size_alloc, World.size_setCell, World.size_drew]; omega)) only [*, r_set_same, r_set_off, r_set_blk, r_set_f, r_alloc_at, r_alloc_past, r_falloc_at, r_falloc_past, World.cell?_drew, World.frozen?_drew, Option.map_some, List.getElem?_toArray, List.getElem?_cons_zero, List.getElem?_cons_succ]; done))
  have l5b : t3.heap.size < t5.heap.size := by omega
  have b5_0 : t5.cell? ⟨t3.heap.size, 0, none⟩ = some (.int .i64 10) := cell_later y5 (by (simp (disch := first | omega | (simp only [World.size_alloc, World.size_setCell, World.size_drew]; done) | (simp only [World.size_alloc, World.size_setCell, World.size_drew]; omega)) only [*, r_set_same, r_set_off, r_set_blk, r_set_f, r_alloc_at, r_alloc_past, r_falloc_at, r_falloc_past, World.cell?_drew, World.frozen?_drew, Option.map_some, List.getElem?_toArray, List.getElem?_cons_zero, List.getElem?_cons_succ]; done))
  have b5_1 : t5.cell? ⟨t3.heap.size, 1, none⟩ = some (.int .i64 0) := cell_later y5 (by (simp (disch := first | omega | (simp only [World.size_alloc, World.size_setCell, World.size_drew]; done) | (simp only [World.size_alloc, World.size_setCell, World.size_drew]; omega)) only [*, r_set_same, r_set_off, r_set_blk, r_set_f, r_alloc_at, r_alloc_past, r_falloc_at, r_falloc_past, World.cell?_drew, World.frozen?_drew, Option.map_some, List.getElem?_toArray, List.getElem?_cons_zero, List.getElem?_cons_succ]; done))
  have b5_2 : t5.cell? ⟨t3.heap.size, 2, none⟩ = some (.int .i64 (-3)) := cell_later y5 (by (simp (disch := first | omega | (simp only [World.size_alloc, World.size_setCell, World.size_drew]; done) | (simp only [World.size_alloc, World.size_setCell, World.size_drew]; omega)) only [*, r_set_same, r_set_off, r_set_blk, r_set_f, r_alloc_at, r_alloc_past, r_falloc_at, r_falloc_past, World.cell?_drew, World.frozen?_drew, Option.map_some, List.getElem?_toArray, List.getElem?_cons_zero, List.getElem?_cons_succ]; done))
  have b5_3 : t5.cell? ⟨t3.heap.size, 3, none⟩ = some (.int .i64 12) := cell_later y5 (by (simp (disch := first | omega | (simp only [World.size_alloc, World.size_setCell, World.size_drew]; done) | (simp only [World.size_alloc, World.size_setCell, World.size_drew]; omega)) only [*, r_set_same, r_set_off, r_set_blk, r_set_f, r_alloc_at, r_alloc_past, r_falloc_at, r_falloc_past, World.cell?_drew, World.frozen?_drew, Option.map_some, List.getElem?_toArray, List.getElem?_cons_zero, List.getElem?_cons_succ]; done))
  have b5_4 : t5.cell? ⟨t3.heap.size, 4, none⟩ = some (.int .i64 1) := cell_later y5 (by (simp (disch := first | omega | (simp only [World.size_alloc, World.size_setCell, World.size_drew]; done) | (simp only [World.size_alloc, World.size_setCell, World.size_drew]; omega)) only [*, r_set_same, r_set_off, r_set_blk, r_set_f, r_alloc_at, r_alloc_past, r_falloc_at, r_falloc_past, World.cell?_drew, World.frozen?_drew, Option.map_some, List.getElem?_toArray, List.getElem?_cons_zero, List.getElem?_cons_succ]; done))
  have b5_5 : t5.cell? ⟨t3.heap.size, 5, none⟩ = some (.int .i64 0) := cell_later y5 (by (simp (disch := first | omega | (simp only [World.size_alloc, World.size_setCell, World.size_drew]; done) | (simp only [World.size_alloc, World.size_setCell, World.size_drew]; omega)) only [*, r_set_same, r_set_off, r_set_blk, r_set_f, r_alloc_at, r_alloc_past, r_falloc_at, r_falloc_past, World.cell?_drew, World.frozen?_drew, Option.map_some, List.getElem?_toArray, List.getElem?_cons_zero, List.getElem?_cons_succ]; done))
  have rl := RdL.of_own o4
  go_wp2_with fail
  have rs : ∀ W : World, W.cell? ⟨t5.heap.size + 1, 0, none⟩ = some (.int .i64 9) → W.cell? ⟨t5.heap.size + 1, 1, none⟩ = some (.int .i64 10) → RdL W (.slice (some ⟨t5.heap.size + 1, 0, none⟩) 2 2) [9, 10] := fun W h0 h1 =>
    .inr ⟨t5.heap.size + 1, 2, rfl, fun i hi => match i, hi with | 0, _ => h0 | 1, _ => h1⟩
  (with_reducible refine (same_c (xs := [9, 10]) (ys := [9, 10]) (rl.later (by (repeat' (first | (with_reducible assumption) | (with_reducible exact Below.refl _ _) | (with_reducible refine Below.alloc ?_ ?_ _) | (with_reducible refine Below.drew ?_) | (with_reducible refine Below.setCell ?_ ?_ _) | (with_reducible refine b_step ?_ (by assumption) ?_) | omega | (simp only [World.size_alloc, World.size_setCell, World.size_drew]; omega))))) (rs _ (by (simp (disch := first | omega | (simp only [World.size_alloc, World.size_setCell, World.size_drew]; done) | (simp only [World.size_alloc, World.size_setCell, World.size_drew]; omega)) only [*, r_set_same, r_set_off, r_set_blk, r_set_f, r_alloc_at, r_alloc_past, r_falloc_at, r_falloc_past, World.cell?_drew, World.frozen?_drew, Option.map_some, List.getElem?_toArray, List.getElem?_cons_zero, List.getElem?_cons_succ]; done)) (by (simp (disch := first | omega | (simp only [World.size_alloc, World.size_setCell, World.size_drew]; done) | (simp only [World.size_alloc, World.size_setCell, World.size_drew]; omega)) only [*, r_set_same, r_set_off, r_set_blk, r_set_f, r_alloc_at, r_alloc_past, r_falloc_at, r_falloc_past, World.cell?_drew, World.frozen?_drew, Option.map_some, List.getElem?_toArray, List.getElem?_cons_zero, List.getElem?_cons_succ]; done))) (by decide) (by decide)).mono ?_)
  rintro e t6 ⟨rfl, y6⟩
  have zy6 := y6.size
  (try simp only [World.size_alloc, World.size_setCell, World.size_drew] at zy6)
  have p6_0 : t6.cell? ⟨t5.heap.size, 0, none⟩ = some (.int .i64 8) := cell_later y6 (by (simp (disch := first | omega | (simp only [World.size_alloc, World.size_setCell, World.size_drew]; done) | (simp only [World.size_alloc, World.size_setCell, World.size_drew]; omega)) only [*, r_set_same, r_set_off, r_set_blk, r_set_f, r_alloc_at, r_alloc_past, r_falloc_at, r_falloc_past, World.cell?_drew, World.frozen?_drew, Option.map_some, List.getElem?_toArray, List.getElem?_cons_zero, List.getElem?_cons_succ]; done)); have p6_1 : t6.cell? ⟨t5.heap.size, 1, none⟩ = some (.int .i64 0) := cell_later y6 (by (simp (disch := first | omega | (simp only [World.size_alloc, World.size_setCell, World.size_drew]; done) | (simp only [World.size_alloc, World.size_setCell, World.size_drew]; omega)) only [*, r_set_same, r_set_off, r_set_blk, r_set_f, r_alloc_at, r_alloc_past, r_falloc_at, r_falloc_past, World.cell?_drew, World.frozen?_drew, Option.map_some, List.getElem?_toArray, List.getElem?_cons_zero, List.getElem?_cons_succ]; done)); have p6_2 : t6.cell? ⟨t5.heap.size, 2, none⟩ = some (.int .i64 0) := cell_later y6 (by (simp (disch := first | omega | (simp only [World.size_alloc, World.size_setCell, World.size_drew]; done) | (simp only [World.size_alloc, World.size_setCell, World.size_drew]; omega)) only [*, r_set_same, r_set_off, r_set_blk, r_set_f, r_alloc_at, r_alloc_past, r_falloc_at, r_falloc_past, World.cell?_drew, World.frozen?_drew, Option.map_some, List.getElem?_toArray, List.getElem?_cons_zero, List.getElem?_cons_succ]; done)); have p6_3 : t6.cell? ⟨t5.heap.size, 3, none⟩ = some (.int .i64 3) := cell_later y6 (by (simp (disch := first | omega | (simp only [World.size_alloc, World.size_setCell, World.size_drew]; done) | (simp only [World.size_alloc, World.size_setCell, World.size_drew]; omega)) only [*, r_set_same, r_set_off, r_set_blk, r_set_f, r_alloc_at, r_alloc_past, r_falloc_at, r_falloc_past, World.cell?_drew, World.frozen?_drew, Option.map_some, List.getElem?_toArray, List.getElem?_cons_zero, List.getElem?_cons_succ]; done))
  go_wp2_with fail
  go_ret
  exact ⟨rfl, by (repeat' (first | (with_reducible assumption) | (with_reducible exact Below.refl _ _) | (with_reducible refine Below.alloc ?_ ?_ _) | (with_reducible refine Below.drew ?_) | (with_reducible refine Below.setCell ?_ ?_ _) | (with_reducible refine b_step ?_ (by assumption) ?_) | omega | (simp only [World.size_alloc, World.size_setCell, World.size_drew]; omega)))⟩
end Go.Proofs.YtibncdefhphggaaDoor
