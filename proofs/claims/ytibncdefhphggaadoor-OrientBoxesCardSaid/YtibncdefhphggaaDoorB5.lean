/- The contracts of the reference's Sized, Valid, Unit, and of inside and overlap. -/
import Derived.Test.YtibncdefhphggaaDoorB4
namespace Go.Proofs.YtibncdefhphggaaDoor
open Go.RowKit
set_option linter.unusedSimpArgs false
set_option linter.unusedVariables false
attribute [local go_sem ↓] Go.wp_at_zero Go.wp_at_succ

set_option maxHeartbeats 4000000 in
theorem rSized_c (x y z : Int) (t : Bool) (h : szB x y z = t) (w : World) : Calls Tryd.prog 20 #[vV x y z] w fun e w' => e = .returned (.bool t) ∧ Below w.heap.size w w' := by
  subst h
  rcases sz_cases x y z with ⟨k, hs⟩ | ⟨k, k1, hs⟩ | ⟨k, k1, k2, hs⟩ | ⟨k, k1, k2, k3, hs⟩ | ⟨k, k1, k2, k3, hs⟩
  all_goals
    rw [hs]
    have N := Lib.hid (fun w => rNear_c x y z _ k w)
    clear k hs
    go_enter Tryd.func20, Tryd.ntmps20
    go_wp2_with fail
    (with_reducible refine (N.out _).mono ?_)
    rintro e t1 ⟨rfl, y1⟩
    have zy1 := y1.size
    (try simp only [World.size_alloc, World.size_setCell, World.size_drew] at zy1)
    have l1v : w.heap.size < t1.heap.size := by omega
    have v1_0 : t1.cell? ⟨w.heap.size, 0, none⟩ = some (.int .i64 x) := cell_later y1 (by (simp (disch := first | omega | (simp only [World.size_alloc, World.size_setCell, World.size_drew]; done) | (simp only [World.size_alloc, World.size_setCell, World.size_drew]; omega)) only [*, r_set_same, r_set_off, r_set_blk, r_set_f, r_alloc_at, r_alloc_past, r_falloc_at, r_falloc_past, World.cell?_drew, World.frozen?_drew, Option.map_some, List.getElem?_toArray, List.getElem?_cons_zero, List.getElem?_cons_succ]; done))
    have v1_1 : t1.cell? ⟨w.heap.size, 1, none⟩ = some (.int .i64 y) := cell_later y1 (by (simp (disch := first | omega | (simp only [World.size_alloc, World.size_setCell, World.size_drew]; done) | (simp only [World.size_alloc, World.size_setCell, World.size_drew]; omega)) only [*, r_set_same, r_set_off, r_set_blk, r_set_f, r_alloc_at, r_alloc_past, r_falloc_at, r_falloc_past, World.cell?_drew, World.frozen?_drew, Option.map_some, List.getElem?_toArray, List.getElem?_cons_zero, List.getElem?_cons_succ]; done))
    have v1_2 : t1.cell? ⟨w.heap.size, 2, none⟩ = some (.int .i64 z) := cell_later y1 (by (simp (disch := first | omega | (simp only [World.size_alloc, World.size_setCell, World.size_drew]; done) | (simp only [World.size_alloc, World.size_setCell, World.size_drew]; omega)) only [*, r_set_same, r_set_off, r_set_blk, r_set_f, r_alloc_at, r_alloc_past, r_falloc_at, r_falloc_past, World.cell?_drew, World.frozen?_drew, Option.map_some, List.getElem?_toArray, List.getElem?_cons_zero, List.getElem?_cons_succ]; done))
    go_wp2
    go_ret
    exact ⟨ret_bool (by first | rfl | (simp; omega)), by (repeat' (first | (with_reducible assumption) | (with_reducible exact Below.refl _ _) | (with_reducible refine Below.alloc ?_ ?_ _) | (with_reducible refine Below.drew ?_) | (with_reducible refine Below.setCell ?_ ?_ _) | (with_reducible refine b_step ?_ (by assumption) ?_) | omega | (simp only [World.size_alloc, World.size_setCell, World.size_drew]; omega)))⟩

/-- Whether a box is valid. -/
def vaB (x y z p q r : Int) : Bool := (nearB x y z && nearB p q r) && decide (x < p) && decide (y < q) && decide (z < r)
theorem va_cases (x y z p q r : Int) : (nearB x y z = false ∧ vaB x y z p q r = false) ∨ (nearB x y z = true ∧ nearB p q r = false ∧ vaB x y z p q r = false) ∨ (nearB x y z = true ∧ nearB p q r = true ∧ p ≤ x ∧ vaB x y z p q r = false) ∨ (nearB x y z = true ∧ nearB p q r = true ∧ x < p ∧ q ≤ y ∧ vaB x y z p q r = false) ∨ (nearB x y z = true ∧ nearB p q r = true ∧ x < p ∧ y < q ∧ r ≤ z ∧ vaB x y z p q r = false) ∨ (nearB x y z = true ∧ nearB p q r = true ∧ x < p ∧ y < q ∧ z < r ∧ vaB x y z p q r = true) := by
  unfold vaB
  cases nearB x y z <;> cases nearB p q r <;> simp
  omega

set_option maxHeartbeats 4000000 in
theorem rValid_c (x y z p q r : Int) (t : Bool) (h : vaB x y z p q r = t) (w : World) : Calls Tryd.prog 16 #[vB x y z p q r] w fun e w' => e = .returned (.bool t) ∧ Below w.heap.size w w' := by
  subst h
  rcases va_cases x y z p q r with ⟨k, hs⟩ | ⟨k, k1, hs⟩ | ⟨k, k1, k2, hs⟩ | ⟨k, k1, k2, k3, hs⟩ | ⟨k, k1, k2, k3, k4, hs⟩ | ⟨k, k1, k2, k3, k4, hs⟩
  · rw [hs]
    have N := Lib.hid (fun w => rNear_c x y z _ k w)
    clear k hs
    go_enter Tryd.func16, Tryd.ntmps16
    go_wp2_with fail
    (with_reducible refine (N.out _).mono ?_)
    rintro e t1 ⟨rfl, y1⟩
    have zy1 := y1.size
    (try simp only [World.size_alloc, World.size_setCell, World.size_drew] at zy1)
    have l1b : w.heap.size < t1.heap.size := by omega
    have b1_0 : t1.cell? ⟨w.heap.size, 0, none⟩ = some (.int .i64 x) := cell_later y1 (by (simp (disch := first | omega | (simp only [World.size_alloc, World.size_setCell, World.size_drew]; done) | (simp only [World.size_alloc, World.size_setCell, World.size_drew]; omega)) only [*, r_set_same, r_set_off, r_set_blk, r_set_f, r_alloc_at, r_alloc_past, r_falloc_at, r_falloc_past, World.cell?_drew, World.frozen?_drew, Option.map_some, List.getElem?_toArray, List.getElem?_cons_zero, List.getElem?_cons_succ]; done))
    have b1_1 : t1.cell? ⟨w.heap.size, 1, none⟩ = some (.int .i64 y) := cell_later y1 (by (simp (disch := first | omega | (simp only [World.size_alloc, World.size_setCell, World.size_drew]; done) | (simp only [World.size_alloc, World.size_setCell, World.size_drew]; omega)) only [*, r_set_same, r_set_off, r_set_blk, r_set_f, r_alloc_at, r_alloc_past, r_falloc_at, r_falloc_past, World.cell?_drew, World.frozen?_drew, Option.map_some, List.getElem?_toArray, List.getElem?_cons_zero, List.getElem?_cons_succ]; done))
    have b1_2 : t1.cell? ⟨w.heap.size, 2, none⟩ = some (.int .i64 z) := cell_later y1 (by (simp (disch := first | omega | (simp only [World.size_alloc, World.size_setCell, World.size_drew]; done) | (simp only [World.size_alloc, World.size_setCell, World.size_drew]; omega)) only [*, r_set_same, r_set_off, r_set_blk, r_set_f, r_alloc_at, r_alloc_past, r_falloc_at, r_falloc_past, World.cell?_drew, World.frozen?_drew, Option.map_some, List.getElem?_toArray, List.getElem?_cons_zero, List.getElem?_cons_succ]; done))
    have b1_3 : t1.cell? ⟨w.heap.size, 3, none⟩ = some (.int .i64 p) := cell_later y1 (by (simp (disch := first | omega | (simp only [World.size_alloc, World.size_setCell, World.size_drew]; done) | (simp only [World.size_alloc, World.size_setCell, World.size_drew]; omega)) only [*, r_set_same, r_set_off, r_set_blk, r_set_f, r_alloc_at, r_alloc_past, r_falloc_at, r_falloc_past, World.cell?_drew, World.frozen?_drew, Option.map_some, List.getElem?_toArray, List.getElem?_cons_zero, List.getElem?_cons_succ]; done))
    have b1_4 : t1.cell? ⟨w.heap.size, 4, none⟩ = some (.int .i64 q) := cell_later y1 (by (simp (disch := first | omega | (simp only [World.size_alloc, World.size_setCell, World.size_drew]; done) | (simp only [World.size_alloc, World.size_setCell, World.size_drew]; omega)) only [*, r_set_same, r_set_off, r_set_blk, r_set_f, r_alloc_at, r_alloc_past, r_falloc_at, r_falloc_past, World.cell?_drew, World.frozen?_drew, Option.map_some, List.getElem?_toArray, List.getElem?_cons_zero, List.getElem?_cons_succ]; done))
    have b1_5 : t1.cell? ⟨w.heap.size, 5, none⟩ = some (.int .i64 r) := cell_later y1 (by (simp (disch := first | omega | (simp only [World.size_alloc, World.size_setCell, World.size_drew]; done) | (simp only [World.size_alloc, World.size_setCell, World.size_drew]; omega)) only [*, r_set_same, r_set_off, r_set_blk, r_set_f, r_alloc_at, r_alloc_past, r_falloc_at, r_falloc_past, World.cell?_drew, World.frozen?_drew, Option.map_some, List.getElem?_toArray, List.getElem?_cons_zero, List.getElem?_cons_succ]; done))
    go_wp2
    go_ret
    exact ⟨ret_bool (by first | rfl | (simp; omega)), by (repeat' (first | (with_reducible assumption) | (with_reducible exact Below.refl _ _) | (with_reducible refine Below.alloc ?_ ?_ _) | (with_reducible refine Below.drew ?_) | (with_reducible refine Below.setCell ?_ ?_ _) | (with_reducible refine b_step ?_ (by assumption) ?_) | omega | (simp only [World.size_alloc, World.size_setCell, World.size_drew]; omega)))⟩
  all_goals
    rw [hs]
    have N := Lib.hid (fun w => rNear_c x y z _ k w)
    have M := Lib.hid (fun w => rNear_c p q r _ k1 w)
    clear k k1 hs
    go_enter Tryd.func16, Tryd.ntmps16
    go_wp2_with fail
    (with_reducible refine (N.out _).mono ?_)
    rintro e t1 ⟨rfl, y1⟩
    have zy1 := y1.size
    (try simp only [World.size_alloc, World.size_setCell, World.size_drew] at zy1)
    have l1b : w.heap.size < t1.heap.size := by omega
    have b1_0 : t1.cell? ⟨w.heap.size, 0, none⟩ = some (.int .i64 x) := cell_later y1 (by (simp (disch := first | omega | (simp only [World.size_alloc, World.size_setCell, World.size_drew]; done) | (simp only [World.size_alloc, World.size_setCell, World.size_drew]; omega)) only [*, r_set_same, r_set_off, r_set_blk, r_set_f, r_alloc_at, r_alloc_past, r_falloc_at, r_falloc_past, World.cell?_drew, World.frozen?_drew, Option.map_some, List.getElem?_toArray, List.getElem?_cons_zero, List.getElem?_cons_succ]; done))
    have b1_1 : t1.cell? ⟨w.heap.size, 1, none⟩ = some (.int .i64 y) := cell_later y1 (by (simp (disch := first | omega | (simp only [World.size_alloc, World.size_setCell, World.size_drew]; done) | (simp only [World.size_alloc, World.size_setCell, World.size_drew]; omega)) only [*, r_set_same, r_set_off, r_set_blk, r_set_f, r_alloc_at, r_alloc_past, r_falloc_at, r_falloc_past, World.cell?_drew, World.frozen?_drew, Option.map_some, List.getElem?_toArray, List.getElem?_cons_zero, List.getElem?_cons_succ]; done))
    have b1_2 : t1.cell? ⟨w.heap.size, 2, none⟩ = some (.int .i64 z) := cell_later y1 (by (simp (disch := first | omega | (simp only [World.size_alloc, World.size_setCell, World.size_drew]; done) | (simp only [World.size_alloc, World.size_setCell, World.size_drew]; omega)) only [*, r_set_same, r_set_off, r_set_blk, r_set_f, r_alloc_at, r_alloc_past, r_falloc_at, r_falloc_past, World.cell?_drew, World.frozen?_drew, Option.map_some, List.getElem?_toArray, List.getElem?_cons_zero, List.getElem?_cons_succ]; done))
    have b1_3 : t1.cell? ⟨w.heap.size, 3, none⟩ = some (.int .i64 p) := cell_later y1 (by (simp (disch := first | omega | (simp only [World.size_alloc, World.size_setCell, World.size_drew]; done) | (simp only [World.size_alloc, World.size_setCell, World.size_drew]; omega)) only [*, r_set_same, r_set_off, r_set_blk, r_set_f, r_alloc_at, r_alloc_past, r_falloc_at, r_falloc_past, World.cell?_drew, World.frozen?_drew, Option.map_some, List.getElem?_toArray, List.getElem?_cons_zero, List.getElem?_cons_succ]; done))
    have b1_4 : t1.cell? ⟨w.heap.size, 4, none⟩ = some (.int .i64 q) := cell_later y1 (by (simp (disch := first | omega | (simp only [World.size_alloc, World.size_setCell, World.size_drew]; done) | (simp only [World.size_alloc, World.size_setCell, World.size_drew]; omega)) only [*, r_set_same, r_set_off, r_set_blk, r_set_f, r_alloc_at, r_alloc_past, r_falloc_at, r_falloc_past, World.cell?_drew, World.frozen?_drew, Option.map_some, List.getElem?_toArray, List.getElem?_cons_zero, List.getElem?_cons_succ]; done))
    have b1_5 : t1.cell? ⟨w.heap.size, 5, none⟩ = some (.int .i64 r) := cell_later y1 (by (simp (disch := first | omega | (simp only [World.size_alloc, World.size_setCell, World.size_drew]; done) | (simp only [World.size_alloc, World.size_setCell, World.size_drew]; omega)) only [*, r_set_same, r_set_off, r_set_blk, r_set_f, r_alloc_at, r_alloc_past, r_falloc_at, r_falloc_past, World.cell?_drew, World.frozen?_drew, Option.map_some, List.getElem?_toArray, List.getElem?_cons_zero, List.getElem?_cons_succ]; done))
    go_wp2_with fail
    (with_reducible refine (M.out _).mono ?_)
    rintro e t2 ⟨rfl, y2⟩
    have zy2 := y2.size
    (try simp only [World.size_alloc, World.size_setCell, World.size_drew] at zy2)
    have l2b : w.heap.size < t2.heap.size := by omega
    have b2_0 : t2.cell? ⟨w.heap.size, 0, none⟩ = some (.int .i64 x) := cell_later y2 (by (simp (disch := first | omega | (simp only [World.size_alloc, World.size_setCell, World.size_drew]; done) | (simp only [World.size_alloc, World.size_setCell, World.size_drew]; omega)) only [*, r_set_same, r_set_off, r_set_blk, r_set_f, r_alloc_at, r_alloc_past, r_falloc_at, r_falloc_past, World.cell?_drew, World.frozen?_drew, Option.map_some, List.getElem?_toArray, List.getElem?_cons_zero, List.getElem?_cons_succ]; done))
    have b2_1 : t2.cell? ⟨w.heap.size, 1, none⟩ = some (.int .i64 y) := cell_later y2 (by (simp (disch := first | omega | (simp only [World.size_alloc, World.size_setCell, World.size_drew]; done) | (simp only [World.size_alloc, World.size_setCell, World.size_drew]; omega)) only [*, r_set_same, r_set_off, r_set_blk, r_set_f, r_alloc_at, r_alloc_past, r_falloc_at, r_falloc_past, World.cell?_drew, World.frozen?_drew, Option.map_some, List.getElem?_toArray, List.getElem?_cons_zero, List.getElem?_cons_succ]; done))
    have b2_2 : t2.cell? ⟨w.heap.size, 2, none⟩ = some (.int .i64 z) := cell_later y2 (by (simp (disch := first | omega | (simp only [World.size_alloc, World.size_setCell, World.size_drew]; done) | (simp only [World.size_alloc, World.size_setCell, World.size_drew]; omega)) only [*, r_set_same, r_set_off, r_set_blk, r_set_f, r_alloc_at, r_alloc_past, r_falloc_at, r_falloc_past, World.cell?_drew, World.frozen?_drew, Option.map_some, List.getElem?_toArray, List.getElem?_cons_zero, List.getElem?_cons_succ]; done))
    have b2_3 : t2.cell? ⟨w.heap.size, 3, none⟩ = some (.int .i64 p) := cell_later y2 (by (simp (disch := first | omega | (simp only [World.size_alloc, World.size_setCell, World.size_drew]; done) | (simp only [World.size_alloc, World.size_setCell, World.size_drew]; omega)) only [*, r_set_same, r_set_off, r_set_blk, r_set_f, r_alloc_at, r_alloc_past, r_falloc_at, r_falloc_past, World.cell?_drew, World.frozen?_drew, Option.map_some, List.getElem?_toArray, List.getElem?_cons_zero, List.getElem?_cons_succ]; done))
    have b2_4 : t2.cell? ⟨w.heap.size, 4, none⟩ = some (.int .i64 q) := cell_later y2 (by (simp (disch := first | omega | (simp only [World.size_alloc, World.size_setCell, World.size_drew]; done) | (simp only [World.size_alloc, World.size_setCell, World.size_drew]; omega)) only [*, r_set_same, r_set_off, r_set_blk, r_set_f, r_alloc_at, r_alloc_past, r_falloc_at, r_falloc_past, World.cell?_drew, World.frozen?_drew, Option.map_some, List.getElem?_toArray, List.getElem?_cons_zero, List.getElem?_cons_succ]; done))
    have b2_5 : t2.cell? ⟨w.heap.size, 5, none⟩ = some (.int .i64 r) := cell_later y2 (by (simp (disch := first | omega | (simp only [World.size_alloc, World.size_setCell, World.size_drew]; done) | (simp only [World.size_alloc, World.size_setCell, World.size_drew]; omega)) only [*, r_set_same, r_set_off, r_set_blk, r_set_f, r_alloc_at, r_alloc_past, r_falloc_at, r_falloc_past, World.cell?_drew, World.frozen?_drew, Option.map_some, List.getElem?_toArray, List.getElem?_cons_zero, List.getElem?_cons_succ]; done))
    go_wp2
    go_ret
    exact ⟨ret_bool (by first | rfl | (simp; omega)), by (repeat' (first | (with_reducible assumption) | (with_reducible exact Below.refl _ _) | (with_reducible refine Below.alloc ?_ ?_ _) | (with_reducible refine Below.drew ?_) | (with_reducible refine Below.setCell ?_ ?_ _) | (with_reducible refine b_step ?_ (by assumption) ?_) | omega | (simp only [World.size_alloc, World.size_setCell, World.size_drew]; omega)))⟩

set_option maxHeartbeats 4000000 in
theorem inside_c (x y z p q r c : Int) (h : (if (nearB x y z && nearB p q r) = true then 0 else 6) = c) (w : World) : Calls Tryd.prog 18 #[vB x y z p q r] w fun e w' => e = .returned (.int .i64 c) ∧ Below w.heap.size w w' := by
  cases k : nearB x y z
  · rw [k, Bool.false_and, if_neg (by decide)] at h
    subst h
    have N := Lib.hid (fun w => rNear_c x y z _ k w)
    clear k
    go_enter Tryd.func18, Tryd.ntmps18
    go_wp2_with fail
    (with_reducible refine (N.out _).mono ?_)
    rintro e t1 ⟨rfl, y1⟩
    have zy1 := y1.size
    (try simp only [World.size_alloc, World.size_setCell, World.size_drew] at zy1)
    have l1b : w.heap.size < t1.heap.size := by omega
    have b1_0 : t1.cell? ⟨w.heap.size, 0, none⟩ = some (.int .i64 x) := cell_later y1 (by (simp (disch := first | omega | (simp only [World.size_alloc, World.size_setCell, World.size_drew]; done) | (simp only [World.size_alloc, World.size_setCell, World.size_drew]; omega)) only [*, r_set_same, r_set_off, r_set_blk, r_set_f, r_alloc_at, r_alloc_past, r_falloc_at, r_falloc_past, World.cell?_drew, World.frozen?_drew, Option.map_some, List.getElem?_toArray, List.getElem?_cons_zero, List.getElem?_cons_succ]; done))
    have b1_1 : t1.cell? ⟨w.heap.size, 1, none⟩ = some (.int .i64 y) := cell_later y1 (by (simp (disch := first | omega | (simp only [World.size_alloc, World.size_setCell, World.size_drew]; done) | (simp only [World.size_alloc, World.size_setCell, World.size_drew]; omega)) only [*, r_set_same, r_set_off, r_set_blk, r_set_f, r_alloc_at, r_alloc_past, r_falloc_at, r_falloc_past, World.cell?_drew, World.frozen?_drew, Option.map_some, List.getElem?_toArray, List.getElem?_cons_zero, List.getElem?_cons_succ]; done))
    have b1_2 : t1.cell? ⟨w.heap.size, 2, none⟩ = some (.int .i64 z) := cell_later y1 (by (simp (disch := first | omega | (simp only [World.size_alloc, World.size_setCell, World.size_drew]; done) | (simp only [World.size_alloc, World.size_setCell, World.size_drew]; omega)) only [*, r_set_same, r_set_off, r_set_blk, r_set_f, r_alloc_at, r_alloc_past, r_falloc_at, r_falloc_past, World.cell?_drew, World.frozen?_drew, Option.map_some, List.getElem?_toArray, List.getElem?_cons_zero, List.getElem?_cons_succ]; done))
    have b1_3 : t1.cell? ⟨w.heap.size, 3, none⟩ = some (.int .i64 p) := cell_later y1 (by (simp (disch := first | omega | (simp only [World.size_alloc, World.size_setCell, World.size_drew]; done) | (simp only [World.size_alloc, World.size_setCell, World.size_drew]; omega)) only [*, r_set_same, r_set_off, r_set_blk, r_set_f, r_alloc_at, r_alloc_past, r_falloc_at, r_falloc_past, World.cell?_drew, World.frozen?_drew, Option.map_some, List.getElem?_toArray, List.getElem?_cons_zero, List.getElem?_cons_succ]; done))
    have b1_4 : t1.cell? ⟨w.heap.size, 4, none⟩ = some (.int .i64 q) := cell_later y1 (by (simp (disch := first | omega | (simp only [World.size_alloc, World.size_setCell, World.size_drew]; done) | (simp only [World.size_alloc, World.size_setCell, World.size_drew]; omega)) only [*, r_set_same, r_set_off, r_set_blk, r_set_f, r_alloc_at, r_alloc_past, r_falloc_at, r_falloc_past, World.cell?_drew, World.frozen?_drew, Option.map_some, List.getElem?_toArray, List.getElem?_cons_zero, List.getElem?_cons_succ]; done))
    have b1_5 : t1.cell? ⟨w.heap.size, 5, none⟩ = some (.int .i64 r) := cell_later y1 (by (simp (disch := first | omega | (simp only [World.size_alloc, World.size_setCell, World.size_drew]; done) | (simp only [World.size_alloc, World.size_setCell, World.size_drew]; omega)) only [*, r_set_same, r_set_off, r_set_blk, r_set_f, r_alloc_at, r_alloc_past, r_falloc_at, r_falloc_past, World.cell?_drew, World.frozen?_drew, Option.map_some, List.getElem?_toArray, List.getElem?_cons_zero, List.getElem?_cons_succ]; done))
    go_wp2
    go_ret
    exact ⟨rfl, by (repeat' (first | (with_reducible assumption) | (with_reducible exact Below.refl _ _) | (with_reducible refine Below.alloc ?_ ?_ _) | (with_reducible refine Below.drew ?_) | (with_reducible refine Below.setCell ?_ ?_ _) | (with_reducible refine b_step ?_ (by assumption) ?_) | omega | (simp only [World.size_alloc, World.size_setCell, World.size_drew]; omega)))⟩
  cases k1 : nearB p q r
  · rw [k, k1, Bool.and_false, if_neg (by decide)] at h
    subst h
    have N := Lib.hid (fun w => rNear_c x y z _ k w)
    have M := Lib.hid (fun w => rNear_c p q r _ k1 w)
    clear k k1
    go_enter Tryd.func18, Tryd.ntmps18
    go_wp2_with fail
    (with_reducible refine (N.out _).mono ?_)
    rintro e t1 ⟨rfl, y1⟩
    have zy1 := y1.size
    (try simp only [World.size_alloc, World.size_setCell, World.size_drew] at zy1)
    have l1b : w.heap.size < t1.heap.size := by omega
    have b1_0 : t1.cell? ⟨w.heap.size, 0, none⟩ = some (.int .i64 x) := cell_later y1 (by (simp (disch := first | omega | (simp only [World.size_alloc, World.size_setCell, World.size_drew]; done) | (simp only [World.size_alloc, World.size_setCell, World.size_drew]; omega)) only [*, r_set_same, r_set_off, r_set_blk, r_set_f, r_alloc_at, r_alloc_past, r_falloc_at, r_falloc_past, World.cell?_drew, World.frozen?_drew, Option.map_some, List.getElem?_toArray, List.getElem?_cons_zero, List.getElem?_cons_succ]; done))
    have b1_1 : t1.cell? ⟨w.heap.size, 1, none⟩ = some (.int .i64 y) := cell_later y1 (by (simp (disch := first | omega | (simp only [World.size_alloc, World.size_setCell, World.size_drew]; done) | (simp only [World.size_alloc, World.size_setCell, World.size_drew]; omega)) only [*, r_set_same, r_set_off, r_set_blk, r_set_f, r_alloc_at, r_alloc_past, r_falloc_at, r_falloc_past, World.cell?_drew, World.frozen?_drew, Option.map_some, List.getElem?_toArray, List.getElem?_cons_zero, List.getElem?_cons_succ]; done))
    have b1_2 : t1.cell? ⟨w.heap.size, 2, none⟩ = some (.int .i64 z) := cell_later y1 (by (simp (disch := first | omega | (simp only [World.size_alloc, World.size_setCell, World.size_drew]; done) | (simp only [World.size_alloc, World.size_setCell, World.size_drew]; omega)) only [*, r_set_same, r_set_off, r_set_blk, r_set_f, r_alloc_at, r_alloc_past, r_falloc_at, r_falloc_past, World.cell?_drew, World.frozen?_drew, Option.map_some, List.getElem?_toArray, List.getElem?_cons_zero, List.getElem?_cons_succ]; done))
    have b1_3 : t1.cell? ⟨w.heap.size, 3, none⟩ = some (.int .i64 p) := cell_later y1 (by (simp (disch := first | omega | (simp only [World.size_alloc, World.size_setCell, World.size_drew]; done) | (simp only [World.size_alloc, World.size_setCell, World.size_drew]; omega)) only [*, r_set_same, r_set_off, r_set_blk, r_set_f, r_alloc_at, r_alloc_past, r_falloc_at, r_falloc_past, World.cell?_drew, World.frozen?_drew, Option.map_some, List.getElem?_toArray, List.getElem?_cons_zero, List.getElem?_cons_succ]; done))
    have b1_4 : t1.cell? ⟨w.heap.size, 4, none⟩ = some (.int .i64 q) := cell_later y1 (by (simp (disch := first | omega | (simp only [World.size_alloc, World.size_setCell, World.size_drew]; done) | (simp only [World.size_alloc, World.size_setCell, World.size_drew]; omega)) only [*, r_set_same, r_set_off, r_set_blk, r_set_f, r_alloc_at, r_alloc_past, r_falloc_at, r_falloc_past, World.cell?_drew, World.frozen?_drew, Option.map_some, List.getElem?_toArray, List.getElem?_cons_zero, List.getElem?_cons_succ]; done))
    have b1_5 : t1.cell? ⟨w.heap.size, 5, none⟩ = some (.int .i64 r) := cell_later y1 (by (simp (disch := first | omega | (simp only [World.size_alloc, World.size_setCell, World.size_drew]; done) | (simp only [World.size_alloc, World.size_setCell, World.size_drew]; omega)) only [*, r_set_same, r_set_off, r_set_blk, r_set_f, r_alloc_at, r_alloc_past, r_falloc_at, r_falloc_past, World.cell?_drew, World.frozen?_drew, Option.map_some, List.getElem?_toArray, List.getElem?_cons_zero, List.getElem?_cons_succ]; done))
    go_wp2_with fail
    (with_reducible refine (M.out _).mono ?_)
    rintro e t2 ⟨rfl, y2⟩
    have zy2 := y2.size
    (try simp only [World.size_alloc, World.size_setCell, World.size_drew] at zy2)
    have l2b : w.heap.size < t2.heap.size := by omega
    have b2_0 : t2.cell? ⟨w.heap.size, 0, none⟩ = some (.int .i64 x) := cell_later y2 (by (simp (disch := first | omega | (simp only [World.size_alloc, World.size_setCell, World.size_drew]; done) | (simp only [World.size_alloc, World.size_setCell, World.size_drew]; omega)) only [*, r_set_same, r_set_off, r_set_blk, r_set_f, r_alloc_at, r_alloc_past, r_falloc_at, r_falloc_past, World.cell?_drew, World.frozen?_drew, Option.map_some, List.getElem?_toArray, List.getElem?_cons_zero, List.getElem?_cons_succ]; done))
    have b2_1 : t2.cell? ⟨w.heap.size, 1, none⟩ = some (.int .i64 y) := cell_later y2 (by (simp (disch := first | omega | (simp only [World.size_alloc, World.size_setCell, World.size_drew]; done) | (simp only [World.size_alloc, World.size_setCell, World.size_drew]; omega)) only [*, r_set_same, r_set_off, r_set_blk, r_set_f, r_alloc_at, r_alloc_past, r_falloc_at, r_falloc_past, World.cell?_drew, World.frozen?_drew, Option.map_some, List.getElem?_toArray, List.getElem?_cons_zero, List.getElem?_cons_succ]; done))
    have b2_2 : t2.cell? ⟨w.heap.size, 2, none⟩ = some (.int .i64 z) := cell_later y2 (by (simp (disch := first | omega | (simp only [World.size_alloc, World.size_setCell, World.size_drew]; done) | (simp only [World.size_alloc, World.size_setCell, World.size_drew]; omega)) only [*, r_set_same, r_set_off, r_set_blk, r_set_f, r_alloc_at, r_alloc_past, r_falloc_at, r_falloc_past, World.cell?_drew, World.frozen?_drew, Option.map_some, List.getElem?_toArray, List.getElem?_cons_zero, List.getElem?_cons_succ]; done))
    have b2_3 : t2.cell? ⟨w.heap.size, 3, none⟩ = some (.int .i64 p) := cell_later y2 (by (simp (disch := first | omega | (simp only [World.size_alloc, World.size_setCell, World.size_drew]; done) | (simp only [World.size_alloc, World.size_setCell, World.size_drew]; omega)) only [*, r_set_same, r_set_off, r_set_blk, r_set_f, r_alloc_at, r_alloc_past, r_falloc_at, r_falloc_past, World.cell?_drew, World.frozen?_drew, Option.map_some, List.getElem?_toArray, List.getElem?_cons_zero, List.getElem?_cons_succ]; done))
    have b2_4 : t2.cell? ⟨w.heap.size, 4, none⟩ = some (.int .i64 q) := cell_later y2 (by (simp (disch := first | omega | (simp only [World.size_alloc, World.size_setCell, World.size_drew]; done) | (simp only [World.size_alloc, World.size_setCell, World.size_drew]; omega)) only [*, r_set_same, r_set_off, r_set_blk, r_set_f, r_alloc_at, r_alloc_past, r_falloc_at, r_falloc_past, World.cell?_drew, World.frozen?_drew, Option.map_some, List.getElem?_toArray, List.getElem?_cons_zero, List.getElem?_cons_succ]; done))
    have b2_5 : t2.cell? ⟨w.heap.size, 5, none⟩ = some (.int .i64 r) := cell_later y2 (by (simp (disch := first | omega | (simp only [World.size_alloc, World.size_setCell, World.size_drew]; done) | (simp only [World.size_alloc, World.size_setCell, World.size_drew]; omega)) only [*, r_set_same, r_set_off, r_set_blk, r_set_f, r_alloc_at, r_alloc_past, r_falloc_at, r_falloc_past, World.cell?_drew, World.frozen?_drew, Option.map_some, List.getElem?_toArray, List.getElem?_cons_zero, List.getElem?_cons_succ]; done))
    go_wp2
    go_ret
    exact ⟨rfl, by (repeat' (first | (with_reducible assumption) | (with_reducible exact Below.refl _ _) | (with_reducible refine Below.alloc ?_ ?_ _) | (with_reducible refine Below.drew ?_) | (with_reducible refine Below.setCell ?_ ?_ _) | (with_reducible refine b_step ?_ (by assumption) ?_) | omega | (simp only [World.size_alloc, World.size_setCell, World.size_drew]; omega)))⟩
  · rw [k, k1, Bool.and_true, if_pos rfl] at h
    subst h
    have N := Lib.hid (fun w => rNear_c x y z _ k w)
    have M := Lib.hid (fun w => rNear_c p q r _ k1 w)
    clear k k1
    go_enter Tryd.func18, Tryd.ntmps18
    go_wp2_with fail
    (with_reducible refine (N.out _).mono ?_)
    rintro e t1 ⟨rfl, y1⟩
    have zy1 := y1.size
    (try simp only [World.size_alloc, World.size_setCell, World.size_drew] at zy1)
    have l1b : w.heap.size < t1.heap.size := by omega
    have b1_0 : t1.cell? ⟨w.heap.size, 0, none⟩ = some (.int .i64 x) := cell_later y1 (by (simp (disch := first | omega | (simp only [World.size_alloc, World.size_setCell, World.size_drew]; done) | (simp only [World.size_alloc, World.size_setCell, World.size_drew]; omega)) only [*, r_set_same, r_set_off, r_set_blk, r_set_f, r_alloc_at, r_alloc_past, r_falloc_at, r_falloc_past, World.cell?_drew, World.frozen?_drew, Option.map_some, List.getElem?_toArray, List.getElem?_cons_zero, List.getElem?_cons_succ]; done))
    have b1_1 : t1.cell? ⟨w.heap.size, 1, none⟩ = some (.int .i64 y) := cell_later y1 (by (simp (disch := first | omega | (simp only [World.size_alloc, World.size_setCell, World.size_drew]; done) | (simp only [World.size_alloc, World.size_setCell, World.size_drew]; omega)) only [*, r_set_same, r_set_off, r_set_blk, r_set_f, r_alloc_at, r_alloc_past, r_falloc_at, r_falloc_past, World.cell?_drew, World.frozen?_drew, Option.map_some, List.getElem?_toArray, List.getElem?_cons_zero, List.getElem?_cons_succ]; done))
    have b1_2 : t1.cell? ⟨w.heap.size, 2, none⟩ = some (.int .i64 z) := cell_later y1 (by (simp (disch := first | omega | (simp only [World.size_alloc, World.size_setCell, World.size_drew]; done) | (simp only [World.size_alloc, World.size_setCell, World.size_drew]; omega)) only [*, r_set_same, r_set_off, r_set_blk, r_set_f, r_alloc_at, r_alloc_past, r_falloc_at, r_falloc_past, World.cell?_drew, World.frozen?_drew, Option.map_some, List.getElem?_toArray, List.getElem?_cons_zero, List.getElem?_cons_succ]; done))
    have b1_3 : t1.cell? ⟨w.heap.size, 3, none⟩ = some (.int .i64 p) := cell_later y1 (by (simp (disch := first | omega | (simp only [World.size_alloc, World.size_setCell, World.size_drew]; done) | (simp only [World.size_alloc, World.size_setCell, World.size_drew]; omega)) only [*, r_set_same, r_set_off, r_set_blk, r_set_f, r_alloc_at, r_alloc_past, r_falloc_at, r_falloc_past, World.cell?_drew, World.frozen?_drew, Option.map_some, List.getElem?_toArray, List.getElem?_cons_zero, List.getElem?_cons_succ]; done))
    have b1_4 : t1.cell? ⟨w.heap.size, 4, none⟩ = some (.int .i64 q) := cell_later y1 (by (simp (disch := first | omega | (simp only [World.size_alloc, World.size_setCell, World.size_drew]; done) | (simp only [World.size_alloc, World.size_setCell, World.size_drew]; omega)) only [*, r_set_same, r_set_off, r_set_blk, r_set_f, r_alloc_at, r_alloc_past, r_falloc_at, r_falloc_past, World.cell?_drew, World.frozen?_drew, Option.map_some, List.getElem?_toArray, List.getElem?_cons_zero, List.getElem?_cons_succ]; done))
    have b1_5 : t1.cell? ⟨w.heap.size, 5, none⟩ = some (.int .i64 r) := cell_later y1 (by (simp (disch := first | omega | (simp only [World.size_alloc, World.size_setCell, World.size_drew]; done) | (simp only [World.size_alloc, World.size_setCell, World.size_drew]; omega)) only [*, r_set_same, r_set_off, r_set_blk, r_set_f, r_alloc_at, r_alloc_past, r_falloc_at, r_falloc_past, World.cell?_drew, World.frozen?_drew, Option.map_some, List.getElem?_toArray, List.getElem?_cons_zero, List.getElem?_cons_succ]; done))
    go_wp2_with fail
    (with_reducible refine (M.out _).mono ?_)
    rintro e t2 ⟨rfl, y2⟩
    have zy2 := y2.size
    (try simp only [World.size_alloc, World.size_setCell, World.size_drew] at zy2)
    have l2b : w.heap.size < t2.heap.size := by omega
    have b2_0 : t2.cell? ⟨w.heap.size, 0, none⟩ = some (.int .i64 x) := cell_later y2 (by (simp (disch := first | omega | (simp only [World.size_alloc, World.size_setCell, World.size_drew]; done) | (simp only [World.size_alloc, World.size_setCell, World.size_drew]; omega)) only [*, r_set_same, r_set_off, r_set_blk, r_set_f, r_alloc_at, r_alloc_past, r_falloc_at, r_falloc_past, World.cell?_drew, World.frozen?_drew, Option.map_some, List.getElem?_toArray, List.getElem?_cons_zero, List.getElem?_cons_succ]; done))
    have b2_1 : t2.cell? ⟨w.heap.size, 1, none⟩ = some (.int .i64 y) := cell_later y2 (by (simp (disch := first | omega | (simp only [World.size_alloc, World.size_setCell, World.size_drew]; done) | (simp only [World.size_alloc, World.size_setCell, World.size_drew]; omega)) only [*, r_set_same, r_set_off, r_set_blk, r_set_f, r_alloc_at, r_alloc_past, r_falloc_at, r_falloc_past, World.cell?_drew, World.frozen?_drew, Option.map_some, List.getElem?_toArray, List.getElem?_cons_zero, List.getElem?_cons_succ]; done))
    have b2_2 : t2.cell? ⟨w.heap.size, 2, none⟩ = some (.int .i64 z) := cell_later y2 (by (simp (disch := first | omega | (simp only [World.size_alloc, World.size_setCell, World.size_drew]; done) | (simp only [World.size_alloc, World.size_setCell, World.size_drew]; omega)) only [*, r_set_same, r_set_off, r_set_blk, r_set_f, r_alloc_at, r_alloc_past, r_falloc_at, r_falloc_past, World.cell?_drew, World.frozen?_drew, Option.map_some, List.getElem?_toArray, List.getElem?_cons_zero, List.getElem?_cons_succ]; done))
    have b2_3 : t2.cell? ⟨w.heap.size, 3, none⟩ = some (.int .i64 p) := cell_later y2 (by (simp (disch := first | omega | (simp only [World.size_alloc, World.size_setCell, World.size_drew]; done) | (simp only [World.size_alloc, World.size_setCell, World.size_drew]; omega)) only [*, r_set_same, r_set_off, r_set_blk, r_set_f, r_alloc_at, r_alloc_past, r_falloc_at, r_falloc_past, World.cell?_drew, World.frozen?_drew, Option.map_some, List.getElem?_toArray, List.getElem?_cons_zero, List.getElem?_cons_succ]; done))
    have b2_4 : t2.cell? ⟨w.heap.size, 4, none⟩ = some (.int .i64 q) := cell_later y2 (by (simp (disch := first | omega | (simp only [World.size_alloc, World.size_setCell, World.size_drew]; done) | (simp only [World.size_alloc, World.size_setCell, World.size_drew]; omega)) only [*, r_set_same, r_set_off, r_set_blk, r_set_f, r_alloc_at, r_alloc_past, r_falloc_at, r_falloc_past, World.cell?_drew, World.frozen?_drew, Option.map_some, List.getElem?_toArray, List.getElem?_cons_zero, List.getElem?_cons_succ]; done))
    have b2_5 : t2.cell? ⟨w.heap.size, 5, none⟩ = some (.int .i64 r) := cell_later y2 (by (simp (disch := first | omega | (simp only [World.size_alloc, World.size_setCell, World.size_drew]; done) | (simp only [World.size_alloc, World.size_setCell, World.size_drew]; omega)) only [*, r_set_same, r_set_off, r_set_blk, r_set_f, r_alloc_at, r_alloc_past, r_falloc_at, r_falloc_past, World.cell?_drew, World.frozen?_drew, Option.map_some, List.getElem?_toArray, List.getElem?_cons_zero, List.getElem?_cons_succ]; done))
    go_wp2
    go_ret
    exact ⟨rfl, by (repeat' (first | (with_reducible assumption) | (with_reducible exact Below.refl _ _) | (with_reducible refine Below.alloc ?_ ?_ _) | (with_reducible refine Below.drew ?_) | (with_reducible refine Below.setCell ?_ ?_ _) | (with_reducible refine b_step ?_ (by assumption) ?_) | omega | (simp only [World.size_alloc, World.size_setCell, World.size_drew]; omega)))⟩

/-- Whether two boxes overlap. -/
def ovB (x y z p q r a b c d e f : Int) : Bool := decide (x < d ∧ a < p ∧ y < e ∧ b < q ∧ z < f ∧ c < r)
set_option maxHeartbeats 8000000 in
theorem overlap_c (x y z p q r a b c d e f : Int) (w : World) : Calls Tryd.prog 36 #[vB x y z p q r, vB a b c d e f] w fun e' w' => e' = .returned (.bool (ovB x y z p q r a b c d e f)) ∧ Below w.heap.size w w' := by
  rcases (show d ≤ x ∨ (x < d ∧ p ≤ a) ∨ (x < d ∧ a < p ∧ e ≤ y) ∨ (x < d ∧ a < p ∧ y < e ∧ q ≤ b) ∨ (x < d ∧ a < p ∧ y < e ∧ b < q ∧ f ≤ z) ∨ (x < d ∧ a < p ∧ y < e ∧ b < q ∧ z < f ∧ r ≤ c) ∨ (x < d ∧ a < p ∧ y < e ∧ b < q ∧ z < f ∧ c < r) by omega) with h | h | h | h | h | h | h
  rotate_left 6
  · have H : Hid (ovB x y z p q r a b c d e f = true) := decide_eq_true h
    obtain ⟨h0, h1, h2, h3, h4, h5⟩ := h
    rw [H.out]
    go_enter Tryd.func36, Tryd.ntmps36
    go_wp2
    go_ret
    exact ⟨ret_bool (by first | rfl | (simp; omega)), by (repeat' (first | (with_reducible assumption) | (with_reducible exact Below.refl _ _) | (with_reducible refine Below.alloc ?_ ?_ _) | (with_reducible refine Below.drew ?_) | (with_reducible refine Below.setCell ?_ ?_ _) | (with_reducible refine b_step ?_ (by assumption) ?_) | omega | (simp only [World.size_alloc, World.size_setCell, World.size_drew]; omega)))⟩
  all_goals
    have H : Hid (ovB x y z p q r a b c d e f = false) := decide_eq_false (by omega)
    rw [H.out]
    (try obtain ⟨h0, h⟩ := h)
    (try obtain ⟨h1, h⟩ := h)
    (try obtain ⟨h2, h⟩ := h)
    (try obtain ⟨h3, h⟩ := h)
    (try obtain ⟨h4, h⟩ := h)
    go_enter Tryd.func36, Tryd.ntmps36
    go_wp2
    go_ret
    exact ⟨ret_bool (by first | rfl | (simp; omega)), by (repeat' (first | (with_reducible assumption) | (with_reducible exact Below.refl _ _) | (with_reducible refine Below.alloc ?_ ?_ _) | (with_reducible refine Below.drew ?_) | (with_reducible refine Below.setCell ?_ ?_ _) | (with_reducible refine b_step ?_ (by assumption) ?_) | omega | (simp only [World.size_alloc, World.size_setCell, World.size_drew]; omega)))⟩

/-- Coordinate i of the unit vector d. -/
def unT (d i : Nat) : Int := (([1, 0, 0, -1, 0, 0, 0, 1, 0, 0, -1, 0, 0, 0, 1, 0, 0, -1] : List Int).getD (3 * d + i) 0)

set_option maxHeartbeats 4000000 in
/-- The unit vectors. -/
theorem unit_c (d : Nat) (h : d < 6) (w : World) : Calls Tryd.prog 34 #[.int .i64 d] w fun e w' => e = .returned (vV (unT d 0) (unT d 1) (unT d 2)) ∧ Below w.heap.size w w' := by
  have : d = 0 ∨ d = 1 ∨ d = 2 ∨ d = 3 ∨ d = 4 ∨ d = 5 := by omega
  rcases this with rfl | rfl | rfl | rfl | rfl | rfl
  all_goals
    go_enter Tryd.func34, Tryd.ntmps34
    go_wp2
    go_returns
    exact ⟨rfl, by (repeat' (first | (with_reducible assumption) | (with_reducible exact Below.refl _ _) | (with_reducible refine Below.alloc ?_ ?_ _) | (with_reducible refine Below.drew ?_) | (with_reducible refine Below.setCell ?_ ?_ _) | (with_reducible refine b_step ?_ (by assumption) ?_) | omega | (simp only [World.size_alloc, World.size_setCell, World.size_drew]; omega)))⟩
end Go.Proofs.YtibncdefhphggaaDoor
