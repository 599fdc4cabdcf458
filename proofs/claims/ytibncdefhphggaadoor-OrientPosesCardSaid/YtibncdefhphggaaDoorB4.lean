/- The contracts of the reference's Is, Near, Valid, Sized, Unit, Plus, Minus, and of same, Compose, Invert, Direction. -/
import Derived.Test.YtibncdefhphggaaDoorA7
import Derived.Test.YtibncdefhphggaaDoorB2
namespace Go.Proofs.YtibncdefhphggaaDoor
open Go.RowKit
set_option linter.unusedSimpArgs false
set_option linter.unusedVariables false
attribute [local go_sem ↓] Go.wp_at_zero Go.wp_at_succ

theorem rIs_c (n : Int) (r : Bool) (h : isB n = r) (w : World) : Calls Tryd.prog 14 #[.int .i64 n] w fun e w' => e = .returned (.bool r) ∧ w = w' := by
  rcases (show n < 0 ∨ 24 ≤ n ∨ (0 ≤ n ∧ n < 24) by omega) with k | k | ⟨k, k'⟩
  all_goals
    have hr : Hid (r = isB n) := h.symm
    clear h
    go_enter Tryd.func14, Tryd.ntmps14
    go_wp2
    go_ret
    exact ⟨ret_bool (by rw [hr.out]; simp [isB]; omega), rfl⟩

set_option maxHeartbeats 4000000 in
theorem rNear_c (x y z : Int) (t : Bool) (h : nearB x y z = t) (w : World) : Calls Tryd.prog 17 #[vV x y z] w fun e w' => e = .returned (.bool t) ∧ Below w.heap.size w w' := by
  have hr : Hid (t = nearB x y z) := h.symm
  have C0 := Lib.hid (fun w => coord_c x y z 0 (by decide) w)
  have C1 := Lib.hid (fun w => coord_c x y z 1 (by decide) w)
  have C2 := Lib.hid (fun w => coord_c x y z 2 (by decide) w)
  clear h
  rcases (show x < -1000000 ∨ 1000000 < x ∨ (-1000000 ≤ x ∧ x ≤ 1000000 ∧ y < -1000000) ∨ (-1000000 ≤ x ∧ x ≤ 1000000 ∧ 1000000 < y) ∨ (-1000000 ≤ x ∧ x ≤ 1000000 ∧ -1000000 ≤ y ∧ y ≤ 1000000 ∧ z < -1000000) ∨ (-1000000 ≤ x ∧ x ≤ 1000000 ∧ -1000000 ≤ y ∧ y ≤ 1000000 ∧ 1000000 < z) ∨ (-1000000 ≤ x ∧ x ≤ 1000000 ∧ -1000000 ≤ y ∧ y ≤ 1000000 ∧ -1000000 ≤ z ∧ z ≤ 1000000) by omega) with h | h | ⟨h, h1, h2⟩ | ⟨h, h1, h2⟩ | ⟨h, h1, h2, h3, h4⟩ | ⟨h, h1, h2, h3, h4⟩ | ⟨h, h1, h2, h3, h4, h5⟩
  all_goals
    simp only [pick, if_true, Int.reduceEq, if_false] at C0 C1 C2
    go_enter Tryd.func17, Tryd.ntmps17
    go_wp2
    refine wp_loop_rounds 4 ?_
    rw [rounds_succ]
    go_wp2_with (go_at_call 54; (with_reducible refine (C0.out _).mono ?_); rintro e t1 ⟨rfl, y1⟩)
    have b1 : Below w.heap.size w t1 := by (repeat' (first | (with_reducible assumption) | (with_reducible exact Below.refl _ _) | (with_reducible refine Below.alloc ?_ ?_ _) | (with_reducible refine Below.drew ?_) | (with_reducible refine Below.setCell ?_ ?_ _) | (with_reducible refine b_step ?_ (by assumption) ?_) | omega | (simp only [World.size_alloc, World.size_setCell, World.size_drew]; omega)))
    have z1 := b1.size
    have l1 : w.heap.size < t1.heap.size := by have := y1.size; simp at this; omega
    have p1 : t1.cell? ⟨w.heap.size, 0, none⟩ = some (.int .i64 x) := cell_later y1 (c_at rfl rfl)
    have q1 : t1.cell? ⟨w.heap.size, 1, none⟩ = some (.int .i64 y) := cell_later y1 (c_at rfl rfl)
    have r1 : t1.cell? ⟨w.heap.size, 2, none⟩ = some (.int .i64 z) := cell_later y1 (c_at rfl rfl)
    go_wp2
    first
      | (go_ret; exact ⟨ret_bool (by rw [hr.out, near_out (by omega)]), b1⟩)
      | skip
    all_goals
      rw [rounds_succ]
      go_wp2_with (go_at_call 54; (with_reducible refine (C1.out _).mono ?_); rintro e t2 ⟨rfl, y2⟩)
      have b2 : Below w.heap.size w t2 := by (repeat' (first | (with_reducible assumption) | (with_reducible exact Below.refl _ _) | (with_reducible refine Below.alloc ?_ ?_ _) | (with_reducible refine Below.drew ?_) | (with_reducible refine Below.setCell ?_ ?_ _) | (with_reducible refine b_step ?_ (by assumption) ?_) | omega | (simp only [World.size_alloc, World.size_setCell, World.size_drew]; omega)))
      have p2 := cell_later y2 p1
      have q2 := cell_later y2 q1
      have r2 := cell_later y2 r1
      have z2 := y2.size
      go_wp2
      first
        | (go_ret; exact ⟨ret_bool (by rw [hr.out, near_out (by omega)]), b2⟩)
        | skip
      all_goals
        rw [rounds_succ]
        go_wp2_with (go_at_call 54; (with_reducible refine (C2.out _).mono ?_); rintro e t3 ⟨rfl, y3⟩)
        have b3 : Below w.heap.size w t3 := by (repeat' (first | (with_reducible assumption) | (with_reducible exact Below.refl _ _) | (with_reducible refine Below.alloc ?_ ?_ _) | (with_reducible refine Below.drew ?_) | (with_reducible refine Below.setCell ?_ ?_ _) | (with_reducible refine b_step ?_ (by assumption) ?_) | omega | (simp only [World.size_alloc, World.size_setCell, World.size_drew]; omega)))
        go_wp2
        first
          | (go_ret; exact ⟨ret_bool (by rw [hr.out, near_out (by omega)]), b3⟩)
          | (rw [rounds_succ]; go_wp2; go_ret; exact ⟨ret_bool (by rw [hr.out, nearB_t.2 (by omega)]), b3⟩)

set_option maxHeartbeats 400000 in
theorem plus_c (x y z a b c : Int) (w : World) (h0 : -1000000000 ≤ x ∧ x ≤ 1000000000) (h1 : -1000000000 ≤ y ∧ y ≤ 1000000000) (h2 : -1000000000 ≤ z ∧ z ≤ 1000000000) (h3 : -1000000000 ≤ a ∧ a ≤ 1000000000) (h4 : -1000000000 ≤ b ∧ b ≤ 1000000000) (h5 : -1000000000 ≤ c ∧ c ≤ 1000000000) :
    Calls Tryd.prog 22 #[vV x y z, vV a b c] w fun e w' => e = .returned (vV (x + a) (y + b) (z + c)) ∧ Below w.heap.size w w' := by
  go_enter Tryd.func22, Tryd.ntmps22
  go_wp2
  go_returns
  exact ⟨rfl, by go_grown⟩
set_option maxHeartbeats 400000 in
theorem minus_c (x y z a b c : Int) (w : World) (h0 : -1000000000 ≤ x ∧ x ≤ 1000000000) (h1 : -1000000000 ≤ y ∧ y ≤ 1000000000) (h2 : -1000000000 ≤ z ∧ z ≤ 1000000000) (h3 : -1000000000 ≤ a ∧ a ≤ 1000000000) (h4 : -1000000000 ≤ b ∧ b ≤ 1000000000) (h5 : -1000000000 ≤ c ∧ c ≤ 1000000000) :
    Calls Tryd.prog 35 #[vV x y z, vV a b c] w fun e w' => e = .returned (vV (x - a) (y - b) (z - c)) ∧ Below w.heap.size w w' := by
  go_enter Tryd.func35, Tryd.ntmps35
  go_wp2
  go_returns
  exact ⟨rfl, by go_grown⟩
end Go.Proofs.YtibncdefhphggaaDoor
