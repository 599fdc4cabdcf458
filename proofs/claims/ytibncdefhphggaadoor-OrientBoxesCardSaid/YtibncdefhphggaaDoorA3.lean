/- The contracts of is, near, sized and result. -/
import Derived.Test.YtibncdefhphggaaDoorA1
namespace Go.Proofs.YtibncdefhphggaaDoor
open Go.RowKit
attribute [local go_sem ↓] Go.wp_at_zero Go.wp_at_succ

def isB (n : Int) : Bool := decide (0 ≤ n ∧ n < 24)
theorem isB_t {n : Int} : isB n = true ↔ 0 ≤ n ∧ n < 24 := by simp [isB]
theorem isB_f {n : Int} : isB n = false ↔ n < 0 ∨ 24 ≤ n := by simp [isB]; omega

def nrB (x : Int) : Bool := decide (-1000000 ≤ x ∧ x ≤ 1000000)
theorem nrB_t {n : Int} : nrB n = true ↔ -1000000 ≤ n ∧ n ≤ 1000000 := by simp [nrB]
theorem nrB_f {n : Int} : nrB n = false ↔ n < -1000000 ∨ 1000000 < n := by simp [nrB]; omega
def nearB (x y z : Int) : Bool := nrB x && nrB y && nrB z
theorem nearB_t {x y z : Int} : nearB x y z = true ↔ (-1000000 ≤ x ∧ x ≤ 1000000) ∧ (-1000000 ≤ y ∧ y ≤ 1000000) ∧ (-1000000 ≤ z ∧ z ≤ 1000000) := by
  simp only [nearB, Bool.and_eq_true, nrB_t]; omega

theorem ret_bool {a b : Bool} (h : a = b) : Ending.returned (.bool a) = .returned (.bool b) := by rw [h]

set_option maxHeartbeats 400000 in
theorem is1_c (n : Int) (b : Nat) (w : World) (hc : w.cell? ⟨b, 0, none⟩ = some (.int .i64 n)) :
    Calls Tryd.prog 47 #[.slice (some ⟨b, 0, none⟩) 1 1] w fun e w' => e = .returned (.bool (isB n)) ∧ w = w' := by
  rcases (show n < 0 ∨ 24 ≤ n ∨ (0 ≤ n ∧ n < 24) by omega) with h | h | ⟨h, h'⟩
  all_goals
    go_enter Tryd.func47, Tryd.ntmps47
    go_wp2
    refine wp_loop_rounds 2 ?_
    rw [rounds_succ]
    go_wp2
    try (rw [rounds_succ]; go_wp2)
    go_ret
    exact ⟨ret_bool (by first | exact (isB_t.2 (by omega)).symm | exact (isB_f.2 (by omega)).symm), rfl⟩

set_option maxHeartbeats 1000000 in
theorem is2_c (n m : Int) (b : Nat) (w : World) (hc : w.cell? ⟨b, 0, none⟩ = some (.int .i64 n)) (hd : w.cell? ⟨b, 1, none⟩ = some (.int .i64 m)) :
    Calls Tryd.prog 47 #[.slice (some ⟨b, 0, none⟩) 2 2] w fun e w' => e = .returned (.bool (isB n && isB m)) ∧ w = w' := by
  rcases (show n < 0 ∨ 24 ≤ n ∨ (0 ≤ n ∧ n < 24) by omega) with h | h | ⟨h, h'⟩
  rotate_left 2
  · rcases (show m < 0 ∨ 24 ≤ m ∨ (0 ≤ m ∧ m < 24) by omega) with k | k | ⟨k, k'⟩
    all_goals
      go_enter Tryd.func47, Tryd.ntmps47
      go_wp2
      refine wp_loop_rounds 3 ?_
      rw [rounds_succ]
      go_wp2
      rw [rounds_succ]
      go_wp2
      try (rw [rounds_succ]; go_wp2)
      go_ret
      exact ⟨ret_bool (by first | (rw [isB_t.2 (by omega), isB_t.2 (by omega)]; rfl) | (rw [isB_t.2 (by omega), isB_f.2 (by omega)]; rfl)), rfl⟩
  all_goals
    go_enter Tryd.func47, Tryd.ntmps47
    go_wp2
    refine wp_loop_rounds 3 ?_
    rw [rounds_succ]
    go_wp2
    go_ret
    exact ⟨ret_bool (by rw [isB_f.2 (by omega)]; rfl), rfl⟩

theorem index3' (x y z : Int) (w : World) : (Instr.index 82 (.agg #[.int .i64 x, .int .i64 y, .int .i64 z]) (.int .i64 0)).run Tryd.prog w = .ok (.int .i64 x) w ∧
    (Instr.index 82 (.agg #[.int .i64 x, .int .i64 y, .int .i64 z]) (.int .i64 1)).run Tryd.prog w = .ok (.int .i64 y) w ∧
    (Instr.index 82 (.agg #[.int .i64 x, .int .i64 y, .int .i64 z]) (.int .i64 2)).run Tryd.prog w = .ok (.int .i64 z) w := ⟨by kernel_rfl, by kernel_rfl, by kernel_rfl⟩

theorem near_out {x y z : Int} (h : x < -1000000 ∨ 1000000 < x ∨ y < -1000000 ∨ 1000000 < y ∨ z < -1000000 ∨ 1000000 < z) : nearB x y z = false := by
  cases hb : nearB x y z with
  | false => rfl
  | true => have := nearB_t.1 hb; omega

set_option maxHeartbeats 2000000 in
theorem near1_c (x y z : Int) (b : Nat) (w : World) (hx : w.cell? ⟨b, 0, none⟩ = some (.int .i64 x)) (hy : w.cell? ⟨b, 1, none⟩ = some (.int .i64 y)) (hz : w.cell? ⟨b, 2, none⟩ = some (.int .i64 z)) :
    Calls Tryd.prog 48 #[.slice (some ⟨b, 0, none⟩) 1 1] w fun e w' => e = .returned (.bool (nearB x y z)) ∧ Below w.heap.size w w' := by
  have i0 := fun w => (index3' x y z w).1
  have i1 := fun w => (index3' x y z w).2.1
  have i2 := fun w => (index3' x y z w).2.2
  rcases (show x < -1000000 ∨ 1000000 < x ∨ (-1000000 ≤ x ∧ x ≤ 1000000 ∧ y < -1000000) ∨ (-1000000 ≤ x ∧ x ≤ 1000000 ∧ 1000000 < y) ∨ (-1000000 ≤ x ∧ x ≤ 1000000 ∧ -1000000 ≤ y ∧ y ≤ 1000000 ∧ z < -1000000) ∨ (-1000000 ≤ x ∧ x ≤ 1000000 ∧ -1000000 ≤ y ∧ y ≤ 1000000 ∧ 1000000 < z) ∨ (-1000000 ≤ x ∧ x ≤ 1000000 ∧ -1000000 ≤ y ∧ y ≤ 1000000 ∧ -1000000 ≤ z ∧ z ≤ 1000000) by omega) with h | h | ⟨h, h1, h2⟩ | ⟨h, h1, h2⟩ | ⟨h, h1, h2, h3, h4⟩ | ⟨h, h1, h2, h3, h4⟩ | ⟨h, h1, h2, h3, h4, h5⟩
  all_goals
    go_enter Tryd.func48, Tryd.ntmps48
    go_wp2
    refine wp_loop_rounds 2 ?_
    rw [rounds_succ]
    go_wp2_with (go_at_call 66; refine (array_c x y z _).mono ?_; rintro e w1 ⟨rfl, hb⟩)
    have B1 : Below w.heap.size w w1 := b_step (by go_grown) hb (by simp)
    clear hb
    refine wp_loop_rounds 4 ?_
    rw [rounds_succ]
    go_wp2
    try (rw [rounds_succ]; go_wp2)
    try (rw [rounds_succ]; go_wp2)
    try (rw [rounds_succ]; go_wp2)
    try (rw [rounds_succ]; go_wp2)
    go_ret
    exact ⟨ret_bool (by first | exact (near_out (by omega)).symm | exact (nearB_t.2 (by omega)).symm), B1⟩

set_option maxHeartbeats 8000000 in
theorem near2_c (x y z p q r : Int) (b : Nat) (w : World) (hx : w.cell? ⟨b, 0, none⟩ = some (.int .i64 x)) (hy : w.cell? ⟨b, 1, none⟩ = some (.int .i64 y)) (hz : w.cell? ⟨b, 2, none⟩ = some (.int .i64 z))
    (hp : w.cell? ⟨b, 3, none⟩ = some (.int .i64 p)) (hq : w.cell? ⟨b, 4, none⟩ = some (.int .i64 q)) (hr : w.cell? ⟨b, 5, none⟩ = some (.int .i64 r)) :
    Calls Tryd.prog 48 #[.slice (some ⟨b, 0, none⟩) 2 2] w fun e w' => e = .returned (.bool (nearB x y z && nearB p q r)) ∧ Below w.heap.size w w' := by
  have i0 := fun w => (index3' x y z w).1
  have i1 := fun w => (index3' x y z w).2.1
  have i2 := fun w => (index3' x y z w).2.2
  have j0 := fun w => (index3' p q r w).1
  have j1 := fun w => (index3' p q r w).2.1
  have j2 := fun w => (index3' p q r w).2.2
  rcases (show x < -1000000 ∨ 1000000 < x ∨ (-1000000 ≤ x ∧ x ≤ 1000000 ∧ y < -1000000) ∨ (-1000000 ≤ x ∧ x ≤ 1000000 ∧ 1000000 < y) ∨ (-1000000 ≤ x ∧ x ≤ 1000000 ∧ -1000000 ≤ y ∧ y ≤ 1000000 ∧ z < -1000000) ∨ (-1000000 ≤ x ∧ x ≤ 1000000 ∧ -1000000 ≤ y ∧ y ≤ 1000000 ∧ 1000000 < z) ∨ (-1000000 ≤ x ∧ x ≤ 1000000 ∧ -1000000 ≤ y ∧ y ≤ 1000000 ∧ -1000000 ≤ z ∧ z ≤ 1000000) by omega) with h | h | ⟨h, h1, h2⟩ | ⟨h, h1, h2⟩ | ⟨h, h1, h2, h3, h4⟩ | ⟨h, h1, h2, h3, h4⟩ | ⟨h, h1, h2, h3, h4, h5⟩
  rotate_left 6
  · rcases (show p < -1000000 ∨ 1000000 < p ∨ (-1000000 ≤ p ∧ p ≤ 1000000 ∧ q < -1000000) ∨ (-1000000 ≤ p ∧ p ≤ 1000000 ∧ 1000000 < q) ∨ (-1000000 ≤ p ∧ p ≤ 1000000 ∧ -1000000 ≤ q ∧ q ≤ 1000000 ∧ r < -1000000) ∨ (-1000000 ≤ p ∧ p ≤ 1000000 ∧ -1000000 ≤ q ∧ q ≤ 1000000 ∧ 1000000 < r) ∨ (-1000000 ≤ p ∧ p ≤ 1000000 ∧ -1000000 ≤ q ∧ q ≤ 1000000 ∧ -1000000 ≤ r ∧ r ≤ 1000000) by omega) with k | k | ⟨k, k1, k2⟩ | ⟨k, k1, k2⟩ | ⟨k, k1, k2, k3, k4⟩ | ⟨k, k1, k2, k3, k4⟩ | ⟨k, k1, k2, k3, k4, k5⟩
    all_goals
      go_enter Tryd.func48, Tryd.ntmps48
      go_wp2
      refine wp_loop_rounds 3 ?_
      rw [rounds_succ]
      go_wp2_with (go_at_call 66; refine (array_c x y z _).mono ?_; rintro e w1 ⟨rfl, hb⟩)
      have B1 : Below w.heap.size w w1 := b_step (by go_grown) hb (by simp)
      have hp := cell_later B1 hp
      have hq := cell_later B1 hq
      have hr := cell_later B1 hr
      clear hb
      refine wp_loop_rounds 4 ?_
      rw [rounds_succ]
      go_wp2
      rw [rounds_succ]
      go_wp2
      rw [rounds_succ]
      go_wp2
      rw [rounds_succ]
      go_wp2
      rw [rounds_succ]
      go_wp2_with (go_at_call 66; refine (array_c p q r _).mono ?_; rintro e w2 ⟨rfl, hb⟩)
      have B2 : Below w.heap.size w w2 := b_step (B1.alloc B1.size _) hb (by have := B1.size; simp; omega)
      clear hb
      refine wp_loop_rounds 4 ?_
      rw [rounds_succ]
      go_wp2
      try (rw [rounds_succ]; go_wp2)
      try (rw [rounds_succ]; go_wp2)
      try (rw [rounds_succ]; go_wp2)
      try (rw [rounds_succ]; go_wp2)
      go_ret
      exact ⟨ret_bool (by first | (rw [near_out (x := p) (by omega)]; simp) | (rw [nearB_t.2 (by omega), nearB_t.2 (by omega)]; rfl)), B2⟩
  all_goals
    go_enter Tryd.func48, Tryd.ntmps48
    go_wp2
    refine wp_loop_rounds 3 ?_
    rw [rounds_succ]
    go_wp2_with (go_at_call 66; refine (array_c x y z _).mono ?_; rintro e w1 ⟨rfl, hb⟩)
    have B1 : Below w.heap.size w w1 := b_step (by go_grown) hb (by simp)
    clear hb
    refine wp_loop_rounds 4 ?_
    rw [rounds_succ]
    go_wp2
    try (rw [rounds_succ]; go_wp2)
    try (rw [rounds_succ]; go_wp2)
    try (rw [rounds_succ]; go_wp2)
    try (rw [rounds_succ]; go_wp2)
    go_ret
    exact ⟨ret_bool (by rw [near_out (x := x) (by omega)]; simp), B1⟩
end Go.Proofs.YtibncdefhphggaaDoor
