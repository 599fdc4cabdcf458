/- The contracts of sized, result, image and turned. -/
import Derived.Test.YtibncdefhphggaaDoorA2
import Derived.Test.YtibncdefhphggaaDoorA3
namespace Go.Proofs.YtibncdefhphggaaDoor
open Go.RowKit
attribute [local go_sem ↓] Go.wp_at_zero Go.wp_at_succ

def szB (x y z : Int) : Bool := nearB x y z && decide (1 ≤ x) && decide (1 ≤ y) && decide (1 ≤ z)
theorem szB_t {x y z : Int} : szB x y z = true ↔ (1 ≤ x ∧ x ≤ 1000000) ∧ (1 ≤ y ∧ y ≤ 1000000) ∧ (1 ≤ z ∧ z ≤ 1000000) := by
  simp only [szB, Bool.and_eq_true, nearB_t, decide_eq_true_eq]; omega
theorem sz_cases (x y z : Int) : (nearB x y z = false ∧ szB x y z = false) ∨ (nearB x y z = true ∧ x < 1 ∧ szB x y z = false) ∨ (nearB x y z = true ∧ 1 ≤ x ∧ y < 1 ∧ szB x y z = false) ∨ (nearB x y z = true ∧ 1 ≤ x ∧ 1 ≤ y ∧ z < 1 ∧ szB x y z = false) ∨ (nearB x y z = true ∧ 1 ≤ x ∧ 1 ≤ y ∧ 1 ≤ z ∧ szB x y z = true) := by
  unfold szB
  cases nearB x y z
  · simp
  · simp; omega

theorem near1_t {x y z : Int} (h : nearB x y z = true) (b : Nat) (w : World) (hx : w.cell? ⟨b, 0, none⟩ = some (.int .i64 x)) (hy : w.cell? ⟨b, 1, none⟩ = some (.int .i64 y)) (hz : w.cell? ⟨b, 2, none⟩ = some (.int .i64 z)) :
    Calls Tryd.prog 48 #[.slice (some ⟨b, 0, none⟩) 1 1] w fun e w' => e = .returned (.bool true) ∧ Below w.heap.size w w' := by
  have := near1_c x y z b w hx hy hz; rw [h] at this; exact this
theorem near1_f {x y z : Int} (h : nearB x y z = false) (b : Nat) (w : World) (hx : w.cell? ⟨b, 0, none⟩ = some (.int .i64 x)) (hy : w.cell? ⟨b, 1, none⟩ = some (.int .i64 y)) (hz : w.cell? ⟨b, 2, none⟩ = some (.int .i64 z)) :
    Calls Tryd.prog 48 #[.slice (some ⟨b, 0, none⟩) 1 1] w fun e w' => e = .returned (.bool false) ∧ Below w.heap.size w w' := by
  have := near1_c x y z b w hx hy hz; rw [h] at this; exact this

set_option maxHeartbeats 2000000 in
theorem sized1_c (x y z : Int) (b : Nat) (w : World) (hx : w.cell? ⟨b, 0, none⟩ = some (.int .i64 x)) (hy : w.cell? ⟨b, 1, none⟩ = some (.int .i64 y)) (hz : w.cell? ⟨b, 2, none⟩ = some (.int .i64 z)) :
    Calls Tryd.prog 51 #[.slice (some ⟨b, 0, none⟩) 1 1] w fun e w' => e = .returned (.bool (szB x y z)) ∧ Below w.heap.size w w' := by
  rcases sz_cases x y z with ⟨h, hs⟩ | ⟨h, h1, hs⟩ | ⟨h, h1, h2, hs⟩ | ⟨h, h1, h2, h3, hs⟩ | ⟨h, h1, h2, h3, hs⟩
  all_goals
    rw [hs]
    have H := Lib.hid h
    clear h hs
    go_enter Tryd.func51, Tryd.ntmps51
    go_wp2
    refine wp_loop_rounds 2 ?_
    rw [rounds_succ]
    go_wp2_with (go_at_call 48; first | (refine (near1_t H.out _ _ (c_at (by simp) rfl) (c_at (by simp) rfl) (c_at (by simp) rfl)).mono ?_; rintro e w1 ⟨rfl, hb⟩; have f0 : w1.cell? ⟨w.heap.size, 0, none⟩ = some (.int .i64 x) := cell_later hb (c_alloc (c_at rfl rfl)); have f1 : w1.cell? ⟨w.heap.size, 1, none⟩ = some (.int .i64 y) := cell_later hb (c_alloc (c_at rfl rfl)); have f2 : w1.cell? ⟨w.heap.size, 2, none⟩ = some (.int .i64 z) := cell_later hb (c_alloc (c_at rfl rfl))) | (refine (near1_f H.out _ _ (c_at (by simp) rfl) (c_at (by simp) rfl) (c_at (by simp) rfl)).mono ?_; rintro e w1 ⟨rfl, hb⟩; have f0 : w1.cell? ⟨w.heap.size, 0, none⟩ = some (.int .i64 x) := cell_later hb (c_alloc (c_at rfl rfl)); have f1 : w1.cell? ⟨w.heap.size, 1, none⟩ = some (.int .i64 y) := cell_later hb (c_alloc (c_at rfl rfl)); have f2 : w1.cell? ⟨w.heap.size, 2, none⟩ = some (.int .i64 z) := cell_later hb (c_alloc (c_at rfl rfl))))
    have B1 : Below w.heap.size w w1 := b_step (by go_grown) hb (by simp; omega)
    go_wp2
    try (rw [rounds_succ]; go_wp2)
    go_ret
    exact ⟨rfl, B1⟩
end Go.Proofs.YtibncdefhphggaaDoor
