/- The contract of apply. -/
import Derived.Test.YtibncdefhphggaaDoorA0
import Derived.Test.YtibncdefhphggaaDoorA1
namespace Go.Proofs.YtibncdefhphggaaDoor
open Go.RowKit
attribute [local go_sem ↓] Go.wp_at_zero Go.wp_at_succ

def pick (a : Int) (x y z : Int) : Int := if a = 0 then x else if a = 1 then y else z

theorem index3 (x y z a : Int) (h : a = 0 ∨ a = 1 ∨ a = 2) (w : World) : (Instr.index 82 (.agg #[.int .i64 x, .int .i64 y, .int .i64 z]) (.int .i64 a)).run Tryd.prog w = .ok (.int .i64 (pick a x y z)) w := by
  rcases h with rfl | rfl | rfl <;> kernel_rfl

theorem ax3 (n : Nat) (h : n < 24) (i : Nat) (hi : i < 3) : (axT n i : Int) = 0 ∨ (axT n i : Int) = 1 ∨ (axT n i : Int) = 2 := by
  rcases cases24 h with rfl | rfl | rfl | rfl | rfl | rfl | rfl | rfl | rfl | rfl | rfl | rfl | rfl | rfl | rfl | rfl | rfl | rfl | rfl | rfl | rfl | rfl | rfl | rfl <;>
  (have : i = 0 ∨ i = 1 ∨ i = 2 := by omega
   rcases this with rfl | rfl | rfl <;> decide)

set_option maxHeartbeats 2000000 in
theorem apply_aux (n : Nat) (a0 a1 a2 s0 s1 s2 m0 m1 m2 : Int) (h0 : a0 = 0 ∨ a0 = 1 ∨ a0 = 2) (h1 : a1 = 0 ∨ a1 = 1 ∨ a1 = 2) (h2 : a2 = 0 ∨ a2 = 1 ∨ a2 = 2) (x y z : Int) (w : World)
    (e0 : IntKind.i64.wrap (s0 * pick a0 x y z) = m0) (e1 : IntKind.i64.wrap (s1 * pick a1 x y z) = m1) (e2 : IntKind.i64.wrap (s2 * pick a2 x y z) = m2)
    (H : ∀ w, Calls Tryd.prog 69 #[.int .i64 n] w fun e w' => e = .returned (.agg #[.int .i64 a0, .int .i64 a1, .int .i64 a2, .int .i64 s0, .int .i64 s1, .int .i64 s2]) ∧ Below w.heap.size w w') :
    Calls Tryd.prog 62 #[.int .i64 n, vV x y z] w fun e w' => e = .returned (vV m0 m1 m2) ∧ Below w.heap.size w w' := by
  have i0 := fun w => index3 x y z a0 h0 w
  have i1 := fun w => index3 x y z a1 h1 w
  have i2 := fun w => index3 x y z a2 h2 w
  have j0 := fun w => index3 a0 a1 a2 0 (by omega) w
  have j1 := fun w => index3 a0 a1 a2 1 (by omega) w
  have j2 := fun w => index3 a0 a1 a2 2 (by omega) w
  simp [pick] at j0 j1 j2
  clear h0 h1 h2
  have K := Lib.hid H; clear H
  go_enter Tryd.func62, Tryd.ntmps62
  go_wp2_with (go_at_call 69; refine (K.out _).mono ?_; rintro e w1 ⟨rfl, hb⟩)
  have hz : w.heap.size + 1 < w1.heap.size := by have := hb.size; simp at this; omega
  have c0 : w1.cell? ⟨w.heap.size, 0, none⟩ = some (.int .i64 x) := cell_later hb (by go_cell)
  have c1 : w1.cell? ⟨w.heap.size, 1, none⟩ = some (.int .i64 y) := cell_later hb (by go_cell)
  have c2 : w1.cell? ⟨w.heap.size, 2, none⟩ = some (.int .i64 z) := cell_later hb (by go_cell)
  have r0 : w1.cell? ⟨w.heap.size + 1, 0, none⟩ = some (.int .i64 0) := cell_later hb (by go_cell)
  have r1 : w1.cell? ⟨w.heap.size + 1, 1, none⟩ = some (.int .i64 0) := cell_later hb (by go_cell)
  have r2 : w1.cell? ⟨w.heap.size + 1, 2, none⟩ = some (.int .i64 0) := cell_later hb (by go_cell)
  have q0 : w1.frozen? ⟨w.heap.size + 1, 0, none⟩ = false := f_later hb (by simp) (f_at (by simp))
  have q1 : w1.frozen? ⟨w.heap.size + 1, 1, none⟩ = false := f_later hb (by simp) (f_at (by simp))
  have q2 : w1.frozen? ⟨w.heap.size + 1, 2, none⟩ = false := f_later hb (by simp) (f_at (by simp))
  have hB : Below w.heap.size w w1 := b_step (by go_grown) hb (by simp; omega)
  clear hb
  go_wp2
  refine wp_loop_rounds 4 ?_
  rw [rounds_succ]
  obtain ⟨W0, hW⟩ : ∃ W, W = (w1.alloc (Obj.cells #[Value.int IntKind.i64 a0, Value.int IntKind.i64 a1, Value.int IntKind.i64 a2, Value.int IntKind.i64 s0, Value.int IntKind.i64 s1, Value.int IntKind.i64 s2] 87)).alloc (Obj.cells #[Value.int IntKind.i64 0, Value.int IntKind.i64 0, Value.int IntKind.i64 0] 82) := ⟨_, rfl⟩
  rw [← hW]
  have z0 : w1.heap.size + 1 < W0.heap.size := by subst hW; simp
  have d00 : W0.cell? ⟨w.heap.size, 0, none⟩ = some (.int .i64 x) := by subst hW; exact c_alloc (c_alloc c0)
  have d01 : W0.cell? ⟨w.heap.size, 1, none⟩ = some (.int .i64 y) := by subst hW; exact c_alloc (c_alloc c1)
  have d02 : W0.cell? ⟨w.heap.size, 2, none⟩ = some (.int .i64 z) := by subst hW; exact c_alloc (c_alloc c2)
  have s00c : W0.cell? ⟨w1.heap.size, 3, none⟩ = some (.int .i64 s0) := by subst hW; exact c_alloc (c_new rfl)
  have s01c : W0.cell? ⟨w1.heap.size, 4, none⟩ = some (.int .i64 s1) := by subst hW; exact c_alloc (c_new rfl)
  have s02c : W0.cell? ⟨w1.heap.size, 5, none⟩ = some (.int .i64 s2) := by subst hW; exact c_alloc (c_new rfl)
  have o00 : W0.cell? ⟨w1.heap.size + 1, 0, none⟩ = some (.int .i64 (0)) := by subst hW; exact c_at (by simp) rfl
  have o01 : W0.cell? ⟨w1.heap.size + 1, 1, none⟩ = some (.int .i64 (0)) := by subst hW; exact c_at (by simp) rfl
  have o02 : W0.cell? ⟨w1.heap.size + 1, 2, none⟩ = some (.int .i64 (0)) := by subst hW; exact c_at (by simp) rfl
  have u00 : W0.frozen? ⟨w1.heap.size + 1, 0, none⟩ = false := by subst hW; exact f_at (by simp)
  have u01 : W0.frozen? ⟨w1.heap.size + 1, 1, none⟩ = false := by subst hW; exact f_at (by simp)
  have u02 : W0.frozen? ⟨w1.heap.size + 1, 2, none⟩ = false := by subst hW; exact f_at (by simp)
  have p00 : W0.cell? ⟨w.heap.size + 1, 0, none⟩ = some (.int .i64 0) := by subst hW; exact c_alloc (c_alloc r0)
  have p01 : W0.cell? ⟨w.heap.size + 1, 1, none⟩ = some (.int .i64 0) := by subst hW; exact c_alloc (c_alloc r1)
  have p02 : W0.cell? ⟨w.heap.size + 1, 2, none⟩ = some (.int .i64 0) := by subst hW; exact c_alloc (c_alloc r2)
  have v00 : W0.frozen? ⟨w.heap.size + 1, 0, none⟩ = false := by subst hW; exact f_alloc (by simp; omega) (f_alloc (by omega) q0)
  have v01 : W0.frozen? ⟨w.heap.size + 1, 1, none⟩ = false := by subst hW; exact f_alloc (by simp; omega) (f_alloc (by omega) q1)
  have v02 : W0.frozen? ⟨w.heap.size + 1, 2, none⟩ = false := by subst hW; exact f_alloc (by simp; omega) (f_alloc (by omega) q2)
  have b0 : Below w.heap.size w W0 := by subst hW; exact (hB.alloc (by omega) _).alloc (by simp; omega) _
  clear hW
  go_wp2
  have mk0 : ∀ w', Sm [w.heap.size, w1.heap.size] W0 w' → (Sm [w.heap.size, w1.heap.size] W0 w' ∧ w'.cell? ⟨w1.heap.size, 3, none⟩ = some (.int .i64 s0) ∧ w'.cell? ⟨w.heap.size, 0, none⟩ = some (.int .i64 x) ∧ w'.cell? ⟨w.heap.size, 1, none⟩ = some (.int .i64 y) ∧ w'.cell? ⟨w.heap.size, 2, none⟩ = some (.int .i64 z)) := fun w' h => ⟨h, h.cell (by simp) (by assumption), h.cell (by simp) (by assumption), h.cell (by simp) (by assumption), h.cell (by simp) (by assumption)⟩
  have rf0 : Sm [w.heap.size, w1.heap.size] W0 W0 := Sm.refl (by simp; omega)
  go_region_held3 (fun w' => Sm [w.heap.size, w1.heap.size] W0 w' ∧ w'.cell? ⟨w1.heap.size, 3, none⟩ = some (.int .i64 s0) ∧ w'.cell? ⟨w.heap.size, 0, none⟩ = some (.int .i64 x) ∧ w'.cell? ⟨w.heap.size, 1, none⟩ = some (.int .i64 y) ∧ w'.cell? ⟨w.heap.size, 2, none⟩ = some (.int .i64 z)) ((go_split_ands; refine mk0 _ ?_; first | exact rf0.drew | exact Sm.below (by assumption) y0 | (refine Sm.far (by assumption) _ _ ?_; simp; omega)))
    (first | (go_at_call 66; refine (array_c x y z _).mono ?_; rintro e t0 ⟨rfl, y0⟩; have kc0 := cell_later y0 o00; have kf0 := f_later y0 (by simp; omega) u00))
  have g0 : Below w.heap.size w t0 := b_step b0.drew y0 (by simp; omega)
  have zz0 : w1.heap.size + 1 < t0.heap.size := by have := y0.size; simp at this; omega
  clear mk0 rf0
  obtain ⟨W1, hW1⟩ : ∃ W, W = t0.setCell ⟨w1.heap.size + 1, 0, none⟩ (.int .i64 (m0)) := ⟨_, rfl⟩
  have z1 : w1.heap.size + 1 < W1.heap.size := by subst hW1; simp; omega
  have b1 : Below w.heap.size w W1 := by subst hW1; exact g0.setCell (by simp; omega) _
  have d10 : W1.cell? ⟨w.heap.size, 0, none⟩ = some (.int .i64 x) := by subst hW1; exact c_far (by simp; try omega) (cell_later y0 d00)
  have d11 : W1.cell? ⟨w.heap.size, 1, none⟩ = some (.int .i64 y) := by subst hW1; exact c_far (by simp; try omega) (cell_later y0 d01)
  have d12 : W1.cell? ⟨w.heap.size, 2, none⟩ = some (.int .i64 z) := by subst hW1; exact c_far (by simp; try omega) (cell_later y0 d02)
  have s11c : W1.cell? ⟨w1.heap.size, 4, none⟩ = some (.int .i64 s1) := by subst hW1; exact c_far (by simp; try omega) (cell_later y0 s01c)
  have s12c : W1.cell? ⟨w1.heap.size, 5, none⟩ = some (.int .i64 s2) := by subst hW1; exact c_far (by simp; try omega) (cell_later y0 s02c)
  have o10 : W1.cell? ⟨w1.heap.size + 1, 0, none⟩ = some (.int .i64 (m0)) := by subst hW1; exact c_same (cell_later y0 o00)
  have o11 : W1.cell? ⟨w1.heap.size + 1, 1, none⟩ = some (.int .i64 (0)) := by subst hW1; exact c_off (by decide) (cell_later y0 o01)
  have o12 : W1.cell? ⟨w1.heap.size + 1, 2, none⟩ = some (.int .i64 (0)) := by subst hW1; exact c_off (by decide) (cell_later y0 o02)
  have u10 : W1.frozen? ⟨w1.heap.size + 1, 0, none⟩ = false := by subst hW1; exact f_set (f_later y0 (by simp; try omega) u00)
  have u11 : W1.frozen? ⟨w1.heap.size + 1, 1, none⟩ = false := by subst hW1; exact f_set (f_later y0 (by simp; try omega) u01)
  have u12 : W1.frozen? ⟨w1.heap.size + 1, 2, none⟩ = false := by subst hW1; exact f_set (f_later y0 (by simp; try omega) u02)
  have p10 : W1.cell? ⟨w.heap.size + 1, 0, none⟩ = some (.int .i64 0) := by subst hW1; exact c_far (by simp; try omega) (cell_later y0 p00)
  have p11 : W1.cell? ⟨w.heap.size + 1, 1, none⟩ = some (.int .i64 0) := by subst hW1; exact c_far (by simp; try omega) (cell_later y0 p01)
  have p12 : W1.cell? ⟨w.heap.size + 1, 2, none⟩ = some (.int .i64 0) := by subst hW1; exact c_far (by simp; try omega) (cell_later y0 p02)
  have v10 : W1.frozen? ⟨w.heap.size + 1, 0, none⟩ = false := by subst hW1; exact f_set (f_later y0 (by simp; try omega) v00)
  have v11 : W1.frozen? ⟨w.heap.size + 1, 1, none⟩ = false := by subst hW1; exact f_set (f_later y0 (by simp; try omega) v01)
  have v12 : W1.frozen? ⟨w.heap.size + 1, 2, none⟩ = false := by subst hW1; exact f_set (f_later y0 (by simp; try omega) v02)
  rw [← hW1]
  clear hW1 g0 zz0 kc0 kf0 y0 b0 z0
  clear d00 d01 d02 s00c s01c s02c o00 o01 o02 u00 u01 u02 p00 p01 p02 v00 v01 v02
  go_wp2
  rw [rounds_succ]
  go_wp2
  have mk1 : ∀ w', Sm [w.heap.size, w1.heap.size] W1 w' → (Sm [w.heap.size, w1.heap.size] W1 w' ∧ w'.cell? ⟨w1.heap.size, 4, none⟩ = some (.int .i64 s1) ∧ w'.cell? ⟨w.heap.size, 0, none⟩ = some (.int .i64 x) ∧ w'.cell? ⟨w.heap.size, 1, none⟩ = some (.int .i64 y) ∧ w'.cell? ⟨w.heap.size, 2, none⟩ = some (.int .i64 z)) := fun w' h => ⟨h, h.cell (by simp) (by assumption), h.cell (by simp) (by assumption), h.cell (by simp) (by assumption), h.cell (by simp) (by assumption)⟩
  have rf1 : Sm [w.heap.size, w1.heap.size] W1 W1 := Sm.refl (by simp; omega)
  go_region_held3 (fun w' => Sm [w.heap.size, w1.heap.size] W1 w' ∧ w'.cell? ⟨w1.heap.size, 4, none⟩ = some (.int .i64 s1) ∧ w'.cell? ⟨w.heap.size, 0, none⟩ = some (.int .i64 x) ∧ w'.cell? ⟨w.heap.size, 1, none⟩ = some (.int .i64 y) ∧ w'.cell? ⟨w.heap.size, 2, none⟩ = some (.int .i64 z)) ((go_split_ands; refine mk1 _ ?_; first | exact rf1.drew | exact Sm.below (by assumption) y1 | (refine Sm.far (by assumption) _ _ ?_; simp; omega)))
    (first | (go_at_call 66; refine (array_c x y z _).mono ?_; rintro e t1 ⟨rfl, y1⟩; have kc1 := cell_later y1 o11; have kf1 := f_later y1 (by simp; omega) u11))
  have g1 : Below w.heap.size w t1 := b_step b1.drew y1 (by simp; omega)
  have zz1 : w1.heap.size + 1 < t1.heap.size := by have := y1.size; simp at this; omega
  clear mk1 rf1
  obtain ⟨W2, hW2⟩ : ∃ W, W = t1.setCell ⟨w1.heap.size + 1, 1, none⟩ (.int .i64 (m1)) := ⟨_, rfl⟩
  have z2 : w1.heap.size + 1 < W2.heap.size := by subst hW2; simp; omega
  have b2 : Below w.heap.size w W2 := by subst hW2; exact g1.setCell (by simp; omega) _
  have d20 : W2.cell? ⟨w.heap.size, 0, none⟩ = some (.int .i64 x) := by subst hW2; exact c_far (by simp; try omega) (cell_later y1 d10)
  have d21 : W2.cell? ⟨w.heap.size, 1, none⟩ = some (.int .i64 y) := by subst hW2; exact c_far (by simp; try omega) (cell_later y1 d11)
  have d22 : W2.cell? ⟨w.heap.size, 2, none⟩ = some (.int .i64 z) := by subst hW2; exact c_far (by simp; try omega) (cell_later y1 d12)
  have s22c : W2.cell? ⟨w1.heap.size, 5, none⟩ = some (.int .i64 s2) := by subst hW2; exact c_far (by simp; try omega) (cell_later y1 s12c)
  have o20 : W2.cell? ⟨w1.heap.size + 1, 0, none⟩ = some (.int .i64 (m0)) := by subst hW2; exact c_off (by decide) (cell_later y1 o10)
  have o21 : W2.cell? ⟨w1.heap.size + 1, 1, none⟩ = some (.int .i64 (m1)) := by subst hW2; exact c_same (cell_later y1 o11)
  have o22 : W2.cell? ⟨w1.heap.size + 1, 2, none⟩ = some (.int .i64 (0)) := by subst hW2; exact c_off (by decide) (cell_later y1 o12)
  have u20 : W2.frozen? ⟨w1.heap.size + 1, 0, none⟩ = false := by subst hW2; exact f_set (f_later y1 (by simp; try omega) u10)
  have u21 : W2.frozen? ⟨w1.heap.size + 1, 1, none⟩ = false := by subst hW2; exact f_set (f_later y1 (by simp; try omega) u11)
  have u22 : W2.frozen? ⟨w1.heap.size + 1, 2, none⟩ = false := by subst hW2; exact f_set (f_later y1 (by simp; try omega) u12)
  have p20 : W2.cell? ⟨w.heap.size + 1, 0, none⟩ = some (.int .i64 0) := by subst hW2; exact c_far (by simp; try omega) (cell_later y1 p10)
  have p21 : W2.cell? ⟨w.heap.size + 1, 1, none⟩ = some (.int .i64 0) := by subst hW2; exact c_far (by simp; try omega) (cell_later y1 p11)
  have p22 : W2.cell? ⟨w.heap.size + 1, 2, none⟩ = some (.int .i64 0) := by subst hW2; exact c_far (by simp; try omega) (cell_later y1 p12)
  have v20 : W2.frozen? ⟨w.heap.size + 1, 0, none⟩ = false := by subst hW2; exact f_set (f_later y1 (by simp; try omega) v10)
  have v21 : W2.frozen? ⟨w.heap.size + 1, 1, none⟩ = false := by subst hW2; exact f_set (f_later y1 (by simp; try omega) v11)
  have v22 : W2.frozen? ⟨w.heap.size + 1, 2, none⟩ = false := by subst hW2; exact f_set (f_later y1 (by simp; try omega) v12)
  rw [← hW2]
  clear hW2 g1 zz1 kc1 kf1 y1 b1 z1
  clear d10 d11 d12 s11c s12c o10 o11 o12 u10 u11 u12 p10 p11 p12 v10 v11 v12
  go_wp2
  rw [rounds_succ]
  go_wp2
  have mk2 : ∀ w', Sm [w.heap.size, w1.heap.size] W2 w' → (Sm [w.heap.size, w1.heap.size] W2 w' ∧ w'.cell? ⟨w1.heap.size, 5, none⟩ = some (.int .i64 s2) ∧ w'.cell? ⟨w.heap.size, 0, none⟩ = some (.int .i64 x) ∧ w'.cell? ⟨w.heap.size, 1, none⟩ = some (.int .i64 y) ∧ w'.cell? ⟨w.heap.size, 2, none⟩ = some (.int .i64 z)) := fun w' h => ⟨h, h.cell (by simp) (by assumption), h.cell (by simp) (by assumption), h.cell (by simp) (by assumption), h.cell (by simp) (by assumption)⟩
  have rf2 : Sm [w.heap.size, w1.heap.size] W2 W2 := Sm.refl (by simp; omega)
  go_region_held3 (fun w' => Sm [w.heap.size, w1.heap.size] W2 w' ∧ w'.cell? ⟨w1.heap.size, 5, none⟩ = some (.int .i64 s2) ∧ w'.cell? ⟨w.heap.size, 0, none⟩ = some (.int .i64 x) ∧ w'.cell? ⟨w.heap.size, 1, none⟩ = some (.int .i64 y) ∧ w'.cell? ⟨w.heap.size, 2, none⟩ = some (.int .i64 z)) ((go_split_ands; refine mk2 _ ?_; first | exact rf2.drew | exact Sm.below (by assumption) y2 | (refine Sm.far (by assumption) _ _ ?_; simp; omega)))
    (first | (go_at_call 66; refine (array_c x y z _).mono ?_; rintro e t2 ⟨rfl, y2⟩; have kc2 := cell_later y2 o22; have kf2 := f_later y2 (by simp; omega) u22))
  have g2 : Below w.heap.size w t2 := b_step b2.drew y2 (by simp; omega)
  have zz2 : w1.heap.size + 1 < t2.heap.size := by have := y2.size; simp at this; omega
  clear mk2 rf2
  obtain ⟨W3, hW3⟩ : ∃ W, W = t2.setCell ⟨w1.heap.size + 1, 2, none⟩ (.int .i64 (m2)) := ⟨_, rfl⟩
  have z3 : w1.heap.size + 1 < W3.heap.size := by subst hW3; simp; omega
  have b3 : Below w.heap.size w W3 := by subst hW3; exact g2.setCell (by simp; omega) _
  have d30 : W3.cell? ⟨w.heap.size, 0, none⟩ = some (.int .i64 x) := by subst hW3; exact c_far (by simp; try omega) (cell_later y2 d20)
  have d31 : W3.cell? ⟨w.heap.size, 1, none⟩ = some (.int .i64 y) := by subst hW3; exact c_far (by simp; try omega) (cell_later y2 d21)
  have d32 : W3.cell? ⟨w.heap.size, 2, none⟩ = some (.int .i64 z) := by subst hW3; exact c_far (by simp; try omega) (cell_later y2 d22)
  have o30 : W3.cell? ⟨w1.heap.size + 1, 0, none⟩ = some (.int .i64 (m0)) := by subst hW3; exact c_off (by decide) (cell_later y2 o20)
  have o31 : W3.cell? ⟨w1.heap.size + 1, 1, none⟩ = some (.int .i64 (m1)) := by subst hW3; exact c_off (by decide) (cell_later y2 o21)
  have o32 : W3.cell? ⟨w1.heap.size + 1, 2, none⟩ = some (.int .i64 (m2)) := by subst hW3; exact c_same (cell_later y2 o22)
  have u30 : W3.frozen? ⟨w1.heap.size + 1, 0, none⟩ = false := by subst hW3; exact f_set (f_later y2 (by simp; try omega) u20)
  have u31 : W3.frozen? ⟨w1.heap.size + 1, 1, none⟩ = false := by subst hW3; exact f_set (f_later y2 (by simp; try omega) u21)
  have u32 : W3.frozen? ⟨w1.heap.size + 1, 2, none⟩ = false := by subst hW3; exact f_set (f_later y2 (by simp; try omega) u22)
  have p30 : W3.cell? ⟨w.heap.size + 1, 0, none⟩ = some (.int .i64 0) := by subst hW3; exact c_far (by simp; try omega) (cell_later y2 p20)
  have p31 : W3.cell? ⟨w.heap.size + 1, 1, none⟩ = some (.int .i64 0) := by subst hW3; exact c_far (by simp; try omega) (cell_later y2 p21)
  have p32 : W3.cell? ⟨w.heap.size + 1, 2, none⟩ = some (.int .i64 0) := by subst hW3; exact c_far (by simp; try omega) (cell_later y2 p22)
  have v30 : W3.frozen? ⟨w.heap.size + 1, 0, none⟩ = false := by subst hW3; exact f_set (f_later y2 (by simp; try omega) v20)
  have v31 : W3.frozen? ⟨w.heap.size + 1, 1, none⟩ = false := by subst hW3; exact f_set (f_later y2 (by simp; try omega) v21)
  have v32 : W3.frozen? ⟨w.heap.size + 1, 2, none⟩ = false := by subst hW3; exact f_set (f_later y2 (by simp; try omega) v22)
  rw [← hW3]
  clear hW3 g2 zz2 kc2 kf2 y2 b2 z2
  clear d20 d21 d22 s22c o20 o21 o22 u20 u21 u22 p20 p21 p22 v20 v21 v22
  go_wp2
  rw [rounds_succ]
  go_wp2_with (go_at_call 70; refine (vec_c m0 m1 m2 _).mono ?_; rintro e w9 ⟨rfl, y9⟩; have x0 := cell_later y9 p30; have x1 := cell_later y9 p31; have x2 := cell_later y9 p32; have x3 := f_later y9 (by simp; omega) v30; have x4 := f_later y9 (by simp; omega) v31; have x5 := f_later y9 (by simp; omega) v32)
  have bz : Below w.heap.size w w9 := b_step b3 y9 (by omega)
  have q0 := c_off (w := (w9.setCell ⟨w.heap.size + 1, 0, none⟩ (.int .i64 m0)).setCell ⟨w.heap.size + 1, 1, none⟩ (.int .i64 m1)) (j := 2) (u := .int .i64 m2) (by decide) (c_off (by decide) (c_same x0))
  have q1 := c_off (w := (w9.setCell ⟨w.heap.size + 1, 0, none⟩ (.int .i64 m0)).setCell ⟨w.heap.size + 1, 1, none⟩ (.int .i64 m1)) (j := 2) (u := .int .i64 m2) (by decide) (c_same (c_off (by decide) x1))
  have q2 := c_same (w := (w9.setCell ⟨w.heap.size + 1, 0, none⟩ (.int .i64 m0)).setCell ⟨w.heap.size + 1, 1, none⟩ (.int .i64 m1)) (u := .int .i64 m2) (c_off (by decide) (c_off (by decide) x2))
  refine bodyPost_ret (v := vV m0 m1 m2) (by simp [results, Tryd.results62, go_sem, q0, q1, q2]) rfl ?_
  exact ⟨rfl, ((bz.setCell (by simp) _).setCell (by simp) _).setCell (by simp) _⟩

theorem wrap_unit {s p : Int} (hs : s = 1 ∨ s = -1) (hp : -1000000000 ≤ p ∧ p ≤ 1000000000) : IntKind.i64.wrap (s * p) = s * p := by
  have : -1000000000 ≤ s * p ∧ s * p ≤ 1000000000 := by rcases hs with rfl | rfl <;> omega
  exact IntWalk.i64_in _ (by omega)

theorem pick_bd {a x y z B : Int} (h0 : -B ≤ x ∧ x ≤ B) (h1 : -B ≤ y ∧ y ≤ B) (h2 : -B ≤ z ∧ z ≤ B) : -B ≤ pick a x y z ∧ pick a x y z ≤ B := by
  unfold pick; split
  · exact h0
  · split
    · exact h1
    · exact h2

theorem sg1 (n : Nat) (h : n < 24) (i : Nat) (hi : i < 3) : sgT n i = 1 ∨ sgT n i = -1 := by
  rcases cases24 h with rfl | rfl | rfl | rfl | rfl | rfl | rfl | rfl | rfl | rfl | rfl | rfl | rfl | rfl | rfl | rfl | rfl | rfl | rfl | rfl | rfl | rfl | rfl | rfl <;>
  (have : i = 0 ∨ i = 1 ∨ i = 2 := by omega
   rcases this with rfl | rfl | rfl <;> decide)

/-- Coordinate i of the image of a point under turn n. -/
def ap (n i : Nat) (x y z : Int) : Int := sgT n i * pick (axT n i) x y z

theorem ap_bd {n i : Nat} (h : n < 24) (hi : i < 3) {x y z B : Int} (h0 : -B ≤ x ∧ x ≤ B) (h1 : -B ≤ y ∧ y ≤ B) (h2 : -B ≤ z ∧ z ≤ B) : -B ≤ ap n i x y z ∧ ap n i x y z ≤ B := by
  have hp := pick_bd (a := axT n i) h0 h1 h2
  unfold ap
  rcases sg1 n h i hi with e | e <;> rw [e] <;> omega

/-- apply returns the image of a point. -/
theorem apply_c (n : Nat) (h : n < 24) (x y z : Int) (h0 : -1000000000 ≤ x ∧ x ≤ 1000000000) (h1 : -1000000000 ≤ y ∧ y ≤ 1000000000) (h2 : -1000000000 ≤ z ∧ z ≤ 1000000000) (w : World) :
    Calls Tryd.prog 62 #[.int .i64 n, vV x y z] w fun e w' => e = .returned (vV (ap n 0 x y z) (ap n 1 x y z) (ap n 2 x y z)) ∧ Below w.heap.size w w' :=
  apply_aux n (axT n 0) (axT n 1) (axT n 2) (sgT n 0) (sgT n 1) (sgT n 2) (ap n 0 x y z) (ap n 1 x y z) (ap n 2 x y z) (ax3 n h 0 (by decide)) (ax3 n h 1 (by decide)) (ax3 n h 2 (by decide)) x y z w
    (wrap_unit (sg1 n h 0 (by decide)) (pick_bd h0 h1 h2)) (wrap_unit (sg1 n h 1 (by decide)) (pick_bd h0 h1 h2)) (wrap_unit (sg1 n h 2 (by decide)) (pick_bd h0 h1 h2)) (fun w => turnOf_c n h w)
end Go.Proofs.YtibncdefhphggaaDoor
