/- The contracts of turned, result, and sized of two sizes. -/
import Derived.Test.YtibncdefhphggaaDoorA5
namespace Go.Proofs.YtibncdefhphggaaDoor
open Go.RowKit
set_option linter.unusedSimpArgs false
set_option linter.unusedVariables false
attribute [local go_sem ↓] Go.wp_at_zero Go.wp_at_succ

/-- The extent of the image of a box from 0 to a size, on axis i. -/
def ext (n i : Nat) (x y z : Int) : Int := max (ap n i 0 0 0) (ap n i x y z) - min (ap n i 0 0 0) (ap n i x y z)

set_option maxHeartbeats 2000000 in
theorem turned_aux (n : Nat) (h : n < 24) (x y z a0 a1 a2 b0 b1 b2 : Int) (H : ∀ w, Calls Tryd.prog 49 #[.int .i64 n, vB 0 0 0 x y z] w fun e w' => e = .returned (vB a0 a1 a2 b0 b1 b2) ∧ Below w.heap.size w w')
    (h0 : -1000000 ≤ a0 ∧ a0 ≤ 1000000) (h1 : -1000000 ≤ a1 ∧ a1 ≤ 1000000) (h2 : -1000000 ≤ a2 ∧ a2 ≤ 1000000) (h3 : -1000000 ≤ b0 ∧ b0 ≤ 1000000) (h4 : -1000000 ≤ b1 ∧ b1 ≤ 1000000) (h5 : -1000000 ≤ b2 ∧ b2 ≤ 1000000) (w : World) :
    Calls Tryd.prog 52 #[.int .i64 n, vV x y z] w fun e w' => e = .returned (vV (b0 + -a0) (b1 + -a1) (b2 + -a2)) ∧ Below w.heap.size w w' := by
  have K := Lib.hid H; clear H
  have N := Lib.hid (fun w => negative_c a0 a1 a2 w (by omega) (by omega) (by omega))
  have A := Lib.hid (fun w => add_c b0 b1 b2 (-a0) (-a1) (-a2) w (by omega) (by omega) (by omega) (by omega) (by omega) (by omega))
  clear h0 h1 h2 h3 h4 h5
  go_enter Tryd.func52, Tryd.ntmps52
  go_wp2_with (go_at_call 49; (with_reducible refine (K.out _).mono ?_); rintro e t0 ⟨rfl, y0⟩)
  have d0 : t0.cell? ⟨w.heap.size + 1, 0, none⟩ = some (.int .i64 0) := cell_later y0 (c_at (by simp) rfl)
  have d1 : t0.cell? ⟨w.heap.size + 1, 1, none⟩ = some (.int .i64 0) := cell_later y0 (c_at (by simp) rfl)
  have d2 : t0.cell? ⟨w.heap.size + 1, 2, none⟩ = some (.int .i64 0) := cell_later y0 (c_at (by simp) rfl)
  have f0 : t0.frozen? ⟨w.heap.size + 1, 0, none⟩ = false := f_later y0 (by simp) (f_at (by simp))
  have f1 : t0.frozen? ⟨w.heap.size + 1, 1, none⟩ = false := f_later y0 (by simp) (f_at (by simp))
  have f2 : t0.frozen? ⟨w.heap.size + 1, 2, none⟩ = false := f_later y0 (by simp) (f_at (by simp))
  have z0 : w.heap.size + 1 < t0.heap.size := by have := y0.size; simp at this; omega
  have b00 : Below w.heap.size w t0 := b_step (by go_grown) y0 (by simp; omega)
  go_wp2
  obtain ⟨W, hW⟩ : ∃ W, W = t0.alloc (.cells #[.int .i64 a0, .int .i64 a1, .int .i64 a2, .int .i64 b0, .int .i64 b1, .int .i64 b2] 27) := ⟨_, rfl⟩
  rw [← hW]
  have c0 : W.cell? ⟨t0.heap.size, 0, none⟩ = some (.int .i64 a0) := by subst hW; exact c_at rfl rfl
  have c1 : W.cell? ⟨t0.heap.size, 1, none⟩ = some (.int .i64 a1) := by subst hW; exact c_at rfl rfl
  have c2 : W.cell? ⟨t0.heap.size, 2, none⟩ = some (.int .i64 a2) := by subst hW; exact c_at rfl rfl
  have c3 : W.cell? ⟨t0.heap.size, 3, none⟩ = some (.int .i64 b0) := by subst hW; exact c_at rfl rfl
  have c4 : W.cell? ⟨t0.heap.size, 4, none⟩ = some (.int .i64 b1) := by subst hW; exact c_at rfl rfl
  have c5 : W.cell? ⟨t0.heap.size, 5, none⟩ = some (.int .i64 b2) := by subst hW; exact c_at rfl rfl
  have dd0 : W.cell? ⟨w.heap.size + 1, 0, none⟩ = some (.int .i64 0) := by subst hW; exact c_alloc d0
  have dd1 : W.cell? ⟨w.heap.size + 1, 1, none⟩ = some (.int .i64 0) := by subst hW; exact c_alloc d1
  have dd2 : W.cell? ⟨w.heap.size + 1, 2, none⟩ = some (.int .i64 0) := by subst hW; exact c_alloc d2
  have ff0 : W.frozen? ⟨w.heap.size + 1, 0, none⟩ = false := by subst hW; exact f_alloc (by omega) f0
  have ff1 : W.frozen? ⟨w.heap.size + 1, 1, none⟩ = false := by subst hW; exact f_alloc (by omega) f1
  have ff2 : W.frozen? ⟨w.heap.size + 1, 2, none⟩ = false := by subst hW; exact f_alloc (by omega) f2
  have zW : t0.heap.size < W.heap.size := by subst hW; simp
  have bW : Below w.heap.size w W := by subst hW; exact b00.alloc (by omega) _
  clear hW
  have mkS : ∀ w', Sm [t0.heap.size] W w' → (Sm [t0.heap.size] W w' ∧ w'.cell? ⟨t0.heap.size, 0, none⟩ = some (.int .i64 a0) ∧ w'.cell? ⟨t0.heap.size, 1, none⟩ = some (.int .i64 a1) ∧ w'.cell? ⟨t0.heap.size, 2, none⟩ = some (.int .i64 a2) ∧ w'.cell? ⟨t0.heap.size, 3, none⟩ = some (.int .i64 b0) ∧ w'.cell? ⟨t0.heap.size, 4, none⟩ = some (.int .i64 b1) ∧ w'.cell? ⟨t0.heap.size, 5, none⟩ = some (.int .i64 b2)) := fun w' h => ⟨h, h.cell (by simp) (by assumption), h.cell (by simp) (by assumption), h.cell (by simp) (by assumption), h.cell (by simp) (by assumption), h.cell (by simp) (by assumption), h.cell (by simp) (by assumption)⟩
  have rfS : Sm [t0.heap.size] W W := Sm.refl (by simp; try omega)
  go_region_held3 (fun w' => Sm [t0.heap.size] W w' ∧ w'.cell? ⟨t0.heap.size, 0, none⟩ = some (.int .i64 a0) ∧ w'.cell? ⟨t0.heap.size, 1, none⟩ = some (.int .i64 a1) ∧ w'.cell? ⟨t0.heap.size, 2, none⟩ = some (.int .i64 a2) ∧ w'.cell? ⟨t0.heap.size, 3, none⟩ = some (.int .i64 b0) ∧ w'.cell? ⟨t0.heap.size, 4, none⟩ = some (.int .i64 b1) ∧ w'.cell? ⟨t0.heap.size, 5, none⟩ = some (.int .i64 b2)) ((refine mkS _ ?_; repeat' (first | (with_reducible exact rfS.drew) | (with_reducible exact rfS) | (with_reducible refine Sm.alloc ?_ _) | (with_reducible refine Sm.drew ?_) | (with_reducible refine Sm.below ?_ (by assumption)) | (with_reducible refine Sm.far ?_ _ _ (by simp; try omega)))))
    (first | (go_at_call 53; (with_reducible refine (N.out _).mono ?_); rintro e t1 ⟨rfl, y1⟩; obtain ⟨hc1, hf1⟩ := bcell y1; have zy1 := y1.size; (try simp only [World.size_alloc, World.size_setCell, World.size_drew, Nat.add_one_le_iff] at zy1); (try have zz1 := Nat.lt_of_succ_lt zy1); (try have zzz1 := Nat.lt_of_succ_lt zz1)) | (go_at_call 50; (with_reducible refine (A.out _).mono ?_); rintro e t2 ⟨rfl, y2⟩; obtain ⟨hc2, hf2⟩ := bcell y2; have zy2 := y2.size; (try simp only [World.size_alloc, World.size_setCell, World.size_drew, Nat.add_one_le_iff] at zy2); (try have zz2 := Nat.lt_of_succ_lt zy2); (try have zzz2 := Nat.lt_of_succ_lt zz2); (try have zy1t2 := Nat.lt_of_lt_of_le zy1 y2.size); (try simp only [World.size_alloc, World.size_setCell, World.size_drew] at zy1t2); (try have zz1t2 := Nat.lt_of_lt_of_le zz1 y2.size); (try simp only [World.size_alloc, World.size_setCell, World.size_drew] at zz1t2); (try have zzz1t2 := Nat.lt_of_lt_of_le zzz1 y2.size); (try simp only [World.size_alloc, World.size_setCell, World.size_drew] at zzz1t2); have g0 : t2.cell? ⟨w.heap.size + 1, 0, none⟩ = some (.int .i64 0) := cell_later y2 (cell_later y1 (c_drew dd0)); have g1 : t2.cell? ⟨w.heap.size + 1, 1, none⟩ = some (.int .i64 0) := cell_later y2 (cell_later y1 (c_drew dd1)); have g2 : t2.cell? ⟨w.heap.size + 1, 2, none⟩ = some (.int .i64 0) := cell_later y2 (cell_later y1 (c_drew dd2)); have gf0 : t2.frozen? ⟨w.heap.size + 1, 0, none⟩ = false := f_later y2 (by simp; omega) (f_later y1 (by simp; omega) (f_drew ff0)); have gf1 : t2.frozen? ⟨w.heap.size + 1, 1, none⟩ = false := f_later y2 (by simp; omega) (f_later y1 (by simp; omega) (f_drew ff1)); have gf2 : t2.frozen? ⟨w.heap.size + 1, 2, none⟩ = false := f_later y2 (by simp; omega) (f_later y1 (by simp; omega) (f_drew ff2))))
  all_goals
    go_wp2
    have q0 : (((t2.setCell ⟨w.heap.size + 1, 0, none⟩ (.int .i64 (b0 + -a0))).setCell ⟨w.heap.size + 1, 1, none⟩ (.int .i64 (b1 + -a1))).setCell ⟨w.heap.size + 1, 2, none⟩ (.int .i64 (b2 + -a2))).cell? ⟨w.heap.size + 1, 0, none⟩ = some (.int .i64 (b0 + -a0)) := by (simp (disch := first | omega | (simp only [World.size_alloc, World.size_setCell, World.size_drew]; done) | (simp only [World.size_alloc, World.size_setCell, World.size_drew]; omega)) only [*, r_set_same, r_set_off, r_set_blk, r_set_f, r_alloc_at, r_alloc_past, r_falloc_at, r_falloc_past, World.cell?_drew, World.frozen?_drew, Option.map_some, List.getElem?_toArray, List.getElem?_cons_zero, List.getElem?_cons_succ]; done)
    have q1 : (((t2.setCell ⟨w.heap.size + 1, 0, none⟩ (.int .i64 (b0 + -a0))).setCell ⟨w.heap.size + 1, 1, none⟩ (.int .i64 (b1 + -a1))).setCell ⟨w.heap.size + 1, 2, none⟩ (.int .i64 (b2 + -a2))).cell? ⟨w.heap.size + 1, 1, none⟩ = some (.int .i64 (b1 + -a1)) := by (simp (disch := first | omega | (simp only [World.size_alloc, World.size_setCell, World.size_drew]; done) | (simp only [World.size_alloc, World.size_setCell, World.size_drew]; omega)) only [*, r_set_same, r_set_off, r_set_blk, r_set_f, r_alloc_at, r_alloc_past, r_falloc_at, r_falloc_past, World.cell?_drew, World.frozen?_drew, Option.map_some, List.getElem?_toArray, List.getElem?_cons_zero, List.getElem?_cons_succ]; done)
    have q2 : (((t2.setCell ⟨w.heap.size + 1, 0, none⟩ (.int .i64 (b0 + -a0))).setCell ⟨w.heap.size + 1, 1, none⟩ (.int .i64 (b1 + -a1))).setCell ⟨w.heap.size + 1, 2, none⟩ (.int .i64 (b2 + -a2))).cell? ⟨w.heap.size + 1, 2, none⟩ = some (.int .i64 (b2 + -a2)) := by (simp (disch := first | omega | (simp only [World.size_alloc, World.size_setCell, World.size_drew]; done) | (simp only [World.size_alloc, World.size_setCell, World.size_drew]; omega)) only [*, r_set_same, r_set_off, r_set_blk, r_set_f, r_alloc_at, r_alloc_past, r_falloc_at, r_falloc_past, World.cell?_drew, World.frozen?_drew, Option.map_some, List.getElem?_toArray, List.getElem?_cons_zero, List.getElem?_cons_succ]; done)
    refine bodyPost_ret (v := vV (b0 + -a0) (b1 + -a1) (b2 + -a2)) (by simp [results, Tryd.results52, go_sem, q0, q1, q2]) rfl ⟨rfl, ?_⟩
    (repeat' (first | (with_reducible assumption) | (with_reducible exact Below.refl _ _) | (with_reducible refine Below.alloc ?_ ?_ _) | (with_reducible refine Below.drew ?_) | (with_reducible refine Below.setCell ?_ ?_ _) | (with_reducible refine b_step ?_ (by assumption) ?_) | omega | (simp only [World.size_alloc, World.size_setCell, World.size_drew]; omega)))

theorem turned_c (n : Nat) (h : n < 24) (x y z : Int) (h0 : -1000000 ≤ x ∧ x ≤ 1000000) (h1 : -1000000 ≤ y ∧ y ≤ 1000000) (h2 : -1000000 ≤ z ∧ z ≤ 1000000) (w : World) :
    Calls Tryd.prog 52 #[.int .i64 n, vV x y z] w fun e w' => e = .returned (vV (ext n 0 x y z) (ext n 1 x y z) (ext n 2 x y z)) ∧ Below w.heap.size w w' := by
  have p0 := ap_bd (i := 0) h (by decide) h0 h1 h2
  have p1 := ap_bd (i := 1) h (by decide) h0 h1 h2
  have p2 := ap_bd (i := 2) h (by decide) h0 h1 h2
  have q0 := ap_bd (i := 0) (x := 0) (y := 0) (z := 0) (B := 1000000) h (by decide) (by decide) (by decide) (by decide)
  have q1 := ap_bd (i := 1) (x := 0) (y := 0) (z := 0) (B := 1000000) h (by decide) (by decide) (by decide) (by decide)
  have q2 := ap_bd (i := 2) (x := 0) (y := 0) (z := 0) (B := 1000000) h (by decide) (by decide) (by decide) (by decide)
  exact turned_aux n h x y z _ _ _ _ _ _ (fun w => image_c n h 0 0 0 x y z (by decide) (by decide) (by decide) (by omega) (by omega) (by omega) w) (by omega) (by omega) (by omega) (by omega) (by omega) (by omega) w

end Go.Proofs.YtibncdefhphggaaDoor
