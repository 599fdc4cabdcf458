/- The contracts of the reference's functions, up to Apply. -/
import Derived.Test.YtibncdefhphggaaDoorA2
import Derived.Test.YtibncdefhphggaaDoorB1
import Derived.Test.YtibncdefhphggaaDoorR
namespace Go.Proofs.YtibncdefhphggaaDoor
open Go.RowKit
set_option linter.unusedSimpArgs false
set_option linter.unusedVariables false
attribute [local go_sem ↓] Go.wp_at_zero Go.wp_at_succ

set_option maxHeartbeats 1000000 in
theorem coord_c (x y z : Int) (i : Int) (h : i = 0 ∨ i = 1 ∨ i = 2) (w : World) :
    Calls Tryd.prog 54 #[vV x y z, .int .i64 i] w fun e w' => e = .returned (.int .i64 (pick i x y z)) ∧ Below w.heap.size w w' := by
  rcases h with rfl | rfl | rfl
  all_goals
    go_enter Tryd.func54, Tryd.ntmps54
    go_wp2
    go_ret
    exact ⟨rfl, by (repeat' (first | (with_reducible assumption) | (with_reducible exact Below.refl _ _) | (with_reducible refine Below.alloc ?_ ?_ _) | (with_reducible refine Below.drew ?_) | (with_reducible refine Below.setCell ?_ ?_ _) | (with_reducible refine b_step ?_ (by assumption) ?_) | omega | (simp only [World.size_alloc, World.size_setCell, World.size_drew]; omega)))⟩

set_option maxHeartbeats 1000000 in
theorem rimage_aux (n : Nat) (x y z a s m r : Int) (i : Nat) (w : World) (e0 : IntKind.i64.wrap (s * m) = r)
    (H : ∀ w, Calls Tryd.prog 71 #[.int .i64 n, .int .i64 i] w fun e w' => e = .returned (.tuple #[.int .i64 a, .int .i64 s]) ∧ Below w.heap.size w w')
    (C : ∀ w, Calls Tryd.prog 54 #[vV x y z, .int .i64 a] w fun e w' => e = .returned (.int .i64 m) ∧ Below w.heap.size w w') :
    Calls Tryd.prog 63 #[.int .i64 n, vV x y z, .int .i64 i] w fun e w' => e = .returned (.int .i64 r) ∧ Below w.heap.size w w' := by
  have K := Lib.hid H; clear H
  have D := Lib.hid C; clear C
  go_enter Tryd.func63, Tryd.ntmps63
  go_wp2_with fail
  (with_reducible refine (K.out _).mono ?_)
  rintro e t1 ⟨rfl, y1⟩
  have zy1 := y1.size
  (try simp only [World.size_alloc, World.size_setCell, World.size_drew] at zy1)
  have l1c : w.heap.size < t1.heap.size := by omega
  have c1_0 : t1.cell? ⟨w.heap.size, 0, none⟩ = some (.int .i64 x) := cell_later y1 (by (simp (disch := first | omega | (simp only [World.size_alloc, World.size_setCell, World.size_drew]; done) | (simp only [World.size_alloc, World.size_setCell, World.size_drew]; omega)) only [*, r_set_same, r_set_off, r_set_blk, r_set_f, r_alloc_at, r_alloc_past, r_falloc_at, r_falloc_past, World.cell?_drew, World.frozen?_drew, Option.map_some, List.getElem?_toArray, List.getElem?_cons_zero, List.getElem?_cons_succ]; done))
  have c1_1 : t1.cell? ⟨w.heap.size, 1, none⟩ = some (.int .i64 y) := cell_later y1 (by (simp (disch := first | omega | (simp only [World.size_alloc, World.size_setCell, World.size_drew]; done) | (simp only [World.size_alloc, World.size_setCell, World.size_drew]; omega)) only [*, r_set_same, r_set_off, r_set_blk, r_set_f, r_alloc_at, r_alloc_past, r_falloc_at, r_falloc_past, World.cell?_drew, World.frozen?_drew, Option.map_some, List.getElem?_toArray, List.getElem?_cons_zero, List.getElem?_cons_succ]; done))
  have c1_2 : t1.cell? ⟨w.heap.size, 2, none⟩ = some (.int .i64 z) := cell_later y1 (by (simp (disch := first | omega | (simp only [World.size_alloc, World.size_setCell, World.size_drew]; done) | (simp only [World.size_alloc, World.size_setCell, World.size_drew]; omega)) only [*, r_set_same, r_set_off, r_set_blk, r_set_f, r_alloc_at, r_alloc_past, r_falloc_at, r_falloc_past, World.cell?_drew, World.frozen?_drew, Option.map_some, List.getElem?_toArray, List.getElem?_cons_zero, List.getElem?_cons_succ]; done))
  go_wp2_with fail
  (with_reducible refine (D.out _).mono ?_)
  rintro e t2 ⟨rfl, y2⟩
  have zy2 := y2.size
  (try simp only [World.size_alloc, World.size_setCell, World.size_drew] at zy2)
  go_wp2
  go_ret
  exact ⟨rfl, by (repeat' (first | (with_reducible assumption) | (with_reducible exact Below.refl _ _) | (with_reducible refine Below.alloc ?_ ?_ _) | (with_reducible refine Below.drew ?_) | (with_reducible refine Below.setCell ?_ ?_ _) | (with_reducible refine b_step ?_ (by assumption) ?_) | omega | (simp only [World.size_alloc, World.size_setCell, World.size_drew]; omega)))⟩

theorem rimage_c (n : Nat) (h : n < 24) (i : Nat) (hi : i < 3) (x y z : Int) (h0 : -1000000000 ≤ x ∧ x ≤ 1000000000) (h1 : -1000000000 ≤ y ∧ y ≤ 1000000000) (h2 : -1000000000 ≤ z ∧ z ≤ 1000000000) (w : World) :
    Calls Tryd.prog 63 #[.int .i64 n, vV x y z, .int .i64 i] w fun e w' => e = .returned (.int .i64 (ap n i x y z)) ∧ Below w.heap.size w w' :=
  rimage_aux n x y z (axT n i) (sgT n i) (pick (axT n i) x y z) (ap n i x y z) i w (wrap_unit (sg1 n h i hi) (pick_bd h0 h1 h2)) (fun w => axis_c n i h hi w) (fun w => coord_c x y z _ (ax3 n h i hi) w)

set_option maxHeartbeats 2000000 in
theorem rapply_aux (n : Nat) (x y z a b c : Int) (w : World)
    (H0 : ∀ w, Calls Tryd.prog 63 #[.int .i64 n, vV x y z, .int .i64 0] w fun e w' => e = .returned (.int .i64 a) ∧ Below w.heap.size w w')
    (H1 : ∀ w, Calls Tryd.prog 63 #[.int .i64 n, vV x y z, .int .i64 1] w fun e w' => e = .returned (.int .i64 b) ∧ Below w.heap.size w w')
    (H2 : ∀ w, Calls Tryd.prog 63 #[.int .i64 n, vV x y z, .int .i64 2] w fun e w' => e = .returned (.int .i64 c) ∧ Below w.heap.size w w') :
    Calls Tryd.prog 37 #[.int .i64 n, vV x y z] w fun e w' => e = .returned (vV a b c) ∧ Below w.heap.size w w' := by
  have K0 := Lib.hid H0; clear H0
  have K1 := Lib.hid H1; clear H1
  have K2 := Lib.hid H2; clear H2
  go_enter Tryd.func37, Tryd.ntmps37
  go_wp2
  obtain ⟨W, hW⟩ : ∃ W, W = (w.alloc (.cells #[.int .i64 x, .int .i64 y, .int .i64 z] 23)).alloc (.cells #[.int .i64 0, .int .i64 0, .int .i64 0] 23) := ⟨_, rfl⟩
  rw [← hW]
  have c0 : W.cell? ⟨w.heap.size, 0, none⟩ = some (.int .i64 x) := by subst hW; exact c_alloc (c_at rfl rfl)
  have c1 : W.cell? ⟨w.heap.size, 1, none⟩ = some (.int .i64 y) := by subst hW; exact c_alloc (c_at rfl rfl)
  have c2 : W.cell? ⟨w.heap.size, 2, none⟩ = some (.int .i64 z) := by subst hW; exact c_alloc (c_at rfl rfl)
  have d0 : W.cell? ⟨w.heap.size + 1, 0, none⟩ = some (.int .i64 0) := by subst hW; exact c_at (by simp) rfl
  have d1 : W.cell? ⟨w.heap.size + 1, 1, none⟩ = some (.int .i64 0) := by subst hW; exact c_at (by simp) rfl
  have d2 : W.cell? ⟨w.heap.size + 1, 2, none⟩ = some (.int .i64 0) := by subst hW; exact c_at (by simp) rfl
  have f0 : W.frozen? ⟨w.heap.size + 1, 0, none⟩ = false := by subst hW; exact f_at (by simp)
  have f1 : W.frozen? ⟨w.heap.size + 1, 1, none⟩ = false := by subst hW; exact f_at (by simp)
  have f2 : W.frozen? ⟨w.heap.size + 1, 2, none⟩ = false := by subst hW; exact f_at (by simp)
  have zW : w.heap.size + 1 < W.heap.size := by subst hW; simp
  have bW : Below w.heap.size w W := by subst hW; go_grown
  clear hW
  have mkS : ∀ w', Sm [w.heap.size] W w' → (Sm [w.heap.size] W w' ∧ w'.cell? ⟨w.heap.size, 0, none⟩ = some (.int .i64 x) ∧ w'.cell? ⟨w.heap.size, 1, none⟩ = some (.int .i64 y) ∧ w'.cell? ⟨w.heap.size, 2, none⟩ = some (.int .i64 z)) := fun w' h => ⟨h, h.cell (by simp) (by assumption), h.cell (by simp) (by assumption), h.cell (by simp) (by assumption)⟩
  have rfS : Sm [w.heap.size] W W := Sm.refl (by simp; try omega)
  go_region_held3 (fun w' => Sm [w.heap.size] W w' ∧ w'.cell? ⟨w.heap.size, 0, none⟩ = some (.int .i64 x) ∧ w'.cell? ⟨w.heap.size, 1, none⟩ = some (.int .i64 y) ∧ w'.cell? ⟨w.heap.size, 2, none⟩ = some (.int .i64 z)) ((refine mkS _ ?_; repeat' (first | (with_reducible exact rfS.drew) | (with_reducible exact rfS) | (with_reducible refine Sm.alloc ?_ _) | (with_reducible refine Sm.drew ?_) | (with_reducible refine Sm.below ?_ (by assumption)) | (with_reducible refine Sm.far ?_ _ _ (by simp; try omega)))))
    (first | (go_at_call 63; (with_reducible refine (K0.out _).mono ?_); rintro e u0 ⟨rfl, yy0⟩; have zz0 := yy0.size; (try simp only [World.size_alloc, World.size_setCell, World.size_drew] at zz0); have ga0_0 : u0.cell? ⟨w.heap.size + 1, 0, none⟩ = some (.int .i64 0) := cell_later yy0 (c_drew d0); have ga0_1 : u0.cell? ⟨w.heap.size + 1, 1, none⟩ = some (.int .i64 0) := cell_later yy0 (c_drew d1); have ga0_2 : u0.cell? ⟨w.heap.size + 1, 2, none⟩ = some (.int .i64 0) := cell_later yy0 (c_drew d2); have gf0_0 : u0.frozen? ⟨w.heap.size + 1, 0, none⟩ = false := f_later yy0 (by (try dsimp only); first | omega | (simp only [World.size_alloc, World.size_drew, World.size_setCell]; done) | (simp only [World.size_alloc, World.size_drew, World.size_setCell]; omega)) (f_drew f0); have gf0_1 : u0.frozen? ⟨w.heap.size + 1, 1, none⟩ = false := f_later yy0 (by (try dsimp only); first | omega | (simp only [World.size_alloc, World.size_drew, World.size_setCell]; done) | (simp only [World.size_alloc, World.size_drew, World.size_setCell]; omega)) (f_drew f1); have gf0_2 : u0.frozen? ⟨w.heap.size + 1, 2, none⟩ = false := f_later yy0 (by (try dsimp only); first | omega | (simp only [World.size_alloc, World.size_drew, World.size_setCell]; done) | (simp only [World.size_alloc, World.size_drew, World.size_setCell]; omega)) (f_drew f2)) | (go_at_call 63; (with_reducible refine (K1.out _).mono ?_); rintro e u1 ⟨rfl, yy1⟩; have zz1 := yy1.size; (try simp only [World.size_alloc, World.size_setCell, World.size_drew] at zz1); have ga1_0 : u1.cell? ⟨w.heap.size + 1, 0, none⟩ = some (.int .i64 0) := cell_later yy1 (ga0_0); have ga1_1 : u1.cell? ⟨w.heap.size + 1, 1, none⟩ = some (.int .i64 0) := cell_later yy1 (ga0_1); have ga1_2 : u1.cell? ⟨w.heap.size + 1, 2, none⟩ = some (.int .i64 0) := cell_later yy1 (ga0_2); have gf1_0 : u1.frozen? ⟨w.heap.size + 1, 0, none⟩ = false := f_later yy1 (by (try dsimp only); first | omega | (simp only [World.size_alloc, World.size_drew, World.size_setCell]; done) | (simp only [World.size_alloc, World.size_drew, World.size_setCell]; omega)) (gf0_0); have gf1_1 : u1.frozen? ⟨w.heap.size + 1, 1, none⟩ = false := f_later yy1 (by (try dsimp only); first | omega | (simp only [World.size_alloc, World.size_drew, World.size_setCell]; done) | (simp only [World.size_alloc, World.size_drew, World.size_setCell]; omega)) (gf0_1); have gf1_2 : u1.frozen? ⟨w.heap.size + 1, 2, none⟩ = false := f_later yy1 (by (try dsimp only); first | omega | (simp only [World.size_alloc, World.size_drew, World.size_setCell]; done) | (simp only [World.size_alloc, World.size_drew, World.size_setCell]; omega)) (gf0_2)) | (go_at_call 63; (with_reducible refine (K2.out _).mono ?_); rintro e u2 ⟨rfl, yy2⟩; have zz2 := yy2.size; (try simp only [World.size_alloc, World.size_setCell, World.size_drew] at zz2); have ga2_0 : u2.cell? ⟨w.heap.size + 1, 0, none⟩ = some (.int .i64 0) := cell_later yy2 (ga1_0); have ga2_1 : u2.cell? ⟨w.heap.size + 1, 1, none⟩ = some (.int .i64 0) := cell_later yy2 (ga1_1); have ga2_2 : u2.cell? ⟨w.heap.size + 1, 2, none⟩ = some (.int .i64 0) := cell_later yy2 (ga1_2); have gf2_0 : u2.frozen? ⟨w.heap.size + 1, 0, none⟩ = false := f_later yy2 (by (try dsimp only); first | omega | (simp only [World.size_alloc, World.size_drew, World.size_setCell]; done) | (simp only [World.size_alloc, World.size_drew, World.size_setCell]; omega)) (gf1_0); have gf2_1 : u2.frozen? ⟨w.heap.size + 1, 1, none⟩ = false := f_later yy2 (by (try dsimp only); first | omega | (simp only [World.size_alloc, World.size_drew, World.size_setCell]; done) | (simp only [World.size_alloc, World.size_drew, World.size_setCell]; omega)) (gf1_1); have gf2_2 : u2.frozen? ⟨w.heap.size + 1, 2, none⟩ = false := f_later yy2 (by (try dsimp only); first | omega | (simp only [World.size_alloc, World.size_drew, World.size_setCell]; done) | (simp only [World.size_alloc, World.size_drew, World.size_setCell]; omega)) (gf1_2)))
  all_goals
    go_wp2
    refine bodyPost_ret (res_1 rfl rfl (load_V (x := a) (y := b) (z := c) ?_ ?_ ?_)) rfl ⟨rfl, ?_⟩ <;> first | (simp (disch := first | omega | (simp only [World.size_alloc, World.size_setCell, World.size_drew]; done) | (simp only [World.size_alloc, World.size_setCell, World.size_drew]; omega)) only [*, r_set_same, r_set_off, r_set_blk, r_set_f, r_alloc_at, r_alloc_past, r_falloc_at, r_falloc_past, World.cell?_drew, World.frozen?_drew, Option.map_some, List.getElem?_toArray, List.getElem?_cons_zero, List.getElem?_cons_succ]; done) | (repeat' (first | (with_reducible assumption) | (with_reducible exact Below.refl _ _) | (with_reducible refine Below.alloc ?_ ?_ _) | (with_reducible refine Below.drew ?_) | (with_reducible refine Below.setCell ?_ ?_ _) | (with_reducible refine b_step ?_ (by assumption) ?_) | omega | (simp only [World.size_alloc, World.size_setCell, World.size_drew]; omega)))

/-- The reference's Apply. -/
theorem rapply_c (n : Nat) (h : n < 24) (x y z : Int) (h0 : -1000000000 ≤ x ∧ x ≤ 1000000000) (h1 : -1000000000 ≤ y ∧ y ≤ 1000000000) (h2 : -1000000000 ≤ z ∧ z ≤ 1000000000) (w : World) :
    Calls Tryd.prog 37 #[.int .i64 n, vV x y z] w fun e w' => e = .returned (vV (ap n 0 x y z) (ap n 1 x y z) (ap n 2 x y z)) ∧ Below w.heap.size w w' :=
  rapply_aux n x y z _ _ _ w (fun w => rimage_c n h 0 (by decide) x y z h0 h1 h2 w) (fun w => rimage_c n h 1 (by decide) x y z h0 h1 h2 w) (fun w => rimage_c n h 2 (by decide) x y z h0 h1 h2 w)
end Go.Proofs.YtibncdefhphggaaDoor
