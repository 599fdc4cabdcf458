/- The contracts of result, of sized at two sizes, and of compose. -/
import Derived.Test.YtibncdefhphggaaDoorA6
namespace Go.Proofs.YtibncdefhphggaaDoor
open Go.RowKit
set_option linter.unusedSimpArgs false
set_option linter.unusedVariables false
attribute [local go_sem ↓] Go.wp_at_zero Go.wp_at_succ

set_option maxHeartbeats 2000000 in
theorem result_c (x y z : Int) (w : World) :
    Calls Tryd.prog 65 #[vV x y z] w fun e w' => e = .returned (if nearB x y z then .tuple #[vV x y z, .int .i64 0] else .tuple #[vV 0 0 0, .int .i64 6]) ∧ Below w.heap.size w w' := by
  cases h : nearB x y z
  · rw [if_neg (by decide)]
    have H := Lib.hid h; clear h
    go_enter Tryd.func65, Tryd.ntmps65
    go_wp2_with (go_at_call 48; (with_reducible refine (near1_f H.out _ _ (c_at (by simp) rfl) (c_at (by simp) rfl) (c_at (by simp) rfl)).mono ?_); rintro e w1 ⟨rfl, y1⟩; have d0 : w1.cell? ⟨w.heap.size + 1, 0, none⟩ = some (.int .i64 0) := cell_later y1 (c_alloc (c_at (by simp) rfl)); have d1 : w1.cell? ⟨w.heap.size + 1, 1, none⟩ = some (.int .i64 0) := cell_later y1 (c_alloc (c_at (by simp) rfl)); have d2 : w1.cell? ⟨w.heap.size + 1, 2, none⟩ = some (.int .i64 0) := cell_later y1 (c_alloc (c_at (by simp) rfl)); have f0 : w1.frozen? ⟨w.heap.size + 1, 0, none⟩ = false := f_later y1 (by simp) (f_alloc (by simp) (f_at (by simp))); have f1 : w1.frozen? ⟨w.heap.size + 1, 1, none⟩ = false := f_later y1 (by simp) (f_alloc (by simp) (f_at (by simp))); have f2 : w1.frozen? ⟨w.heap.size + 1, 2, none⟩ = false := f_later y1 (by simp) (f_alloc (by simp) (f_at (by simp))); have c0 : w1.cell? ⟨w.heap.size, 0, none⟩ = some (.int .i64 x) := cell_later y1 (c_alloc (c_alloc (c_at rfl rfl))); have c1 : w1.cell? ⟨w.heap.size, 1, none⟩ = some (.int .i64 y) := cell_later y1 (c_alloc (c_alloc (c_at rfl rfl))); have c2 : w1.cell? ⟨w.heap.size, 2, none⟩ = some (.int .i64 z) := cell_later y1 (c_alloc (c_alloc (c_at rfl rfl))))
    have q0 : (((w1.setCell ⟨w.heap.size + 1, 0, none⟩ (.int .i64 0)).setCell ⟨w.heap.size + 1, 1, none⟩ (.int .i64 0)).setCell ⟨w.heap.size + 1, 2, none⟩ (.int .i64 0)).cell? ⟨w.heap.size + 1, 0, none⟩ = some (.int .i64 0) := by (simp (disch := first | omega | (simp only [World.size_alloc, World.size_setCell, World.size_drew]; done) | (simp only [World.size_alloc, World.size_setCell, World.size_drew]; omega)) only [*, r_set_same, r_set_off, r_set_blk, r_set_f, r_alloc_at, r_alloc_past, r_falloc_at, r_falloc_past, World.cell?_drew, World.frozen?_drew, Option.map_some, List.getElem?_toArray, List.getElem?_cons_zero, List.getElem?_cons_succ]; done)
    have q1 : (((w1.setCell ⟨w.heap.size + 1, 0, none⟩ (.int .i64 0)).setCell ⟨w.heap.size + 1, 1, none⟩ (.int .i64 0)).setCell ⟨w.heap.size + 1, 2, none⟩ (.int .i64 0)).cell? ⟨w.heap.size + 1, 1, none⟩ = some (.int .i64 0) := by (simp (disch := first | omega | (simp only [World.size_alloc, World.size_setCell, World.size_drew]; done) | (simp only [World.size_alloc, World.size_setCell, World.size_drew]; omega)) only [*, r_set_same, r_set_off, r_set_blk, r_set_f, r_alloc_at, r_alloc_past, r_falloc_at, r_falloc_past, World.cell?_drew, World.frozen?_drew, Option.map_some, List.getElem?_toArray, List.getElem?_cons_zero, List.getElem?_cons_succ]; done)
    have q2 : (((w1.setCell ⟨w.heap.size + 1, 0, none⟩ (.int .i64 0)).setCell ⟨w.heap.size + 1, 1, none⟩ (.int .i64 0)).setCell ⟨w.heap.size + 1, 2, none⟩ (.int .i64 0)).cell? ⟨w.heap.size + 1, 2, none⟩ = some (.int .i64 0) := by (simp (disch := first | omega | (simp only [World.size_alloc, World.size_setCell, World.size_drew]; done) | (simp only [World.size_alloc, World.size_setCell, World.size_drew]; omega)) only [*, r_set_same, r_set_off, r_set_blk, r_set_f, r_alloc_at, r_alloc_past, r_falloc_at, r_falloc_past, World.cell?_drew, World.frozen?_drew, Option.map_some, List.getElem?_toArray, List.getElem?_cons_zero, List.getElem?_cons_succ]; done)
    refine bodyPost_ret (v := .tuple #[vV 0 0 0, .int .i64 6]) (by simp [results, Tryd.results65, go_sem, q0, q1, q2]) rfl ⟨rfl, ?_⟩
    (repeat' (first | (with_reducible assumption) | (with_reducible exact Below.refl _ _) | (with_reducible refine Below.alloc ?_ ?_ _) | (with_reducible refine Below.drew ?_) | (with_reducible refine Below.setCell ?_ ?_ _) | (with_reducible refine b_step ?_ (by assumption) ?_) | omega | (simp only [World.size_alloc, World.size_setCell, World.size_drew]; omega)))
  · rw [if_pos (by decide)]
    have H := Lib.hid h; clear h
    go_enter Tryd.func65, Tryd.ntmps65
    go_wp2_with (go_at_call 48; (with_reducible refine (near1_t H.out _ _ (c_at (by simp) rfl) (c_at (by simp) rfl) (c_at (by simp) rfl)).mono ?_); rintro e w1 ⟨rfl, y1⟩; have d0 : w1.cell? ⟨w.heap.size + 1, 0, none⟩ = some (.int .i64 0) := cell_later y1 (c_alloc (c_at (by simp) rfl)); have d1 : w1.cell? ⟨w.heap.size + 1, 1, none⟩ = some (.int .i64 0) := cell_later y1 (c_alloc (c_at (by simp) rfl)); have d2 : w1.cell? ⟨w.heap.size + 1, 2, none⟩ = some (.int .i64 0) := cell_later y1 (c_alloc (c_at (by simp) rfl)); have f0 : w1.frozen? ⟨w.heap.size + 1, 0, none⟩ = false := f_later y1 (by simp) (f_alloc (by simp) (f_at (by simp))); have f1 : w1.frozen? ⟨w.heap.size + 1, 1, none⟩ = false := f_later y1 (by simp) (f_alloc (by simp) (f_at (by simp))); have f2 : w1.frozen? ⟨w.heap.size + 1, 2, none⟩ = false := f_later y1 (by simp) (f_alloc (by simp) (f_at (by simp))); have c0 : w1.cell? ⟨w.heap.size, 0, none⟩ = some (.int .i64 x) := cell_later y1 (c_alloc (c_alloc (c_at rfl rfl))); have c1 : w1.cell? ⟨w.heap.size, 1, none⟩ = some (.int .i64 y) := cell_later y1 (c_alloc (c_alloc (c_at rfl rfl))); have c2 : w1.cell? ⟨w.heap.size, 2, none⟩ = some (.int .i64 z) := cell_later y1 (c_alloc (c_alloc (c_at rfl rfl))))
    have q0 : (((w1.setCell ⟨w.heap.size + 1, 0, none⟩ (.int .i64 x)).setCell ⟨w.heap.size + 1, 1, none⟩ (.int .i64 y)).setCell ⟨w.heap.size + 1, 2, none⟩ (.int .i64 z)).cell? ⟨w.heap.size + 1, 0, none⟩ = some (.int .i64 x) := by (simp (disch := first | omega | (simp only [World.size_alloc, World.size_setCell, World.size_drew]; done) | (simp only [World.size_alloc, World.size_setCell, World.size_drew]; omega)) only [*, r_set_same, r_set_off, r_set_blk, r_set_f, r_alloc_at, r_alloc_past, r_falloc_at, r_falloc_past, World.cell?_drew, World.frozen?_drew, Option.map_some, List.getElem?_toArray, List.getElem?_cons_zero, List.getElem?_cons_succ]; done)
    have q1 : (((w1.setCell ⟨w.heap.size + 1, 0, none⟩ (.int .i64 x)).setCell ⟨w.heap.size + 1, 1, none⟩ (.int .i64 y)).setCell ⟨w.heap.size + 1, 2, none⟩ (.int .i64 z)).cell? ⟨w.heap.size + 1, 1, none⟩ = some (.int .i64 y) := by (simp (disch := first | omega | (simp only [World.size_alloc, World.size_setCell, World.size_drew]; done) | (simp only [World.size_alloc, World.size_setCell, World.size_drew]; omega)) only [*, r_set_same, r_set_off, r_set_blk, r_set_f, r_alloc_at, r_alloc_past, r_falloc_at, r_falloc_past, World.cell?_drew, World.frozen?_drew, Option.map_some, List.getElem?_toArray, List.getElem?_cons_zero, List.getElem?_cons_succ]; done)
    have q2 : (((w1.setCell ⟨w.heap.size + 1, 0, none⟩ (.int .i64 x)).setCell ⟨w.heap.size + 1, 1, none⟩ (.int .i64 y)).setCell ⟨w.heap.size + 1, 2, none⟩ (.int .i64 z)).cell? ⟨w.heap.size + 1, 2, none⟩ = some (.int .i64 z) := by (simp (disch := first | omega | (simp only [World.size_alloc, World.size_setCell, World.size_drew]; done) | (simp only [World.size_alloc, World.size_setCell, World.size_drew]; omega)) only [*, r_set_same, r_set_off, r_set_blk, r_set_f, r_alloc_at, r_alloc_past, r_falloc_at, r_falloc_past, World.cell?_drew, World.frozen?_drew, Option.map_some, List.getElem?_toArray, List.getElem?_cons_zero, List.getElem?_cons_succ]; done)
    refine bodyPost_ret (v := .tuple #[vV x y z, .int .i64 0]) (by simp [results, Tryd.results65, go_sem, q0, q1, q2]) rfl ⟨rfl, ?_⟩
    (repeat' (first | (with_reducible assumption) | (with_reducible exact Below.refl _ _) | (with_reducible refine Below.alloc ?_ ?_ _) | (with_reducible refine Below.drew ?_) | (with_reducible refine Below.setCell ?_ ?_ _) | (with_reducible refine b_step ?_ (by assumption) ?_) | omega | (simp only [World.size_alloc, World.size_setCell, World.size_drew]; omega)))

set_option maxHeartbeats 4000000 in
theorem sized2_c (x y z p q r : Int) (b : Nat) (w : World) (hx : w.cell? ⟨b, 0, none⟩ = some (.int .i64 x)) (hy : w.cell? ⟨b, 1, none⟩ = some (.int .i64 y)) (hz : w.cell? ⟨b, 2, none⟩ = some (.int .i64 z)) (hp : w.cell? ⟨b, 3, none⟩ = some (.int .i64 p)) (hq : w.cell? ⟨b, 4, none⟩ = some (.int .i64 q)) (hr : w.cell? ⟨b, 5, none⟩ = some (.int .i64 r)) :
    Calls Tryd.prog 51 #[.slice (some ⟨b, 0, none⟩) 2 2] w fun e w' => e = .returned (.bool (szB x y z && szB p q r)) ∧ Below w.heap.size w w' := by
  rcases sz_cases x y z with ⟨h, hs⟩ | ⟨h, h1, hs⟩ | ⟨h, h1, h2, hs⟩ | ⟨h, h1, h2, h3, hs⟩ | ⟨h, h1, h2, h3, hs⟩
  rotate_left 4
  · rw [hs, Bool.true_and]
    have H := Lib.hid h
    clear h hs
    rcases sz_cases p q r with ⟨k, ks⟩ | ⟨k, k1, ks⟩ | ⟨k, k1, k2, ks⟩ | ⟨k, k1, k2, k3, ks⟩ | ⟨k, k1, k2, k3, ks⟩
    all_goals
      rw [ks]
      have K := Lib.hid k
      clear k ks
      go_enter Tryd.func51, Tryd.ntmps51
      go_wp2
      refine wp_loop_rounds 3 ?_
      rw [rounds_succ]
      go_wp2_with (go_at_call 48; (with_reducible refine (near1_t H.out _ _ (c_at (by simp) rfl) (c_at (by simp) rfl) (c_at (by simp) rfl)).mono ?_); rintro e w1 ⟨rfl, hb⟩; have f0 : w1.cell? ⟨w.heap.size, 0, none⟩ = some (.int .i64 x) := cell_later hb (c_alloc (c_at rfl rfl)); have f1 : w1.cell? ⟨w.heap.size, 1, none⟩ = some (.int .i64 y) := cell_later hb (c_alloc (c_at rfl rfl)); have f2 : w1.cell? ⟨w.heap.size, 2, none⟩ = some (.int .i64 z) := cell_later hb (c_alloc (c_at rfl rfl)); have g0 : w1.cell? ⟨b, 3, none⟩ = some (.int .i64 p) := cell_later hb (c_alloc (c_alloc hp)); have gg0 : w1.cell? ⟨b, 4, none⟩ = some (.int .i64 q) := cell_later hb (c_alloc (c_alloc hq)); have ggg0 : w1.cell? ⟨b, 5, none⟩ = some (.int .i64 r) := cell_later hb (c_alloc (c_alloc hr)))
      have B1 : Below w.heap.size w w1 := b_step (by go_grown) hb (by simp; omega)
      clear hb
      rw [rounds_succ]
      go_wp2_with (go_at_call 48; first | ((with_reducible refine (near1_t K.out _ _ (c_at (by simp) rfl) (c_at (by simp) rfl) (c_at (by simp) rfl)).mono ?_); rintro e w2 ⟨rfl, hb⟩; have k0 : w2.cell? ⟨w1.heap.size, 0, none⟩ = some (.int .i64 p) := cell_later hb (c_alloc (c_at rfl rfl)); have k1 : w2.cell? ⟨w1.heap.size, 1, none⟩ = some (.int .i64 q) := cell_later hb (c_alloc (c_at rfl rfl)); have k2 : w2.cell? ⟨w1.heap.size, 2, none⟩ = some (.int .i64 r) := cell_later hb (c_alloc (c_at rfl rfl))) | ((with_reducible refine (near1_f K.out _ _ (c_at (by simp) rfl) (c_at (by simp) rfl) (c_at (by simp) rfl)).mono ?_); rintro e w2 ⟨rfl, hb⟩; have k0 : w2.cell? ⟨w1.heap.size, 0, none⟩ = some (.int .i64 p) := cell_later hb (c_alloc (c_at rfl rfl)); have k1 : w2.cell? ⟨w1.heap.size, 1, none⟩ = some (.int .i64 q) := cell_later hb (c_alloc (c_at rfl rfl)); have k2 : w2.cell? ⟨w1.heap.size, 2, none⟩ = some (.int .i64 r) := cell_later hb (c_alloc (c_at rfl rfl))))
      have B2 : Below w.heap.size w w2 := b_step ((B1.alloc B1.size _).alloc (by have := B1.size; simp; omega) _) hb (by have := B1.size; simp; omega)
      try (rw [rounds_succ]; go_wp2)
      go_ret
      exact ⟨rfl, B2⟩
  all_goals
    rw [hs, Bool.false_and]
    have H := Lib.hid h
    clear h hs
    go_enter Tryd.func51, Tryd.ntmps51
    go_wp2
    refine wp_loop_rounds 3 ?_
    rw [rounds_succ]
    go_wp2_with (go_at_call 48; first | (refine (near1_t H.out _ _ (c_at (by simp) rfl) (c_at (by simp) rfl) (c_at (by simp) rfl)).mono ?_; rintro e w1 ⟨rfl, hb⟩; have f0 : w1.cell? ⟨w.heap.size, 0, none⟩ = some (.int .i64 x) := cell_later hb (c_alloc (c_at rfl rfl)); have f1 : w1.cell? ⟨w.heap.size, 1, none⟩ = some (.int .i64 y) := cell_later hb (c_alloc (c_at rfl rfl)); have f2 : w1.cell? ⟨w.heap.size, 2, none⟩ = some (.int .i64 z) := cell_later hb (c_alloc (c_at rfl rfl))) | (refine (near1_f H.out _ _ (c_at (by simp) rfl) (c_at (by simp) rfl) (c_at (by simp) rfl)).mono ?_; rintro e w1 ⟨rfl, hb⟩; have f0 : w1.cell? ⟨w.heap.size, 0, none⟩ = some (.int .i64 x) := cell_later hb (c_alloc (c_at rfl rfl)); have f1 : w1.cell? ⟨w.heap.size, 1, none⟩ = some (.int .i64 y) := cell_later hb (c_alloc (c_at rfl rfl)); have f2 : w1.cell? ⟨w.heap.size, 2, none⟩ = some (.int .i64 z) := cell_later hb (c_alloc (c_at rfl rfl))))
    have B1 : Below w.heap.size w w1 := b_step (by go_grown) hb (by simp; omega)
    go_wp2
    go_ret
    exact ⟨rfl, B1⟩
end Go.Proofs.YtibncdefhphggaaDoor
