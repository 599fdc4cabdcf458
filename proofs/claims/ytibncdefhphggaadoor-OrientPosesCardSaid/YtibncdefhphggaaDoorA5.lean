/- The contracts of image and turned. -/
import Derived.Test.YtibncdefhphggaaDoorA4
import Derived.Test.YtibncdefhphggaaDoorE
namespace Go.Proofs.YtibncdefhphggaaDoor
open Go.RowKit
set_option linter.unusedSimpArgs false
set_option linter.unusedVariables false
attribute [local go_sem ↓] Go.wp_at_zero Go.wp_at_succ
attribute [local go_sem] m_max2 m_min2 m_max m_min



set_option maxHeartbeats 2000000 in
theorem image_c (n : Nat) (h : n < 24) (x y z p q r : Int) (h0 : -1000000000 ≤ x ∧ x ≤ 1000000000) (h1 : -1000000000 ≤ y ∧ y ≤ 1000000000) (h2 : -1000000000 ≤ z ∧ z ≤ 1000000000) (h3 : -1000000000 ≤ p ∧ p ≤ 1000000000) (h4 : -1000000000 ≤ q ∧ q ≤ 1000000000) (h5 : -1000000000 ≤ r ∧ r ≤ 1000000000) (w : World) :
    Calls Tryd.prog 49 #[.int .i64 n, vB x y z p q r] w fun e w' => e = .returned (vB (min (ap n 0 x y z) (ap n 0 p q r)) (min (ap n 1 x y z) (ap n 1 p q r)) (min (ap n 2 x y z) (ap n 2 p q r)) (max (ap n 0 x y z) (ap n 0 p q r)) (max (ap n 1 x y z) (ap n 1 p q r)) (max (ap n 2 x y z) (ap n 2 p q r))) ∧ Below w.heap.size w w' := by
  have A1 := fun w => apply_c n h x y z h0 h1 h2 w
  have A2 := fun w => apply_c n h p q r h3 h4 h5 w
  have K1 := Lib.hid A1; clear A1
  have K2 := Lib.hid A2; clear A2
  clear h h0 h1 h2 h3 h4 h5
  generalize ap n 0 x y z = a0 at *
  generalize ap n 1 x y z = a1 at *
  generalize ap n 2 x y z = a2 at *
  generalize ap n 0 p q r = b0 at *
  generalize ap n 1 p q r = b1 at *
  generalize ap n 2 p q r = b2 at *
  go_enter Tryd.func49, Tryd.ntmps49
  go_wp2
  obtain ⟨W, hW⟩ : ∃ W, W = (w.alloc (.cells #[.int .i64 x, .int .i64 y, .int .i64 z, .int .i64 p, .int .i64 q, .int .i64 r] 27)).alloc (.cells #[.int .i64 0, .int .i64 0, .int .i64 0, .int .i64 0, .int .i64 0, .int .i64 0] 27) := ⟨_, rfl⟩
  rw [← hW]
  have c0 : W.cell? ⟨w.heap.size, 0, none⟩ = some (.int .i64 x) := by subst hW; exact c_alloc (c_at rfl rfl)
  have c1 : W.cell? ⟨w.heap.size, 1, none⟩ = some (.int .i64 y) := by subst hW; exact c_alloc (c_at rfl rfl)
  have c2 : W.cell? ⟨w.heap.size, 2, none⟩ = some (.int .i64 z) := by subst hW; exact c_alloc (c_at rfl rfl)
  have c3 : W.cell? ⟨w.heap.size, 3, none⟩ = some (.int .i64 p) := by subst hW; exact c_alloc (c_at rfl rfl)
  have c4 : W.cell? ⟨w.heap.size, 4, none⟩ = some (.int .i64 q) := by subst hW; exact c_alloc (c_at rfl rfl)
  have c5 : W.cell? ⟨w.heap.size, 5, none⟩ = some (.int .i64 r) := by subst hW; exact c_alloc (c_at rfl rfl)
  have d0 : W.cell? ⟨w.heap.size + 1, 0, none⟩ = some (.int .i64 0) := by subst hW; exact c_at (by simp) rfl
  have d1 : W.cell? ⟨w.heap.size + 1, 1, none⟩ = some (.int .i64 0) := by subst hW; exact c_at (by simp) rfl
  have d2 : W.cell? ⟨w.heap.size + 1, 2, none⟩ = some (.int .i64 0) := by subst hW; exact c_at (by simp) rfl
  have d3 : W.cell? ⟨w.heap.size + 1, 3, none⟩ = some (.int .i64 0) := by subst hW; exact c_at (by simp) rfl
  have d4 : W.cell? ⟨w.heap.size + 1, 4, none⟩ = some (.int .i64 0) := by subst hW; exact c_at (by simp) rfl
  have d5 : W.cell? ⟨w.heap.size + 1, 5, none⟩ = some (.int .i64 0) := by subst hW; exact c_at (by simp) rfl
  have f0 : W.frozen? ⟨w.heap.size + 1, 0, none⟩ = false := by subst hW; exact f_at (by simp)
  have f1 : W.frozen? ⟨w.heap.size + 1, 1, none⟩ = false := by subst hW; exact f_at (by simp)
  have f2 : W.frozen? ⟨w.heap.size + 1, 2, none⟩ = false := by subst hW; exact f_at (by simp)
  have f3 : W.frozen? ⟨w.heap.size + 1, 3, none⟩ = false := by subst hW; exact f_at (by simp)
  have f4 : W.frozen? ⟨w.heap.size + 1, 4, none⟩ = false := by subst hW; exact f_at (by simp)
  have f5 : W.frozen? ⟨w.heap.size + 1, 5, none⟩ = false := by subst hW; exact f_at (by simp)
  have zW : w.heap.size + 1 < W.heap.size := by subst hW; simp
  have bW : Below w.heap.size w W := by subst hW; go_grown
  clear hW
  go_upto_region 1 with fail
  go_cut [5, 6] (fun s5 s6 wx => ∃ b c : Nat, s5 = .pointer (some ⟨b, 0, none⟩) ∧ s6 = .pointer (some ⟨c, 0, none⟩) ∧ wx.cell? ⟨b, 0, none⟩ = some (.int .i64 a0) ∧ wx.cell? ⟨b, 1, none⟩ = some (.int .i64 a1) ∧ wx.cell? ⟨b, 2, none⟩ = some (.int .i64 a2) ∧ wx.cell? ⟨c, 0, none⟩ = some (.int .i64 b0) ∧ wx.cell? ⟨c, 1, none⟩ = some (.int .i64 b1) ∧ wx.cell? ⟨c, 2, none⟩ = some (.int .i64 b2) ∧ wx.cell? ⟨w.heap.size + 1, 0, none⟩ = some (.int .i64 0) ∧ wx.cell? ⟨w.heap.size + 1, 1, none⟩ = some (.int .i64 0) ∧ wx.cell? ⟨w.heap.size + 1, 2, none⟩ = some (.int .i64 0) ∧ wx.cell? ⟨w.heap.size + 1, 3, none⟩ = some (.int .i64 0) ∧ wx.cell? ⟨w.heap.size + 1, 4, none⟩ = some (.int .i64 0) ∧ wx.cell? ⟨w.heap.size + 1, 5, none⟩ = some (.int .i64 0) ∧ wx.frozen? ⟨w.heap.size + 1, 0, none⟩ = false ∧ wx.frozen? ⟨w.heap.size + 1, 1, none⟩ = false ∧ wx.frozen? ⟨w.heap.size + 1, 2, none⟩ = false ∧ wx.frozen? ⟨w.heap.size + 1, 3, none⟩ = false ∧ wx.frozen? ⟨w.heap.size + 1, 4, none⟩ = false ∧ wx.frozen? ⟨w.heap.size + 1, 5, none⟩ = false ∧ Below w.heap.size w wx)
  case first =>
    have mkS : ∀ w', Sm [w.heap.size] W w' → (Sm [w.heap.size] W w' ∧ w'.cell? ⟨w.heap.size, 0, none⟩ = some (.int .i64 x) ∧ w'.cell? ⟨w.heap.size, 1, none⟩ = some (.int .i64 y) ∧ w'.cell? ⟨w.heap.size, 2, none⟩ = some (.int .i64 z) ∧ w'.cell? ⟨w.heap.size, 3, none⟩ = some (.int .i64 p) ∧ w'.cell? ⟨w.heap.size, 4, none⟩ = some (.int .i64 q) ∧ w'.cell? ⟨w.heap.size, 5, none⟩ = some (.int .i64 r)) := fun w' h => ⟨h, h.cell (by simp) (by assumption), h.cell (by simp) (by assumption), h.cell (by simp) (by assumption), h.cell (by simp) (by assumption), h.cell (by simp) (by assumption), h.cell (by simp) (by assumption)⟩
    have rfS : Sm [w.heap.size] W W := Sm.refl (by simp; try omega)
    go_region_held3 (fun w' => Sm [w.heap.size] W w' ∧ w'.cell? ⟨w.heap.size, 0, none⟩ = some (.int .i64 x) ∧ w'.cell? ⟨w.heap.size, 1, none⟩ = some (.int .i64 y) ∧ w'.cell? ⟨w.heap.size, 2, none⟩ = some (.int .i64 z) ∧ w'.cell? ⟨w.heap.size, 3, none⟩ = some (.int .i64 p) ∧ w'.cell? ⟨w.heap.size, 4, none⟩ = some (.int .i64 q) ∧ w'.cell? ⟨w.heap.size, 5, none⟩ = some (.int .i64 r)) ((refine mkS _ ?_; repeat' (first | (with_reducible exact rfS.drew) | (with_reducible exact rfS) | (with_reducible refine Sm.alloc ?_ _) | (with_reducible refine Sm.drew ?_) | (with_reducible refine Sm.below ?_ (by assumption)) | (with_reducible refine Sm.far ?_ _ _ (by simp; try omega)))))
      (first | (go_at_call 62; (with_reducible refine (K1.out _).mono ?_); rintro e t1 ⟨rfl, y1⟩; obtain ⟨hc1, hf1⟩ := bcell y1; have zy1 := y1.size; (try simp only [World.size_alloc, World.size_setCell, World.size_drew, Nat.add_one_le_iff] at zy1); (try have zz1 := Nat.lt_of_succ_lt zy1); (try have zzz1 := Nat.lt_of_succ_lt zz1)) | (go_at_call 62; (with_reducible refine (K2.out _).mono ?_); rintro e t2 ⟨rfl, y2⟩; obtain ⟨hc2, hf2⟩ := bcell y2; have zy2 := y2.size; (try simp only [World.size_alloc, World.size_setCell, World.size_drew, Nat.add_one_le_iff] at zy2); (try have zz2 := Nat.lt_of_succ_lt zy2); (try have zzz2 := Nat.lt_of_succ_lt zz2); (try have zy1t2 := Nat.lt_of_lt_of_le zy1 y2.size); (try simp only [World.size_alloc, World.size_setCell, World.size_drew] at zy1t2); (try have zz1t2 := Nat.lt_of_lt_of_le zz1 y2.size); (try simp only [World.size_alloc, World.size_setCell, World.size_drew] at zz1t2); (try have zzz1t2 := Nat.lt_of_lt_of_le zzz1 y2.size); (try simp only [World.size_alloc, World.size_setCell, World.size_drew] at zzz1t2)))
    all_goals
      go_wp2_with fail
      go_meet
      refine ⟨_, _, rfl, rfl, ?_⟩
      (repeat' apply And.intro) <;> first | (simp (disch := first | omega | (simp only [World.size_alloc, World.size_setCell, World.size_drew]; done) | (simp only [World.size_alloc, World.size_setCell, World.size_drew]; omega)) only [*, r_set_same, r_set_off, r_set_blk, r_set_f, r_alloc_at, r_alloc_past, r_falloc_at, r_falloc_past, World.cell?_drew, World.frozen?_drew, Option.map_some, List.getElem?_toArray, List.getElem?_cons_zero, List.getElem?_cons_succ]; done) | (repeat' (first | (with_reducible assumption) | (with_reducible exact Below.refl _ _) | (with_reducible refine Below.alloc ?_ ?_ _) | (with_reducible refine Below.drew ?_) | (with_reducible refine Below.setCell ?_ ?_ _) | (with_reducible refine b_step ?_ (by assumption) ?_) | omega | (simp only [World.size_alloc, World.size_setCell, World.size_drew]; omega)))
  case rest =>
    obtain ⟨b, c, rfl, rfl, hr⟩ := hcut
    go_split_ands
    go_wp2
    have q0 : ((((((wc.setCell ⟨w.heap.size + 1, 0, none⟩ (.int .i64 (min a0 b0))).setCell ⟨w.heap.size + 1, 1, none⟩ (.int .i64 (min a1 b1))).setCell ⟨w.heap.size + 1, 2, none⟩ (.int .i64 (min a2 b2))).setCell ⟨w.heap.size + 1, 3, none⟩ (.int .i64 (max a0 b0))).setCell ⟨w.heap.size + 1, 4, none⟩ (.int .i64 (max a1 b1))).setCell ⟨w.heap.size + 1, 5, none⟩ (.int .i64 (max a2 b2))).cell? ⟨w.heap.size + 1, 0, none⟩ = some (.int .i64 (min a0 b0)) := by (simp (disch := first | omega | (simp only [World.size_alloc, World.size_setCell, World.size_drew]; done) | (simp only [World.size_alloc, World.size_setCell, World.size_drew]; omega)) only [*, r_set_same, r_set_off, r_set_blk, r_set_f, r_alloc_at, r_alloc_past, r_falloc_at, r_falloc_past, World.cell?_drew, World.frozen?_drew, Option.map_some, List.getElem?_toArray, List.getElem?_cons_zero, List.getElem?_cons_succ]; done)
    have q1 : ((((((wc.setCell ⟨w.heap.size + 1, 0, none⟩ (.int .i64 (min a0 b0))).setCell ⟨w.heap.size + 1, 1, none⟩ (.int .i64 (min a1 b1))).setCell ⟨w.heap.size + 1, 2, none⟩ (.int .i64 (min a2 b2))).setCell ⟨w.heap.size + 1, 3, none⟩ (.int .i64 (max a0 b0))).setCell ⟨w.heap.size + 1, 4, none⟩ (.int .i64 (max a1 b1))).setCell ⟨w.heap.size + 1, 5, none⟩ (.int .i64 (max a2 b2))).cell? ⟨w.heap.size + 1, 1, none⟩ = some (.int .i64 (min a1 b1)) := by (simp (disch := first | omega | (simp only [World.size_alloc, World.size_setCell, World.size_drew]; done) | (simp only [World.size_alloc, World.size_setCell, World.size_drew]; omega)) only [*, r_set_same, r_set_off, r_set_blk, r_set_f, r_alloc_at, r_alloc_past, r_falloc_at, r_falloc_past, World.cell?_drew, World.frozen?_drew, Option.map_some, List.getElem?_toArray, List.getElem?_cons_zero, List.getElem?_cons_succ]; done)
    have q2 : ((((((wc.setCell ⟨w.heap.size + 1, 0, none⟩ (.int .i64 (min a0 b0))).setCell ⟨w.heap.size + 1, 1, none⟩ (.int .i64 (min a1 b1))).setCell ⟨w.heap.size + 1, 2, none⟩ (.int .i64 (min a2 b2))).setCell ⟨w.heap.size + 1, 3, none⟩ (.int .i64 (max a0 b0))).setCell ⟨w.heap.size + 1, 4, none⟩ (.int .i64 (max a1 b1))).setCell ⟨w.heap.size + 1, 5, none⟩ (.int .i64 (max a2 b2))).cell? ⟨w.heap.size + 1, 2, none⟩ = some (.int .i64 (min a2 b2)) := by (simp (disch := first | omega | (simp only [World.size_alloc, World.size_setCell, World.size_drew]; done) | (simp only [World.size_alloc, World.size_setCell, World.size_drew]; omega)) only [*, r_set_same, r_set_off, r_set_blk, r_set_f, r_alloc_at, r_alloc_past, r_falloc_at, r_falloc_past, World.cell?_drew, World.frozen?_drew, Option.map_some, List.getElem?_toArray, List.getElem?_cons_zero, List.getElem?_cons_succ]; done)
    have q3 : ((((((wc.setCell ⟨w.heap.size + 1, 0, none⟩ (.int .i64 (min a0 b0))).setCell ⟨w.heap.size + 1, 1, none⟩ (.int .i64 (min a1 b1))).setCell ⟨w.heap.size + 1, 2, none⟩ (.int .i64 (min a2 b2))).setCell ⟨w.heap.size + 1, 3, none⟩ (.int .i64 (max a0 b0))).setCell ⟨w.heap.size + 1, 4, none⟩ (.int .i64 (max a1 b1))).setCell ⟨w.heap.size + 1, 5, none⟩ (.int .i64 (max a2 b2))).cell? ⟨w.heap.size + 1, 3, none⟩ = some (.int .i64 (max a0 b0)) := by (simp (disch := first | omega | (simp only [World.size_alloc, World.size_setCell, World.size_drew]; done) | (simp only [World.size_alloc, World.size_setCell, World.size_drew]; omega)) only [*, r_set_same, r_set_off, r_set_blk, r_set_f, r_alloc_at, r_alloc_past, r_falloc_at, r_falloc_past, World.cell?_drew, World.frozen?_drew, Option.map_some, List.getElem?_toArray, List.getElem?_cons_zero, List.getElem?_cons_succ]; done)
    have q4 : ((((((wc.setCell ⟨w.heap.size + 1, 0, none⟩ (.int .i64 (min a0 b0))).setCell ⟨w.heap.size + 1, 1, none⟩ (.int .i64 (min a1 b1))).setCell ⟨w.heap.size + 1, 2, none⟩ (.int .i64 (min a2 b2))).setCell ⟨w.heap.size + 1, 3, none⟩ (.int .i64 (max a0 b0))).setCell ⟨w.heap.size + 1, 4, none⟩ (.int .i64 (max a1 b1))).setCell ⟨w.heap.size + 1, 5, none⟩ (.int .i64 (max a2 b2))).cell? ⟨w.heap.size + 1, 4, none⟩ = some (.int .i64 (max a1 b1)) := by (simp (disch := first | omega | (simp only [World.size_alloc, World.size_setCell, World.size_drew]; done) | (simp only [World.size_alloc, World.size_setCell, World.size_drew]; omega)) only [*, r_set_same, r_set_off, r_set_blk, r_set_f, r_alloc_at, r_alloc_past, r_falloc_at, r_falloc_past, World.cell?_drew, World.frozen?_drew, Option.map_some, List.getElem?_toArray, List.getElem?_cons_zero, List.getElem?_cons_succ]; done)
    have q5 : ((((((wc.setCell ⟨w.heap.size + 1, 0, none⟩ (.int .i64 (min a0 b0))).setCell ⟨w.heap.size + 1, 1, none⟩ (.int .i64 (min a1 b1))).setCell ⟨w.heap.size + 1, 2, none⟩ (.int .i64 (min a2 b2))).setCell ⟨w.heap.size + 1, 3, none⟩ (.int .i64 (max a0 b0))).setCell ⟨w.heap.size + 1, 4, none⟩ (.int .i64 (max a1 b1))).setCell ⟨w.heap.size + 1, 5, none⟩ (.int .i64 (max a2 b2))).cell? ⟨w.heap.size + 1, 5, none⟩ = some (.int .i64 (max a2 b2)) := by (simp (disch := first | omega | (simp only [World.size_alloc, World.size_setCell, World.size_drew]; done) | (simp only [World.size_alloc, World.size_setCell, World.size_drew]; omega)) only [*, r_set_same, r_set_off, r_set_blk, r_set_f, r_alloc_at, r_alloc_past, r_falloc_at, r_falloc_past, World.cell?_drew, World.frozen?_drew, Option.map_some, List.getElem?_toArray, List.getElem?_cons_zero, List.getElem?_cons_succ]; done)
    refine bodyPost_ret (v := vB (min a0 b0) (min a1 b1) (min a2 b2) (max a0 b0) (max a1 b1) (max a2 b2)) (by simp [results, Tryd.results49, go_sem, q0, q1, q2, q3, q4, q5]) rfl ⟨rfl, ?_⟩
    (repeat' (first | (with_reducible assumption) | (with_reducible exact Below.refl _ _) | (with_reducible refine Below.alloc ?_ ?_ _) | (with_reducible refine Below.drew ?_) | (with_reducible refine Below.setCell ?_ ?_ _) | (with_reducible refine b_step ?_ (by assumption) ?_) | omega | (simp only [World.size_alloc, World.size_setCell, World.size_drew]; omega)))
end Go.Proofs.YtibncdefhphggaaDoor
