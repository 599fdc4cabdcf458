/- The contracts of Compose, Invert, Apply, Direction, Size, List and Fits. -/
import Derived.Test.YtibncdefhphggaaDoorA10
import Derived.Test.YtibncdefhphggaaDoorR
namespace Go.Proofs.YtibncdefhphggaaDoor
open Go.RowKit
set_option linter.unusedSimpArgs false
set_option linter.unusedVariables false
attribute [local go_sem ↓] Go.wp_at_zero Go.wp_at_succ

theorem is2_any {n m : Int} {r : Bool} (h : (isB n && isB m) = r) (b : Nat) (w : World) (hc : w.cell? ⟨b, 0, none⟩ = some (.int .i64 n)) (hd : w.cell? ⟨b, 1, none⟩ = some (.int .i64 m)) :
    Calls Tryd.prog 47 #[.slice (some ⟨b, 0, none⟩) 2 2] w fun e w' => e = .returned (.bool r) ∧ w = w' := by
  have := is2_c n m b w hc hd; rw [h] at this; exact this
theorem sized1_any {x y z : Int} {r : Bool} (h : szB x y z = r) (b : Nat) (w : World) (hx : w.cell? ⟨b, 0, none⟩ = some (.int .i64 x)) (hy : w.cell? ⟨b, 1, none⟩ = some (.int .i64 y)) (hz : w.cell? ⟨b, 2, none⟩ = some (.int .i64 z)) :
    Calls Tryd.prog 51 #[.slice (some ⟨b, 0, none⟩) 1 1] w fun e w' => e = .returned (.bool r) ∧ Below w.heap.size w w' := by
  have := sized1_c x y z b w hx hy hz; rw [h] at this; exact this
theorem sized2_any {x y z p q r : Int} {t : Bool} (h : (szB x y z && szB p q r) = t) (b : Nat) (w : World) (hx : w.cell? ⟨b, 0, none⟩ = some (.int .i64 x)) (hy : w.cell? ⟨b, 1, none⟩ = some (.int .i64 y)) (hz : w.cell? ⟨b, 2, none⟩ = some (.int .i64 z)) (hp : w.cell? ⟨b, 3, none⟩ = some (.int .i64 p)) (hq : w.cell? ⟨b, 4, none⟩ = some (.int .i64 q)) (hr : w.cell? ⟨b, 5, none⟩ = some (.int .i64 r)) :
    Calls Tryd.prog 51 #[.slice (some ⟨b, 0, none⟩) 2 2] w fun e w' => e = .returned (.bool t) ∧ Below w.heap.size w w' := by
  have := sized2_c x y z p q r b w hx hy hz hp hq hr; rw [h] at this; exact this
theorem near2_any {x y z p q r : Int} {t : Bool} (h : (nearB x y z && nearB p q r) = t) (b : Nat) (w : World) (hx : w.cell? ⟨b, 0, none⟩ = some (.int .i64 x)) (hy : w.cell? ⟨b, 1, none⟩ = some (.int .i64 y)) (hz : w.cell? ⟨b, 2, none⟩ = some (.int .i64 z)) (hp : w.cell? ⟨b, 3, none⟩ = some (.int .i64 p)) (hq : w.cell? ⟨b, 4, none⟩ = some (.int .i64 q)) (hr : w.cell? ⟨b, 5, none⟩ = some (.int .i64 r)) :
    Calls Tryd.prog 48 #[.slice (some ⟨b, 0, none⟩) 2 2] w fun e w' => e = .returned (.bool t) ∧ Below w.heap.size w w' := by
  have := near2_c x y z p q r b w hx hy hz hp hq hr; rw [h] at this; exact this
theorem isB_nat {n : Nat} (h : isB (n : Int) = true) : n < 24 := by have := isB_t.1 h; omega

set_option maxHeartbeats 1000000 in
theorem Compose_no (a b : Int) (h : (isB a && isB b) = false) (w : World) :
    Calls Tryd.prog 30 #[.int .i64 a, .int .i64 b] w fun e w' => e = .returned (.tuple #[.int .i64 0, .int .i64 1]) ∧ Below w.heap.size w w' := by
  have H := Lib.hid h; clear h
  go_enter Tryd.func30, Tryd.ntmps30
  go_wp2_with fail
  (with_reducible refine (is2_any H.out _ _ (c_at (by simp) rfl) (c_at (by simp) rfl)).mono ?_)
  rintro e t1 ⟨rfl, rfl⟩
  go_wp2
  go_ret2
  exact ⟨rfl, by (repeat' (first | (with_reducible assumption) | (with_reducible exact Below.refl _ _) | (with_reducible refine Below.alloc ?_ ?_ _) | (with_reducible refine Below.drew ?_) | (with_reducible refine Below.setCell ?_ ?_ _) | (with_reducible refine b_step ?_ (by assumption) ?_) | omega | (simp only [World.size_alloc, World.size_setCell, World.size_drew]; omega)))⟩
set_option maxHeartbeats 1000000 in
theorem Compose_c (a b : Nat) (h : a < 24) (h' : b < 24) (w : World) :
    Calls Tryd.prog 30 #[.int .i64 a, .int .i64 b] w fun e w' => e = .returned (.tuple #[.int .i64 (cmpT a b), .int .i64 0]) ∧ Below w.heap.size w w' := by
  have H := Lib.hid (show (isB a && isB b) = true by rw [isB_t.2 (by omega), isB_t.2 (by omega)]; rfl)
  have K := Lib.hid (fun w => compose_c a b h h' w)
  go_enter Tryd.func30, Tryd.ntmps30
  go_wp2_with fail
  (with_reducible refine (is2_any H.out _ _ (c_at (by simp) rfl) (c_at (by simp) rfl)).mono ?_)
  rintro e t1 ⟨rfl, rfl⟩
  go_wp2_with fail
  (with_reducible refine (K.out _).mono ?_)
  rintro e t2 ⟨rfl, y2⟩
  have zy2 := y2.size
  (try simp only [World.size_alloc, World.size_setCell, World.size_drew] at zy2)
  go_wp2
  go_ret2
  exact ⟨rfl, by (repeat' (first | (with_reducible assumption) | (with_reducible exact Below.refl _ _) | (with_reducible refine Below.alloc ?_ ?_ _) | (with_reducible refine Below.drew ?_) | (with_reducible refine Below.setCell ?_ ?_ _) | (with_reducible refine b_step ?_ (by assumption) ?_) | omega | (simp only [World.size_alloc, World.size_setCell, World.size_drew]; omega)))⟩

set_option maxHeartbeats 1000000 in
theorem Invert_no (a : Int) (h : isB a = false) (w : World) :
    Calls Tryd.prog 31 #[.int .i64 a] w fun e w' => e = .returned (.tuple #[.int .i64 0, .int .i64 1]) ∧ Below w.heap.size w w' := by
  have H := Lib.hid h; clear h
  go_enter Tryd.func31, Tryd.ntmps31
  go_wp2_with fail
  (with_reducible refine (is1_f H.out _ _ (c_at (by simp) rfl)).mono ?_)
  rintro e t1 ⟨rfl, rfl⟩
  go_wp2
  go_ret2
  exact ⟨rfl, by (repeat' (first | (with_reducible assumption) | (with_reducible exact Below.refl _ _) | (with_reducible refine Below.alloc ?_ ?_ _) | (with_reducible refine Below.drew ?_) | (with_reducible refine Below.setCell ?_ ?_ _) | (with_reducible refine b_step ?_ (by assumption) ?_) | omega | (simp only [World.size_alloc, World.size_setCell, World.size_drew]; omega)))⟩
set_option maxHeartbeats 1000000 in
theorem Invert_c (a : Nat) (h : a < 24) (w : World) :
    Calls Tryd.prog 31 #[.int .i64 a] w fun e w' => e = .returned (.tuple #[.int .i64 (invT a), .int .i64 0]) ∧ Below w.heap.size w w' := by
  have H := Lib.hid (show isB a = true by rw [isB_t.2 (by omega)])
  have K := Lib.hid (fun w => invert_c a h w)
  go_enter Tryd.func31, Tryd.ntmps31
  go_wp2_with fail
  (with_reducible refine (is1_t H.out _ _ (c_at (by simp) rfl)).mono ?_)
  rintro e t1 ⟨rfl, rfl⟩
  go_wp2_with fail
  (with_reducible refine (K.out _).mono ?_)
  rintro e t2 ⟨rfl, y2⟩
  have zy2 := y2.size
  (try simp only [World.size_alloc, World.size_setCell, World.size_drew] at zy2)
  go_wp2
  go_ret2
  exact ⟨rfl, by (repeat' (first | (with_reducible assumption) | (with_reducible exact Below.refl _ _) | (with_reducible refine Below.alloc ?_ ?_ _) | (with_reducible refine Below.drew ?_) | (with_reducible refine Below.setCell ?_ ?_ _) | (with_reducible refine b_step ?_ (by assumption) ?_) | omega | (simp only [World.size_alloc, World.size_setCell, World.size_drew]; omega)))⟩

set_option maxHeartbeats 1000000 in
theorem Direction_no (a d : Int) (h : isB a = false ∨ d < 0 ∨ 5 < d) (w : World) :
    Calls Tryd.prog 33 #[.int .i64 a, .int .i64 d] w fun e w' => e = .returned (.tuple #[.int .i64 0, .int .i64 1]) ∧ Below w.heap.size w w' := by
  cases hb : isB a
  · have H := Lib.hid hb; clear h hb
    go_enter Tryd.func33, Tryd.ntmps33
    go_wp2_with fail
    (with_reducible refine (is1_f H.out _ _ (c_at (by simp) rfl)).mono ?_)
    rintro e t1 ⟨rfl, rfl⟩
    go_wp2
    go_ret2
    exact ⟨rfl, by (repeat' (first | (with_reducible assumption) | (with_reducible exact Below.refl _ _) | (with_reducible refine Below.alloc ?_ ?_ _) | (with_reducible refine Below.drew ?_) | (with_reducible refine Below.setCell ?_ ?_ _) | (with_reducible refine b_step ?_ (by assumption) ?_) | omega | (simp only [World.size_alloc, World.size_setCell, World.size_drew]; omega)))⟩
  · rw [hb] at h
    have H := Lib.hid hb; clear hb
    rcases (show d < 0 ∨ 5 < d ∧ 0 ≤ d by rcases h with h | h | h; cases h; exact .inl h; exact .inr ⟨h, by omega⟩) with h | ⟨h, h'⟩
    all_goals
      go_enter Tryd.func33, Tryd.ntmps33
      go_wp2_with fail
      (with_reducible refine (is1_t H.out _ _ (c_at (by simp) rfl)).mono ?_)
      rintro e t1 ⟨rfl, rfl⟩
      go_wp2
      go_ret2
      exact ⟨rfl, by (repeat' (first | (with_reducible assumption) | (with_reducible exact Below.refl _ _) | (with_reducible refine Below.alloc ?_ ?_ _) | (with_reducible refine Below.drew ?_) | (with_reducible refine Below.setCell ?_ ?_ _) | (with_reducible refine b_step ?_ (by assumption) ?_) | omega | (simp only [World.size_alloc, World.size_setCell, World.size_drew]; omega)))⟩
set_option maxHeartbeats 1000000 in
theorem Direction_c (a d : Nat) (h : a < 24) (hd : d < 6) (w : World) (hu : Units w) :
    Calls Tryd.prog 33 #[.int .i64 a, .int .i64 d] w fun e w' => e = .returned (.tuple #[.int .i64 (dirT a d), .int .i64 0]) ∧ Below w.heap.size w w' := by
  have H := Lib.hid (show isB a = true by rw [isB_t.2 (by omega)])
  have K := Lib.hid (fun W (hW : Below w.heap.size w W) => direction_c a d h hd W (hu.later hW))
  have d5 : (d : Int) ≤ 5 := by omega
  go_enter Tryd.func33, Tryd.ntmps33
  go_wp2_with fail
  (with_reducible refine (is1_t H.out _ _ (c_at (by simp) rfl)).mono ?_)
  rintro e t1 ⟨rfl, rfl⟩
  go_wp2_with fail
  (with_reducible refine (K.out _ (by (repeat' (first | (with_reducible assumption) | (with_reducible exact Below.refl _ _) | (with_reducible refine Below.alloc ?_ ?_ _) | (with_reducible refine Below.drew ?_) | (with_reducible refine Below.setCell ?_ ?_ _) | (with_reducible refine b_step ?_ (by assumption) ?_) | omega | (simp only [World.size_alloc, World.size_setCell, World.size_drew]; omega))))).mono ?_)
  rintro e t2 ⟨rfl, y2⟩
  have zy2 := y2.size
  (try simp only [World.size_alloc, World.size_setCell, World.size_drew] at zy2)
  go_wp2
  go_ret2
  exact ⟨rfl, by (repeat' (first | (with_reducible assumption) | (with_reducible exact Below.refl _ _) | (with_reducible refine Below.alloc ?_ ?_ _) | (with_reducible refine Below.drew ?_) | (with_reducible refine Below.setCell ?_ ?_ _) | (with_reducible refine b_step ?_ (by assumption) ?_) | omega | (simp only [World.size_alloc, World.size_setCell, World.size_drew]; omega)))⟩

set_option maxHeartbeats 2000000 in
theorem Apply_no (n x y z : Int) (h : isB n = false) (w : World) :
    Calls Tryd.prog 32 #[.int .i64 n, vV x y z] w fun e w' => e = .returned (.tuple #[vV 0 0 0, .int .i64 1]) ∧ Below w.heap.size w w' := by
  have H := Lib.hid h; clear h
  go_enter Tryd.func32, Tryd.ntmps32
  go_wp2_with fail
  (with_reducible refine (is1_f H.out _ _ (c_at (by simp) rfl)).mono ?_)
  rintro e t1 ⟨rfl, rfl⟩
  go_wp2
  refine bodyPost_ret (res_2 rfl rfl (load_V (x := 0) (y := 0) (z := 0) ?_ ?_ ?_)) rfl ⟨rfl, ?_⟩ <;> first | (simp (disch := first | omega | (simp only [World.size_alloc, World.size_setCell, World.size_drew]; done) | (simp only [World.size_alloc, World.size_setCell, World.size_drew]; omega)) only [*, r_set_same, r_set_off, r_set_blk, r_set_f, r_alloc_at, r_alloc_past, r_falloc_at, r_falloc_past, World.cell?_drew, World.frozen?_drew, Option.map_some, List.getElem?_toArray, List.getElem?_cons_zero, List.getElem?_cons_succ]; done) | (repeat' (first | (with_reducible assumption) | (with_reducible exact Below.refl _ _) | (with_reducible refine Below.alloc ?_ ?_ _) | (with_reducible refine Below.drew ?_) | (with_reducible refine Below.setCell ?_ ?_ _) | (with_reducible refine b_step ?_ (by assumption) ?_) | omega | (simp only [World.size_alloc, World.size_setCell, World.size_drew]; omega)))
set_option maxHeartbeats 2000000 in
theorem Apply_far (n x y z : Int) (h : isB n = true) (h' : nearB x y z = false) (w : World) :
    Calls Tryd.prog 32 #[.int .i64 n, vV x y z] w fun e w' => e = .returned (.tuple #[vV 0 0 0, .int .i64 6]) ∧ Below w.heap.size w w' := by
  have H := Lib.hid h; clear h
  have N := Lib.hid h'; clear h'
  go_enter Tryd.func32, Tryd.ntmps32
  go_wp2_with fail
  (with_reducible refine (is1_t H.out _ _ (c_at (by simp) rfl)).mono ?_)
  rintro e t1 ⟨rfl, rfl⟩
  go_wp2_with fail
  (with_reducible refine (near1_f N.out _ _ (c_at (by simp) rfl) (c_at (by simp) rfl) (c_at (by simp) rfl)).mono ?_)
  rintro e t2 ⟨rfl, y2⟩
  have zy2 := y2.size
  (try simp only [World.size_alloc, World.size_setCell, World.size_drew] at zy2)
  have l2d : w.heap.size + 1 < t2.heap.size := by omega
  have d2_0 : t2.cell? ⟨w.heap.size + 1, 0, none⟩ = some (.int .i64 0) := cell_later y2 (by (simp (disch := first | omega | (simp only [World.size_alloc, World.size_setCell, World.size_drew]; done) | (simp only [World.size_alloc, World.size_setCell, World.size_drew]; omega)) only [*, r_set_same, r_set_off, r_set_blk, r_set_f, r_alloc_at, r_alloc_past, r_falloc_at, r_falloc_past, World.cell?_drew, World.frozen?_drew, Option.map_some, List.getElem?_toArray, List.getElem?_cons_zero, List.getElem?_cons_succ]; done))
  have d2_1 : t2.cell? ⟨w.heap.size + 1, 1, none⟩ = some (.int .i64 0) := cell_later y2 (by (simp (disch := first | omega | (simp only [World.size_alloc, World.size_setCell, World.size_drew]; done) | (simp only [World.size_alloc, World.size_setCell, World.size_drew]; omega)) only [*, r_set_same, r_set_off, r_set_blk, r_set_f, r_alloc_at, r_alloc_past, r_falloc_at, r_falloc_past, World.cell?_drew, World.frozen?_drew, Option.map_some, List.getElem?_toArray, List.getElem?_cons_zero, List.getElem?_cons_succ]; done))
  have d2_2 : t2.cell? ⟨w.heap.size + 1, 2, none⟩ = some (.int .i64 0) := cell_later y2 (by (simp (disch := first | omega | (simp only [World.size_alloc, World.size_setCell, World.size_drew]; done) | (simp only [World.size_alloc, World.size_setCell, World.size_drew]; omega)) only [*, r_set_same, r_set_off, r_set_blk, r_set_f, r_alloc_at, r_alloc_past, r_falloc_at, r_falloc_past, World.cell?_drew, World.frozen?_drew, Option.map_some, List.getElem?_toArray, List.getElem?_cons_zero, List.getElem?_cons_succ]; done))
  have f2_0 : t2.frozen? ⟨w.heap.size + 1, 0, none⟩ = false := f_later y2 (by (try dsimp only); first | omega | (simp only [World.size_alloc, World.size_drew, World.size_setCell]; done) | (simp only [World.size_alloc, World.size_drew, World.size_setCell]; omega)) (by (simp (disch := first | omega | (simp only [World.size_alloc, World.size_setCell, World.size_drew]; done) | (simp only [World.size_alloc, World.size_setCell, World.size_drew]; omega)) only [*, r_set_same, r_set_off, r_set_blk, r_set_f, r_alloc_at, r_alloc_past, r_falloc_at, r_falloc_past, World.cell?_drew, World.frozen?_drew, Option.map_some, List.getElem?_toArray, List.getElem?_cons_zero, List.getElem?_cons_succ]; done))
  have f2_1 : t2.frozen? ⟨w.heap.size + 1, 1, none⟩ = false := f_later y2 (by (try dsimp only); first | omega | (simp only [World.size_alloc, World.size_drew, World.size_setCell]; done) | (simp only [World.size_alloc, World.size_drew, World.size_setCell]; omega)) (by (simp (disch := first | omega | (simp only [World.size_alloc, World.size_setCell, World.size_drew]; done) | (simp only [World.size_alloc, World.size_setCell, World.size_drew]; omega)) only [*, r_set_same, r_set_off, r_set_blk, r_set_f, r_alloc_at, r_alloc_past, r_falloc_at, r_falloc_past, World.cell?_drew, World.frozen?_drew, Option.map_some, List.getElem?_toArray, List.getElem?_cons_zero, List.getElem?_cons_succ]; done))
  have f2_2 : t2.frozen? ⟨w.heap.size + 1, 2, none⟩ = false := f_later y2 (by (try dsimp only); first | omega | (simp only [World.size_alloc, World.size_drew, World.size_setCell]; done) | (simp only [World.size_alloc, World.size_drew, World.size_setCell]; omega)) (by (simp (disch := first | omega | (simp only [World.size_alloc, World.size_setCell, World.size_drew]; done) | (simp only [World.size_alloc, World.size_setCell, World.size_drew]; omega)) only [*, r_set_same, r_set_off, r_set_blk, r_set_f, r_alloc_at, r_alloc_past, r_falloc_at, r_falloc_past, World.cell?_drew, World.frozen?_drew, Option.map_some, List.getElem?_toArray, List.getElem?_cons_zero, List.getElem?_cons_succ]; done))
  go_wp2
  refine bodyPost_ret (res_2 rfl rfl (load_V (x := 0) (y := 0) (z := 0) ?_ ?_ ?_)) rfl ⟨rfl, ?_⟩ <;> first | (simp (disch := first | omega | (simp only [World.size_alloc, World.size_setCell, World.size_drew]; done) | (simp only [World.size_alloc, World.size_setCell, World.size_drew]; omega)) only [*, r_set_same, r_set_off, r_set_blk, r_set_f, r_alloc_at, r_alloc_past, r_falloc_at, r_falloc_past, World.cell?_drew, World.frozen?_drew, Option.map_some, List.getElem?_toArray, List.getElem?_cons_zero, List.getElem?_cons_succ]; done) | (repeat' (first | (with_reducible assumption) | (with_reducible exact Below.refl _ _) | (with_reducible refine Below.alloc ?_ ?_ _) | (with_reducible refine Below.drew ?_) | (with_reducible refine Below.setCell ?_ ?_ _) | (with_reducible refine b_step ?_ (by assumption) ?_) | omega | (simp only [World.size_alloc, World.size_setCell, World.size_drew]; omega)))
set_option maxHeartbeats 2000000 in
theorem Apply_aux (n : Nat) (x y z a b c : Int) (h : isB n = true) (h' : nearB x y z = true) (w : World) (Hc : ∀ w, Calls Tryd.prog 62 #[.int .i64 n, vV x y z] w fun e w' => e = .returned (vV a b c) ∧ Below w.heap.size w w') :
    Calls Tryd.prog 32 #[.int .i64 n, vV x y z] w fun e w' => e = .returned (.tuple #[vV a b c, .int .i64 0]) ∧ Below w.heap.size w w' := by
  have H := Lib.hid h; clear h
  have N := Lib.hid h'; clear h'
  have K := Lib.hid Hc; clear Hc
  go_enter Tryd.func32, Tryd.ntmps32
  go_wp2_with fail
  (with_reducible refine (is1_t H.out _ _ (c_at (by simp) rfl)).mono ?_)
  rintro e t1 ⟨rfl, rfl⟩
  go_wp2_with fail
  (with_reducible refine (near1_t N.out _ _ (c_at (by simp) rfl) (c_at (by simp) rfl) (c_at (by simp) rfl)).mono ?_)
  rintro e t2 ⟨rfl, y2⟩
  have zy2 := y2.size
  (try simp only [World.size_alloc, World.size_setCell, World.size_drew] at zy2)
  have l2d : w.heap.size + 1 < t2.heap.size := by omega
  have d2_0 : t2.cell? ⟨w.heap.size + 1, 0, none⟩ = some (.int .i64 0) := cell_later y2 (by (simp (disch := first | omega | (simp only [World.size_alloc, World.size_setCell, World.size_drew]; done) | (simp only [World.size_alloc, World.size_setCell, World.size_drew]; omega)) only [*, r_set_same, r_set_off, r_set_blk, r_set_f, r_alloc_at, r_alloc_past, r_falloc_at, r_falloc_past, World.cell?_drew, World.frozen?_drew, Option.map_some, List.getElem?_toArray, List.getElem?_cons_zero, List.getElem?_cons_succ]; done))
  have d2_1 : t2.cell? ⟨w.heap.size + 1, 1, none⟩ = some (.int .i64 0) := cell_later y2 (by (simp (disch := first | omega | (simp only [World.size_alloc, World.size_setCell, World.size_drew]; done) | (simp only [World.size_alloc, World.size_setCell, World.size_drew]; omega)) only [*, r_set_same, r_set_off, r_set_blk, r_set_f, r_alloc_at, r_alloc_past, r_falloc_at, r_falloc_past, World.cell?_drew, World.frozen?_drew, Option.map_some, List.getElem?_toArray, List.getElem?_cons_zero, List.getElem?_cons_succ]; done))
  have d2_2 : t2.cell? ⟨w.heap.size + 1, 2, none⟩ = some (.int .i64 0) := cell_later y2 (by (simp (disch := first | omega | (simp only [World.size_alloc, World.size_setCell, World.size_drew]; done) | (simp only [World.size_alloc, World.size_setCell, World.size_drew]; omega)) only [*, r_set_same, r_set_off, r_set_blk, r_set_f, r_alloc_at, r_alloc_past, r_falloc_at, r_falloc_past, World.cell?_drew, World.frozen?_drew, Option.map_some, List.getElem?_toArray, List.getElem?_cons_zero, List.getElem?_cons_succ]; done))
  have l2c : w.heap.size < t2.heap.size := by omega
  have c2_0 : t2.cell? ⟨w.heap.size, 0, none⟩ = some (.int .i64 x) := cell_later y2 (by (simp (disch := first | omega | (simp only [World.size_alloc, World.size_setCell, World.size_drew]; done) | (simp only [World.size_alloc, World.size_setCell, World.size_drew]; omega)) only [*, r_set_same, r_set_off, r_set_blk, r_set_f, r_alloc_at, r_alloc_past, r_falloc_at, r_falloc_past, World.cell?_drew, World.frozen?_drew, Option.map_some, List.getElem?_toArray, List.getElem?_cons_zero, List.getElem?_cons_succ]; done))
  have c2_1 : t2.cell? ⟨w.heap.size, 1, none⟩ = some (.int .i64 y) := cell_later y2 (by (simp (disch := first | omega | (simp only [World.size_alloc, World.size_setCell, World.size_drew]; done) | (simp only [World.size_alloc, World.size_setCell, World.size_drew]; omega)) only [*, r_set_same, r_set_off, r_set_blk, r_set_f, r_alloc_at, r_alloc_past, r_falloc_at, r_falloc_past, World.cell?_drew, World.frozen?_drew, Option.map_some, List.getElem?_toArray, List.getElem?_cons_zero, List.getElem?_cons_succ]; done))
  have c2_2 : t2.cell? ⟨w.heap.size, 2, none⟩ = some (.int .i64 z) := cell_later y2 (by (simp (disch := first | omega | (simp only [World.size_alloc, World.size_setCell, World.size_drew]; done) | (simp only [World.size_alloc, World.size_setCell, World.size_drew]; omega)) only [*, r_set_same, r_set_off, r_set_blk, r_set_f, r_alloc_at, r_alloc_past, r_falloc_at, r_falloc_past, World.cell?_drew, World.frozen?_drew, Option.map_some, List.getElem?_toArray, List.getElem?_cons_zero, List.getElem?_cons_succ]; done))
  have f2_0 : t2.frozen? ⟨w.heap.size + 1, 0, none⟩ = false := f_later y2 (by (try dsimp only); first | omega | (simp only [World.size_alloc, World.size_drew, World.size_setCell]; done) | (simp only [World.size_alloc, World.size_drew, World.size_setCell]; omega)) (by (simp (disch := first | omega | (simp only [World.size_alloc, World.size_setCell, World.size_drew]; done) | (simp only [World.size_alloc, World.size_setCell, World.size_drew]; omega)) only [*, r_set_same, r_set_off, r_set_blk, r_set_f, r_alloc_at, r_alloc_past, r_falloc_at, r_falloc_past, World.cell?_drew, World.frozen?_drew, Option.map_some, List.getElem?_toArray, List.getElem?_cons_zero, List.getElem?_cons_succ]; done))
  have f2_1 : t2.frozen? ⟨w.heap.size + 1, 1, none⟩ = false := f_later y2 (by (try dsimp only); first | omega | (simp only [World.size_alloc, World.size_drew, World.size_setCell]; done) | (simp only [World.size_alloc, World.size_drew, World.size_setCell]; omega)) (by (simp (disch := first | omega | (simp only [World.size_alloc, World.size_setCell, World.size_drew]; done) | (simp only [World.size_alloc, World.size_setCell, World.size_drew]; omega)) only [*, r_set_same, r_set_off, r_set_blk, r_set_f, r_alloc_at, r_alloc_past, r_falloc_at, r_falloc_past, World.cell?_drew, World.frozen?_drew, Option.map_some, List.getElem?_toArray, List.getElem?_cons_zero, List.getElem?_cons_succ]; done))
  have f2_2 : t2.frozen? ⟨w.heap.size + 1, 2, none⟩ = false := f_later y2 (by (try dsimp only); first | omega | (simp only [World.size_alloc, World.size_drew, World.size_setCell]; done) | (simp only [World.size_alloc, World.size_drew, World.size_setCell]; omega)) (by (simp (disch := first | omega | (simp only [World.size_alloc, World.size_setCell, World.size_drew]; done) | (simp only [World.size_alloc, World.size_setCell, World.size_drew]; omega)) only [*, r_set_same, r_set_off, r_set_blk, r_set_f, r_alloc_at, r_alloc_past, r_falloc_at, r_falloc_past, World.cell?_drew, World.frozen?_drew, Option.map_some, List.getElem?_toArray, List.getElem?_cons_zero, List.getElem?_cons_succ]; done))
  go_wp2_with fail
  (with_reducible refine (K.out _).mono ?_)
  rintro e t3 ⟨rfl, y3⟩
  have zy3 := y3.size
  (try simp only [World.size_alloc, World.size_setCell, World.size_drew] at zy3)
  have l3d : w.heap.size + 1 < t3.heap.size := by omega
  have d3_0 : t3.cell? ⟨w.heap.size + 1, 0, none⟩ = some (.int .i64 0) := cell_later y3 (by (simp (disch := first | omega | (simp only [World.size_alloc, World.size_setCell, World.size_drew]; done) | (simp only [World.size_alloc, World.size_setCell, World.size_drew]; omega)) only [*, r_set_same, r_set_off, r_set_blk, r_set_f, r_alloc_at, r_alloc_past, r_falloc_at, r_falloc_past, World.cell?_drew, World.frozen?_drew, Option.map_some, List.getElem?_toArray, List.getElem?_cons_zero, List.getElem?_cons_succ]; done))
  have d3_1 : t3.cell? ⟨w.heap.size + 1, 1, none⟩ = some (.int .i64 0) := cell_later y3 (by (simp (disch := first | omega | (simp only [World.size_alloc, World.size_setCell, World.size_drew]; done) | (simp only [World.size_alloc, World.size_setCell, World.size_drew]; omega)) only [*, r_set_same, r_set_off, r_set_blk, r_set_f, r_alloc_at, r_alloc_past, r_falloc_at, r_falloc_past, World.cell?_drew, World.frozen?_drew, Option.map_some, List.getElem?_toArray, List.getElem?_cons_zero, List.getElem?_cons_succ]; done))
  have d3_2 : t3.cell? ⟨w.heap.size + 1, 2, none⟩ = some (.int .i64 0) := cell_later y3 (by (simp (disch := first | omega | (simp only [World.size_alloc, World.size_setCell, World.size_drew]; done) | (simp only [World.size_alloc, World.size_setCell, World.size_drew]; omega)) only [*, r_set_same, r_set_off, r_set_blk, r_set_f, r_alloc_at, r_alloc_past, r_falloc_at, r_falloc_past, World.cell?_drew, World.frozen?_drew, Option.map_some, List.getElem?_toArray, List.getElem?_cons_zero, List.getElem?_cons_succ]; done))
  have f3_0 : t3.frozen? ⟨w.heap.size + 1, 0, none⟩ = false := f_later y3 (by (try dsimp only); first | omega | (simp only [World.size_alloc, World.size_drew, World.size_setCell]; done) | (simp only [World.size_alloc, World.size_drew, World.size_setCell]; omega)) (by (simp (disch := first | omega | (simp only [World.size_alloc, World.size_setCell, World.size_drew]; done) | (simp only [World.size_alloc, World.size_setCell, World.size_drew]; omega)) only [*, r_set_same, r_set_off, r_set_blk, r_set_f, r_alloc_at, r_alloc_past, r_falloc_at, r_falloc_past, World.cell?_drew, World.frozen?_drew, Option.map_some, List.getElem?_toArray, List.getElem?_cons_zero, List.getElem?_cons_succ]; done))
  have f3_1 : t3.frozen? ⟨w.heap.size + 1, 1, none⟩ = false := f_later y3 (by (try dsimp only); first | omega | (simp only [World.size_alloc, World.size_drew, World.size_setCell]; done) | (simp only [World.size_alloc, World.size_drew, World.size_setCell]; omega)) (by (simp (disch := first | omega | (simp only [World.size_alloc, World.size_setCell, World.size_drew]; done) | (simp only [World.size_alloc, World.size_setCell, World.size_drew]; omega)) only [*, r_set_same, r_set_off, r_set_blk, r_set_f, r_alloc_at, r_alloc_past, r_falloc_at, r_falloc_past, World.cell?_drew, World.frozen?_drew, Option.map_some, List.getElem?_toArray, List.getElem?_cons_zero, List.getElem?_cons_succ]; done))
  have f3_2 : t3.frozen? ⟨w.heap.size + 1, 2, none⟩ = false := f_later y3 (by (try dsimp only); first | omega | (simp only [World.size_alloc, World.size_drew, World.size_setCell]; done) | (simp only [World.size_alloc, World.size_drew, World.size_setCell]; omega)) (by (simp (disch := first | omega | (simp only [World.size_alloc, World.size_setCell, World.size_drew]; done) | (simp only [World.size_alloc, World.size_setCell, World.size_drew]; omega)) only [*, r_set_same, r_set_off, r_set_blk, r_set_f, r_alloc_at, r_alloc_past, r_falloc_at, r_falloc_past, World.cell?_drew, World.frozen?_drew, Option.map_some, List.getElem?_toArray, List.getElem?_cons_zero, List.getElem?_cons_succ]; done))
  go_wp2
  refine bodyPost_ret (res_2 rfl rfl (load_V (x := a) (y := b) (z := c) ?_ ?_ ?_)) rfl ⟨rfl, ?_⟩ <;> first | (simp (disch := first | omega | (simp only [World.size_alloc, World.size_setCell, World.size_drew]; done) | (simp only [World.size_alloc, World.size_setCell, World.size_drew]; omega)) only [*, r_set_same, r_set_off, r_set_blk, r_set_f, r_alloc_at, r_alloc_past, r_falloc_at, r_falloc_past, World.cell?_drew, World.frozen?_drew, Option.map_some, List.getElem?_toArray, List.getElem?_cons_zero, List.getElem?_cons_succ]; done) | (repeat' (first | (with_reducible assumption) | (with_reducible exact Below.refl _ _) | (with_reducible refine Below.alloc ?_ ?_ _) | (with_reducible refine Below.drew ?_) | (with_reducible refine Below.setCell ?_ ?_ _) | (with_reducible refine b_step ?_ (by assumption) ?_) | omega | (simp only [World.size_alloc, World.size_setCell, World.size_drew]; omega)))
theorem Apply_c (n : Nat) (x y z : Int) (h : n < 24) (h' : nearB x y z = true) (w : World) :
    Calls Tryd.prog 32 #[.int .i64 n, vV x y z] w fun e w' => e = .returned (.tuple #[vV (ap n 0 x y z) (ap n 1 x y z) (ap n 2 x y z), .int .i64 0]) ∧ Below w.heap.size w w' :=
  Apply_aux n x y z _ _ _ (isB_t.2 (by omega)) h' w (fun w => apply_c n h x y z (by have := nearB_t.1 h'; omega) (by have := nearB_t.1 h'; omega) (by have := nearB_t.1 h'; omega) w)

set_option maxHeartbeats 2000000 in
theorem Size_no (n x y z : Int) (h : (isB n && szB x y z) = false) (w : World) :
    Calls Tryd.prog 12 #[.int .i64 n, vV x y z] w fun e w' => e = .returned (.tuple #[vV 0 0 0, .int .i64 1]) ∧ Below w.heap.size w w' := by
  cases hb : isB n
  · have H := Lib.hid hb; clear h hb
    go_enter Tryd.func12, Tryd.ntmps12
    go_wp2_with fail
    (with_reducible refine (is1_f H.out _ _ (c_at (by simp) rfl)).mono ?_)
    rintro e t1 ⟨rfl, rfl⟩
    go_wp2
    refine bodyPost_ret (res_2 rfl rfl (load_V (x := 0) (y := 0) (z := 0) ?_ ?_ ?_)) rfl ⟨rfl, ?_⟩ <;> first | (simp (disch := first | omega | (simp only [World.size_alloc, World.size_setCell, World.size_drew]; done) | (simp only [World.size_alloc, World.size_setCell, World.size_drew]; omega)) only [*, r_set_same, r_set_off, r_set_blk, r_set_f, r_alloc_at, r_alloc_past, r_falloc_at, r_falloc_past, World.cell?_drew, World.frozen?_drew, Option.map_some, List.getElem?_toArray, List.getElem?_cons_zero, List.getElem?_cons_succ]; done) | (repeat' (first | (with_reducible assumption) | (with_reducible exact Below.refl _ _) | (with_reducible refine Below.alloc ?_ ?_ _) | (with_reducible refine Below.drew ?_) | (with_reducible refine Below.setCell ?_ ?_ _) | (with_reducible refine b_step ?_ (by assumption) ?_) | omega | (simp only [World.size_alloc, World.size_setCell, World.size_drew]; omega)))
  · rw [hb, Bool.true_and] at h
    have H := Lib.hid hb; clear hb
    have S := Lib.hid h; clear h
    go_enter Tryd.func12, Tryd.ntmps12
    go_wp2_with fail
    (with_reducible refine (is1_t H.out _ _ (c_at (by simp) rfl)).mono ?_)
    rintro e t1 ⟨rfl, rfl⟩
    go_wp2_with fail
    (with_reducible refine (sized1_any S.out _ _ (c_at (by simp) rfl) (c_at (by simp) rfl) (c_at (by simp) rfl)).mono ?_)
    rintro e t2 ⟨rfl, y2⟩
    have zy2 := y2.size
    (try simp only [World.size_alloc, World.size_setCell, World.size_drew] at zy2)
    have l2d : w.heap.size + 1 < t2.heap.size := by omega
    have d2_0 : t2.cell? ⟨w.heap.size + 1, 0, none⟩ = some (.int .i64 0) := cell_later y2 (by (simp (disch := first | omega | (simp only [World.size_alloc, World.size_setCell, World.size_drew]; done) | (simp only [World.size_alloc, World.size_setCell, World.size_drew]; omega)) only [*, r_set_same, r_set_off, r_set_blk, r_set_f, r_alloc_at, r_alloc_past, r_falloc_at, r_falloc_past, World.cell?_drew, World.frozen?_drew, Option.map_some, List.getElem?_toArray, List.getElem?_cons_zero, List.getElem?_cons_succ]; done))
    have d2_1 : t2.cell? ⟨w.heap.size + 1, 1, none⟩ = some (.int .i64 0) := cell_later y2 (by (simp (disch := first | omega | (simp only [World.size_alloc, World.size_setCell, World.size_drew]; done) | (simp only [World.size_alloc, World.size_setCell, World.size_drew]; omega)) only [*, r_set_same, r_set_off, r_set_blk, r_set_f, r_alloc_at, r_alloc_past, r_falloc_at, r_falloc_past, World.cell?_drew, World.frozen?_drew, Option.map_some, List.getElem?_toArray, List.getElem?_cons_zero, List.getElem?_cons_succ]; done))
    have d2_2 : t2.cell? ⟨w.heap.size + 1, 2, none⟩ = some (.int .i64 0) := cell_later y2 (by (simp (disch := first | omega | (simp only [World.size_alloc, World.size_setCell, World.size_drew]; done) | (simp only [World.size_alloc, World.size_setCell, World.size_drew]; omega)) only [*, r_set_same, r_set_off, r_set_blk, r_set_f, r_alloc_at, r_alloc_past, r_falloc_at, r_falloc_past, World.cell?_drew, World.frozen?_drew, Option.map_some, List.getElem?_toArray, List.getElem?_cons_zero, List.getElem?_cons_succ]; done))
    have f2_0 : t2.frozen? ⟨w.heap.size + 1, 0, none⟩ = false := f_later y2 (by (try dsimp only); first | omega | (simp only [World.size_alloc, World.size_drew, World.size_setCell]; done) | (simp only [World.size_alloc, World.size_drew, World.size_setCell]; omega)) (by (simp (disch := first | omega | (simp only [World.size_alloc, World.size_setCell, World.size_drew]; done) | (simp only [World.size_alloc, World.size_setCell, World.size_drew]; omega)) only [*, r_set_same, r_set_off, r_set_blk, r_set_f, r_alloc_at, r_alloc_past, r_falloc_at, r_falloc_past, World.cell?_drew, World.frozen?_drew, Option.map_some, List.getElem?_toArray, List.getElem?_cons_zero, List.getElem?_cons_succ]; done))
    have f2_1 : t2.frozen? ⟨w.heap.size + 1, 1, none⟩ = false := f_later y2 (by (try dsimp only); first | omega | (simp only [World.size_alloc, World.size_drew, World.size_setCell]; done) | (simp only [World.size_alloc, World.size_drew, World.size_setCell]; omega)) (by (simp (disch := first | omega | (simp only [World.size_alloc, World.size_setCell, World.size_drew]; done) | (simp only [World.size_alloc, World.size_setCell, World.size_drew]; omega)) only [*, r_set_same, r_set_off, r_set_blk, r_set_f, r_alloc_at, r_alloc_past, r_falloc_at, r_falloc_past, World.cell?_drew, World.frozen?_drew, Option.map_some, List.getElem?_toArray, List.getElem?_cons_zero, List.getElem?_cons_succ]; done))
    have f2_2 : t2.frozen? ⟨w.heap.size + 1, 2, none⟩ = false := f_later y2 (by (try dsimp only); first | omega | (simp only [World.size_alloc, World.size_drew, World.size_setCell]; done) | (simp only [World.size_alloc, World.size_drew, World.size_setCell]; omega)) (by (simp (disch := first | omega | (simp only [World.size_alloc, World.size_setCell, World.size_drew]; done) | (simp only [World.size_alloc, World.size_setCell, World.size_drew]; omega)) only [*, r_set_same, r_set_off, r_set_blk, r_set_f, r_alloc_at, r_alloc_past, r_falloc_at, r_falloc_past, World.cell?_drew, World.frozen?_drew, Option.map_some, List.getElem?_toArray, List.getElem?_cons_zero, List.getElem?_cons_succ]; done))
    go_wp2
    refine bodyPost_ret (res_2 rfl rfl (load_V (x := 0) (y := 0) (z := 0) ?_ ?_ ?_)) rfl ⟨rfl, ?_⟩ <;> first | (simp (disch := first | omega | (simp only [World.size_alloc, World.size_setCell, World.size_drew]; done) | (simp only [World.size_alloc, World.size_setCell, World.size_drew]; omega)) only [*, r_set_same, r_set_off, r_set_blk, r_set_f, r_alloc_at, r_alloc_past, r_falloc_at, r_falloc_past, World.cell?_drew, World.frozen?_drew, Option.map_some, List.getElem?_toArray, List.getElem?_cons_zero, List.getElem?_cons_succ]; done) | (repeat' (first | (with_reducible assumption) | (with_reducible exact Below.refl _ _) | (with_reducible refine Below.alloc ?_ ?_ _) | (with_reducible refine Below.drew ?_) | (with_reducible refine Below.setCell ?_ ?_ _) | (with_reducible refine b_step ?_ (by assumption) ?_) | omega | (simp only [World.size_alloc, World.size_setCell, World.size_drew]; omega)))
set_option maxHeartbeats 2000000 in
theorem Size_aux (n : Nat) (x y z a b c : Int) (h : isB n = true) (h' : szB x y z = true) (w : World) (Hc : ∀ w, Calls Tryd.prog 52 #[.int .i64 n, vV x y z] w fun e w' => e = .returned (vV a b c) ∧ Below w.heap.size w w') :
    Calls Tryd.prog 12 #[.int .i64 n, vV x y z] w fun e w' => e = .returned (.tuple #[vV a b c, .int .i64 0]) ∧ Below w.heap.size w w' := by
  have H := Lib.hid h; clear h
  have S := Lib.hid h'; clear h'
  have K := Lib.hid Hc; clear Hc
  go_enter Tryd.func12, Tryd.ntmps12
  go_wp2_with fail
  (with_reducible refine (is1_t H.out _ _ (c_at (by simp) rfl)).mono ?_)
  rintro e t1 ⟨rfl, rfl⟩
  go_wp2_with fail
  (with_reducible refine (sized1_any S.out _ _ (c_at (by simp) rfl) (c_at (by simp) rfl) (c_at (by simp) rfl)).mono ?_)
  rintro e t2 ⟨rfl, y2⟩
  have zy2 := y2.size
  (try simp only [World.size_alloc, World.size_setCell, World.size_drew] at zy2)
  have l2d : w.heap.size + 1 < t2.heap.size := by omega
  have d2_0 : t2.cell? ⟨w.heap.size + 1, 0, none⟩ = some (.int .i64 0) := cell_later y2 (by (simp (disch := first | omega | (simp only [World.size_alloc, World.size_setCell, World.size_drew]; done) | (simp only [World.size_alloc, World.size_setCell, World.size_drew]; omega)) only [*, r_set_same, r_set_off, r_set_blk, r_set_f, r_alloc_at, r_alloc_past, r_falloc_at, r_falloc_past, World.cell?_drew, World.frozen?_drew, Option.map_some, List.getElem?_toArray, List.getElem?_cons_zero, List.getElem?_cons_succ]; done))
  have d2_1 : t2.cell? ⟨w.heap.size + 1, 1, none⟩ = some (.int .i64 0) := cell_later y2 (by (simp (disch := first | omega | (simp only [World.size_alloc, World.size_setCell, World.size_drew]; done) | (simp only [World.size_alloc, World.size_setCell, World.size_drew]; omega)) only [*, r_set_same, r_set_off, r_set_blk, r_set_f, r_alloc_at, r_alloc_past, r_falloc_at, r_falloc_past, World.cell?_drew, World.frozen?_drew, Option.map_some, List.getElem?_toArray, List.getElem?_cons_zero, List.getElem?_cons_succ]; done))
  have d2_2 : t2.cell? ⟨w.heap.size + 1, 2, none⟩ = some (.int .i64 0) := cell_later y2 (by (simp (disch := first | omega | (simp only [World.size_alloc, World.size_setCell, World.size_drew]; done) | (simp only [World.size_alloc, World.size_setCell, World.size_drew]; omega)) only [*, r_set_same, r_set_off, r_set_blk, r_set_f, r_alloc_at, r_alloc_past, r_falloc_at, r_falloc_past, World.cell?_drew, World.frozen?_drew, Option.map_some, List.getElem?_toArray, List.getElem?_cons_zero, List.getElem?_cons_succ]; done))
  have l2c : w.heap.size < t2.heap.size := by omega
  have c2_0 : t2.cell? ⟨w.heap.size, 0, none⟩ = some (.int .i64 x) := cell_later y2 (by (simp (disch := first | omega | (simp only [World.size_alloc, World.size_setCell, World.size_drew]; done) | (simp only [World.size_alloc, World.size_setCell, World.size_drew]; omega)) only [*, r_set_same, r_set_off, r_set_blk, r_set_f, r_alloc_at, r_alloc_past, r_falloc_at, r_falloc_past, World.cell?_drew, World.frozen?_drew, Option.map_some, List.getElem?_toArray, List.getElem?_cons_zero, List.getElem?_cons_succ]; done))
  have c2_1 : t2.cell? ⟨w.heap.size, 1, none⟩ = some (.int .i64 y) := cell_later y2 (by (simp (disch := first | omega | (simp only [World.size_alloc, World.size_setCell, World.size_drew]; done) | (simp only [World.size_alloc, World.size_setCell, World.size_drew]; omega)) only [*, r_set_same, r_set_off, r_set_blk, r_set_f, r_alloc_at, r_alloc_past, r_falloc_at, r_falloc_past, World.cell?_drew, World.frozen?_drew, Option.map_some, List.getElem?_toArray, List.getElem?_cons_zero, List.getElem?_cons_succ]; done))
  have c2_2 : t2.cell? ⟨w.heap.size, 2, none⟩ = some (.int .i64 z) := cell_later y2 (by (simp (disch := first | omega | (simp only [World.size_alloc, World.size_setCell, World.size_drew]; done) | (simp only [World.size_alloc, World.size_setCell, World.size_drew]; omega)) only [*, r_set_same, r_set_off, r_set_blk, r_set_f, r_alloc_at, r_alloc_past, r_falloc_at, r_falloc_past, World.cell?_drew, World.frozen?_drew, Option.map_some, List.getElem?_toArray, List.getElem?_cons_zero, List.getElem?_cons_succ]; done))
  have f2_0 : t2.frozen? ⟨w.heap.size + 1, 0, none⟩ = false := f_later y2 (by (try dsimp only); first | omega | (simp only [World.size_alloc, World.size_drew, World.size_setCell]; done) | (simp only [World.size_alloc, World.size_drew, World.size_setCell]; omega)) (by (simp (disch := first | omega | (simp only [World.size_alloc, World.size_setCell, World.size_drew]; done) | (simp only [World.size_alloc, World.size_setCell, World.size_drew]; omega)) only [*, r_set_same, r_set_off, r_set_blk, r_set_f, r_alloc_at, r_alloc_past, r_falloc_at, r_falloc_past, World.cell?_drew, World.frozen?_drew, Option.map_some, List.getElem?_toArray, List.getElem?_cons_zero, List.getElem?_cons_succ]; done))
  have f2_1 : t2.frozen? ⟨w.heap.size + 1, 1, none⟩ = false := f_later y2 (by (try dsimp only); first | omega | (simp only [World.size_alloc, World.size_drew, World.size_setCell]; done) | (simp only [World.size_alloc, World.size_drew, World.size_setCell]; omega)) (by (simp (disch := first | omega | (simp only [World.size_alloc, World.size_setCell, World.size_drew]; done) | (simp only [World.size_alloc, World.size_setCell, World.size_drew]; omega)) only [*, r_set_same, r_set_off, r_set_blk, r_set_f, r_alloc_at, r_alloc_past, r_falloc_at, r_falloc_past, World.cell?_drew, World.frozen?_drew, Option.map_some, List.getElem?_toArray, List.getElem?_cons_zero, List.getElem?_cons_succ]; done))
  have f2_2 : t2.frozen? ⟨w.heap.size + 1, 2, none⟩ = false := f_later y2 (by (try dsimp only); first | omega | (simp only [World.size_alloc, World.size_drew, World.size_setCell]; done) | (simp only [World.size_alloc, World.size_drew, World.size_setCell]; omega)) (by (simp (disch := first | omega | (simp only [World.size_alloc, World.size_setCell, World.size_drew]; done) | (simp only [World.size_alloc, World.size_setCell, World.size_drew]; omega)) only [*, r_set_same, r_set_off, r_set_blk, r_set_f, r_alloc_at, r_alloc_past, r_falloc_at, r_falloc_past, World.cell?_drew, World.frozen?_drew, Option.map_some, List.getElem?_toArray, List.getElem?_cons_zero, List.getElem?_cons_succ]; done))
  go_wp2_with fail
  (with_reducible refine (K.out _).mono ?_)
  rintro e t3 ⟨rfl, y3⟩
  have zy3 := y3.size
  (try simp only [World.size_alloc, World.size_setCell, World.size_drew] at zy3)
  have l3d : w.heap.size + 1 < t3.heap.size := by omega
  have d3_0 : t3.cell? ⟨w.heap.size + 1, 0, none⟩ = some (.int .i64 0) := cell_later y3 (by (simp (disch := first | omega | (simp only [World.size_alloc, World.size_setCell, World.size_drew]; done) | (simp only [World.size_alloc, World.size_setCell, World.size_drew]; omega)) only [*, r_set_same, r_set_off, r_set_blk, r_set_f, r_alloc_at, r_alloc_past, r_falloc_at, r_falloc_past, World.cell?_drew, World.frozen?_drew, Option.map_some, List.getElem?_toArray, List.getElem?_cons_zero, List.getElem?_cons_succ]; done))
  have d3_1 : t3.cell? ⟨w.heap.size + 1, 1, none⟩ = some (.int .i64 0) := cell_later y3 (by (simp (disch := first | omega | (simp only [World.size_alloc, World.size_setCell, World.size_drew]; done) | (simp only [World.size_alloc, World.size_setCell, World.size_drew]; omega)) only [*, r_set_same, r_set_off, r_set_blk, r_set_f, r_alloc_at, r_alloc_past, r_falloc_at, r_falloc_past, World.cell?_drew, World.frozen?_drew, Option.map_some, List.getElem?_toArray, List.getElem?_cons_zero, List.getElem?_cons_succ]; done))
  have d3_2 : t3.cell? ⟨w.heap.size + 1, 2, none⟩ = some (.int .i64 0) := cell_later y3 (by (simp (disch := first | omega | (simp only [World.size_alloc, World.size_setCell, World.size_drew]; done) | (simp only [World.size_alloc, World.size_setCell, World.size_drew]; omega)) only [*, r_set_same, r_set_off, r_set_blk, r_set_f, r_alloc_at, r_alloc_past, r_falloc_at, r_falloc_past, World.cell?_drew, World.frozen?_drew, Option.map_some, List.getElem?_toArray, List.getElem?_cons_zero, List.getElem?_cons_succ]; done))
  have f3_0 : t3.frozen? ⟨w.heap.size + 1, 0, none⟩ = false := f_later y3 (by (try dsimp only); first | omega | (simp only [World.size_alloc, World.size_drew, World.size_setCell]; done) | (simp only [World.size_alloc, World.size_drew, World.size_setCell]; omega)) (by (simp (disch := first | omega | (simp only [World.size_alloc, World.size_setCell, World.size_drew]; done) | (simp only [World.size_alloc, World.size_setCell, World.size_drew]; omega)) only [*, r_set_same, r_set_off, r_set_blk, r_set_f, r_alloc_at, r_alloc_past, r_falloc_at, r_falloc_past, World.cell?_drew, World.frozen?_drew, Option.map_some, List.getElem?_toArray, List.getElem?_cons_zero, List.getElem?_cons_succ]; done))
  have f3_1 : t3.frozen? ⟨w.heap.size + 1, 1, none⟩ = false := f_later y3 (by (try dsimp only); first | omega | (simp only [World.size_alloc, World.size_drew, World.size_setCell]; done) | (simp only [World.size_alloc, World.size_drew, World.size_setCell]; omega)) (by (simp (disch := first | omega | (simp only [World.size_alloc, World.size_setCell, World.size_drew]; done) | (simp only [World.size_alloc, World.size_setCell, World.size_drew]; omega)) only [*, r_set_same, r_set_off, r_set_blk, r_set_f, r_alloc_at, r_alloc_past, r_falloc_at, r_falloc_past, World.cell?_drew, World.frozen?_drew, Option.map_some, List.getElem?_toArray, List.getElem?_cons_zero, List.getElem?_cons_succ]; done))
  have f3_2 : t3.frozen? ⟨w.heap.size + 1, 2, none⟩ = false := f_later y3 (by (try dsimp only); first | omega | (simp only [World.size_alloc, World.size_drew, World.size_setCell]; done) | (simp only [World.size_alloc, World.size_drew, World.size_setCell]; omega)) (by (simp (disch := first | omega | (simp only [World.size_alloc, World.size_setCell, World.size_drew]; done) | (simp only [World.size_alloc, World.size_setCell, World.size_drew]; omega)) only [*, r_set_same, r_set_off, r_set_blk, r_set_f, r_alloc_at, r_alloc_past, r_falloc_at, r_falloc_past, World.cell?_drew, World.frozen?_drew, Option.map_some, List.getElem?_toArray, List.getElem?_cons_zero, List.getElem?_cons_succ]; done))
  go_wp2
  refine bodyPost_ret (res_2 rfl rfl (load_V (x := a) (y := b) (z := c) ?_ ?_ ?_)) rfl ⟨rfl, ?_⟩ <;> first | (simp (disch := first | omega | (simp only [World.size_alloc, World.size_setCell, World.size_drew]; done) | (simp only [World.size_alloc, World.size_setCell, World.size_drew]; omega)) only [*, r_set_same, r_set_off, r_set_blk, r_set_f, r_alloc_at, r_alloc_past, r_falloc_at, r_falloc_past, World.cell?_drew, World.frozen?_drew, Option.map_some, List.getElem?_toArray, List.getElem?_cons_zero, List.getElem?_cons_succ]; done) | (repeat' (first | (with_reducible assumption) | (with_reducible exact Below.refl _ _) | (with_reducible refine Below.alloc ?_ ?_ _) | (with_reducible refine Below.drew ?_) | (with_reducible refine Below.setCell ?_ ?_ _) | (with_reducible refine b_step ?_ (by assumption) ?_) | omega | (simp only [World.size_alloc, World.size_setCell, World.size_drew]; omega)))
theorem Size_c (n : Nat) (x y z : Int) (h : n < 24) (h' : szB x y z = true) (w : World) :
    Calls Tryd.prog 12 #[.int .i64 n, vV x y z] w fun e w' => e = .returned (.tuple #[vV (ext n 0 x y z) (ext n 1 x y z) (ext n 2 x y z), .int .i64 0]) ∧ Below w.heap.size w w' :=
  Size_aux n x y z _ _ _ (isB_t.2 (by omega)) h' w (fun w => turned_c n h x y z (by have := szB_t.1 h'; omega) (by have := szB_t.1 h'; omega) (by have := szB_t.1 h'; omega) w)
end Go.Proofs.YtibncdefhphggaaDoor
