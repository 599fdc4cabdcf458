/- The contracts of List and Fits. -/
import Derived.Test.YtibncdefhphggaaDoorA11
namespace Go.Proofs.YtibncdefhphggaaDoor
open Go.RowKit
set_option linter.unusedSimpArgs false
set_option linter.unusedVariables false
attribute [local go_sem ↓] Go.wp_at_zero Go.wp_at_succ

def knB (bed : Int) : Bool := decide (0 ≤ bed ∧ bed ≤ 3)
theorem known_c (bed : Int) (r : Bool) (h : knB bed = r) (w : World) : Calls Tryd.prog 55 #[.int .i64 bed] w fun e w' => e = .returned (.bool r) ∧ w = w' := by
  rcases (show bed < 0 ∨ 3 < bed ∨ (0 ≤ bed ∧ bed ≤ 3) by omega) with k | k | ⟨k, k'⟩
  all_goals
    have hr : Hid (r = knB bed) := h.symm
    clear h
    go_enter Tryd.func55, Tryd.ntmps55
    go_wp2
    go_ret
    exact ⟨ret_bool (by rw [hr.out]; simp [knB]; omega), rfl⟩

/-- It returns a slice of its own that holds the list, and an error. -/
def RetRowE (B : Nat) (w : World) (xs : List Int) (c : Int) (e : Ending) (w' : World) : Prop := ∃ v, e = .returned (.tuple #[v, .int .i64 c]) ∧ w'.ownsRow B 3 1 v xs.length (xs.map (Value.int .i64)) ∧ Below w.heap.size w w'
theorem own_mono {w : World} {B B' n : Nat} {v : Value} {xs : List Value} (h : w.ownsRow B 3 1 v n xs) (hB : B' ≤ B) : w.ownsRow B' 3 1 v n xs := by
  obtain ⟨h1, h2⟩ := h
  refine ⟨h1, ?_⟩
  rcases h2 with h2 | ⟨g, cap, cur, hv, hg, r⟩
  · exact .inl h2
  · exact .inr ⟨g, cap, cur, hv, by omega, r⟩

set_option maxHeartbeats 1000000 in
theorem List_no (bed : Int) (h : knB bed = false) (w : World) : Calls Tryd.prog 24 #[.int .i64 bed] w (RetRowE w.heap.size w [] 1) := by
  have H := Lib.hid h; clear h
  go_enter Tryd.func24, Tryd.ntmps24
  go_wp2_with fail
  (with_reducible refine (known_c bed false H.out _).mono ?_)
  rintro e t1 ⟨rfl, rfl⟩
  go_wp2
  go_ret2
  exact ⟨_, rfl, World.ownsRow_nil _ _ _ _, Below.refl _ _⟩
set_option maxHeartbeats 1000000 in
theorem List_c (bed : Int) (h : knB bed = true) (w : World) (hu : Units w) : Calls Tryd.prog 24 #[.int .i64 bed] w (RetRowE w.heap.size w (kept (fun k => alB bed k && true) 24) 0) := by
  have H := Lib.hid h; clear h
  have K := Lib.hid (list_all bed (fun _ => true) w hu (fun k _ W _ => list1_c k W))
  go_enter Tryd.func24, Tryd.ntmps24
  go_wp2_with fail
  (with_reducible refine (known_c bed true H.out _).mono ?_)
  rintro e t1 ⟨rfl, rfl⟩
  go_wp2_with fail
  (with_reducible refine K.out.mono ?_)
  rintro e t2 ⟨v, rfl, ho, hb⟩
  go_wp2
  go_ret2
  exact ⟨_, rfl, ho, hb⟩

set_option maxHeartbeats 2000000 in
theorem Fits_no (bed x y z p q r : Int) (h : (knB bed && (szB x y z && szB p q r)) = false) (w : World) : Calls Tryd.prog 25 #[.int .i64 bed, vV x y z, vV p q r] w (RetRowE w.heap.size w [] 1) := by
  cases hk : knB bed
  · have H := Lib.hid hk; clear h hk
    go_enter Tryd.func25, Tryd.ntmps25
    go_wp2_with fail
    (with_reducible refine (known_c bed false H.out _).mono ?_)
    rintro e t1 ⟨rfl, rfl⟩
    go_wp2
    go_ret2
    exact ⟨_, rfl, World.ownsRow_nil _ _ _ _, by (repeat' (first | (with_reducible assumption) | (with_reducible exact Below.refl _ _) | (with_reducible refine Below.alloc ?_ ?_ _) | (with_reducible refine Below.drew ?_) | (with_reducible refine Below.setCell ?_ ?_ _) | (with_reducible refine b_step ?_ (by assumption) ?_) | omega | (simp only [World.size_alloc, World.size_setCell, World.size_drew]; omega)))⟩
  · rw [hk, Bool.true_and] at h
    have H := Lib.hid hk; clear hk
    have S := Lib.hid h; clear h
    go_enter Tryd.func25, Tryd.ntmps25
    go_wp2_with fail
    (with_reducible refine (known_c bed true H.out _).mono ?_)
    rintro e t1 ⟨rfl, rfl⟩
    go_wp2_with fail
    (with_reducible refine (sized2_any S.out _ _ (c_at (by simp) rfl) (c_at (by simp) rfl) (c_at (by simp) rfl) (c_at (by simp) rfl) (c_at (by simp) rfl) (c_at (by simp) rfl)).mono ?_)
    rintro e t2 ⟨rfl, y2⟩
    have zy2 := y2.size
    (try simp only [World.size_alloc, World.size_setCell, World.size_drew] at zy2)
    go_wp2
    go_ret2
    exact ⟨_, rfl, World.ownsRow_nil _ _ _ _, by (repeat' (first | (with_reducible assumption) | (with_reducible exact Below.refl _ _) | (with_reducible refine Below.alloc ?_ ?_ _) | (with_reducible refine Below.drew ?_) | (with_reducible refine Below.setCell ?_ ?_ _) | (with_reducible refine b_step ?_ (by assumption) ?_) | omega | (simp only [World.size_alloc, World.size_setCell, World.size_drew]; omega)))⟩

def fitP (bed x y z p q r : Int) (k : Nat) : Bool := alB bed k && decide (ext k 0 x y z = p ∧ ext k 1 x y z = q ∧ ext k 2 x y z = r)
set_option maxHeartbeats 2000000 in
theorem Fits_c (bed x y z p q r : Int) (h : knB bed = true) (h' : (szB x y z && szB p q r) = true) (w : World) (hu : Units w) : Calls Tryd.prog 25 #[.int .i64 bed, vV x y z, vV p q r] w (RetRowE w.heap.size w (kept (fitP bed x y z p q r) 24) 0) := by
  have hs : szB x y z = true := by rw [Bool.and_eq_true] at h'; exact h'.1
  have hs' := szB_t.1 hs
  have H := Lib.hid h; clear h
  have S := Lib.hid h'; clear h'
  have K := Lib.hid (fun (W : World) (hU : Units W) (c0 : W.cell? ⟨w.heap.size, 0, none⟩ = some (.int .i64 x)) (c1 : W.cell? ⟨w.heap.size, 1, none⟩ = some (.int .i64 y)) (c2 : W.cell? ⟨w.heap.size, 2, none⟩ = some (.int .i64 z)) (d0 : W.cell? ⟨w.heap.size + 1, 0, none⟩ = some (.int .i64 p)) (d1 : W.cell? ⟨w.heap.size + 1, 1, none⟩ = some (.int .i64 q)) (d2 : W.cell? ⟨w.heap.size + 1, 2, none⟩ = some (.int .i64 r)) =>
    list_fits bed (fun k => decide (ext k 0 x y z = p ∧ ext k 1 x y z = q ∧ ext k 2 x y z = r)) w.heap.size (w.heap.size + 1) W hU (fun k hk W' hW => fits1_c k hk w.heap.size (w.heap.size + 1) x y z p q r (by omega) (by omega) (by omega) W' (cell_later hW c0) (cell_later hW c1) (cell_later hW c2) (cell_later hW d0) (cell_later hW d1) (cell_later hW d2)))
  have HU := Lib.hid hu
  clear hs hs' hu
  go_enter Tryd.func25, Tryd.ntmps25
  go_wp2_with fail
  (with_reducible refine (known_c bed true H.out _).mono ?_)
  rintro e t1 ⟨rfl, rfl⟩
  go_wp2_with fail
  (with_reducible refine (sized2_any S.out _ _ (c_at (by simp) rfl) (c_at (by simp) rfl) (c_at (by simp) rfl) (c_at (by simp) rfl) (c_at (by simp) rfl) (c_at (by simp) rfl)).mono ?_)
  rintro e t2 ⟨rfl, y2⟩
  have zy2 := y2.size
  (try simp only [World.size_alloc, World.size_setCell, World.size_drew] at zy2)
  have bt : Below w.heap.size w t2 := by (repeat' (first | (with_reducible assumption) | (with_reducible exact Below.refl _ _) | (with_reducible refine Below.alloc ?_ ?_ _) | (with_reducible refine Below.drew ?_) | (with_reducible refine Below.setCell ?_ ?_ _) | (with_reducible refine b_step ?_ (by assumption) ?_) | omega | (simp only [World.size_alloc, World.size_setCell, World.size_drew]; omega)))
  have c0 : t2.cell? ⟨w.heap.size, 0, none⟩ = some (.int .i64 x) := cell_later y2 (by (simp (disch := first | omega | (simp only [World.size_alloc, World.size_setCell, World.size_drew]; done) | (simp only [World.size_alloc, World.size_setCell, World.size_drew]; omega)) only [*, r_set_same, r_set_off, r_set_blk, r_set_f, r_alloc_at, r_alloc_past, r_falloc_at, r_falloc_past, World.cell?_drew, World.frozen?_drew, Option.map_some, List.getElem?_toArray, List.getElem?_cons_zero, List.getElem?_cons_succ]; done))
  have c1 : t2.cell? ⟨w.heap.size, 1, none⟩ = some (.int .i64 y) := cell_later y2 (by (simp (disch := first | omega | (simp only [World.size_alloc, World.size_setCell, World.size_drew]; done) | (simp only [World.size_alloc, World.size_setCell, World.size_drew]; omega)) only [*, r_set_same, r_set_off, r_set_blk, r_set_f, r_alloc_at, r_alloc_past, r_falloc_at, r_falloc_past, World.cell?_drew, World.frozen?_drew, Option.map_some, List.getElem?_toArray, List.getElem?_cons_zero, List.getElem?_cons_succ]; done))
  have c2 : t2.cell? ⟨w.heap.size, 2, none⟩ = some (.int .i64 z) := cell_later y2 (by (simp (disch := first | omega | (simp only [World.size_alloc, World.size_setCell, World.size_drew]; done) | (simp only [World.size_alloc, World.size_setCell, World.size_drew]; omega)) only [*, r_set_same, r_set_off, r_set_blk, r_set_f, r_alloc_at, r_alloc_past, r_falloc_at, r_falloc_past, World.cell?_drew, World.frozen?_drew, Option.map_some, List.getElem?_toArray, List.getElem?_cons_zero, List.getElem?_cons_succ]; done))
  have d0 : t2.cell? ⟨w.heap.size + 1, 0, none⟩ = some (.int .i64 p) := cell_later y2 (by (simp (disch := first | omega | (simp only [World.size_alloc, World.size_setCell, World.size_drew]; done) | (simp only [World.size_alloc, World.size_setCell, World.size_drew]; omega)) only [*, r_set_same, r_set_off, r_set_blk, r_set_f, r_alloc_at, r_alloc_past, r_falloc_at, r_falloc_past, World.cell?_drew, World.frozen?_drew, Option.map_some, List.getElem?_toArray, List.getElem?_cons_zero, List.getElem?_cons_succ]; done))
  have d1 : t2.cell? ⟨w.heap.size + 1, 1, none⟩ = some (.int .i64 q) := cell_later y2 (by (simp (disch := first | omega | (simp only [World.size_alloc, World.size_setCell, World.size_drew]; done) | (simp only [World.size_alloc, World.size_setCell, World.size_drew]; omega)) only [*, r_set_same, r_set_off, r_set_blk, r_set_f, r_alloc_at, r_alloc_past, r_falloc_at, r_falloc_past, World.cell?_drew, World.frozen?_drew, Option.map_some, List.getElem?_toArray, List.getElem?_cons_zero, List.getElem?_cons_succ]; done))
  have d2 : t2.cell? ⟨w.heap.size + 1, 2, none⟩ = some (.int .i64 r) := cell_later y2 (by (simp (disch := first | omega | (simp only [World.size_alloc, World.size_setCell, World.size_drew]; done) | (simp only [World.size_alloc, World.size_setCell, World.size_drew]; omega)) only [*, r_set_same, r_set_off, r_set_blk, r_set_f, r_alloc_at, r_alloc_past, r_falloc_at, r_falloc_past, World.cell?_drew, World.frozen?_drew, Option.map_some, List.getElem?_toArray, List.getElem?_cons_zero, List.getElem?_cons_succ]; done))
  go_wp2_with fail
  (with_reducible refine (K.out _ (HU.out.later bt) c0 c1 c2 d0 d1 d2).mono ?_)
  rintro e t3 ⟨v, rfl, ho, hb⟩
  go_wp2
  go_ret2
  exact ⟨_, rfl, own_mono ho (by omega), b_step bt hb (by omega)⟩
end Go.Proofs.YtibncdefhphggaaDoor
