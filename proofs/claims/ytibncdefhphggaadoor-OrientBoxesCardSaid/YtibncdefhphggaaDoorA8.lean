/- The contracts of find, compose and invert. -/
import Derived.Test.YtibncdefhphggaaDoorA2
import Derived.Test.YtibncdefhphggaaDoorE
namespace Go.Proofs.YtibncdefhphggaaDoor
open Go.RowKit
set_option linter.unusedSimpArgs false
set_option linter.unusedVariables false
attribute [local go_sem ↓] Go.wp_at_zero Go.wp_at_succ

set_option maxHeartbeats 2000000 in
theorem comp1_aux (a b : Nat) (ba bb : Nat) (x y z m0 m1 m2 n0 n1 n2 : Int) (w : World) (ha : w.cell? ⟨ba, 0, none⟩ = some (.int .i64 a)) (hb : w.cell? ⟨bb, 0, none⟩ = some (.int .i64 b))
    (H1 : ∀ w, Calls Tryd.prog 62 #[.int .i64 b, vV x y z] w fun e w' => e = .returned (vV m0 m1 m2) ∧ Below w.heap.size w w')
    (H2 : ∀ w, Calls Tryd.prog 62 #[.int .i64 a, vV m0 m1 m2] w fun e w' => e = .returned (vV n0 n1 n2) ∧ Below w.heap.size w w') :
    Calls Tryd.prog 68 #[vV x y z, .pointer (some ⟨ba, 0, none⟩), .pointer (some ⟨bb, 0, none⟩)] w fun e w' => e = .returned (vV n0 n1 n2) ∧ Below w.heap.size w w' := by
  have K1 := Lib.hid H1; clear H1
  have K2 := Lib.hid H2; clear H2
  have lta := World.block_lt_of_cell? _ _ ha
  have ltb := World.block_lt_of_cell? _ _ hb
  dsimp only at lta ltb
  go_enter Tryd.func68, Tryd.ntmps68
  go_wp2
  obtain ⟨W, hW⟩ : ∃ W, W = (w.alloc (.cells #[.int .i64 x, .int .i64 y, .int .i64 z] 23)).alloc (.cells #[.int .i64 0, .int .i64 0, .int .i64 0] 23) := ⟨_, rfl⟩
  rw [← hW]
  have c0 : W.cell? ⟨w.heap.size, 0, none⟩ = some (.int .i64 x) := by subst hW; exact c_alloc (c_at rfl rfl)
  have c1 : W.cell? ⟨w.heap.size, 1, none⟩ = some (.int .i64 y) := by subst hW; exact c_alloc (c_at rfl rfl)
  have c2 : W.cell? ⟨w.heap.size, 2, none⟩ = some (.int .i64 z) := by subst hW; exact c_alloc (c_at rfl rfl)
  have ca0 : W.cell? ⟨ba, 0, none⟩ = some (.int .i64 a) := by subst hW; exact c_alloc (c_alloc ha)
  have cb0 : W.cell? ⟨bb, 0, none⟩ = some (.int .i64 b) := by subst hW; exact c_alloc (c_alloc hb)
  have d0 : W.cell? ⟨w.heap.size + 1, 0, none⟩ = some (.int .i64 0) := by subst hW; exact c_at (by simp) rfl
  have d1 : W.cell? ⟨w.heap.size + 1, 1, none⟩ = some (.int .i64 0) := by subst hW; exact c_at (by simp) rfl
  have d2 : W.cell? ⟨w.heap.size + 1, 2, none⟩ = some (.int .i64 0) := by subst hW; exact c_at (by simp) rfl
  have f0 : W.frozen? ⟨w.heap.size + 1, 0, none⟩ = false := by subst hW; exact f_at (by simp)
  have f1 : W.frozen? ⟨w.heap.size + 1, 1, none⟩ = false := by subst hW; exact f_at (by simp)
  have f2 : W.frozen? ⟨w.heap.size + 1, 2, none⟩ = false := by subst hW; exact f_at (by simp)
  have zW : w.heap.size + 1 < W.heap.size := by subst hW; simp
  have bW : Below w.heap.size w W := by subst hW; go_grown
  clear hW ha hb
  have mkS : ∀ w', Sm [ba, bb, w.heap.size] W w' → (Sm [ba, bb, w.heap.size] W w' ∧ w'.cell? ⟨ba, 0, none⟩ = some (.int .i64 a) ∧ w'.cell? ⟨bb, 0, none⟩ = some (.int .i64 b) ∧ w'.cell? ⟨w.heap.size, 0, none⟩ = some (.int .i64 x) ∧ w'.cell? ⟨w.heap.size, 1, none⟩ = some (.int .i64 y) ∧ w'.cell? ⟨w.heap.size, 2, none⟩ = some (.int .i64 z)) := fun w' h => ⟨h, h.cell (by simp) (by assumption), h.cell (by simp) (by assumption), h.cell (by simp) (by assumption), h.cell (by simp) (by assumption), h.cell (by simp) (by assumption)⟩
  have rfS : Sm [ba, bb, w.heap.size] W W := Sm.refl (by simp; try omega)
  go_region_held3 (fun w' => Sm [ba, bb, w.heap.size] W w' ∧ w'.cell? ⟨ba, 0, none⟩ = some (.int .i64 a) ∧ w'.cell? ⟨bb, 0, none⟩ = some (.int .i64 b) ∧ w'.cell? ⟨w.heap.size, 0, none⟩ = some (.int .i64 x) ∧ w'.cell? ⟨w.heap.size, 1, none⟩ = some (.int .i64 y) ∧ w'.cell? ⟨w.heap.size, 2, none⟩ = some (.int .i64 z)) ((refine mkS _ ?_; repeat' (first | (with_reducible exact rfS.drew) | (with_reducible exact rfS) | (with_reducible refine Sm.alloc ?_ _) | (with_reducible refine Sm.drew ?_) | (with_reducible refine Sm.below ?_ (by assumption)) | (with_reducible refine Sm.far ?_ _ _ (by simp; try omega)))))
    (first | (go_at_call 62; (with_reducible refine (K1.out _).mono ?_); rintro e t1 ⟨rfl, y1⟩; obtain ⟨hc1, hf1⟩ := bcell y1; have zy1 := y1.size; (try simp only [World.size_alloc, World.size_setCell, World.size_drew, Nat.add_one_le_iff] at zy1); (try have zz1 := Nat.lt_of_succ_lt zy1); (try have zzz1 := Nat.lt_of_succ_lt zz1)) | (go_at_call 62; (with_reducible refine (K2.out _).mono ?_); rintro e t2 ⟨rfl, y2⟩; obtain ⟨hc2, hf2⟩ := bcell y2; have zy2 := y2.size; (try simp only [World.size_alloc, World.size_setCell, World.size_drew, Nat.add_one_le_iff] at zy2); (try have zz2 := Nat.lt_of_succ_lt zy2); (try have zzz2 := Nat.lt_of_succ_lt zz2); (try have zy1t2 := Nat.lt_of_lt_of_le zy1 y2.size); (try simp only [World.size_alloc, World.size_setCell, World.size_drew] at zy1t2); (try have zz1t2 := Nat.lt_of_lt_of_le zz1 y2.size); (try simp only [World.size_alloc, World.size_setCell, World.size_drew] at zz1t2); (try have zzz1t2 := Nat.lt_of_lt_of_le zzz1 y2.size); (try simp only [World.size_alloc, World.size_setCell, World.size_drew] at zzz1t2); have g0 : t2.cell? ⟨w.heap.size + 1, 0, none⟩ = some (.int .i64 0) := cell_later y2 (cell_later y1 (c_drew d0)); have g1 : t2.cell? ⟨w.heap.size + 1, 1, none⟩ = some (.int .i64 0) := cell_later y2 (cell_later y1 (c_drew d1)); have g2 : t2.cell? ⟨w.heap.size + 1, 2, none⟩ = some (.int .i64 0) := cell_later y2 (cell_later y1 (c_drew d2)); have gf0 : t2.frozen? ⟨w.heap.size + 1, 0, none⟩ = false := f_later y2 (by simp; omega) (f_later y1 (by simp; omega) (f_drew f0)); have gf1 : t2.frozen? ⟨w.heap.size + 1, 1, none⟩ = false := f_later y2 (by simp; omega) (f_later y1 (by simp; omega) (f_drew f1)); have gf2 : t2.frozen? ⟨w.heap.size + 1, 2, none⟩ = false := f_later y2 (by simp; omega) (f_later y1 (by simp; omega) (f_drew f2))))
  all_goals
    go_wp2
    have q0 : (((t2.setCell ⟨w.heap.size + 1, 0, none⟩ (.int .i64 n0)).setCell ⟨w.heap.size + 1, 1, none⟩ (.int .i64 n1)).setCell ⟨w.heap.size + 1, 2, none⟩ (.int .i64 n2)).cell? ⟨w.heap.size + 1, 0, none⟩ = some (.int .i64 n0) := by (simp (disch := first | omega | (simp only [World.size_alloc, World.size_setCell, World.size_drew]; done) | (simp only [World.size_alloc, World.size_setCell, World.size_drew]; omega)) only [*, r_set_same, r_set_off, r_set_blk, r_set_f, r_alloc_at, r_alloc_past, r_falloc_at, r_falloc_past, World.cell?_drew, World.frozen?_drew, Option.map_some, List.getElem?_toArray, List.getElem?_cons_zero, List.getElem?_cons_succ]; done)
    have q1 : (((t2.setCell ⟨w.heap.size + 1, 0, none⟩ (.int .i64 n0)).setCell ⟨w.heap.size + 1, 1, none⟩ (.int .i64 n1)).setCell ⟨w.heap.size + 1, 2, none⟩ (.int .i64 n2)).cell? ⟨w.heap.size + 1, 1, none⟩ = some (.int .i64 n1) := by (simp (disch := first | omega | (simp only [World.size_alloc, World.size_setCell, World.size_drew]; done) | (simp only [World.size_alloc, World.size_setCell, World.size_drew]; omega)) only [*, r_set_same, r_set_off, r_set_blk, r_set_f, r_alloc_at, r_alloc_past, r_falloc_at, r_falloc_past, World.cell?_drew, World.frozen?_drew, Option.map_some, List.getElem?_toArray, List.getElem?_cons_zero, List.getElem?_cons_succ]; done)
    have q2 : (((t2.setCell ⟨w.heap.size + 1, 0, none⟩ (.int .i64 n0)).setCell ⟨w.heap.size + 1, 1, none⟩ (.int .i64 n1)).setCell ⟨w.heap.size + 1, 2, none⟩ (.int .i64 n2)).cell? ⟨w.heap.size + 1, 2, none⟩ = some (.int .i64 n2) := by (simp (disch := first | omega | (simp only [World.size_alloc, World.size_setCell, World.size_drew]; done) | (simp only [World.size_alloc, World.size_setCell, World.size_drew]; omega)) only [*, r_set_same, r_set_off, r_set_blk, r_set_f, r_alloc_at, r_alloc_past, r_falloc_at, r_falloc_past, World.cell?_drew, World.frozen?_drew, Option.map_some, List.getElem?_toArray, List.getElem?_cons_zero, List.getElem?_cons_succ]; done)
    refine bodyPost_ret (v := vV n0 n1 n2) (by simp [results, Tryd.results68, go_sem, q0, q1, q2]) rfl ⟨rfl, ?_⟩
    (repeat' (first | (with_reducible assumption) | (with_reducible exact Below.refl _ _) | (with_reducible refine Below.alloc ?_ ?_ _) | (with_reducible refine Below.drew ?_) | (with_reducible refine Below.setCell ?_ ?_ _) | (with_reducible refine b_step ?_ (by assumption) ?_) | omega | (simp only [World.size_alloc, World.size_setCell, World.size_drew]; omega)))

theorem comp1_c (a b : Nat) (h : a < 24) (h' : b < 24) (ba bb : Nat) (x y z : Int) (h0 : -1000000 ≤ x ∧ x ≤ 1000000) (h1 : -1000000 ≤ y ∧ y ≤ 1000000) (h2 : -1000000 ≤ z ∧ z ≤ 1000000) (w : World) (ha : w.cell? ⟨ba, 0, none⟩ = some (.int .i64 a)) (hb : w.cell? ⟨bb, 0, none⟩ = some (.int .i64 b)) :
    Calls Tryd.prog 68 #[vV x y z, .pointer (some ⟨ba, 0, none⟩), .pointer (some ⟨bb, 0, none⟩)] w fun e w' => e = .returned (vV (ap a 0 (ap b 0 x y z) (ap b 1 x y z) (ap b 2 x y z)) (ap a 1 (ap b 0 x y z) (ap b 1 x y z) (ap b 2 x y z)) (ap a 2 (ap b 0 x y z) (ap b 1 x y z) (ap b 2 x y z))) ∧ Below w.heap.size w w' := by
  have p0 := ap_bd (i := 0) h' (by decide) h0 h1 h2
  have p1 := ap_bd (i := 1) h' (by decide) h0 h1 h2
  have p2 := ap_bd (i := 2) h' (by decide) h0 h1 h2
  exact comp1_aux a b ba bb x y z _ _ _ _ _ _ w ha hb (fun w => apply_c b h' x y z (by omega) (by omega) (by omega) w) (fun w => apply_c a h _ _ _ (by omega) (by omega) (by omega) w)

theorem ret_int (a b : Int) (h : a = b) : Ending.returned (.int .i64 a) = .returned (.int .i64 b) := by rw [h]

/-- The first turn that maps (1, 2, 3) to a point, from k on; -1 if there is none. -/
def fndFrom (a b c : Int) : Nat → Nat → Int
  | 0, _ => -1
  | d + 1, k => if ap k 0 1 2 3 = a ∧ ap k 1 1 2 3 = b ∧ ap k 2 1 2 3 = c then k else fndFrom a b c d (k + 1)
def fnd (a b c : Int) : Int := fndFrom a b c 24 0
/-- The turn that does b, and then a. -/
def cmpT (a b : Nat) : Int := fnd (ap a 0 (ap b 0 1 2 3) (ap b 1 1 2 3) (ap b 2 1 2 3)) (ap a 1 (ap b 0 1 2 3) (ap b 1 1 2 3) (ap b 2 1 2 3)) (ap a 2 (ap b 0 1 2 3) (ap b 1 1 2 3) (ap b 2 1 2 3))

set_option maxHeartbeats 2000000 in
theorem find_c (ba bb : Nat) (a b c : Int) (w : World) (H : ∀ W, Below w.heap.size w W → Calls Tryd.prog 68 #[vV 1 2 3, .pointer (some ⟨ba, 0, none⟩), .pointer (some ⟨bb, 0, none⟩)] W fun e w' => e = .returned (vV a b c) ∧ Below W.heap.size W w') :
    Calls Tryd.prog 67 #[.func (.func 68) #[] #[.pointer (some ⟨ba, 0, none⟩), .pointer (some ⟨bb, 0, none⟩)]] w fun e w' => e = .returned (.int .i64 (fnd a b c)) ∧ Below w.heap.size w w' := by
  have K := Lib.hid H; clear H
  go_enter Tryd.func67, Tryd.ntmps67
  go_wp2_with (go_at_call 68; (with_reducible refine (K.out _ (by go_grown)).mono ?_); rintro e t1 ⟨rfl, y1⟩)
  have c0 : t1.cell? ⟨w.heap.size, 0, none⟩ = some (.int .i64 1) := cell_later y1 (c_at rfl rfl)
  have c1 : t1.cell? ⟨w.heap.size, 1, none⟩ = some (.int .i64 2) := cell_later y1 (c_at rfl rfl)
  have c2 : t1.cell? ⟨w.heap.size, 2, none⟩ = some (.int .i64 3) := cell_later y1 (c_at rfl rfl)
  have z1 : w.heap.size < t1.heap.size := by have := y1.size; simp at this; omega
  have b1 : Below w.heap.size w t1 := b_step (by go_grown) y1 (by simp)
  go_wp2
  go_loopw [10] (fun k wr => ∃ n : Nat, n ≤ 24 ∧ k = .int .i64 n ∧ fnd a b c = fndFrom a b c (24 - n) n ∧ Below w.heap.size w wr ∧ t1.heap.size < wr.heap.size ∧ wr.cell? ⟨w.heap.size, 0, none⟩ = some (.int .i64 1) ∧ wr.cell? ⟨w.heap.size, 1, none⟩ = some (.int .i64 2) ∧ wr.cell? ⟨w.heap.size, 2, none⟩ = some (.int .i64 3) ∧ wr.cell? ⟨t1.heap.size, 0, none⟩ = some (.int .i64 a) ∧ wr.cell? ⟨t1.heap.size, 1, none⟩ = some (.int .i64 b) ∧ wr.cell? ⟨t1.heap.size, 2, none⟩ = some (.int .i64 c)) (fun k _ => (24 - intOf k).toNat)
  case atStart =>
    refine ⟨0, by omega, rfl, rfl, ?_⟩
    (repeat' apply And.intro) <;> first | omega | (simp; done) | (simp (disch := first | omega | (simp only [World.size_alloc, World.size_setCell, World.size_drew]; done) | (simp only [World.size_alloc, World.size_setCell, World.size_drew]; omega)) only [*, r_set_same, r_set_off, r_set_blk, r_set_f, r_alloc_at, r_alloc_past, r_falloc_at, r_falloc_past, World.cell?_drew, World.frozen?_drew, Option.map_some, List.getElem?_toArray, List.getElem?_cons_zero, List.getElem?_cons_succ]; done) | (repeat' (first | (with_reducible assumption) | (with_reducible exact Below.refl _ _) | (with_reducible refine Below.alloc ?_ ?_ _) | (with_reducible refine Below.drew ?_) | (with_reducible refine Below.setCell ?_ ?_ _) | (with_reducible refine b_step ?_ (by assumption) ?_) | omega | (simp only [World.size_alloc, World.size_setCell, World.size_drew]; omega)))
  case round =>
    obtain ⟨n, hn, rfl, hf, bw, zw, c0', c1', c2', d0, d1, d2⟩ := hrel
    by_cases hlt : n < 24
    · have A := Lib.hid (fun w => apply_c n hlt 1 2 3 (by decide) (by decide) (by decide) w)
      by_cases hq : ap n 0 1 2 3 = a ∧ ap n 1 1 2 3 = b ∧ ap n 2 1 2 3 = c
      · have he : ∀ w, (binOp .eql 23 (vV (ap n 0 1 2 3) (ap n 1 1 2 3) (ap n 2 1 2 3)) (vV a b c)).run Tryd.prog w = .ok (.bool true) w := fun w => by rw [eql_V, decide_eq_true hq]
        have HF : fnd a b c = n := by rw [hf, show 24 - n = (23 - n) + 1 from by omega, fndFrom, if_pos hq]
        have HH := Lib.hid HF
        clear hq hf HF
        go_wp2_with fail
        have mkS : ∀ w', Sm [w.heap.size, t1.heap.size] wr w' → (Sm [w.heap.size, t1.heap.size] wr w' ∧ w'.cell? ⟨w.heap.size, 0, none⟩ = some (.int .i64 1) ∧ w'.cell? ⟨w.heap.size, 1, none⟩ = some (.int .i64 2) ∧ w'.cell? ⟨w.heap.size, 2, none⟩ = some (.int .i64 3) ∧ w'.cell? ⟨t1.heap.size, 0, none⟩ = some (.int .i64 a) ∧ w'.cell? ⟨t1.heap.size, 1, none⟩ = some (.int .i64 b) ∧ w'.cell? ⟨t1.heap.size, 2, none⟩ = some (.int .i64 c)) := fun w' h => ⟨h, h.cell (by simp) (by assumption), h.cell (by simp) (by assumption), h.cell (by simp) (by assumption), h.cell (by simp) (by assumption), h.cell (by simp) (by assumption), h.cell (by simp) (by assumption)⟩
        have rfS : Sm [w.heap.size, t1.heap.size] wr wr := Sm.refl (by simp; try omega)
        go_region_held3 (fun w' => Sm [w.heap.size, t1.heap.size] wr w' ∧ w'.cell? ⟨w.heap.size, 0, none⟩ = some (.int .i64 1) ∧ w'.cell? ⟨w.heap.size, 1, none⟩ = some (.int .i64 2) ∧ w'.cell? ⟨w.heap.size, 2, none⟩ = some (.int .i64 3) ∧ w'.cell? ⟨t1.heap.size, 0, none⟩ = some (.int .i64 a) ∧ w'.cell? ⟨t1.heap.size, 1, none⟩ = some (.int .i64 b) ∧ w'.cell? ⟨t1.heap.size, 2, none⟩ = some (.int .i64 c)) ((refine mkS _ ?_; repeat' (first | (with_reducible exact rfS.drew) | (with_reducible exact rfS) | (with_reducible refine Sm.alloc ?_ _) | (with_reducible refine Sm.drew ?_) | (with_reducible refine Sm.below ?_ (by assumption)) | (with_reducible refine Sm.far ?_ _ _ (by simp; try omega)))))
          (first | (go_at_call 62; (with_reducible refine (A.out _).mono ?_); rintro e t2 ⟨rfl, y2⟩))
        go_wp2
        go_ret
        exact ⟨ret_int _ _ HH.out.symm, by (repeat' (first | (with_reducible assumption) | (with_reducible exact Below.refl _ _) | (with_reducible refine Below.alloc ?_ ?_ _) | (with_reducible refine Below.drew ?_) | (with_reducible refine Below.setCell ?_ ?_ _) | (with_reducible refine b_step ?_ (by assumption) ?_) | omega | (simp only [World.size_alloc, World.size_setCell, World.size_drew]; omega)))⟩
      · have he : ∀ w, (binOp .eql 23 (vV (ap n 0 1 2 3) (ap n 1 1 2 3) (ap n 2 1 2 3)) (vV a b c)).run Tryd.prog w = .ok (.bool false) w := fun w => by rw [eql_V, decide_eq_false hq]
        have HF : fnd a b c = fndFrom a b c (24 - (n + 1)) (n + 1) := by rw [hf, show 24 - n = (24 - (n + 1)) + 1 from by omega, fndFrom, if_neg hq]
        have HH := Lib.hid HF
        clear hq hf HF
        go_wp2_with fail
        have mkS : ∀ w', Sm [w.heap.size, t1.heap.size] wr w' → (Sm [w.heap.size, t1.heap.size] wr w' ∧ w'.cell? ⟨w.heap.size, 0, none⟩ = some (.int .i64 1) ∧ w'.cell? ⟨w.heap.size, 1, none⟩ = some (.int .i64 2) ∧ w'.cell? ⟨w.heap.size, 2, none⟩ = some (.int .i64 3) ∧ w'.cell? ⟨t1.heap.size, 0, none⟩ = some (.int .i64 a) ∧ w'.cell? ⟨t1.heap.size, 1, none⟩ = some (.int .i64 b) ∧ w'.cell? ⟨t1.heap.size, 2, none⟩ = some (.int .i64 c)) := fun w' h => ⟨h, h.cell (by simp) (by assumption), h.cell (by simp) (by assumption), h.cell (by simp) (by assumption), h.cell (by simp) (by assumption), h.cell (by simp) (by assumption), h.cell (by simp) (by assumption)⟩
        have rfS : Sm [w.heap.size, t1.heap.size] wr wr := Sm.refl (by simp; try omega)
        go_region_held3 (fun w' => Sm [w.heap.size, t1.heap.size] wr w' ∧ w'.cell? ⟨w.heap.size, 0, none⟩ = some (.int .i64 1) ∧ w'.cell? ⟨w.heap.size, 1, none⟩ = some (.int .i64 2) ∧ w'.cell? ⟨w.heap.size, 2, none⟩ = some (.int .i64 3) ∧ w'.cell? ⟨t1.heap.size, 0, none⟩ = some (.int .i64 a) ∧ w'.cell? ⟨t1.heap.size, 1, none⟩ = some (.int .i64 b) ∧ w'.cell? ⟨t1.heap.size, 2, none⟩ = some (.int .i64 c)) ((refine mkS _ ?_; repeat' (first | (with_reducible exact rfS.drew) | (with_reducible exact rfS) | (with_reducible refine Sm.alloc ?_ _) | (with_reducible refine Sm.drew ?_) | (with_reducible refine Sm.below ?_ (by assumption)) | (with_reducible refine Sm.far ?_ _ _ (by simp; try omega)))))
          (first | (go_at_call 62; (with_reducible refine (A.out _).mono ?_); rintro e t2 ⟨rfl, y2⟩))
        go_wp2
        go_roundw
        case rel =>
          refine ⟨n + 1, by omega, by go_num, HH.out, ?_⟩
          have zt := y2.size
          simp only [World.size_drew] at zt
          (repeat' apply And.intro) <;> first | omega | exact cell_later y2 (c_drew (by assumption)) | (repeat' (first | (with_reducible assumption) | (with_reducible exact Below.refl _ _) | (with_reducible refine Below.alloc ?_ ?_ _) | (with_reducible refine Below.drew ?_) | (with_reducible refine Below.setCell ?_ ?_ _) | (with_reducible refine b_step ?_ (by assumption) ?_) | omega | (simp only [World.size_alloc, World.size_setCell, World.size_drew]; omega)))
        case measure => simp [intOf]; omega
    · have HF : fnd a b c = -1 := by rw [hf, show 24 - n = 0 from by omega, fndFrom]
      have HH := Lib.hid HF
      clear hf HF
      go_wp2
      go_ret
      exact ⟨ret_int _ _ HH.out.symm, bw⟩

set_option maxHeartbeats 2000000 in
/-- compose returns the turn that does b, and then a. -/
theorem compose_c (a b : Nat) (h : a < 24) (h' : b < 24) (w : World) :
    Calls Tryd.prog 60 #[.int .i64 a, .int .i64 b] w fun e w' => e = .returned (.int .i64 (cmpT a b)) ∧ Below w.heap.size w w' := by
  have C := Lib.hid (fun W h1 h2 => comp1_c a b h h' w.heap.size (w.heap.size + 1) 1 2 3 (by decide) (by decide) (by decide) W h1 h2)
  go_enter Tryd.func60, Tryd.ntmps60
  go_wp2_with (go_at_call 67; (with_reducible refine (find_c w.heap.size (w.heap.size + 1) _ _ _ _ (fun W hW => C.out W (cell_later hW (c_alloc (c_at rfl rfl))) (cell_later hW (c_at (by simp) rfl)))).mono ?_); rintro e t1 ⟨rfl, y1⟩)
  go_ret
  exact ⟨rfl, by (repeat' (first | (with_reducible assumption) | (with_reducible exact Below.refl _ _) | (with_reducible refine Below.alloc ?_ ?_ _) | (with_reducible refine Below.drew ?_) | (with_reducible refine Below.setCell ?_ ?_ _) | (with_reducible refine b_step ?_ (by assumption) ?_) | omega | (simp only [World.size_alloc, World.size_setCell, World.size_drew]; omega)))⟩

/-- The first turn k such that k behind n is turn 0, from k on; -1 if there is none. -/
def invFrom (n : Nat) : Nat → Nat → Int
  | 0, _ => -1
  | d + 1, k => if cmpT k n = 0 then k else invFrom n d (k + 1)
def invT (n : Nat) : Int := invFrom n 24 0

set_option maxHeartbeats 2000000 in
/-- invert returns the inverse turn. -/
theorem invert_c (n : Nat) (h : n < 24) (w : World) :
    Calls Tryd.prog 61 #[.int .i64 n] w fun e w' => e = .returned (.int .i64 (invT n)) ∧ Below w.heap.size w w' := by
  go_enter Tryd.func61, Tryd.ntmps61
  go_wp2_with fail
  go_loopw [4] (fun k wr => ∃ m : Nat, m ≤ 24 ∧ k = .int .i64 m ∧ invT n = invFrom n (24 - m) m ∧ Below w.heap.size w wr) (fun k _ => (24 - intOf k).toNat)
  case atStart => exact ⟨0, by omega, rfl, rfl, Below.refl _ _⟩
  case round =>
    obtain ⟨m, hm, rfl, hf, bw⟩ := hrel
    have zw := bw.size
    by_cases hlt : m < 24
    · have A := Lib.hid (fun w => compose_c m n hlt h w)
      by_cases hq : cmpT m n = 0
      · have he : (cmpT m n == 0) = true := by rw [hq]; rfl
        have HF : invT n = m := by rw [hf, show 24 - m = (23 - m) + 1 from by omega, invFrom, if_pos hq]
        have HH := Lib.hid HF
        clear hq hf HF
        go_wp2_with (go_at_call 60; (with_reducible refine (A.out _).mono ?_); rintro e t2 ⟨rfl, y2⟩)
        go_ret
        exact ⟨ret_int _ _ HH.out.symm, by (repeat' (first | (with_reducible assumption) | (with_reducible exact Below.refl _ _) | (with_reducible refine Below.alloc ?_ ?_ _) | (with_reducible refine Below.drew ?_) | (with_reducible refine Below.setCell ?_ ?_ _) | (with_reducible refine b_step ?_ (by assumption) ?_) | omega | (simp only [World.size_alloc, World.size_setCell, World.size_drew]; omega)))⟩
      · have he : (cmpT m n == 0) = false := by simpa using hq
        have HF : invT n = invFrom n (24 - (m + 1)) (m + 1) := by rw [hf, show 24 - m = (24 - (m + 1)) + 1 from by omega, invFrom, if_neg hq]
        have HH := Lib.hid HF
        clear hq hf HF
        go_wp2_with (go_at_call 60; (with_reducible refine (A.out _).mono ?_); rintro e t2 ⟨rfl, y2⟩)
        go_roundw
        case rel => exact ⟨m + 1, by omega, by go_num, HH.out, by (repeat' (first | (with_reducible assumption) | (with_reducible exact Below.refl _ _) | (with_reducible refine Below.alloc ?_ ?_ _) | (with_reducible refine Below.drew ?_) | (with_reducible refine Below.setCell ?_ ?_ _) | (with_reducible refine b_step ?_ (by assumption) ?_) | omega | (simp only [World.size_alloc, World.size_setCell, World.size_drew]; omega)))⟩
        case measure => simp [intOf]; omega
    · have HF : invT n = -1 := by rw [hf, show 24 - m = 0 from by omega, invFrom]
      have HH := Lib.hid HF
      clear hf HF
      go_wp2
      go_ret
      exact ⟨ret_int _ _ HH.out.symm, bw⟩
end Go.Proofs.YtibncdefhphggaaDoor
