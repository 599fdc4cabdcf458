/- The contract of direction. -/
import Derived.Test.YtibncdefhphggaaDoorA8
import Derived.Test.YtibncdefhphggaaDoorA3
namespace Go.Proofs.YtibncdefhphggaaDoor
open Go.RowKit
set_option linter.unusedSimpArgs false
set_option linter.unusedVariables false
attribute [local go_sem ↓] Go.wp_at_zero Go.wp_at_succ

def unitsL : List Int := [1, 0, 0, -1, 0, 0, 0, 1, 0, 0, -1, 0, 0, 0, 1, 0, 0, -1]
/-- Coordinate i of the unit vector k. -/
def uT (k i : Nat) : Int := unitsL.getD (3 * k + i) 0
/-- The package variable units. -/
def Units (w : World) : Prop := ∀ i, i < 18 → w.cell? ⟨0, i, none⟩ = some (.int .i64 (unitsL.getD i 0))
theorem Units.later {w w' : World} (h : Units w) (hb : Below w.heap.size w w') : Units w' := fun i hi => cell_later hb (h i hi)
theorem Units.drew {w : World} (h : Units w) : Units w.drew := h
theorem Units.alloc {w : World} (h : Units w) (o : Obj) : Units (w.alloc o) := fun i hi => c_alloc (h i hi)
theorem Units.pos {w : World} (h : Units w) : 0 < w.heap.size := World.block_lt_of_cell? _ _ (h 0 (by decide))

theorem Units.range {w : World} (h : Units w) : w.rangeAt 0 0 (unitsL.map (Value.int .i64)) := fun j v hv => by
  have hj : j < 18 := by
    have := (List.getElem?_eq_some_iff.1 hv).1
    simpa [unitsL] using this
  rw [Nat.zero_add, h j hj]
  rw [List.getElem?_map] at hv
  rw [List.getD_eq_getElem?_getD]
  cases hq : unitsL[j]? with
  | none => rw [hq] at hv; simp at hv
  | some u => rw [hq] at hv; simpa using hv
theorem size84 : (Tryd.prog.info? 84).map (·.size) = some (unitsL.map (Value.int .i64)).length := by kernel_rfl

abbrev unitsV : Value := .agg (List.map (Value.int .i64) unitsL).toArray
theorem idx6_0 (w : World) : (Instr.index 84 unitsV (.int .i64 0)).run Tryd.prog w = .ok (vV 1 0 0) w := by kernel_rfl
theorem idx6_1 (w : World) : (Instr.index 84 unitsV (.int .i64 1)).run Tryd.prog w = .ok (vV (-1) 0 0) w := by kernel_rfl
theorem idx6_2 (w : World) : (Instr.index 84 unitsV (.int .i64 2)).run Tryd.prog w = .ok (vV 0 1 0) w := by kernel_rfl
theorem idx6_3 (w : World) : (Instr.index 84 unitsV (.int .i64 3)).run Tryd.prog w = .ok (vV 0 (-1) 0) w := by kernel_rfl
theorem idx6_4 (w : World) : (Instr.index 84 unitsV (.int .i64 4)).run Tryd.prog w = .ok (vV 0 0 1) w := by kernel_rfl
theorem idx6_5 (w : World) : (Instr.index 84 unitsV (.int .i64 5)).run Tryd.prog w = .ok (vV 0 0 (-1)) w := by kernel_rfl
theorem index6 (k : Nat) (h : k < 6) (w : World) : (Instr.index 84 unitsV (.int .i64 k)).run Tryd.prog w = .ok (vV (uT k 0) (uT k 1) (uT k 2)) w := by
  have : k = 0 ∨ k = 1 ∨ k = 2 ∨ k = 3 ∨ k = 4 ∨ k = 5 := by omega
  rcases this with rfl | rfl | rfl | rfl | rfl | rfl
  · exact idx6_0 w
  · exact idx6_1 w
  · exact idx6_2 w
  · exact idx6_3 w
  · exact idx6_4 w
  · exact idx6_5 w

/-- The first direction whose unit vector is a given point, from k on; -1 if there is none. -/
def dirFrom (a b c : Int) : Nat → Nat → Int
  | 0, _ => -1
  | d + 1, k => if uT k 0 = a ∧ uT k 1 = b ∧ uT k 2 = c then k else dirFrom a b c d (k + 1)
def dirOf (a b c : Int) : Int := dirFrom a b c 6 0
def dirT (n d : Nat) : Int := dirOf (ap n 0 (uT d 0) (uT d 1) (uT d 2)) (ap n 1 (uT d 0) (uT d 1) (uT d 2)) (ap n 2 (uT d 0) (uT d 1) (uT d 2))

set_option maxHeartbeats 4000000 in
theorem direction_0 (n : Nat) (a b c : Int) (w : World) (hu : Units w) (H : ∀ w, Calls Tryd.prog 62 #[.int .i64 n, vV 1 0 0] w fun e w' => e = .returned (vV a b c) ∧ Below w.heap.size w w') :
    Calls Tryd.prog 59 #[.int .i64 n, .int .i64 0] w fun e w' => e = .returned (.int .i64 (dirOf a b c)) ∧ Below w.heap.size w w' := by
  have K := Lib.hid H; clear H
  have HU := Lib.hid hu
  have g0 : w.cell? ⟨0, 0, none⟩ = some (.int .i64 1) := hu 0 (by decide)
  have g1 : w.cell? ⟨0, 1, none⟩ = some (.int .i64 0) := hu 1 (by decide)
  have g2 : w.cell? ⟨0, 2, none⟩ = some (.int .i64 0) := hu 2 (by decide)
  clear hu
  go_enter Tryd.func59, Tryd.ntmps59
  go_wp2_with (first | (go_at_call 62; (with_reducible refine (K.out _).mono ?_); rintro e t1 ⟨rfl, y1⟩) | (refine wpList_load_mid rfl 84 _ rfl 0 0 rfl (unitsL.map (Value.int .i64)) _ (Units.range ((Units.later HU.out y1).alloc _)) Tryd.underlying84 rfl size84 ?_))
  have z1 : w.heap.size ≤ t1.heap.size := y1.size
  go_loopw [14] (fun k wr => ∃ m : Nat, m ≤ 6 ∧ k = .int .i64 m ∧ dirOf a b c = dirFrom a b c (6 - m) m ∧ Below w.heap.size w wr ∧ t1.heap.size < wr.heap.size ∧ wr.cell? ⟨t1.heap.size, 0, none⟩ = some (.int .i64 a) ∧ wr.cell? ⟨t1.heap.size, 1, none⟩ = some (.int .i64 b) ∧ wr.cell? ⟨t1.heap.size, 2, none⟩ = some (.int .i64 c)) (fun k _ => (6 - intOf k).toNat)
  case atStart =>
    refine ⟨0, by omega, rfl, rfl, ?_⟩
    (repeat' apply And.intro) <;> first | omega | (simp; done) | (simp (disch := first | omega | (simp only [World.size_alloc, World.size_setCell, World.size_drew]; done) | (simp only [World.size_alloc, World.size_setCell, World.size_drew]; omega)) only [*, r_set_same, r_set_off, r_set_blk, r_set_f, r_alloc_at, r_alloc_past, r_falloc_at, r_falloc_past, World.cell?_drew, World.frozen?_drew, Option.map_some, List.getElem?_toArray, List.getElem?_cons_zero, List.getElem?_cons_succ]; done) | (repeat' (first | (with_reducible assumption) | (with_reducible exact Below.refl _ _) | (with_reducible refine Below.alloc ?_ ?_ _) | (with_reducible refine Below.drew ?_) | (with_reducible refine Below.setCell ?_ ?_ _) | (with_reducible refine b_step ?_ (by assumption) ?_) | omega | (simp only [World.size_alloc, World.size_setCell, World.size_drew]; omega)))
  case round =>
    obtain ⟨m, hm, rfl, hf, bw, zw, c0, c1, c2⟩ := hrel
    by_cases hlt : m < 6
    · have ik := fun w => index6 m hlt w
      by_cases hq : uT m 0 = a ∧ uT m 1 = b ∧ uT m 2 = c
      · have he : ∀ w, (binOp .eql 23 (.agg #[.int .i64 (uT m 0), .int .i64 (uT m 1), .int .i64 (uT m 2)]) (.agg #[.int .i64 a, .int .i64 b, .int .i64 c])).run Tryd.prog w = .ok (.bool true) w := fun w => by rw [eql_V, decide_eq_true hq]
        have HF : dirOf a b c = m := by rw [hf, show 6 - m = (5 - m) + 1 from by omega, dirFrom, if_pos hq]
        have HH := Lib.hid HF
        clear hq hf HF
        go_wp2
        go_ret
        exact ⟨ret_int _ _ HH.out.symm, by (repeat' (first | (with_reducible assumption) | (with_reducible exact Below.refl _ _) | (with_reducible refine Below.alloc ?_ ?_ _) | (with_reducible refine Below.drew ?_) | (with_reducible refine Below.setCell ?_ ?_ _) | (with_reducible refine b_step ?_ (by assumption) ?_) | omega | (simp only [World.size_alloc, World.size_setCell, World.size_drew]; omega)))⟩
      · have he : ∀ w, (binOp .eql 23 (.agg #[.int .i64 (uT m 0), .int .i64 (uT m 1), .int .i64 (uT m 2)]) (.agg #[.int .i64 a, .int .i64 b, .int .i64 c])).run Tryd.prog w = .ok (.bool false) w := fun w => by rw [eql_V, decide_eq_false hq]
        have HF : dirOf a b c = dirFrom a b c (6 - (m + 1)) (m + 1) := by rw [hf, show 6 - m = (6 - (m + 1)) + 1 from by omega, dirFrom, if_neg hq]
        have HH := Lib.hid HF
        clear hq hf HF
        go_wp2
        go_roundw
        case rel =>
          refine ⟨m + 1, by omega, by go_num, HH.out, ?_⟩
          (repeat' apply And.intro) <;> first | omega | (simp; omega) | exact c_alloc (by assumption) | (repeat' (first | (with_reducible assumption) | (with_reducible exact Below.refl _ _) | (with_reducible refine Below.alloc ?_ ?_ _) | (with_reducible refine Below.drew ?_) | (with_reducible refine Below.setCell ?_ ?_ _) | (with_reducible refine b_step ?_ (by assumption) ?_) | omega | (simp only [World.size_alloc, World.size_setCell, World.size_drew]; omega)))
        case measure => simp [intOf]; omega
    · have HF : dirOf a b c = -1 := by rw [hf, show 6 - m = 0 from by omega, dirFrom]
      have HH := Lib.hid HF
      clear hf HF
      go_wp2
      go_ret
      exact ⟨ret_int _ _ HH.out.symm, bw⟩

set_option maxHeartbeats 4000000 in
theorem direction_1 (n : Nat) (a b c : Int) (w : World) (hu : Units w) (H : ∀ w, Calls Tryd.prog 62 #[.int .i64 n, vV (-1) 0 0] w fun e w' => e = .returned (vV a b c) ∧ Below w.heap.size w w') :
    Calls Tryd.prog 59 #[.int .i64 n, .int .i64 1] w fun e w' => e = .returned (.int .i64 (dirOf a b c)) ∧ Below w.heap.size w w' := by
  have K := Lib.hid H; clear H
  have HU := Lib.hid hu
  have g0 : w.cell? ⟨0, 3, none⟩ = some (.int .i64 (-1)) := hu 3 (by decide)
  have g1 : w.cell? ⟨0, 4, none⟩ = some (.int .i64 0) := hu 4 (by decide)
  have g2 : w.cell? ⟨0, 5, none⟩ = some (.int .i64 0) := hu 5 (by decide)
  clear hu
  go_enter Tryd.func59, Tryd.ntmps59
  go_wp2_with (first | (go_at_call 62; (with_reducible refine (K.out _).mono ?_); rintro e t1 ⟨rfl, y1⟩) | (refine wpList_load_mid rfl 84 _ rfl 0 0 rfl (unitsL.map (Value.int .i64)) _ (Units.range ((Units.later HU.out y1).alloc _)) Tryd.underlying84 rfl size84 ?_))
  have z1 : w.heap.size ≤ t1.heap.size := y1.size
  go_loopw [14] (fun k wr => ∃ m : Nat, m ≤ 6 ∧ k = .int .i64 m ∧ dirOf a b c = dirFrom a b c (6 - m) m ∧ Below w.heap.size w wr ∧ t1.heap.size < wr.heap.size ∧ wr.cell? ⟨t1.heap.size, 0, none⟩ = some (.int .i64 a) ∧ wr.cell? ⟨t1.heap.size, 1, none⟩ = some (.int .i64 b) ∧ wr.cell? ⟨t1.heap.size, 2, none⟩ = some (.int .i64 c)) (fun k _ => (6 - intOf k).toNat)
  case atStart =>
    refine ⟨0, by omega, rfl, rfl, ?_⟩
    (repeat' apply And.intro) <;> first | omega | (simp; done) | (simp (disch := first | omega | (simp only [World.size_alloc, World.size_setCell, World.size_drew]; done) | (simp only [World.size_alloc, World.size_setCell, World.size_drew]; omega)) only [*, r_set_same, r_set_off, r_set_blk, r_set_f, r_alloc_at, r_alloc_past, r_falloc_at, r_falloc_past, World.cell?_drew, World.frozen?_drew, Option.map_some, List.getElem?_toArray, List.getElem?_cons_zero, List.getElem?_cons_succ]; done) | (repeat' (first | (with_reducible assumption) | (with_reducible exact Below.refl _ _) | (with_reducible refine Below.alloc ?_ ?_ _) | (with_reducible refine Below.drew ?_) | (with_reducible refine Below.setCell ?_ ?_ _) | (with_reducible refine b_step ?_ (by assumption) ?_) | omega | (simp only [World.size_alloc, World.size_setCell, World.size_drew]; omega)))
  case round =>
    obtain ⟨m, hm, rfl, hf, bw, zw, c0, c1, c2⟩ := hrel
    by_cases hlt : m < 6
    · have ik := fun w => index6 m hlt w
      by_cases hq : uT m 0 = a ∧ uT m 1 = b ∧ uT m 2 = c
      · have he : ∀ w, (binOp .eql 23 (.agg #[.int .i64 (uT m 0), .int .i64 (uT m 1), .int .i64 (uT m 2)]) (.agg #[.int .i64 a, .int .i64 b, .int .i64 c])).run Tryd.prog w = .ok (.bool true) w := fun w => by rw [eql_V, decide_eq_true hq]
        have HF : dirOf a b c = m := by rw [hf, show 6 - m = (5 - m) + 1 from by omega, dirFrom, if_pos hq]
        have HH := Lib.hid HF
        clear hq hf HF
        go_wp2
        go_ret
        exact ⟨ret_int _ _ HH.out.symm, by (repeat' (first | (with_reducible assumption) | (with_reducible exact Below.refl _ _) | (with_reducible refine Below.alloc ?_ ?_ _) | (with_reducible refine Below.drew ?_) | (with_reducible refine Below.setCell ?_ ?_ _) | (with_reducible refine b_step ?_ (by assumption) ?_) | omega | (simp only [World.size_alloc, World.size_setCell, World.size_drew]; omega)))⟩
      · have he : ∀ w, (binOp .eql 23 (.agg #[.int .i64 (uT m 0), .int .i64 (uT m 1), .int .i64 (uT m 2)]) (.agg #[.int .i64 a, .int .i64 b, .int .i64 c])).run Tryd.prog w = .ok (.bool false) w := fun w => by rw [eql_V, decide_eq_false hq]
        have HF : dirOf a b c = dirFrom a b c (6 - (m + 1)) (m + 1) := by rw [hf, show 6 - m = (6 - (m + 1)) + 1 from by omega, dirFrom, if_neg hq]
        have HH := Lib.hid HF
        clear hq hf HF
        go_wp2
        go_roundw
        case rel =>
          refine ⟨m + 1, by omega, by go_num, HH.out, ?_⟩
          (repeat' apply And.intro) <;> first | omega | (simp; omega) | exact c_alloc (by assumption) | (repeat' (first | (with_reducible assumption) | (with_reducible exact Below.refl _ _) | (with_reducible refine Below.alloc ?_ ?_ _) | (with_reducible refine Below.drew ?_) | (with_reducible refine Below.setCell ?_ ?_ _) | (with_reducible refine b_step ?_ (by assumption) ?_) | omega | (simp only [World.size_alloc, World.size_setCell, World.size_drew]; omega)))
        case measure => simp [intOf]; omega
    · have HF : dirOf a b c = -1 := by rw [hf, show 6 - m = 0 from by omega, dirFrom]
      have HH := Lib.hid HF
      clear hf HF
      go_wp2
      go_ret
      exact ⟨ret_int _ _ HH.out.symm, bw⟩

set_option maxHeartbeats 4000000 in
theorem direction_2 (n : Nat) (a b c : Int) (w : World) (hu : Units w) (H : ∀ w, Calls Tryd.prog 62 #[.int .i64 n, vV 0 1 0] w fun e w' => e = .returned (vV a b c) ∧ Below w.heap.size w w') :
    Calls Tryd.prog 59 #[.int .i64 n, .int .i64 2] w fun e w' => e = .returned (.int .i64 (dirOf a b c)) ∧ Below w.heap.size w w' := by
  have K := Lib.hid H; clear H
  have HU := Lib.hid hu
  have g0 : w.cell? ⟨0, 6, none⟩ = some (.int .i64 0) := hu 6 (by decide)
  have g1 : w.cell? ⟨0, 7, none⟩ = some (.int .i64 1) := hu 7 (by decide)
  have g2 : w.cell? ⟨0, 8, none⟩ = some (.int .i64 0) := hu 8 (by decide)
  clear hu
  go_enter Tryd.func59, Tryd.ntmps59
  go_wp2_with (first | (go_at_call 62; (with_reducible refine (K.out _).mono ?_); rintro e t1 ⟨rfl, y1⟩) | (refine wpList_load_mid rfl 84 _ rfl 0 0 rfl (unitsL.map (Value.int .i64)) _ (Units.range ((Units.later HU.out y1).alloc _)) Tryd.underlying84 rfl size84 ?_))
  have z1 : w.heap.size ≤ t1.heap.size := y1.size
  go_loopw [14] (fun k wr => ∃ m : Nat, m ≤ 6 ∧ k = .int .i64 m ∧ dirOf a b c = dirFrom a b c (6 - m) m ∧ Below w.heap.size w wr ∧ t1.heap.size < wr.heap.size ∧ wr.cell? ⟨t1.heap.size, 0, none⟩ = some (.int .i64 a) ∧ wr.cell? ⟨t1.heap.size, 1, none⟩ = some (.int .i64 b) ∧ wr.cell? ⟨t1.heap.size, 2, none⟩ = some (.int .i64 c)) (fun k _ => (6 - intOf k).toNat)
  case atStart =>
    refine ⟨0, by omega, rfl, rfl, ?_⟩
    (repeat' apply And.intro) <;> first | omega | (simp; done) | (simp (disch := first | omega | (simp only [World.size_alloc, World.size_setCell, World.size_drew]; done) | (simp only [World.size_alloc, World.size_setCell, World.size_drew]; omega)) only [*, r_set_same, r_set_off, r_set_blk, r_set_f, r_alloc_at, r_alloc_past, r_falloc_at, r_falloc_past, World.cell?_drew, World.frozen?_drew, Option.map_some, List.getElem?_toArray, List.getElem?_cons_zero, List.getElem?_cons_succ]; done) | (repeat' (first | (with_reducible assumption) | (with_reducible exact Below.refl _ _) | (with_reducible refine Below.alloc ?_ ?_ _) | (with_reducible refine Below.drew ?_) | (with_reducible refine Below.setCell ?_ ?_ _) | (with_reducible refine b_step ?_ (by assumption) ?_) | omega | (simp only [World.size_alloc, World.size_setCell, World.size_drew]; omega)))
  case round =>
    obtain ⟨m, hm, rfl, hf, bw, zw, c0, c1, c2⟩ := hrel
    by_cases hlt : m < 6
    · have ik := fun w => index6 m hlt w
      by_cases hq : uT m 0 = a ∧ uT m 1 = b ∧ uT m 2 = c
      · have he : ∀ w, (binOp .eql 23 (.agg #[.int .i64 (uT m 0), .int .i64 (uT m 1), .int .i64 (uT m 2)]) (.agg #[.int .i64 a, .int .i64 b, .int .i64 c])).run Tryd.prog w = .ok (.bool true) w := fun w => by rw [eql_V, decide_eq_true hq]
        have HF : dirOf a b c = m := by rw [hf, show 6 - m = (5 - m) + 1 from by omega, dirFrom, if_pos hq]
        have HH := Lib.hid HF
        clear hq hf HF
        go_wp2
        go_ret
        exact ⟨ret_int _ _ HH.out.symm, by (repeat' (first | (with_reducible assumption) | (with_reducible exact Below.refl _ _) | (with_reducible refine Below.alloc ?_ ?_ _) | (with_reducible refine Below.drew ?_) | (with_reducible refine Below.setCell ?_ ?_ _) | (with_reducible refine b_step ?_ (by assumption) ?_) | omega | (simp only [World.size_alloc, World.size_setCell, World.size_drew]; omega)))⟩
      · have he : ∀ w, (binOp .eql 23 (.agg #[.int .i64 (uT m 0), .int .i64 (uT m 1), .int .i64 (uT m 2)]) (.agg #[.int .i64 a, .int .i64 b, .int .i64 c])).run Tryd.prog w = .ok (.bool false) w := fun w => by rw [eql_V, decide_eq_false hq]
        have HF : dirOf a b c = dirFrom a b c (6 - (m + 1)) (m + 1) := by rw [hf, show 6 - m = (6 - (m + 1)) + 1 from by omega, dirFrom, if_neg hq]
        have HH := Lib.hid HF
        clear hq hf HF
        go_wp2
        go_roundw
        case rel =>
          refine ⟨m + 1, by omega, by go_num, HH.out, ?_⟩
          (repeat' apply And.intro) <;> first | omega | (simp; omega) | exact c_alloc (by assumption) | (repeat' (first | (with_reducible assumption) | (with_reducible exact Below.refl _ _) | (with_reducible refine Below.alloc ?_ ?_ _) | (with_reducible refine Below.drew ?_) | (with_reducible refine Below.setCell ?_ ?_ _) | (with_reducible refine b_step ?_ (by assumption) ?_) | omega | (simp only [World.size_alloc, World.size_setCell, World.size_drew]; omega)))
        case measure => simp [intOf]; omega
    · have HF : dirOf a b c = -1 := by rw [hf, show 6 - m = 0 from by omega, dirFrom]
      have HH := Lib.hid HF
      clear hf HF
      go_wp2
      go_ret
      exact ⟨ret_int _ _ HH.out.symm, bw⟩

set_option maxHeartbeats 4000000 in
theorem direction_3 (n : Nat) (a b c : Int) (w : World) (hu : Units w) (H : ∀ w, Calls Tryd.prog 62 #[.int .i64 n, vV 0 (-1) 0] w fun e w' => e = .returned (vV a b c) ∧ Below w.heap.size w w') :
    Calls Tryd.prog 59 #[.int .i64 n, .int .i64 3] w fun e w' => e = .returned (.int .i64 (dirOf a b c)) ∧ Below w.heap.size w w' := by
  have K := Lib.hid H; clear H
  have HU := Lib.hid hu
  have g0 : w.cell? ⟨0, 9, none⟩ = some (.int .i64 0) := hu 9 (by decide)
  have g1 : w.cell? ⟨0, 10, none⟩ = some (.int .i64 (-1)) := hu 10 (by decide)
  have g2 : w.cell? ⟨0, 11, none⟩ = some (.int .i64 0) := hu 11 (by decide)
  clear hu
  go_enter Tryd.func59, Tryd.ntmps59
  go_wp2_with (first | (go_at_call 62; (with_reducible refine (K.out _).mono ?_); rintro e t1 ⟨rfl, y1⟩) | (refine wpList_load_mid rfl 84 _ rfl 0 0 rfl (unitsL.map (Value.int .i64)) _ (Units.range ((Units.later HU.out y1).alloc _)) Tryd.underlying84 rfl size84 ?_))
  have z1 : w.heap.size ≤ t1.heap.size := y1.size
  go_loopw [14] (fun k wr => ∃ m : Nat, m ≤ 6 ∧ k = .int .i64 m ∧ dirOf a b c = dirFrom a b c (6 - m) m ∧ Below w.heap.size w wr ∧ t1.heap.size < wr.heap.size ∧ wr.cell? ⟨t1.heap.size, 0, none⟩ = some (.int .i64 a) ∧ wr.cell? ⟨t1.heap.size, 1, none⟩ = some (.int .i64 b) ∧ wr.cell? ⟨t1.heap.size, 2, none⟩ = some (.int .i64 c)) (fun k _ => (6 - intOf k).toNat)
  case atStart =>
    refine ⟨0, by omega, rfl, rfl, ?_⟩
    (repeat' apply And.intro) <;> first | omega | (simp; done) | (simp (disch := first | omega | (simp only [World.size_alloc, World.size_setCell, World.size_drew]; done) | (simp only [World.size_alloc, World.size_setCell, World.size_drew]; omega)) only [*, r_set_same, r_set_off, r_set_blk, r_set_f, r_alloc_at, r_alloc_past, r_falloc_at, r_falloc_past, World.cell?_drew, World.frozen?_drew, Option.map_some, List.getElem?_toArray, List.getElem?_cons_zero, List.getElem?_cons_succ]; done) | (repeat' (first | (with_reducible assumption) | (with_reducible exact Below.refl _ _) | (with_reducible refine Below.alloc ?_ ?_ _) | (with_reducible refine Below.drew ?_) | (with_reducible refine Below.setCell ?_ ?_ _) | (with_reducible refine b_step ?_ (by assumption) ?_) | omega | (simp only [World.size_alloc, World.size_setCell, World.size_drew]; omega)))
  case round =>
    obtain ⟨m, hm, rfl, hf, bw, zw, c0, c1, c2⟩ := hrel
    by_cases hlt : m < 6
    · have ik := fun w => index6 m hlt w
      by_cases hq : uT m 0 = a ∧ uT m 1 = b ∧ uT m 2 = c
      · have he : ∀ w, (binOp .eql 23 (.agg #[.int .i64 (uT m 0), .int .i64 (uT m 1), .int .i64 (uT m 2)]) (.agg #[.int .i64 a, .int .i64 b, .int .i64 c])).run Tryd.prog w = .ok (.bool true) w := fun w => by rw [eql_V, decide_eq_true hq]
        have HF : dirOf a b c = m := by rw [hf, show 6 - m = (5 - m) + 1 from by omega, dirFrom, if_pos hq]
        have HH := Lib.hid HF
        clear hq hf HF
        go_wp2
        go_ret
        exact ⟨ret_int _ _ HH.out.symm, by (repeat' (first | (with_reducible assumption) | (with_reducible exact Below.refl _ _) | (with_reducible refine Below.alloc ?_ ?_ _) | (with_reducible refine Below.drew ?_) | (with_reducible refine Below.setCell ?_ ?_ _) | (with_reducible refine b_step ?_ (by assumption) ?_) | omega | (simp only [World.size_alloc, World.size_setCell, World.size_drew]; omega)))⟩
      · have he : ∀ w, (binOp .eql 23 (.agg #[.int .i64 (uT m 0), .int .i64 (uT m 1), .int .i64 (uT m 2)]) (.agg #[.int .i64 a, .int .i64 b, .int .i64 c])).run Tryd.prog w = .ok (.bool false) w := fun w => by rw [eql_V, decide_eq_false hq]
        have HF : dirOf a b c = dirFrom a b c (6 - (m + 1)) (m + 1) := by rw [hf, show 6 - m = (6 - (m + 1)) + 1 from by omega, dirFrom, if_neg hq]
        have HH := Lib.hid HF
        clear hq hf HF
        go_wp2
        go_roundw
        case rel =>
          refine ⟨m + 1, by omega, by go_num, HH.out, ?_⟩
          (repeat' apply And.intro) <;> first | omega | (simp; omega) | exact c_alloc (by assumption) | (repeat' (first | (with_reducible assumption) | (with_reducible exact Below.refl _ _) | (with_reducible refine Below.alloc ?_ ?_ _) | (with_reducible refine Below.drew ?_) | (with_reducible refine Below.setCell ?_ ?_ _) | (with_reducible refine b_step ?_ (by assumption) ?_) | omega | (simp only [World.size_alloc, World.size_setCell, World.size_drew]; omega)))
        case measure => simp [intOf]; omega
    · have HF : dirOf a b c = -1 := by rw [hf, show 6 - m = 0 from by omega, dirFrom]
      have HH := Lib.hid HF
      clear hf HF
      go_wp2
      go_ret
      exact ⟨ret_int _ _ HH.out.symm, bw⟩

set_option maxHeartbeats 4000000 in
theorem direction_4 (n : Nat) (a b c : Int) (w : World) (hu : Units w) (H : ∀ w, Calls Tryd.prog 62 #[.int .i64 n, vV 0 0 1] w fun e w' => e = .returned (vV a b c) ∧ Below w.heap.size w w') :
    Calls Tryd.prog 59 #[.int .i64 n, .int .i64 4] w fun e w' => e = .returned (.int .i64 (dirOf a b c)) ∧ Below w.heap.size w w' := by
  have K := Lib.hid H; clear H
  have HU := Lib.hid hu
  have g0 : w.cell? ⟨0, 12, none⟩ = some (.int .i64 0) := hu 12 (by decide)
  have g1 : w.cell? ⟨0, 13, none⟩ = some (.int .i64 0) := hu 13 (by decide)
  have g2 : w.cell? ⟨0, 14, none⟩ = some (.int .i64 1) := hu 14 (by decide)
  clear hu
  go_enter Tryd.func59, Tryd.ntmps59
  go_wp2_with (first | (go_at_call 62; (with_reducible refine (K.out _).mono ?_); rintro e t1 ⟨rfl, y1⟩) | (refine wpList_load_mid rfl 84 _ rfl 0 0 rfl (unitsL.map (Value.int .i64)) _ (Units.range ((Units.later HU.out y1).alloc _)) Tryd.underlying84 rfl size84 ?_))
  have z1 : w.heap.size ≤ t1.heap.size := y1.size
  go_loopw [14] (fun k wr => ∃ m : Nat, m ≤ 6 ∧ k = .int .i64 m ∧ dirOf a b c = dirFrom a b c (6 - m) m ∧ Below w.heap.size w wr ∧ t1.heap.size < wr.heap.size ∧ wr.cell? ⟨t1.heap.size, 0, none⟩ = some (.int .i64 a) ∧ wr.cell? ⟨t1.heap.size, 1, none⟩ = some (.int .i64 b) ∧ wr.cell? ⟨t1.heap.size, 2, none⟩ = some (.int .i64 c)) (fun k _ => (6 - intOf k).toNat)
  case atStart =>
    refine ⟨0, by omega, rfl, rfl, ?_⟩
    (repeat' apply And.intro) <;> first | omega | (simp; done) | (simp (disch := first | omega | (simp only [World.size_alloc, World.size_setCell, World.size_drew]; done) | (simp only [World.size_alloc, World.size_setCell, World.size_drew]; omega)) only [*, r_set_same, r_set_off, r_set_blk, r_set_f, r_alloc_at, r_alloc_past, r_falloc_at, r_falloc_past, World.cell?_drew, World.frozen?_drew, Option.map_some, List.getElem?_toArray, List.getElem?_cons_zero, List.getElem?_cons_succ]; done) | (repeat' (first | (with_reducible assumption) | (with_reducible exact Below.refl _ _) | (with_reducible refine Below.alloc ?_ ?_ _) | (with_reducible refine Below.drew ?_) | (with_reducible refine Below.setCell ?_ ?_ _) | (with_reducible refine b_step ?_ (by assumption) ?_) | omega | (simp only [World.size_alloc, World.size_setCell, World.size_drew]; omega)))
  case round =>
    obtain ⟨m, hm, rfl, hf, bw, zw, c0, c1, c2⟩ := hrel
    by_cases hlt : m < 6
    · have ik := fun w => index6 m hlt w
      by_cases hq : uT m 0 = a ∧ uT m 1 = b ∧ uT m 2 = c
      · have he : ∀ w, (binOp .eql 23 (.agg #[.int .i64 (uT m 0), .int .i64 (uT m 1), .int .i64 (uT m 2)]) (.agg #[.int .i64 a, .int .i64 b, .int .i64 c])).run Tryd.prog w = .ok (.bool true) w := fun w => by rw [eql_V, decide_eq_true hq]
        have HF : dirOf a b c = m := by rw [hf, show 6 - m = (5 - m) + 1 from by omega, dirFrom, if_pos hq]
        have HH := Lib.hid HF
        clear hq hf HF
        go_wp2
        go_ret
        exact ⟨ret_int _ _ HH.out.symm, by (repeat' (first | (with_reducible assumption) | (with_reducible exact Below.refl _ _) | (with_reducible refine Below.alloc ?_ ?_ _) | (with_reducible refine Below.drew ?_) | (with_reducible refine Below.setCell ?_ ?_ _) | (with_reducible refine b_step ?_ (by assumption) ?_) | omega | (simp only [World.size_alloc, World.size_setCell, World.size_drew]; omega)))⟩
      · have he : ∀ w, (binOp .eql 23 (.agg #[.int .i64 (uT m 0), .int .i64 (uT m 1), .int .i64 (uT m 2)]) (.agg #[.int .i64 a, .int .i64 b, .int .i64 c])).run Tryd.prog w = .ok (.bool false) w := fun w => by rw [eql_V, decide_eq_false hq]
        have HF : dirOf a b c = dirFrom a b c (6 - (m + 1)) (m + 1) := by rw [hf, show 6 - m = (6 - (m + 1)) + 1 from by omega, dirFrom, if_neg hq]
        have HH := Lib.hid HF
        clear hq hf HF
        go_wp2
        go_roundw
        case rel =>
          refine ⟨m + 1, by omega, by go_num, HH.out, ?_⟩
          (repeat' apply And.intro) <;> first | omega | (simp; omega) | exact c_alloc (by assumption) | (repeat' (first | (with_reducible assumption) | (with_reducible exact Below.refl _ _) | (with_reducible refine Below.alloc ?_ ?_ _) | (with_reducible refine Below.drew ?_) | (with_reducible refine Below.setCell ?_ ?_ _) | (with_reducible refine b_step ?_ (by assumption) ?_) | omega | (simp only [World.size_alloc, World.size_setCell, World.size_drew]; omega)))
        case measure => simp [intOf]; omega
    · have HF : dirOf a b c = -1 := by rw [hf, show 6 - m = 0 from by omega, dirFrom]
      have HH := Lib.hid HF
      clear hf HF
      go_wp2
      go_ret
      exact ⟨ret_int _ _ HH.out.symm, bw⟩

set_option maxHeartbeats 4000000 in
theorem direction_5 (n : Nat) (a b c : Int) (w : World) (hu : Units w) (H : ∀ w, Calls Tryd.prog 62 #[.int .i64 n, vV 0 0 (-1)] w fun e w' => e = .returned (vV a b c) ∧ Below w.heap.size w w') :
    Calls Tryd.prog 59 #[.int .i64 n, .int .i64 5] w fun e w' => e = .returned (.int .i64 (dirOf a b c)) ∧ Below w.heap.size w w' := by
  have K := Lib.hid H; clear H
  have HU := Lib.hid hu
  have g0 : w.cell? ⟨0, 15, none⟩ = some (.int .i64 0) := hu 15 (by decide)
  have g1 : w.cell? ⟨0, 16, none⟩ = some (.int .i64 0) := hu 16 (by decide)
  have g2 : w.cell? ⟨0, 17, none⟩ = some (.int .i64 (-1)) := hu 17 (by decide)
  clear hu
  go_enter Tryd.func59, Tryd.ntmps59
  go_wp2_with (first | (go_at_call 62; (with_reducible refine (K.out _).mono ?_); rintro e t1 ⟨rfl, y1⟩) | (refine wpList_load_mid rfl 84 _ rfl 0 0 rfl (unitsL.map (Value.int .i64)) _ (Units.range ((Units.later HU.out y1).alloc _)) Tryd.underlying84 rfl size84 ?_))
  have z1 : w.heap.size ≤ t1.heap.size := y1.size
  go_loopw [14] (fun k wr => ∃ m : Nat, m ≤ 6 ∧ k = .int .i64 m ∧ dirOf a b c = dirFrom a b c (6 - m) m ∧ Below w.heap.size w wr ∧ t1.heap.size < wr.heap.size ∧ wr.cell? ⟨t1.heap.size, 0, none⟩ = some (.int .i64 a) ∧ wr.cell? ⟨t1.heap.size, 1, none⟩ = some (.int .i64 b) ∧ wr.cell? ⟨t1.heap.size, 2, none⟩ = some (.int .i64 c)) (fun k _ => (6 - intOf k).toNat)
  case atStart =>
    refine ⟨0, by omega, rfl, rfl, ?_⟩
    (repeat' apply And.intro) <;> first | omega | (simp; done) | (simp (disch := first | omega | (simp only [World.size_alloc, World.size_setCell, World.size_drew]; done) | (simp only [World.size_alloc, World.size_setCell, World.size_drew]; omega)) only [*, r_set_same, r_set_off, r_set_blk, r_set_f, r_alloc_at, r_alloc_past, r_falloc_at, r_falloc_past, World.cell?_drew, World.frozen?_drew, Option.map_some, List.getElem?_toArray, List.getElem?_cons_zero, List.getElem?_cons_succ]; done) | (repeat' (first | (with_reducible assumption) | (with_reducible exact Below.refl _ _) | (with_reducible refine Below.alloc ?_ ?_ _) | (with_reducible refine Below.drew ?_) | (with_reducible refine Below.setCell ?_ ?_ _) | (with_reducible refine b_step ?_ (by assumption) ?_) | omega | (simp only [World.size_alloc, World.size_setCell, World.size_drew]; omega)))
  case round =>
    obtain ⟨m, hm, rfl, hf, bw, zw, c0, c1, c2⟩ := hrel
    by_cases hlt : m < 6
    · have ik := fun w => index6 m hlt w
      by_cases hq : uT m 0 = a ∧ uT m 1 = b ∧ uT m 2 = c
      · have he : ∀ w, (binOp .eql 23 (.agg #[.int .i64 (uT m 0), .int .i64 (uT m 1), .int .i64 (uT m 2)]) (.agg #[.int .i64 a, .int .i64 b, .int .i64 c])).run Tryd.prog w = .ok (.bool true) w := fun w => by rw [eql_V, decide_eq_true hq]
        have HF : dirOf a b c = m := by rw [hf, show 6 - m = (5 - m) + 1 from by omega, dirFrom, if_pos hq]
        have HH := Lib.hid HF
        clear hq hf HF
        go_wp2
        go_ret
        exact ⟨ret_int _ _ HH.out.symm, by (repeat' (first | (with_reducible assumption) | (with_reducible exact Below.refl _ _) | (with_reducible refine Below.alloc ?_ ?_ _) | (with_reducible refine Below.drew ?_) | (with_reducible refine Below.setCell ?_ ?_ _) | (with_reducible refine b_step ?_ (by assumption) ?_) | omega | (simp only [World.size_alloc, World.size_setCell, World.size_drew]; omega)))⟩
      · have he : ∀ w, (binOp .eql 23 (.agg #[.int .i64 (uT m 0), .int .i64 (uT m 1), .int .i64 (uT m 2)]) (.agg #[.int .i64 a, .int .i64 b, .int .i64 c])).run Tryd.prog w = .ok (.bool false) w := fun w => by rw [eql_V, decide_eq_false hq]
        have HF : dirOf a b c = dirFrom a b c (6 - (m + 1)) (m + 1) := by rw [hf, show 6 - m = (6 - (m + 1)) + 1 from by omega, dirFrom, if_neg hq]
        have HH := Lib.hid HF
        clear hq hf HF
        go_wp2
        go_roundw
        case rel =>
          refine ⟨m + 1, by omega, by go_num, HH.out, ?_⟩
          (repeat' apply And.intro) <;> first | omega | (simp; omega) | exact c_alloc (by assumption) | (repeat' (first | (with_reducible assumption) | (with_reducible exact Below.refl _ _) | (with_reducible refine Below.alloc ?_ ?_ _) | (with_reducible refine Below.drew ?_) | (with_reducible refine Below.setCell ?_ ?_ _) | (with_reducible refine b_step ?_ (by assumption) ?_) | omega | (simp only [World.size_alloc, World.size_setCell, World.size_drew]; omega)))
        case measure => simp [intOf]; omega
    · have HF : dirOf a b c = -1 := by rw [hf, show 6 - m = 0 from by omega, dirFrom]
      have HH := Lib.hid HF
      clear hf HF
      go_wp2
      go_ret
      exact ⟨ret_int _ _ HH.out.symm, bw⟩

theorem direction_c (n d : Nat) (h : n < 24) (hd : d < 6) (w : World) (hu : Units w) :
    Calls Tryd.prog 59 #[.int .i64 n, .int .i64 d] w fun e w' => e = .returned (.int .i64 (dirT n d)) ∧ Below w.heap.size w w' := by
  have : d = 0 ∨ d = 1 ∨ d = 2 ∨ d = 3 ∨ d = 4 ∨ d = 5 := by omega
  rcases this with rfl | rfl | rfl | rfl | rfl | rfl
  · exact direction_0 n _ _ _ w hu (fun w => apply_c n h 1 0 0 (by decide) (by decide) (by decide) w)
  · exact direction_1 n _ _ _ w hu (fun w => apply_c n h (-1) 0 0 (by decide) (by decide) (by decide) w)
  · exact direction_2 n _ _ _ w hu (fun w => apply_c n h 0 1 0 (by decide) (by decide) (by decide) w)
  · exact direction_3 n _ _ _ w hu (fun w => apply_c n h 0 (-1) 0 (by decide) (by decide) (by decide) w)
  · exact direction_4 n _ _ _ w hu (fun w => apply_c n h 0 0 1 (by decide) (by decide) (by decide) w)
  · exact direction_5 n _ _ _ w hu (fun w => apply_c n h 0 0 (-1) (by decide) (by decide) (by decide) w)

/-- Which turns a bed allows. -/
def alB (bed : Int) (n : Nat) : Bool := if bed = 0 then true else if bed = 1 then decide (dirT n 4 = 4 ∨ dirT n 4 = 5) else if bed = 2 then decide (dirT n 4 = 4) else if bed = 3 then !decide (dirT n 4 = 4 ∨ dirT n 4 = 5) else false
theorem is1_t {n : Int} (h : isB n = true) (b : Nat) (w : World) (hc : w.cell? ⟨b, 0, none⟩ = some (.int .i64 n)) : Calls Tryd.prog 47 #[.slice (some ⟨b, 0, none⟩) 1 1] w fun e w' => e = .returned (.bool true) ∧ w = w' := by
  have := is1_c n b w hc; rw [h] at this; exact this
theorem is1_f {n : Int} (h : isB n = false) (b : Nat) (w : World) (hc : w.cell? ⟨b, 0, none⟩ = some (.int .i64 n)) : Calls Tryd.prog 47 #[.slice (some ⟨b, 0, none⟩) 1 1] w fun e w' => e = .returned (.bool false) ∧ w = w' := by
  have := is1_c n b w hc; rw [h] at this; exact this

set_option maxHeartbeats 2000000 in
/-- Allowed at a number that is no turn. -/
theorem allowed_no (bed n : Int) (h : isB n = false) (w : World) :
    Calls Tryd.prog 26 #[.int .i64 bed, .int .i64 n] w fun e w' => e = .returned (.bool false) ∧ Below w.heap.size w w' := by
  have H := Lib.hid h; clear h
  go_enter Tryd.func26, Tryd.ntmps26
  go_wp2_with (go_at_call 47; (with_reducible refine (is1_f H.out _ _ (c_at (by simp) rfl)).mono ?_); rintro e w' ⟨rfl, rfl⟩)
  go_ret
  exact ⟨rfl, by go_grown⟩

set_option maxHeartbeats 4000000 in
theorem allowed_aux (bed u : Int) (n : Nat) (r : Bool) (h : isB n = true) (hr : r = (if bed = 0 then true else if bed = 1 then decide (u = 4 ∨ u = 5) else if bed = 2 then decide (u = 4) else if bed = 3 then !decide (u = 4 ∨ u = 5) else false)) (w : World)
    (D : ∀ W, Below w.heap.size w W → Calls Tryd.prog 59 #[.int .i64 n, .int .i64 4] W fun e w' => e = .returned (.int .i64 u) ∧ Below W.heap.size W w') :
    Calls Tryd.prog 26 #[.int .i64 bed, .int .i64 n] w fun e w' => e = .returned (.bool r) ∧ Below w.heap.size w w' := by
  have H := Lib.hid h; clear h
  have K := Lib.hid D; clear D
  rcases (show bed = 0 ∨ bed = 1 ∨ bed = 2 ∨ bed = 3 ∨ (¬ bed = 0 ∧ ¬ bed = 1 ∧ ¬ bed = 2 ∧ ¬ bed = 3) by omega) with hb | hb | hb | hb | ⟨b0, b1, b2, b3⟩
  rotate_left 4
  · rw [if_neg b0, if_neg b1, if_neg b2, if_neg b3] at hr
    subst hr
    have e0 : (bed == 0) = false := by simpa using b0
    have e1 : (bed == 1) = false := by simpa using b1
    have e2 : (bed == 2) = false := by simpa using b2
    have e3 : (bed == 3) = false := by simpa using b3
    clear b0 b1 b2 b3
    rcases (show u = 4 ∨ u = 5 ∨ (¬ u = 4 ∧ ¬ u = 5) by omega) with hu | hu | ⟨hu, hu'⟩
    all_goals
      first | (subst hu) | (have f0 : (u == 4) = false := (by simpa using hu); have f1 : (u == 5) = false := (by simpa using hu'); clear hu hu')
      go_enter Tryd.func26, Tryd.ntmps26
      go_wp2_with (first | (go_at_call 47; (with_reducible refine (is1_t H.out _ _ (c_at (by simp) rfl)).mono ?_); rintro e w' ⟨rfl, rfl⟩) | (go_at_call 59; (with_reducible refine (K.out _ (by go_grown)).mono ?_); rintro e t1 ⟨rfl, y1⟩))
      go_ret
      exact ⟨rfl, b_step (by go_grown) y1 (by simp)⟩
  all_goals
    subst hb
    simp only [if_true, if_pos, if_neg, Int.reduceEq, if_false] at hr
    rcases (show u = 4 ∨ u = 5 ∨ (¬ u = 4 ∧ ¬ u = 5) by omega) with hu | hu | ⟨hu, hu'⟩
    all_goals
      first | (subst hu; (try simp at hr); subst hr) | ((try simp [hu, hu'] at hr); subst hr; have f0 : (u == 4) = false := (by simpa using hu); have f1 : (u == 5) = false := (by simpa using hu'); clear hu hu')
      go_enter Tryd.func26, Tryd.ntmps26
      go_wp2_with (first | (go_at_call 47; (with_reducible refine (is1_t H.out _ _ (c_at (by simp) rfl)).mono ?_); rintro e w' ⟨rfl, rfl⟩) | (go_at_call 59; (with_reducible refine (K.out _ (by go_grown)).mono ?_); rintro e t1 ⟨rfl, y1⟩))
      go_ret
      exact ⟨rfl, b_step (by go_grown) y1 (by simp)⟩

/-- Allowed at a turn. -/
theorem allowed_c (bed : Int) (n : Nat) (h : n < 24) (w : World) (hu : Units w) :
    Calls Tryd.prog 26 #[.int .i64 bed, .int .i64 n] w fun e w' => e = .returned (.bool (alB bed n)) ∧ Below w.heap.size w w' :=
  allowed_aux bed (dirT n 4) n (alB bed n) (isB_t.2 (by omega)) rfl w (fun W hW => direction_c n 4 h (by decide) W (hu.later hW))
end Go.Proofs.YtibncdefhphggaaDoor
