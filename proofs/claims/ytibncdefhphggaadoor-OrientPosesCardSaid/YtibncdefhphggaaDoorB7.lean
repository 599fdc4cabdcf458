/- The contracts of the reference's Compose, Invert, Direction. -/
import Derived.Test.YtibncdefhphggaaDoorB6
import Derived.Test.YtibncdefhphggaaDoorA8
namespace Go.Proofs.YtibncdefhphggaaDoor
open Go.RowKit
set_option linter.unusedSimpArgs false
set_option linter.unusedVariables false
attribute [local go_sem ↓] Go.wp_at_zero Go.wp_at_succ

/-- Whether turn t does on the unit vectors what b and then a do. -/
def smB (t a b : Nat) : Bool := decide ((ap t 0 1 0 0 = ap a 0 (ap b 0 1 0 0) (ap b 1 1 0 0) (ap b 2 1 0 0) ∧ ap t 1 1 0 0 = ap a 1 (ap b 0 1 0 0) (ap b 1 1 0 0) (ap b 2 1 0 0) ∧ ap t 2 1 0 0 = ap a 2 (ap b 0 1 0 0) (ap b 1 1 0 0) (ap b 2 1 0 0)) ∧ (ap t 0 0 1 0 = ap a 0 (ap b 0 0 1 0) (ap b 1 0 1 0) (ap b 2 0 1 0) ∧ ap t 1 0 1 0 = ap a 1 (ap b 0 0 1 0) (ap b 1 0 1 0) (ap b 2 0 1 0) ∧ ap t 2 0 1 0 = ap a 2 (ap b 0 0 1 0) (ap b 1 0 1 0) (ap b 2 0 1 0)) ∧ (ap t 0 0 0 1 = ap a 0 (ap b 0 0 0 1) (ap b 1 0 0 1) (ap b 2 0 0 1) ∧ ap t 1 0 0 1 = ap a 1 (ap b 0 0 0 1) (ap b 1 0 0 1) (ap b 2 0 0 1) ∧ ap t 2 0 0 1 = ap a 2 (ap b 0 0 0 1) (ap b 1 0 0 1) (ap b 2 0 0 1)))
theorem rsame_c (t a b : Nat) (h : t < 24) (h1 : a < 24) (h2 : b < 24) (w : World) :
    Calls Tryd.prog 64 #[.int .i64 t, .int .i64 a, .int .i64 b] w fun e w' => e = .returned (.bool (smB t a b)) ∧ Below w.heap.size w w' := by
  have p00 := ap_bd (i := 0) (B := 1000000000) h2 (by decide) (x := 1) (y := 0) (z := 0) (by decide) (by decide) (by decide)
  have p01 := ap_bd (i := 1) (B := 1000000000) h2 (by decide) (x := 1) (y := 0) (z := 0) (by decide) (by decide) (by decide)
  have p02 := ap_bd (i := 2) (B := 1000000000) h2 (by decide) (x := 1) (y := 0) (z := 0) (by decide) (by decide) (by decide)
  have p10 := ap_bd (i := 0) (B := 1000000000) h2 (by decide) (x := 0) (y := 1) (z := 0) (by decide) (by decide) (by decide)
  have p11 := ap_bd (i := 1) (B := 1000000000) h2 (by decide) (x := 0) (y := 1) (z := 0) (by decide) (by decide) (by decide)
  have p12 := ap_bd (i := 2) (B := 1000000000) h2 (by decide) (x := 0) (y := 1) (z := 0) (by decide) (by decide) (by decide)
  have p20 := ap_bd (i := 0) (B := 1000000000) h2 (by decide) (x := 0) (y := 0) (z := 1) (by decide) (by decide) (by decide)
  have p21 := ap_bd (i := 1) (B := 1000000000) h2 (by decide) (x := 0) (y := 0) (z := 1) (by decide) (by decide) (by decide)
  have p22 := ap_bd (i := 2) (B := 1000000000) h2 (by decide) (x := 0) (y := 0) (z := 1) (by decide) (by decide) (by decide)
  by_cases q0 : ap t 0 1 0 0 = ap a 0 (ap b 0 1 0 0) (ap b 1 1 0 0) (ap b 2 1 0 0) ∧ ap t 1 1 0 0 = ap a 1 (ap b 0 1 0 0) (ap b 1 1 0 0) (ap b 2 1 0 0) ∧ ap t 2 1 0 0 = ap a 2 (ap b 0 1 0 0) (ap b 1 1 0 0) (ap b 2 1 0 0)
  · by_cases q1 : ap t 0 0 1 0 = ap a 0 (ap b 0 0 1 0) (ap b 1 0 1 0) (ap b 2 0 1 0) ∧ ap t 1 0 1 0 = ap a 1 (ap b 0 0 1 0) (ap b 1 0 1 0) (ap b 2 0 1 0) ∧ ap t 2 0 1 0 = ap a 2 (ap b 0 0 1 0) (ap b 1 0 1 0) (ap b 2 0 1 0)
    · by_cases q2 : ap t 0 0 0 1 = ap a 0 (ap b 0 0 0 1) (ap b 1 0 0 1) (ap b 2 0 0 1) ∧ ap t 1 0 0 1 = ap a 1 (ap b 0 0 0 1) (ap b 1 0 0 1) (ap b 2 0 0 1) ∧ ap t 2 0 0 1 = ap a 2 (ap b 0 0 0 1) (ap b 1 0 0 1) (ap b 2 0 0 1)
      · rw [show smB t a b = true from decide_eq_true ⟨q0, q1, q2⟩]
        exact same3_3 t a b (fun i j => if i = 0 then ap t j 1 0 0 else if i = 1 then ap t j 0 1 0 else ap t j 0 0 1) (fun i j => if i = 0 then ap b j 1 0 0 else if i = 1 then ap b j 0 1 0 else ap b j 0 0 1) (fun i j => if i = 0 then ap a j (ap b 0 1 0 0) (ap b 1 1 0 0) (ap b 2 1 0 0) else if i = 1 then ap a j (ap b 0 0 1 0) (ap b 1 0 1 0) (ap b 2 0 1 0) else ap a j (ap b 0 0 0 1) (ap b 1 0 0 1) (ap b 2 0 0 1)) w (fun w => rapply_c t h 1 0 0 (by decide) (by decide) (by decide) w) (fun w => rapply_c b h2 1 0 0 (by decide) (by decide) (by decide) w) (fun w => rapply_c a h1 _ _ _ p00 p01 p02 w) q0 (fun w => rapply_c t h 0 1 0 (by decide) (by decide) (by decide) w) (fun w => rapply_c b h2 0 1 0 (by decide) (by decide) (by decide) w) (fun w => rapply_c a h1 _ _ _ p10 p11 p12 w) q1 (fun w => rapply_c t h 0 0 1 (by decide) (by decide) (by decide) w) (fun w => rapply_c b h2 0 0 1 (by decide) (by decide) (by decide) w) (fun w => rapply_c a h1 _ _ _ p20 p21 p22 w) q2
      · rw [show smB t a b = false from decide_eq_false (fun e => q2 e.2.2)]
        exact same3_2 t a b (fun i j => if i = 0 then ap t j 1 0 0 else if i = 1 then ap t j 0 1 0 else ap t j 0 0 1) (fun i j => if i = 0 then ap b j 1 0 0 else if i = 1 then ap b j 0 1 0 else ap b j 0 0 1) (fun i j => if i = 0 then ap a j (ap b 0 1 0 0) (ap b 1 1 0 0) (ap b 2 1 0 0) else if i = 1 then ap a j (ap b 0 0 1 0) (ap b 1 0 1 0) (ap b 2 0 1 0) else ap a j (ap b 0 0 0 1) (ap b 1 0 0 1) (ap b 2 0 0 1)) w (fun w => rapply_c t h 1 0 0 (by decide) (by decide) (by decide) w) (fun w => rapply_c b h2 1 0 0 (by decide) (by decide) (by decide) w) (fun w => rapply_c a h1 _ _ _ p00 p01 p02 w) q0 (fun w => rapply_c t h 0 1 0 (by decide) (by decide) (by decide) w) (fun w => rapply_c b h2 0 1 0 (by decide) (by decide) (by decide) w) (fun w => rapply_c a h1 _ _ _ p10 p11 p12 w) q1 (fun w => rapply_c t h 0 0 1 (by decide) (by decide) (by decide) w) (fun w => rapply_c b h2 0 0 1 (by decide) (by decide) (by decide) w) (fun w => rapply_c a h1 _ _ _ p20 p21 p22 w) q2
    · rw [show smB t a b = false from decide_eq_false (fun e => q1 e.2.1)]
      exact same3_1 t a b (fun i j => if i = 0 then ap t j 1 0 0 else if i = 1 then ap t j 0 1 0 else ap t j 0 0 1) (fun i j => if i = 0 then ap b j 1 0 0 else if i = 1 then ap b j 0 1 0 else ap b j 0 0 1) (fun i j => if i = 0 then ap a j (ap b 0 1 0 0) (ap b 1 1 0 0) (ap b 2 1 0 0) else if i = 1 then ap a j (ap b 0 0 1 0) (ap b 1 0 1 0) (ap b 2 0 1 0) else ap a j (ap b 0 0 0 1) (ap b 1 0 0 1) (ap b 2 0 0 1)) w (fun w => rapply_c t h 1 0 0 (by decide) (by decide) (by decide) w) (fun w => rapply_c b h2 1 0 0 (by decide) (by decide) (by decide) w) (fun w => rapply_c a h1 _ _ _ p00 p01 p02 w) q0 (fun w => rapply_c t h 0 1 0 (by decide) (by decide) (by decide) w) (fun w => rapply_c b h2 0 1 0 (by decide) (by decide) (by decide) w) (fun w => rapply_c a h1 _ _ _ p10 p11 p12 w) q1
  · rw [show smB t a b = false from decide_eq_false (fun e => q0 e.1)]
    exact same3_0 t a b (fun i j => if i = 0 then ap t j 1 0 0 else if i = 1 then ap t j 0 1 0 else ap t j 0 0 1) (fun i j => if i = 0 then ap b j 1 0 0 else if i = 1 then ap b j 0 1 0 else ap b j 0 0 1) (fun i j => if i = 0 then ap a j (ap b 0 1 0 0) (ap b 1 1 0 0) (ap b 2 1 0 0) else if i = 1 then ap a j (ap b 0 0 1 0) (ap b 1 0 1 0) (ap b 2 0 1 0) else ap a j (ap b 0 0 0 1) (ap b 1 0 0 1) (ap b 2 0 0 1)) w (fun w => rapply_c t h 1 0 0 (by decide) (by decide) (by decide) w) (fun w => rapply_c b h2 1 0 0 (by decide) (by decide) (by decide) w) (fun w => rapply_c a h1 _ _ _ p00 p01 p02 w) q0

def rcmpFrom (a b : Nat) : Nat → Nat → Int
  | 0, _ => 0
  | d + 1, k => if smB k a b = true then k else rcmpFrom a b d (k + 1)
def rcmp (a b : Nat) : Int := rcmpFrom a b 24 0
def rinvFrom (n : Nat) : Nat → Nat → Int
  | 0, _ => 0
  | d + 1, k => if rcmp k n = 0 then k else rinvFrom n d (k + 1)
def rinv (n : Nat) : Int := rinvFrom n 24 0
def rdirFrom (a b c : Int) : Nat → Nat → Int
  | 0, _ => 0
  | d + 1, k => if unT k 0 = a ∧ unT k 1 = b ∧ unT k 2 = c then k else rdirFrom a b c d (k + 1)
def rdir (n d : Nat) : Int := rdirFrom (ap n 0 (unT d 0) (unT d 1) (unT d 2)) (ap n 1 (unT d 0) (unT d 1) (unT d 2)) (ap n 2 (unT d 0) (unT d 1) (unT d 2)) 6 0

set_option maxHeartbeats 2000000 in
theorem rcompose_c (a b : Nat) (h1 : a < 24) (h2 : b < 24) (w : World) :
    Calls Tryd.prog 38 #[.int .i64 a, .int .i64 b] w fun e w' => e = .returned (.int .i64 (rcmp a b)) ∧ Below w.heap.size w w' := by
  go_enter Tryd.func38, Tryd.ntmps38
  go_wp2_with fail
  go_loopw [5] (fun k wr => ∃ m : Nat, m ≤ 24 ∧ k = .int .i64 m ∧ rcmp a b = rcmpFrom a b (24 - m) m ∧ Below w.heap.size w wr) (fun k _ => (24 - intOf k).toNat)
  case atStart => exact ⟨0, by omega, rfl, rfl, Below.refl _ _⟩
  case round =>
    obtain ⟨m, hm, rfl, hf, bw⟩ := hrel
    have zw := bw.size
    by_cases hlt : m < 24
    · have A := Lib.hid (fun w => rsame_c m a b hlt h1 h2 w)
      cases hq : smB m a b
      · have HF : rcmp a b = rcmpFrom a b (24 - (m + 1)) (m + 1) := by rw [hf, show 24 - m = (24 - (m + 1)) + 1 from by omega, rcmpFrom, if_neg (by rw [hq]; decide)]
        rw [hq] at A
        have HH := Lib.hid HF
        clear hq hf HF
        go_wp2_with (go_at_call 64; (with_reducible refine (A.out _).mono ?_); rintro e t2 ⟨rfl, y2⟩)
        go_roundw
        case rel => exact ⟨m + 1, by omega, by go_num, HH.out, by (repeat' (first | (with_reducible assumption) | (with_reducible exact Below.refl _ _) | (with_reducible refine Below.alloc ?_ ?_ _) | (with_reducible refine Below.drew ?_) | (with_reducible refine Below.setCell ?_ ?_ _) | (with_reducible refine b_step ?_ (by assumption) ?_) | omega | (simp only [World.size_alloc, World.size_setCell, World.size_drew]; omega)))⟩
        case measure => simp [intOf]; omega
      · have HF : rcmp a b = m := by rw [hf, show 24 - m = (23 - m) + 1 from by omega, rcmpFrom, if_pos hq]
        rw [hq] at A
        have HH := Lib.hid HF
        clear hq hf HF
        go_wp2_with (go_at_call 64; (with_reducible refine (A.out _).mono ?_); rintro e t2 ⟨rfl, y2⟩)
        go_ret
        exact ⟨ret_int _ _ HH.out.symm, by (repeat' (first | (with_reducible assumption) | (with_reducible exact Below.refl _ _) | (with_reducible refine Below.alloc ?_ ?_ _) | (with_reducible refine Below.drew ?_) | (with_reducible refine Below.setCell ?_ ?_ _) | (with_reducible refine b_step ?_ (by assumption) ?_) | omega | (simp only [World.size_alloc, World.size_setCell, World.size_drew]; omega)))⟩
    · have HF : rcmp a b = 0 := by rw [hf, show 24 - m = 0 from by omega, rcmpFrom]
      have HH := Lib.hid HF
      clear hf HF
      go_wp2
      go_ret
      exact ⟨ret_int _ _ HH.out.symm, bw⟩

set_option maxHeartbeats 2000000 in
theorem rinvert_c (n : Nat) (h : n < 24) (w : World) :
    Calls Tryd.prog 39 #[.int .i64 n] w fun e w' => e = .returned (.int .i64 (rinv n)) ∧ Below w.heap.size w w' := by
  go_enter Tryd.func39, Tryd.ntmps39
  go_wp2_with fail
  go_loopw [3] (fun k wr => ∃ m : Nat, m ≤ 24 ∧ k = .int .i64 m ∧ rinv n = rinvFrom n (24 - m) m ∧ Below w.heap.size w wr) (fun k _ => (24 - intOf k).toNat)
  case atStart => exact ⟨0, by omega, rfl, rfl, Below.refl _ _⟩
  case round =>
    obtain ⟨m, hm, rfl, hf, bw⟩ := hrel
    have zw := bw.size
    by_cases hlt : m < 24
    · have A := Lib.hid (fun w => rcompose_c m n hlt h w)
      by_cases hq : rcmp m n = 0
      · have he : (rcmp m n == 0) = true := by rw [hq]; rfl
        have HF : rinv n = m := by rw [hf, show 24 - m = (23 - m) + 1 from by omega, rinvFrom, if_pos hq]
        have HH := Lib.hid HF
        clear hq hf HF
        go_wp2_with (go_at_call 38; (with_reducible refine (A.out _).mono ?_); rintro e t2 ⟨rfl, y2⟩)
        go_ret
        exact ⟨ret_int _ _ HH.out.symm, by (repeat' (first | (with_reducible assumption) | (with_reducible exact Below.refl _ _) | (with_reducible refine Below.alloc ?_ ?_ _) | (with_reducible refine Below.drew ?_) | (with_reducible refine Below.setCell ?_ ?_ _) | (with_reducible refine b_step ?_ (by assumption) ?_) | omega | (simp only [World.size_alloc, World.size_setCell, World.size_drew]; omega)))⟩
      · have he : (rcmp m n == 0) = false := by simpa using hq
        have HF : rinv n = rinvFrom n (24 - (m + 1)) (m + 1) := by rw [hf, show 24 - m = (24 - (m + 1)) + 1 from by omega, rinvFrom, if_neg hq]
        have HH := Lib.hid HF
        clear hq hf HF
        go_wp2_with (go_at_call 38; (with_reducible refine (A.out _).mono ?_); rintro e t2 ⟨rfl, y2⟩)
        go_roundw
        case rel => exact ⟨m + 1, by omega, by go_num, HH.out, by (repeat' (first | (with_reducible assumption) | (with_reducible exact Below.refl _ _) | (with_reducible refine Below.alloc ?_ ?_ _) | (with_reducible refine Below.drew ?_) | (with_reducible refine Below.setCell ?_ ?_ _) | (with_reducible refine b_step ?_ (by assumption) ?_) | omega | (simp only [World.size_alloc, World.size_setCell, World.size_drew]; omega)))⟩
        case measure => simp [intOf]; omega
    · have HF : rinv n = 0 := by rw [hf, show 24 - m = 0 from by omega, rinvFrom]
      have HH := Lib.hid HF
      clear hf HF
      go_wp2
      go_ret
      exact ⟨ret_int _ _ HH.out.symm, bw⟩

set_option maxHeartbeats 4000000 in
theorem rdirection_aux (n d : Nat) (u0 u1 u2 a b c : Int) (w : World)
    (Hd : ∀ w, Calls Tryd.prog 34 #[.int .i64 d] w fun e w' => e = .returned (vV u0 u1 u2) ∧ Below w.heap.size w w')
    (Ha : ∀ w, Calls Tryd.prog 37 #[.int .i64 n, vV u0 u1 u2] w fun e w' => e = .returned (vV a b c) ∧ Below w.heap.size w w') :
    Calls Tryd.prog 40 #[.int .i64 n, .int .i64 d] w fun e w' => e = .returned (.int .i64 (rdirFrom a b c 6 0)) ∧ Below w.heap.size w w' := by
  have D := Lib.hid Hd; clear Hd
  have P := Lib.hid Ha; clear Ha
  go_enter Tryd.func40, Tryd.ntmps40
  go_wp2_with fail
  go_loopw [5] (fun k wr => ∃ m : Nat, m ≤ 6 ∧ k = .int .i64 m ∧ rdirFrom a b c 6 0 = rdirFrom a b c (6 - m) m ∧ Below w.heap.size w wr) (fun k _ => (6 - intOf k).toNat)
  case atStart => exact ⟨0, by omega, rfl, rfl, Below.refl _ _⟩
  case round =>
    obtain ⟨m, hm, rfl, hf, bw⟩ := hrel
    have zw := bw.size
    by_cases hlt : m < 6
    · have A := Lib.hid (fun w => unit_c m hlt w)
      by_cases hq : unT m 0 = a ∧ unT m 1 = b ∧ unT m 2 = c
      · have he : ∀ w, (binOp .eql 23 (vV (unT m 0) (unT m 1) (unT m 2)) (vV a b c)).run Tryd.prog w = .ok (.bool true) w := fun w => by rw [eql_V, decide_eq_true hq]
        have HF : rdirFrom a b c 6 0 = m := by rw [hf, show 6 - m = (5 - m) + 1 from by omega, rdirFrom, if_pos hq]
        have HH := Lib.hid HF
        clear hq hf HF
        go_wp2_with fail
        (with_reducible refine (A.out _).mono ?_); rintro e t2 ⟨rfl, y2⟩
        go_wp2_with fail
        (with_reducible refine (D.out _).mono ?_); rintro e t3 ⟨rfl, y3⟩
        go_wp2_with fail
        (with_reducible refine (P.out _).mono ?_); rintro e t4 ⟨rfl, y4⟩
        have s2 := y2.size
        have s3 := y3.size
        go_wp2
        go_ret
        exact ⟨ret_int _ _ HH.out.symm, by (repeat' (first | (with_reducible assumption) | (with_reducible exact Below.refl _ _) | (with_reducible refine Below.alloc ?_ ?_ _) | (with_reducible refine Below.drew ?_) | (with_reducible refine Below.setCell ?_ ?_ _) | (with_reducible refine b_step ?_ (by assumption) ?_) | omega | (simp only [World.size_alloc, World.size_setCell, World.size_drew]; omega)))⟩
      · have he : ∀ w, (binOp .eql 23 (vV (unT m 0) (unT m 1) (unT m 2)) (vV a b c)).run Tryd.prog w = .ok (.bool false) w := fun w => by rw [eql_V, decide_eq_false hq]
        have HF : rdirFrom a b c 6 0 = rdirFrom a b c (6 - (m + 1)) (m + 1) := by rw [hf, show 6 - m = (6 - (m + 1)) + 1 from by omega, rdirFrom, if_neg hq]
        have HH := Lib.hid HF
        clear hq hf HF
        go_wp2_with fail
        (with_reducible refine (A.out _).mono ?_); rintro e t2 ⟨rfl, y2⟩
        go_wp2_with fail
        (with_reducible refine (D.out _).mono ?_); rintro e t3 ⟨rfl, y3⟩
        go_wp2_with fail
        (with_reducible refine (P.out _).mono ?_); rintro e t4 ⟨rfl, y4⟩
        have s2 := y2.size
        have s3 := y3.size
        go_wp2
        go_roundw
        case rel => exact ⟨m + 1, by omega, by go_num, HH.out, by (repeat' (first | (with_reducible assumption) | (with_reducible exact Below.refl _ _) | (with_reducible refine Below.alloc ?_ ?_ _) | (with_reducible refine Below.drew ?_) | (with_reducible refine Below.setCell ?_ ?_ _) | (with_reducible refine b_step ?_ (by assumption) ?_) | omega | (simp only [World.size_alloc, World.size_setCell, World.size_drew]; omega)))⟩
        case measure => simp [intOf]; omega
    · have HF : rdirFrom a b c 6 0 = 0 := by rw [hf, show 6 - m = 0 from by omega, rdirFrom]
      have HH := Lib.hid HF
      clear hf HF
      go_wp2
      go_ret
      exact ⟨ret_int _ _ HH.out.symm, bw⟩
theorem unT_bd (d : Nat) (h : d < 6) (i : Nat) (hi : i < 3) : -1000000000 ≤ unT d i ∧ unT d i ≤ 1000000000 := by
  have : d = 0 ∨ d = 1 ∨ d = 2 ∨ d = 3 ∨ d = 4 ∨ d = 5 := by omega
  have : i = 0 ∨ i = 1 ∨ i = 2 := by omega
  rcases this with rfl | rfl | rfl <;> rcases ‹d = 0 ∨ d = 1 ∨ d = 2 ∨ d = 3 ∨ d = 4 ∨ d = 5› with rfl | rfl | rfl | rfl | rfl | rfl <;> decide
theorem rdirection_c (n d : Nat) (h : n < 24) (hd : d < 6) (w : World) :
    Calls Tryd.prog 40 #[.int .i64 n, .int .i64 d] w fun e w' => e = .returned (.int .i64 (rdir n d)) ∧ Below w.heap.size w w' :=
  rdirection_aux n d _ _ _ _ _ _ w (fun w => unit_c d hd w) (fun w => rapply_c n h _ _ _ (unT_bd d hd 0 (by decide)) (unT_bd d hd 1 (by decide)) (unT_bd d hd 2 (by decide)) w)
end Go.Proofs.YtibncdefhphggaaDoor
