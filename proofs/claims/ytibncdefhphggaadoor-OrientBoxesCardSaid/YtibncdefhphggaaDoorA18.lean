/- Point, Join, Undo, Place in one contract each. -/
import Derived.Test.YtibncdefhphggaaDoorA17
namespace Go.Proofs.YtibncdefhphggaaDoor
open Go.RowKit
set_option linter.unusedSimpArgs false
set_option linter.unusedVariables false
attribute [local go_sem ↓] Go.wp_at_zero Go.wp_at_succ

theorem inv_nat : ∀ n : Nat, n < 24 → 0 ≤ invT n ∧ invT n < 24 := by decide +kernel
theorem ext_bd {n i : Nat} (h : n < 24) (hi : i < 3) {x y z B : Int} (h0 : -B ≤ x ∧ x ≤ B) (h1 : -B ≤ y ∧ y ≤ B) (h2 : -B ≤ z ∧ z ≤ B) : 0 ≤ ext n i x y z ∧ ext n i x y z ≤ B := by
  have a : ap n i 0 0 0 = 0 := by simp [ap, pick]
  have b := ap_bd h hi h0 h1 h2
  unfold ext; rw [a]; omega

def undoV (n : Int) (s0 s1 s2 : Int) : Value :=
  if isB n = true then
    if nearB s0 s1 s2 = true then .tuple #[vP (invT n.toNat) (-ap (invT n.toNat).toNat 0 s0 s1 s2) (-ap (invT n.toNat).toNat 1 s0 s1 s2) (-ap (invT n.toNat).toNat 2 s0 s1 s2), .int .i64 0]
    else .tuple #[vP 0 0 0 0, .int .i64 6]
  else .tuple #[vP 0 0 0 0, .int .i64 1]
theorem Undo_c (n s0 s1 s2 : Int) (w : World) : Calls Tryd.prog 41 #[vP n s0 s1 s2] w fun e w' => e = .returned (undoV n s0 s1 s2) ∧ Below w.heap.size w w' := by
  unfold undoV
  cases hn : isB n
  · rw [if_neg (by decide)]; exact Undo_no1 n s0 s1 s2 hn w
  rw [if_pos rfl]
  cases hs : nearB s0 s1 s2
  · rw [if_neg (by decide)]; exact Undo_no2 n s0 s1 s2 hn hs w
  rw [if_pos rfl]
  obtain ⟨m, rfl⟩ : ∃ m : Nat, n = m := ⟨n.toNat, by have := isB_t.1 hn; omega⟩
  have hm : m < 24 := isB_nat hn
  have h1 := nearB_t.1 hs
  have hi := inv_nat m hm
  rw [Int.toNat_natCast]
  obtain ⟨k, hk⟩ : ∃ k : Nat, invT m = k := ⟨(invT m).toNat, by omega⟩
  have hk' : k < 24 := by omega
  have b0 := ap_bd (i := 0) hk' (by decide) h1.1 h1.2.1 h1.2.2
  have b1 := ap_bd (i := 1) hk' (by decide) h1.1 h1.2.1 h1.2.2
  have b2 := ap_bd (i := 2) hk' (by decide) h1.1 h1.2.1 h1.2.2
  have I := fun w => invert_c m hm w
  rw [hk] at I ⊢
  rw [Int.toNat_natCast]
  exact Undo_main m k s0 s1 s2 _ _ _ hn hs w I (fun w => apply_c k hk' s0 s1 s2 (by omega) (by omega) (by omega) w) (fun w => negative_c _ _ _ w (by omega) (by omega) (by omega))

def pointV (n : Int) (s0 s1 s2 x y z : Int) : Value :=
  if isB n = true then
    if (nearB s0 s1 s2 && nearB x y z) = true then
      if nearB (ap n.toNat 0 x y z + s0) (ap n.toNat 1 x y z + s1) (ap n.toNat 2 x y z + s2) = true then .tuple #[vV (ap n.toNat 0 x y z + s0) (ap n.toNat 1 x y z + s1) (ap n.toNat 2 x y z + s2), .int .i64 0] else .tuple #[vV 0 0 0, .int .i64 6]
    else .tuple #[vV 0 0 0, .int .i64 6]
  else .tuple #[vV 0 0 0, .int .i64 1]
theorem result_t {x y z : Int} (h : nearB x y z = true) (w : World) : Calls Tryd.prog 65 #[vV x y z] w fun e w' => e = .returned (.tuple #[vV x y z, .int .i64 0]) ∧ Below w.heap.size w w' := by
  have := result_c x y z w
  rw [if_pos h] at this
  exact this
theorem result_f {x y z : Int} (h : nearB x y z = false) (w : World) : Calls Tryd.prog 65 #[vV x y z] w fun e w' => e = .returned (.tuple #[vV 0 0 0, .int .i64 6]) ∧ Below w.heap.size w w' := by
  have := result_c x y z w
  rw [if_neg (by rw [h]; decide)] at this
  exact this
theorem Point_c (n s0 s1 s2 x y z : Int) (w : World) : Calls Tryd.prog 43 #[vP n s0 s1 s2, vV x y z] w fun e w' => e = .returned (pointV n s0 s1 s2 x y z) ∧ Below w.heap.size w w' := by
  unfold pointV
  cases hn : isB n
  · rw [if_neg (by decide)]; exact Point_no1 n s0 s1 s2 x y z hn w
  rw [if_pos rfl]
  cases hs : (nearB s0 s1 s2 && nearB x y z)
  · rw [if_neg (by decide)]; exact Point_no2 n s0 s1 s2 x y z hn hs w
  rw [if_pos rfl]
  obtain ⟨m, rfl⟩ : ∃ m : Nat, n = m := ⟨n.toNat, by have := isB_t.1 hn; omega⟩
  have hm : m < 24 := isB_nat hn
  have h1 := nearB_t.1 (Bool.and_eq_true_iff.1 hs).1
  have h2 := nearB_t.1 (Bool.and_eq_true_iff.1 hs).2
  rw [Int.toNat_natCast]
  have b0 := ap_bd (i := 0) hm (by decide) h2.1 h2.2.1 h2.2.2
  have b1 := ap_bd (i := 1) hm (by decide) h2.1 h2.2.1 h2.2.2
  have b2 := ap_bd (i := 2) hm (by decide) h2.1 h2.2.1 h2.2.2
  have A := fun w => apply_c m hm x y z (by omega) (by omega) (by omega) w
  have D := fun w => add_c (ap m 0 x y z) (ap m 1 x y z) (ap m 2 x y z) s0 s1 s2 w (by omega) (by omega) (by omega) (by omega) (by omega) (by omega)
  cases hr : nearB (ap m 0 x y z + s0) (ap m 1 x y z + s1) (ap m 2 x y z + s2)
  · rw [if_neg (by decide)]
    exact Point_main m s0 s1 s2 x y z _ _ _ _ _ _ _ hn hs w A D (fun w => result_f hr w)
  · rw [if_pos rfl]
    exact Point_main m s0 s1 s2 x y z _ _ _ _ _ _ _ hn hs w A D (fun w => result_t hr w)

def joinV (n : Int) (s0 s1 s2 m x y z : Int) : Value :=
  if (isB n && isB m) = true then
    if (nearB s0 s1 s2 && nearB x y z) = true then
      if nearB (ap n.toNat 0 x y z + s0) (ap n.toNat 1 x y z + s1) (ap n.toNat 2 x y z + s2) = true then .tuple #[vP (cmpT n.toNat m.toNat) (ap n.toNat 0 x y z + s0) (ap n.toNat 1 x y z + s1) (ap n.toNat 2 x y z + s2), .int .i64 0] else .tuple #[vP 0 0 0 0, .int .i64 6]
    else .tuple #[vP 0 0 0 0, .int .i64 6]
  else .tuple #[vP 0 0 0 0, .int .i64 1]
theorem Join_c (n s0 s1 s2 m x y z : Int) (w : World) : Calls Tryd.prog 42 #[vP n s0 s1 s2, vP m x y z] w fun e w' => e = .returned (joinV n s0 s1 s2 m x y z) ∧ Below w.heap.size w w' := by
  unfold joinV
  cases hn : (isB n && isB m)
  · rw [if_neg (by decide)]; exact Join_no1 n s0 s1 s2 m x y z hn w
  rw [if_pos rfl]
  cases hs : (nearB s0 s1 s2 && nearB x y z)
  · rw [if_neg (by decide)]; exact Join_no2 n s0 s1 s2 m x y z hn hs w
  rw [if_pos rfl]
  have hn1 := (Bool.and_eq_true_iff.1 hn).1
  have hn2 := (Bool.and_eq_true_iff.1 hn).2
  obtain ⟨k, rfl⟩ : ∃ m : Nat, n = m := ⟨n.toNat, by have := isB_t.1 hn1; omega⟩
  obtain ⟨l, rfl⟩ : ∃ l : Nat, m = l := ⟨m.toNat, by have := isB_t.1 hn2; omega⟩
  have hm : k < 24 := isB_nat hn1
  have hl : l < 24 := isB_nat hn2
  have h1 := nearB_t.1 (Bool.and_eq_true_iff.1 hs).1
  have h2 := nearB_t.1 (Bool.and_eq_true_iff.1 hs).2
  rw [Int.toNat_natCast, Int.toNat_natCast]
  have b0 := ap_bd (i := 0) hm (by decide) h2.1 h2.2.1 h2.2.2
  have b1 := ap_bd (i := 1) hm (by decide) h2.1 h2.2.1 h2.2.2
  have b2 := ap_bd (i := 2) hm (by decide) h2.1 h2.2.1 h2.2.2
  have A := fun w => apply_c k hm x y z (by omega) (by omega) (by omega) w
  have D := fun w => add_c (ap k 0 x y z) (ap k 1 x y z) (ap k 2 x y z) s0 s1 s2 w (by omega) (by omega) (by omega) (by omega) (by omega) (by omega)
  have C := fun w => compose_c k l hm hl w
  cases hr : nearB (ap k 0 x y z + s0) (ap k 1 x y z + s1) (ap k 2 x y z + s2)
  · rw [if_neg (by decide)]
    exact Join_main _ k l s0 s1 s2 x y z _ _ _ _ _ _ 6 _ hn hs w (fun h => absurd h (by decide)) (fun _ => rfl) A D (fun w => result_f hr w) C
  · rw [if_pos rfl]
    exact Join_main _ k l s0 s1 s2 x y z _ _ _ _ _ _ 0 _ hn hs w (fun _ => rfl) (fun h => absurd rfl h) A D (fun w => result_t hr w) C

/-- The pose's shift that Place answers. -/
def plc (n i : Nat) (x y z a : Int) : Int := a + -min (ap n i 0 0 0) (ap n i x y z)
def placeV (n : Int) (x y z a0 a1 a2 : Int) : Value :=
  if isB n = true ∧ szB x y z = true then
    if nearB a0 a1 a2 = true ∧ (nearB (plc n.toNat 0 x y z a0) (plc n.toNat 1 x y z a1) (plc n.toNat 2 x y z a2) && nearB (a0 + ext n.toNat 0 x y z) (a1 + ext n.toNat 1 x y z) (a2 + ext n.toNat 2 x y z)) = true then
      .tuple #[vP n (plc n.toNat 0 x y z a0) (plc n.toNat 1 x y z a1) (plc n.toNat 2 x y z a2), .int .i64 0]
    else .tuple #[vP 0 0 0 0, .int .i64 6]
  else .tuple #[vP 0 0 0 0, .int .i64 1]
theorem Place_c (n x y z a0 a1 a2 : Int) (w : World) : Calls Tryd.prog 13 #[.int .i64 n, vV x y z, vV a0 a1 a2] w fun e w' => e = .returned (placeV n x y z a0 a1 a2) ∧ Below w.heap.size w w' := by
  unfold placeV
  cases hn : isB n
  · rw [if_neg (by simp)]; exact Place_no1 n x y z a0 a1 a2 hn w
  cases hz : szB x y z
  · rw [if_neg (by simp)]; exact Place_no2 n x y z a0 a1 a2 hn hz w
  rw [if_pos ⟨rfl, rfl⟩]
  cases ha : nearB a0 a1 a2
  · rw [if_neg (by simp)]; exact Place_no3 n x y z a0 a1 a2 hn hz ha w
  obtain ⟨m, rfl⟩ : ∃ m : Nat, n = m := ⟨n.toNat, by have := isB_t.1 hn; omega⟩
  have hm : m < 24 := isB_nat hn
  have h1 := szB_t.1 hz
  have h2 := nearB_t.1 ha
  rw [Int.toNat_natCast]
  have K := fun w => image_c m hm 0 0 0 x y z (by omega) (by omega) (by omega) (by omega) (by omega) (by omega) w
  have l0 := loT_bd (i := 0) (B := 1000000) hm (by decide) (x := 0) (y := 0) (z := 0) (p := x) (q := y) (r := z) (by omega) (by omega) (by omega) (by omega) (by omega) (by omega)
  have l1 := loT_bd (i := 1) (B := 1000000) hm (by decide) (x := 0) (y := 0) (z := 0) (p := x) (q := y) (r := z) (by omega) (by omega) (by omega) (by omega) (by omega) (by omega)
  have l2 := loT_bd (i := 2) (B := 1000000) hm (by decide) (x := 0) (y := 0) (z := 0) (p := x) (q := y) (r := z) (by omega) (by omega) (by omega) (by omega) (by omega) (by omega)
  have e0 := ext_bd (i := 0) (B := 1000000) hm (by decide) (x := x) (y := y) (z := z) (by omega) (by omega) (by omega)
  have e1 := ext_bd (i := 1) (B := 1000000) hm (by decide) (x := x) (y := y) (z := z) (by omega) (by omega) (by omega)
  have e2 := ext_bd (i := 2) (B := 1000000) hm (by decide) (x := x) (y := y) (z := z) (by omega) (by omega) (by omega)
  refine Place_main _ _ m x y z a0 a1 a2 (loT m 0 0 0 0 x y z) (loT m 1 0 0 0 x y z) (loT m 2 0 0 0 x y z) (hiT m 0 0 0 0 x y z) (hiT m 1 0 0 0 x y z) (hiT m 2 0 0 0 x y z) (ext m 0 x y z) (ext m 1 x y z) (ext m 2 x y z) hn hz ha w ?_ ?_ rfl K
    (fun w => negative_c _ _ _ w (by omega) (by omega) (by omega)) (fun w => add_c _ _ _ _ _ _ w (by omega) (by omega) (by omega) (by omega) (by omega) (by omega))
    (fun w => turned_c m hm x y z (by omega) (by omega) (by omega) w) (fun w => add_c _ _ _ _ _ _ w (by omega) (by omega) (by omega) (by omega) (by omega) (by omega))
  · intro ht; exact if_pos ⟨rfl, ht⟩
  · intro ht; exact if_neg (fun h => by have := h.2; unfold loT at ht; unfold plc at this; rw [ht] at this; exact absurd this (by decide))
end Go.Proofs.YtibncdefhphggaaDoor
