/- The reference's Size, Place, Undo, Join in one contract each, with the values of the code under proof. -/
import Derived.Test.YtibncdefhphggaaDoorB10
import Derived.Test.YtibncdefhphggaaDoorA18
import Derived.Test.YtibncdefhphggaaDoorL1
namespace Go.Proofs.YtibncdefhphggaaDoor
open Go.RowKit
set_option linter.unusedVariables false

theorem cmp_ref : ∀ a, a < 24 → ∀ b, b < 24 → rcmp a b = cmpT a b := by decide +kernel
theorem inv_ref : ∀ a, a < 24 → rinv a = invT a := by decide +kernel
theorem dir_ref : ∀ a, a < 24 → ∀ d, d < 6 → rdir a d = dirT a d := by decide +kernel
theorem ap0 (n i : Nat) : ap n i 0 0 0 = 0 := by simp [ap, pick]

theorem rsize_c (n : Nat) (h : n < 24) (x y z : Int) (h0 : -1000000 ≤ x ∧ x ≤ 1000000) (h1 : -1000000 ≤ y ∧ y ≤ 1000000) (h2 : -1000000 ≤ z ∧ z ≤ 1000000) (w : World) :
    Calls Tryd.prog 21 #[.int .i64 n, vV x y z] w fun e w' => e = .returned (vV (ext n 0 x y z) (ext n 1 x y z) (ext n 2 x y z)) ∧ Below w.heap.size w w' := by
  have K := fun w => rbox_c n h 0 0 0 0 0 0 x y z (by decide) (by decide) (by decide) h0 h1 h2 (by decide) (by decide) (by decide) w
  unfold vImg at K
  simp only [Int.add_zero] at K
  have p0 := ap_bd (i := 0) h (by decide) h0 h1 h2
  have p1 := ap_bd (i := 1) h (by decide) h0 h1 h2
  have p2 := ap_bd (i := 2) h (by decide) h0 h1 h2
  have z0 := ap0 n 0
  have z1 := ap0 n 1
  have z2 := ap0 n 2
  exact rsize_aux n x y z _ _ _ _ _ _ w K (fun w => minus_c _ _ _ _ _ _ w (by omega) (by omega) (by omega) (by omega) (by omega) (by omega))

theorem rplace_c (n : Nat) (h : n < 24) (x y z a0 a1 a2 : Int) (h0 : -1000000 ≤ x ∧ x ≤ 1000000) (h1 : -1000000 ≤ y ∧ y ≤ 1000000) (h2 : -1000000 ≤ z ∧ z ≤ 1000000) (g0 : -1000000 ≤ a0 ∧ a0 ≤ 1000000) (g1 : -1000000 ≤ a1 ∧ a1 ≤ 1000000) (g2 : -1000000 ≤ a2 ∧ a2 ≤ 1000000) (w : World) :
    Calls Tryd.prog 23 #[.int .i64 n, vV x y z, vV a0 a1 a2] w fun e w' => e = .returned (vP n (plc n 0 x y z a0) (plc n 1 x y z a1) (plc n 2 x y z a2)) ∧ Below w.heap.size w w' := by
  have K := fun w => rbox_c n h 0 0 0 0 0 0 x y z (by decide) (by decide) (by decide) h0 h1 h2 (by decide) (by decide) (by decide) w
  unfold vImg at K
  simp only [Int.add_zero] at K
  have p0 := ap_bd (i := 0) h (by decide) h0 h1 h2
  have p1 := ap_bd (i := 1) h (by decide) h0 h1 h2
  have p2 := ap_bd (i := 2) h (by decide) h0 h1 h2
  have z0 := ap0 n 0
  have z1 := ap0 n 1
  have z2 := ap0 n 2
  have := rplace_aux n x y z a0 a1 a2 _ _ _ _ _ _ w K (fun w => minus_c _ _ _ _ _ _ w (by omega) (by omega) (by omega) (by omega) (by omega) (by omega))
  simp only [Int.sub_eq_add_neg] at this
  exact this

theorem rjoin_c (n m : Nat) (h : n < 24) (hm : m < 24) (s0 s1 s2 x y z : Int) (h0 : -1000000 ≤ x ∧ x ≤ 1000000) (h1 : -1000000 ≤ y ∧ y ≤ 1000000) (h2 : -1000000 ≤ z ∧ z ≤ 1000000) (g0 : -1000000 ≤ s0 ∧ s0 ≤ 1000000) (g1 : -1000000 ≤ s1 ∧ s1 ≤ 1000000) (g2 : -1000000 ≤ s2 ∧ s2 ≤ 1000000) (w : World) :
    Calls Tryd.prog 45 #[vP n s0 s1 s2, vP m x y z] w fun e w' => e = .returned (vP (cmpT n m) (ap n 0 x y z + s0) (ap n 1 x y z + s1) (ap n 2 x y z + s2)) ∧ Below w.heap.size w w' := by
  have C := fun w => rcompose_c n m h hm w
  rw [cmp_ref n h m hm] at C
  exact rjoin_aux n m s0 s1 s2 x y z _ _ _ _ w C (fun w => rpoint_c n h s0 s1 s2 x y z h0 h1 h2 g0 g1 g2 w)

theorem rundo_c (n : Nat) (h : n < 24) (s0 s1 s2 : Int) (g0 : -1000000 ≤ s0 ∧ s0 ≤ 1000000) (g1 : -1000000 ≤ s1 ∧ s1 ≤ 1000000) (g2 : -1000000 ≤ s2 ∧ s2 ≤ 1000000) (w : World) :
    Calls Tryd.prog 46 #[vP n s0 s1 s2] w fun e w' => e = .returned (vP (invT n) (-ap (invT n).toNat 0 s0 s1 s2) (-ap (invT n).toNat 1 s0 s1 s2) (-ap (invT n).toNat 2 s0 s1 s2)) ∧ Below w.heap.size w w' := by
  have hi := inv_nat n h
  obtain ⟨k, hk⟩ : ∃ k : Nat, invT n = k := ⟨(invT n).toNat, by omega⟩
  have hk' : k < 24 := by omega
  have I := fun w => rinvert_c n h w
  rw [inv_ref n h, hk] at I
  rw [hk, Int.toNat_natCast]
  have b0 := ap_bd (i := 0) hk' (by decide) g0 g1 g2
  have b1 := ap_bd (i := 1) hk' (by decide) g0 g1 g2
  have b2 := ap_bd (i := 2) hk' (by decide) g0 g1 g2
  exact rundo_aux n k s0 s1 s2 _ _ _ w I (fun w => rapply_c k hk' s0 s1 s2 (by omega) (by omega) (by omega) w) (fun w => neg_via_minus _ _ _ w (by omega) (by omega) (by omega))
theorem al_ref (bed : Int) (n : Nat) (h : n < 24) : ralB bed (ap n 2 0 0 1) = alB bed n := by
  have key : ∀ n, n < 24 → (dirT n 4 = 4 ↔ ap n 2 0 0 1 = 1) ∧ ((dirT n 4 = 4 ∨ dirT n 4 = 5) ↔ ap n 2 0 0 1 ≠ 0) := by decide +kernel
  obtain ⟨k1, k2⟩ := key n h
  unfold ralB alB
  by_cases b0 : bed = 0
  · rw [if_pos b0, if_pos b0]
  rw [if_neg b0, if_neg b0]
  by_cases b1 : bed = 1
  · rw [if_pos b1, if_pos b1]; exact decide_eq_decide.2 k2.symm
  rw [if_neg b1, if_neg b1]
  by_cases b2 : bed = 2
  · rw [if_pos b2, if_pos b2]; exact decide_eq_decide.2 k1.symm
  rw [if_neg b2, if_neg b2]
  by_cases b3 : bed = 3
  · rw [if_pos b3, if_pos b3]
    by_cases q : ap n 2 0 0 1 = 0
    · rw [decide_eq_true q, decide_eq_false (fun h => (k2.1 h) q)]; rfl
    · rw [decide_eq_false q, decide_eq_true (k2.2 q)]; rfl
  rw [if_neg b3, if_neg b3]
theorem kept_congr {p q : Nat → Bool} {k : Nat} (h : ∀ n, n < k → p n = q n) : kept p k = kept q k := by
  unfold kept
  rw [List.filter_congr (fun n hn => h n (List.mem_range.1 hn))]
end Go.Proofs.YtibncdefhphggaaDoor
