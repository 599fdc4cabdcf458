/- Box, Place, Point, Join and Undo, in one contract each. -/
import Derived.Test.YtibncdefhphggaaDoorA13
import Derived.Test.YtibncdefhphggaaDoorA15
import Derived.Test.YtibncdefhphggaaDoorA16
namespace Go.Proofs.YtibncdefhphggaaDoor
open Go.RowKit
set_option linter.unusedSimpArgs false
set_option linter.unusedVariables false
attribute [local go_sem ↓] Go.wp_at_zero Go.wp_at_succ

/-- The least and the greatest coordinate i of the image of a box. -/
def loT (n i : Nat) (x y z p q r : Int) : Int := min (ap n i x y z) (ap n i p q r)
def hiT (n i : Nat) (x y z p q r : Int) : Int := max (ap n i x y z) (ap n i p q r)

theorem loT_bd {n i : Nat} (h : n < 24) (hi : i < 3) {x y z p q r B : Int} (h0 : -B ≤ x ∧ x ≤ B) (h1 : -B ≤ y ∧ y ≤ B) (h2 : -B ≤ z ∧ z ≤ B) (h3 : -B ≤ p ∧ p ≤ B) (h4 : -B ≤ q ∧ q ≤ B) (h5 : -B ≤ r ∧ r ≤ B) : -B ≤ loT n i x y z p q r ∧ loT n i x y z p q r ≤ B := by
  have a := ap_bd h hi h0 h1 h2
  have b := ap_bd h hi h3 h4 h5
  unfold loT; omega
theorem hiT_bd {n i : Nat} (h : n < 24) (hi : i < 3) {x y z p q r B : Int} (h0 : -B ≤ x ∧ x ≤ B) (h1 : -B ≤ y ∧ y ≤ B) (h2 : -B ≤ z ∧ z ≤ B) (h3 : -B ≤ p ∧ p ≤ B) (h4 : -B ≤ q ∧ q ≤ B) (h5 : -B ≤ r ∧ r ≤ B) : -B ≤ hiT n i x y z p q r ∧ hiT n i x y z p q r ≤ B := by
  have a := ap_bd h hi h0 h1 h2
  have b := ap_bd h hi h3 h4 h5
  unfold hiT; omega

/-- What Box answers: the image and OK, or an error. -/
def boxV (n : Int) (s0 s1 s2 x y z p q r : Int) : Value :=
  if isB n = true ∧ (nearB x y z && nearB p q r) = true ∧ x < p ∧ y < q ∧ z < r then
    if nearB s0 s1 s2 = true ∧ (nearB (loT n.toNat 0 x y z p q r + s0) (loT n.toNat 1 x y z p q r + s1) (loT n.toNat 2 x y z p q r + s2) && nearB (hiT n.toNat 0 x y z p q r + s0) (hiT n.toNat 1 x y z p q r + s1) (hiT n.toNat 2 x y z p q r + s2)) = true then
      .tuple #[vB (loT n.toNat 0 x y z p q r + s0) (loT n.toNat 1 x y z p q r + s1) (loT n.toNat 2 x y z p q r + s2) (hiT n.toNat 0 x y z p q r + s0) (hiT n.toNat 1 x y z p q r + s1) (hiT n.toNat 2 x y z p q r + s2), .int .i64 0]
    else .tuple #[vB 0 0 0 0 0 0, .int .i64 6]
  else .tuple #[vB 0 0 0 0 0 0, .int .i64 1]

theorem Box_c (n s0 s1 s2 x y z p q r : Int) (w : World) :
    Calls Tryd.prog 11 #[vP n s0 s1 s2, vB x y z p q r] w fun e w' => e = .returned (boxV n s0 s1 s2 x y z p q r) ∧ Below w.heap.size w w' := by
  cases hn : isB n
  · rw [show boxV n s0 s1 s2 x y z p q r = .tuple #[vB 0 0 0 0 0 0, .int .i64 1] from if_neg (by rw [hn]; simp)]
    exact Box_no1 n s0 s1 s2 x y z p q r hn w
  cases hb : (nearB x y z && nearB p q r)
  · rw [show boxV n s0 s1 s2 x y z p q r = .tuple #[vB 0 0 0 0 0 0, .int .i64 1] from if_neg (by rw [hb]; simp)]
    exact Box_no2 n s0 s1 s2 x y z p q r hn hb w
  by_cases hlt : x < p ∧ y < q ∧ z < r
  rotate_left
  · rw [show boxV n s0 s1 s2 x y z p q r = .tuple #[vB 0 0 0 0 0 0, .int .i64 1] from if_neg (fun h => hlt h.2.2)]
    exact Box_no3 n s0 s1 s2 x y z p q r hn hb hlt w
  have hc : isB n = true ∧ (nearB x y z && nearB p q r) = true ∧ x < p ∧ y < q ∧ z < r := ⟨hn, hb, hlt⟩
  cases hs : nearB s0 s1 s2
  · rw [show boxV n s0 s1 s2 x y z p q r = .tuple #[vB 0 0 0 0 0 0, .int .i64 6] from by unfold boxV; rw [if_pos hc, if_neg (by rw [hs]; simp)]]
    exact Box_no4 n s0 s1 s2 x y z p q r hn hb hlt.1 hlt.2.1 hlt.2.2 hs w
  obtain ⟨m, rfl⟩ : ∃ m : Nat, n = m := ⟨n.toNat, by have := isB_t.1 hn; omega⟩
  have hm : m < 24 := by have := isB_t.1 hn; omega
  have h1 := nearB_t.1 (Bool.and_eq_true_iff.1 hb).1
  have h2 := nearB_t.1 (Bool.and_eq_true_iff.1 hb).2
  have K := fun w => image_c m hm x y z p q r (by omega) (by omega) (by omega) (by omega) (by omega) (by omega) w
  have B := Box_main m s0 s1 s2 x y z p q r (loT m 0 x y z p q r) (loT m 1 x y z p q r) (loT m 2 x y z p q r) (hiT m 0 x y z p q r) (hiT m 1 x y z p q r) (hiT m 2 x y z p q r) _ hn hb hlt.1 hlt.2.1 hlt.2.2 hs w K
    (loT_bd hm (by decide) h1.1 h1.2.1 h1.2.2 h2.1 h2.2.1 h2.2.2) (loT_bd hm (by decide) h1.1 h1.2.1 h1.2.2 h2.1 h2.2.1 h2.2.2) (loT_bd hm (by decide) h1.1 h1.2.1 h1.2.2 h2.1 h2.2.1 h2.2.2)
    (hiT_bd hm (by decide) h1.1 h1.2.1 h1.2.2 h2.1 h2.2.1 h2.2.2) (hiT_bd hm (by decide) h1.1 h1.2.1 h1.2.2 h2.1 h2.2.1 h2.2.2) (hiT_bd hm (by decide) h1.1 h1.2.1 h1.2.2 h2.1 h2.2.1 h2.2.2) rfl
  have e : boxV m s0 s1 s2 x y z p q r = if (nearB (loT m 0 x y z p q r + s0) (loT m 1 x y z p q r + s1) (loT m 2 x y z p q r + s2) && nearB (hiT m 0 x y z p q r + s0) (hiT m 1 x y z p q r + s1) (hiT m 2 x y z p q r + s2)) = true then .tuple #[vB (loT m 0 x y z p q r + s0) (loT m 1 x y z p q r + s1) (loT m 2 x y z p q r + s2) (hiT m 0 x y z p q r + s0) (hiT m 1 x y z p q r + s1) (hiT m 2 x y z p q r + s2), .int .i64 0] else .tuple #[vB 0 0 0 0 0 0, .int .i64 6] := by
    unfold boxV
    rw [if_pos hc, Int.toNat_natCast]
    simp only [hs, true_and]
  rw [e]
  exact B
end Go.Proofs.YtibncdefhphggaaDoor
