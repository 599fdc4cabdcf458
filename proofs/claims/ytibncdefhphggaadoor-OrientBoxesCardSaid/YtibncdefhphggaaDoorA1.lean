/- Leaf contracts of the package orient: arrays and vectors. -/
import Derived.Test.YtibncdefhphggaaDoorB
import Derived.Test.YtibncdefhphggaaDoorH
namespace Go.Proofs.YtibncdefhphggaaDoor
open Go.RowKit

theorem m_max2 (k k' : IntKind) (x y : Int) : Builtin.max2 (.int k x) (.int k' y) = pure (.int k (max x y)) := by
  have : (if x < y then y else x) = max x y := by split <;> omega
  simp only [Builtin.max2, gt_iff_lt, this]
theorem m_min2 (k k' : IntKind) (x y : Int) : Builtin.min2 (.int k x) (.int k' y) = pure (.int k (min x y)) := by
  have : (if y < x then y else x) = min x y := by split <;> omega
  simp only [Builtin.min2, this]
theorem m_max (ats : Array TypeId) (ty : TypeId) (a b : Value) : Builtin.max_ ats ty #[a, b] = (Builtin.max2 a b >>= fun s => pure s) := by simp only [Builtin.max_, List.foldlM_cons, List.foldlM_nil]
theorem m_min (ats : Array TypeId) (ty : TypeId) (a b : Value) : Builtin.min_ ats ty #[a, b] = (Builtin.min2 a b >>= fun s => pure s) := by simp only [Builtin.min_, List.foldlM_cons, List.foldlM_nil]

set_option maxHeartbeats 400000 in
theorem array_c (x y z : Int) (w : World) :
    Calls Tryd.prog 66 #[vV x y z] w fun e w' => e = .returned (vV x y z) ∧ Below w.heap.size w w' := by
  go_enter Tryd.func66, Tryd.ntmps66
  go_wp2
  go_returns
  exact ⟨rfl, by go_grown⟩

set_option maxHeartbeats 400000 in
theorem vec_c (x y z : Int) (w : World) :
    Calls Tryd.prog 70 #[vV x y z] w fun e w' => e = .returned (vV x y z) ∧ Below w.heap.size w w' := by
  go_enter Tryd.func70, Tryd.ntmps70
  go_wp2
  go_returns
  exact ⟨rfl, by go_grown⟩

set_option maxHeartbeats 400000 in
theorem add_c (x y z a b c : Int) (w : World) (h0 : -1000000000 ≤ x ∧ x ≤ 1000000000) (h1 : -1000000000 ≤ y ∧ y ≤ 1000000000) (h2 : -1000000000 ≤ z ∧ z ≤ 1000000000) (h3 : -1000000000 ≤ a ∧ a ≤ 1000000000) (h4 : -1000000000 ≤ b ∧ b ≤ 1000000000) (h5 : -1000000000 ≤ c ∧ c ≤ 1000000000) :
    Calls Tryd.prog 50 #[vV x y z, vV a b c] w fun e w' => e = .returned (vV (x + a) (y + b) (z + c)) ∧ Below w.heap.size w w' := by
  go_enter Tryd.func50, Tryd.ntmps50
  go_wp2
  go_returns
  exact ⟨rfl, by go_grown⟩

set_option maxHeartbeats 400000 in
theorem negative_c (x y z : Int) (w : World) (h0 : -1000000000 ≤ x ∧ x ≤ 1000000000) (h1 : -1000000000 ≤ y ∧ y ≤ 1000000000) (h2 : -1000000000 ≤ z ∧ z ≤ 1000000000) :
    Calls Tryd.prog 53 #[vV x y z] w fun e w' => e = .returned (vV (-x) (-y) (-z)) ∧ Below w.heap.size w w' := by
  go_enter Tryd.func53, Tryd.ntmps53
  go_wp2
  go_returns
  exact ⟨rfl, by go_grown⟩

end Go.Proofs.YtibncdefhphggaaDoor
