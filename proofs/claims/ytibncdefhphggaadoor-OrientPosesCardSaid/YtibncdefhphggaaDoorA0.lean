/- The contract of turnOf, turn by turn. -/
import Derived.Test.YtibncdefhphggaaDoorB
namespace Go.Proofs.YtibncdefhphggaaDoor
open Go.RowKit

set_option maxHeartbeats 4000000 in
theorem turnOf_c (n : Nat) (h : n < 24) (w : World) :
    Calls Tryd.prog 69 #[.int .i64 n] w fun e w' => e = .returned (.agg #[.int .i64 (axT n 0), .int .i64 (axT n 1), .int .i64 (axT n 2), .int .i64 (sgT n 0), .int .i64 (sgT n 1), .int .i64 (sgT n 2)]) ∧ Below w.heap.size w w' := by
  rcases cases24 h with rfl | rfl | rfl | rfl | rfl | rfl | rfl | rfl | rfl | rfl | rfl | rfl | rfl | rfl | rfl | rfl | rfl | rfl | rfl | rfl | rfl | rfl | rfl | rfl
  all_goals
    go_enter Tryd.func69, Tryd.ntmps69
    go_wp2
    go_returns
    exact ⟨rfl, by go_grown⟩
end Go.Proofs.YtibncdefhphggaaDoor
