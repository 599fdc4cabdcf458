/- What == and != between points, boxes and poses answer. -/
import Derived.Test.YtibncdefhphggaaDoorA1
namespace Go.Proofs.YtibncdefhphggaaDoor
open Go.RowKit
abbrev vB (x y z p q r : Int) : Value := .agg #[.int .i64 x, .int .i64 y, .int .i64 z, .int .i64 p, .int .i64 q, .int .i64 r]
abbrev vP (n x y z : Int) : Value := .agg #[.int .i64 n, .int .i64 x, .int .i64 y, .int .i64 z]
theorem eql_V (x y z a b c : Int) (w : World) : (binOp .eql 23 (vV x y z) (vV a b c)).run Tryd.prog w = .ok (.bool (decide (x = a ∧ y = b ∧ z = c))) w := by
  go_simp
  by_cases h1 : x = a <;> by_cases h2 : y = b <;> by_cases h3 : z = c <;> simp [h1, h2, h3]
theorem neq_V (x y z a b c : Int) (w : World) : (binOp .neq 23 (vV x y z) (vV a b c)).run Tryd.prog w = .ok (.bool (!decide (x = a ∧ y = b ∧ z = c))) w := by
  go_simp
  by_cases h1 : x = a <;> by_cases h2 : y = b <;> by_cases h3 : z = c <;> simp [h1, h2, h3]
set_option maxHeartbeats 1000000 in
theorem eql_B (x y z p q r a b c d e f : Int) (w : World) : (binOp .eql 27 (vB x y z p q r) (vB a b c d e f)).run Tryd.prog w = .ok (.bool (decide (x = a ∧ y = b ∧ z = c ∧ p = d ∧ q = e ∧ r = f))) w := by
  go_simp
  by_cases h1 : x = a <;> by_cases h2 : y = b <;> by_cases h3 : z = c <;> by_cases h4 : p = d <;> by_cases h5 : q = e <;> by_cases h6 : r = f <;> simp [h1, h2, h3, h4, h5, h6]
set_option maxHeartbeats 1000000 in
theorem neq_B (x y z p q r a b c d e f : Int) (w : World) : (binOp .neq 27 (vB x y z p q r) (vB a b c d e f)).run Tryd.prog w = .ok (.bool (!decide (x = a ∧ y = b ∧ z = c ∧ p = d ∧ q = e ∧ r = f))) w := by
  go_simp
  by_cases h1 : x = a <;> by_cases h2 : y = b <;> by_cases h3 : z = c <;> by_cases h4 : p = d <;> by_cases h5 : q = e <;> by_cases h6 : r = f <;> simp [h1, h2, h3, h4, h5, h6]
theorem eql_P (n x y z m a b c : Int) (w : World) : (binOp .eql 25 (vP n x y z) (vP m a b c)).run Tryd.prog w = .ok (.bool (decide (n = m ∧ x = a ∧ y = b ∧ z = c))) w := by
  go_simp
  by_cases h0 : n = m <;> by_cases h1 : x = a <;> by_cases h2 : y = b <;> by_cases h3 : z = c <;> simp [h0, h1, h2, h3]
theorem neq_P (n x y z m a b c : Int) (w : World) : (binOp .neq 25 (vP n x y z) (vP m a b c)).run Tryd.prog w = .ok (.bool (!decide (n = m ∧ x = a ∧ y = b ∧ z = c))) w := by
  go_simp
  by_cases h0 : n = m <;> by_cases h1 : x = a <;> by_cases h2 : y = b <;> by_cases h3 : z = c <;> simp [h0, h1, h2, h3]
end Go.Proofs.YtibncdefhphggaaDoor
