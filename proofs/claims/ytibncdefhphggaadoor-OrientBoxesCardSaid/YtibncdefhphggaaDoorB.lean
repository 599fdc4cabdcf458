/- The values and the table of turns. -/
import Derived.Test.YtibncdefhphggaaDoorProg
import Derived.WalkKit
import Derived.WalkSpells
import Derived.WalkLawsBesides
import Derived.KernelRfl
import Derived.Lib.Hide
import Derived.Handy
namespace Go.Proofs.YtibncdefhphggaaDoor
open Go.RowKit

abbrev vV (x y z : Int) : Value := .agg #[.int .i64 x, .int .i64 y, .int .i64 z]

/-- The axis from which coordinate i of the image under turn n comes. -/
def axT (n i : Nat) : Nat := (([[0, 1, 2], [0, 2, 1], [1, 0, 2], [1, 2, 0], [2, 0, 1], [2, 1, 0]] : List (List Nat)).getD (n / 4) []).getD i 0
/-- Its sign. -/
def sgT (n i : Nat) : Int :=
  if n / 4 = 0 ∨ n / 4 = 3 ∨ n / 4 = 4 then (([[1, 1, 1], [1, -1, -1], [-1, 1, -1], [-1, -1, 1]] : List (List Int)).getD (n % 4) []).getD i 0
  else (([[1, 1, -1], [1, -1, 1], [-1, 1, 1], [-1, -1, -1]] : List (List Int)).getD (n % 4) []).getD i 0

theorem cases24 {n : Nat} (h : n < 24) : n = 0 ∨ n = 1 ∨ n = 2 ∨ n = 3 ∨ n = 4 ∨ n = 5 ∨ n = 6 ∨ n = 7 ∨ n = 8 ∨ n = 9 ∨ n = 10 ∨ n = 11 ∨ n = 12 ∨ n = 13 ∨ n = 14 ∨ n = 15 ∨ n = 16 ∨ n = 17 ∨ n = 18 ∨ n = 19 ∨ n = 20 ∨ n = 21 ∨ n = 22 ∨ n = 23 := by omega

end Go.Proofs.YtibncdefhphggaaDoor
