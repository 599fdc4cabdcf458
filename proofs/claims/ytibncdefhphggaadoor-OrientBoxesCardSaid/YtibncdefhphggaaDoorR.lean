/- What a function hands back whose results lie in memory: points, boxes, poses. -/
import Derived.Test.YtibncdefhphggaaDoorE
namespace Go.Proofs.YtibncdefhphggaaDoor
open Go.RowKit
variable {fn : Func} {p t : Tmp} {tmps : Array Value} {w : World} {b : Nat}

theorem load_V {x y z : Int} (h0 : w.cell? ⟨b, 0, none⟩ = some (.int .i64 x)) (h1 : w.cell? ⟨b, 1, none⟩ = some (.int .i64 y)) (h2 : w.cell? ⟨b, 2, none⟩ = some (.int .i64 z)) :
    (loadVar 23 ⟨b, 0, none⟩).run Tryd.prog w = .ok (vV x y z) w := by
  go_simp
theorem load_P {n x y z : Int} (h0 : w.cell? ⟨b, 0, none⟩ = some (.int .i64 n)) (h1 : w.cell? ⟨b, 1, none⟩ = some (.int .i64 x)) (h2 : w.cell? ⟨b, 2, none⟩ = some (.int .i64 y)) (h3 : w.cell? ⟨b, 3, none⟩ = some (.int .i64 z)) :
    (loadVar 25 ⟨b, 0, none⟩).run Tryd.prog w = .ok (vP n x y z) w := by
  go_simp
theorem load_B {x y z p q r : Int} (h0 : w.cell? ⟨b, 0, none⟩ = some (.int .i64 x)) (h1 : w.cell? ⟨b, 1, none⟩ = some (.int .i64 y)) (h2 : w.cell? ⟨b, 2, none⟩ = some (.int .i64 z)) (h3 : w.cell? ⟨b, 3, none⟩ = some (.int .i64 p)) (h4 : w.cell? ⟨b, 4, none⟩ = some (.int .i64 q)) (h5 : w.cell? ⟨b, 5, none⟩ = some (.int .i64 r)) :
    (loadVar 27 ⟨b, 0, none⟩).run Tryd.prog w = .ok (vB x y z p q r) w := by
  go_simp

theorem res_1 {ty : TypeId} {v : Value} (h : fn.results = #[.cell p ty]) (hp : tmps.getD p undef = .pointer (some ⟨b, 0, none⟩)) (hl : (loadVar ty ⟨b, 0, none⟩).run Tryd.prog w = .ok v w) :
    (results fn tmps).run Tryd.prog w = .ok v w := by
  have hp' : tmps[p]?.getD undef = .pointer (some ⟨b, 0, none⟩) := by simpa using hp
  simp [results, h, hp', asAddr, hl]
theorem res_2 {ty : TypeId} {v : Value} (h : fn.results = #[.cell p ty, .tmp t]) (hp : tmps.getD p undef = .pointer (some ⟨b, 0, none⟩)) (hl : (loadVar ty ⟨b, 0, none⟩).run Tryd.prog w = .ok v w) :
    (results fn tmps).run Tryd.prog w = .ok (.tuple #[v, tmps.getD t undef]) w := by
  have hp' : tmps[p]?.getD undef = .pointer (some ⟨b, 0, none⟩) := by simpa using hp
  simp [results, h, hp', asAddr, hl]
end Go.Proofs.YtibncdefhphggaaDoor
