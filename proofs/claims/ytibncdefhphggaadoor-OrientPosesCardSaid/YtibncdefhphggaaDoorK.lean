/- Short words for the walks: blocks of three, four and six numbers; steps through a region that draws its order. -/
import Derived.Test.YtibncdefhphggaaDoorB1
import Derived.Test.YtibncdefhphggaaDoorR
import Derived.BigQuiet
import Derived.Deep.DeepCutAuto
namespace Go.Proofs.YtibncdefhphggaaDoor
open Go.RowKit

abbrev cE (w : World) (b i : Nat) (x : Int) : Prop := w.cell? ⟨b, i, none⟩ = some (.int .i64 x)
abbrev b3 (w : World) (b : Nat) (x y z : Int) : Prop := cE w b 0 x ∧ cE w b 1 y ∧ cE w b 2 z
abbrev b4 (w : World) (b : Nat) (n x y z : Int) : Prop := cE w b 0 n ∧ cE w b 1 x ∧ cE w b 2 y ∧ cE w b 3 z
abbrev b6 (w : World) (b : Nat) (x y z p q r : Int) : Prop := cE w b 0 x ∧ cE w b 1 y ∧ cE w b 2 z ∧ cE w b 3 p ∧ cE w b 4 q ∧ cE w b 5 r
abbrev f3 (w : World) (b : Nat) : Prop := w.frozen? ⟨b, 0, none⟩ = false ∧ w.frozen? ⟨b, 1, none⟩ = false ∧ w.frozen? ⟨b, 2, none⟩ = false
theorem b3.later {w w' : World} {b : Nat} {x y z : Int} (y' : Below w.heap.size w w') (h : b3 w b x y z) : b3 w' b x y z := ⟨cell_later y' h.1, cell_later y' h.2.1, cell_later y' h.2.2⟩
theorem b4.later {w w' : World} {b : Nat} {n x y z : Int} (y' : Below w.heap.size w w') (h : b4 w b n x y z) : b4 w' b n x y z := ⟨cell_later y' h.1, cell_later y' h.2.1, cell_later y' h.2.2.1, cell_later y' h.2.2.2⟩
theorem b6.later {w w' : World} {b : Nat} {x y z p q r : Int} (y' : Below w.heap.size w w') (h : b6 w b x y z p q r) : b6 w' b x y z p q r :=
  ⟨cell_later y' h.1, cell_later y' h.2.1, cell_later y' h.2.2.1, cell_later y' h.2.2.2.1, cell_later y' h.2.2.2.2.1, cell_later y' h.2.2.2.2.2⟩
theorem b3.alloc {w : World} {b : Nat} {x y z : Int} (h : b3 w b x y z) (o : Obj) : b3 (w.alloc o) b x y z := ⟨c_alloc h.1, c_alloc h.2.1, c_alloc h.2.2⟩
theorem b3.lt {w : World} {b : Nat} {x y z : Int} (h : b3 w b x y z) : b < w.heap.size := World.block_lt_of_cell? _ _ h.1
theorem b4.lt {w : World} {b : Nat} {n x y z : Int} (h : b4 w b n x y z) : b < w.heap.size := World.block_lt_of_cell? _ _ h.1
theorem b6.lt {w : World} {b : Nat} {x y z p q r : Int} (h : b6 w b x y z p q r) : b < w.heap.size := World.block_lt_of_cell? _ _ h.1
theorem b3.new {w : World} {t : TypeId} : b3 (w.alloc (.cells #[.int .i64 0, .int .i64 0, .int .i64 0] t)) w.heap.size 0 0 0 := ⟨c_at rfl rfl, c_at rfl rfl, c_at rfl rfl⟩
theorem f3.new {w : World} {t : TypeId} : f3 (w.alloc (.cells #[.int .i64 0, .int .i64 0, .int .i64 0] t)) w.heap.size := ⟨f_at rfl, f_at rfl, f_at rfl⟩
theorem f3.alloc {w : World} {b : Nat} (l : b < w.heap.size) (h : f3 w b) (o : Obj) : f3 (w.alloc o) b := ⟨f_alloc l h.1, f_alloc l h.2.1, f_alloc l h.2.2⟩
theorem f3.later {w w' : World} {b : Nat} (l : b < w.heap.size) (y' : Below w.heap.size w w') (h : f3 w b) : f3 w' b := ⟨f_later y' l h.1, f_later y' l h.2.1, f_later y' l h.2.2⟩
abbrev set3 (w : World) (b : Nat) (x y z : Int) : World := ((w.setCell ⟨b, 0, none⟩ (.int .i64 x)).setCell ⟨b, 1, none⟩ (.int .i64 y)).setCell ⟨b, 2, none⟩ (.int .i64 z)
theorem b3.set {w : World} {b : Nat} {x y z x' y' z' : Int} (h : b3 w b x y z) : b3 (set3 w b x' y' z') b x' y' z' :=
  ⟨c_off (by decide) (c_off (by decide) (c_same h.1)), c_off (by decide) (c_same (c_off (by decide) h.2.1)), c_same (c_off (by decide) (c_off (by decide) h.2.2))⟩
theorem b3.far {w : World} {b b' : Nat} {x y z x' y' z' : Int} (h : b3 w b x y z) (n : b ≠ b') : b3 (set3 w b' x' y' z') b x y z :=
  ⟨c_far n (c_far n (c_far n h.1)), c_far n (c_far n (c_far n h.2.1)), c_far n (c_far n (c_far n h.2.2))⟩
theorem f3.set {w : World} {b b' : Nat} {x' y' z' : Int} (h : f3 w b) : f3 (set3 w b' x' y' z') b := ⟨f_set (f_set (f_set h.1)), f_set (f_set (f_set h.2.1)), f_set (f_set (f_set h.2.2))⟩
theorem below_set3 {B : Nat} {W w : World} {b : Nat} {x y z : Int} (h : Below B W w) (g : B ≤ b) : Below B W (set3 w b x y z) := ((h.setCell g _).setCell g _).setCell g _

theorem bs0 {w t t' : World} (b : Below w.heap.size w t) (y : Below t.heap.size t t') : Below w.heap.size w t' := b_step b y b.size
theorem bs1 {w t t' : World} {o : Obj} (b : Below w.heap.size w t) (y : Below (t.alloc o).heap.size (t.alloc o) t') : Below w.heap.size w t' :=
  b_step (b.alloc b.size _) y (by have := b.size; rw [World.size_alloc]; omega)

theorem pSa {α : Type} {l : List α} {i : Nat} {a : α} : l.toArray.setIfInBounds i a = (l.set i a).toArray := List.setIfInBounds_toArray _ _ _
theorem pSb {α : Type} {x : α} {xs : List α} {a : α} : (x :: xs).set 0 a = a :: xs := List.set_cons_zero
theorem pSc {α : Type} {x : α} {xs : List α} {a : α} {i : Nat} : (x :: xs).set (i + 1) a = x :: xs.set i a := List.set_cons_succ

section
variable {P : Program} {l rest : List Oper} {oi : Oper} {v : Value} {Q : Exit → Act → World → Prop} {md : Region.Mode} {S : World → Prop} {fuel : Nat} {listed : Array Bool} {a : Act} {w : World}
theorem at_drop {i : Nat} (hi : l.drop i = oi :: rest) : l.toArray[i]? = some oi := by
  have h : (l.drop i)[0]? = some oi := by rw [hi]; rfl
  rw [List.getElem?_drop] at h
  simpa using h
/-- Operation i, which yields, is taken first. -/
theorem tkY (i : Nat) (v : Value) (hi : l.drop i = oi :: rest) (hy : ∀ w, S w → (execOp a.eval oi).run P w = .ok (.value v) w)
    (h : wpAnyH P md l.toArray Q S fuel (listed.setIfInBounds i true) (a.put oi.dst v) w) (hS : S w)
    (hs : Region.noSelect l.toArray = true := by kernel_rfl) (hf : Region.free md l.toArray listed i = true := by kernel_rfl) (hr : (Region.ready md l.toArray listed).contains i = true := by kernel_rfl)
    (hQ : ∀ c a w, Q (.panic c) (a.put oi.dst v) w → Q (.panic c) a w := by exact fun _ _ _ h => h) (hw : Region.wanted oi (yielded l.toArray a.tmps) = true := by rfl) :
    wpAnyH P md l.toArray Q S (fuel + 1) listed a w :=
  wpAnyH_take (at_drop hi) hs hf hr hQ (Or.inl ⟨hw, hy⟩) hS h
/-- Operation i, which is not wanted, is taken first. -/
theorem tkN (i : Nat) (hi : l.drop i = oi :: rest)
    (h : wpAnyH P md l.toArray Q S fuel (listed.setIfInBounds i true) (a.put oi.dst undef) w) (hS : S w)
    (hs : Region.noSelect l.toArray = true := by kernel_rfl) (hf : Region.free md l.toArray listed i = true := by kernel_rfl) (hr : (Region.ready md l.toArray listed).contains i = true := by kernel_rfl)
    (hQ : ∀ c a w, Q (.panic c) (a.put oi.dst undef) w → Q (.panic c) a w := by exact fun _ _ _ h => h) (hw : Region.wanted oi (yielded l.toArray a.tmps) = false := by rfl) :
    wpAnyH P md l.toArray Q S (fuel + 1) listed a w :=
  wpAnyH_take (at_drop hi) hs hf hr hQ (Or.inr ⟨hw, rfl⟩) hS h
theorem rCons {i : Nat} {rs : List Nat} (hi : l.drop i = oi :: rest)
    (h : ∀ K' : Act → World → Prop, Shut (∀ a w, S w → (S w → wpAnyH P md l.toArray Q S fuel (listed.setIfInBounds i true) a w) → K' a w) → if Region.wanted oi (yielded l.toArray a.tmps) = true then Oper.wp P oi a w K' Q else K' (a.put oi.dst undef) w)
    (hs : AllReadyH P md l.toArray Q S fuel listed a w rs) : AllReadyH P md l.toArray Q S fuel listed a w (i :: rs) := AllReadyH.cons (at_drop hi) h hs
/-- Operation i alone may come up. -/
theorem rOne (i : Nat) (hi : l.drop i = oi :: rest)
    (h : ∀ K' : Act → World → Prop, Shut (∀ a w, S w → (S w → wpAnyH P md l.toArray Q S fuel (listed.setIfInBounds i true) a w) → K' a w) → if Region.wanted oi (yielded l.toArray a.tmps) = true then Oper.wp P oi a w K' Q else K' (a.put oi.dst undef) w)
    (hr : Region.ready md l.toArray listed = [i] := by kernel_rfl) : wpAnyH P md l.toArray Q S (fuel + 1) listed a w :=
  wpAnyH_ready hr (by simp) (rCons hi h AllReadyH.nil)
theorem gen_any (F : World → Prop) (hF : F w) (h : ∀ W, F W → wpAnyH P md l.toArray Q S fuel listed a W) : wpAnyH P md l.toArray Q S fuel listed a w := h w hF
end
end Go.Proofs.YtibncdefhphggaaDoor
