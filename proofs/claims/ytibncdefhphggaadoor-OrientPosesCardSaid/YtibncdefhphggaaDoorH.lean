/- Small laws on worlds for the walks: blocks that stay, cells of new blocks. -/
import Derived.WalkKit
import Derived.WalkSpells
import Derived.WalkLawsBesides
import Derived.KernelRfl
import Derived.Lib.Hide
import Derived.Handy
import Derived.Deep.RegionHeld3
import Derived.Deep.DrawnRows
import Derived.Deep.DeepFit
import Derived.Deep.DeepCutAuto
namespace Go.Proofs.YtibncdefhphggaaDoor
open Go.RowKit

/-- The listed blocks are in w' as they were in W. -/
def Sm (bs : List Nat) (W w' : World) : Prop := W.heap.size ≤ w'.heap.size ∧ ∀ b, b ∈ bs → b < W.heap.size ∧ w'.heap[b]? = W.heap[b]?

theorem Sm.refl {bs : List Nat} {W : World} (h : ∀ b, b ∈ bs → b < W.heap.size) : Sm bs W W := ⟨Nat.le_refl _, fun b hb => ⟨h b hb, rfl⟩⟩
theorem Sm.drew {bs : List Nat} {W w' : World} (h : Sm bs W w') : Sm bs W w'.drew := h
theorem Sm.alloc {bs : List Nat} {W w' : World} (h : Sm bs W w') (o : Obj) : Sm bs W (w'.alloc o) :=
  ⟨by have := h.1; simp; omega, fun b hb => ⟨(h.2 b hb).1, (Below.heap_alloc _ _ _ (Nat.lt_of_lt_of_le (h.2 b hb).1 h.1)).trans (h.2 b hb).2⟩⟩
theorem Sm.far {bs : List Nat} {W w' : World} (h : Sm bs W w') (a : Addr) (v : Value) (ha : ∀ b, b ∈ bs → b ≠ a.block) : Sm bs W (w'.setCell a v) :=
  ⟨by simpa using h.1, fun b hb => ⟨(h.2 b hb).1, (Below.heap_setCell _ _ _ _ (ha b hb)).trans (h.2 b hb).2⟩⟩
theorem Sm.below {bs : List Nat} {W w' w2 : World} (h : Sm bs W w') (hb : Below w'.heap.size w' w2) : Sm bs W w2 :=
  ⟨Nat.le_trans h.1 hb.size, fun b hb' => ⟨(h.2 b hb').1, (hb.block b (Nat.lt_of_lt_of_le (h.2 b hb').1 h.1)).trans (h.2 b hb').2⟩⟩
theorem Sm.cell {bs : List Nat} {W w' : World} (h : Sm bs W w') {b o : Nat} {v : Value} (hb : b ∈ bs) (hc : W.cell? ⟨b, o, none⟩ = some v) : w'.cell? ⟨b, o, none⟩ = some v := by
  have := (h.2 b hb).2
  unfold World.cell? at *
  rw [this]; exact hc
theorem Sm.free {bs : List Nat} {W w' : World} (h : Sm bs W w') {b o : Nat} {v : Bool} (hb : b ∈ bs) (hc : W.frozen? ⟨b, o, none⟩ = v) : w'.frozen? ⟨b, o, none⟩ = v := by
  have := (h.2 b hb).2
  unfold World.frozen? at *
  rw [this]; exact hc

theorem c_alloc {w : World} {o : Obj} {a : Addr} {v : Value} (h : w.cell? a = some v) : (w.alloc o).cell? a = some v := by
  rw [World.cell?_alloc_lt (h := World.block_lt_of_cell? w a h)]; exact h
theorem c_drew {w : World} {a : Addr} {v : Option Value} (h : w.cell? a = v) : w.drew.cell? a = v := h
theorem f_drew {w : World} {a : Addr} {v : Bool} (h : w.frozen? a = v) : w.drew.frozen? a = v := h
theorem c_far {w : World} {a b : Addr} {u : Value} {v : Option Value} (h : a.block ≠ b.block) (hc : w.cell? a = v) : (w.setCell b u).cell? a = v := by
  rw [World.cell?_setCell_far w b a u (Ne.symm h)]; exact hc
theorem c_off {w : World} {b i j : Nat} {u : Value} {v : Option Value} (h : i ≠ j) (hc : w.cell? ⟨b, i, none⟩ = v) : (w.setCell ⟨b, j, none⟩ u).cell? ⟨b, i, none⟩ = v := by
  rw [World.cell?_setCell_other (h := by intro e; cases e; exact h rfl)]; exact hc
theorem c_same {w : World} {a : Addr} {u v : Value} (hc : w.cell? a = some v) : (w.setCell a u).cell? a = some u := World.cell?_setCell_same _ _ _ hc
theorem c_new {w : World} {c : Array Value} {t : TypeId} {i : Nat} {v : Value} (h : c[i]? = some v) : (w.alloc (.cells c t)).cell? ⟨w.heap.size, i, none⟩ = some v := by
  rw [World.cell?_alloc_at (hn := rfl)]; exact h
theorem f_alloc {w : World} {o : Obj} {b i : Nat} {v : Bool} (hb : b < w.heap.size) (h : w.frozen? ⟨b, i, none⟩ = v) : (w.alloc o).frozen? ⟨b, i, none⟩ = v := by
  rw [World.frozen?_alloc_past (hn := hb)]; exact h
theorem f_new {w : World} {c : Array Value} {t : TypeId} {i : Nat} : (w.alloc (.cells c t)).frozen? ⟨w.heap.size, i, none⟩ = false := World.frozen?_alloc_at (hn := rfl) ..
theorem c_at {w : World} {c : Array Value} {t : TypeId} {n i : Nat} {v : Value} (hn : n = w.heap.size) (h : c[i]? = some v) : (w.alloc (.cells c t)).cell? ⟨n, i, none⟩ = some v := by
  subst hn; exact c_new h
theorem f_at {w : World} {c : Array Value} {t : TypeId} {n i : Nat} (hn : n = w.heap.size) : (w.alloc (.cells c t)).frozen? ⟨n, i, none⟩ = false := by
  subst hn; exact f_new
theorem f_set {w : World} {a b : Addr} {u : Value} {v : Bool} (h : w.frozen? a = v) : (w.setCell b u).frozen? a = v := by rw [World.frozen?_setCell]; exact h
theorem f_later {W w1 : World} (hb : Below W.heap.size W w1) {a : Addr} {v : Bool} (ha : a.block < W.heap.size) (h : W.frozen? a = v) : w1.frozen? a = v := (hb.frozen ha).trans h

theorem bcell {W w1 : World} (hb : Below W.heap.size W w1) : (∀ b o, b < W.heap.size → w1.cell? ⟨b, o, none⟩ = W.cell? ⟨b, o, none⟩) ∧ (∀ b o, b < W.heap.size → w1.frozen? ⟨b, o, none⟩ = W.frozen? ⟨b, o, none⟩) :=
  ⟨fun b o h => hb.cell (p := ⟨b, o, none⟩) h, fun b o h => hb.frozen (p := ⟨b, o, none⟩) h⟩

theorem r_set_same (w : World) (b i : Nat) (v : Value) : (w.setCell ⟨b, i, none⟩ v).cell? ⟨b, i, none⟩ = (w.cell? ⟨b, i, none⟩).map (fun _ => v) := by
  cases h : w.cell? ⟨b, i, none⟩ with
  | some u => exact c_same h
  | none =>
    show _ = none
    unfold World.cell? World.setCell at *
    simp only [Array.getElem?_modify] at *
    cases hb : w.heap[b]? with
    | none => simp
    | some o => rw [hb] at h; cases o <;> simp at h ⊢; exact h
theorem r_set_off {w : World} {b i j : Nat} {v : Value} (h : i ≠ j) : (w.setCell ⟨b, j, none⟩ v).cell? ⟨b, i, none⟩ = w.cell? ⟨b, i, none⟩ := c_off h rfl
theorem r_set_blk {w : World} {b c i j : Nat} {v : Value} (h : b ≠ c) : (w.setCell ⟨c, j, none⟩ v).cell? ⟨b, i, none⟩ = w.cell? ⟨b, i, none⟩ := c_far h rfl
theorem r_set_f {w : World} {a b : Addr} {v : Value} : (w.setCell b v).frozen? a = w.frozen? a := f_set rfl
theorem r_alloc_at {w : World} {c : Array Value} {t : TypeId} {n i : Nat} (hn : n = w.heap.size) : (w.alloc (.cells c t)).cell? ⟨n, i, none⟩ = c[i]? := World.cell?_alloc_at (hn := hn) ..
theorem r_alloc_past {w : World} {o : Obj} {n i : Nat} (hn : n < w.heap.size) : (w.alloc o).cell? ⟨n, i, none⟩ = w.cell? ⟨n, i, none⟩ := World.cell?_alloc_past (hn := hn) ..
theorem r_falloc_at {w : World} {c : Array Value} {t : TypeId} {n i : Nat} (hn : n = w.heap.size) : (w.alloc (.cells c t)).frozen? ⟨n, i, none⟩ = false := f_at hn
theorem r_falloc_past {w : World} {o : Obj} {n i : Nat} (hn : n < w.heap.size) : (w.alloc o).frozen? ⟨n, i, none⟩ = w.frozen? ⟨n, i, none⟩ := World.frozen?_alloc_past (hn := hn) ..

/-- A step behind a callee that makes memory, seen from the call's beginning. -/
theorem b_step {B : Nat} {w W w1 : World} (h : Below B w W) (hb : Below W.heap.size W w1) (hB : B ≤ W.heap.size) : Below B w w1 := h.trans (hb.mono hB)
end Go.Proofs.YtibncdefhphggaaDoor
