/- What every row of this seat wants: the table of units, the arguments' shapes, the shut. -/
import Derived.Test.YtibncdefhphggaaDoorRows
import Derived.Test.YtibncdefhphggaaDoorA9
import Derived.ProofKit
import Derived.LaidMore
import Derived.OpenShut
import Derived.Stop.Joined
import Derived.Lib.SmallJoins
import Derived.Deep.Strs
namespace Go.Proofs.YtibncdefhphggaaDoor
open Go.ChangeShapes Go.WideShapes Go.ChangeAt Go.RowKit Go.Joins

theorem own28 : ownKnob Tryd.prog.godebug = none := by kernel_rfl
theorem gUnits : Tryd.prog.globalNamed "gangsaw/orient.units" = some 0 := by kernel_rfl
theorem tUnits : (Tryd.prog.globals[0]?).map (·.type) = some 84 := by kernel_rfl
theorem cells3 : Tryd.prog.cellsOf 3 = 1 := by kernel_rfl
theorem cells23 : Tryd.prog.cellsOf 23 = 3 := by kernel_rfl
theorem cells25 : Tryd.prog.cellsOf 25 = 4 := by kernel_rfl
theorem cells27 : Tryd.prog.cellsOf 27 = 6 := by kernel_rfl
theorem cells84 : Tryd.prog.cellsOf 84 = 18 := by kernel_rfl

section
variable {H : Type} {enc : TypeId × Value → H} {w : World} {base : Nat} {sp : Nat → Bool} {held : Bool}

abbrev dI (x : Int) : DataW H := .lit (.int .i64 x)
abbrev dV (x y z : Int) : DataW H := .agg [dI x, dI y, dI z]
abbrev dP (n x y z : Int) : DataW H := .agg [dI n, dV x y z]
abbrev dB (x y z p q r : Int) : DataW H := .agg [dV x y z, dV p q r]
abbrev wfI (x : Int) : Prop := (Lit.int .i64 x).wf = true

theorem tV {fuel : Nat} {cs : List Value} {x : DataW H × List MemPlace} (h : DataW.trod enc Tryd.prog w base sp held fuel 23 cs = some x) :
    ∃ a b c, cs = [.int .i64 a, .int .i64 b, .int .i64 c] ∧ x = (dV a b c, []) ∧ wfI a ∧ wfI b ∧ wfI c := by
  obtain ⟨xs, n, rfl, hx, hl, hlen, hf⟩ := DataW.trod_struct Tryd.underlying23 h
  rw [cells23] at hl
  have h0 : DataW.trod enc Tryd.prog w base sp held n 3 ((cs.drop 0).take (Tryd.prog.cellsOf 3)) = xs[0]? := hf 0 _ rfl
  have h1 : DataW.trod enc Tryd.prog w base sp held n 3 ((cs.drop 1).take (Tryd.prog.cellsOf 3)) = xs[1]? := hf 1 _ rfl
  have h2 : DataW.trod enc Tryd.prog w base sp held n 3 ((cs.drop 2).take (Tryd.prog.cellsOf 3)) = xs[2]? := hf 2 _ rfl
  rw [cells3] at h0 h1 h2
  match cs, hl with
  | [c0, c1, c2], _ =>
    match xs, hlen with
    | [y0, y1, y2], _ =>
      obtain ⟨a, e0, rfl, wa⟩ := DataW.trod_int Tryd.underlying3 (show DataW.trod enc Tryd.prog w base sp held n 3 [c0] = some y0 from h0)
      obtain ⟨b, e1, rfl, wb⟩ := DataW.trod_int Tryd.underlying3 (show DataW.trod enc Tryd.prog w base sp held n 3 [c1] = some y1 from h1)
      obtain ⟨c, e2, rfl, wc⟩ := DataW.trod_int Tryd.underlying3 (show DataW.trod enc Tryd.prog w base sp held n 3 [c2] = some y2 from h2)
      simp only [List.cons.injEq, and_true] at e0 e1 e2
      subst e0 e1 e2
      exact ⟨a, b, c, rfl, hx, wa, wb, wc⟩
theorem tV_mk {a b c : Int} (ha : wfI a) (hb : wfI b) (hc : wfI c) : DataW.trod enc Tryd.prog w base sp held 2 23 [.int .i64 a, .int .i64 b, .int .i64 c] = some (dV a b c, []) := by
  simp [DataW.trod, Tryd.underlying23, Tryd.underlying3, cells23, cells3, ha, hb, hc, wfI] at *
theorem tP {fuel : Nat} {cs : List Value} {x : DataW H × List MemPlace} (h : DataW.trod enc Tryd.prog w base sp held fuel 25 cs = some x) :
    ∃ n a b c, cs = [.int .i64 n, .int .i64 a, .int .i64 b, .int .i64 c] ∧ x = (dP n a b c, []) ∧ wfI n ∧ wfI a ∧ wfI b ∧ wfI c := by
  obtain ⟨xs, m, rfl, hx, hl, hlen, hf⟩ := DataW.trod_struct Tryd.underlying25 h
  rw [cells25] at hl
  have h0 : DataW.trod enc Tryd.prog w base sp held m 3 ((cs.drop 0).take (Tryd.prog.cellsOf 3)) = xs[0]? := hf 0 _ rfl
  have h1 : DataW.trod enc Tryd.prog w base sp held m 23 ((cs.drop 1).take (Tryd.prog.cellsOf 23)) = xs[1]? := hf 1 _ rfl
  rw [cells3] at h0
  rw [cells23] at h1
  match cs, hl with
  | [c0, c1, c2, c3], _ =>
    match xs, hlen with
    | [y0, y1], _ =>
      obtain ⟨n, e0, rfl, wn⟩ := DataW.trod_int Tryd.underlying3 (show DataW.trod enc Tryd.prog w base sp held m 3 [c0] = some y0 from h0)
      obtain ⟨a, b, c, e1, rfl, wa, wb, wc⟩ := tV (show DataW.trod enc Tryd.prog w base sp held m 23 [c1, c2, c3] = some y1 from h1)
      simp only [List.cons.injEq, and_true] at e0 e1
      obtain ⟨rfl, rfl, rfl⟩ := e1
      subst e0
      exact ⟨n, a, b, c, rfl, hx, wn, wa, wb, wc⟩
theorem tB {fuel : Nat} {cs : List Value} {x : DataW H × List MemPlace} (h : DataW.trod enc Tryd.prog w base sp held fuel 27 cs = some x) :
    ∃ a b c d e f, cs = [.int .i64 a, .int .i64 b, .int .i64 c, .int .i64 d, .int .i64 e, .int .i64 f] ∧ x = (dB a b c d e f, []) ∧ wfI a ∧ wfI b ∧ wfI c ∧ wfI d ∧ wfI e ∧ wfI f := by
  obtain ⟨xs, m, rfl, hx, hl, hlen, hf⟩ := DataW.trod_struct Tryd.underlying27 h
  rw [cells27] at hl
  have h0 : DataW.trod enc Tryd.prog w base sp held m 23 ((cs.drop 0).take (Tryd.prog.cellsOf 23)) = xs[0]? := hf 0 _ rfl
  have h1 : DataW.trod enc Tryd.prog w base sp held m 23 ((cs.drop 3).take (Tryd.prog.cellsOf 23)) = xs[1]? := hf 1 _ rfl
  rw [cells23] at h0 h1
  match cs, hl with
  | [c0, c1, c2, c3, c4, c5], _ =>
    match xs, hlen with
    | [y0, y1], _ =>
      obtain ⟨a, b, c, e0, rfl, wa, wb, wc⟩ := tV (show DataW.trod enc Tryd.prog w base sp held m 23 [c0, c1, c2] = some y0 from h0)
      obtain ⟨d, e, f, e1, rfl, wd, we, wf⟩ := tV (show DataW.trod enc Tryd.prog w base sp held m 23 [c3, c4, c5] = some y1 from h1)
      simp only [List.cons.injEq, and_true] at e0 e1
      obtain ⟨rfl, rfl, rfl⟩ := e0
      obtain ⟨rfl, rfl, rfl⟩ := e1
      exact ⟨a, b, c, d, e, f, rfl, hx, wa, wb, wc, wd, we, wf⟩
theorem tP_mk {n a b c : Int} (hn : wfI n) (ha : wfI a) (hb : wfI b) (hc : wfI c) : DataW.trod enc Tryd.prog w base sp held 3 25 [.int .i64 n, .int .i64 a, .int .i64 b, .int .i64 c] = some (dP n a b c, []) := by
  have e := tV_mk (enc := enc) (w := w) (base := base) (sp := sp) (held := held) ha hb hc
  unfold DataW.trod
  simp [Tryd.underlying25, cells25, cells23, cells3, e]
  simp [DataW.trod, Tryd.underlying3, show (Lit.int .i64 n).wf = true from hn]
theorem tB_mk {a b c d e f : Int} (ha : wfI a) (hb : wfI b) (hc : wfI c) (hd : wfI d) (he : wfI e) (hf : wfI f) : DataW.trod enc Tryd.prog w base sp held 3 27 [.int .i64 a, .int .i64 b, .int .i64 c, .int .i64 d, .int .i64 e, .int .i64 f] = some (dB a b c d e f, []) := by
  have e1 := tV_mk (enc := enc) (w := w) (base := base) (sp := sp) (held := held) ha hb hc
  have e2 := tV_mk (enc := enc) (w := w) (base := base) (sp := sp) (held := held) hd he hf
  unfold DataW.trod
  simp [Tryd.underlying27, cells27, cells23, e1, e2]

theorem open_V {r : Reach} {b0 : Nat} {v : Value} {d : DataW H} {p : List MemPlace} (hv : Value.okWide Tryd.prog w r b0 23 v) (h : DataW.Trod enc Tryd.prog w base sp held 23 v d p) :
    ∃ a b c, v = vV a b c ∧ d = dV a b c ∧ p = [] ∧ wfI a ∧ wfI b ∧ wfI c := by
  obtain ⟨cs, rfl, _⟩ := okWide_struct Tryd.underlying23 hv
  obtain ⟨fuel, hf⟩ := h
  obtain ⟨a, b, c, e, hx, wa, wb, wc⟩ := tV hf
  simp only [Prod.mk.injEq] at hx
  obtain ⟨l⟩ := cs
  obtain rfl : l = _ := e
  exact ⟨a, b, c, rfl, hx.1, hx.2, wa, wb, wc⟩
theorem open_P {r : Reach} {b0 : Nat} {v : Value} {d : DataW H} {p : List MemPlace} (hv : Value.okWide Tryd.prog w r b0 25 v) (h : DataW.Trod enc Tryd.prog w base sp held 25 v d p) :
    ∃ n a b c, v = .agg #[.int .i64 n, .int .i64 a, .int .i64 b, .int .i64 c] ∧ d = dP n a b c ∧ p = [] ∧ wfI n ∧ wfI a ∧ wfI b ∧ wfI c := by
  obtain ⟨cs, rfl, _⟩ := okWide_struct Tryd.underlying25 hv
  obtain ⟨fuel, hf⟩ := h
  obtain ⟨n, a, b, c, e, hx, wn, wa, wb, wc⟩ := tP hf
  simp only [Prod.mk.injEq] at hx
  obtain ⟨l⟩ := cs
  obtain rfl : l = _ := e
  exact ⟨n, a, b, c, rfl, hx.1, hx.2, wn, wa, wb, wc⟩
theorem open_B {r : Reach} {b0 : Nat} {v : Value} {d : DataW H} {p : List MemPlace} (hv : Value.okWide Tryd.prog w r b0 27 v) (h : DataW.Trod enc Tryd.prog w base sp held 27 v d p) :
    ∃ a b c e f g, v = .agg #[.int .i64 a, .int .i64 b, .int .i64 c, .int .i64 e, .int .i64 f, .int .i64 g] ∧ d = dB a b c e f g ∧ p = [] ∧ wfI a ∧ wfI b ∧ wfI c ∧ wfI e ∧ wfI f ∧ wfI g := by
  obtain ⟨cs, rfl, _⟩ := okWide_struct Tryd.underlying27 hv
  obtain ⟨fuel, hf⟩ := h
  obtain ⟨a, b, c, e, f, g, q, hx, wa, wb, wc, we, wf, wg⟩ := tB hf
  simp only [Prod.mk.injEq] at hx
  obtain ⟨l⟩ := cs
  obtain rfl : l = _ := q
  exact ⟨a, b, c, e, f, g, rfl, hx.1, hx.2, wa, wb, wc, we, wf, wg⟩
theorem shut_V {a b c : Int} (ha : wfI a) (hb : wfI b) (hc : wfI c) : DataW.Trod enc Tryd.prog w base sp held 23 (vV a b c) (dV a b c) [] := ⟨2, tV_mk ha hb hc⟩
theorem shut_P {n a b c : Int} (hn : wfI n) (ha : wfI a) (hb : wfI b) (hc : wfI c) : DataW.Trod enc Tryd.prog w base sp held 25 (.agg #[.int .i64 n, .int .i64 a, .int .i64 b, .int .i64 c]) (dP n a b c) [] := ⟨3, tP_mk hn ha hb hc⟩
theorem shut_B {a b c d e f : Int} (ha : wfI a) (hb : wfI b) (hc : wfI c) (hd : wfI d) (he : wfI e) (hf : wfI f) : DataW.Trod enc Tryd.prog w base sp held 27 (.agg #[.int .i64 a, .int .i64 b, .int .i64 c, .int .i64 d, .int .i64 e, .int .i64 f]) (dB a b c d e f) [] := ⟨3, tB_mk ha hb hc hd he hf⟩
end

/-- The list that the rows lay. -/
abbrev laid28 {H : Type} : List (String × DataW H) := [("gangsaw/orient.units", Rows.laid_gangsaw_orient_units)]

theorem units_of {W : World} (h : laidMetH Tryd.prog [("gangsaw/orient.units", Rows.laid_gangsaw_orient_units)] W) : Units W := by
  rw [MakeChecks.laidMetH_plain _ _ _ (by kernel_rfl)] at h
  obtain ⟨ps, ⟨g0, t0, cs0, f0, p0, q0, hg0, ht0, hv0, hd0, _⟩, _⟩ := h
  obtain rfl := Option.some.inj (gUnits.symm.trans hg0)
  obtain rfl := Option.some.inj (tUnits.symm.trans ht0)
  obtain ⟨xs, m1, rfl, hx1, hlen, hn6, hel⟩ := DataW.trod_array Tryd.underlying84 hd0
  rw [cells84] at hlen
  rw [cells23] at hel
  simp only [Prod.mk.injEq] at hx1
  have hx := hx1.1
  unfold Rows.laid_gangsaw_orient_units at hx
  simp only [DataW.agg.injEq] at hx
  have key : ∀ i, i < 6 → ∃ a b c, (cs0.toList.drop (i * 3)).take 3 = [.int .i64 a, .int .i64 b, .int .i64 c] ∧ (xs.map (·.1))[i]? = some (dV a b c) := by
    intro i hi
    have h := hel i hi
    have hi' : i < xs.length := by omega
    rw [List.getElem?_eq_getElem hi'] at h
    obtain ⟨a, b, c, e, hx, _⟩ := tV h
    exact ⟨a, b, c, e, by rw [List.getElem?_map, List.getElem?_eq_getElem hi', Option.map_some, hx]⟩
  rw [← hx] at key
  obtain ⟨a0, b0, c0, e0, d0⟩ := key 0 (by decide)
  obtain ⟨a1, b1, c1, e1, d1⟩ := key 1 (by decide)
  obtain ⟨a2, b2, c2, e2, d2⟩ := key 2 (by decide)
  obtain ⟨a3, b3, c3, e3, d3⟩ := key 3 (by decide)
  obtain ⟨a4, b4, c4, e4, d4⟩ := key 4 (by decide)
  obtain ⟨a5, b5, c5, e5, d5⟩ := key 5 (by decide)
  simp at d0 d1 d2 d3 d4 d5
  have hc : ∀ i, W.cell? ⟨0, i, none⟩ = cs0[i]? := fun i => World.var?_cell hg0 hv0 i
  obtain ⟨l⟩ := cs0
  match l, hlen with
  | [x0, x1, x2, x3, x4, x5, x6, x7, x8, x9, x10, x11, x12, x13, x14, x15, x16, x17], _ =>
    simp at e0 e1 e2 e3 e4 e5
    obtain ⟨rfl, rfl, rfl⟩ := e0
    obtain ⟨rfl, rfl, rfl⟩ := e1
    obtain ⟨rfl, rfl, rfl⟩ := e2
    obtain ⟨rfl, rfl, rfl⟩ := e3
    obtain ⟨rfl, rfl, rfl⟩ := e4
    obtain ⟨rfl, rfl, rfl⟩ := e5
    obtain ⟨rfl, rfl, rfl⟩ := d0
    obtain ⟨rfl, rfl, rfl⟩ := d1
    obtain ⟨rfl, rfl, rfl⟩ := d2
    obtain ⟨rfl, rfl, rfl⟩ := d3
    obtain ⟨rfl, rfl, rfl⟩ := d4
    obtain ⟨rfl, rfl, rfl⟩ := d5
    intro i hi
    rw [hc i]
    rcases (show i = 0 ∨ i = 1 ∨ i = 2 ∨ i = 3 ∨ i = 4 ∨ i = 5 ∨ i = 6 ∨ i = 7 ∨ i = 8 ∨ i = 9 ∨ i = 10 ∨ i = 11 ∨ i = 12 ∨ i = 13 ∨ i = 14 ∨ i = 15 ∨ i = 16 ∨ i = 17 by omega) with rfl | rfl | rfl | rfl | rfl | rfl | rfl | rfl | rfl | rfl | rfl | rfl | rfl | rfl | rfl | rfl | rfl | rfl <;> rfl

/-- The door's own heap meets the condition. -/
theorem door_met (os : Os) (args : Array Value) : laidMetH Tryd.prog [("gangsaw/orient.units", Rows.laid_gangsaw_orient_units)] ((World.doorLaid Tryd.prog 400 os).forCall (fun _ _ => 0) ⟨#[], args, []⟩).memory :=
  laidMetH_of_parts3 (fuel := 8) (laidMet_of_run' 8 (by kernel_rfl) (by kernel_rfl)) (by kernel_rfl) (by kernel_rfl)
end Go.Proofs.YtibncdefhphggaaDoor
