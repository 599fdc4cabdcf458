/- OrientUndoes holds for every input: the row and its card. -/
import Derived.Test.YtibncdefhphggaaDoorQ
import Derived.Test.YtibncdefhphggaaDoorCards
import Derived.Test.YtibncdefhphggaaDoorTie
import Derived.Test.YtibncdefhphggaaDoorW9
import Derived.Test.YtibncdefhphggaaDoorL2
import Derived.SevenTiedAt
namespace Go.Proofs.YtibncdefhphggaaDoor
open Go.ChangeShapes Go.WideShapes Go.ChangeAt Go.RowKit Go.Joins
set_option linter.unusedVariables false

theorem undoes_c (n a0 a1 a2 m b0 b1 b2 x0 x1 x2 x3 x4 x5 : Int) (w : World) (hu : Units w) :
    Calls Tryd.prog 9 #[vP n a0 a1 a2, vP m b0 b1 b2, vB x0 x1 x2 x3 x4 x5] w fun e w' => e = .returned (.bool true) ∧ Below w.heap.size w w' := by
  obtain ⟨y0, y1, y2, y3, y4, y5, e, ey, hy⟩ := boxV_any m b0 b1 b2 x0 x1 x2 x3 x4 x5
  have Hy := fun w => Box_c m b0 b1 b2 x0 x1 x2 x3 x4 x5 w
  rw [ey] at Hy
  rcases hy with ⟨hne, _⟩ | ⟨rfl, m, rfl, hm, hx, k0, k1, k2, hs, hl, l0, l1, l2, u0, u1, u2⟩
  · exact undoes_1 n a0 a1 a2 m b0 b1 b2 x0 x1 x2 x3 x4 x5 y0 y1 y2 y3 y4 y5 e w hu hne Hy
  obtain ⟨hi, c0, _⟩ := inv_lr m hm
  obtain ⟨k, hk⟩ : ∃ k : Nat, invT m = k := ⟨(invT m).toNat, by omega⟩
  have hk' : k < 24 := by omega
  rw [hk, Int.toNat_natCast] at c0
  have Hu := fun w => Undo_c m b0 b1 b2 w
  have eu : undoV m b0 b1 b2 = .tuple #[vP k (-ap k 0 b0 b1 b2) (-ap k 1 b0 b1 b2) (-ap k 2 b0 b1 b2), .int .i64 0] := by
    unfold undoV
    rw [if_pos (isB_t.2 (by omega)), if_pos hs, Int.toNat_natCast, hk, Int.toNat_natCast]
  rw [eu] at Hu
  have bs := nearB_t.1 hs
  have g0 := ap_bd (i := 0) hk' (by decide) bs.1 bs.2.1 bs.2.2
  have g1 := ap_bd (i := 1) hk' (by decide) bs.1 bs.2.1 bs.2.2
  have g2 := ap_bd (i := 2) hk' (by decide) bs.1 bs.2.1 bs.2.2
  have z0 := lo_zero 0 (by decide) k0 k1 k2
  have z1 := lo_zero 1 (by decide) k0 k1 k2
  have z2 := lo_zero 2 (by decide) k0 k1 k2
  have q0 := lo_cmp k m 0 hk' hm (by decide) x0 x1 x2 x3 x4 x5
  have q1 := lo_cmp k m 1 hk' hm (by decide) x0 x1 x2 x3 x4 x5
  have q2 := lo_cmp k m 2 hk' hm (by decide) x0 x1 x2 x3 x4 x5
  rw [c0, show (0 : Int).toNat = 0 from rfl] at q0 q1 q2
  have lt0 := lo_lt m 0 hm (by decide) k0 k1 k2
  have lt1 := lo_lt m 1 hm (by decide) k0 k1 k2
  have lt2 := lo_lt m 2 hm (by decide) k0 k1 k2
  have A := fun i => lo_add k i (loT m 0 x0 x1 x2 x3 x4 x5) (loT m 1 x0 x1 x2 x3 x4 x5) (loT m 2 x0 x1 x2 x3 x4 x5) (hiT m 0 x0 x1 x2 x3 x4 x5) (hiT m 1 x0 x1 x2 x3 x4 x5) (hiT m 2 x0 x1 x2 x3 x4 x5) b0 b1 b2
  rw [l0, l1, l2, u0, u1, u2] at A
  have A0 := A 0
  have A1 := A 1
  have A2 := A 2
  have p0 : ∀ a b c : Int, pick (0 : Nat) a b c = a := fun _ _ _ => rfl
  have p1 : ∀ a b c : Int, pick (1 : Nat) a b c = b := fun _ _ _ => rfl
  have p2 : ∀ a b c : Int, pick (2 : Nat) a b c = c := fun _ _ _ => rfl
  rw [q0.1, q0.2, z0.1, z0.2, p0, p0] at A0
  rw [q1.1, q1.2, z1.1, z1.2, p1, p1] at A1
  rw [q2.1, q2.2, z2.1, z2.2, p2, p2] at A2
  have Hb := fun w => Box_c k (-ap k 0 b0 b1 b2) (-ap k 1 b0 b1 b2) (-ap k 2 b0 b1 b2) y0 y1 y2 y3 y4 y5 w
  rw [boxV_yes (l0 := x0) (l1 := x1) (l2 := x2) (u0 := x3) (u1 := x4) (u2 := x5) hk' hl (by omega) (by omega) (by omega) (nearB_t.2 ⟨by omega, by omega, by omega⟩) (by omega) (by omega) (by omega) (by omega) (by omega) (by omega) hx] at Hb
  have nx1 := nearB_t.1 (Bool.and_eq_true_iff.1 hx).1
  have nx2 := nearB_t.1 (Bool.and_eq_true_iff.1 hx).2
  have v0 := hi_lo m 0 hm (by decide) k0 k1 k2
  have v1 := hi_lo m 1 hm (by decide) k0 k1 k2
  have v2 := hi_lo m 2 hm (by decide) k0 k1 k2
  have w0 := pick_bd' (axT m 0) (a := x3 - x0) (b := x4 - x1) (c := x5 - x2) (by omega) (by omega) (by omega)
  have w1 := pick_bd' (axT m 1) (a := x3 - x0) (b := x4 - x1) (c := x5 - x2) (by omega) (by omega) (by omega)
  have w2 := pick_bd' (axT m 2) (a := x3 - x0) (b := x4 - x1) (c := x5 - x2) (by omega) (by omega) (by omega)
  have HV : (wrap64 (wrap64 (wrap64 (y3 - y0) * wrap64 (y4 - y1)) * wrap64 (y5 - y2)) != wrap64 (wrap64 (wrap64 (x3 - x0) * wrap64 (x4 - x1)) * wrap64 (x5 - x2))) = false := by
    have d0 : y3 - y0 = pick (axT m 0) (x3 - x0) (x4 - x1) (x5 - x2) := by omega
    have d1 : y4 - y1 = pick (axT m 1) (x3 - x0) (x4 - x1) (x5 - x2) := by omega
    have d2 : y5 - y2 = pick (axT m 2) (x3 - x0) (x4 - x1) (x5 - x2) := by omega
    rw [d0, d1, d2, wrap_prod w0 w1 w2, wrap_prod (a := x3 - x0) (b := x4 - x1) (c := x5 - x2) (by omega) (by omega) (by omega), prod_perm m hm]
    simp
  obtain ⟨z0', z1', z2', z3', z4', z5', h, ez, hz⟩ := boxV_any n a0 a1 a2 y0 y1 y2 y3 y4 y5
  have Hz := fun w => Box_c n a0 a1 a2 y0 y1 y2 y3 y4 y5 w
  rw [ez] at Hz
  obtain ⟨jn, j0, j1, j2, i, ej, hj⟩ := joinV_any n a0 a1 a2 m b0 b1 b2
  have Hj := fun w => Join_c n a0 a1 a2 m b0 b1 b2 w
  rw [ej] at Hj
  rcases hz with ⟨hne, _⟩ | ⟨rfl, n, rfl, hn, hy', t0, t1, t2, hsa, hlz, r0, r1, r2, r3, r4, r5⟩
  · exact undoes_2 n a0 a1 a2 m b0 b1 b2 x0 x1 x2 x3 x4 x5 y0 y1 y2 y3 y4 y5 k _ _ _ z0' z1' z2' z3' z4' z5' jn j0 j1 j2 h i w hu hne Hy Hu Hb HV Hz Hj
  rcases hj with ⟨hne, _⟩ | ⟨rfl, n', m', en, em, _, _, hab, hjn, rfl, s0, s1, s2⟩
  · exact undoes_3 n a0 a1 a2 m b0 b1 b2 x0 x1 x2 x3 x4 x5 y0 y1 y2 y3 y4 y5 k _ _ _ z0' z1' z2' z3' z4' z5' jn j0 j1 j2 i w hu hne Hy Hu Hb HV Hz Hj
  obtain rfl : n = n' := by omega
  obtain rfl : m = m' := by omega
  obtain ⟨c, hc, ec⟩ := cmp_nat n m hn hm
  have B := fun i => lo_add n i (loT m 0 x0 x1 x2 x3 x4 x5) (loT m 1 x0 x1 x2 x3 x4 x5) (loT m 2 x0 x1 x2 x3 x4 x5) (hiT m 0 x0 x1 x2 x3 x4 x5) (hiT m 1 x0 x1 x2 x3 x4 x5) (hiT m 2 x0 x1 x2 x3 x4 x5) b0 b1 b2
  rw [l0, l1, l2, u0, u1, u2] at B
  have B0 := B 0
  have B1 := B 1
  have B2 := B 2
  have C0 := lo_cmp n m 0 hn hm (by decide) x0 x1 x2 x3 x4 x5
  have C1 := lo_cmp n m 1 hn hm (by decide) x0 x1 x2 x3 x4 x5
  have C2 := lo_cmp n m 2 hn hm (by decide) x0 x1 x2 x3 x4 x5
  rw [ec, Int.toNat_natCast] at C0 C1 C2
  rw [C0.1, C0.2] at B0
  rw [C1.1, C1.2] at B1
  rw [C2.1, C2.2] at B2
  rw [ec] at Hj
  have Hw := fun w => Box_c c j0 j1 j2 x0 x1 x2 x3 x4 x5 w
  rw [boxV_yes (l0 := z0') (l1 := z1') (l2 := z2') (u0 := z3') (u1 := z4') (u2 := z5') hc hx k0 k1 k2 hjn (by omega) (by omega) (by omega) (by omega) (by omega) (by omega) hlz] at Hw
  exact undoes_4 n a0 a1 a2 m b0 b1 b2 x0 x1 x2 x3 x4 x5 y0 y1 y2 y3 y4 y5 k _ _ _ z0' z1' z2' z3' z4' z5' c j0 j1 j2 w hu Hy Hu Hb HV Hz Hj Hw

set_option maxRecDepth 100000 in
theorem orientUndoes_lifted (os : Os) (started : os.Started) (H : Type) (enc : TypeId × Value → H) :
    ReturnsInHanded {} Tryd.checked os 9 .any (fun w args => (Rows.orientUndoesSpec.pre enc Tryd.prog Tryd.f9 [] false w args ∧ laidMetH Tryd.prog [("gangsaw/orient.units", Rows.laid_gangsaw_orient_units)] w) ∧ sizedMet enc Tryd.prog Tryd.f9 (OpenSpec.ofChange Rows.orientUndoesSpec) false w args)
      (Rows.orientUndoesSpec.post enc Tryd.prog Tryd.f9 false true false false) := by
  refine returnsInHanded_of_change_and (C := Tryd.checked) (X := fun w _ => laidMetH Tryd.prog [("gangsaw/orient.units", Rows.laid_gangsaw_orient_units)] w) (fun _ _ _ hh h => h.of_heap hh) own28 started (by kernel_rfl) Tryd.func9
    (ChangeSpec.witness_shaped (enc := enc) (C := Tryd.checked) (os := os) (X := fun w _ => laidMetH Tryd.prog [("gangsaw/orient.units", Rows.laid_gangsaw_orient_units)] w) false (World.doorLaid Tryd.prog 400 os) #[.agg #[.int .i64 0, .int .i64 0, .int .i64 0, .int .i64 0], .agg #[.int .i64 0, .int .i64 0, .int .i64 0, .int .i64 0], .agg #[.int .i64 0, .int .i64 0, .int .i64 0, .int .i64 0, .int .i64 0, .int .i64 0]] 8 rfl (World.shaped_of_RefB (by kernel_rfl) (by kernel_rfl)) (by kernel_rfl) (by kernel_rfl) (by kernel_rfl) (door_met os _)) ?_
  intro W base args ds gs before hval0 hW _ _ hL _
  have hval : ∀ (j : Nat) t v, Tryd.f9.params[j]? = some t → args[j]? = some v → Value.okWide Tryd.prog W .any base t v := hval0
  have hW' := hW
  obtain ⟨p, q, hA0, hV, rfl, hfz, hnd⟩ := hW
  have hA : DataW.TrodAll enc Tryd.prog W 0 (fun _ => true) true Tryd.f9.params.toList args.toList ds p := hA0
  rw [Tryd.params9] at hA hval
  obtain ⟨v0, v1, v2, d0, d1, d2, p0, p1, p2, rfl, rfl, rfl, h0, h1, h2⟩ := trodAll_three hA
  obtain ⟨rfl, rfl⟩ := trodVars_none hV
  obtain ⟨n, a0, a1, a2, rfl, rfl, rfl, wn, wa0, wa1, wa2⟩ := open_P (hval 0 25 v0 rfl rfl) h0
  obtain ⟨m, b0, b1, b2, rfl, rfl, rfl, wm, wb0, wb1, wb2⟩ := open_P (hval 1 25 v1 rfl rfl) h1
  obtain ⟨x0, x1, x2, x3, x4, x5, rfl, rfl, rfl, wx0, wx1, wx2, wx3, wx4, wx5⟩ := open_B (hval 2 27 v2 rfl rfl) h2
  have hu := units_of hL
  clear hA0 hval0
  simp only [List.append_nil] at hW'
  refine (undoes_c n a0 a1 a2 m b0 b1 b2 x0 x1 x2 x3 x4 x5 W hu).mono fun e W' ⟨he, hB⟩ => ?_
  subst he
  exact ⟨_, rfl, _, _, _, [], [], [], hW', trodAll_mk1 (shut_bool Tryd.underlying4 true), trodAll_mk3 (shut_P wn wa0 wa1 wa2) (shut_P wm wb0 wb1 wb2) (shut_B wx0 wx1 wx2 wx3 wx4 wx5), rfl, hB.frame _, fun h => by cases h⟩

theorem orientUndoes_holds : Rows.OrientUndoesSaid :=
  OpenClaim.holds_of_wide 9 Tryd.f9 rfl rfl rfl rfl rfl rfl rfl ⟨rfl, rfl, rfl, rfl, rfl⟩ rfl rfl rfl rfl rfl (by kernel_rfl) Tryd.func9 (by kernel_rfl)
    (of_decide_eq_true (by kernel_rfl)) (by unfold Func.isWrapper; first | (rw [if_pos (by decide +kernel)]; kernel_rfl) | (rw [if_neg (by decide +kernel)]; exact ⟨rfl, rfl⟩))
    (fun os started H enc _ => orientUndoes_lifted os started H enc)
theorem orientUndoes_card : Rows.OrientUndoesCardSaid :=
  Claim7.holds_tied_plain_at .later [] [.data] true (true, "b45ebaff8e64017981d2538e62ac95c1ce686c7825d48336f20f0c3682e3a9c0") false
    orientUndoes_holds (fun _ h => by cases h) (by kernel_rfl) (fun _ h => by cases h) orientUndoes_row_tie rfl ⟨rfl, rfl⟩ (by kernel_rfl) rfl
    (fun f fn hf hfn => by
      obtain rfl : f = 9 := Option.some.inj ((show Tryd.prog.funcNamed "gangsaw/gangsawlaw28.OrientUndoes" = some 9 by kernel_rfl).symm.trans hf) |>.symm
      obtain rfl : fn = Tryd.f9 := (Option.some.inj (Tryd.func9.symm.trans hfn)).symm
      exact ⟨by kernel_rfl, fun j t ht => by
        rw [Tryd.params9] at ht
        have hm : t ∈ [25, 25, 27] := by simpa using Array.mem_of_getElem? ht
        have hall : ([25, 25, 27].all fun u => !Tryd.prog.wantsStandIn u) = true := by kernel_rfl
        exact (show Tryd.prog.wantsStandIn t = false by simpa using List.all_eq_true.1 hall t hm)⟩)
    (by kernel_rfl)
#print axioms orientUndoes_card
end Go.Proofs.YtibncdefhphggaaDoor
