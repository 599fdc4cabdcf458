/- OrientPoses holds for every input: the row and its card. -/
import Derived.Test.YtibncdefhphggaaDoorQ
import Derived.Test.YtibncdefhphggaaDoorCards
import Derived.Test.YtibncdefhphggaaDoorTie
import Derived.Test.YtibncdefhphggaaDoorW10a
import Derived.Test.YtibncdefhphggaaDoorW10b
import Derived.Test.YtibncdefhphggaaDoorW10c
import Derived.Test.YtibncdefhphggaaDoorB11
import Derived.Test.YtibncdefhphggaaDoorA19
import Derived.SevenTiedAt
namespace Go.Proofs.YtibncdefhphggaaDoor
open Go.ChangeShapes Go.WideShapes Go.ChangeAt Go.RowKit Go.Joins
set_option linter.unusedVariables false

set_option linter.unusedSimpArgs false in
set_option maxHeartbeats 8000000 in
theorem poses_c (n a0 a1 a2 m b0 b1 b2 x y z : Int) (w : World) (hu : Units w) :
    Calls Tryd.prog 10 #[vP n a0 a1 a2, vP m b0 b1 b2, vV x y z] w fun e w' => e = .returned (.bool true) ∧ Below w.heap.size w w' := by
  have Hq : ∀ W, Below w.heap.size w W → Calls Tryd.prog 15 #[] W fun r w' => r = .returned (.bool true) ∧ Below W.heap.size W w' := fun W h => awake_c W (hu.later h)
  have H1 := fun w => Point_c n a0 a1 a2 x y z w
  have H2 := fun w => Join_c n a0 a1 a2 m b0 b1 b2 w
  have H3 := fun w => Undo_c n a0 a1 a2 w
  cases hn : isB n
  · simp only [pointV, hn, Bool.and_self, Bool.and_false, Bool.false_and, Bool.and_true, Bool.true_and, if_true, Bool.false_eq_true, if_false, Int.toNat_natCast, ↓reduceIte] at H1
    simp only [joinV, hn, Bool.and_self, Bool.and_false, Bool.false_and, Bool.and_true, Bool.true_and, if_true, Bool.false_eq_true, if_false, Int.toNat_natCast, ↓reduceIte] at H2
    simp only [undoV, hn, Bool.and_self, Bool.and_false, Bool.false_and, Bool.and_true, Bool.true_and, if_true, Bool.false_eq_true, if_false, Int.toNat_natCast, ↓reduceIte] at H3
    exact poses_1 n a0 a1 a2 m b0 b1 b2 x y z 0 0 0 0 0 0 0 0 0 0 0 w Hq H1 H2 H3 (fun w => rIs_c n _ hn w)
  obtain ⟨n, rfl⟩ : ∃ a : Nat, n = a := ⟨n.toNat, by have := isB_t.1 hn; omega⟩
  have n24 : n < 24 := isB_nat hn
  have In := fun w => rIs_c (n : Int) true hn w
  cases ha : nearB a0 a1 a2
  · have Na := fun w => rNear_c a0 a1 a2 false ha w
    simp only [pointV, hn, ha, Bool.and_self, Bool.and_false, Bool.false_and, Bool.and_true, Bool.true_and, if_true, Bool.false_eq_true, if_false, Int.toNat_natCast, ↓reduceIte] at H1
    simp only [undoV, hn, ha, Bool.and_self, Bool.and_false, Bool.false_and, Bool.and_true, Bool.true_and, if_true, Bool.false_eq_true, if_false, Int.toNat_natCast, ↓reduceIte] at H3
    cases hm : isB m
    · simp only [joinV, hn, hm, Bool.and_self, Bool.and_false, Bool.false_and, Bool.and_true, Bool.true_and, if_true, Bool.false_eq_true, if_false, Int.toNat_natCast, ↓reduceIte] at H2
      exact poses_2 n a0 a1 a2 m b0 b1 b2 x y z 0 0 0 0 0 0 0 0 0 0 0 w Hq H1 H2 H3 In (fun w => rIs_c m _ hm w) Na
    · simp only [joinV, hn, hm, ha, Bool.and_self, Bool.and_false, Bool.false_and, Bool.and_true, Bool.true_and, if_true, Bool.false_eq_true, if_false, Int.toNat_natCast, ↓reduceIte] at H2
      exact poses_3 n a0 a1 a2 m b0 b1 b2 x y z 0 0 0 0 0 0 0 0 0 0 0 w Hq H1 H2 H3 In (fun w => rIs_c m _ hm w) Na
  have ha' := nearB_t.1 ha
  have Na := fun w => rNear_c a0 a1 a2 true ha w
  have R3 := fun w => rundo_c n n24 a0 a1 a2 (by omega) (by omega) (by omega) w
  simp only [undoV, hn, ha, Bool.and_self, Bool.and_false, Bool.false_and, Bool.and_true, Bool.true_and, if_true, Bool.false_eq_true, if_false, Int.toNat_natCast, ↓reduceIte] at H3
  cases hm : isB m
  · have Im := fun w => rIs_c m _ hm w
    simp only [joinV, hn, hm, Bool.and_self, Bool.and_false, Bool.false_and, Bool.and_true, Bool.true_and, if_true, Bool.false_eq_true, if_false, Int.toNat_natCast, ↓reduceIte] at H2
    cases hp : nearB x y z
    · have Np := fun w => rNear_c x y z false hp w
      simp only [pointV, hn, ha, hp, Bool.and_self, Bool.and_false, Bool.false_and, Bool.and_true, Bool.true_and, if_true, Bool.false_eq_true, if_false, Int.toNat_natCast, ↓reduceIte] at H1
      exact poses_4 n a0 a1 a2 m b0 b1 b2 x y z 0 0 0 0 0 0 0 _ _ _ _ w Hq H1 H2 H3 In Im Na Np R3
    have hp' := nearB_t.1 hp
    have Np := fun w => rNear_c x y z true hp w
    have Hp := fun w => rpoint_c n n24 a0 a1 a2 x y z (by omega) (by omega) (by omega) (by omega) (by omega) (by omega) w
    cases hv : nearB (ap n 0 x y z + a0) (ap n 1 x y z + a1) (ap n 2 x y z + a2)
    · have Nv := fun w => rNear_c _ _ _ false hv w
      simp only [pointV, hn, ha, hp, hv, Bool.and_self, Bool.and_false, Bool.false_and, Bool.and_true, Bool.true_and, if_true, Bool.false_eq_true, if_false, Int.toNat_natCast, ↓reduceIte] at H1
      exact poses_5 n a0 a1 a2 m b0 b1 b2 x y z _ _ _ 0 0 0 0 _ _ _ _ w Hq H1 H2 H3 In Im Na Np Hp Nv R3
    have Nv := fun w => rNear_c _ _ _ true hv w
    simp only [pointV, hn, ha, hp, hv, Bool.and_self, Bool.and_false, Bool.false_and, Bool.and_true, Bool.true_and, if_true, Bool.false_eq_true, if_false, Int.toNat_natCast, ↓reduceIte] at H1
    exact poses_6 n a0 a1 a2 m b0 b1 b2 x y z _ _ _ 0 0 0 0 _ _ _ _ w Hq H1 H2 H3 In Im Na Np Hp Nv R3
  obtain ⟨m, rfl⟩ : ∃ a : Nat, m = a := ⟨m.toNat, by have := isB_t.1 hm; omega⟩
  have m24 : m < 24 := isB_nat hm
  have Im := fun w => rIs_c (m : Int) true hm w
  cases hb : nearB b0 b1 b2
  · have Nb := fun w => rNear_c b0 b1 b2 false hb w
    simp only [joinV, hn, hm, ha, hb, Bool.and_self, Bool.and_false, Bool.false_and, Bool.and_true, Bool.true_and, if_true, Bool.false_eq_true, if_false, Int.toNat_natCast, ↓reduceIte] at H2
    cases hp : nearB x y z
    · have Np := fun w => rNear_c x y z false hp w
      simp only [pointV, hn, ha, hp, Bool.and_self, Bool.and_false, Bool.false_and, Bool.and_true, Bool.true_and, if_true, Bool.false_eq_true, if_false, Int.toNat_natCast, ↓reduceIte] at H1
      exact poses_7 n a0 a1 a2 m b0 b1 b2 x y z 0 0 0 0 0 0 0 _ _ _ _ w Hq H1 H2 H3 In Im Na Np Nb R3
    have hp' := nearB_t.1 hp
    have Np := fun w => rNear_c x y z true hp w
    have Hp := fun w => rpoint_c n n24 a0 a1 a2 x y z (by omega) (by omega) (by omega) (by omega) (by omega) (by omega) w
    cases hv : nearB (ap n 0 x y z + a0) (ap n 1 x y z + a1) (ap n 2 x y z + a2)
    · have Nv := fun w => rNear_c _ _ _ false hv w
      simp only [pointV, hn, ha, hp, hv, Bool.and_self, Bool.and_false, Bool.false_and, Bool.and_true, Bool.true_and, if_true, Bool.false_eq_true, if_false, Int.toNat_natCast, ↓reduceIte] at H1
      exact poses_10 n a0 a1 a2 m b0 b1 b2 x y z _ _ _ 0 0 0 0 _ _ _ _ w Hq H1 H2 H3 In Im Na Np Hp Nv Nb R3
    have Nv := fun w => rNear_c _ _ _ true hv w
    simp only [pointV, hn, ha, hp, hv, Bool.and_self, Bool.and_false, Bool.false_and, Bool.and_true, Bool.true_and, if_true, Bool.false_eq_true, if_false, Int.toNat_natCast, ↓reduceIte] at H1
    exact poses_13 n a0 a1 a2 m b0 b1 b2 x y z _ _ _ 0 0 0 0 _ _ _ _ w Hq H1 H2 H3 In Im Na Np Hp Nv Nb R3
  have hb' := nearB_t.1 hb
  have Nb := fun w => rNear_c b0 b1 b2 true hb w
  have Hj := fun w => rpoint_c n n24 a0 a1 a2 b0 b1 b2 (by omega) (by omega) (by omega) (by omega) (by omega) (by omega) w
  cases hj : nearB (ap n 0 b0 b1 b2 + a0) (ap n 1 b0 b1 b2 + a1) (ap n 2 b0 b1 b2 + a2)
  · have Nj := fun w => rNear_c _ _ _ false hj w
    simp only [joinV, hn, hm, ha, hb, hj, Bool.and_self, Bool.and_false, Bool.false_and, Bool.and_true, Bool.true_and, if_true, Bool.false_eq_true, if_false, Int.toNat_natCast, ↓reduceIte] at H2
    cases hp : nearB x y z
    · have Np := fun w => rNear_c x y z false hp w
      simp only [pointV, hn, ha, hp, Bool.and_self, Bool.and_false, Bool.false_and, Bool.and_true, Bool.true_and, if_true, Bool.false_eq_true, if_false, Int.toNat_natCast, ↓reduceIte] at H1
      exact poses_8 n a0 a1 a2 m b0 b1 b2 x y z 0 0 0 0 _ _ _ _ _ _ _ w Hq H1 H2 H3 In Im Na Np Nb Hj Nj R3
    have hp' := nearB_t.1 hp
    have Np := fun w => rNear_c x y z true hp w
    have Hp := fun w => rpoint_c n n24 a0 a1 a2 x y z (by omega) (by omega) (by omega) (by omega) (by omega) (by omega) w
    cases hv : nearB (ap n 0 x y z + a0) (ap n 1 x y z + a1) (ap n 2 x y z + a2)
    · have Nv := fun w => rNear_c _ _ _ false hv w
      simp only [pointV, hn, ha, hp, hv, Bool.and_self, Bool.and_false, Bool.false_and, Bool.and_true, Bool.true_and, if_true, Bool.false_eq_true, if_false, Int.toNat_natCast, ↓reduceIte] at H1
      exact poses_11 n a0 a1 a2 m b0 b1 b2 x y z _ _ _ 0 _ _ _ _ _ _ _ w Hq H1 H2 H3 In Im Na Np Hp Nv Nb Hj Nj R3
    have Nv := fun w => rNear_c _ _ _ true hv w
    simp only [pointV, hn, ha, hp, hv, Bool.and_self, Bool.and_false, Bool.false_and, Bool.and_true, Bool.true_and, if_true, Bool.false_eq_true, if_false, Int.toNat_natCast, ↓reduceIte] at H1
    exact poses_14 n a0 a1 a2 m b0 b1 b2 x y z _ _ _ 0 _ _ _ _ _ _ _ w Hq H1 H2 H3 In Im Na Np Hp Nv Nb Hj Nj R3
  have Nj := fun w => rNear_c _ _ _ true hj w
  have R2 := fun w => rjoin_c n m n24 m24 a0 a1 a2 b0 b1 b2 (by omega) (by omega) (by omega) (by omega) (by omega) (by omega) w
  simp only [joinV, hn, hm, ha, hb, hj, Bool.and_self, Bool.and_false, Bool.false_and, Bool.and_true, Bool.true_and, if_true, Bool.false_eq_true, if_false, Int.toNat_natCast, ↓reduceIte] at H2
  cases hp : nearB x y z
  · have Np := fun w => rNear_c x y z false hp w
    simp only [pointV, hn, ha, hp, Bool.and_self, Bool.and_false, Bool.false_and, Bool.and_true, Bool.true_and, if_true, Bool.false_eq_true, if_false, Int.toNat_natCast, ↓reduceIte] at H1
    exact poses_9 n a0 a1 a2 m b0 b1 b2 x y z 0 0 0 _ _ _ _ _ _ _ _ w Hq H1 H2 H3 In Im Na Np Nb Hj Nj R2 R3
  have hp' := nearB_t.1 hp
  have Np := fun w => rNear_c x y z true hp w
  have Hp := fun w => rpoint_c n n24 a0 a1 a2 x y z (by omega) (by omega) (by omega) (by omega) (by omega) (by omega) w
  cases hv : nearB (ap n 0 x y z + a0) (ap n 1 x y z + a1) (ap n 2 x y z + a2)
  · have Nv := fun w => rNear_c _ _ _ false hv w
    simp only [pointV, hn, ha, hp, hv, Bool.and_self, Bool.and_false, Bool.false_and, Bool.and_true, Bool.true_and, if_true, Bool.false_eq_true, if_false, Int.toNat_natCast, ↓reduceIte] at H1
    exact poses_12 n a0 a1 a2 m b0 b1 b2 x y z _ _ _ _ _ _ _ _ _ _ _ w Hq H1 H2 H3 In Im Na Np Hp Nv Nb Hj Nj R2 R3
  have Nv := fun w => rNear_c _ _ _ true hv w
  simp only [pointV, hn, ha, hp, hv, Bool.and_self, Bool.and_false, Bool.false_and, Bool.and_true, Bool.true_and, if_true, Bool.false_eq_true, if_false, Int.toNat_natCast, ↓reduceIte] at H1
  exact poses_15 n a0 a1 a2 m b0 b1 b2 x y z _ _ _ _ _ _ _ _ _ _ _ w Hq H1 H2 H3 In Im Na Np Hp Nv Nb Hj Nj R2 R3
set_option maxRecDepth 100000 in
theorem orientPoses_lifted (os : Os) (started : os.Started) (H : Type) (enc : TypeId × Value → H) :
    ReturnsInHanded {} Tryd.checked os 10 .any (fun w args => (Rows.orientPosesSpec.pre enc Tryd.prog Tryd.f10 [] false w args ∧ laidMetH Tryd.prog [("gangsaw/orient.units", Rows.laid_gangsaw_orient_units)] w) ∧ sizedMet enc Tryd.prog Tryd.f10 (OpenSpec.ofChange Rows.orientPosesSpec) false w args)
      (Rows.orientPosesSpec.post enc Tryd.prog Tryd.f10 false true false false) := by
  refine returnsInHanded_of_change_and (C := Tryd.checked) (X := fun w _ => laidMetH Tryd.prog [("gangsaw/orient.units", Rows.laid_gangsaw_orient_units)] w) (fun _ _ _ hh h => h.of_heap hh) own28 started (by kernel_rfl) Tryd.func10
    (ChangeSpec.witness_shaped (enc := enc) (C := Tryd.checked) (os := os) (X := fun w _ => laidMetH Tryd.prog [("gangsaw/orient.units", Rows.laid_gangsaw_orient_units)] w) false (World.doorLaid Tryd.prog 400 os) #[.agg #[.int .i64 0, .int .i64 0, .int .i64 0, .int .i64 0], .agg #[.int .i64 0, .int .i64 0, .int .i64 0, .int .i64 0], .agg #[.int .i64 0, .int .i64 0, .int .i64 0]] 8 rfl (World.shaped_of_RefB (by kernel_rfl) (by kernel_rfl)) (by kernel_rfl) (by kernel_rfl) (by kernel_rfl) (door_met os _)) ?_
  intro W base args ds gs before hval0 hW _ _ hL _
  have hval : ∀ (j : Nat) t v, Tryd.f10.params[j]? = some t → args[j]? = some v → Value.okWide Tryd.prog W .any base t v := hval0
  have hW' := hW
  obtain ⟨p, q, hA0, hV, rfl, hfz, hnd⟩ := hW
  have hA : DataW.TrodAll enc Tryd.prog W 0 (fun _ => true) true Tryd.f10.params.toList args.toList ds p := hA0
  rw [Tryd.params10] at hA hval
  obtain ⟨v0, v1, v2, d0, d1, d2, p0, p1, p2, rfl, rfl, rfl, h0, h1, h2⟩ := trodAll_three hA
  obtain ⟨rfl, rfl⟩ := trodVars_none hV
  obtain ⟨n, a0, a1, a2, rfl, rfl, rfl, wn, wa0, wa1, wa2⟩ := open_P (hval 0 25 v0 rfl rfl) h0
  obtain ⟨m, b0, b1, b2, rfl, rfl, rfl, wm, wb0, wb1, wb2⟩ := open_P (hval 1 25 v1 rfl rfl) h1
  obtain ⟨x, y, z, rfl, rfl, rfl, wx, wy, wz⟩ := open_V (hval 2 23 v2 rfl rfl) h2
  have hu := units_of hL
  clear hA0 hval0
  simp only [List.append_nil] at hW'
  refine (poses_c n a0 a1 a2 m b0 b1 b2 x y z W hu).mono fun e W' ⟨he, hB⟩ => ?_
  subst he
  exact ⟨_, rfl, _, _, _, [], [], [], hW', trodAll_mk1 (shut_bool Tryd.underlying4 true), trodAll_mk3 (shut_P wn wa0 wa1 wa2) (shut_P wm wb0 wb1 wb2) (shut_V wx wy wz), rfl, hB.frame _, fun h => by cases h⟩

theorem orientPoses_holds : Rows.OrientPosesSaid :=
  OpenClaim.holds_of_wide 10 Tryd.f10 rfl rfl rfl rfl rfl rfl rfl ⟨rfl, rfl, rfl, rfl, rfl⟩ rfl rfl rfl rfl rfl (by kernel_rfl) Tryd.func10 (by kernel_rfl)
    (of_decide_eq_true (by kernel_rfl)) (by unfold Func.isWrapper; first | (rw [if_pos (by decide +kernel)]; kernel_rfl) | (rw [if_neg (by decide +kernel)]; exact ⟨rfl, rfl⟩))
    (fun os started H enc _ => orientPoses_lifted os started H enc)
theorem orientPoses_card : Rows.OrientPosesCardSaid :=
  Claim7.holds_tied_plain_at .later [] [.data] true (true, "b45ebaff8e64017981d2538e62ac95c1ce686c7825d48336f20f0c3682e3a9c0") false
    orientPoses_holds (fun _ h => by cases h) (by kernel_rfl) (fun _ h => by cases h) orientPoses_row_tie rfl ⟨rfl, rfl⟩ (by kernel_rfl) rfl
    (fun f fn hf hfn => by
      obtain rfl : f = 10 := Option.some.inj ((show Tryd.prog.funcNamed "gangsaw/gangsawlaw28.OrientPoses" = some 10 by kernel_rfl).symm.trans hf) |>.symm
      obtain rfl : fn = Tryd.f10 := (Option.some.inj (Tryd.func10.symm.trans hfn)).symm
      exact ⟨by kernel_rfl, fun j t ht => by
        rw [Tryd.params10] at ht
        have hm : t ∈ [25, 25, 23] := by simpa using Array.mem_of_getElem? ht
        have hall : ([25, 25, 23].all fun u => !Tryd.prog.wantsStandIn u) = true := by kernel_rfl
        exact (show Tryd.prog.wantsStandIn t = false by simpa using List.all_eq_true.1 hall t hm)⟩)
    (by kernel_rfl)
#print axioms orientPoses_card
end Go.Proofs.YtibncdefhphggaaDoor
