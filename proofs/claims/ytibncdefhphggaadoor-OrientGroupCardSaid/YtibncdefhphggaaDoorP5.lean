/- OrientGroup holds for every input: the row and its card. -/
import Derived.Test.YtibncdefhphggaaDoorQ
import Derived.Test.YtibncdefhphggaaDoorCards
import Derived.Test.YtibncdefhphggaaDoorTie
import Derived.Test.YtibncdefhphggaaDoorW5
import Derived.SevenTiedAt
namespace Go.Proofs.YtibncdefhphggaaDoor
open Go.ChangeShapes Go.WideShapes Go.ChangeAt Go.RowKit Go.Joins
set_option linter.unusedVariables false

theorem Compose_any (a b : Int) : ∃ k e : Int, ∀ w, Calls Tryd.prog 30 #[.int .i64 a, .int .i64 b] w fun r w' => r = .returned (.tuple #[.int .i64 k, .int .i64 e]) ∧ Below w.heap.size w w' := by
  cases h : (isB a && isB b)
  · exact ⟨0, 1, fun w => Compose_no a b h w⟩
  · have h1 := (Bool.and_eq_true_iff.1 h).1
    have h2 := (Bool.and_eq_true_iff.1 h).2
    obtain ⟨m, rfl⟩ : ∃ m : Nat, a = m := ⟨a.toNat, by have := isB_t.1 h1; omega⟩
    obtain ⟨l, rfl⟩ : ∃ l : Nat, b = l := ⟨b.toNat, by have := isB_t.1 h2; omega⟩
    exact ⟨_, 0, fun w => Compose_c m l (isB_nat h1) (isB_nat h2) w⟩

theorem group_c (a b c x y z : Int) (w : World) (hu : Units w) :
    Calls Tryd.prog 5 #[.int .i64 a, .int .i64 b, .int .i64 c, vV x y z] w fun e w' => e = .returned (.bool true) ∧ Below w.heap.size w w' := by
  cases h : (isB a && isB b)
  · obtain ⟨k, e, H⟩ := Compose_any b c
    exact group_1 a b c x y z k e w hu (fun w => Compose_no a b h w) H
  have h1 := (Bool.and_eq_true_iff.1 h).1
  have h2 := (Bool.and_eq_true_iff.1 h).2
  obtain ⟨a, rfl⟩ : ∃ m : Nat, a = m := ⟨a.toNat, by have := isB_t.1 h1; omega⟩
  obtain ⟨b, rfl⟩ : ∃ m : Nat, b = m := ⟨b.toNat, by have := isB_t.1 h2; omega⟩
  have ha := isB_nat h1
  have hb := isB_nat h2
  cases h' : (isB (b : Int) && isB c)
  · exact group_2 a b c x y z _ w hu (fun w => Compose_c a b ha hb w) (fun w => Compose_no _ c h' w)
  have h3 := (Bool.and_eq_true_iff.1 h').2
  obtain ⟨c, rfl⟩ : ∃ m : Nat, c = m := ⟨c.toNat, by have := isB_t.1 h3; omega⟩
  have hc := isB_nat h3
  obtain ⟨ab, hab, eab⟩ := cmp_nat a b ha hb
  obtain ⟨bc, hbc, ebc⟩ := cmp_nat b c hb hc
  obtain ⟨hi, e0, e1⟩ := inv_lr a ha
  obtain ⟨i, ei⟩ : ∃ i : Nat, invT a = i := ⟨(invT a).toNat, by omega⟩
  have hi' : i < 24 := by omega
  rw [ei, Int.toNat_natCast] at e0 e1
  have hass := cmp_assoc a b c ha hb hc
  rw [eab, ebc, Int.toNat_natCast, Int.toNat_natCast] at hass
  have Hab := fun w => Compose_c a b ha hb w
  have Hbc := fun w => Compose_c b c hb hc w
  have Hx := fun w => Compose_c ab c hab hc w
  have Hy := fun w => Compose_c a bc ha hbc w
  have Hi := fun w => Invert_c a ha w
  have Ho := fun w => Compose_c i a hi' ha w
  have Ht := fun w => Compose_c a i ha hi' w
  rw [eab] at Hab
  rw [ebc] at Hbc
  rw [← hass] at Hy
  rw [ei] at Hi
  rw [e0] at Ho
  rw [e1] at Ht
  cases hn : nearB x y z
  · exact group_3 a b c x y z ab bc _ i w hu Hab Hbc Hx Hy Hi Ho Ht (fun w => Apply_far _ x y z h2 hn w)
  have hp := nearB_t.1 hn
  have b0 := ap_bd (i := 0) hb (by decide) hp.1 hp.2.1 hp.2.2
  have b1 := ap_bd (i := 1) hb (by decide) hp.1 hp.2.1 hp.2.2
  have b2 := ap_bd (i := 2) hb (by decide) hp.1 hp.2.1 hp.2.2
  have Hu := fun w => Apply_c ab x y z hab hn w
  have A0 := ap_cmp a b ha hb 0 (by decide) x y z
  have A1 := ap_cmp a b ha hb 1 (by decide) x y z
  have A2 := ap_cmp a b ha hb 2 (by decide) x y z
  rw [eab, Int.toNat_natCast] at A0 A1 A2
  rw [A0, A1, A2] at Hu
  exact group_4 a b c x y z ab bc _ i _ _ _ _ _ _ w hu Hab Hbc Hx Hy Hi Ho Ht (fun w => Apply_c b x y z hb hn w) (fun w => Apply_c a _ _ _ ha (nearB_t.2 ⟨b0, b1, b2⟩) w) Hu

set_option maxRecDepth 100000 in
theorem orientGroup_lifted (os : Os) (started : os.Started) (H : Type) (enc : TypeId × Value → H) :
    ReturnsInHanded {} Tryd.checked os 5 .any (fun w args => (Rows.orientGroupSpec.pre enc Tryd.prog Tryd.f5 [] false w args ∧ laidMetH Tryd.prog [("gangsaw/orient.units", Rows.laid_gangsaw_orient_units)] w) ∧ sizedMet enc Tryd.prog Tryd.f5 (OpenSpec.ofChange Rows.orientGroupSpec) false w args)
      (Rows.orientGroupSpec.post enc Tryd.prog Tryd.f5 false true false false) := by
  refine returnsInHanded_of_change_and (C := Tryd.checked) (X := fun w _ => laidMetH Tryd.prog [("gangsaw/orient.units", Rows.laid_gangsaw_orient_units)] w) (fun _ _ _ hh h => h.of_heap hh) own28 started (by kernel_rfl) Tryd.func5
    (ChangeSpec.witness_shaped (enc := enc) (C := Tryd.checked) (os := os) (X := fun w _ => laidMetH Tryd.prog [("gangsaw/orient.units", Rows.laid_gangsaw_orient_units)] w) false (World.doorLaid Tryd.prog 400 os) #[.int .i64 0, .int .i64 0, .int .i64 0, .agg #[.int .i64 0, .int .i64 0, .int .i64 0]] 8 rfl (World.shaped_of_RefB (by kernel_rfl) (by kernel_rfl)) (by kernel_rfl) (by kernel_rfl) (by kernel_rfl) (door_met os _)) ?_
  intro W base args ds gs before hval0 hW _ _ hL _
  have hval : ∀ (j : Nat) t v, Tryd.f5.params[j]? = some t → args[j]? = some v → Value.okWide Tryd.prog W .any base t v := hval0
  have hW' := hW
  obtain ⟨p, q, hA0, hV, rfl, hfz, hnd⟩ := hW
  have hA : DataW.TrodAll enc Tryd.prog W 0 (fun _ => true) true Tryd.f5.params.toList args.toList ds p := hA0
  rw [Tryd.params5] at hA hval
  obtain ⟨v0, v1, v2, v3, d0, d1, d2, d3, p0, p1, p2, p3, rfl, rfl, rfl, h0, h1, h2, h3⟩ := trodAll_four hA
  obtain ⟨rfl, rfl⟩ := trodVars_none hV
  obtain ⟨a, rfl, rfl, rfl, wa⟩ := open_int Tryd.underlying3 (hval 0 3 v0 rfl rfl) h0
  obtain ⟨b, rfl, rfl, rfl, wb⟩ := open_int Tryd.underlying3 (hval 1 3 v1 rfl rfl) h1
  obtain ⟨c, rfl, rfl, rfl, wc⟩ := open_int Tryd.underlying3 (hval 2 3 v2 rfl rfl) h2
  obtain ⟨x, y, z, rfl, rfl, rfl, wx, wy, wz⟩ := open_V (hval 3 23 v3 rfl rfl) h3
  have hu := units_of hL
  clear hA0 hval0
  simp only [List.append_nil] at hW'
  refine (group_c a b c x y z W hu).mono fun e W' ⟨he, hB⟩ => ?_
  subst he
  exact ⟨_, rfl, _, _, _, [], [], [], hW', trodAll_mk1 (shut_bool Tryd.underlying4 true), trodAll_mk4 (shut_int Tryd.underlying3 wa) (shut_int Tryd.underlying3 wb) (shut_int Tryd.underlying3 wc) (shut_V wx wy wz), rfl, hB.frame _, fun h => by cases h⟩

theorem orientGroup_holds : Rows.OrientGroupSaid :=
  OpenClaim.holds_of_wide 5 Tryd.f5 rfl rfl rfl rfl rfl rfl rfl ⟨rfl, rfl, rfl, rfl, rfl⟩ rfl rfl rfl rfl rfl (by kernel_rfl) Tryd.func5 (by kernel_rfl)
    (of_decide_eq_true (by kernel_rfl)) (by unfold Func.isWrapper; first | (rw [if_pos (by decide +kernel)]; kernel_rfl) | (rw [if_neg (by decide +kernel)]; exact ⟨rfl, rfl⟩))
    (fun os started H enc _ => orientGroup_lifted os started H enc)
theorem orientGroup_card : Rows.OrientGroupCardSaid :=
  Claim7.holds_tied_plain_at .later [] [.data] true (true, "b45ebaff8e64017981d2538e62ac95c1ce686c7825d48336f20f0c3682e3a9c0") false
    orientGroup_holds (fun _ h => by cases h) (by kernel_rfl) (fun _ h => by cases h) orientGroup_row_tie rfl ⟨rfl, rfl⟩ (by kernel_rfl) rfl
    (fun f fn hf hfn => by
      obtain rfl : f = 5 := Option.some.inj ((show Tryd.prog.funcNamed "gangsaw/gangsawlaw28.OrientGroup" = some 5 by kernel_rfl).symm.trans hf) |>.symm
      obtain rfl : fn = Tryd.f5 := (Option.some.inj (Tryd.func5.symm.trans hfn)).symm
      exact ⟨by kernel_rfl, fun j t ht => by
        rw [Tryd.params5] at ht
        have hm : t ∈ [3, 3, 3, 23] := by simpa using Array.mem_of_getElem? ht
        have hall : ([3, 3, 3, 23].all fun u => !Tryd.prog.wantsStandIn u) = true := by kernel_rfl
        exact (show Tryd.prog.wantsStandIn t = false by simpa using List.all_eq_true.1 hall t hm)⟩)
    (by kernel_rfl)
#print axioms orientGroup_card
end Go.Proofs.YtibncdefhphggaaDoor
