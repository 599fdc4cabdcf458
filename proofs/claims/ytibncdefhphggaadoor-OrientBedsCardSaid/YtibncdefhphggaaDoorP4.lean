/- OrientBeds holds for every input: the row and its card. -/
import Derived.Test.YtibncdefhphggaaDoorQ
import Derived.Test.YtibncdefhphggaaDoorCards
import Derived.Test.YtibncdefhphggaaDoorTie
import Derived.Test.YtibncdefhphggaaDoorW4
import Derived.Test.YtibncdefhphggaaDoorB11
import Derived.SevenTiedAt
namespace Go.Proofs.YtibncdefhphggaaDoor
open Go.ChangeShapes Go.WideShapes Go.ChangeAt Go.RowKit Go.Joins
set_option linter.unusedVariables false

theorem knB_t {bed : Int} : knB bed = true ↔ 0 ≤ bed ∧ bed ≤ 3 := by simp [knB]
theorem knB_f {bed : Int} : knB bed = false ↔ bed < 0 ∨ 3 < bed := by simp [knB]; omega
theorem allowed_any (bed n : Int) : ∃ al : Bool, (∀ w, Units w → Calls Tryd.prog 26 #[.int .i64 bed, .int .i64 n] w fun e w' => e = .returned (.bool al) ∧ Below w.heap.size w w') ∧ (∀ w, Calls Tryd.prog 27 #[.int .i64 bed, .int .i64 n] w fun e w' => e = .returned (.bool al) ∧ Below w.heap.size w w') := by
  cases hn : isB n
  · exact ⟨false, fun w _ => allowed_no bed n hn w, fun w => rallowed_no bed n hn w⟩
  · obtain ⟨m, rfl⟩ : ∃ m : Nat, n = m := ⟨n.toNat, by have := isB_t.1 hn; omega⟩
    have hm := isB_nat hn
    refine ⟨alB bed m, fun w hu => allowed_c bed m hm w hu, fun w => ?_⟩
    have := rallowed_c bed m hm w
    rw [al_ref bed m hm] at this
    exact this

theorem beds_c (bed n x y z p q r : Int) (w : World) (hu : Units w) :
    Calls Tryd.prog 4 #[.int .i64 bed, .int .i64 n, vV x y z, vV p q r] w fun e w' => e = .returned (.bool true) ∧ Below w.heap.size w w' := by
  obtain ⟨al, Ha, Hr⟩ := allowed_any bed n
  cases hk : knB bed
  · exact beds_1 bed n x y z p q r al w hu (knB_f.1 hk) (fun w _ => List_no bed hk w) (fun w _ => Fits_no bed x y z p q r (by rw [hk]; rfl) w) Ha Hr
  have hb := knB_t.1 hk
  have eL : kept (fun k => alB bed k && true) 24 = kept (fun k => ralB bed (ap k 2 0 0 1)) 24 := kept_congr (fun n h => by rw [al_ref bed n h, Bool.and_true])
  have Hl := fun w hu => List_c bed hk w hu
  rw [eL] at Hl
  have Hz := fun w => rfits_all bed 0 0 0 0 0 0 w
  have hx : (kept (fun k => ralB bed (ap k 2 0 0 1)) 24).length ≤ 1000000 := Nat.le_trans (kept_len _ _) (by decide)
  cases hz : (szB x y z && szB p q r)
  · refine beds_2 bed n x y z p q r al _ hx w hu hb.1 hb.2 (szB x y z) rfl (fun h => ?_) Hl (fun w _ => Fits_no bed x y z p q r (by rw [hz, hk]; rfl) w) Ha Hr Hz
    rw [h] at hz
    simpa using hz
  have h1 := (Bool.and_eq_true_iff.1 hz).1
  have h2 := (Bool.and_eq_true_iff.1 hz).2
  have s1 := szB_t.1 h1
  have eF : kept (fitP bed x y z p q r) 24 = kept (fun k => ralB bed (ap k 2 0 0 1) && decide (ext k 0 x y z = p ∧ ext k 1 x y z = q ∧ ext k 2 x y z = r)) 24 := kept_congr (fun n h => by unfold fitP; rw [al_ref bed n h])
  have Hf := fun w hu => Fits_c bed x y z p q r hk hz w hu
  rw [eF] at Hf
  have Hy := fun w => rfits_some bed x y z p q r (fun k i => ext k i x y z) (fun k hk w => rsize_c k hk x y z (by omega) (by omega) (by omega) w) w
  exact beds_3 bed n x y z p q r al _ _ hx (Nat.le_trans (kept_len _ _) (by decide)) w hu hb.1 hb.2 h1 h2 Hl Hf Ha Hr Hz Hy

set_option maxRecDepth 100000 in
theorem orientBeds_lifted (os : Os) (started : os.Started) (H : Type) (enc : TypeId × Value → H) :
    ReturnsInHanded {} Tryd.checked os 4 .any (fun w args => (Rows.orientBedsSpec.pre enc Tryd.prog Tryd.f4 [] false w args ∧ laidMetH Tryd.prog [("gangsaw/orient.units", Rows.laid_gangsaw_orient_units)] w) ∧ sizedMet enc Tryd.prog Tryd.f4 (OpenSpec.ofChange Rows.orientBedsSpec) false w args)
      (Rows.orientBedsSpec.post enc Tryd.prog Tryd.f4 false true false false) := by
  refine returnsInHanded_of_change_and (C := Tryd.checked) (X := fun w _ => laidMetH Tryd.prog [("gangsaw/orient.units", Rows.laid_gangsaw_orient_units)] w) (fun _ _ _ hh h => h.of_heap hh) own28 started (by kernel_rfl) Tryd.func4
    (ChangeSpec.witness_shaped (enc := enc) (C := Tryd.checked) (os := os) (X := fun w _ => laidMetH Tryd.prog [("gangsaw/orient.units", Rows.laid_gangsaw_orient_units)] w) false (World.doorLaid Tryd.prog 400 os) #[.int .i64 0, .int .i64 0, .agg #[.int .i64 0, .int .i64 0, .int .i64 0], .agg #[.int .i64 0, .int .i64 0, .int .i64 0]] 8 rfl (World.shaped_of_RefB (by kernel_rfl) (by kernel_rfl)) (by kernel_rfl) (by kernel_rfl) (by kernel_rfl) (door_met os _)) ?_
  intro W base args ds gs before hval0 hW _ _ hL _
  have hval : ∀ (j : Nat) t v, Tryd.f4.params[j]? = some t → args[j]? = some v → Value.okWide Tryd.prog W .any base t v := hval0
  have hW' := hW
  obtain ⟨p, q, hA0, hV, rfl, hfz, hnd⟩ := hW
  have hA : DataW.TrodAll enc Tryd.prog W 0 (fun _ => true) true Tryd.f4.params.toList args.toList ds p := hA0
  rw [Tryd.params4] at hA hval
  obtain ⟨v0, v1, v2, v3, d0, d1, d2, d3, p0, p1, p2, p3, rfl, rfl, rfl, h0, h1, h2, h3⟩ := trodAll_four hA
  obtain ⟨rfl, rfl⟩ := trodVars_none hV
  obtain ⟨bed, rfl, rfl, rfl, wbed⟩ := open_int Tryd.underlying3 (hval 0 3 v0 rfl rfl) h0
  obtain ⟨n, rfl, rfl, rfl, wn⟩ := open_int Tryd.underlying3 (hval 1 3 v1 rfl rfl) h1
  obtain ⟨x, y, z, rfl, rfl, rfl, wx, wy, wz⟩ := open_V (hval 2 23 v2 rfl rfl) h2
  obtain ⟨p, q, r, rfl, rfl, rfl, wp, wq, wr⟩ := open_V (hval 3 23 v3 rfl rfl) h3
  have hu := units_of hL
  clear hA0 hval0
  simp only [List.append_nil] at hW'
  refine (beds_c bed n x y z p q r W hu).mono fun e W' ⟨he, hB⟩ => ?_
  subst he
  exact ⟨_, rfl, _, _, _, [], [], [], hW', trodAll_mk1 (shut_bool Tryd.underlying4 true), trodAll_mk4 (shut_int Tryd.underlying3 wbed) (shut_int Tryd.underlying3 wn) (shut_V wx wy wz) (shut_V wp wq wr), rfl, hB.frame _, fun h => by cases h⟩

theorem orientBeds_holds : Rows.OrientBedsSaid :=
  OpenClaim.holds_of_wide 4 Tryd.f4 rfl rfl rfl rfl rfl rfl rfl ⟨rfl, rfl, rfl, rfl, rfl⟩ rfl rfl rfl rfl rfl (by kernel_rfl) Tryd.func4 (by kernel_rfl)
    (of_decide_eq_true (by kernel_rfl)) (by unfold Func.isWrapper; first | (rw [if_pos (by decide +kernel)]; kernel_rfl) | (rw [if_neg (by decide +kernel)]; exact ⟨rfl, rfl⟩))
    (fun os started H enc _ => orientBeds_lifted os started H enc)
theorem orientBeds_card : Rows.OrientBedsCardSaid :=
  Claim7.holds_tied_plain_at .later [] [.data] true (true, "b45ebaff8e64017981d2538e62ac95c1ce686c7825d48336f20f0c3682e3a9c0") false
    orientBeds_holds (fun _ h => by cases h) (by kernel_rfl) (fun _ h => by cases h) orientBeds_row_tie rfl ⟨rfl, rfl⟩ (by kernel_rfl) rfl
    (fun f fn hf hfn => by
      obtain rfl : f = 4 := Option.some.inj ((show Tryd.prog.funcNamed "gangsaw/gangsawlaw28.OrientBeds" = some 4 by kernel_rfl).symm.trans hf) |>.symm
      obtain rfl : fn = Tryd.f4 := (Option.some.inj (Tryd.func4.symm.trans hfn)).symm
      exact ⟨by kernel_rfl, fun j t ht => by
        rw [Tryd.params4] at ht
        have hm : t ∈ [3, 3, 23, 23] := by simpa using Array.mem_of_getElem? ht
        have hall : ([3, 3, 23, 23].all fun u => !Tryd.prog.wantsStandIn u) = true := by kernel_rfl
        exact (show Tryd.prog.wantsStandIn t = false by simpa using List.all_eq_true.1 hall t hm)⟩)
    (by kernel_rfl)
#print axioms orientBeds_card
end Go.Proofs.YtibncdefhphggaaDoor
