/- OrientTurns holds for every input: the row and its card. -/
import Derived.Test.YtibncdefhphggaaDoorQ
import Derived.Test.YtibncdefhphggaaDoorCards
import Derived.Test.YtibncdefhphggaaDoorTie
import Derived.Test.YtibncdefhphggaaDoorW7a
import Derived.Test.YtibncdefhphggaaDoorW7b
import Derived.Test.YtibncdefhphggaaDoorB11
import Derived.Test.YtibncdefhphggaaDoorA19
import Derived.SevenTiedAt
namespace Go.Proofs.YtibncdefhphggaaDoor
open Go.ChangeShapes Go.WideShapes Go.ChangeAt Go.RowKit Go.Joins
set_option linter.unusedVariables false

theorem turns_c (n m x y z d : Int) (w : World) (hu : Units w) :
    Calls Tryd.prog 7 #[.int .i64 n, .int .i64 m, vV x y z, .int .i64 d] w fun e w' => e = .returned (.bool true) ∧ Below w.heap.size w w' := by
  have Hq : ∀ W, Below w.heap.size w W → Calls Tryd.prog 15 #[] W fun r w' => r = .returned (.bool true) ∧ Below W.heap.size W w' := fun W h => awake_c W (hu.later h)
  cases hn : isB n
  · exact turns_1 n m x y z d 0 0 0 0 0 0 w Hq (fun w => Apply_no n x y z hn w) (fun w => Compose_no n m (by rw [hn]; rfl) w) (fun w => Invert_no n hn w) (fun W _ => Direction_no n d (.inl hn) W) (fun w => rIs_c n _ hn w)
  obtain ⟨n, rfl⟩ : ∃ a : Nat, n = a := ⟨n.toNat, by have := isB_t.1 hn; omega⟩
  have n24 : n < 24 := isB_nat hn
  have In := fun w => rIs_c (n : Int) true hn w
  have H3 := fun w => Invert_c n n24 w
  have R3 := fun w => rinvert_c n n24 w
  rw [inv_ref n n24] at R3
  cases hr : nearB x y z
  · have H1 := fun w => Apply_far n x y z hn hr w
    have Np := fun w => rNear_c x y z false hr w
    cases hm : isB m
    · have H2 := fun w => Compose_no n m (by rw [hm, Bool.and_false]) w
      have Im := fun w => rIs_c m false hm w
      by_cases d0 : d < 0
      · exact turns_2 n m x y z d 0 0 0 0 _ 0 w Hq H1 H2 H3 (fun W _ => Direction_no n d (.inr (.inl d0)) W) In Np Im R3 d0
      by_cases d5 : 5 < d
      · exact turns_3 n m x y z d 0 0 0 0 _ 0 w Hq H1 H2 H3 (fun W _ => Direction_no n d (.inr (.inr d5)) W) In Np Im R3 (by omega) d5
      obtain ⟨d, rfl⟩ : ∃ a : Nat, d = a := ⟨d.toNat, by omega⟩
      have R4 := fun w => rdirection_c n d n24 (by omega) w
      rw [dir_ref n n24 d (by omega)] at R4
      exact turns_4 n m x y z d 0 0 0 0 _ _ w Hq H1 H2 H3 (fun W h => Direction_c n d n24 (by omega) W (hu.later h)) In Np Im R3 R4 (by omega) (by omega)
    obtain ⟨m, rfl⟩ : ∃ a : Nat, m = a := ⟨m.toNat, by have := isB_t.1 hm; omega⟩
    have m24 : m < 24 := isB_nat hm
    have Im := fun w => rIs_c (m : Int) true hm w
    have H2 := fun w => Compose_c n m n24 m24 w
    have R2 := fun w => rcompose_c n m n24 m24 w
    rw [cmp_ref n n24 m m24] at R2
    by_cases d0 : d < 0
    · exact turns_5 n m x y z d 0 0 0 _ _ 0 w Hq H1 H2 H3 (fun W _ => Direction_no n d (.inr (.inl d0)) W) In Np Im R2 R3 d0
    by_cases d5 : 5 < d
    · exact turns_6 n m x y z d 0 0 0 _ _ 0 w Hq H1 H2 H3 (fun W _ => Direction_no n d (.inr (.inr d5)) W) In Np Im R2 R3 (by omega) d5
    obtain ⟨d, rfl⟩ : ∃ a : Nat, d = a := ⟨d.toNat, by omega⟩
    have R4 := fun w => rdirection_c n d n24 (by omega) w
    rw [dir_ref n n24 d (by omega)] at R4
    exact turns_7 n m x y z d 0 0 0 _ _ _ w Hq H1 H2 H3 (fun W h => Direction_c n d n24 (by omega) W (hu.later h)) In Np Im R2 R3 R4 (by omega) (by omega)
  have hr' := nearB_t.1 hr
  have H1 := fun w => Apply_c n x y z n24 hr w
  have Np := fun w => rNear_c x y z true hr w
  have R1 := fun w => rapply_c n n24 x y z (by omega) (by omega) (by omega) w
  cases hm : isB m
  · have H2 := fun w => Compose_no n m (by rw [hm, Bool.and_false]) w
    have Im := fun w => rIs_c m false hm w
    by_cases d0 : d < 0
    · exact turns_8 n m x y z d _ _ _ 0 _ 0 w Hq H1 H2 H3 (fun W _ => Direction_no n d (.inr (.inl d0)) W) In Np Im R1 R3 d0
    by_cases d5 : 5 < d
    · exact turns_9 n m x y z d _ _ _ 0 _ 0 w Hq H1 H2 H3 (fun W _ => Direction_no n d (.inr (.inr d5)) W) In Np Im R1 R3 (by omega) d5
    obtain ⟨d, rfl⟩ : ∃ a : Nat, d = a := ⟨d.toNat, by omega⟩
    have R4 := fun w => rdirection_c n d n24 (by omega) w
    rw [dir_ref n n24 d (by omega)] at R4
    exact turns_10 n m x y z d _ _ _ 0 _ _ w Hq H1 H2 H3 (fun W h => Direction_c n d n24 (by omega) W (hu.later h)) In Np Im R1 R3 R4 (by omega) (by omega)
  obtain ⟨m, rfl⟩ : ∃ a : Nat, m = a := ⟨m.toNat, by have := isB_t.1 hm; omega⟩
  have m24 : m < 24 := isB_nat hm
  have Im := fun w => rIs_c (m : Int) true hm w
  have H2 := fun w => Compose_c n m n24 m24 w
  have R2 := fun w => rcompose_c n m n24 m24 w
  rw [cmp_ref n n24 m m24] at R2
  by_cases d0 : d < 0
  · exact turns_11 n m x y z d _ _ _ _ _ 0 w Hq H1 H2 H3 (fun W _ => Direction_no n d (.inr (.inl d0)) W) In Np Im R1 R2 R3 d0
  by_cases d5 : 5 < d
  · exact turns_12 n m x y z d _ _ _ _ _ 0 w Hq H1 H2 H3 (fun W _ => Direction_no n d (.inr (.inr d5)) W) In Np Im R1 R2 R3 (by omega) d5
  obtain ⟨d, rfl⟩ : ∃ a : Nat, d = a := ⟨d.toNat, by omega⟩
  have R4 := fun w => rdirection_c n d n24 (by omega) w
  rw [dir_ref n n24 d (by omega)] at R4
  exact turns_13 n m x y z d _ _ _ _ _ _ w Hq H1 H2 H3 (fun W h => Direction_c n d n24 (by omega) W (hu.later h)) In Np Im R1 R2 R3 R4 (by omega) (by omega)
set_option maxRecDepth 100000 in
theorem orientTurns_lifted (os : Os) (started : os.Started) (H : Type) (enc : TypeId × Value → H) :
    ReturnsInHanded {} Tryd.checked os 7 .any (fun w args => (Rows.orientTurnsSpec.pre enc Tryd.prog Tryd.f7 [] false w args ∧ laidMetH Tryd.prog [("gangsaw/orient.units", Rows.laid_gangsaw_orient_units)] w) ∧ sizedMet enc Tryd.prog Tryd.f7 (OpenSpec.ofChange Rows.orientTurnsSpec) false w args)
      (Rows.orientTurnsSpec.post enc Tryd.prog Tryd.f7 false true false false) := by
  refine returnsInHanded_of_change_and (C := Tryd.checked) (X := fun w _ => laidMetH Tryd.prog [("gangsaw/orient.units", Rows.laid_gangsaw_orient_units)] w) (fun _ _ _ hh h => h.of_heap hh) own28 started (by kernel_rfl) Tryd.func7
    (ChangeSpec.witness_shaped (enc := enc) (C := Tryd.checked) (os := os) (X := fun w _ => laidMetH Tryd.prog [("gangsaw/orient.units", Rows.laid_gangsaw_orient_units)] w) false (World.doorLaid Tryd.prog 400 os) #[.int .i64 0, .int .i64 0, .agg #[.int .i64 0, .int .i64 0, .int .i64 0], .int .i64 0] 8 rfl (World.shaped_of_RefB (by kernel_rfl) (by kernel_rfl)) (by kernel_rfl) (by kernel_rfl) (by kernel_rfl) (door_met os _)) ?_
  intro W base args ds gs before hval0 hW _ _ hL _
  have hval : ∀ (j : Nat) t v, Tryd.f7.params[j]? = some t → args[j]? = some v → Value.okWide Tryd.prog W .any base t v := hval0
  have hW' := hW
  obtain ⟨p, q, hA0, hV, rfl, hfz, hnd⟩ := hW
  have hA : DataW.TrodAll enc Tryd.prog W 0 (fun _ => true) true Tryd.f7.params.toList args.toList ds p := hA0
  rw [Tryd.params7] at hA hval
  obtain ⟨v0, v1, v2, v3, d0, d1, d2, d3, p0, p1, p2, p3, rfl, rfl, rfl, h0, h1, h2, h3⟩ := trodAll_four hA
  obtain ⟨rfl, rfl⟩ := trodVars_none hV
  obtain ⟨n, rfl, rfl, rfl, wn⟩ := open_int Tryd.underlying3 (hval 0 3 v0 rfl rfl) h0
  obtain ⟨m, rfl, rfl, rfl, wm⟩ := open_int Tryd.underlying3 (hval 1 3 v1 rfl rfl) h1
  obtain ⟨x, y, z, rfl, rfl, rfl, wx, wy, wz⟩ := open_V (hval 2 23 v2 rfl rfl) h2
  obtain ⟨d, rfl, rfl, rfl, wd⟩ := open_int Tryd.underlying3 (hval 3 3 v3 rfl rfl) h3
  have hu := units_of hL
  clear hA0 hval0
  simp only [List.append_nil] at hW'
  refine (turns_c n m x y z d W hu).mono fun e W' ⟨he, hB⟩ => ?_
  subst he
  exact ⟨_, rfl, _, _, _, [], [], [], hW', trodAll_mk1 (shut_bool Tryd.underlying4 true), trodAll_mk4 (shut_int Tryd.underlying3 wn) (shut_int Tryd.underlying3 wm) (shut_V wx wy wz) (shut_int Tryd.underlying3 wd), rfl, hB.frame _, fun h => by cases h⟩

theorem orientTurns_holds : Rows.OrientTurnsSaid :=
  OpenClaim.holds_of_wide 7 Tryd.f7 rfl rfl rfl rfl rfl rfl rfl ⟨rfl, rfl, rfl, rfl, rfl⟩ rfl rfl rfl rfl rfl (by kernel_rfl) Tryd.func7 (by kernel_rfl)
    (of_decide_eq_true (by kernel_rfl)) (by unfold Func.isWrapper; first | (rw [if_pos (by decide +kernel)]; kernel_rfl) | (rw [if_neg (by decide +kernel)]; exact ⟨rfl, rfl⟩))
    (fun os started H enc _ => orientTurns_lifted os started H enc)
theorem orientTurns_card : Rows.OrientTurnsCardSaid :=
  Claim7.holds_tied_plain_at .later [] [.data] true (true, "b45ebaff8e64017981d2538e62ac95c1ce686c7825d48336f20f0c3682e3a9c0") false
    orientTurns_holds (fun _ h => by cases h) (by kernel_rfl) (fun _ h => by cases h) orientTurns_row_tie rfl ⟨rfl, rfl⟩ (by kernel_rfl) rfl
    (fun f fn hf hfn => by
      obtain rfl : f = 7 := Option.some.inj ((show Tryd.prog.funcNamed "gangsaw/gangsawlaw28.OrientTurns" = some 7 by kernel_rfl).symm.trans hf) |>.symm
      obtain rfl : fn = Tryd.f7 := (Option.some.inj (Tryd.func7.symm.trans hfn)).symm
      exact ⟨by kernel_rfl, fun j t ht => by
        rw [Tryd.params7] at ht
        have hm : t ∈ [3, 3, 23, 3] := by simpa using Array.mem_of_getElem? ht
        have hall : ([3, 3, 23, 3].all fun u => !Tryd.prog.wantsStandIn u) = true := by kernel_rfl
        exact (show Tryd.prog.wantsStandIn t = false by simpa using List.all_eq_true.1 hall t hm)⟩)
    (by kernel_rfl)
#print axioms orientTurns_card
end Go.Proofs.YtibncdefhphggaaDoor
