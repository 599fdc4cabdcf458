/- OrientPlaces holds for every input: the row and its card. -/
import Derived.Test.YtibncdefhphggaaDoorQ
import Derived.Test.YtibncdefhphggaaDoorCards
import Derived.Test.YtibncdefhphggaaDoorTie
import Derived.Test.YtibncdefhphggaaDoorW8a
import Derived.Test.YtibncdefhphggaaDoorW8b
import Derived.Test.YtibncdefhphggaaDoorB3
import Derived.Test.YtibncdefhphggaaDoorB11
import Derived.Test.YtibncdefhphggaaDoorL2
import Derived.Test.YtibncdefhphggaaDoorA19
import Derived.SevenTiedAt
namespace Go.Proofs.YtibncdefhphggaaDoor
open Go.ChangeShapes Go.WideShapes Go.ChangeAt Go.RowKit Go.Joins
set_option linter.unusedVariables false

theorem al_facts : ∀ n, n < 24 → (alB 2 n = true → alB 1 n = true) ∧ alB 3 n = !alB 1 n := by decide +kernel
theorem len_0 : (kept (fun k => alB 0 k && true) 24).length = 24 := by decide +kernel
theorem len_1 : (kept (fun k => alB 1 k && true) 24).length = 8 := by decide +kernel
theorem len_2 : (kept (fun k => alB 2 k && true) 24).length = 4 := by decide +kernel
theorem len_3 : (kept (fun k => alB 3 k && true) 24).length = 16 := by decide +kernel
theorem list_len (b : Int) (n : Nat) (hk : knB b = true) (hl : (kept (fun k => alB b k && true) 24).length = n) (hn : 0 < n) (W : World) (hu : Units W) :
    Calls Tryd.prog 24 #[.int .i64 b] W fun r w' => ∃ a k, r = .returned (.tuple #[.slice a n k, .int .i64 0]) ∧ Below W.heap.size W w' :=
  (List_c b hk W hu).mono fun r w' ⟨v, hr, ho, hb⟩ => by
    rcases RdL.of_own ho with ⟨h0, _⟩ | ⟨g, cap, rfl, _⟩
    · rw [h0] at hl; simp at hl; omega
    · exact ⟨_, _, by rw [hr, hl], hb⟩
theorem places_c (n s0 s1 s2 c0 c1 c2 : Int) (w : World) (hu : Units w) :
    Calls Tryd.prog 8 #[.int .i64 n, vV s0 s1 s2, vV c0 c1 c2] w fun e w' => e = .returned (.bool true) ∧ Below w.heap.size w w' := by
  have Hq : ∀ W, Below w.heap.size w W → Calls Tryd.prog 15 #[] W fun r w' => r = .returned (.bool true) ∧ Below W.heap.size W w' := fun W h => awake_c W (hu.later h)
  have L0 := fun W (h : Below w.heap.size w W) => list_len 0 24 rfl len_0 (by decide) W (hu.later h)
  have L1 := fun W (h : Below w.heap.size w W) => list_len 1 8 rfl len_1 (by decide) W (hu.later h)
  have L2 := fun W (h : Below w.heap.size w W) => list_len 2 4 rfl len_2 (by decide) W (hu.later h)
  have L3 := fun W (h : Below w.heap.size w W) => list_len 3 16 rfl len_3 (by decide) W (hu.later h)
  have Hp := fun w => Place_c n s0 s1 s2 c0 c1 c2 w
  cases hn : isB n
  · rw [show placeV n s0 s1 s2 c0 c1 c2 = .tuple #[vP 0 0 0 0, .int .i64 1] by unfold placeV; rw [if_neg (fun h => by rw [hn] at h; exact absurd h.1 (by decide))]] at Hp
    by_cases h0 : n < 0
    · exact places_1 n s0 s1 s2 c0 c1 c2 0 1 0 0 0 0 0 0 0 0 0 w Hq Hp L0 L1 L2 L3 h0 (by decide)
    · exact places_2 n s0 s1 s2 c0 c1 c2 0 1 0 0 0 0 0 0 0 0 0 w Hq Hp L0 L1 L2 L3 (by omega) (by have := isB_f.1 hn; omega) (by decide)
  obtain ⟨n, rfl⟩ : ∃ a : Nat, n = a := ⟨n.toNat, by have := isB_t.1 hn; omega⟩
  have n24 : n < 24 := isB_nat hn
  have A1 := fun W (h : Below w.heap.size w W) => allowed_c 1 n n24 W (hu.later h)
  have A2 := fun W (h : Below w.heap.size w W) => allowed_c 2 n n24 W (hu.later h)
  have A3 := fun W (h : Below w.heap.size w W) => allowed_c 3 n n24 W (hu.later h)
  obtain ⟨f1, f2⟩ := al_facts n n24
  rw [f2] at A3
  have way : (alB 2 n = true ∧ alB 1 n = true) ∨ (alB 2 n = false ∧ alB 1 n = true) ∨ (alB 2 n = false ∧ alB 1 n = false) := by
    cases h2 : alB 2 n
    · cases h1 : alB 1 n <;> simp
    · exact .inl ⟨rfl, f1 h2⟩
  have bad : ∀ z : Int, z ≠ 0 → placeV n s0 s1 s2 c0 c1 c2 = .tuple #[vP 0 0 0 0, .int .i64 z] → Calls Tryd.prog 8 #[.int .i64 n, vV s0 s1 s2, vV c0 c1 c2] w fun e w' => e = .returned (.bool true) ∧ Below w.heap.size w w' := by
    intro z hz e
    rw [e] at Hp
    rcases way with ⟨h2, h1⟩ | ⟨h2, h1⟩ | ⟨h2, h1⟩ <;> rw [h2] at A2 <;> rw [h1] at A1 A3
    · exact places_3 n s0 s1 s2 c0 c1 c2 0 z 0 0 0 0 0 0 0 0 0 w Hq Hp L0 L1 L2 L3 (by omega) (by omega) A2 A1 A3 hz
    · exact places_5 n s0 s1 s2 c0 c1 c2 0 z 0 0 0 0 0 0 0 0 0 w Hq Hp L0 L1 L2 L3 (by omega) (by omega) A2 A1 A3 hz
    · exact places_7 n s0 s1 s2 c0 c1 c2 0 z 0 0 0 0 0 0 0 0 0 w Hq Hp L0 L1 L2 L3 (by omega) (by omega) A2 A1 A3 hz
  by_cases hz : szB s0 s1 s2 = true
  rotate_left
  · exact bad 1 (by decide) (by unfold placeV; rw [if_neg (fun h => hz h.2)])
  by_cases hc : nearB c0 c1 c2 = true ∧ (nearB (plc n 0 s0 s1 s2 c0) (plc n 1 s0 s1 s2 c1) (plc n 2 s0 s1 s2 c2) && nearB (c0 + ext n 0 s0 s1 s2) (c1 + ext n 1 s0 s1 s2) (c2 + ext n 2 s0 s1 s2)) = true
  rotate_left
  · exact bad 6 (by decide) (by unfold placeV; rw [if_pos ⟨hn, hz⟩, Int.toNat_natCast, if_neg hc])
  clear bad
  rw [show placeV n s0 s1 s2 c0 c1 c2 = .tuple #[vP n (plc n 0 s0 s1 s2 c0) (plc n 1 s0 s1 s2 c1) (plc n 2 s0 s1 s2 c2), .int .i64 0] by unfold placeV; rw [if_pos ⟨hn, hz⟩, Int.toNat_natCast, if_pos hc]] at Hp
  obtain ⟨hc, hqd⟩ := hc
  have hq := (Bool.and_eq_true_iff.1 hqd).1
  have hd := (Bool.and_eq_true_iff.1 hqd).2
  have hz' := szB_t.1 hz
  have hc' := nearB_t.1 hc
  have hd' := nearB_t.1 hd
  have Hb := fun w => Box_c n (plc n 0 s0 s1 s2 c0) (plc n 1 s0 s1 s2 c1) (plc n 2 s0 s1 s2 c2) 0 0 0 s0 s1 s2 w
  rw [boxV_yes (l0 := c0) (l1 := c1) (l2 := c2) (u0 := c0 + ext n 0 s0 s1 s2) (u1 := c1 + ext n 1 s0 s1 s2) (u2 := c2 + ext n 2 s0 s1 s2) n24 (by rw [nearB_t.2 ⟨by omega, by omega, by omega⟩, nearB_t.2 ⟨by omega, by omega, by omega⟩]; rfl) (by omega) (by omega) (by omega) hq
    (by unfold loT plc; omega) (by unfold loT plc; omega) (by unfold loT plc; omega) (by unfold hiT plc ext; omega) (by unfold hiT plc ext; omega) (by unfold hiT plc ext; omega) (by rw [hc, hd]; rfl)] at Hb
  have Hs := fun w => Size_c n s0 s1 s2 n24 hz w
  have Hm := fun w => minus_c (c0 + ext n 0 s0 s1 s2) (c1 + ext n 1 s0 s1 s2) (c2 + ext n 2 s0 s1 s2) c0 c1 c2 w (by omega) (by omega) (by omega) (by omega) (by omega) (by omega)
  rw [show c0 + ext n 0 s0 s1 s2 - c0 = ext n 0 s0 s1 s2 by omega, show c1 + ext n 1 s0 s1 s2 - c1 = ext n 1 s0 s1 s2 by omega, show c2 + ext n 2 s0 s1 s2 - c2 = ext n 2 s0 s1 s2 by omega] at Hm
  rcases way with ⟨h2, h1⟩ | ⟨h2, h1⟩ | ⟨h2, h1⟩ <;> rw [h2] at A2 <;> rw [h1] at A1 A3
  · exact places_4 n s0 s1 s2 c0 c1 c2 0 0 _ _ _ _ _ _ _ _ _ w Hq Hp L0 L1 L2 L3 (by omega) (by omega) A2 A1 A3 Hb Hs Hm
  · exact places_6 n s0 s1 s2 c0 c1 c2 0 0 _ _ _ _ _ _ _ _ _ w Hq Hp L0 L1 L2 L3 (by omega) (by omega) A2 A1 A3 Hb Hs Hm
  · exact places_8 n s0 s1 s2 c0 c1 c2 0 0 _ _ _ _ _ _ _ _ _ w Hq Hp L0 L1 L2 L3 (by omega) (by omega) A2 A1 A3 Hb Hs Hm
set_option maxRecDepth 100000 in
theorem orientPlaces_lifted (os : Os) (started : os.Started) (H : Type) (enc : TypeId × Value → H) :
    ReturnsInHanded {} Tryd.checked os 8 .any (fun w args => (Rows.orientPlacesSpec.pre enc Tryd.prog Tryd.f8 [] false w args ∧ laidMetH Tryd.prog [("gangsaw/orient.units", Rows.laid_gangsaw_orient_units)] w) ∧ sizedMet enc Tryd.prog Tryd.f8 (OpenSpec.ofChange Rows.orientPlacesSpec) false w args)
      (Rows.orientPlacesSpec.post enc Tryd.prog Tryd.f8 false true false false) := by
  refine returnsInHanded_of_change_and (C := Tryd.checked) (X := fun w _ => laidMetH Tryd.prog [("gangsaw/orient.units", Rows.laid_gangsaw_orient_units)] w) (fun _ _ _ hh h => h.of_heap hh) own28 started (by kernel_rfl) Tryd.func8
    (ChangeSpec.witness_shaped (enc := enc) (C := Tryd.checked) (os := os) (X := fun w _ => laidMetH Tryd.prog [("gangsaw/orient.units", Rows.laid_gangsaw_orient_units)] w) false (World.doorLaid Tryd.prog 400 os) #[.int .i64 0, .agg #[.int .i64 0, .int .i64 0, .int .i64 0], .agg #[.int .i64 0, .int .i64 0, .int .i64 0]] 8 rfl (World.shaped_of_RefB (by kernel_rfl) (by kernel_rfl)) (by kernel_rfl) (by kernel_rfl) (by kernel_rfl) (door_met os _)) ?_
  intro W base args ds gs before hval0 hW _ _ hL _
  have hval : ∀ (j : Nat) t v, Tryd.f8.params[j]? = some t → args[j]? = some v → Value.okWide Tryd.prog W .any base t v := hval0
  have hW' := hW
  obtain ⟨p, q, hA0, hV, rfl, hfz, hnd⟩ := hW
  have hA : DataW.TrodAll enc Tryd.prog W 0 (fun _ => true) true Tryd.f8.params.toList args.toList ds p := hA0
  rw [Tryd.params8] at hA hval
  obtain ⟨v0, v1, v2, d0, d1, d2, p0, p1, p2, rfl, rfl, rfl, h0, h1, h2⟩ := trodAll_three hA
  obtain ⟨rfl, rfl⟩ := trodVars_none hV
  obtain ⟨n, rfl, rfl, rfl, wn⟩ := open_int Tryd.underlying3 (hval 0 3 v0 rfl rfl) h0
  obtain ⟨s0, s1, s2, rfl, rfl, rfl, ws0, ws1, ws2⟩ := open_V (hval 1 23 v1 rfl rfl) h1
  obtain ⟨c0, c1, c2, rfl, rfl, rfl, wc0, wc1, wc2⟩ := open_V (hval 2 23 v2 rfl rfl) h2
  have hu := units_of hL
  clear hA0 hval0
  simp only [List.append_nil] at hW'
  refine (places_c n s0 s1 s2 c0 c1 c2 W hu).mono fun e W' ⟨he, hB⟩ => ?_
  subst he
  exact ⟨_, rfl, _, _, _, [], [], [], hW', trodAll_mk1 (shut_bool Tryd.underlying4 true), trodAll_mk3 (shut_int Tryd.underlying3 wn) (shut_V ws0 ws1 ws2) (shut_V wc0 wc1 wc2), rfl, hB.frame _, fun h => by cases h⟩

theorem orientPlaces_holds : Rows.OrientPlacesSaid :=
  OpenClaim.holds_of_wide 8 Tryd.f8 rfl rfl rfl rfl rfl rfl rfl ⟨rfl, rfl, rfl, rfl, rfl⟩ rfl rfl rfl rfl rfl (by kernel_rfl) Tryd.func8 (by kernel_rfl)
    (of_decide_eq_true (by kernel_rfl)) (by unfold Func.isWrapper; first | (rw [if_pos (by decide +kernel)]; kernel_rfl) | (rw [if_neg (by decide +kernel)]; exact ⟨rfl, rfl⟩))
    (fun os started H enc _ => orientPlaces_lifted os started H enc)
theorem orientPlaces_card : Rows.OrientPlacesCardSaid :=
  Claim7.holds_tied_plain_at .later [] [.data] true (true, "b45ebaff8e64017981d2538e62ac95c1ce686c7825d48336f20f0c3682e3a9c0") false
    orientPlaces_holds (fun _ h => by cases h) (by kernel_rfl) (fun _ h => by cases h) orientPlaces_row_tie rfl ⟨rfl, rfl⟩ (by kernel_rfl) rfl
    (fun f fn hf hfn => by
      obtain rfl : f = 8 := Option.some.inj ((show Tryd.prog.funcNamed "gangsaw/gangsawlaw28.OrientPlaces" = some 8 by kernel_rfl).symm.trans hf) |>.symm
      obtain rfl : fn = Tryd.f8 := (Option.some.inj (Tryd.func8.symm.trans hfn)).symm
      exact ⟨by kernel_rfl, fun j t ht => by
        rw [Tryd.params8] at ht
        have hm : t ∈ [3, 23, 23] := by simpa using Array.mem_of_getElem? ht
        have hall : ([3, 23, 23].all fun u => !Tryd.prog.wantsStandIn u) = true := by kernel_rfl
        exact (show Tryd.prog.wantsStandIn t = false by simpa using List.all_eq_true.1 hall t hm)⟩)
    (by kernel_rfl)
#print axioms orientPlaces_card
end Go.Proofs.YtibncdefhphggaaDoor
