/- OrientKeeps holds for every input: the row and its card. -/
import Derived.Test.YtibncdefhphggaaDoorQ
import Derived.Test.YtibncdefhphggaaDoorCards
import Derived.Test.YtibncdefhphggaaDoorTie
import Derived.Test.YtibncdefhphggaaDoorW6a
import Derived.Test.YtibncdefhphggaaDoorW6b
import Derived.Test.YtibncdefhphggaaDoorL3
import Derived.Test.YtibncdefhphggaaDoorA19
import Derived.SevenTiedAt
namespace Go.Proofs.YtibncdefhphggaaDoor
open Go.ChangeShapes Go.WideShapes Go.ChangeAt Go.RowKit Go.Joins
set_option linter.unusedVariables false

set_option maxHeartbeats 4000000 in
theorem keeps_c (n a0 a1 a2 x0 x1 x2 x3 x4 x5 z0 z1 z2 z3 z4 z5 d : Int) (w : World) (hu : Units w) :
    Calls Tryd.prog 6 #[vP n a0 a1 a2, vB x0 x1 x2 x3 x4 x5, vB z0 z1 z2 z3 z4 z5, .int .i64 d] w fun e w' => e = .returned (.bool true) ∧ Below w.heap.size w w' := by
  have Hq : ∀ W, Below w.heap.size w W → Calls Tryd.prog 15 #[] W fun r w' => r = .returned (.bool true) ∧ Below W.heap.size W w' := fun W h => awake_c W (hu.later h)
  obtain ⟨p0, p1, p2, p3, p4, p5, e, ep, hp⟩ := boxV_any n a0 a1 a2 x0 x1 x2 x3 x4 x5
  have H1 := fun w => Box_c n a0 a1 a2 x0 x1 x2 x3 x4 x5 w
  rw [ep] at H1
  obtain ⟨q0, q1, q2, q3, q4, q5, f, eq, hq⟩ := boxV_any n a0 a1 a2 z0 z1 z2 z3 z4 z5
  have H2 := fun w => Box_c n a0 a1 a2 z0 z1 z2 z3 z4 z5 w
  rw [eq] at H2
  by_cases hg : isB n = true ∧ 0 ≤ d ∧ d < 6
  · obtain ⟨hn, d0, d6⟩ := hg
    obtain ⟨n, rfl⟩ : ∃ a : Nat, n = a := ⟨n.toNat, by have := isB_t.1 hn; omega⟩
    have n24 : n < 24 := isB_nat hn
    obtain ⟨d, rfl⟩ : ∃ a : Nat, d = a := ⟨d.toNat, by omega⟩
    have d6' : d < 6 := by omega
    obtain ⟨k0, k6, ku⟩ := dir_unit n n24 d d6'
    obtain ⟨k, hk⟩ : ∃ k : Nat, dirT n d = k := ⟨(dirT n d).toNat, by omega⟩
    rw [hk, Int.toNat_natCast] at ku
    have H3 : ∀ W, Below w.heap.size w W → Calls Tryd.prog 33 #[.int .i64 n, .int .i64 d] W fun r w' => r = .returned (.tuple #[.int .i64 k, .int .i64 0]) ∧ Below W.heap.size W w' := fun W h => by
      have := Direction_c n d n24 d6' W (hu.later h)
      rw [hk] at this
      exact this
    have U1 := fun w => unit_c d d6' w
    have U2 := fun w => Apply_c n (unT d 0) (unT d 1) (unT d 2) n24 (near_unit d d6') w
    have U3 := fun w => unit_c k (by omega) w
    rw [ku 0 (by decide), ku 1 (by decide), ku 2 (by decide)] at U3
    rcases hp with ⟨he, _⟩ | ⟨rfl, m, en, hm, hx, hx0, hx1, hx2, hs, _, l0, l1, l2, l3, l4, l5⟩
    · exact keeps_4 n a0 a1 a2 x0 x1 x2 x3 x4 x5 z0 z1 z2 z3 z4 z5 d p0 p1 p2 p3 p4 p5 q0 q1 q2 q3 q4 q5 _ _ 0 _ _ _ _ _ _ _ 0 0 0 0 0 0 0 0 0 0 0 0 0 0 0 0 0 0 0 0 0 true w Hq H1 H2 H3 U1 U2 U3 he
    obtain rfl : n = m := by omega
    rcases hq with ⟨hf, _⟩ | ⟨rfl, m, em, _, hz, hz0, hz1, hz2, _, _, r0, r1, r2, r3, r4, r5⟩
    · exact keeps_5 n a0 a1 a2 x0 x1 x2 x3 x4 x5 z0 z1 z2 z3 z4 z5 d p0 p1 p2 p3 p4 p5 q0 q1 q2 q3 q4 q5 0 _ 0 _ _ _ _ _ _ _ 0 0 0 0 0 0 0 0 0 0 0 0 0 0 0 0 0 0 0 0 0 true w Hq H1 H2 H3 U1 U2 U3 hf
    obtain rfl : n = m := by omega
    have nx := nearB_t.1 (Bool.and_eq_true_iff.1 hx).1
    have nz := nearB_t.1 (Bool.and_eq_true_iff.1 hz).1
    have M1 := fun w => Apply_c n x0 x1 x2 n24 (Bool.and_eq_true_iff.1 hx).1 w
    have M2 := fun w => Apply_c n z0 z1 z2 n24 (Bool.and_eq_true_iff.1 hz).1 w
    have M3 := fun w => minus_c x0 x1 x2 z0 z1 z2 w (by omega) (by omega) (by omega) (by omega) (by omega) (by omega)
    have b0 := ap_bd (i := 0) n24 (by decide) nx.1 nx.2.1 nx.2.2
    have b1 := ap_bd (i := 1) n24 (by decide) nx.1 nx.2.1 nx.2.2
    have b2 := ap_bd (i := 2) n24 (by decide) nx.1 nx.2.1 nx.2.2
    have c0 := ap_bd (i := 0) n24 (by decide) nz.1 nz.2.1 nz.2.2
    have c1 := ap_bd (i := 1) n24 (by decide) nz.1 nz.2.1 nz.2.2
    have c2 := ap_bd (i := 2) n24 (by decide) nz.1 nz.2.1 nz.2.2
    have M4 := fun w => minus_c (ap n 0 x0 x1 x2) (ap n 1 x0 x1 x2) (ap n 2 x0 x1 x2) (ap n 0 z0 z1 z2) (ap n 1 z0 z1 z2) (ap n 2 z0 z1 z2) w (by omega) (by omega) (by omega) (by omega) (by omega) (by omega)
    have O1 := fun w => overlap_c x0 x1 x2 x3 x4 x5 z0 z1 z2 z3 z4 z5 w
    have O2 := fun w => overlap_c p0 p1 p2 p3 p4 p5 q0 q1 q2 q3 q4 q5 w
    have ov := ov_img n n24 (s0 := a0) (s1 := a1) (s2 := a2) hx0 hx1 hx2 hz0 hz1 hz2
    rw [l0, l1, l2, l3, l4, l5, r0, r1, r2, r3, r4, r5] at ov
    rw [ov] at O2
    have sq := sq_ap n n24 (x0 - z0) (x1 - z1) (x2 - z2)
    rw [← ap_sub, ← ap_sub, ← ap_sub] at sq
    obtain ⟨v0, e0⟩ : ∃ v, x0 - z0 = v := ⟨_, rfl⟩
    obtain ⟨v1, e1⟩ : ∃ v, x1 - z1 = v := ⟨_, rfl⟩
    obtain ⟨v2, e2⟩ : ∃ v, x2 - z2 = v := ⟨_, rfl⟩
    obtain ⟨t0, f0⟩ : ∃ v, ap n 0 x0 x1 x2 - ap n 0 z0 z1 z2 = v := ⟨_, rfl⟩
    obtain ⟨t1, f1⟩ : ∃ v, ap n 1 x0 x1 x2 - ap n 1 z0 z1 z2 = v := ⟨_, rfl⟩
    obtain ⟨t2, f2⟩ : ∃ v, ap n 2 x0 x1 x2 - ap n 2 z0 z1 z2 = v := ⟨_, rfl⟩
    rw [e0, e1, e2] at M3
    rw [f0, f1, f2] at M4
    rw [e0, e1, e2, f0, f1, f2] at sq
    obtain ⟨⟨F0, F0'⟩, ⟨F1, F1'⟩, ⟨F2, F2'⟩, ⟨G0, G0'⟩, ⟨G1, G1'⟩, ⟨E0, E0'⟩, ⟨E1, E1'⟩, ⟨E2, E2'⟩, ⟨D0, D0'⟩, ⟨D1, D1'⟩⟩ := keep_wraps (v0 := v0) (v1 := v1) (v2 := v2) (t0 := t0) (t1 := t1) (t2 := t2) (by omega) (by omega) (by omega) (by omega) (by omega) (by omega) sq
    exact keeps_6 n a0 a1 a2 x0 x1 x2 x3 x4 x5 z0 z1 z2 z3 z4 z5 d p0 p1 p2 p3 p4 p5 q0 q1 q2 q3 q4 q5 0 0 0 _ _ _ _ _ _ _ _ _ _ _ _ _ _ _ _ _ _ _ _ _ _ _ _ _ _ _ _ _ w Hq H1 H2 H3 U1 U2 U3 M1 M2 M3 M4 F0 F0' F1 F1' F2 F2' G0 G0' G1 G1' E0 E0' E1 E1' E2 E2' D0 D0' D1 D1' O1 O2 
  have H3 : ∀ W, Below w.heap.size w W → Calls Tryd.prog 33 #[.int .i64 n, .int .i64 d] W fun r w' => r = .returned (.tuple #[.int .i64 0, .int .i64 1]) ∧ Below W.heap.size W w' := fun W _ => Direction_no n d (by
    by_cases h : isB n = true
    · right; have hd : ¬ (0 ≤ d ∧ d < 6) := fun h2 => hg ⟨h, h2⟩; omega
    · left; simpa using h) W
  rcases hp with ⟨he, _⟩ | ⟨rfl, n, rfl, n24, hx, hx0, hx1, hx2, hs, _, l0, l1, l2, l3, l4, l5⟩
  · exact keeps_1 n a0 a1 a2 x0 x1 x2 x3 x4 x5 z0 z1 z2 z3 z4 z5 d p0 p1 p2 p3 p4 p5 q0 q1 q2 q3 q4 q5 _ _ 1 0 0 0 0 0 0 0 0 0 0 0 0 0 0 0 0 0 0 0 0 0 0 0 0 0 0 0 0 true w Hq H1 H2 H3 he (by decide)
  rcases hq with ⟨hf, _⟩ | ⟨rfl, m, em, _, hz, hz0, hz1, hz2, _, _, r0, r1, r2, r3, r4, r5⟩
  · exact keeps_2 n a0 a1 a2 x0 x1 x2 x3 x4 x5 z0 z1 z2 z3 z4 z5 d p0 p1 p2 p3 p4 p5 q0 q1 q2 q3 q4 q5 0 _ 1 0 0 0 0 0 0 0 0 0 0 0 0 0 0 0 0 0 0 0 0 0 0 0 0 0 0 0 0 true w Hq H1 H2 H3 hf (by decide)
  obtain rfl : n = m := by omega
  have nx := nearB_t.1 (Bool.and_eq_true_iff.1 hx).1
  have nz := nearB_t.1 (Bool.and_eq_true_iff.1 hz).1
  have M1 := fun w => Apply_c n x0 x1 x2 n24 (Bool.and_eq_true_iff.1 hx).1 w
  have M2 := fun w => Apply_c n z0 z1 z2 n24 (Bool.and_eq_true_iff.1 hz).1 w
  have M3 := fun w => minus_c x0 x1 x2 z0 z1 z2 w (by omega) (by omega) (by omega) (by omega) (by omega) (by omega)
  have b0 := ap_bd (i := 0) n24 (by decide) nx.1 nx.2.1 nx.2.2
  have b1 := ap_bd (i := 1) n24 (by decide) nx.1 nx.2.1 nx.2.2
  have b2 := ap_bd (i := 2) n24 (by decide) nx.1 nx.2.1 nx.2.2
  have c0 := ap_bd (i := 0) n24 (by decide) nz.1 nz.2.1 nz.2.2
  have c1 := ap_bd (i := 1) n24 (by decide) nz.1 nz.2.1 nz.2.2
  have c2 := ap_bd (i := 2) n24 (by decide) nz.1 nz.2.1 nz.2.2
  have M4 := fun w => minus_c (ap n 0 x0 x1 x2) (ap n 1 x0 x1 x2) (ap n 2 x0 x1 x2) (ap n 0 z0 z1 z2) (ap n 1 z0 z1 z2) (ap n 2 z0 z1 z2) w (by omega) (by omega) (by omega) (by omega) (by omega) (by omega)
  have O1 := fun w => overlap_c x0 x1 x2 x3 x4 x5 z0 z1 z2 z3 z4 z5 w
  have O2 := fun w => overlap_c p0 p1 p2 p3 p4 p5 q0 q1 q2 q3 q4 q5 w
  have ov := ov_img n n24 (s0 := a0) (s1 := a1) (s2 := a2) hx0 hx1 hx2 hz0 hz1 hz2
  rw [l0, l1, l2, l3, l4, l5, r0, r1, r2, r3, r4, r5] at ov
  rw [ov] at O2
  have sq := sq_ap n n24 (x0 - z0) (x1 - z1) (x2 - z2)
  rw [← ap_sub, ← ap_sub, ← ap_sub] at sq
  obtain ⟨v0, e0⟩ : ∃ v, x0 - z0 = v := ⟨_, rfl⟩
  obtain ⟨v1, e1⟩ : ∃ v, x1 - z1 = v := ⟨_, rfl⟩
  obtain ⟨v2, e2⟩ : ∃ v, x2 - z2 = v := ⟨_, rfl⟩
  obtain ⟨t0, f0⟩ : ∃ v, ap n 0 x0 x1 x2 - ap n 0 z0 z1 z2 = v := ⟨_, rfl⟩
  obtain ⟨t1, f1⟩ : ∃ v, ap n 1 x0 x1 x2 - ap n 1 z0 z1 z2 = v := ⟨_, rfl⟩
  obtain ⟨t2, f2⟩ : ∃ v, ap n 2 x0 x1 x2 - ap n 2 z0 z1 z2 = v := ⟨_, rfl⟩
  rw [e0, e1, e2] at M3
  rw [f0, f1, f2] at M4
  rw [e0, e1, e2, f0, f1, f2] at sq
  obtain ⟨⟨F0, F0'⟩, ⟨F1, F1'⟩, ⟨F2, F2'⟩, ⟨G0, G0'⟩, ⟨G1, G1'⟩, ⟨E0, E0'⟩, ⟨E1, E1'⟩, ⟨E2, E2'⟩, ⟨D0, D0'⟩, ⟨D1, D1'⟩⟩ := keep_wraps (v0 := v0) (v1 := v1) (v2 := v2) (t0 := t0) (t1 := t1) (t2 := t2) (by omega) (by omega) (by omega) (by omega) (by omega) (by omega) sq
  exact keeps_3 n a0 a1 a2 x0 x1 x2 x3 x4 x5 z0 z1 z2 z3 z4 z5 d p0 p1 p2 p3 p4 p5 q0 q1 q2 q3 q4 q5 0 0 1 0 0 0 0 0 0 0 _ _ _ _ _ _ _ _ _ _ _ _ _ _ _ _ _ _ _ _ _ _ w Hq H1 H2 H3 M1 M2 M3 M4 F0 F0' F1 F1' F2 F2' G0 G0' G1 G1' E0 E0' E1 E1' E2 E2' D0 D0' D1 D1' O1 O2 (by decide)
set_option maxRecDepth 100000 in
theorem orientKeeps_lifted (os : Os) (started : os.Started) (H : Type) (enc : TypeId × Value → H) :
    ReturnsInHanded {} Tryd.checked os 6 .any (fun w args => (Rows.orientKeepsSpec.pre enc Tryd.prog Tryd.f6 [] false w args ∧ laidMetH Tryd.prog [("gangsaw/orient.units", Rows.laid_gangsaw_orient_units)] w) ∧ sizedMet enc Tryd.prog Tryd.f6 (OpenSpec.ofChange Rows.orientKeepsSpec) false w args)
      (Rows.orientKeepsSpec.post enc Tryd.prog Tryd.f6 false true false false) := by
  refine returnsInHanded_of_change_and (C := Tryd.checked) (X := fun w _ => laidMetH Tryd.prog [("gangsaw/orient.units", Rows.laid_gangsaw_orient_units)] w) (fun _ _ _ hh h => h.of_heap hh) own28 started (by kernel_rfl) Tryd.func6
    (ChangeSpec.witness_shaped (enc := enc) (C := Tryd.checked) (os := os) (X := fun w _ => laidMetH Tryd.prog [("gangsaw/orient.units", Rows.laid_gangsaw_orient_units)] w) false (World.doorLaid Tryd.prog 400 os) #[.agg #[.int .i64 0, .int .i64 0, .int .i64 0, .int .i64 0], .agg #[.int .i64 0, .int .i64 0, .int .i64 0, .int .i64 0, .int .i64 0, .int .i64 0], .agg #[.int .i64 0, .int .i64 0, .int .i64 0, .int .i64 0, .int .i64 0, .int .i64 0], .int .i64 0] 8 rfl (World.shaped_of_RefB (by kernel_rfl) (by kernel_rfl)) (by kernel_rfl) (by kernel_rfl) (by kernel_rfl) (door_met os _)) ?_
  intro W base args ds gs before hval0 hW _ _ hL _
  have hval : ∀ (j : Nat) t v, Tryd.f6.params[j]? = some t → args[j]? = some v → Value.okWide Tryd.prog W .any base t v := hval0
  have hW' := hW
  obtain ⟨p, q, hA0, hV, rfl, hfz, hnd⟩ := hW
  have hA : DataW.TrodAll enc Tryd.prog W 0 (fun _ => true) true Tryd.f6.params.toList args.toList ds p := hA0
  rw [Tryd.params6] at hA hval
  obtain ⟨v0, v1, v2, v3, d0, d1, d2, d3, p0, p1, p2, p3, rfl, rfl, rfl, h0, h1, h2, h3⟩ := trodAll_four hA
  obtain ⟨rfl, rfl⟩ := trodVars_none hV
  obtain ⟨n, a0, a1, a2, rfl, rfl, rfl, wn, wa0, wa1, wa2⟩ := open_P (hval 0 25 v0 rfl rfl) h0
  obtain ⟨x0, x1, x2, x3, x4, x5, rfl, rfl, rfl, wx0, wx1, wx2, wx3, wx4, wx5⟩ := open_B (hval 1 27 v1 rfl rfl) h1
  obtain ⟨z0, z1, z2, z3, z4, z5, rfl, rfl, rfl, wz0, wz1, wz2, wz3, wz4, wz5⟩ := open_B (hval 2 27 v2 rfl rfl) h2
  obtain ⟨d, rfl, rfl, rfl, wd⟩ := open_int Tryd.underlying3 (hval 3 3 v3 rfl rfl) h3
  have hu := units_of hL
  clear hA0 hval0
  simp only [List.append_nil] at hW'
  refine (keeps_c n a0 a1 a2 x0 x1 x2 x3 x4 x5 z0 z1 z2 z3 z4 z5 d W hu).mono fun e W' ⟨he, hB⟩ => ?_
  subst he
  exact ⟨_, rfl, _, _, _, [], [], [], hW', trodAll_mk1 (shut_bool Tryd.underlying4 true), trodAll_mk4 (shut_P wn wa0 wa1 wa2) (shut_B wx0 wx1 wx2 wx3 wx4 wx5) (shut_B wz0 wz1 wz2 wz3 wz4 wz5) (shut_int Tryd.underlying3 wd), rfl, hB.frame _, fun h => by cases h⟩

theorem orientKeeps_holds : Rows.OrientKeepsSaid :=
  OpenClaim.holds_of_wide 6 Tryd.f6 rfl rfl rfl rfl rfl rfl rfl ⟨rfl, rfl, rfl, rfl, rfl⟩ rfl rfl rfl rfl rfl (by kernel_rfl) Tryd.func6 (by kernel_rfl)
    (of_decide_eq_true (by kernel_rfl)) (by unfold Func.isWrapper; first | (rw [if_pos (by decide +kernel)]; kernel_rfl) | (rw [if_neg (by decide +kernel)]; exact ⟨rfl, rfl⟩))
    (fun os started H enc _ => orientKeeps_lifted os started H enc)
theorem orientKeeps_card : Rows.OrientKeepsCardSaid :=
  Claim7.holds_tied_plain_at .later [] [.data] true (true, "b45ebaff8e64017981d2538e62ac95c1ce686c7825d48336f20f0c3682e3a9c0") false
    orientKeeps_holds (fun _ h => by cases h) (by kernel_rfl) (fun _ h => by cases h) orientKeeps_row_tie rfl ⟨rfl, rfl⟩ (by kernel_rfl) rfl
    (fun f fn hf hfn => by
      obtain rfl : f = 6 := Option.some.inj ((show Tryd.prog.funcNamed "gangsaw/gangsawlaw28.OrientKeeps" = some 6 by kernel_rfl).symm.trans hf) |>.symm
      obtain rfl : fn = Tryd.f6 := (Option.some.inj (Tryd.func6.symm.trans hfn)).symm
      exact ⟨by kernel_rfl, fun j t ht => by
        rw [Tryd.params6] at ht
        have hm : t ∈ [25, 27, 27, 3] := by simpa using Array.mem_of_getElem? ht
        have hall : ([25, 27, 27, 3].all fun u => !Tryd.prog.wantsStandIn u) = true := by kernel_rfl
        exact (show Tryd.prog.wantsStandIn t = false by simpa using List.all_eq_true.1 hall t hm)⟩)
    (by kernel_rfl)
#print axioms orientKeeps_card
end Go.Proofs.YtibncdefhphggaaDoor
