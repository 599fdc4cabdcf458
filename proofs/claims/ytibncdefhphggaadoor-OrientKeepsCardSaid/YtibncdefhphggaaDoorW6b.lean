/- The walk of OrientKeeps, second part. -/
import Derived.Test.YtibncdefhphggaaDoorK
namespace Go.Proofs.YtibncdefhphggaaDoor
open Go.RowKit
set_option linter.unusedSimpArgs false
set_option linter.unusedVariables false
attribute [local go_sem ↓] Go.wp_at_zero Go.wp_at_succ

set_option maxRecDepth 100000 in
set_option maxHeartbeats 40000000 in
theorem keeps_6 (n a0 a1 a2 x0 x1 x2 x3 x4 x5 z0 z1 z2 z3 z4 z5 d p0 p1 p2 p3 p4 p5 q0 q1 q2 q3 q4 q5 e f g k d0 d1 d2 u0 u1 u2 m0 m1 m2 n0 n1 n2 r0 r1 r2 s0 s1 s2 cr0 cr1 cr2 cs0 cs1 cs2 tr ts nn : Int) (o : Bool) (w : World)
    (Hq : ∀ W, Below w.heap.size w W → Calls Tryd.prog 15 #[] W fun r w' => r = .returned (.bool true) ∧ Below W.heap.size W w')
    (H1 : ∀ w, Calls Tryd.prog 11 #[vP n a0 a1 a2, vB x0 x1 x2 x3 x4 x5] w fun r w' => r = .returned (.tuple #[vB p0 p1 p2 p3 p4 p5, .int .i64 0]) ∧ Below w.heap.size w w')
    (H2 : ∀ w, Calls Tryd.prog 11 #[vP n a0 a1 a2, vB z0 z1 z2 z3 z4 z5] w fun r w' => r = .returned (.tuple #[vB q0 q1 q2 q3 q4 q5, .int .i64 0]) ∧ Below w.heap.size w w')
    (H3 : ∀ W, Below w.heap.size w W → Calls Tryd.prog 33 #[.int .i64 n, .int .i64 d] W fun r w' => r = .returned (.tuple #[.int .i64 k, .int .i64 0]) ∧ Below W.heap.size W w')
    (U1 : ∀ w, Calls Tryd.prog 34 #[.int .i64 d] w fun r w' => r = .returned (vV d0 d1 d2) ∧ Below w.heap.size w w')
    (U2 : ∀ w, Calls Tryd.prog 32 #[.int .i64 n, vV d0 d1 d2] w fun r w' => r = .returned (.tuple #[vV u0 u1 u2, .int .i64 0]) ∧ Below w.heap.size w w')
    (U3 : ∀ w, Calls Tryd.prog 34 #[.int .i64 k] w fun r w' => r = .returned (vV u0 u1 u2) ∧ Below w.heap.size w w')
    (M1 : ∀ w, Calls Tryd.prog 32 #[.int .i64 n, vV x0 x1 x2] w fun r w' => r = .returned (.tuple #[vV m0 m1 m2, .int .i64 0]) ∧ Below w.heap.size w w')
    (M2 : ∀ w, Calls Tryd.prog 32 #[.int .i64 n, vV z0 z1 z2] w fun r w' => r = .returned (.tuple #[vV n0 n1 n2, .int .i64 0]) ∧ Below w.heap.size w w')
    (M3 : ∀ w, Calls Tryd.prog 35 #[vV x0 x1 x2, vV z0 z1 z2] w fun r w' => r = .returned (vV r0 r1 r2) ∧ Below w.heap.size w w')
    (M4 : ∀ w, Calls Tryd.prog 35 #[vV m0 m1 m2, vV n0 n1 n2] w fun r w' => r = .returned (vV s0 s1 s2) ∧ Below w.heap.size w w')
    (Fr0 : IntKind.i64.wrap (r0 * r0) = cr0) (Fr0' : wrap64 (r0 * r0) = cr0)
    (Fr1 : IntKind.i64.wrap (r1 * r1) = cr1) (Fr1' : wrap64 (r1 * r1) = cr1)
    (Fr2 : IntKind.i64.wrap (r2 * r2) = cr2) (Fr2' : wrap64 (r2 * r2) = cr2)
    (Gr : IntKind.i64.wrap (cr0 + cr1) = tr) (Gr' : wrap64 (cr0 + cr1) = tr)
    (Kr : IntKind.i64.wrap (tr + cr2) = nn) (Kr' : wrap64 (tr + cr2) = nn)
    (Fs0 : IntKind.i64.wrap (s0 * s0) = cs0) (Fs0' : wrap64 (s0 * s0) = cs0)
    (Fs1 : IntKind.i64.wrap (s1 * s1) = cs1) (Fs1' : wrap64 (s1 * s1) = cs1)
    (Fs2 : IntKind.i64.wrap (s2 * s2) = cs2) (Fs2' : wrap64 (s2 * s2) = cs2)
    (Gs : IntKind.i64.wrap (cs0 + cs1) = ts) (Gs' : wrap64 (cs0 + cs1) = ts)
    (Ks : IntKind.i64.wrap (ts + cs2) = nn) (Ks' : wrap64 (ts + cs2) = nn)
    (O1 : ∀ w, Calls Tryd.prog 36 #[vB x0 x1 x2 x3 x4 x5, vB z0 z1 z2 z3 z4 z5] w fun r w' => r = .returned (.bool o) ∧ Below w.heap.size w w')
    (O2 : ∀ w, Calls Tryd.prog 36 #[vB p0 p1 p2 p3 p4 p5, vB q0 q1 q2 q3 q4 q5] w fun r w' => r = .returned (.bool o) ∧ Below w.heap.size w w') :
    Calls Tryd.prog 6 #[vP n a0 a1 a2, vB x0 x1 x2 x3 x4 x5, vB z0 z1 z2 z3 z4 z5, .int .i64 d] w fun e w' => e = .returned (.bool true) ∧ Below w.heap.size w w' := by
  have eu : ∀ w, (binOp .neq 23 (vV u0 u1 u2) (vV u0 u1 u2)).run Tryd.prog w = .ok (.bool false) w := fun w => by rw [neq_V, decide_eq_true (by simp)]; rfl
  have eo : ∀ w, (binOp .eql 4 (.bool o) (.bool o)).run Tryd.prog w = .ok (.bool true) w := fun w => by cases o <;> kernel_rfl
  have en : ∀ w, (binOp .eql 3 (.int .i64 nn) (.int .i64 nn)).run Tryd.prog w = .ok (.bool true) w := fun w => by go_simp
  go_enter Tryd.func6, Tryd.ntmps6
  go_wp2_with fail
  go_at_call 11
  (with_reducible refine (H1 _).mono ?_)
  rintro e t1 ⟨rfl, y1⟩
  have hyy := y1.size
  (try simp only [World.size_alloc, World.size_setCell, World.size_drew] at hyy)
  obtain ⟨⟨c1_0_0, c1_0_1, c1_0_2, c1_0_3⟩, ⟨c1_1_0, c1_1_1, c1_1_2, c1_1_3, c1_1_4, c1_1_5⟩, ⟨c1_2_0, c1_2_1, c1_2_2, c1_2_3, c1_2_4, c1_2_5⟩, bel1⟩ : b4 t1 w.heap.size n a0 a1 a2 ∧ b6 t1 (w.heap.size + 1) x0 x1 x2 x3 x4 x5 ∧ b6 t1 (w.heap.size + 1 + 1) z0 z1 z2 z3 z4 z5 ∧ Below w.heap.size w t1 := by
    refine ⟨?_, ?_, ?_, b_step (by (repeat' (first | (with_reducible assumption) | (with_reducible exact Below.refl _ _) | (with_reducible refine Below.alloc ?_ ?_ _) | (with_reducible refine Below.drew ?_) | (with_reducible refine Below.setCell ?_ ?_ _) | (with_reducible refine b_step ?_ (by assumption) ?_) | omega | (simp only [World.size_alloc, World.size_setCell, World.size_drew]; omega)))) y1 (by simp only [World.size_alloc, World.size_setCell, World.size_drew]; omega)⟩ <;> (repeat' apply And.intro) <;> exact cell_later y1 (by (simp (disch := first | omega | (simp only [World.size_alloc, World.size_setCell, World.size_drew]; done) | (simp only [World.size_alloc, World.size_setCell, World.size_drew]; omega)) only [*, r_set_same, r_set_off, r_set_blk, r_set_f, r_alloc_at, r_alloc_past, r_falloc_at, r_falloc_past, World.cell?_drew, World.frozen?_drew, Option.map_some, List.getElem?_toArray, List.getElem?_cons_zero, List.getElem?_cons_succ]; done))
  clear hyy y1 
  have zc1_0 := World.block_lt_of_cell? _ _ c1_0_0
  have zc1_1 := World.block_lt_of_cell? _ _ c1_1_0
  have zc1_2 := World.block_lt_of_cell? _ _ c1_2_0
  go_wp2_with fail
  go_at_call 11
  (with_reducible refine (H2 _).mono ?_)
  rintro e t2 ⟨rfl, y2⟩
  obtain ⟨⟨c2_0_0, c2_0_1, c2_0_2, c2_0_3⟩, ⟨c2_1_0, c2_1_1, c2_1_2, c2_1_3, c2_1_4, c2_1_5⟩, ⟨c2_2_0, c2_2_1, c2_2_2, c2_2_3, c2_2_4, c2_2_5⟩, ⟨c2_3_0, c2_3_1, c2_3_2, c2_3_3, c2_3_4, c2_3_5⟩, bel2⟩ : b4 t2 w.heap.size n a0 a1 a2 ∧ b6 t2 (w.heap.size + 1) x0 x1 x2 x3 x4 x5 ∧ b6 t2 (w.heap.size + 1 + 1) z0 z1 z2 z3 z4 z5 ∧ b6 t2 t1.heap.size p0 p1 p2 p3 p4 p5 ∧ Below w.heap.size w t2 := by
    refine ⟨?_, ?_, ?_, ?_, bs1 bel1 y2⟩ <;> (repeat' apply And.intro) <;> exact cell_later y2 (by (first | assumption | exact c_alloc (by assumption) | exact c_at rfl rfl))
  clear y2 c1_0_0 c1_0_1 c1_0_2 c1_0_3 c1_1_0 c1_1_1 c1_1_2 c1_1_3 c1_1_4 c1_1_5 c1_2_0 c1_2_1 c1_2_2 c1_2_3 c1_2_4 c1_2_5 bel1 zc1_0 zc1_1 zc1_2
  have zc2_0 := World.block_lt_of_cell? _ _ c2_0_0
  have zc2_1 := World.block_lt_of_cell? _ _ c2_1_0
  have zc2_2 := World.block_lt_of_cell? _ _ c2_2_0
  have zc2_3 := World.block_lt_of_cell? _ _ c2_3_0
  go_wp2_with fail
  go_at_call 33
  (with_reducible refine (H3 _ (bel2.alloc bel2.size _)).mono ?_)
  rintro e t3 ⟨rfl, y3⟩
  obtain ⟨⟨c3_0_0, c3_0_1, c3_0_2, c3_0_3⟩, ⟨c3_1_0, c3_1_1, c3_1_2, c3_1_3, c3_1_4, c3_1_5⟩, ⟨c3_2_0, c3_2_1, c3_2_2, c3_2_3, c3_2_4, c3_2_5⟩, ⟨c3_3_0, c3_3_1, c3_3_2, c3_3_3, c3_3_4, c3_3_5⟩, ⟨c3_4_0, c3_4_1, c3_4_2, c3_4_3, c3_4_4, c3_4_5⟩, bel3⟩ : b4 t3 w.heap.size n a0 a1 a2 ∧ b6 t3 (w.heap.size + 1) x0 x1 x2 x3 x4 x5 ∧ b6 t3 (w.heap.size + 1 + 1) z0 z1 z2 z3 z4 z5 ∧ b6 t3 t1.heap.size p0 p1 p2 p3 p4 p5 ∧ b6 t3 t2.heap.size q0 q1 q2 q3 q4 q5 ∧ Below w.heap.size w t3 := by
    refine ⟨?_, ?_, ?_, ?_, ?_, bs1 bel2 y3⟩ <;> (repeat' apply And.intro) <;> exact cell_later y3 (by (first | assumption | exact c_alloc (by assumption) | exact c_at rfl rfl))
  clear y3 c2_0_0 c2_0_1 c2_0_2 c2_0_3 c2_1_0 c2_1_1 c2_1_2 c2_1_3 c2_1_4 c2_1_5 c2_2_0 c2_2_1 c2_2_2 c2_2_3 c2_2_4 c2_2_5 c2_3_0 c2_3_1 c2_3_2 c2_3_3 c2_3_4 c2_3_5 bel2 zc2_0 zc2_1 zc2_2 zc2_3
  have zc3_0 := World.block_lt_of_cell? _ _ c3_0_0
  have zc3_1 := World.block_lt_of_cell? _ _ c3_1_0
  have zc3_2 := World.block_lt_of_cell? _ _ c3_2_0
  have zc3_3 := World.block_lt_of_cell? _ _ c3_3_0
  have zc3_4 := World.block_lt_of_cell? _ _ c3_4_0
  go_upto_region 5 with fail
  refine gen_world (F := fun W1 => b4 W1 w.heap.size n a0 a1 a2 ∧ b6 W1 (w.heap.size + 1) x0 x1 x2 x3 x4 x5 ∧ b6 W1 (w.heap.size + 1 + 1) z0 z1 z2 z3 z4 z5 ∧ b6 W1 t1.heap.size p0 p1 p2 p3 p4 p5 ∧ b6 W1 t2.heap.size q0 q1 q2 q3 q4 q5 ∧ Below w.heap.size w W1) ?_ (fun W1 hW => ?_)
  · refine ⟨?_, ?_, ?_, ?_, ?_, bel3⟩ <;> (repeat' apply And.intro) <;> (first | assumption | exact c_alloc (by assumption) | exact c_at rfl rfl)
  obtain ⟨⟨g1_0_0, g1_0_1, g1_0_2, g1_0_3⟩, ⟨g1_1_0, g1_1_1, g1_1_2, g1_1_3, g1_1_4, g1_1_5⟩, ⟨g1_2_0, g1_2_1, g1_2_2, g1_2_3, g1_2_4, g1_2_5⟩, ⟨g1_3_0, g1_3_1, g1_3_2, g1_3_3, g1_3_4, g1_3_5⟩, ⟨g1_4_0, g1_4_1, g1_4_2, g1_4_3, g1_4_4, g1_4_5⟩, gb1⟩ := hW
  clear c3_0_0 c3_0_1 c3_0_2 c3_0_3 c3_1_0 c3_1_1 c3_1_2 c3_1_3 c3_1_4 c3_1_5 c3_2_0 c3_2_1 c3_2_2 c3_2_3 c3_2_4 c3_2_5 c3_3_0 c3_3_1 c3_3_2 c3_3_3 c3_3_4 c3_3_5 c3_4_0 c3_4_1 c3_4_2 c3_4_3 c3_4_4 c3_4_5 bel3 zc3_0 zc3_1 zc3_2 zc3_3 zc3_4
  go_cut [15, 16] (fun s15 s16 wx => ∃ B1 : Nat, s15 = .pointer (some ⟨B1, 0, none⟩) ∧ s16 = .int .i64 0 ∧ b3 wx B1 u0 u1 u2 ∧ b4 wx w.heap.size n a0 a1 a2 ∧ b6 wx (w.heap.size + 1) x0 x1 x2 x3 x4 x5 ∧ b6 wx (w.heap.size + 1 + 1) z0 z1 z2 z3 z4 z5 ∧ b6 wx t1.heap.size p0 p1 p2 p3 p4 p5 ∧ b6 wx t2.heap.size q0 q1 q2 q3 q4 q5 ∧ Below w.heap.size w wx)
  case first =>
    have mkk1 : ∀ w', Below W1.heap.size W1 w' → (Below W1.heap.size W1 w' ∧ b4 w' w.heap.size n a0 a1 a2 ∧ b6 w' (w.heap.size + 1) x0 x1 x2 x3 x4 x5 ∧ b6 w' (w.heap.size + 1 + 1) z0 z1 z2 z3 z4 z5 ∧ b6 w' t1.heap.size p0 p1 p2 p3 p4 p5 ∧ b6 w' t2.heap.size q0 q1 q2 q3 q4 q5) := fun w' h => ⟨h, b4.later h ⟨g1_0_0, g1_0_1, g1_0_2, g1_0_3⟩, b6.later h ⟨g1_1_0, g1_1_1, g1_1_2, g1_1_3, g1_1_4, g1_1_5⟩, b6.later h ⟨g1_2_0, g1_2_1, g1_2_2, g1_2_3, g1_2_4, g1_2_5⟩, b6.later h ⟨g1_3_0, g1_3_1, g1_3_2, g1_3_3, g1_3_4, g1_3_5⟩, b6.later h ⟨g1_4_0, g1_4_1, g1_4_2, g1_4_3, g1_4_4, g1_4_5⟩⟩
    refine wp_region_held_drew (S := fun w' => Below W1.heap.size W1 w' ∧ b4 w' w.heap.size n a0 a1 a2 ∧ b6 w' (w.heap.size + 1) x0 x1 x2 x3 x4 x5 ∧ b6 w' (w.heap.size + 1 + 1) z0 z1 z2 z3 z4 z5 ∧ b6 w' t1.heap.size p0 p1 p2 p3 p4 p5 ∧ b6 w' t2.heap.size q0 q1 q2 q3 q4 q5) (by kernel_rfl) (mkk1 _ ((Below.refl _ _).drew)) (fun hHeld => ?_)
    refine gen_any (F := fun X => Below W1.heap.size W1 X) hHeld.1 (fun X hF => ?_)
    clear hHeld
    have hHeld := mkk1 _ hF
    clear hF
    refine tkY 0 ?_ rfl ?_ ?_ (by assumption)
    rotate_left
    · intro w h; simp only [b3, b4, b6, cE] at h; go_simp <;> with_reducible rfl
    (try simp only [Act.put, pSa, pSb, pSc])
    refine tkY 1 ?_ rfl ?_ ?_ (by assumption)
    rotate_left
    · intro w h; simp only [b3, b4, b6, cE] at h; go_simp <;> with_reducible rfl
    (try simp only [Act.put, pSa, pSb, pSc])
    refine tkY 2 ?_ rfl ?_ ?_ (by assumption)
    rotate_left
    · intro w h; simp only [b3, b4, b6, cE] at h; go_simp <;> with_reducible rfl
    (try simp only [Act.put, pSa, pSb, pSc])
    refine wpAnyH_ready (rs := [3, 8]) (by kernel_rfl) (by simp) ?_
    refine rCons (i := 3) rfl (fun K hK => ?_) ?_
    · go_simp
      go_at_call 34
      (with_reducible refine (U1 _).mono ?_)
      rintro e X1 ⟨rfl, z⟩
      go_wp2_with fail
      refine hK.out _ _ (mkk1 _ (b_step hHeld.1 z hHeld.1.size)) (fun hHeld2 => ?_)
      clear hK K hHeld z 
      have hHeld := hHeld2
      clear hHeld2
      (try simp only [Act.put, pSa, pSb, pSc])
      refine wpAnyH_ready (rs := [4, 8]) (by kernel_rfl) (by simp) ?_
      refine rCons (i := 4) rfl (fun K hK => ?_) ?_
      · go_simp
        go_at_call 32
        (with_reducible refine (U2 _).mono ?_)
        rintro e X2 ⟨rfl, z⟩
        go_wp2_with fail
        refine hK.out _ _ (mkk1 _ (b_step hHeld.1 z hHeld.1.size)) (fun hHeld2 => ?_)
        clear hK K hHeld z 
        have hHeld := hHeld2
        clear hHeld2
        (try simp only [Act.put, pSa, pSb, pSc])
        refine tkY 5 ?_ rfl ?_ ?_ (by assumption)
        rotate_left
        · intro w h; simp only [b3, b4, b6, cE] at h; go_simp <;> with_reducible rfl
        (try simp only [Act.put, pSa, pSb, pSc])
        refine tkY 6 ?_ rfl ?_ ?_ (by assumption)
        rotate_left
        · intro w h; simp only [b3, b4, b6, cE] at h; go_simp <;> with_reducible rfl
        (try simp only [Act.put, pSa, pSb, pSc])
        refine tkY 7 ?_ rfl ?_ ?_ (by assumption)
        rotate_left
        · intro w h; simp only [b3, b4, b6, cE] at h; go_simp <;> with_reducible rfl
        (try simp only [Act.put, pSa, pSb, pSc])
        refine wpAnyH_ready (rs := [8]) (by kernel_rfl) (by simp) ?_
        refine rCons (i := 8) rfl (fun K hK => ?_) ?_
        · go_simp
          refine hK.out _ _ (mkk1 _ (hHeld.1.alloc hHeld.1.size _)) (fun hHeld2 => ?_)
          have ge3 : W1.heap.size ≤ X2.heap.size := hHeld.1.size
          refine gen_any (F := fun Z => b3 Z X2.heap.size 0 0 0 ∧ f3 Z X2.heap.size ∧ X2.heap.size < Z.heap.size ∧ Below W1.heap.size W1 Z) ⟨b3.new, f3.new, by rw [World.size_alloc]; exact Nat.lt_succ_self _, hHeld2.1⟩ (fun X3 hF => ?_)
          clear hK K hHeld hHeld2 
          obtain ⟨b3_8, q3_8, l3_8, hBB⟩ := hF
          have hHeld := mkk1 _ hBB
          clear hBB
          (try simp only [Act.put, pSa, pSb, pSc])
          refine wpAnyH_ready (rs := [9]) (by kernel_rfl) (by simp) ?_
          refine rCons (i := 9) rfl (fun K hK => ?_) ?_
          · go_simp
            refine hK.out _ _ (mkk1 _ (below_set3 hHeld.1 ge3)) (fun hHeld2 => ?_)
            refine gen_any (F := fun Z => b3 Z X2.heap.size u0 u1 u2 ∧ f3 Z X2.heap.size ∧ X2.heap.size < Z.heap.size ∧ Below W1.heap.size W1 Z) ⟨b3_8.set, q3_8.set, by simp only [World.size_setCell]; exact l3_8, hHeld2.1⟩ (fun X4 hF => ?_)
            clear hK K hHeld hHeld2 b3_8 q3_8 l3_8
            obtain ⟨b4_8, q4_8, l4_8, hBB⟩ := hF
            have hHeld := mkk1 _ hBB
            clear hBB
            (try simp only [Act.put, pSa, pSb, pSc])
            refine tkY 10 ?_ rfl ?_ ?_ (by assumption)
            rotate_left
            · intro w h; simp only [b3, b4, b6, cE] at h; go_simp <;> with_reducible rfl
            (try simp only [Act.put, pSa, pSb, pSc])
            refine wpAnyH_done (by kernel_rfl) ?_ _
            go_wp2_with fail
            go_meet
            exact ⟨_, rfl, rfl, b4_8, hHeld.2.1, hHeld.2.2.1, hHeld.2.2.2.1, hHeld.2.2.2.2.1, hHeld.2.2.2.2.2, b_step gb1 hHeld.1 gb1.size⟩
          exact AllReadyH.nil
        exact AllReadyH.nil
      refine rCons (i := 8) rfl (fun K hK => ?_) ?_
      · go_simp
        refine hK.out _ _ (mkk1 _ (hHeld.1.alloc hHeld.1.size _)) (fun hHeld2 => ?_)
        have ge5 : W1.heap.size ≤ X1.heap.size := hHeld.1.size
        refine gen_any (F := fun Z => b3 Z X1.heap.size 0 0 0 ∧ f3 Z X1.heap.size ∧ X1.heap.size < Z.heap.size ∧ Below W1.heap.size W1 Z) ⟨b3.new, f3.new, by rw [World.size_alloc]; exact Nat.lt_succ_self _, hHeld2.1⟩ (fun X5 hF => ?_)
        clear hK K hHeld hHeld2 
        obtain ⟨b5_8, q5_8, l5_8, hBB⟩ := hF
        have hHeld := mkk1 _ hBB
        clear hBB
        (try simp only [Act.put, pSa, pSb, pSc])
        refine wpAnyH_ready (rs := [4]) (by kernel_rfl) (by simp) ?_
        refine rCons (i := 4) rfl (fun K hK => ?_) ?_
        · go_simp
          go_at_call 32
          (with_reducible refine (U2 _).mono ?_)
          rintro e X6 ⟨rfl, z⟩
          go_wp2_with fail
          refine hK.out _ _ (mkk1 _ (b_step hHeld.1 z hHeld.1.size)) (fun hHeld2 => ?_)
          have b6_8 := b3.later z b5_8
          have q6_8 := f3.later l5_8 z q5_8
          have l6_8 := Nat.lt_of_lt_of_le l5_8 z.size
          clear hK K hHeld z b5_8 q5_8 l5_8
          have hHeld := hHeld2
          clear hHeld2
          (try simp only [Act.put, pSa, pSb, pSc])
          refine tkY 5 ?_ rfl ?_ ?_ (by assumption)
          rotate_left
          · intro w h; simp only [b3, b4, b6, cE] at h; go_simp <;> with_reducible rfl
          (try simp only [Act.put, pSa, pSb, pSc])
          refine tkY 6 ?_ rfl ?_ ?_ (by assumption)
          rotate_left
          · intro w h; simp only [b3, b4, b6, cE] at h; go_simp <;> with_reducible rfl
          (try simp only [Act.put, pSa, pSb, pSc])
          refine tkY 7 ?_ rfl ?_ ?_ (by assumption)
          rotate_left
          · intro w h; simp only [b3, b4, b6, cE] at h; go_simp <;> with_reducible rfl
          (try simp only [Act.put, pSa, pSb, pSc])
          refine wpAnyH_ready (rs := [9]) (by kernel_rfl) (by simp) ?_
          refine rCons (i := 9) rfl (fun K hK => ?_) ?_
          · go_simp
            refine hK.out _ _ (mkk1 _ (below_set3 hHeld.1 ge5)) (fun hHeld2 => ?_)
            refine gen_any (F := fun Z => b3 Z X1.heap.size u0 u1 u2 ∧ f3 Z X1.heap.size ∧ X1.heap.size < Z.heap.size ∧ Below W1.heap.size W1 Z) ⟨b6_8.set, q6_8.set, by simp only [World.size_setCell]; exact l6_8, hHeld2.1⟩ (fun X7 hF => ?_)
            clear hK K hHeld hHeld2 b6_8 q6_8 l6_8
            obtain ⟨b7_8, q7_8, l7_8, hBB⟩ := hF
            have hHeld := mkk1 _ hBB
            clear hBB
            (try simp only [Act.put, pSa, pSb, pSc])
            refine tkY 10 ?_ rfl ?_ ?_ (by assumption)
            rotate_left
            · intro w h; simp only [b3, b4, b6, cE] at h; go_simp <;> with_reducible rfl
            (try simp only [Act.put, pSa, pSb, pSc])
            refine wpAnyH_done (by kernel_rfl) ?_ _
            go_wp2_with fail
            go_meet
            exact ⟨_, rfl, rfl, b7_8, hHeld.2.1, hHeld.2.2.1, hHeld.2.2.2.1, hHeld.2.2.2.2.1, hHeld.2.2.2.2.2, b_step gb1 hHeld.1 gb1.size⟩
          exact AllReadyH.nil
        exact AllReadyH.nil
      exact AllReadyH.nil
    refine rCons (i := 8) rfl (fun K hK => ?_) ?_
    · go_simp
      refine hK.out _ _ (mkk1 _ (hHeld.1.alloc hHeld.1.size _)) (fun hHeld2 => ?_)
      have ge8 : W1.heap.size ≤ X.heap.size := hHeld.1.size
      refine gen_any (F := fun Z => b3 Z X.heap.size 0 0 0 ∧ f3 Z X.heap.size ∧ X.heap.size < Z.heap.size ∧ Below W1.heap.size W1 Z) ⟨b3.new, f3.new, by rw [World.size_alloc]; exact Nat.lt_succ_self _, hHeld2.1⟩ (fun X8 hF => ?_)
      clear hK K hHeld hHeld2 
      obtain ⟨b8_8, q8_8, l8_8, hBB⟩ := hF
      have hHeld := mkk1 _ hBB
      clear hBB
      (try simp only [Act.put, pSa, pSb, pSc])
      refine wpAnyH_ready (rs := [3]) (by kernel_rfl) (by simp) ?_
      refine rCons (i := 3) rfl (fun K hK => ?_) ?_
      · go_simp
        go_at_call 34
        (with_reducible refine (U1 _).mono ?_)
        rintro e X9 ⟨rfl, z⟩
        go_wp2_with fail
        refine hK.out _ _ (mkk1 _ (b_step hHeld.1 z hHeld.1.size)) (fun hHeld2 => ?_)
        have b9_8 := b3.later z b8_8
        have q9_8 := f3.later l8_8 z q8_8
        have l9_8 := Nat.lt_of_lt_of_le l8_8 z.size
        clear hK K hHeld z b8_8 q8_8 l8_8
        have hHeld := hHeld2
        clear hHeld2
        (try simp only [Act.put, pSa, pSb, pSc])
        refine wpAnyH_ready (rs := [4]) (by kernel_rfl) (by simp) ?_
        refine rCons (i := 4) rfl (fun K hK => ?_) ?_
        · go_simp
          go_at_call 32
          (with_reducible refine (U2 _).mono ?_)
          rintro e X10 ⟨rfl, z⟩
          go_wp2_with fail
          refine hK.out _ _ (mkk1 _ (b_step hHeld.1 z hHeld.1.size)) (fun hHeld2 => ?_)
          have b10_8 := b3.later z b9_8
          have q10_8 := f3.later l9_8 z q9_8
          have l10_8 := Nat.lt_of_lt_of_le l9_8 z.size
          clear hK K hHeld z b9_8 q9_8 l9_8
          have hHeld := hHeld2
          clear hHeld2
          (try simp only [Act.put, pSa, pSb, pSc])
          refine tkY 5 ?_ rfl ?_ ?_ (by assumption)
          rotate_left
          · intro w h; simp only [b3, b4, b6, cE] at h; go_simp <;> with_reducible rfl
          (try simp only [Act.put, pSa, pSb, pSc])
          refine tkY 6 ?_ rfl ?_ ?_ (by assumption)
          rotate_left
          · intro w h; simp only [b3, b4, b6, cE] at h; go_simp <;> with_reducible rfl
          (try simp only [Act.put, pSa, pSb, pSc])
          refine tkY 7 ?_ rfl ?_ ?_ (by assumption)
          rotate_left
          · intro w h; simp only [b3, b4, b6, cE] at h; go_simp <;> with_reducible rfl
          (try simp only [Act.put, pSa, pSb, pSc])
          refine wpAnyH_ready (rs := [9]) (by kernel_rfl) (by simp) ?_
          refine rCons (i := 9) rfl (fun K hK => ?_) ?_
          · go_simp
            refine hK.out _ _ (mkk1 _ (below_set3 hHeld.1 ge8)) (fun hHeld2 => ?_)
            refine gen_any (F := fun Z => b3 Z X.heap.size u0 u1 u2 ∧ f3 Z X.heap.size ∧ X.heap.size < Z.heap.size ∧ Below W1.heap.size W1 Z) ⟨b10_8.set, q10_8.set, by simp only [World.size_setCell]; exact l10_8, hHeld2.1⟩ (fun X11 hF => ?_)
            clear hK K hHeld hHeld2 b10_8 q10_8 l10_8
            obtain ⟨b11_8, q11_8, l11_8, hBB⟩ := hF
            have hHeld := mkk1 _ hBB
            clear hBB
            (try simp only [Act.put, pSa, pSb, pSc])
            refine tkY 10 ?_ rfl ?_ ?_ (by assumption)
            rotate_left
            · intro w h; simp only [b3, b4, b6, cE] at h; go_simp <;> with_reducible rfl
            (try simp only [Act.put, pSa, pSb, pSc])
            refine wpAnyH_done (by kernel_rfl) ?_ _
            go_wp2_with fail
            go_meet
            exact ⟨_, rfl, rfl, b11_8, hHeld.2.1, hHeld.2.2.1, hHeld.2.2.2.1, hHeld.2.2.2.2.1, hHeld.2.2.2.2.2, b_step gb1 hHeld.1 gb1.size⟩
          exact AllReadyH.nil
        exact AllReadyH.nil
      exact AllReadyH.nil
    exact AllReadyH.nil
  case rest =>
    obtain ⟨B1, rfl, rfl, ⟨o1_0_0, o1_0_1, o1_0_2⟩, ⟨o1_1_0, o1_1_1, o1_1_2, o1_1_3⟩, ⟨o1_2_0, o1_2_1, o1_2_2, o1_2_3, o1_2_4, o1_2_5⟩, ⟨o1_3_0, o1_3_1, o1_3_2, o1_3_3, o1_3_4, o1_3_5⟩, ⟨o1_4_0, o1_4_1, o1_4_2, o1_4_3, o1_4_4, o1_4_5⟩, ⟨o1_5_0, o1_5_1, o1_5_2, o1_5_3, o1_5_4, o1_5_5⟩, ob1⟩ := hcut
    clear gb1 g1_0_0 g1_0_1 g1_0_2 g1_0_3 g1_1_0 g1_1_1 g1_1_2 g1_1_3 g1_1_4 g1_1_5 g1_2_0 g1_2_1 g1_2_2 g1_2_3 g1_2_4 g1_2_5 g1_3_0 g1_3_1 g1_3_2 g1_3_3 g1_3_4 g1_3_5 g1_4_0 g1_4_1 g1_4_2 g1_4_3 g1_4_4 g1_4_5
    have zo1_0 := World.block_lt_of_cell? _ _ o1_0_0
    have zo1_1 := World.block_lt_of_cell? _ _ o1_1_0
    have zo1_2 := World.block_lt_of_cell? _ _ o1_2_0
    have zo1_3 := World.block_lt_of_cell? _ _ o1_3_0
    have zo1_4 := World.block_lt_of_cell? _ _ o1_4_0
    have zo1_5 := World.block_lt_of_cell? _ _ o1_5_0
    go_upto_region 6 with fail
    refine gen_world (F := fun W2 => b3 W2 B1 u0 u1 u2 ∧ b4 W2 w.heap.size n a0 a1 a2 ∧ b6 W2 (w.heap.size + 1) x0 x1 x2 x3 x4 x5 ∧ b6 W2 (w.heap.size + 1 + 1) z0 z1 z2 z3 z4 z5 ∧ b6 W2 t1.heap.size p0 p1 p2 p3 p4 p5 ∧ b6 W2 t2.heap.size q0 q1 q2 q3 q4 q5 ∧ Below w.heap.size w W2) ?_ (fun W2 hW => ?_)
    · refine ⟨?_, ?_, ?_, ?_, ?_, ?_, ob1⟩ <;> (repeat' apply And.intro) <;> (first | assumption | exact c_alloc (by assumption) | exact c_at rfl rfl)
    obtain ⟨⟨g2_0_0, g2_0_1, g2_0_2⟩, ⟨g2_1_0, g2_1_1, g2_1_2, g2_1_3⟩, ⟨g2_2_0, g2_2_1, g2_2_2, g2_2_3, g2_2_4, g2_2_5⟩, ⟨g2_3_0, g2_3_1, g2_3_2, g2_3_3, g2_3_4, g2_3_5⟩, ⟨g2_4_0, g2_4_1, g2_4_2, g2_4_3, g2_4_4, g2_4_5⟩, ⟨g2_5_0, g2_5_1, g2_5_2, g2_5_3, g2_5_4, g2_5_5⟩, gb2⟩ := hW
    clear o1_0_0 o1_0_1 o1_0_2 o1_1_0 o1_1_1 o1_1_2 o1_1_3 o1_2_0 o1_2_1 o1_2_2 o1_2_3 o1_2_4 o1_2_5 o1_3_0 o1_3_1 o1_3_2 o1_3_3 o1_3_4 o1_3_5 o1_4_0 o1_4_1 o1_4_2 o1_4_3 o1_4_4 o1_4_5 o1_5_0 o1_5_1 o1_5_2 o1_5_3 o1_5_4 o1_5_5 ob1 zo1_0 zo1_1 zo1_2 zo1_3 zo1_4 zo1_5
    have mkq2 : ∀ w', Below W2.heap.size W2 w' → (Below W2.heap.size W2 w' ∧ b3 w' B1 u0 u1 u2 ∧ b4 w' w.heap.size n a0 a1 a2 ∧ b6 w' (w.heap.size + 1) x0 x1 x2 x3 x4 x5 ∧ b6 w' (w.heap.size + 1 + 1) z0 z1 z2 z3 z4 z5 ∧ b6 w' t1.heap.size p0 p1 p2 p3 p4 p5 ∧ b6 w' t2.heap.size q0 q1 q2 q3 q4 q5) := fun w' h => ⟨h, b3.later h ⟨g2_0_0, g2_0_1, g2_0_2⟩, b4.later h ⟨g2_1_0, g2_1_1, g2_1_2, g2_1_3⟩, b6.later h ⟨g2_2_0, g2_2_1, g2_2_2, g2_2_3, g2_2_4, g2_2_5⟩, b6.later h ⟨g2_3_0, g2_3_1, g2_3_2, g2_3_3, g2_3_4, g2_3_5⟩, b6.later h ⟨g2_4_0, g2_4_1, g2_4_2, g2_4_3, g2_4_4, g2_4_5⟩, b6.later h ⟨g2_5_0, g2_5_1, g2_5_2, g2_5_3, g2_5_4, g2_5_5⟩⟩
    refine wp_region_held_drew (S := fun w' => Below W2.heap.size W2 w' ∧ b3 w' B1 u0 u1 u2 ∧ b4 w' w.heap.size n a0 a1 a2 ∧ b6 w' (w.heap.size + 1) x0 x1 x2 x3 x4 x5 ∧ b6 w' (w.heap.size + 1 + 1) z0 z1 z2 z3 z4 z5 ∧ b6 w' t1.heap.size p0 p1 p2 p3 p4 p5 ∧ b6 w' t2.heap.size q0 q1 q2 q3 q4 q5) (by kernel_rfl) (mkq2 _ ((Below.refl _ _).drew)) (fun hHeld => ?_)
    refine tkY 0 ?_ rfl ?_ ?_ (by assumption)
    rotate_left
    · intro w h; simp only [b3, b4, b6, cE] at h; go_simp <;> with_reducible rfl
    (try simp only [Act.put, pSa, pSb, pSc])
    refine tkY 1 ?_ rfl ?_ ?_ (by assumption)
    rotate_left
    · intro w h; simp only [b3, b4, b6, cE] at h; go_simp <;> with_reducible rfl
    (try simp only [Act.put, pSa, pSb, pSc])
    refine tkY 2 ?_ rfl ?_ ?_ (by assumption)
    rotate_left
    · intro w h; simp only [b3, b4, b6, cE] at h; go_simp <;> with_reducible rfl
    (try simp only [Act.put, pSa, pSb, pSc])
    refine tkY 3 ?_ rfl ?_ ?_ (by assumption)
    rotate_left
    · intro w h; simp only [b3, b4, b6, cE] at h; go_simp <;> with_reducible rfl
    (try simp only [Act.put, pSa, pSb, pSc])
    refine tkY 4 ?_ rfl ?_ ?_ (by assumption)
    rotate_left
    · intro w h; simp only [b3, b4, b6, cE] at h; go_simp <;> with_reducible rfl
    (try simp only [Act.put, pSa, pSb, pSc])
    refine rOne 5 rfl (fun K hK => ?_)
    go_simp
    go_at_call 34
    (with_reducible refine (U3 _).mono ?_)
    rintro e rq21 ⟨rfl, zq21⟩
    go_wp2_with fail
    refine hK.out _ _ (mkq2 _ (b_step hHeld.1 zq21 hHeld.1.size)) (fun hHeld2 => ?_)
    clear hK K hHeld
    have hHeld := hHeld2
    clear hHeld2
    (try simp only [Act.put, pSa, pSb, pSc])
    refine tkY 6 ?_ rfl ?_ ?_ (by assumption)
    rotate_left
    · intro w h; simp only [b3, b4, b6, cE] at h; go_simp <;> with_reducible rfl
    (try simp only [Act.put, pSa, pSb, pSc])
    refine tkY 7 ?_ rfl ?_ ?_ (by assumption)
    rotate_left
    · intro w h; simp only [b3, b4, b6, cE] at h; go_simp <;> with_reducible rfl
    (try simp only [Act.put, pSa, pSb, pSc])
    refine wpAnyH_done (by kernel_rfl) ?_ _
    have belq2 := b_step gb2 hHeld.1 gb2.size
    obtain ⟨-, ⟨h2_0_0, h2_0_1, h2_0_2⟩, ⟨h2_1_0, h2_1_1, h2_1_2, h2_1_3⟩, ⟨h2_2_0, h2_2_1, h2_2_2, h2_2_3, h2_2_4, h2_2_5⟩, ⟨h2_3_0, h2_3_1, h2_3_2, h2_3_3, h2_3_4, h2_3_5⟩, ⟨h2_4_0, h2_4_1, h2_4_2, h2_4_3, h2_4_4, h2_4_5⟩, ⟨h2_5_0, h2_5_1, h2_5_2, h2_5_3, h2_5_4, h2_5_5⟩⟩ := hHeld
    clear gb2 mkq2 g2_0_0 g2_0_1 g2_0_2 g2_1_0 g2_1_1 g2_1_2 g2_1_3 g2_2_0 g2_2_1 g2_2_2 g2_2_3 g2_2_4 g2_2_5 g2_3_0 g2_3_1 g2_3_2 g2_3_3 g2_3_4 g2_3_5 g2_4_0 g2_4_1 g2_4_2 g2_4_3 g2_4_4 g2_4_5 g2_5_0 g2_5_1 g2_5_2 g2_5_3 g2_5_4 g2_5_5
    have zh2_0 := World.block_lt_of_cell? _ _ h2_0_0
    have zh2_1 := World.block_lt_of_cell? _ _ h2_1_0
    have zh2_2 := World.block_lt_of_cell? _ _ h2_2_0
    have zh2_3 := World.block_lt_of_cell? _ _ h2_3_0
    have zh2_4 := World.block_lt_of_cell? _ _ h2_4_0
    have zh2_5 := World.block_lt_of_cell? _ _ h2_5_0
    go_wp2_with fail
    go_at_call 32
    (with_reducible refine (M1 _).mono ?_)
    rintro e t4 ⟨rfl, y4⟩
    obtain ⟨⟨c4_0_0, c4_0_1, c4_0_2, c4_0_3⟩, ⟨c4_1_0, c4_1_1, c4_1_2, c4_1_3, c4_1_4, c4_1_5⟩, ⟨c4_2_0, c4_2_1, c4_2_2, c4_2_3, c4_2_4, c4_2_5⟩, ⟨c4_3_0, c4_3_1, c4_3_2, c4_3_3, c4_3_4, c4_3_5⟩, ⟨c4_4_0, c4_4_1, c4_4_2, c4_4_3, c4_4_4, c4_4_5⟩, bel4⟩ : b4 t4 w.heap.size n a0 a1 a2 ∧ b6 t4 (w.heap.size + 1) x0 x1 x2 x3 x4 x5 ∧ b6 t4 (w.heap.size + 1 + 1) z0 z1 z2 z3 z4 z5 ∧ b6 t4 t1.heap.size p0 p1 p2 p3 p4 p5 ∧ b6 t4 t2.heap.size q0 q1 q2 q3 q4 q5 ∧ Below w.heap.size w t4 := by
      refine ⟨?_, ?_, ?_, ?_, ?_, bs0 belq2 y4⟩ <;> (repeat' apply And.intro) <;> exact cell_later y4 (by (first | assumption | exact c_alloc (by assumption) | exact c_at rfl rfl))
    clear y4 h2_0_0 h2_0_1 h2_0_2 h2_1_0 h2_1_1 h2_1_2 h2_1_3 h2_2_0 h2_2_1 h2_2_2 h2_2_3 h2_2_4 h2_2_5 h2_3_0 h2_3_1 h2_3_2 h2_3_3 h2_3_4 h2_3_5 h2_4_0 h2_4_1 h2_4_2 h2_4_3 h2_4_4 h2_4_5 h2_5_0 h2_5_1 h2_5_2 h2_5_3 h2_5_4 h2_5_5 belq2 zh2_0 zh2_1 zh2_2 zh2_3 zh2_4 zh2_5
    have zc4_0 := World.block_lt_of_cell? _ _ c4_0_0
    have zc4_1 := World.block_lt_of_cell? _ _ c4_1_0
    have zc4_2 := World.block_lt_of_cell? _ _ c4_2_0
    have zc4_3 := World.block_lt_of_cell? _ _ c4_3_0
    have zc4_4 := World.block_lt_of_cell? _ _ c4_4_0
    go_wp2_with fail
    go_at_call 32
    (with_reducible refine (M2 _).mono ?_)
    rintro e t5 ⟨rfl, y5⟩
    obtain ⟨⟨c5_0_0, c5_0_1, c5_0_2, c5_0_3⟩, ⟨c5_1_0, c5_1_1, c5_1_2, c5_1_3, c5_1_4, c5_1_5⟩, ⟨c5_2_0, c5_2_1, c5_2_2, c5_2_3, c5_2_4, c5_2_5⟩, ⟨c5_3_0, c5_3_1, c5_3_2, c5_3_3, c5_3_4, c5_3_5⟩, ⟨c5_4_0, c5_4_1, c5_4_2, c5_4_3, c5_4_4, c5_4_5⟩, ⟨c5_5_0, c5_5_1, c5_5_2⟩, bel5⟩ : b4 t5 w.heap.size n a0 a1 a2 ∧ b6 t5 (w.heap.size + 1) x0 x1 x2 x3 x4 x5 ∧ b6 t5 (w.heap.size + 1 + 1) z0 z1 z2 z3 z4 z5 ∧ b6 t5 t1.heap.size p0 p1 p2 p3 p4 p5 ∧ b6 t5 t2.heap.size q0 q1 q2 q3 q4 q5 ∧ b3 t5 t4.heap.size m0 m1 m2 ∧ Below w.heap.size w t5 := by
      refine ⟨?_, ?_, ?_, ?_, ?_, ?_, bs1 bel4 y5⟩ <;> (repeat' apply And.intro) <;> exact cell_later y5 (by (first | assumption | exact c_alloc (by assumption) | exact c_at rfl rfl))
    clear y5 c4_0_0 c4_0_1 c4_0_2 c4_0_3 c4_1_0 c4_1_1 c4_1_2 c4_1_3 c4_1_4 c4_1_5 c4_2_0 c4_2_1 c4_2_2 c4_2_3 c4_2_4 c4_2_5 c4_3_0 c4_3_1 c4_3_2 c4_3_3 c4_3_4 c4_3_5 c4_4_0 c4_4_1 c4_4_2 c4_4_3 c4_4_4 c4_4_5 bel4 zc4_0 zc4_1 zc4_2 zc4_3 zc4_4
    have zc5_0 := World.block_lt_of_cell? _ _ c5_0_0
    have zc5_1 := World.block_lt_of_cell? _ _ c5_1_0
    have zc5_2 := World.block_lt_of_cell? _ _ c5_2_0
    have zc5_3 := World.block_lt_of_cell? _ _ c5_3_0
    have zc5_4 := World.block_lt_of_cell? _ _ c5_4_0
    have zc5_5 := World.block_lt_of_cell? _ _ c5_5_0
    go_upto_region 14 with fail
    refine gen_world (F := fun W3 => b4 W3 w.heap.size n a0 a1 a2 ∧ b6 W3 (w.heap.size + 1) x0 x1 x2 x3 x4 x5 ∧ b6 W3 (w.heap.size + 1 + 1) z0 z1 z2 z3 z4 z5 ∧ b6 W3 t1.heap.size p0 p1 p2 p3 p4 p5 ∧ b6 W3 t2.heap.size q0 q1 q2 q3 q4 q5 ∧ b3 W3 t4.heap.size m0 m1 m2 ∧ b3 W3 t5.heap.size n0 n1 n2 ∧ Below w.heap.size w W3) ?_ (fun W3 hW => ?_)
    · refine ⟨?_, ?_, ?_, ?_, ?_, ?_, ?_, (bel5.alloc bel5.size _)⟩ <;> (repeat' apply And.intro) <;> (first | assumption | exact c_alloc (by assumption) | exact c_at rfl rfl)
    obtain ⟨⟨g3_0_0, g3_0_1, g3_0_2, g3_0_3⟩, ⟨g3_1_0, g3_1_1, g3_1_2, g3_1_3, g3_1_4, g3_1_5⟩, ⟨g3_2_0, g3_2_1, g3_2_2, g3_2_3, g3_2_4, g3_2_5⟩, ⟨g3_3_0, g3_3_1, g3_3_2, g3_3_3, g3_3_4, g3_3_5⟩, ⟨g3_4_0, g3_4_1, g3_4_2, g3_4_3, g3_4_4, g3_4_5⟩, ⟨g3_5_0, g3_5_1, g3_5_2⟩, ⟨g3_6_0, g3_6_1, g3_6_2⟩, gb3⟩ := hW
    clear c5_0_0 c5_0_1 c5_0_2 c5_0_3 c5_1_0 c5_1_1 c5_1_2 c5_1_3 c5_1_4 c5_1_5 c5_2_0 c5_2_1 c5_2_2 c5_2_3 c5_2_4 c5_2_5 c5_3_0 c5_3_1 c5_3_2 c5_3_3 c5_3_4 c5_3_5 c5_4_0 c5_4_1 c5_4_2 c5_4_3 c5_4_4 c5_4_5 c5_5_0 c5_5_1 c5_5_2 bel5 zc5_0 zc5_1 zc5_2 zc5_3 zc5_4 zc5_5
    go_cut [21, 22] (fun s21 s22 wx => ∃ B2 B3 : Nat, s21 = .pointer (some ⟨B2, 0, none⟩) ∧ s22 = .pointer (some ⟨B3, 0, none⟩) ∧ b3 wx B2 r0 r1 r2 ∧ b3 wx B3 s0 s1 s2 ∧ b4 wx w.heap.size n a0 a1 a2 ∧ b6 wx (w.heap.size + 1) x0 x1 x2 x3 x4 x5 ∧ b6 wx (w.heap.size + 1 + 1) z0 z1 z2 z3 z4 z5 ∧ b6 wx t1.heap.size p0 p1 p2 p3 p4 p5 ∧ b6 wx t2.heap.size q0 q1 q2 q3 q4 q5 ∧ b3 wx t4.heap.size m0 m1 m2 ∧ b3 wx t5.heap.size n0 n1 n2 ∧ Below w.heap.size w wx)
    case first =>
      have mkk3 : ∀ w', Below W3.heap.size W3 w' → (Below W3.heap.size W3 w' ∧ b4 w' w.heap.size n a0 a1 a2 ∧ b6 w' (w.heap.size + 1) x0 x1 x2 x3 x4 x5 ∧ b6 w' (w.heap.size + 1 + 1) z0 z1 z2 z3 z4 z5 ∧ b6 w' t1.heap.size p0 p1 p2 p3 p4 p5 ∧ b6 w' t2.heap.size q0 q1 q2 q3 q4 q5 ∧ b3 w' t4.heap.size m0 m1 m2 ∧ b3 w' t5.heap.size n0 n1 n2) := fun w' h => ⟨h, b4.later h ⟨g3_0_0, g3_0_1, g3_0_2, g3_0_3⟩, b6.later h ⟨g3_1_0, g3_1_1, g3_1_2, g3_1_3, g3_1_4, g3_1_5⟩, b6.later h ⟨g3_2_0, g3_2_1, g3_2_2, g3_2_3, g3_2_4, g3_2_5⟩, b6.later h ⟨g3_3_0, g3_3_1, g3_3_2, g3_3_3, g3_3_4, g3_3_5⟩, b6.later h ⟨g3_4_0, g3_4_1, g3_4_2, g3_4_3, g3_4_4, g3_4_5⟩, b3.later h ⟨g3_5_0, g3_5_1, g3_5_2⟩, b3.later h ⟨g3_6_0, g3_6_1, g3_6_2⟩⟩
      refine wp_region_held_drew (S := fun w' => Below W3.heap.size W3 w' ∧ b4 w' w.heap.size n a0 a1 a2 ∧ b6 w' (w.heap.size + 1) x0 x1 x2 x3 x4 x5 ∧ b6 w' (w.heap.size + 1 + 1) z0 z1 z2 z3 z4 z5 ∧ b6 w' t1.heap.size p0 p1 p2 p3 p4 p5 ∧ b6 w' t2.heap.size q0 q1 q2 q3 q4 q5 ∧ b3 w' t4.heap.size m0 m1 m2 ∧ b3 w' t5.heap.size n0 n1 n2) (by kernel_rfl) (mkk3 _ ((Below.refl _ _).drew)) (fun hHeld => ?_)
      refine gen_any (F := fun X => Below W3.heap.size W3 X) hHeld.1 (fun X hF => ?_)
      clear hHeld
      have hHeld := mkk3 _ hF
      clear hF
      refine tkY 0 ?_ rfl ?_ ?_ (by assumption)
      rotate_left
      · intro w h; simp only [b3, b4, b6, cE] at h; go_simp <;> with_reducible rfl
      (try simp only [Act.put, pSa, pSb, pSc])
      refine tkY 1 ?_ rfl ?_ ?_ (by assumption)
      rotate_left
      · intro w h; simp only [b3, b4, b6, cE] at h; go_simp <;> with_reducible rfl
      (try simp only [Act.put, pSa, pSb, pSc])
      refine tkY 2 ?_ rfl ?_ ?_ (by assumption)
      rotate_left
      · intro w h; simp only [b3, b4, b6, cE] at h; go_simp <;> with_reducible rfl
      (try simp only [Act.put, pSa, pSb, pSc])
      refine tkY 3 ?_ rfl ?_ ?_ (by assumption)
      rotate_left
      · intro w h; simp only [b3, b4, b6, cE] at h; go_simp <;> with_reducible rfl
      (try simp only [Act.put, pSa, pSb, pSc])
      refine tkY 5 ?_ rfl ?_ ?_ (by assumption)
      rotate_left
      · intro w h; simp only [b3, b4, b6, cE] at h; go_simp <;> with_reducible rfl
      (try simp only [Act.put, pSa, pSb, pSc])
      refine tkY 6 ?_ rfl ?_ ?_ (by assumption)
      rotate_left
      · intro w h; simp only [b3, b4, b6, cE] at h; go_simp <;> with_reducible rfl
      (try simp only [Act.put, pSa, pSb, pSc])
      refine wpAnyH_ready (rs := [4, 8, 9]) (by kernel_rfl) (by simp) ?_
      refine rCons (i := 4) rfl (fun K hK => ?_) ?_
      · go_simp
        go_at_call 35
        (with_reducible refine (M3 _).mono ?_)
        rintro e X1 ⟨rfl, z⟩
        go_wp2_with fail
        refine hK.out _ _ (mkk3 _ (b_step hHeld.1 z hHeld.1.size)) (fun hHeld2 => ?_)
        clear hK K hHeld z 
        have hHeld := hHeld2
        clear hHeld2
        (try simp only [Act.put, pSa, pSb, pSc])
        refine wpAnyH_ready (rs := [7, 8, 9]) (by kernel_rfl) (by simp) ?_
        refine rCons (i := 7) rfl (fun K hK => ?_) ?_
        · go_simp
          go_at_call 35
          (with_reducible refine (M4 _).mono ?_)
          rintro e X2 ⟨rfl, z⟩
          go_wp2_with fail
          refine hK.out _ _ (mkk3 _ (b_step hHeld.1 z hHeld.1.size)) (fun hHeld2 => ?_)
          clear hK K hHeld z 
          have hHeld := hHeld2
          clear hHeld2
          (try simp only [Act.put, pSa, pSb, pSc])
          refine wpAnyH_ready (rs := [8, 9]) (by kernel_rfl) (by simp) ?_
          refine rCons (i := 8) rfl (fun K hK => ?_) ?_
          · go_simp
            refine hK.out _ _ (mkk3 _ (hHeld.1.alloc hHeld.1.size _)) (fun hHeld2 => ?_)
            have ge3 : W3.heap.size ≤ X2.heap.size := hHeld.1.size
            refine gen_any (F := fun Z => b3 Z X2.heap.size 0 0 0 ∧ f3 Z X2.heap.size ∧ X2.heap.size < Z.heap.size ∧ Below W3.heap.size W3 Z) ⟨b3.new, f3.new, by rw [World.size_alloc]; exact Nat.lt_succ_self _, hHeld2.1⟩ (fun X3 hF => ?_)
            clear hK K hHeld hHeld2 
            obtain ⟨b3_8, q3_8, l3_8, hBB⟩ := hF
            have hHeld := mkk3 _ hBB
            clear hBB
            (try simp only [Act.put, pSa, pSb, pSc])
            refine wpAnyH_ready (rs := [9]) (by kernel_rfl) (by simp) ?_
            refine rCons (i := 9) rfl (fun K hK => ?_) ?_
            · go_simp
              refine hK.out _ _ (mkk3 _ (hHeld.1.alloc hHeld.1.size _)) (fun hHeld2 => ?_)
              have ge4 : W3.heap.size ≤ X3.heap.size := hHeld.1.size
              have ne4_8 : X2.heap.size < X3.heap.size := l3_8
              refine gen_any (F := fun Z => b3 Z X2.heap.size 0 0 0 ∧ f3 Z X2.heap.size ∧ X2.heap.size < Z.heap.size ∧ b3 Z X3.heap.size 0 0 0 ∧ f3 Z X3.heap.size ∧ X3.heap.size < Z.heap.size ∧ Below W3.heap.size W3 Z) ⟨b3_8.alloc _, q3_8.alloc l3_8 _, by rw [World.size_alloc]; exact Nat.lt_succ_of_lt l3_8, b3.new, f3.new, by rw [World.size_alloc]; exact Nat.lt_succ_self _, hHeld2.1⟩ (fun X4 hF => ?_)
              clear hK K hHeld hHeld2 b3_8 q3_8 l3_8
              obtain ⟨b4_8, q4_8, l4_8, b4_9, q4_9, l4_9, hBB⟩ := hF
              have hHeld := mkk3 _ hBB
              clear hBB
              (try simp only [Act.put, pSa, pSb, pSc])
              refine wpAnyH_ready (rs := [10]) (by kernel_rfl) (by simp) ?_
              refine rCons (i := 10) rfl (fun K hK => ?_) ?_
              · go_simp
                refine hK.out _ _ (mkk3 _ (below_set3 hHeld.1 ge3)) (fun hHeld2 => ?_)
                refine gen_any (F := fun Z => b3 Z X2.heap.size r0 r1 r2 ∧ f3 Z X2.heap.size ∧ X2.heap.size < Z.heap.size ∧ b3 Z X3.heap.size 0 0 0 ∧ f3 Z X3.heap.size ∧ X3.heap.size < Z.heap.size ∧ Below W3.heap.size W3 Z) ⟨b4_8.set, q4_8.set, by simp only [World.size_setCell]; exact l4_8, b4_9.far (Nat.ne_of_gt ne4_8), q4_9.set, by simp only [World.size_setCell]; exact l4_9, hHeld2.1⟩ (fun X5 hF => ?_)
                clear hK K hHeld hHeld2 b4_8 b4_9 q4_8 q4_9 l4_8 l4_9
                obtain ⟨b5_8, q5_8, l5_8, b5_9, q5_9, l5_9, hBB⟩ := hF
                have hHeld := mkk3 _ hBB
                clear hBB
                (try simp only [Act.put, pSa, pSb, pSc])
                refine wpAnyH_ready (rs := [11]) (by kernel_rfl) (by simp) ?_
                refine rCons (i := 11) rfl (fun K hK => ?_) ?_
                · go_simp
                  refine hK.out _ _ (mkk3 _ (below_set3 hHeld.1 ge4)) (fun hHeld2 => ?_)
                  refine gen_any (F := fun Z => b3 Z X2.heap.size r0 r1 r2 ∧ f3 Z X2.heap.size ∧ X2.heap.size < Z.heap.size ∧ b3 Z X3.heap.size s0 s1 s2 ∧ f3 Z X3.heap.size ∧ X3.heap.size < Z.heap.size ∧ Below W3.heap.size W3 Z) ⟨b5_8.far (Nat.ne_of_lt ne4_8), q5_8.set, by simp only [World.size_setCell]; exact l5_8, b5_9.set, q5_9.set, by simp only [World.size_setCell]; exact l5_9, hHeld2.1⟩ (fun X6 hF => ?_)
                  clear hK K hHeld hHeld2 b5_8 b5_9 q5_8 q5_9 l5_8 l5_9
                  obtain ⟨b6_8, q6_8, l6_8, b6_9, q6_9, l6_9, hBB⟩ := hF
                  have hHeld := mkk3 _ hBB
                  clear hBB
                  (try simp only [Act.put, pSa, pSb, pSc])
                  refine wpAnyH_done (by kernel_rfl) ?_ _
                  go_wp2_with fail
                  go_meet
                  exact ⟨_, _, rfl, rfl, b6_8, b6_9, hHeld.2.1, hHeld.2.2.1, hHeld.2.2.2.1, hHeld.2.2.2.2.1, hHeld.2.2.2.2.2.1, hHeld.2.2.2.2.2.2.1, hHeld.2.2.2.2.2.2.2, b_step gb3 hHeld.1 gb3.size⟩
                exact AllReadyH.nil
              exact AllReadyH.nil
            exact AllReadyH.nil
          refine rCons (i := 9) rfl (fun K hK => ?_) ?_
          · go_simp
            refine hK.out _ _ (mkk3 _ (hHeld.1.alloc hHeld.1.size _)) (fun hHeld2 => ?_)
            have ge7 : W3.heap.size ≤ X2.heap.size := hHeld.1.size
            refine gen_any (F := fun Z => b3 Z X2.heap.size 0 0 0 ∧ f3 Z X2.heap.size ∧ X2.heap.size < Z.heap.size ∧ Below W3.heap.size W3 Z) ⟨b3.new, f3.new, by rw [World.size_alloc]; exact Nat.lt_succ_self _, hHeld2.1⟩ (fun X7 hF => ?_)
            clear hK K hHeld hHeld2 
            obtain ⟨b7_9, q7_9, l7_9, hBB⟩ := hF
            have hHeld := mkk3 _ hBB
            clear hBB
            (try simp only [Act.put, pSa, pSb, pSc])
            refine wpAnyH_ready (rs := [8]) (by kernel_rfl) (by simp) ?_
            refine rCons (i := 8) rfl (fun K hK => ?_) ?_
            · go_simp
              refine hK.out _ _ (mkk3 _ (hHeld.1.alloc hHeld.1.size _)) (fun hHeld2 => ?_)
              have ge8 : W3.heap.size ≤ X7.heap.size := hHeld.1.size
              have ne8_9 : X2.heap.size < X7.heap.size := l7_9
              refine gen_any (F := fun Z => b3 Z X2.heap.size 0 0 0 ∧ f3 Z X2.heap.size ∧ X2.heap.size < Z.heap.size ∧ b3 Z X7.heap.size 0 0 0 ∧ f3 Z X7.heap.size ∧ X7.heap.size < Z.heap.size ∧ Below W3.heap.size W3 Z) ⟨b7_9.alloc _, q7_9.alloc l7_9 _, by rw [World.size_alloc]; exact Nat.lt_succ_of_lt l7_9, b3.new, f3.new, by rw [World.size_alloc]; exact Nat.lt_succ_self _, hHeld2.1⟩ (fun X8 hF => ?_)
              clear hK K hHeld hHeld2 b7_9 q7_9 l7_9
              obtain ⟨b8_9, q8_9, l8_9, b8_8, q8_8, l8_8, hBB⟩ := hF
              have hHeld := mkk3 _ hBB
              clear hBB
              (try simp only [Act.put, pSa, pSb, pSc])
              refine wpAnyH_ready (rs := [10]) (by kernel_rfl) (by simp) ?_
              refine rCons (i := 10) rfl (fun K hK => ?_) ?_
              · go_simp
                refine hK.out _ _ (mkk3 _ (below_set3 hHeld.1 ge8)) (fun hHeld2 => ?_)
                refine gen_any (F := fun Z => b3 Z X2.heap.size 0 0 0 ∧ f3 Z X2.heap.size ∧ X2.heap.size < Z.heap.size ∧ b3 Z X7.heap.size r0 r1 r2 ∧ f3 Z X7.heap.size ∧ X7.heap.size < Z.heap.size ∧ Below W3.heap.size W3 Z) ⟨b8_9.far (Nat.ne_of_lt ne8_9), q8_9.set, by simp only [World.size_setCell]; exact l8_9, b8_8.set, q8_8.set, by simp only [World.size_setCell]; exact l8_8, hHeld2.1⟩ (fun X9 hF => ?_)
                clear hK K hHeld hHeld2 b8_9 b8_8 q8_9 q8_8 l8_9 l8_8
                obtain ⟨b9_9, q9_9, l9_9, b9_8, q9_8, l9_8, hBB⟩ := hF
                have hHeld := mkk3 _ hBB
                clear hBB
                (try simp only [Act.put, pSa, pSb, pSc])
                refine wpAnyH_ready (rs := [11]) (by kernel_rfl) (by simp) ?_
                refine rCons (i := 11) rfl (fun K hK => ?_) ?_
                · go_simp
                  refine hK.out _ _ (mkk3 _ (below_set3 hHeld.1 ge7)) (fun hHeld2 => ?_)
                  refine gen_any (F := fun Z => b3 Z X2.heap.size s0 s1 s2 ∧ f3 Z X2.heap.size ∧ X2.heap.size < Z.heap.size ∧ b3 Z X7.heap.size r0 r1 r2 ∧ f3 Z X7.heap.size ∧ X7.heap.size < Z.heap.size ∧ Below W3.heap.size W3 Z) ⟨b9_9.set, q9_9.set, by simp only [World.size_setCell]; exact l9_9, b9_8.far (Nat.ne_of_gt ne8_9), q9_8.set, by simp only [World.size_setCell]; exact l9_8, hHeld2.1⟩ (fun X10 hF => ?_)
                  clear hK K hHeld hHeld2 b9_9 b9_8 q9_9 q9_8 l9_9 l9_8
                  obtain ⟨b10_9, q10_9, l10_9, b10_8, q10_8, l10_8, hBB⟩ := hF
                  have hHeld := mkk3 _ hBB
                  clear hBB
                  (try simp only [Act.put, pSa, pSb, pSc])
                  refine wpAnyH_done (by kernel_rfl) ?_ _
                  go_wp2_with fail
                  go_meet
                  exact ⟨_, _, rfl, rfl, b10_8, b10_9, hHeld.2.1, hHeld.2.2.1, hHeld.2.2.2.1, hHeld.2.2.2.2.1, hHeld.2.2.2.2.2.1, hHeld.2.2.2.2.2.2.1, hHeld.2.2.2.2.2.2.2, b_step gb3 hHeld.1 gb3.size⟩
                exact AllReadyH.nil
              exact AllReadyH.nil
            exact AllReadyH.nil
          exact AllReadyH.nil
        refine rCons (i := 8) rfl (fun K hK => ?_) ?_
        · go_simp
          refine hK.out _ _ (mkk3 _ (hHeld.1.alloc hHeld.1.size _)) (fun hHeld2 => ?_)
          have ge11 : W3.heap.size ≤ X1.heap.size := hHeld.1.size
          refine gen_any (F := fun Z => b3 Z X1.heap.size 0 0 0 ∧ f3 Z X1.heap.size ∧ X1.heap.size < Z.heap.size ∧ Below W3.heap.size W3 Z) ⟨b3.new, f3.new, by rw [World.size_alloc]; exact Nat.lt_succ_self _, hHeld2.1⟩ (fun X11 hF => ?_)
          clear hK K hHeld hHeld2 
          obtain ⟨b11_8, q11_8, l11_8, hBB⟩ := hF
          have hHeld := mkk3 _ hBB
          clear hBB
          (try simp only [Act.put, pSa, pSb, pSc])
          refine wpAnyH_ready (rs := [7, 9]) (by kernel_rfl) (by simp) ?_
          refine rCons (i := 7) rfl (fun K hK => ?_) ?_
          · go_simp
            go_at_call 35
            (with_reducible refine (M4 _).mono ?_)
            rintro e X12 ⟨rfl, z⟩
            go_wp2_with fail
            refine hK.out _ _ (mkk3 _ (b_step hHeld.1 z hHeld.1.size)) (fun hHeld2 => ?_)
            have b12_8 := b3.later z b11_8
            have q12_8 := f3.later l11_8 z q11_8
            have l12_8 := Nat.lt_of_lt_of_le l11_8 z.size
            clear hK K hHeld z b11_8 q11_8 l11_8
            have hHeld := hHeld2
            clear hHeld2
            (try simp only [Act.put, pSa, pSb, pSc])
            refine wpAnyH_ready (rs := [9]) (by kernel_rfl) (by simp) ?_
            refine rCons (i := 9) rfl (fun K hK => ?_) ?_
            · go_simp
              refine hK.out _ _ (mkk3 _ (hHeld.1.alloc hHeld.1.size _)) (fun hHeld2 => ?_)
              have ge13 : W3.heap.size ≤ X12.heap.size := hHeld.1.size
              have ne13_8 : X1.heap.size < X12.heap.size := l12_8
              refine gen_any (F := fun Z => b3 Z X1.heap.size 0 0 0 ∧ f3 Z X1.heap.size ∧ X1.heap.size < Z.heap.size ∧ b3 Z X12.heap.size 0 0 0 ∧ f3 Z X12.heap.size ∧ X12.heap.size < Z.heap.size ∧ Below W3.heap.size W3 Z) ⟨b12_8.alloc _, q12_8.alloc l12_8 _, by rw [World.size_alloc]; exact Nat.lt_succ_of_lt l12_8, b3.new, f3.new, by rw [World.size_alloc]; exact Nat.lt_succ_self _, hHeld2.1⟩ (fun X13 hF => ?_)
              clear hK K hHeld hHeld2 b12_8 q12_8 l12_8
              obtain ⟨b13_8, q13_8, l13_8, b13_9, q13_9, l13_9, hBB⟩ := hF
              have hHeld := mkk3 _ hBB
              clear hBB
              (try simp only [Act.put, pSa, pSb, pSc])
              refine wpAnyH_ready (rs := [10]) (by kernel_rfl) (by simp) ?_
              refine rCons (i := 10) rfl (fun K hK => ?_) ?_
              · go_simp
                refine hK.out _ _ (mkk3 _ (below_set3 hHeld.1 ge11)) (fun hHeld2 => ?_)
                refine gen_any (F := fun Z => b3 Z X1.heap.size r0 r1 r2 ∧ f3 Z X1.heap.size ∧ X1.heap.size < Z.heap.size ∧ b3 Z X12.heap.size 0 0 0 ∧ f3 Z X12.heap.size ∧ X12.heap.size < Z.heap.size ∧ Below W3.heap.size W3 Z) ⟨b13_8.set, q13_8.set, by simp only [World.size_setCell]; exact l13_8, b13_9.far (Nat.ne_of_gt ne13_8), q13_9.set, by simp only [World.size_setCell]; exact l13_9, hHeld2.1⟩ (fun X14 hF => ?_)
                clear hK K hHeld hHeld2 b13_8 b13_9 q13_8 q13_9 l13_8 l13_9
                obtain ⟨b14_8, q14_8, l14_8, b14_9, q14_9, l14_9, hBB⟩ := hF
                have hHeld := mkk3 _ hBB
                clear hBB
                (try simp only [Act.put, pSa, pSb, pSc])
                refine wpAnyH_ready (rs := [11]) (by kernel_rfl) (by simp) ?_
                refine rCons (i := 11) rfl (fun K hK => ?_) ?_
                · go_simp
                  refine hK.out _ _ (mkk3 _ (below_set3 hHeld.1 ge13)) (fun hHeld2 => ?_)
                  refine gen_any (F := fun Z => b3 Z X1.heap.size r0 r1 r2 ∧ f3 Z X1.heap.size ∧ X1.heap.size < Z.heap.size ∧ b3 Z X12.heap.size s0 s1 s2 ∧ f3 Z X12.heap.size ∧ X12.heap.size < Z.heap.size ∧ Below W3.heap.size W3 Z) ⟨b14_8.far (Nat.ne_of_lt ne13_8), q14_8.set, by simp only [World.size_setCell]; exact l14_8, b14_9.set, q14_9.set, by simp only [World.size_setCell]; exact l14_9, hHeld2.1⟩ (fun X15 hF => ?_)
                  clear hK K hHeld hHeld2 b14_8 b14_9 q14_8 q14_9 l14_8 l14_9
                  obtain ⟨b15_8, q15_8, l15_8, b15_9, q15_9, l15_9, hBB⟩ := hF
                  have hHeld := mkk3 _ hBB
                  clear hBB
                  (try simp only [Act.put, pSa, pSb, pSc])
                  refine wpAnyH_done (by kernel_rfl) ?_ _
                  go_wp2_with fail
                  go_meet
                  exact ⟨_, _, rfl, rfl, b15_8, b15_9, hHeld.2.1, hHeld.2.2.1, hHeld.2.2.2.1, hHeld.2.2.2.2.1, hHeld.2.2.2.2.2.1, hHeld.2.2.2.2.2.2.1, hHeld.2.2.2.2.2.2.2, b_step gb3 hHeld.1 gb3.size⟩
                exact AllReadyH.nil
              exact AllReadyH.nil
            exact AllReadyH.nil
          refine rCons (i := 9) rfl (fun K hK => ?_) ?_
          · go_simp
            refine hK.out _ _ (mkk3 _ (hHeld.1.alloc hHeld.1.size _)) (fun hHeld2 => ?_)
            have ge16 : W3.heap.size ≤ X11.heap.size := hHeld.1.size
            have ne16_8 : X1.heap.size < X11.heap.size := l11_8
            refine gen_any (F := fun Z => b3 Z X1.heap.size 0 0 0 ∧ f3 Z X1.heap.size ∧ X1.heap.size < Z.heap.size ∧ b3 Z X11.heap.size 0 0 0 ∧ f3 Z X11.heap.size ∧ X11.heap.size < Z.heap.size ∧ Below W3.heap.size W3 Z) ⟨b11_8.alloc _, q11_8.alloc l11_8 _, by rw [World.size_alloc]; exact Nat.lt_succ_of_lt l11_8, b3.new, f3.new, by rw [World.size_alloc]; exact Nat.lt_succ_self _, hHeld2.1⟩ (fun X16 hF => ?_)
            clear hK K hHeld hHeld2 b11_8 q11_8 l11_8
            obtain ⟨b16_8, q16_8, l16_8, b16_9, q16_9, l16_9, hBB⟩ := hF
            have hHeld := mkk3 _ hBB
            clear hBB
            (try simp only [Act.put, pSa, pSb, pSc])
            refine wpAnyH_ready (rs := [7]) (by kernel_rfl) (by simp) ?_
            refine rCons (i := 7) rfl (fun K hK => ?_) ?_
            · go_simp
              go_at_call 35
              (with_reducible refine (M4 _).mono ?_)
              rintro e X17 ⟨rfl, z⟩
              go_wp2_with fail
              refine hK.out _ _ (mkk3 _ (b_step hHeld.1 z hHeld.1.size)) (fun hHeld2 => ?_)
              have b17_8 := b3.later z b16_8
              have q17_8 := f3.later l16_8 z q16_8
              have l17_8 := Nat.lt_of_lt_of_le l16_8 z.size
              have b17_9 := b3.later z b16_9
              have q17_9 := f3.later l16_9 z q16_9
              have l17_9 := Nat.lt_of_lt_of_le l16_9 z.size
              clear hK K hHeld z b16_8 b16_9 q16_8 q16_9 l16_8 l16_9
              have hHeld := hHeld2
              clear hHeld2
              (try simp only [Act.put, pSa, pSb, pSc])
              refine wpAnyH_ready (rs := [10]) (by kernel_rfl) (by simp) ?_
              refine rCons (i := 10) rfl (fun K hK => ?_) ?_
              · go_simp
                refine hK.out _ _ (mkk3 _ (below_set3 hHeld.1 ge11)) (fun hHeld2 => ?_)
                refine gen_any (F := fun Z => b3 Z X1.heap.size r0 r1 r2 ∧ f3 Z X1.heap.size ∧ X1.heap.size < Z.heap.size ∧ b3 Z X11.heap.size 0 0 0 ∧ f3 Z X11.heap.size ∧ X11.heap.size < Z.heap.size ∧ Below W3.heap.size W3 Z) ⟨b17_8.set, q17_8.set, by simp only [World.size_setCell]; exact l17_8, b17_9.far (Nat.ne_of_gt ne16_8), q17_9.set, by simp only [World.size_setCell]; exact l17_9, hHeld2.1⟩ (fun X18 hF => ?_)
                clear hK K hHeld hHeld2 b17_8 b17_9 q17_8 q17_9 l17_8 l17_9
                obtain ⟨b18_8, q18_8, l18_8, b18_9, q18_9, l18_9, hBB⟩ := hF
                have hHeld := mkk3 _ hBB
                clear hBB
                (try simp only [Act.put, pSa, pSb, pSc])
                refine wpAnyH_ready (rs := [11]) (by kernel_rfl) (by simp) ?_
                refine rCons (i := 11) rfl (fun K hK => ?_) ?_
                · go_simp
                  refine hK.out _ _ (mkk3 _ (below_set3 hHeld.1 ge16)) (fun hHeld2 => ?_)
                  refine gen_any (F := fun Z => b3 Z X1.heap.size r0 r1 r2 ∧ f3 Z X1.heap.size ∧ X1.heap.size < Z.heap.size ∧ b3 Z X11.heap.size s0 s1 s2 ∧ f3 Z X11.heap.size ∧ X11.heap.size < Z.heap.size ∧ Below W3.heap.size W3 Z) ⟨b18_8.far (Nat.ne_of_lt ne16_8), q18_8.set, by simp only [World.size_setCell]; exact l18_8, b18_9.set, q18_9.set, by simp only [World.size_setCell]; exact l18_9, hHeld2.1⟩ (fun X19 hF => ?_)
                  clear hK K hHeld hHeld2 b18_8 b18_9 q18_8 q18_9 l18_8 l18_9
                  obtain ⟨b19_8, q19_8, l19_8, b19_9, q19_9, l19_9, hBB⟩ := hF
                  have hHeld := mkk3 _ hBB
                  clear hBB
                  (try simp only [Act.put, pSa, pSb, pSc])
                  refine wpAnyH_done (by kernel_rfl) ?_ _
                  go_wp2_with fail
                  go_meet
                  exact ⟨_, _, rfl, rfl, b19_8, b19_9, hHeld.2.1, hHeld.2.2.1, hHeld.2.2.2.1, hHeld.2.2.2.2.1, hHeld.2.2.2.2.2.1, hHeld.2.2.2.2.2.2.1, hHeld.2.2.2.2.2.2.2, b_step gb3 hHeld.1 gb3.size⟩
                exact AllReadyH.nil
              exact AllReadyH.nil
            exact AllReadyH.nil
          exact AllReadyH.nil
        refine rCons (i := 9) rfl (fun K hK => ?_) ?_
        · go_simp
          refine hK.out _ _ (mkk3 _ (hHeld.1.alloc hHeld.1.size _)) (fun hHeld2 => ?_)
          have ge20 : W3.heap.size ≤ X1.heap.size := hHeld.1.size
          refine gen_any (F := fun Z => b3 Z X1.heap.size 0 0 0 ∧ f3 Z X1.heap.size ∧ X1.heap.size < Z.heap.size ∧ Below W3.heap.size W3 Z) ⟨b3.new, f3.new, by rw [World.size_alloc]; exact Nat.lt_succ_self _, hHeld2.1⟩ (fun X20 hF => ?_)
          clear hK K hHeld hHeld2 
          obtain ⟨b20_9, q20_9, l20_9, hBB⟩ := hF
          have hHeld := mkk3 _ hBB
          clear hBB
          (try simp only [Act.put, pSa, pSb, pSc])
          refine wpAnyH_ready (rs := [7, 8]) (by kernel_rfl) (by simp) ?_
          refine rCons (i := 7) rfl (fun K hK => ?_) ?_
          · go_simp
            go_at_call 35
            (with_reducible refine (M4 _).mono ?_)
            rintro e X21 ⟨rfl, z⟩
            go_wp2_with fail
            refine hK.out _ _ (mkk3 _ (b_step hHeld.1 z hHeld.1.size)) (fun hHeld2 => ?_)
            have b21_9 := b3.later z b20_9
            have q21_9 := f3.later l20_9 z q20_9
            have l21_9 := Nat.lt_of_lt_of_le l20_9 z.size
            clear hK K hHeld z b20_9 q20_9 l20_9
            have hHeld := hHeld2
            clear hHeld2
            (try simp only [Act.put, pSa, pSb, pSc])
            refine wpAnyH_ready (rs := [8]) (by kernel_rfl) (by simp) ?_
            refine rCons (i := 8) rfl (fun K hK => ?_) ?_
            · go_simp
              refine hK.out _ _ (mkk3 _ (hHeld.1.alloc hHeld.1.size _)) (fun hHeld2 => ?_)
              have ge22 : W3.heap.size ≤ X21.heap.size := hHeld.1.size
              have ne22_9 : X1.heap.size < X21.heap.size := l21_9
              refine gen_any (F := fun Z => b3 Z X1.heap.size 0 0 0 ∧ f3 Z X1.heap.size ∧ X1.heap.size < Z.heap.size ∧ b3 Z X21.heap.size 0 0 0 ∧ f3 Z X21.heap.size ∧ X21.heap.size < Z.heap.size ∧ Below W3.heap.size W3 Z) ⟨b21_9.alloc _, q21_9.alloc l21_9 _, by rw [World.size_alloc]; exact Nat.lt_succ_of_lt l21_9, b3.new, f3.new, by rw [World.size_alloc]; exact Nat.lt_succ_self _, hHeld2.1⟩ (fun X22 hF => ?_)
              clear hK K hHeld hHeld2 b21_9 q21_9 l21_9
              obtain ⟨b22_9, q22_9, l22_9, b22_8, q22_8, l22_8, hBB⟩ := hF
              have hHeld := mkk3 _ hBB
              clear hBB
              (try simp only [Act.put, pSa, pSb, pSc])
              refine wpAnyH_ready (rs := [10]) (by kernel_rfl) (by simp) ?_
              refine rCons (i := 10) rfl (fun K hK => ?_) ?_
              · go_simp
                refine hK.out _ _ (mkk3 _ (below_set3 hHeld.1 ge22)) (fun hHeld2 => ?_)
                refine gen_any (F := fun Z => b3 Z X1.heap.size 0 0 0 ∧ f3 Z X1.heap.size ∧ X1.heap.size < Z.heap.size ∧ b3 Z X21.heap.size r0 r1 r2 ∧ f3 Z X21.heap.size ∧ X21.heap.size < Z.heap.size ∧ Below W3.heap.size W3 Z) ⟨b22_9.far (Nat.ne_of_lt ne22_9), q22_9.set, by simp only [World.size_setCell]; exact l22_9, b22_8.set, q22_8.set, by simp only [World.size_setCell]; exact l22_8, hHeld2.1⟩ (fun X23 hF => ?_)
                clear hK K hHeld hHeld2 b22_9 b22_8 q22_9 q22_8 l22_9 l22_8
                obtain ⟨b23_9, q23_9, l23_9, b23_8, q23_8, l23_8, hBB⟩ := hF
                have hHeld := mkk3 _ hBB
                clear hBB
                (try simp only [Act.put, pSa, pSb, pSc])
                refine wpAnyH_ready (rs := [11]) (by kernel_rfl) (by simp) ?_
                refine rCons (i := 11) rfl (fun K hK => ?_) ?_
                · go_simp
                  refine hK.out _ _ (mkk3 _ (below_set3 hHeld.1 ge20)) (fun hHeld2 => ?_)
                  refine gen_any (F := fun Z => b3 Z X1.heap.size s0 s1 s2 ∧ f3 Z X1.heap.size ∧ X1.heap.size < Z.heap.size ∧ b3 Z X21.heap.size r0 r1 r2 ∧ f3 Z X21.heap.size ∧ X21.heap.size < Z.heap.size ∧ Below W3.heap.size W3 Z) ⟨b23_9.set, q23_9.set, by simp only [World.size_setCell]; exact l23_9, b23_8.far (Nat.ne_of_gt ne22_9), q23_8.set, by simp only [World.size_setCell]; exact l23_8, hHeld2.1⟩ (fun X24 hF => ?_)
                  clear hK K hHeld hHeld2 b23_9 b23_8 q23_9 q23_8 l23_9 l23_8
                  obtain ⟨b24_9, q24_9, l24_9, b24_8, q24_8, l24_8, hBB⟩ := hF
                  have hHeld := mkk3 _ hBB
                  clear hBB
                  (try simp only [Act.put, pSa, pSb, pSc])
                  refine wpAnyH_done (by kernel_rfl) ?_ _
                  go_wp2_with fail
                  go_meet
                  exact ⟨_, _, rfl, rfl, b24_8, b24_9, hHeld.2.1, hHeld.2.2.1, hHeld.2.2.2.1, hHeld.2.2.2.2.1, hHeld.2.2.2.2.2.1, hHeld.2.2.2.2.2.2.1, hHeld.2.2.2.2.2.2.2, b_step gb3 hHeld.1 gb3.size⟩
                exact AllReadyH.nil
              exact AllReadyH.nil
            exact AllReadyH.nil
          refine rCons (i := 8) rfl (fun K hK => ?_) ?_
          · go_simp
            refine hK.out _ _ (mkk3 _ (hHeld.1.alloc hHeld.1.size _)) (fun hHeld2 => ?_)
            have ge25 : W3.heap.size ≤ X20.heap.size := hHeld.1.size
            have ne25_9 : X1.heap.size < X20.heap.size := l20_9
            refine gen_any (F := fun Z => b3 Z X1.heap.size 0 0 0 ∧ f3 Z X1.heap.size ∧ X1.heap.size < Z.heap.size ∧ b3 Z X20.heap.size 0 0 0 ∧ f3 Z X20.heap.size ∧ X20.heap.size < Z.heap.size ∧ Below W3.heap.size W3 Z) ⟨b20_9.alloc _, q20_9.alloc l20_9 _, by rw [World.size_alloc]; exact Nat.lt_succ_of_lt l20_9, b3.new, f3.new, by rw [World.size_alloc]; exact Nat.lt_succ_self _, hHeld2.1⟩ (fun X25 hF => ?_)
            clear hK K hHeld hHeld2 b20_9 q20_9 l20_9
            obtain ⟨b25_9, q25_9, l25_9, b25_8, q25_8, l25_8, hBB⟩ := hF
            have hHeld := mkk3 _ hBB
            clear hBB
            (try simp only [Act.put, pSa, pSb, pSc])
            refine wpAnyH_ready (rs := [7]) (by kernel_rfl) (by simp) ?_
            refine rCons (i := 7) rfl (fun K hK => ?_) ?_
            · go_simp
              go_at_call 35
              (with_reducible refine (M4 _).mono ?_)
              rintro e X26 ⟨rfl, z⟩
              go_wp2_with fail
              refine hK.out _ _ (mkk3 _ (b_step hHeld.1 z hHeld.1.size)) (fun hHeld2 => ?_)
              have b26_9 := b3.later z b25_9
              have q26_9 := f3.later l25_9 z q25_9
              have l26_9 := Nat.lt_of_lt_of_le l25_9 z.size
              have b26_8 := b3.later z b25_8
              have q26_8 := f3.later l25_8 z q25_8
              have l26_8 := Nat.lt_of_lt_of_le l25_8 z.size
              clear hK K hHeld z b25_9 b25_8 q25_9 q25_8 l25_9 l25_8
              have hHeld := hHeld2
              clear hHeld2
              (try simp only [Act.put, pSa, pSb, pSc])
              refine wpAnyH_ready (rs := [10]) (by kernel_rfl) (by simp) ?_
              refine rCons (i := 10) rfl (fun K hK => ?_) ?_
              · go_simp
                refine hK.out _ _ (mkk3 _ (below_set3 hHeld.1 ge25)) (fun hHeld2 => ?_)
                refine gen_any (F := fun Z => b3 Z X1.heap.size 0 0 0 ∧ f3 Z X1.heap.size ∧ X1.heap.size < Z.heap.size ∧ b3 Z X20.heap.size r0 r1 r2 ∧ f3 Z X20.heap.size ∧ X20.heap.size < Z.heap.size ∧ Below W3.heap.size W3 Z) ⟨b26_9.far (Nat.ne_of_lt ne25_9), q26_9.set, by simp only [World.size_setCell]; exact l26_9, b26_8.set, q26_8.set, by simp only [World.size_setCell]; exact l26_8, hHeld2.1⟩ (fun X27 hF => ?_)
                clear hK K hHeld hHeld2 b26_9 b26_8 q26_9 q26_8 l26_9 l26_8
                obtain ⟨b27_9, q27_9, l27_9, b27_8, q27_8, l27_8, hBB⟩ := hF
                have hHeld := mkk3 _ hBB
                clear hBB
                (try simp only [Act.put, pSa, pSb, pSc])
                refine wpAnyH_ready (rs := [11]) (by kernel_rfl) (by simp) ?_
                refine rCons (i := 11) rfl (fun K hK => ?_) ?_
                · go_simp
                  refine hK.out _ _ (mkk3 _ (below_set3 hHeld.1 ge20)) (fun hHeld2 => ?_)
                  refine gen_any (F := fun Z => b3 Z X1.heap.size s0 s1 s2 ∧ f3 Z X1.heap.size ∧ X1.heap.size < Z.heap.size ∧ b3 Z X20.heap.size r0 r1 r2 ∧ f3 Z X20.heap.size ∧ X20.heap.size < Z.heap.size ∧ Below W3.heap.size W3 Z) ⟨b27_9.set, q27_9.set, by simp only [World.size_setCell]; exact l27_9, b27_8.far (Nat.ne_of_gt ne25_9), q27_8.set, by simp only [World.size_setCell]; exact l27_8, hHeld2.1⟩ (fun X28 hF => ?_)
                  clear hK K hHeld hHeld2 b27_9 b27_8 q27_9 q27_8 l27_9 l27_8
                  obtain ⟨b28_9, q28_9, l28_9, b28_8, q28_8, l28_8, hBB⟩ := hF
                  have hHeld := mkk3 _ hBB
                  clear hBB
                  (try simp only [Act.put, pSa, pSb, pSc])
                  refine wpAnyH_done (by kernel_rfl) ?_ _
                  go_wp2_with fail
                  go_meet
                  exact ⟨_, _, rfl, rfl, b28_8, b28_9, hHeld.2.1, hHeld.2.2.1, hHeld.2.2.2.1, hHeld.2.2.2.2.1, hHeld.2.2.2.2.2.1, hHeld.2.2.2.2.2.2.1, hHeld.2.2.2.2.2.2.2, b_step gb3 hHeld.1 gb3.size⟩
                exact AllReadyH.nil
              exact AllReadyH.nil
            exact AllReadyH.nil
          exact AllReadyH.nil
        exact AllReadyH.nil
      refine rCons (i := 8) rfl (fun K hK => ?_) ?_
      · go_simp
        refine hK.out _ _ (mkk3 _ (hHeld.1.alloc hHeld.1.size _)) (fun hHeld2 => ?_)
        have ge29 : W3.heap.size ≤ X.heap.size := hHeld.1.size
        refine gen_any (F := fun Z => b3 Z X.heap.size 0 0 0 ∧ f3 Z X.heap.size ∧ X.heap.size < Z.heap.size ∧ Below W3.heap.size W3 Z) ⟨b3.new, f3.new, by rw [World.size_alloc]; exact Nat.lt_succ_self _, hHeld2.1⟩ (fun X29 hF => ?_)
        clear hK K hHeld hHeld2 
        obtain ⟨b29_8, q29_8, l29_8, hBB⟩ := hF
        have hHeld := mkk3 _ hBB
        clear hBB
        (try simp only [Act.put, pSa, pSb, pSc])
        refine wpAnyH_ready (rs := [4, 9]) (by kernel_rfl) (by simp) ?_
        refine rCons (i := 4) rfl (fun K hK => ?_) ?_
        · go_simp
          go_at_call 35
          (with_reducible refine (M3 _).mono ?_)
          rintro e X30 ⟨rfl, z⟩
          go_wp2_with fail
          refine hK.out _ _ (mkk3 _ (b_step hHeld.1 z hHeld.1.size)) (fun hHeld2 => ?_)
          have b30_8 := b3.later z b29_8
          have q30_8 := f3.later l29_8 z q29_8
          have l30_8 := Nat.lt_of_lt_of_le l29_8 z.size
          clear hK K hHeld z b29_8 q29_8 l29_8
          have hHeld := hHeld2
          clear hHeld2
          (try simp only [Act.put, pSa, pSb, pSc])
          refine wpAnyH_ready (rs := [7, 9]) (by kernel_rfl) (by simp) ?_
          refine rCons (i := 7) rfl (fun K hK => ?_) ?_
          · go_simp
            go_at_call 35
            (with_reducible refine (M4 _).mono ?_)
            rintro e X31 ⟨rfl, z⟩
            go_wp2_with fail
            refine hK.out _ _ (mkk3 _ (b_step hHeld.1 z hHeld.1.size)) (fun hHeld2 => ?_)
            have b31_8 := b3.later z b30_8
            have q31_8 := f3.later l30_8 z q30_8
            have l31_8 := Nat.lt_of_lt_of_le l30_8 z.size
            clear hK K hHeld z b30_8 q30_8 l30_8
            have hHeld := hHeld2
            clear hHeld2
            (try simp only [Act.put, pSa, pSb, pSc])
            refine wpAnyH_ready (rs := [9]) (by kernel_rfl) (by simp) ?_
            refine rCons (i := 9) rfl (fun K hK => ?_) ?_
            · go_simp
              refine hK.out _ _ (mkk3 _ (hHeld.1.alloc hHeld.1.size _)) (fun hHeld2 => ?_)
              have ge32 : W3.heap.size ≤ X31.heap.size := hHeld.1.size
              have ne32_8 : X.heap.size < X31.heap.size := l31_8
              refine gen_any (F := fun Z => b3 Z X.heap.size 0 0 0 ∧ f3 Z X.heap.size ∧ X.heap.size < Z.heap.size ∧ b3 Z X31.heap.size 0 0 0 ∧ f3 Z X31.heap.size ∧ X31.heap.size < Z.heap.size ∧ Below W3.heap.size W3 Z) ⟨b31_8.alloc _, q31_8.alloc l31_8 _, by rw [World.size_alloc]; exact Nat.lt_succ_of_lt l31_8, b3.new, f3.new, by rw [World.size_alloc]; exact Nat.lt_succ_self _, hHeld2.1⟩ (fun X32 hF => ?_)
              clear hK K hHeld hHeld2 b31_8 q31_8 l31_8
              obtain ⟨b32_8, q32_8, l32_8, b32_9, q32_9, l32_9, hBB⟩ := hF
              have hHeld := mkk3 _ hBB
              clear hBB
              (try simp only [Act.put, pSa, pSb, pSc])
              refine wpAnyH_ready (rs := [10]) (by kernel_rfl) (by simp) ?_
              refine rCons (i := 10) rfl (fun K hK => ?_) ?_
              · go_simp
                refine hK.out _ _ (mkk3 _ (below_set3 hHeld.1 ge29)) (fun hHeld2 => ?_)
                refine gen_any (F := fun Z => b3 Z X.heap.size r0 r1 r2 ∧ f3 Z X.heap.size ∧ X.heap.size < Z.heap.size ∧ b3 Z X31.heap.size 0 0 0 ∧ f3 Z X31.heap.size ∧ X31.heap.size < Z.heap.size ∧ Below W3.heap.size W3 Z) ⟨b32_8.set, q32_8.set, by simp only [World.size_setCell]; exact l32_8, b32_9.far (Nat.ne_of_gt ne32_8), q32_9.set, by simp only [World.size_setCell]; exact l32_9, hHeld2.1⟩ (fun X33 hF => ?_)
                clear hK K hHeld hHeld2 b32_8 b32_9 q32_8 q32_9 l32_8 l32_9
                obtain ⟨b33_8, q33_8, l33_8, b33_9, q33_9, l33_9, hBB⟩ := hF
                have hHeld := mkk3 _ hBB
                clear hBB
                (try simp only [Act.put, pSa, pSb, pSc])
                refine wpAnyH_ready (rs := [11]) (by kernel_rfl) (by simp) ?_
                refine rCons (i := 11) rfl (fun K hK => ?_) ?_
                · go_simp
                  refine hK.out _ _ (mkk3 _ (below_set3 hHeld.1 ge32)) (fun hHeld2 => ?_)
                  refine gen_any (F := fun Z => b3 Z X.heap.size r0 r1 r2 ∧ f3 Z X.heap.size ∧ X.heap.size < Z.heap.size ∧ b3 Z X31.heap.size s0 s1 s2 ∧ f3 Z X31.heap.size ∧ X31.heap.size < Z.heap.size ∧ Below W3.heap.size W3 Z) ⟨b33_8.far (Nat.ne_of_lt ne32_8), q33_8.set, by simp only [World.size_setCell]; exact l33_8, b33_9.set, q33_9.set, by simp only [World.size_setCell]; exact l33_9, hHeld2.1⟩ (fun X34 hF => ?_)
                  clear hK K hHeld hHeld2 b33_8 b33_9 q33_8 q33_9 l33_8 l33_9
                  obtain ⟨b34_8, q34_8, l34_8, b34_9, q34_9, l34_9, hBB⟩ := hF
                  have hHeld := mkk3 _ hBB
                  clear hBB
                  (try simp only [Act.put, pSa, pSb, pSc])
                  refine wpAnyH_done (by kernel_rfl) ?_ _
                  go_wp2_with fail
                  go_meet
                  exact ⟨_, _, rfl, rfl, b34_8, b34_9, hHeld.2.1, hHeld.2.2.1, hHeld.2.2.2.1, hHeld.2.2.2.2.1, hHeld.2.2.2.2.2.1, hHeld.2.2.2.2.2.2.1, hHeld.2.2.2.2.2.2.2, b_step gb3 hHeld.1 gb3.size⟩
                exact AllReadyH.nil
              exact AllReadyH.nil
            exact AllReadyH.nil
          refine rCons (i := 9) rfl (fun K hK => ?_) ?_
          · go_simp
            refine hK.out _ _ (mkk3 _ (hHeld.1.alloc hHeld.1.size _)) (fun hHeld2 => ?_)
            have ge35 : W3.heap.size ≤ X30.heap.size := hHeld.1.size
            have ne35_8 : X.heap.size < X30.heap.size := l30_8
            refine gen_any (F := fun Z => b3 Z X.heap.size 0 0 0 ∧ f3 Z X.heap.size ∧ X.heap.size < Z.heap.size ∧ b3 Z X30.heap.size 0 0 0 ∧ f3 Z X30.heap.size ∧ X30.heap.size < Z.heap.size ∧ Below W3.heap.size W3 Z) ⟨b30_8.alloc _, q30_8.alloc l30_8 _, by rw [World.size_alloc]; exact Nat.lt_succ_of_lt l30_8, b3.new, f3.new, by rw [World.size_alloc]; exact Nat.lt_succ_self _, hHeld2.1⟩ (fun X35 hF => ?_)
            clear hK K hHeld hHeld2 b30_8 q30_8 l30_8
            obtain ⟨b35_8, q35_8, l35_8, b35_9, q35_9, l35_9, hBB⟩ := hF
            have hHeld := mkk3 _ hBB
            clear hBB
            (try simp only [Act.put, pSa, pSb, pSc])
            refine wpAnyH_ready (rs := [7]) (by kernel_rfl) (by simp) ?_
            refine rCons (i := 7) rfl (fun K hK => ?_) ?_
            · go_simp
              go_at_call 35
              (with_reducible refine (M4 _).mono ?_)
              rintro e X36 ⟨rfl, z⟩
              go_wp2_with fail
              refine hK.out _ _ (mkk3 _ (b_step hHeld.1 z hHeld.1.size)) (fun hHeld2 => ?_)
              have b36_8 := b3.later z b35_8
              have q36_8 := f3.later l35_8 z q35_8
              have l36_8 := Nat.lt_of_lt_of_le l35_8 z.size
              have b36_9 := b3.later z b35_9
              have q36_9 := f3.later l35_9 z q35_9
              have l36_9 := Nat.lt_of_lt_of_le l35_9 z.size
              clear hK K hHeld z b35_8 b35_9 q35_8 q35_9 l35_8 l35_9
              have hHeld := hHeld2
              clear hHeld2
              (try simp only [Act.put, pSa, pSb, pSc])
              refine wpAnyH_ready (rs := [10]) (by kernel_rfl) (by simp) ?_
              refine rCons (i := 10) rfl (fun K hK => ?_) ?_
              · go_simp
                refine hK.out _ _ (mkk3 _ (below_set3 hHeld.1 ge29)) (fun hHeld2 => ?_)
                refine gen_any (F := fun Z => b3 Z X.heap.size r0 r1 r2 ∧ f3 Z X.heap.size ∧ X.heap.size < Z.heap.size ∧ b3 Z X30.heap.size 0 0 0 ∧ f3 Z X30.heap.size ∧ X30.heap.size < Z.heap.size ∧ Below W3.heap.size W3 Z) ⟨b36_8.set, q36_8.set, by simp only [World.size_setCell]; exact l36_8, b36_9.far (Nat.ne_of_gt ne35_8), q36_9.set, by simp only [World.size_setCell]; exact l36_9, hHeld2.1⟩ (fun X37 hF => ?_)
                clear hK K hHeld hHeld2 b36_8 b36_9 q36_8 q36_9 l36_8 l36_9
                obtain ⟨b37_8, q37_8, l37_8, b37_9, q37_9, l37_9, hBB⟩ := hF
                have hHeld := mkk3 _ hBB
                clear hBB
                (try simp only [Act.put, pSa, pSb, pSc])
                refine wpAnyH_ready (rs := [11]) (by kernel_rfl) (by simp) ?_
                refine rCons (i := 11) rfl (fun K hK => ?_) ?_
                · go_simp
                  refine hK.out _ _ (mkk3 _ (below_set3 hHeld.1 ge35)) (fun hHeld2 => ?_)
                  refine gen_any (F := fun Z => b3 Z X.heap.size r0 r1 r2 ∧ f3 Z X.heap.size ∧ X.heap.size < Z.heap.size ∧ b3 Z X30.heap.size s0 s1 s2 ∧ f3 Z X30.heap.size ∧ X30.heap.size < Z.heap.size ∧ Below W3.heap.size W3 Z) ⟨b37_8.far (Nat.ne_of_lt ne35_8), q37_8.set, by simp only [World.size_setCell]; exact l37_8, b37_9.set, q37_9.set, by simp only [World.size_setCell]; exact l37_9, hHeld2.1⟩ (fun X38 hF => ?_)
                  clear hK K hHeld hHeld2 b37_8 b37_9 q37_8 q37_9 l37_8 l37_9
                  obtain ⟨b38_8, q38_8, l38_8, b38_9, q38_9, l38_9, hBB⟩ := hF
                  have hHeld := mkk3 _ hBB
                  clear hBB
                  (try simp only [Act.put, pSa, pSb, pSc])
                  refine wpAnyH_done (by kernel_rfl) ?_ _
                  go_wp2_with fail
                  go_meet
                  exact ⟨_, _, rfl, rfl, b38_8, b38_9, hHeld.2.1, hHeld.2.2.1, hHeld.2.2.2.1, hHeld.2.2.2.2.1, hHeld.2.2.2.2.2.1, hHeld.2.2.2.2.2.2.1, hHeld.2.2.2.2.2.2.2, b_step gb3 hHeld.1 gb3.size⟩
                exact AllReadyH.nil
              exact AllReadyH.nil
            exact AllReadyH.nil
          exact AllReadyH.nil
        refine rCons (i := 9) rfl (fun K hK => ?_) ?_
        · go_simp
          refine hK.out _ _ (mkk3 _ (hHeld.1.alloc hHeld.1.size _)) (fun hHeld2 => ?_)
          have ge39 : W3.heap.size ≤ X29.heap.size := hHeld.1.size
          have ne39_8 : X.heap.size < X29.heap.size := l29_8
          refine gen_any (F := fun Z => b3 Z X.heap.size 0 0 0 ∧ f3 Z X.heap.size ∧ X.heap.size < Z.heap.size ∧ b3 Z X29.heap.size 0 0 0 ∧ f3 Z X29.heap.size ∧ X29.heap.size < Z.heap.size ∧ Below W3.heap.size W3 Z) ⟨b29_8.alloc _, q29_8.alloc l29_8 _, by rw [World.size_alloc]; exact Nat.lt_succ_of_lt l29_8, b3.new, f3.new, by rw [World.size_alloc]; exact Nat.lt_succ_self _, hHeld2.1⟩ (fun X39 hF => ?_)
          clear hK K hHeld hHeld2 b29_8 q29_8 l29_8
          obtain ⟨b39_8, q39_8, l39_8, b39_9, q39_9, l39_9, hBB⟩ := hF
          have hHeld := mkk3 _ hBB
          clear hBB
          (try simp only [Act.put, pSa, pSb, pSc])
          refine wpAnyH_ready (rs := [4]) (by kernel_rfl) (by simp) ?_
          refine rCons (i := 4) rfl (fun K hK => ?_) ?_
          · go_simp
            go_at_call 35
            (with_reducible refine (M3 _).mono ?_)
            rintro e X40 ⟨rfl, z⟩
            go_wp2_with fail
            refine hK.out _ _ (mkk3 _ (b_step hHeld.1 z hHeld.1.size)) (fun hHeld2 => ?_)
            have b40_8 := b3.later z b39_8
            have q40_8 := f3.later l39_8 z q39_8
            have l40_8 := Nat.lt_of_lt_of_le l39_8 z.size
            have b40_9 := b3.later z b39_9
            have q40_9 := f3.later l39_9 z q39_9
            have l40_9 := Nat.lt_of_lt_of_le l39_9 z.size
            clear hK K hHeld z b39_8 b39_9 q39_8 q39_9 l39_8 l39_9
            have hHeld := hHeld2
            clear hHeld2
            (try simp only [Act.put, pSa, pSb, pSc])
            refine wpAnyH_ready (rs := [7]) (by kernel_rfl) (by simp) ?_
            refine rCons (i := 7) rfl (fun K hK => ?_) ?_
            · go_simp
              go_at_call 35
              (with_reducible refine (M4 _).mono ?_)
              rintro e X41 ⟨rfl, z⟩
              go_wp2_with fail
              refine hK.out _ _ (mkk3 _ (b_step hHeld.1 z hHeld.1.size)) (fun hHeld2 => ?_)
              have b41_8 := b3.later z b40_8
              have q41_8 := f3.later l40_8 z q40_8
              have l41_8 := Nat.lt_of_lt_of_le l40_8 z.size
              have b41_9 := b3.later z b40_9
              have q41_9 := f3.later l40_9 z q40_9
              have l41_9 := Nat.lt_of_lt_of_le l40_9 z.size
              clear hK K hHeld z b40_8 b40_9 q40_8 q40_9 l40_8 l40_9
              have hHeld := hHeld2
              clear hHeld2
              (try simp only [Act.put, pSa, pSb, pSc])
              refine wpAnyH_ready (rs := [10]) (by kernel_rfl) (by simp) ?_
              refine rCons (i := 10) rfl (fun K hK => ?_) ?_
              · go_simp
                refine hK.out _ _ (mkk3 _ (below_set3 hHeld.1 ge29)) (fun hHeld2 => ?_)
                refine gen_any (F := fun Z => b3 Z X.heap.size r0 r1 r2 ∧ f3 Z X.heap.size ∧ X.heap.size < Z.heap.size ∧ b3 Z X29.heap.size 0 0 0 ∧ f3 Z X29.heap.size ∧ X29.heap.size < Z.heap.size ∧ Below W3.heap.size W3 Z) ⟨b41_8.set, q41_8.set, by simp only [World.size_setCell]; exact l41_8, b41_9.far (Nat.ne_of_gt ne39_8), q41_9.set, by simp only [World.size_setCell]; exact l41_9, hHeld2.1⟩ (fun X42 hF => ?_)
                clear hK K hHeld hHeld2 b41_8 b41_9 q41_8 q41_9 l41_8 l41_9
                obtain ⟨b42_8, q42_8, l42_8, b42_9, q42_9, l42_9, hBB⟩ := hF
                have hHeld := mkk3 _ hBB
                clear hBB
                (try simp only [Act.put, pSa, pSb, pSc])
                refine wpAnyH_ready (rs := [11]) (by kernel_rfl) (by simp) ?_
                refine rCons (i := 11) rfl (fun K hK => ?_) ?_
                · go_simp
                  refine hK.out _ _ (mkk3 _ (below_set3 hHeld.1 ge39)) (fun hHeld2 => ?_)
                  refine gen_any (F := fun Z => b3 Z X.heap.size r0 r1 r2 ∧ f3 Z X.heap.size ∧ X.heap.size < Z.heap.size ∧ b3 Z X29.heap.size s0 s1 s2 ∧ f3 Z X29.heap.size ∧ X29.heap.size < Z.heap.size ∧ Below W3.heap.size W3 Z) ⟨b42_8.far (Nat.ne_of_lt ne39_8), q42_8.set, by simp only [World.size_setCell]; exact l42_8, b42_9.set, q42_9.set, by simp only [World.size_setCell]; exact l42_9, hHeld2.1⟩ (fun X43 hF => ?_)
                  clear hK K hHeld hHeld2 b42_8 b42_9 q42_8 q42_9 l42_8 l42_9
                  obtain ⟨b43_8, q43_8, l43_8, b43_9, q43_9, l43_9, hBB⟩ := hF
                  have hHeld := mkk3 _ hBB
                  clear hBB
                  (try simp only [Act.put, pSa, pSb, pSc])
                  refine wpAnyH_done (by kernel_rfl) ?_ _
                  go_wp2_with fail
                  go_meet
                  exact ⟨_, _, rfl, rfl, b43_8, b43_9, hHeld.2.1, hHeld.2.2.1, hHeld.2.2.2.1, hHeld.2.2.2.2.1, hHeld.2.2.2.2.2.1, hHeld.2.2.2.2.2.2.1, hHeld.2.2.2.2.2.2.2, b_step gb3 hHeld.1 gb3.size⟩
                exact AllReadyH.nil
              exact AllReadyH.nil
            exact AllReadyH.nil
          exact AllReadyH.nil
        exact AllReadyH.nil
      refine rCons (i := 9) rfl (fun K hK => ?_) ?_
      · go_simp
        refine hK.out _ _ (mkk3 _ (hHeld.1.alloc hHeld.1.size _)) (fun hHeld2 => ?_)
        have ge44 : W3.heap.size ≤ X.heap.size := hHeld.1.size
        refine gen_any (F := fun Z => b3 Z X.heap.size 0 0 0 ∧ f3 Z X.heap.size ∧ X.heap.size < Z.heap.size ∧ Below W3.heap.size W3 Z) ⟨b3.new, f3.new, by rw [World.size_alloc]; exact Nat.lt_succ_self _, hHeld2.1⟩ (fun X44 hF => ?_)
        clear hK K hHeld hHeld2 
        obtain ⟨b44_9, q44_9, l44_9, hBB⟩ := hF
        have hHeld := mkk3 _ hBB
        clear hBB
        (try simp only [Act.put, pSa, pSb, pSc])
        refine wpAnyH_ready (rs := [4, 8]) (by kernel_rfl) (by simp) ?_
        refine rCons (i := 4) rfl (fun K hK => ?_) ?_
        · go_simp
          go_at_call 35
          (with_reducible refine (M3 _).mono ?_)
          rintro e X45 ⟨rfl, z⟩
          go_wp2_with fail
          refine hK.out _ _ (mkk3 _ (b_step hHeld.1 z hHeld.1.size)) (fun hHeld2 => ?_)
          have b45_9 := b3.later z b44_9
          have q45_9 := f3.later l44_9 z q44_9
          have l45_9 := Nat.lt_of_lt_of_le l44_9 z.size
          clear hK K hHeld z b44_9 q44_9 l44_9
          have hHeld := hHeld2
          clear hHeld2
          (try simp only [Act.put, pSa, pSb, pSc])
          refine wpAnyH_ready (rs := [7, 8]) (by kernel_rfl) (by simp) ?_
          refine rCons (i := 7) rfl (fun K hK => ?_) ?_
          · go_simp
            go_at_call 35
            (with_reducible refine (M4 _).mono ?_)
            rintro e X46 ⟨rfl, z⟩
            go_wp2_with fail
            refine hK.out _ _ (mkk3 _ (b_step hHeld.1 z hHeld.1.size)) (fun hHeld2 => ?_)
            have b46_9 := b3.later z b45_9
            have q46_9 := f3.later l45_9 z q45_9
            have l46_9 := Nat.lt_of_lt_of_le l45_9 z.size
            clear hK K hHeld z b45_9 q45_9 l45_9
            have hHeld := hHeld2
            clear hHeld2
            (try simp only [Act.put, pSa, pSb, pSc])
            refine wpAnyH_ready (rs := [8]) (by kernel_rfl) (by simp) ?_
            refine rCons (i := 8) rfl (fun K hK => ?_) ?_
            · go_simp
              refine hK.out _ _ (mkk3 _ (hHeld.1.alloc hHeld.1.size _)) (fun hHeld2 => ?_)
              have ge47 : W3.heap.size ≤ X46.heap.size := hHeld.1.size
              have ne47_9 : X.heap.size < X46.heap.size := l46_9
              refine gen_any (F := fun Z => b3 Z X.heap.size 0 0 0 ∧ f3 Z X.heap.size ∧ X.heap.size < Z.heap.size ∧ b3 Z X46.heap.size 0 0 0 ∧ f3 Z X46.heap.size ∧ X46.heap.size < Z.heap.size ∧ Below W3.heap.size W3 Z) ⟨b46_9.alloc _, q46_9.alloc l46_9 _, by rw [World.size_alloc]; exact Nat.lt_succ_of_lt l46_9, b3.new, f3.new, by rw [World.size_alloc]; exact Nat.lt_succ_self _, hHeld2.1⟩ (fun X47 hF => ?_)
              clear hK K hHeld hHeld2 b46_9 q46_9 l46_9
              obtain ⟨b47_9, q47_9, l47_9, b47_8, q47_8, l47_8, hBB⟩ := hF
              have hHeld := mkk3 _ hBB
              clear hBB
              (try simp only [Act.put, pSa, pSb, pSc])
              refine wpAnyH_ready (rs := [10]) (by kernel_rfl) (by simp) ?_
              refine rCons (i := 10) rfl (fun K hK => ?_) ?_
              · go_simp
                refine hK.out _ _ (mkk3 _ (below_set3 hHeld.1 ge47)) (fun hHeld2 => ?_)
                refine gen_any (F := fun Z => b3 Z X.heap.size 0 0 0 ∧ f3 Z X.heap.size ∧ X.heap.size < Z.heap.size ∧ b3 Z X46.heap.size r0 r1 r2 ∧ f3 Z X46.heap.size ∧ X46.heap.size < Z.heap.size ∧ Below W3.heap.size W3 Z) ⟨b47_9.far (Nat.ne_of_lt ne47_9), q47_9.set, by simp only [World.size_setCell]; exact l47_9, b47_8.set, q47_8.set, by simp only [World.size_setCell]; exact l47_8, hHeld2.1⟩ (fun X48 hF => ?_)
                clear hK K hHeld hHeld2 b47_9 b47_8 q47_9 q47_8 l47_9 l47_8
                obtain ⟨b48_9, q48_9, l48_9, b48_8, q48_8, l48_8, hBB⟩ := hF
                have hHeld := mkk3 _ hBB
                clear hBB
                (try simp only [Act.put, pSa, pSb, pSc])
                refine wpAnyH_ready (rs := [11]) (by kernel_rfl) (by simp) ?_
                refine rCons (i := 11) rfl (fun K hK => ?_) ?_
                · go_simp
                  refine hK.out _ _ (mkk3 _ (below_set3 hHeld.1 ge44)) (fun hHeld2 => ?_)
                  refine gen_any (F := fun Z => b3 Z X.heap.size s0 s1 s2 ∧ f3 Z X.heap.size ∧ X.heap.size < Z.heap.size ∧ b3 Z X46.heap.size r0 r1 r2 ∧ f3 Z X46.heap.size ∧ X46.heap.size < Z.heap.size ∧ Below W3.heap.size W3 Z) ⟨b48_9.set, q48_9.set, by simp only [World.size_setCell]; exact l48_9, b48_8.far (Nat.ne_of_gt ne47_9), q48_8.set, by simp only [World.size_setCell]; exact l48_8, hHeld2.1⟩ (fun X49 hF => ?_)
                  clear hK K hHeld hHeld2 b48_9 b48_8 q48_9 q48_8 l48_9 l48_8
                  obtain ⟨b49_9, q49_9, l49_9, b49_8, q49_8, l49_8, hBB⟩ := hF
                  have hHeld := mkk3 _ hBB
                  clear hBB
                  (try simp only [Act.put, pSa, pSb, pSc])
                  refine wpAnyH_done (by kernel_rfl) ?_ _
                  go_wp2_with fail
                  go_meet
                  exact ⟨_, _, rfl, rfl, b49_8, b49_9, hHeld.2.1, hHeld.2.2.1, hHeld.2.2.2.1, hHeld.2.2.2.2.1, hHeld.2.2.2.2.2.1, hHeld.2.2.2.2.2.2.1, hHeld.2.2.2.2.2.2.2, b_step gb3 hHeld.1 gb3.size⟩
                exact AllReadyH.nil
              exact AllReadyH.nil
            exact AllReadyH.nil
          refine rCons (i := 8) rfl (fun K hK => ?_) ?_
          · go_simp
            refine hK.out _ _ (mkk3 _ (hHeld.1.alloc hHeld.1.size _)) (fun hHeld2 => ?_)
            have ge50 : W3.heap.size ≤ X45.heap.size := hHeld.1.size
            have ne50_9 : X.heap.size < X45.heap.size := l45_9
            refine gen_any (F := fun Z => b3 Z X.heap.size 0 0 0 ∧ f3 Z X.heap.size ∧ X.heap.size < Z.heap.size ∧ b3 Z X45.heap.size 0 0 0 ∧ f3 Z X45.heap.size ∧ X45.heap.size < Z.heap.size ∧ Below W3.heap.size W3 Z) ⟨b45_9.alloc _, q45_9.alloc l45_9 _, by rw [World.size_alloc]; exact Nat.lt_succ_of_lt l45_9, b3.new, f3.new, by rw [World.size_alloc]; exact Nat.lt_succ_self _, hHeld2.1⟩ (fun X50 hF => ?_)
            clear hK K hHeld hHeld2 b45_9 q45_9 l45_9
            obtain ⟨b50_9, q50_9, l50_9, b50_8, q50_8, l50_8, hBB⟩ := hF
            have hHeld := mkk3 _ hBB
            clear hBB
            (try simp only [Act.put, pSa, pSb, pSc])
            refine wpAnyH_ready (rs := [7]) (by kernel_rfl) (by simp) ?_
            refine rCons (i := 7) rfl (fun K hK => ?_) ?_
            · go_simp
              go_at_call 35
              (with_reducible refine (M4 _).mono ?_)
              rintro e X51 ⟨rfl, z⟩
              go_wp2_with fail
              refine hK.out _ _ (mkk3 _ (b_step hHeld.1 z hHeld.1.size)) (fun hHeld2 => ?_)
              have b51_9 := b3.later z b50_9
              have q51_9 := f3.later l50_9 z q50_9
              have l51_9 := Nat.lt_of_lt_of_le l50_9 z.size
              have b51_8 := b3.later z b50_8
              have q51_8 := f3.later l50_8 z q50_8
              have l51_8 := Nat.lt_of_lt_of_le l50_8 z.size
              clear hK K hHeld z b50_9 b50_8 q50_9 q50_8 l50_9 l50_8
              have hHeld := hHeld2
              clear hHeld2
              (try simp only [Act.put, pSa, pSb, pSc])
              refine wpAnyH_ready (rs := [10]) (by kernel_rfl) (by simp) ?_
              refine rCons (i := 10) rfl (fun K hK => ?_) ?_
              · go_simp
                refine hK.out _ _ (mkk3 _ (below_set3 hHeld.1 ge50)) (fun hHeld2 => ?_)
                refine gen_any (F := fun Z => b3 Z X.heap.size 0 0 0 ∧ f3 Z X.heap.size ∧ X.heap.size < Z.heap.size ∧ b3 Z X45.heap.size r0 r1 r2 ∧ f3 Z X45.heap.size ∧ X45.heap.size < Z.heap.size ∧ Below W3.heap.size W3 Z) ⟨b51_9.far (Nat.ne_of_lt ne50_9), q51_9.set, by simp only [World.size_setCell]; exact l51_9, b51_8.set, q51_8.set, by simp only [World.size_setCell]; exact l51_8, hHeld2.1⟩ (fun X52 hF => ?_)
                clear hK K hHeld hHeld2 b51_9 b51_8 q51_9 q51_8 l51_9 l51_8
                obtain ⟨b52_9, q52_9, l52_9, b52_8, q52_8, l52_8, hBB⟩ := hF
                have hHeld := mkk3 _ hBB
                clear hBB
                (try simp only [Act.put, pSa, pSb, pSc])
                refine wpAnyH_ready (rs := [11]) (by kernel_rfl) (by simp) ?_
                refine rCons (i := 11) rfl (fun K hK => ?_) ?_
                · go_simp
                  refine hK.out _ _ (mkk3 _ (below_set3 hHeld.1 ge44)) (fun hHeld2 => ?_)
                  refine gen_any (F := fun Z => b3 Z X.heap.size s0 s1 s2 ∧ f3 Z X.heap.size ∧ X.heap.size < Z.heap.size ∧ b3 Z X45.heap.size r0 r1 r2 ∧ f3 Z X45.heap.size ∧ X45.heap.size < Z.heap.size ∧ Below W3.heap.size W3 Z) ⟨b52_9.set, q52_9.set, by simp only [World.size_setCell]; exact l52_9, b52_8.far (Nat.ne_of_gt ne50_9), q52_8.set, by simp only [World.size_setCell]; exact l52_8, hHeld2.1⟩ (fun X53 hF => ?_)
                  clear hK K hHeld hHeld2 b52_9 b52_8 q52_9 q52_8 l52_9 l52_8
                  obtain ⟨b53_9, q53_9, l53_9, b53_8, q53_8, l53_8, hBB⟩ := hF
                  have hHeld := mkk3 _ hBB
                  clear hBB
                  (try simp only [Act.put, pSa, pSb, pSc])
                  refine wpAnyH_done (by kernel_rfl) ?_ _
                  go_wp2_with fail
                  go_meet
                  exact ⟨_, _, rfl, rfl, b53_8, b53_9, hHeld.2.1, hHeld.2.2.1, hHeld.2.2.2.1, hHeld.2.2.2.2.1, hHeld.2.2.2.2.2.1, hHeld.2.2.2.2.2.2.1, hHeld.2.2.2.2.2.2.2, b_step gb3 hHeld.1 gb3.size⟩
                exact AllReadyH.nil
              exact AllReadyH.nil
            exact AllReadyH.nil
          exact AllReadyH.nil
        refine rCons (i := 8) rfl (fun K hK => ?_) ?_
        · go_simp
          refine hK.out _ _ (mkk3 _ (hHeld.1.alloc hHeld.1.size _)) (fun hHeld2 => ?_)
          have ge54 : W3.heap.size ≤ X44.heap.size := hHeld.1.size
          have ne54_9 : X.heap.size < X44.heap.size := l44_9
          refine gen_any (F := fun Z => b3 Z X.heap.size 0 0 0 ∧ f3 Z X.heap.size ∧ X.heap.size < Z.heap.size ∧ b3 Z X44.heap.size 0 0 0 ∧ f3 Z X44.heap.size ∧ X44.heap.size < Z.heap.size ∧ Below W3.heap.size W3 Z) ⟨b44_9.alloc _, q44_9.alloc l44_9 _, by rw [World.size_alloc]; exact Nat.lt_succ_of_lt l44_9, b3.new, f3.new, by rw [World.size_alloc]; exact Nat.lt_succ_self _, hHeld2.1⟩ (fun X54 hF => ?_)
          clear hK K hHeld hHeld2 b44_9 q44_9 l44_9
          obtain ⟨b54_9, q54_9, l54_9, b54_8, q54_8, l54_8, hBB⟩ := hF
          have hHeld := mkk3 _ hBB
          clear hBB
          (try simp only [Act.put, pSa, pSb, pSc])
          refine wpAnyH_ready (rs := [4]) (by kernel_rfl) (by simp) ?_
          refine rCons (i := 4) rfl (fun K hK => ?_) ?_
          · go_simp
            go_at_call 35
            (with_reducible refine (M3 _).mono ?_)
            rintro e X55 ⟨rfl, z⟩
            go_wp2_with fail
            refine hK.out _ _ (mkk3 _ (b_step hHeld.1 z hHeld.1.size)) (fun hHeld2 => ?_)
            have b55_9 := b3.later z b54_9
            have q55_9 := f3.later l54_9 z q54_9
            have l55_9 := Nat.lt_of_lt_of_le l54_9 z.size
            have b55_8 := b3.later z b54_8
            have q55_8 := f3.later l54_8 z q54_8
            have l55_8 := Nat.lt_of_lt_of_le l54_8 z.size
            clear hK K hHeld z b54_9 b54_8 q54_9 q54_8 l54_9 l54_8
            have hHeld := hHeld2
            clear hHeld2
            (try simp only [Act.put, pSa, pSb, pSc])
            refine wpAnyH_ready (rs := [7]) (by kernel_rfl) (by simp) ?_
            refine rCons (i := 7) rfl (fun K hK => ?_) ?_
            · go_simp
              go_at_call 35
              (with_reducible refine (M4 _).mono ?_)
              rintro e X56 ⟨rfl, z⟩
              go_wp2_with fail
              refine hK.out _ _ (mkk3 _ (b_step hHeld.1 z hHeld.1.size)) (fun hHeld2 => ?_)
              have b56_9 := b3.later z b55_9
              have q56_9 := f3.later l55_9 z q55_9
              have l56_9 := Nat.lt_of_lt_of_le l55_9 z.size
              have b56_8 := b3.later z b55_8
              have q56_8 := f3.later l55_8 z q55_8
              have l56_8 := Nat.lt_of_lt_of_le l55_8 z.size
              clear hK K hHeld z b55_9 b55_8 q55_9 q55_8 l55_9 l55_8
              have hHeld := hHeld2
              clear hHeld2
              (try simp only [Act.put, pSa, pSb, pSc])
              refine wpAnyH_ready (rs := [10]) (by kernel_rfl) (by simp) ?_
              refine rCons (i := 10) rfl (fun K hK => ?_) ?_
              · go_simp
                refine hK.out _ _ (mkk3 _ (below_set3 hHeld.1 ge54)) (fun hHeld2 => ?_)
                refine gen_any (F := fun Z => b3 Z X.heap.size 0 0 0 ∧ f3 Z X.heap.size ∧ X.heap.size < Z.heap.size ∧ b3 Z X44.heap.size r0 r1 r2 ∧ f3 Z X44.heap.size ∧ X44.heap.size < Z.heap.size ∧ Below W3.heap.size W3 Z) ⟨b56_9.far (Nat.ne_of_lt ne54_9), q56_9.set, by simp only [World.size_setCell]; exact l56_9, b56_8.set, q56_8.set, by simp only [World.size_setCell]; exact l56_8, hHeld2.1⟩ (fun X57 hF => ?_)
                clear hK K hHeld hHeld2 b56_9 b56_8 q56_9 q56_8 l56_9 l56_8
                obtain ⟨b57_9, q57_9, l57_9, b57_8, q57_8, l57_8, hBB⟩ := hF
                have hHeld := mkk3 _ hBB
                clear hBB
                (try simp only [Act.put, pSa, pSb, pSc])
                refine wpAnyH_ready (rs := [11]) (by kernel_rfl) (by simp) ?_
                refine rCons (i := 11) rfl (fun K hK => ?_) ?_
                · go_simp
                  refine hK.out _ _ (mkk3 _ (below_set3 hHeld.1 ge44)) (fun hHeld2 => ?_)
                  refine gen_any (F := fun Z => b3 Z X.heap.size s0 s1 s2 ∧ f3 Z X.heap.size ∧ X.heap.size < Z.heap.size ∧ b3 Z X44.heap.size r0 r1 r2 ∧ f3 Z X44.heap.size ∧ X44.heap.size < Z.heap.size ∧ Below W3.heap.size W3 Z) ⟨b57_9.set, q57_9.set, by simp only [World.size_setCell]; exact l57_9, b57_8.far (Nat.ne_of_gt ne54_9), q57_8.set, by simp only [World.size_setCell]; exact l57_8, hHeld2.1⟩ (fun X58 hF => ?_)
                  clear hK K hHeld hHeld2 b57_9 b57_8 q57_9 q57_8 l57_9 l57_8
                  obtain ⟨b58_9, q58_9, l58_9, b58_8, q58_8, l58_8, hBB⟩ := hF
                  have hHeld := mkk3 _ hBB
                  clear hBB
                  (try simp only [Act.put, pSa, pSb, pSc])
                  refine wpAnyH_done (by kernel_rfl) ?_ _
                  go_wp2_with fail
                  go_meet
                  exact ⟨_, _, rfl, rfl, b58_8, b58_9, hHeld.2.1, hHeld.2.2.1, hHeld.2.2.2.1, hHeld.2.2.2.2.1, hHeld.2.2.2.2.2.1, hHeld.2.2.2.2.2.2.1, hHeld.2.2.2.2.2.2.2, b_step gb3 hHeld.1 gb3.size⟩
                exact AllReadyH.nil
              exact AllReadyH.nil
            exact AllReadyH.nil
          exact AllReadyH.nil
        exact AllReadyH.nil
      exact AllReadyH.nil
    case rest =>
      obtain ⟨B2, B3, rfl, rfl, ⟨o3_0_0, o3_0_1, o3_0_2⟩, ⟨o3_1_0, o3_1_1, o3_1_2⟩, ⟨o3_2_0, o3_2_1, o3_2_2, o3_2_3⟩, ⟨o3_3_0, o3_3_1, o3_3_2, o3_3_3, o3_3_4, o3_3_5⟩, ⟨o3_4_0, o3_4_1, o3_4_2, o3_4_3, o3_4_4, o3_4_5⟩, ⟨o3_5_0, o3_5_1, o3_5_2, o3_5_3, o3_5_4, o3_5_5⟩, ⟨o3_6_0, o3_6_1, o3_6_2, o3_6_3, o3_6_4, o3_6_5⟩, ⟨o3_7_0, o3_7_1, o3_7_2⟩, ⟨o3_8_0, o3_8_1, o3_8_2⟩, ob3⟩ := hcut
      clear gb3 g3_0_0 g3_0_1 g3_0_2 g3_0_3 g3_1_0 g3_1_1 g3_1_2 g3_1_3 g3_1_4 g3_1_5 g3_2_0 g3_2_1 g3_2_2 g3_2_3 g3_2_4 g3_2_5 g3_3_0 g3_3_1 g3_3_2 g3_3_3 g3_3_4 g3_3_5 g3_4_0 g3_4_1 g3_4_2 g3_4_3 g3_4_4 g3_4_5 g3_5_0 g3_5_1 g3_5_2 g3_6_0 g3_6_1 g3_6_2
      have zo3_0 := World.block_lt_of_cell? _ _ o3_0_0
      have zo3_1 := World.block_lt_of_cell? _ _ o3_1_0
      have zo3_2 := World.block_lt_of_cell? _ _ o3_2_0
      have zo3_3 := World.block_lt_of_cell? _ _ o3_3_0
      have zo3_4 := World.block_lt_of_cell? _ _ o3_4_0
      have zo3_5 := World.block_lt_of_cell? _ _ o3_5_0
      have zo3_6 := World.block_lt_of_cell? _ _ o3_6_0
      have zo3_7 := World.block_lt_of_cell? _ _ o3_7_0
      have zo3_8 := World.block_lt_of_cell? _ _ o3_8_0
      go_upto_region 15 with fail
      refine gen_world (F := fun W4 => b3 W4 B2 r0 r1 r2 ∧ b3 W4 B3 s0 s1 s2 ∧ b4 W4 w.heap.size n a0 a1 a2 ∧ b6 W4 (w.heap.size + 1) x0 x1 x2 x3 x4 x5 ∧ b6 W4 (w.heap.size + 1 + 1) z0 z1 z2 z3 z4 z5 ∧ b6 W4 t1.heap.size p0 p1 p2 p3 p4 p5 ∧ b6 W4 t2.heap.size q0 q1 q2 q3 q4 q5 ∧ b3 W4 t4.heap.size m0 m1 m2 ∧ b3 W4 t5.heap.size n0 n1 n2 ∧ Below w.heap.size w W4) ?_ (fun W4 hW => ?_)
      · refine ⟨?_, ?_, ?_, ?_, ?_, ?_, ?_, ?_, ?_, ob3⟩ <;> (repeat' apply And.intro) <;> (first | assumption | exact c_alloc (by assumption) | exact c_at rfl rfl)
      obtain ⟨⟨g4_0_0, g4_0_1, g4_0_2⟩, ⟨g4_1_0, g4_1_1, g4_1_2⟩, ⟨g4_2_0, g4_2_1, g4_2_2, g4_2_3⟩, ⟨g4_3_0, g4_3_1, g4_3_2, g4_3_3, g4_3_4, g4_3_5⟩, ⟨g4_4_0, g4_4_1, g4_4_2, g4_4_3, g4_4_4, g4_4_5⟩, ⟨g4_5_0, g4_5_1, g4_5_2, g4_5_3, g4_5_4, g4_5_5⟩, ⟨g4_6_0, g4_6_1, g4_6_2, g4_6_3, g4_6_4, g4_6_5⟩, ⟨g4_7_0, g4_7_1, g4_7_2⟩, ⟨g4_8_0, g4_8_1, g4_8_2⟩, gb4⟩ := hW
      clear o3_0_0 o3_0_1 o3_0_2 o3_1_0 o3_1_1 o3_1_2 o3_2_0 o3_2_1 o3_2_2 o3_2_3 o3_3_0 o3_3_1 o3_3_2 o3_3_3 o3_3_4 o3_3_5 o3_4_0 o3_4_1 o3_4_2 o3_4_3 o3_4_4 o3_4_5 o3_5_0 o3_5_1 o3_5_2 o3_5_3 o3_5_4 o3_5_5 o3_6_0 o3_6_1 o3_6_2 o3_6_3 o3_6_4 o3_6_5 o3_7_0 o3_7_1 o3_7_2 o3_8_0 o3_8_1 o3_8_2 ob3 zo3_0 zo3_1 zo3_2 zo3_3 zo3_4 zo3_5 zo3_6 zo3_7 zo3_8
      have mkq4 : ∀ w', Below W4.heap.size W4 w' → (Below W4.heap.size W4 w' ∧ b3 w' B2 r0 r1 r2 ∧ b3 w' B3 s0 s1 s2 ∧ b4 w' w.heap.size n a0 a1 a2 ∧ b6 w' (w.heap.size + 1) x0 x1 x2 x3 x4 x5 ∧ b6 w' (w.heap.size + 1 + 1) z0 z1 z2 z3 z4 z5 ∧ b6 w' t1.heap.size p0 p1 p2 p3 p4 p5 ∧ b6 w' t2.heap.size q0 q1 q2 q3 q4 q5 ∧ b3 w' t4.heap.size m0 m1 m2 ∧ b3 w' t5.heap.size n0 n1 n2) := fun w' h => ⟨h, b3.later h ⟨g4_0_0, g4_0_1, g4_0_2⟩, b3.later h ⟨g4_1_0, g4_1_1, g4_1_2⟩, b4.later h ⟨g4_2_0, g4_2_1, g4_2_2, g4_2_3⟩, b6.later h ⟨g4_3_0, g4_3_1, g4_3_2, g4_3_3, g4_3_4, g4_3_5⟩, b6.later h ⟨g4_4_0, g4_4_1, g4_4_2, g4_4_3, g4_4_4, g4_4_5⟩, b6.later h ⟨g4_5_0, g4_5_1, g4_5_2, g4_5_3, g4_5_4, g4_5_5⟩, b6.later h ⟨g4_6_0, g4_6_1, g4_6_2, g4_6_3, g4_6_4, g4_6_5⟩, b3.later h ⟨g4_7_0, g4_7_1, g4_7_2⟩, b3.later h ⟨g4_8_0, g4_8_1, g4_8_2⟩⟩
      refine wp_region_held_drew (S := fun w' => Below W4.heap.size W4 w' ∧ b3 w' B2 r0 r1 r2 ∧ b3 w' B3 s0 s1 s2 ∧ b4 w' w.heap.size n a0 a1 a2 ∧ b6 w' (w.heap.size + 1) x0 x1 x2 x3 x4 x5 ∧ b6 w' (w.heap.size + 1 + 1) z0 z1 z2 z3 z4 z5 ∧ b6 w' t1.heap.size p0 p1 p2 p3 p4 p5 ∧ b6 w' t2.heap.size q0 q1 q2 q3 q4 q5 ∧ b3 w' t4.heap.size m0 m1 m2 ∧ b3 w' t5.heap.size n0 n1 n2) (by kernel_rfl) (mkq4 _ ((Below.refl _ _).drew)) (fun hHeld => ?_)
      refine rOne 0 rfl (fun K hK => ?_)
      go_simp
      go_at_call 15
      (with_reducible refine (Hq _ (b_step gb4 hHeld.1 gb4.size)).mono ?_)
      rintro e rq41 ⟨rfl, zq41⟩
      go_wp2_with fail
      refine hK.out _ _ (mkq4 _ (b_step hHeld.1 zq41 hHeld.1.size)) (fun hHeld2 => ?_)
      clear hK K hHeld
      have hHeld := hHeld2
      clear hHeld2
      (try simp only [Act.put, pSa, pSb, pSc])
      refine tkY 1 ?_ rfl ?_ ?_ (by assumption)
      rotate_left
      · intro w h; simp only [b3, b4, b6, cE] at h; go_simp <;> with_reducible rfl
      (try simp only [Act.put, pSa, pSb, pSc])
      refine tkY 2 ?_ rfl ?_ ?_ (by assumption)
      rotate_left
      · intro w h; simp only [b3, b4, b6, cE] at h; go_simp <;> with_reducible rfl
      (try simp only [Act.put, pSa, pSb, pSc])
      refine tkY 3 ?_ rfl ?_ ?_ (by assumption)
      rotate_left
      · intro w h; simp only [b3, b4, b6, cE] at h; go_simp <;> with_reducible rfl
      (try simp only [Act.put, pSa, pSb, pSc])
      refine tkY 4 ?_ rfl ?_ ?_ (by assumption)
      rotate_left
      · intro w h; simp only [b3, b4, b6, cE] at h; go_simp <;> with_reducible rfl
      (try simp only [Act.put, pSa, pSb, pSc])
      refine tkY 5 ?_ rfl ?_ ?_ (by assumption)
      rotate_left
      · intro w h; simp only [b3, b4, b6, cE] at h; go_simp <;> with_reducible rfl
      (try simp only [Act.put, pSa, pSb, pSc])
      refine tkY 6 ?_ rfl ?_ ?_ (by assumption)
      rotate_left
      · intro w h; simp only [b3, b4, b6, cE] at h; go_simp <;> with_reducible rfl
      (try simp only [Act.put, pSa, pSb, pSc])
      refine tkY 7 ?_ rfl ?_ ?_ (by assumption)
      rotate_left
      · intro w h; simp only [b3, b4, b6, cE] at h; go_simp <;> with_reducible rfl
      (try simp only [Act.put, pSa, pSb, pSc])
      refine tkY 8 ?_ rfl ?_ ?_ (by assumption)
      rotate_left
      · intro w h; simp only [b3, b4, b6, cE] at h; go_simp <;> with_reducible rfl
      (try simp only [Act.put, pSa, pSb, pSc])
      refine tkY 9 ?_ rfl ?_ ?_ (by assumption)
      rotate_left
      · intro w h; simp only [b3, b4, b6, cE] at h; go_simp <;> with_reducible rfl
      (try simp only [Act.put, pSa, pSb, pSc])
      refine tkY 10 ?_ rfl ?_ ?_ (by assumption)
      rotate_left
      · intro w h; simp only [b3, b4, b6, cE] at h; go_simp <;> with_reducible rfl
      (try simp only [Act.put, pSa, pSb, pSc])
      refine tkY 11 ?_ rfl ?_ ?_ (by assumption)
      rotate_left
      · intro w h; simp only [b3, b4, b6, cE] at h; go_simp <;> with_reducible rfl
      (try simp only [Act.put, pSa, pSb, pSc])
      refine tkY 12 ?_ rfl ?_ ?_ (by assumption)
      rotate_left
      · intro w h; simp only [b3, b4, b6, cE] at h; go_simp <;> with_reducible rfl
      (try simp only [Act.put, pSa, pSb, pSc])
      refine tkY 13 ?_ rfl ?_ ?_ (by assumption)
      rotate_left
      · intro w h; simp only [b3, b4, b6, cE] at h; go_simp <;> with_reducible rfl
      (try simp only [Act.put, pSa, pSb, pSc])
      refine tkY 14 ?_ rfl ?_ ?_ (by assumption)
      rotate_left
      · intro w h; simp only [b3, b4, b6, cE] at h; go_simp <;> with_reducible rfl
      (try simp only [Act.put, pSa, pSb, pSc])
      refine tkY 15 ?_ rfl ?_ ?_ (by assumption)
      rotate_left
      · intro w h; simp only [b3, b4, b6, cE] at h; go_simp <;> with_reducible rfl
      (try simp only [Act.put, pSa, pSb, pSc])
      refine tkY 16 ?_ rfl ?_ ?_ (by assumption)
      rotate_left
      · intro w h; simp only [b3, b4, b6, cE] at h; go_simp <;> with_reducible rfl
      (try simp only [Act.put, pSa, pSb, pSc])
      refine tkY 17 ?_ rfl ?_ ?_ (by assumption)
      rotate_left
      · intro w h; simp only [b3, b4, b6, cE] at h; go_simp <;> with_reducible rfl
      (try simp only [Act.put, pSa, pSb, pSc])
      refine tkY 18 ?_ rfl ?_ ?_ (by assumption)
      rotate_left
      · intro w h; simp only [b3, b4, b6, cE] at h; go_simp <;> with_reducible rfl
      (try simp only [Act.put, pSa, pSb, pSc])
      refine tkY 19 ?_ rfl ?_ ?_ (by assumption)
      rotate_left
      · intro w h; simp only [b3, b4, b6, cE] at h; go_simp <;> with_reducible rfl
      (try simp only [Act.put, pSa, pSb, pSc])
      refine tkY 20 ?_ rfl ?_ ?_ (by assumption)
      rotate_left
      · intro w h; simp only [b3, b4, b6, cE] at h; go_simp <;> with_reducible rfl
      (try simp only [Act.put, pSa, pSb, pSc])
      refine tkY 21 ?_ rfl ?_ ?_ (by assumption)
      rotate_left
      · intro w h; simp only [b3, b4, b6, cE] at h; go_simp <;> with_reducible rfl
      (try simp only [Act.put, pSa, pSb, pSc])
      refine tkY 22 ?_ rfl ?_ ?_ (by assumption)
      rotate_left
      · intro w h; simp only [b3, b4, b6, cE] at h; go_simp <;> with_reducible rfl
      (try simp only [Act.put, pSa, pSb, pSc])
      refine tkY 23 ?_ rfl ?_ ?_ (by assumption)
      rotate_left
      · intro w h; simp only [b3, b4, b6, cE] at h; go_simp <;> with_reducible rfl
      (try simp only [Act.put, pSa, pSb, pSc])
      refine tkY 24 ?_ rfl ?_ ?_ (by assumption)
      rotate_left
      · intro w h; simp only [b3, b4, b6, cE] at h; go_simp <;> with_reducible rfl
      (try simp only [Act.put, pSa, pSb, pSc])
      refine tkY 25 ?_ rfl ?_ ?_ (by assumption)
      rotate_left
      · intro w h; simp only [b3, b4, b6, cE] at h; go_simp <;> with_reducible rfl
      (try simp only [Act.put, pSa, pSb, pSc])
      refine tkY 26 ?_ rfl ?_ ?_ (by assumption)
      rotate_left
      · intro w h; simp only [b3, b4, b6, cE] at h; go_simp <;> with_reducible rfl
      (try simp only [Act.put, pSa, pSb, pSc])
      refine tkY 27 ?_ rfl ?_ ?_ (by assumption)
      rotate_left
      · intro w h; simp only [b3, b4, b6, cE] at h; go_simp <;> with_reducible rfl
      (try simp only [Act.put, pSa, pSb, pSc])
      refine tkY 28 ?_ rfl ?_ ?_ (by assumption)
      rotate_left
      · intro w h; simp only [b3, b4, b6, cE] at h; go_simp <;> with_reducible rfl
      (try simp only [Act.put, pSa, pSb, pSc])
      refine tkY 29 ?_ rfl ?_ ?_ (by assumption)
      rotate_left
      · intro w h; simp only [b3, b4, b6, cE] at h; go_simp <;> with_reducible rfl
      (try simp only [Act.put, pSa, pSb, pSc])
      refine tkY 30 ?_ rfl ?_ ?_ (by assumption)
      rotate_left
      · intro w h; simp only [b3, b4, b6, cE] at h; go_simp <;> with_reducible rfl
      (try simp only [Act.put, pSa, pSb, pSc])
      refine tkY 31 ?_ rfl ?_ ?_ (by assumption)
      rotate_left
      · intro w h; simp only [b3, b4, b6, cE] at h; go_simp <;> with_reducible rfl
      (try simp only [Act.put, pSa, pSb, pSc])
      refine tkY 32 ?_ rfl ?_ ?_ (by assumption)
      rotate_left
      · intro w h; simp only [b3, b4, b6, cE] at h; go_simp <;> with_reducible rfl
      (try simp only [Act.put, pSa, pSb, pSc])
      refine tkY 33 ?_ rfl ?_ ?_ (by assumption)
      rotate_left
      · intro w h; simp only [b3, b4, b6, cE] at h; go_simp <;> with_reducible rfl
      (try simp only [Act.put, pSa, pSb, pSc])
      refine tkY 34 ?_ rfl ?_ ?_ (by assumption)
      rotate_left
      · intro w h; simp only [b3, b4, b6, cE] at h; go_simp <;> with_reducible rfl
      (try simp only [Act.put, pSa, pSb, pSc])
      refine tkY 35 ?_ rfl ?_ ?_ (by assumption)
      rotate_left
      · intro w h; simp only [b3, b4, b6, cE] at h; go_simp <;> with_reducible rfl
      (try simp only [Act.put, pSa, pSb, pSc])
      refine tkY 36 ?_ rfl ?_ ?_ (by assumption)
      rotate_left
      · intro w h; simp only [b3, b4, b6, cE] at h; go_simp <;> with_reducible rfl
      (try simp only [Act.put, pSa, pSb, pSc])
      refine tkY 37 ?_ rfl ?_ ?_ (by assumption)
      rotate_left
      · intro w h; simp only [b3, b4, b6, cE] at h; go_simp <;> with_reducible rfl
      (try simp only [Act.put, pSa, pSb, pSc])
      refine tkY 38 ?_ rfl ?_ ?_ (by assumption)
      rotate_left
      · intro w h; simp only [b3, b4, b6, cE] at h; go_simp <;> with_reducible rfl
      (try simp only [Act.put, pSa, pSb, pSc])
      refine tkY 39 ?_ rfl ?_ ?_ (by assumption)
      rotate_left
      · intro w h; simp only [b3, b4, b6, cE] at h; go_simp <;> with_reducible rfl
      (try simp only [Act.put, pSa, pSb, pSc])
      refine tkY 40 ?_ rfl ?_ ?_ (by assumption)
      rotate_left
      · intro w h; simp only [b3, b4, b6, cE] at h; go_simp <;> with_reducible rfl
      (try simp only [Act.put, pSa, pSb, pSc])
      refine tkY 42 ?_ rfl ?_ ?_ (by assumption)
      rotate_left
      · intro w h; simp only [b3, b4, b6, cE] at h; go_simp <;> with_reducible rfl
      (try simp only [Act.put, pSa, pSb, pSc])
      refine tkY 43 ?_ rfl ?_ ?_ (by assumption)
      rotate_left
      · intro w h; simp only [b3, b4, b6, cE] at h; go_simp <;> with_reducible rfl
      (try simp only [Act.put, pSa, pSb, pSc])
      refine rOne 41 rfl (fun K hK => ?_)
      go_simp
      go_at_call 36
      (with_reducible refine (O1 _).mono ?_)
      rintro e rq42 ⟨rfl, zq42⟩
      go_wp2_with fail
      refine hK.out _ _ (mkq4 _ (b_step hHeld.1 zq42 hHeld.1.size)) (fun hHeld2 => ?_)
      clear hK K hHeld
      have hHeld := hHeld2
      clear hHeld2
      (try simp only [Act.put, pSa, pSb, pSc])
      refine rOne 44 rfl (fun K hK => ?_)
      go_simp
      go_at_call 36
      (with_reducible refine (O2 _).mono ?_)
      rintro e rq43 ⟨rfl, zq43⟩
      go_wp2_with fail
      refine hK.out _ _ (mkq4 _ (b_step hHeld.1 zq43 hHeld.1.size)) (fun hHeld2 => ?_)
      clear hK K hHeld
      have hHeld := hHeld2
      clear hHeld2
      (try simp only [Act.put, pSa, pSb, pSc])
      refine tkY 45 ?_ rfl ?_ ?_ (by assumption)
      rotate_left
      · intro w h; simp only [b3, b4, b6, cE] at h; go_simp <;> with_reducible rfl
      (try simp only [Act.put, pSa, pSb, pSc])
      refine tkY 46 ?_ rfl ?_ ?_ (by assumption)
      rotate_left
      · intro w h; simp only [b3, b4, b6, cE] at h; go_simp <;> with_reducible rfl
      (try simp only [Act.put, pSa, pSb, pSc])
      refine tkY 47 ?_ rfl ?_ ?_ (by assumption)
      rotate_left
      · intro w h; simp only [b3, b4, b6, cE] at h; go_simp <;> with_reducible rfl
      (try simp only [Act.put, pSa, pSb, pSc])
      refine wpAnyH_done (by kernel_rfl) ?_ _
      have belq4 := b_step gb4 hHeld.1 gb4.size
      obtain ⟨-, ⟨h4_0_0, h4_0_1, h4_0_2⟩, ⟨h4_1_0, h4_1_1, h4_1_2⟩, ⟨h4_2_0, h4_2_1, h4_2_2, h4_2_3⟩, ⟨h4_3_0, h4_3_1, h4_3_2, h4_3_3, h4_3_4, h4_3_5⟩, ⟨h4_4_0, h4_4_1, h4_4_2, h4_4_3, h4_4_4, h4_4_5⟩, ⟨h4_5_0, h4_5_1, h4_5_2, h4_5_3, h4_5_4, h4_5_5⟩, ⟨h4_6_0, h4_6_1, h4_6_2, h4_6_3, h4_6_4, h4_6_5⟩, ⟨h4_7_0, h4_7_1, h4_7_2⟩, ⟨h4_8_0, h4_8_1, h4_8_2⟩⟩ := hHeld
      clear gb4 mkq4 g4_0_0 g4_0_1 g4_0_2 g4_1_0 g4_1_1 g4_1_2 g4_2_0 g4_2_1 g4_2_2 g4_2_3 g4_3_0 g4_3_1 g4_3_2 g4_3_3 g4_3_4 g4_3_5 g4_4_0 g4_4_1 g4_4_2 g4_4_3 g4_4_4 g4_4_5 g4_5_0 g4_5_1 g4_5_2 g4_5_3 g4_5_4 g4_5_5 g4_6_0 g4_6_1 g4_6_2 g4_6_3 g4_6_4 g4_6_5 g4_7_0 g4_7_1 g4_7_2 g4_8_0 g4_8_1 g4_8_2
      have zh4_0 := World.block_lt_of_cell? _ _ h4_0_0
      have zh4_1 := World.block_lt_of_cell? _ _ h4_1_0
      have zh4_2 := World.block_lt_of_cell? _ _ h4_2_0
      have zh4_3 := World.block_lt_of_cell? _ _ h4_3_0
      have zh4_4 := World.block_lt_of_cell? _ _ h4_4_0
      have zh4_5 := World.block_lt_of_cell? _ _ h4_5_0
      have zh4_6 := World.block_lt_of_cell? _ _ h4_6_0
      have zh4_7 := World.block_lt_of_cell? _ _ h4_7_0
      have zh4_8 := World.block_lt_of_cell? _ _ h4_8_0
      go_wp2
      go_ret
      exact ⟨rfl, belq4⟩
end Go.Proofs.YtibncdefhphggaaDoor
