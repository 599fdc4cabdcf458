/- OrientBoxes holds for every input: the row and its card. -/
import Derived.Test.YtibncdefhphggaaDoorQ
import Derived.Test.YtibncdefhphggaaDoorCards
import Derived.Test.YtibncdefhphggaaDoorTie
import Derived.Test.YtibncdefhphggaaDoorW3a
import Derived.Test.YtibncdefhphggaaDoorW3b
import Derived.Test.YtibncdefhphggaaDoorW3c
import Derived.Test.YtibncdefhphggaaDoorW3d
import Derived.Test.YtibncdefhphggaaDoorB11
import Derived.Test.YtibncdefhphggaaDoorA19
import Derived.SevenTiedAt
namespace Go.Proofs.YtibncdefhphggaaDoor
open Go.ChangeShapes Go.WideShapes Go.ChangeAt Go.RowKit Go.Joins
set_option linter.unusedVariables false

theorem boxes_c (n a0 a1 a2 x0 x1 x2 x3 x4 x5 s0 s1 s2 c0 c1 c2 : Int) (w : World) (hu : Units w) :
    Calls Tryd.prog 3 #[vP n a0 a1 a2, vB x0 x1 x2 x3 x4 x5, vV s0 s1 s2, vV c0 c1 c2] w fun e w' => e = .returned (.bool true) ∧ Below w.heap.size w w' := by
  have Hq : ∀ W, Below w.heap.size w W → Calls Tryd.prog 15 #[] W fun r w' => r = .returned (.bool true) ∧ Below W.heap.size W w' := fun W h => awake_c W (hu.later h)
  have H1 := fun w => Box_c n a0 a1 a2 x0 x1 x2 x3 x4 x5 w
  have H3 := fun w => Place_c n s0 s1 s2 c0 c1 c2 w
  cases hn : isB n
  · rw [show boxV n a0 a1 a2 x0 x1 x2 x3 x4 x5 = .tuple #[vB 0 0 0 0 0 0, .int .i64 1] by unfold boxV; rw [if_neg (fun h => by rw [hn] at h; exact absurd h.1 (by decide))]] at H1
    rw [show placeV n s0 s1 s2 c0 c1 c2 = .tuple #[vP 0 0 0 0, .int .i64 1] by unfold placeV; rw [if_neg (fun h => by rw [hn] at h; exact absurd h.1 (by decide))]] at H3
    exact boxes_1 n a0 a1 a2 x0 x1 x2 x3 x4 x5 s0 s1 s2 c0 c1 c2 0 0 0 0 0 0 0 0 0 0 0 0 0 0 0 w Hq H1 (fun w => Size_no n s0 s1 s2 (by rw [hn]; rfl) w) H3 (fun w => rIs_c n _ hn w)
  obtain ⟨n, rfl⟩ : ∃ a : Nat, n = a := ⟨n.toNat, by have := isB_t.1 hn; omega⟩
  have n24 : n < 24 := isB_nat hn
  have In := fun w => rIs_c (n : Int) true hn w
  cases hv : vaB x0 x1 x2 x3 x4 x5
  · have Hv := fun w => rValid_c x0 x1 x2 x3 x4 x5 false hv w
    rw [show boxV n a0 a1 a2 x0 x1 x2 x3 x4 x5 = .tuple #[vB 0 0 0 0 0 0, .int .i64 1] by unfold boxV; rw [if_neg (fun h => by simp [vaB, h.2.1, h.2.2.1, h.2.2.2.1, h.2.2.2.2] at hv)]] at H1
    cases hz : szB s0 s1 s2
    · have H2 := fun w => Size_no n s0 s1 s2 (by rw [hz, Bool.and_false]) w
      rw [show placeV n s0 s1 s2 c0 c1 c2 = .tuple #[vP 0 0 0 0, .int .i64 1] by unfold placeV; rw [if_neg (fun h => by rw [hz] at h; exact absurd h.2 (by decide))]] at H3
      exact boxes_2 n a0 a1 a2 x0 x1 x2 x3 x4 x5 s0 s1 s2 c0 c1 c2 0 0 0 0 0 0 0 0 0 0 0 0 0 0 0 w Hq H1 H2 H3 In Hv (fun w => rSized_c s0 s1 s2 false hz w)
    have hz' := szB_t.1 hz
    have Hz := fun w => rSized_c s0 s1 s2 true hz w
    have H2 := fun w => Size_c n s0 s1 s2 n24 hz w
    have R2 := fun w => rsize_c n n24 s0 s1 s2 (by omega) (by omega) (by omega) w
    have g0 := ext_bd (i := 0) (B := 1000000) n24 (by decide) (x := s0) (y := s1) (z := s2) (by omega) (by omega) (by omega)
    have g1 := ext_bd (i := 1) (B := 1000000) n24 (by decide) (x := s0) (y := s1) (z := s2) (by omega) (by omega) (by omega)
    have g2 := ext_bd (i := 2) (B := 1000000) n24 (by decide) (x := s0) (y := s1) (z := s2) (by omega) (by omega) (by omega)
    have h6 : ∀ (h : ¬ (nearB c0 c1 c2 = true ∧ (nearB (plc n 0 s0 s1 s2 c0) (plc n 1 s0 s1 s2 c1) (plc n 2 s0 s1 s2 c2) && nearB (c0 + ext n 0 s0 s1 s2) (c1 + ext n 1 s0 s1 s2) (c2 + ext n 2 s0 s1 s2)) = true)), placeV n s0 s1 s2 c0 c1 c2 = .tuple #[vP 0 0 0 0, .int .i64 6] := fun h => by
      unfold placeV; rw [if_pos ⟨hn, hz⟩, Int.toNat_natCast, if_neg h]
    cases hc : nearB c0 c1 c2
    · have Nc := fun w => rNear_c c0 c1 c2 false hc w
      rw [h6 (fun h => by rw [hc] at h; exact absurd h.1 (by decide))] at H3
      exact boxes_3 n a0 a1 a2 x0 x1 x2 x3 x4 x5 s0 s1 s2 c0 c1 c2 0 0 0 0 0 0 _ _ _ 0 0 0 0 0 0 w Hq H1 H2 H3 In Hv Hz R2 Nc
    have hc' := nearB_t.1 hc
    have Nc := fun w => rNear_c c0 c1 c2 true hc w
    have Hp := fun w => plus_c c0 c1 c2 (ext n 0 s0 s1 s2) (ext n 1 s0 s1 s2) (ext n 2 s0 s1 s2) w (by omega) (by omega) (by omega) (by omega) (by omega) (by omega)
    cases hp : nearB (c0 + ext n 0 s0 s1 s2) (c1 + ext n 1 s0 s1 s2) (c2 + ext n 2 s0 s1 s2)
    · have Np := fun w => rNear_c _ _ _ false hp w
      rw [h6 (fun h => by rw [hp, Bool.and_false] at h; exact absurd h.2 (by decide))] at H3
      exact boxes_4 n a0 a1 a2 x0 x1 x2 x3 x4 x5 s0 s1 s2 c0 c1 c2 0 0 0 0 0 0 _ _ _ 0 0 0 _ _ _ w Hq H1 H2 H3 In Hv Hz R2 Nc Hp Np
    have Np := fun w => rNear_c _ _ _ true hp w
    have R3 := fun w => rplace_c n n24 s0 s1 s2 c0 c1 c2 (by omega) (by omega) (by omega) (by omega) (by omega) (by omega) w
    cases hq : nearB (plc n 0 s0 s1 s2 c0) (plc n 1 s0 s1 s2 c1) (plc n 2 s0 s1 s2 c2)
    · have Nq := fun w => rNear_c _ _ _ false hq w
      rw [h6 (fun h => by rw [hq, Bool.false_and] at h; exact absurd h.2 (by decide))] at H3
      exact boxes_5 n a0 a1 a2 x0 x1 x2 x3 x4 x5 s0 s1 s2 c0 c1 c2 0 0 0 0 0 0 _ _ _ _ _ _ _ _ _ w Hq H1 H2 H3 In Hv Hz R2 Nc Hp Np R3 Nq
    have Nq := fun w => rNear_c _ _ _ true hq w
    rw [show placeV n s0 s1 s2 c0 c1 c2 = .tuple #[vP n (plc n 0 s0 s1 s2 c0) (plc n 1 s0 s1 s2 c1) (plc n 2 s0 s1 s2 c2), .int .i64 0] by unfold placeV; rw [if_pos ⟨hn, hz⟩, Int.toNat_natCast, if_pos ⟨hc, by rw [hq, hp]; rfl⟩]] at H3
    exact boxes_6 n a0 a1 a2 x0 x1 x2 x3 x4 x5 s0 s1 s2 c0 c1 c2 0 0 0 0 0 0 _ _ _ _ _ _ _ _ _ w Hq H1 H2 H3 In Hv Hz R2 Nc Hp Np R3 Nq
  have Hv := fun w => rValid_c x0 x1 x2 x3 x4 x5 true hv w
  have hv' : (nearB x0 x1 x2 && nearB x3 x4 x5) = true ∧ x0 < x3 ∧ x1 < x4 ∧ x2 < x5 := by unfold vaB at hv; simp only [Bool.and_eq_true, decide_eq_true_eq] at hv ⊢; exact ⟨hv.1.1.1, hv.1.1.2, hv.1.2, hv.2⟩
  obtain ⟨hx, l0, l1, l2⟩ := hv'
  have hx1 := nearB_t.1 (Bool.and_eq_true_iff.1 hx).1
  have hx2 := nearB_t.1 (Bool.and_eq_true_iff.1 hx).2
  cases hs : nearB a0 a1 a2
  · have Ns := fun w => rNear_c a0 a1 a2 false hs w
    rw [show boxV n a0 a1 a2 x0 x1 x2 x3 x4 x5 = .tuple #[vB 0 0 0 0 0 0, .int .i64 6] by unfold boxV; rw [if_pos ⟨hn, hx, l0, l1, l2⟩, if_neg (fun h => by rw [hs] at h; exact absurd h.1 (by decide))]] at H1
    cases hz : szB s0 s1 s2
    · have H2 := fun w => Size_no n s0 s1 s2 (by rw [hz, Bool.and_false]) w
      rw [show placeV n s0 s1 s2 c0 c1 c2 = .tuple #[vP 0 0 0 0, .int .i64 1] by unfold placeV; rw [if_neg (fun h => by rw [hz] at h; exact absurd h.2 (by decide))]] at H3
      exact boxes_7 n a0 a1 a2 x0 x1 x2 x3 x4 x5 s0 s1 s2 c0 c1 c2 0 0 0 0 0 0 0 0 0 0 0 0 0 0 0 w Hq H1 H2 H3 In Hv Ns (fun w => rSized_c s0 s1 s2 false hz w)
    have hz' := szB_t.1 hz
    have Hz := fun w => rSized_c s0 s1 s2 true hz w
    have H2 := fun w => Size_c n s0 s1 s2 n24 hz w
    have R2 := fun w => rsize_c n n24 s0 s1 s2 (by omega) (by omega) (by omega) w
    have g0 := ext_bd (i := 0) (B := 1000000) n24 (by decide) (x := s0) (y := s1) (z := s2) (by omega) (by omega) (by omega)
    have g1 := ext_bd (i := 1) (B := 1000000) n24 (by decide) (x := s0) (y := s1) (z := s2) (by omega) (by omega) (by omega)
    have g2 := ext_bd (i := 2) (B := 1000000) n24 (by decide) (x := s0) (y := s1) (z := s2) (by omega) (by omega) (by omega)
    have h6 : ∀ (h : ¬ (nearB c0 c1 c2 = true ∧ (nearB (plc n 0 s0 s1 s2 c0) (plc n 1 s0 s1 s2 c1) (plc n 2 s0 s1 s2 c2) && nearB (c0 + ext n 0 s0 s1 s2) (c1 + ext n 1 s0 s1 s2) (c2 + ext n 2 s0 s1 s2)) = true)), placeV n s0 s1 s2 c0 c1 c2 = .tuple #[vP 0 0 0 0, .int .i64 6] := fun h => by
      unfold placeV; rw [if_pos ⟨hn, hz⟩, Int.toNat_natCast, if_neg h]
    cases hc : nearB c0 c1 c2
    · have Nc := fun w => rNear_c c0 c1 c2 false hc w
      rw [h6 (fun h => by rw [hc] at h; exact absurd h.1 (by decide))] at H3
      exact boxes_8 n a0 a1 a2 x0 x1 x2 x3 x4 x5 s0 s1 s2 c0 c1 c2 0 0 0 0 0 0 _ _ _ 0 0 0 0 0 0 w Hq H1 H2 H3 In Hv Ns Hz R2 Nc
    have hc' := nearB_t.1 hc
    have Nc := fun w => rNear_c c0 c1 c2 true hc w
    have Hp := fun w => plus_c c0 c1 c2 (ext n 0 s0 s1 s2) (ext n 1 s0 s1 s2) (ext n 2 s0 s1 s2) w (by omega) (by omega) (by omega) (by omega) (by omega) (by omega)
    cases hp : nearB (c0 + ext n 0 s0 s1 s2) (c1 + ext n 1 s0 s1 s2) (c2 + ext n 2 s0 s1 s2)
    · have Np := fun w => rNear_c _ _ _ false hp w
      rw [h6 (fun h => by rw [hp, Bool.and_false] at h; exact absurd h.2 (by decide))] at H3
      exact boxes_9 n a0 a1 a2 x0 x1 x2 x3 x4 x5 s0 s1 s2 c0 c1 c2 0 0 0 0 0 0 _ _ _ 0 0 0 _ _ _ w Hq H1 H2 H3 In Hv Ns Hz R2 Nc Hp Np
    have Np := fun w => rNear_c _ _ _ true hp w
    have R3 := fun w => rplace_c n n24 s0 s1 s2 c0 c1 c2 (by omega) (by omega) (by omega) (by omega) (by omega) (by omega) w
    cases hq : nearB (plc n 0 s0 s1 s2 c0) (plc n 1 s0 s1 s2 c1) (plc n 2 s0 s1 s2 c2)
    · have Nq := fun w => rNear_c _ _ _ false hq w
      rw [h6 (fun h => by rw [hq, Bool.false_and] at h; exact absurd h.2 (by decide))] at H3
      exact boxes_10 n a0 a1 a2 x0 x1 x2 x3 x4 x5 s0 s1 s2 c0 c1 c2 0 0 0 0 0 0 _ _ _ _ _ _ _ _ _ w Hq H1 H2 H3 In Hv Ns Hz R2 Nc Hp Np R3 Nq
    have Nq := fun w => rNear_c _ _ _ true hq w
    rw [show placeV n s0 s1 s2 c0 c1 c2 = .tuple #[vP n (plc n 0 s0 s1 s2 c0) (plc n 1 s0 s1 s2 c1) (plc n 2 s0 s1 s2 c2), .int .i64 0] by unfold placeV; rw [if_pos ⟨hn, hz⟩, Int.toNat_natCast, if_pos ⟨hc, by rw [hq, hp]; rfl⟩]] at H3
    exact boxes_11 n a0 a1 a2 x0 x1 x2 x3 x4 x5 s0 s1 s2 c0 c1 c2 0 0 0 0 0 0 _ _ _ _ _ _ _ _ _ w Hq H1 H2 H3 In Hv Ns Hz R2 Nc Hp Np R3 Nq
  have hs' := nearB_t.1 hs
  have Ns := fun w => rNear_c a0 a1 a2 true hs w
  obtain ⟨u0, e0⟩ : ∃ u, loT n 0 x0 x1 x2 x3 x4 x5 + a0 = u := ⟨_, rfl⟩
  obtain ⟨u1, e1⟩ : ∃ u, loT n 1 x0 x1 x2 x3 x4 x5 + a1 = u := ⟨_, rfl⟩
  obtain ⟨u2, e2⟩ : ∃ u, loT n 2 x0 x1 x2 x3 x4 x5 + a2 = u := ⟨_, rfl⟩
  obtain ⟨u3, e3⟩ : ∃ u, hiT n 0 x0 x1 x2 x3 x4 x5 + a0 = u := ⟨_, rfl⟩
  obtain ⟨u4, e4⟩ : ∃ u, hiT n 1 x0 x1 x2 x3 x4 x5 + a1 = u := ⟨_, rfl⟩
  obtain ⟨u5, e5⟩ : ∃ u, hiT n 2 x0 x1 x2 x3 x4 x5 + a2 = u := ⟨_, rfl⟩
  have m0 : min (ap n 0 x0 x1 x2 + a0) (ap n 0 x3 x4 x5 + a0) = u0 := by rw [← e0]; unfold loT; omega
  have m1 : min (ap n 1 x0 x1 x2 + a1) (ap n 1 x3 x4 x5 + a1) = u1 := by rw [← e1]; unfold loT; omega
  have m2 : min (ap n 2 x0 x1 x2 + a2) (ap n 2 x3 x4 x5 + a2) = u2 := by rw [← e2]; unfold loT; omega
  have m3 : max (ap n 0 x0 x1 x2 + a0) (ap n 0 x3 x4 x5 + a0) = u3 := by rw [← e3]; unfold hiT; omega
  have m4 : max (ap n 1 x0 x1 x2 + a1) (ap n 1 x3 x4 x5 + a1) = u4 := by rw [← e4]; unfold hiT; omega
  have m5 : max (ap n 2 x0 x1 x2 + a2) (ap n 2 x3 x4 x5 + a2) = u5 := by rw [← e5]; unfold hiT; omega
  have R1 := fun w => rbox_c n n24 a0 a1 a2 x0 x1 x2 x3 x4 x5 (by omega) (by omega) (by omega) (by omega) (by omega) (by omega) (by omega) (by omega) (by omega) w
  unfold vImg at R1
  rw [m0, m1, m2, m3, m4, m5] at R1
  cases hl : (nearB u0 u1 u2 && nearB u3 u4 u5)
  · have Hi := fun w => inside_c u0 u1 u2 u3 u4 u5 6 (by rw [hl]; rfl) w
    rw [show boxV n a0 a1 a2 x0 x1 x2 x3 x4 x5 = .tuple #[vB 0 0 0 0 0 0, .int .i64 6] by unfold boxV; rw [if_pos ⟨hn, hx, l0, l1, l2⟩, Int.toNat_natCast, e0, e1, e2, e3, e4, e5, if_neg (fun h => by rw [hl] at h; exact absurd h.2 (by decide))]] at H1
    cases hz : szB s0 s1 s2
    · have H2 := fun w => Size_no n s0 s1 s2 (by rw [hz, Bool.and_false]) w
      rw [show placeV n s0 s1 s2 c0 c1 c2 = .tuple #[vP 0 0 0 0, .int .i64 1] by unfold placeV; rw [if_neg (fun h => by rw [hz] at h; exact absurd h.2 (by decide))]] at H3
      exact boxes_12 n a0 a1 a2 x0 x1 x2 x3 x4 x5 s0 s1 s2 c0 c1 c2 u0 u1 u2 u3 u4 u5 0 0 0 0 0 0 0 0 0 w Hq H1 H2 H3 In Hv Ns R1 Hi (fun w => rSized_c s0 s1 s2 false hz w)
    have hz' := szB_t.1 hz
    have Hz := fun w => rSized_c s0 s1 s2 true hz w
    have H2 := fun w => Size_c n s0 s1 s2 n24 hz w
    have R2 := fun w => rsize_c n n24 s0 s1 s2 (by omega) (by omega) (by omega) w
    have g0 := ext_bd (i := 0) (B := 1000000) n24 (by decide) (x := s0) (y := s1) (z := s2) (by omega) (by omega) (by omega)
    have g1 := ext_bd (i := 1) (B := 1000000) n24 (by decide) (x := s0) (y := s1) (z := s2) (by omega) (by omega) (by omega)
    have g2 := ext_bd (i := 2) (B := 1000000) n24 (by decide) (x := s0) (y := s1) (z := s2) (by omega) (by omega) (by omega)
    have h6 : ∀ (h : ¬ (nearB c0 c1 c2 = true ∧ (nearB (plc n 0 s0 s1 s2 c0) (plc n 1 s0 s1 s2 c1) (plc n 2 s0 s1 s2 c2) && nearB (c0 + ext n 0 s0 s1 s2) (c1 + ext n 1 s0 s1 s2) (c2 + ext n 2 s0 s1 s2)) = true)), placeV n s0 s1 s2 c0 c1 c2 = .tuple #[vP 0 0 0 0, .int .i64 6] := fun h => by
      unfold placeV; rw [if_pos ⟨hn, hz⟩, Int.toNat_natCast, if_neg h]
    cases hc : nearB c0 c1 c2
    · have Nc := fun w => rNear_c c0 c1 c2 false hc w
      rw [h6 (fun h => by rw [hc] at h; exact absurd h.1 (by decide))] at H3
      exact boxes_13 n a0 a1 a2 x0 x1 x2 x3 x4 x5 s0 s1 s2 c0 c1 c2 u0 u1 u2 u3 u4 u5 _ _ _ 0 0 0 0 0 0 w Hq H1 H2 H3 In Hv Ns R1 Hi Hz R2 Nc
    have hc' := nearB_t.1 hc
    have Nc := fun w => rNear_c c0 c1 c2 true hc w
    have Hp := fun w => plus_c c0 c1 c2 (ext n 0 s0 s1 s2) (ext n 1 s0 s1 s2) (ext n 2 s0 s1 s2) w (by omega) (by omega) (by omega) (by omega) (by omega) (by omega)
    cases hp : nearB (c0 + ext n 0 s0 s1 s2) (c1 + ext n 1 s0 s1 s2) (c2 + ext n 2 s0 s1 s2)
    · have Np := fun w => rNear_c _ _ _ false hp w
      rw [h6 (fun h => by rw [hp, Bool.and_false] at h; exact absurd h.2 (by decide))] at H3
      exact boxes_14 n a0 a1 a2 x0 x1 x2 x3 x4 x5 s0 s1 s2 c0 c1 c2 u0 u1 u2 u3 u4 u5 _ _ _ 0 0 0 _ _ _ w Hq H1 H2 H3 In Hv Ns R1 Hi Hz R2 Nc Hp Np
    have Np := fun w => rNear_c _ _ _ true hp w
    have R3 := fun w => rplace_c n n24 s0 s1 s2 c0 c1 c2 (by omega) (by omega) (by omega) (by omega) (by omega) (by omega) w
    cases hq : nearB (plc n 0 s0 s1 s2 c0) (plc n 1 s0 s1 s2 c1) (plc n 2 s0 s1 s2 c2)
    · have Nq := fun w => rNear_c _ _ _ false hq w
      rw [h6 (fun h => by rw [hq, Bool.false_and] at h; exact absurd h.2 (by decide))] at H3
      exact boxes_15 n a0 a1 a2 x0 x1 x2 x3 x4 x5 s0 s1 s2 c0 c1 c2 u0 u1 u2 u3 u4 u5 _ _ _ _ _ _ _ _ _ w Hq H1 H2 H3 In Hv Ns R1 Hi Hz R2 Nc Hp Np R3 Nq
    have Nq := fun w => rNear_c _ _ _ true hq w
    rw [show placeV n s0 s1 s2 c0 c1 c2 = .tuple #[vP n (plc n 0 s0 s1 s2 c0) (plc n 1 s0 s1 s2 c1) (plc n 2 s0 s1 s2 c2), .int .i64 0] by unfold placeV; rw [if_pos ⟨hn, hz⟩, Int.toNat_natCast, if_pos ⟨hc, by rw [hq, hp]; rfl⟩]] at H3
    exact boxes_16 n a0 a1 a2 x0 x1 x2 x3 x4 x5 s0 s1 s2 c0 c1 c2 u0 u1 u2 u3 u4 u5 _ _ _ _ _ _ _ _ _ w Hq H1 H2 H3 In Hv Ns R1 Hi Hz R2 Nc Hp Np R3 Nq
  have Hi := fun w => inside_c u0 u1 u2 u3 u4 u5 0 (by rw [hl]; rfl) w
  rw [show boxV n a0 a1 a2 x0 x1 x2 x3 x4 x5 = .tuple #[vB u0 u1 u2 u3 u4 u5, .int .i64 0] by unfold boxV; rw [if_pos ⟨hn, hx, l0, l1, l2⟩, Int.toNat_natCast, e0, e1, e2, e3, e4, e5, if_pos ⟨hs, hl⟩]] at H1
  cases hz : szB s0 s1 s2
  · have H2 := fun w => Size_no n s0 s1 s2 (by rw [hz, Bool.and_false]) w
    rw [show placeV n s0 s1 s2 c0 c1 c2 = .tuple #[vP 0 0 0 0, .int .i64 1] by unfold placeV; rw [if_neg (fun h => by rw [hz] at h; exact absurd h.2 (by decide))]] at H3
    exact boxes_17 n a0 a1 a2 x0 x1 x2 x3 x4 x5 s0 s1 s2 c0 c1 c2 u0 u1 u2 u3 u4 u5 0 0 0 0 0 0 0 0 0 w Hq H1 H2 H3 In Hv Ns R1 Hi (fun w => rSized_c s0 s1 s2 false hz w)
  have hz' := szB_t.1 hz
  have Hz := fun w => rSized_c s0 s1 s2 true hz w
  have H2 := fun w => Size_c n s0 s1 s2 n24 hz w
  have R2 := fun w => rsize_c n n24 s0 s1 s2 (by omega) (by omega) (by omega) w
  have g0 := ext_bd (i := 0) (B := 1000000) n24 (by decide) (x := s0) (y := s1) (z := s2) (by omega) (by omega) (by omega)
  have g1 := ext_bd (i := 1) (B := 1000000) n24 (by decide) (x := s0) (y := s1) (z := s2) (by omega) (by omega) (by omega)
  have g2 := ext_bd (i := 2) (B := 1000000) n24 (by decide) (x := s0) (y := s1) (z := s2) (by omega) (by omega) (by omega)
  have h6 : ∀ (h : ¬ (nearB c0 c1 c2 = true ∧ (nearB (plc n 0 s0 s1 s2 c0) (plc n 1 s0 s1 s2 c1) (plc n 2 s0 s1 s2 c2) && nearB (c0 + ext n 0 s0 s1 s2) (c1 + ext n 1 s0 s1 s2) (c2 + ext n 2 s0 s1 s2)) = true)), placeV n s0 s1 s2 c0 c1 c2 = .tuple #[vP 0 0 0 0, .int .i64 6] := fun h => by
    unfold placeV; rw [if_pos ⟨hn, hz⟩, Int.toNat_natCast, if_neg h]
  cases hc : nearB c0 c1 c2
  · have Nc := fun w => rNear_c c0 c1 c2 false hc w
    rw [h6 (fun h => by rw [hc] at h; exact absurd h.1 (by decide))] at H3
    exact boxes_18 n a0 a1 a2 x0 x1 x2 x3 x4 x5 s0 s1 s2 c0 c1 c2 u0 u1 u2 u3 u4 u5 _ _ _ 0 0 0 0 0 0 w Hq H1 H2 H3 In Hv Ns R1 Hi Hz R2 Nc
  have hc' := nearB_t.1 hc
  have Nc := fun w => rNear_c c0 c1 c2 true hc w
  have Hp := fun w => plus_c c0 c1 c2 (ext n 0 s0 s1 s2) (ext n 1 s0 s1 s2) (ext n 2 s0 s1 s2) w (by omega) (by omega) (by omega) (by omega) (by omega) (by omega)
  cases hp : nearB (c0 + ext n 0 s0 s1 s2) (c1 + ext n 1 s0 s1 s2) (c2 + ext n 2 s0 s1 s2)
  · have Np := fun w => rNear_c _ _ _ false hp w
    rw [h6 (fun h => by rw [hp, Bool.and_false] at h; exact absurd h.2 (by decide))] at H3
    exact boxes_19 n a0 a1 a2 x0 x1 x2 x3 x4 x5 s0 s1 s2 c0 c1 c2 u0 u1 u2 u3 u4 u5 _ _ _ 0 0 0 _ _ _ w Hq H1 H2 H3 In Hv Ns R1 Hi Hz R2 Nc Hp Np
  have Np := fun w => rNear_c _ _ _ true hp w
  have R3 := fun w => rplace_c n n24 s0 s1 s2 c0 c1 c2 (by omega) (by omega) (by omega) (by omega) (by omega) (by omega) w
  cases hq : nearB (plc n 0 s0 s1 s2 c0) (plc n 1 s0 s1 s2 c1) (plc n 2 s0 s1 s2 c2)
  · have Nq := fun w => rNear_c _ _ _ false hq w
    rw [h6 (fun h => by rw [hq, Bool.false_and] at h; exact absurd h.2 (by decide))] at H3
    exact boxes_20 n a0 a1 a2 x0 x1 x2 x3 x4 x5 s0 s1 s2 c0 c1 c2 u0 u1 u2 u3 u4 u5 _ _ _ _ _ _ _ _ _ w Hq H1 H2 H3 In Hv Ns R1 Hi Hz R2 Nc Hp Np R3 Nq
  have Nq := fun w => rNear_c _ _ _ true hq w
  rw [show placeV n s0 s1 s2 c0 c1 c2 = .tuple #[vP n (plc n 0 s0 s1 s2 c0) (plc n 1 s0 s1 s2 c1) (plc n 2 s0 s1 s2 c2), .int .i64 0] by unfold placeV; rw [if_pos ⟨hn, hz⟩, Int.toNat_natCast, if_pos ⟨hc, by rw [hq, hp]; rfl⟩]] at H3
  exact boxes_21 n a0 a1 a2 x0 x1 x2 x3 x4 x5 s0 s1 s2 c0 c1 c2 u0 u1 u2 u3 u4 u5 _ _ _ _ _ _ _ _ _ w Hq H1 H2 H3 In Hv Ns R1 Hi Hz R2 Nc Hp Np R3 Nq
set_option maxRecDepth 100000 in
theorem orientBoxes_lifted (os : Os) (started : os.Started) (H : Type) (enc : TypeId × Value → H) :
    ReturnsInHanded {} Tryd.checked os 3 .any (fun w args => (Rows.orientBoxesSpec.pre enc Tryd.prog Tryd.f3 [] false w args ∧ laidMetH Tryd.prog [("gangsaw/orient.units", Rows.laid_gangsaw_orient_units)] w) ∧ sizedMet enc Tryd.prog Tryd.f3 (OpenSpec.ofChange Rows.orientBoxesSpec) false w args)
      (Rows.orientBoxesSpec.post enc Tryd.prog Tryd.f3 false true false false) := by
  refine returnsInHanded_of_change_and (C := Tryd.checked) (X := fun w _ => laidMetH Tryd.prog [("gangsaw/orient.units", Rows.laid_gangsaw_orient_units)] w) (fun _ _ _ hh h => h.of_heap hh) own28 started (by kernel_rfl) Tryd.func3
    (ChangeSpec.witness_shaped (enc := enc) (C := Tryd.checked) (os := os) (X := fun w _ => laidMetH Tryd.prog [("gangsaw/orient.units", Rows.laid_gangsaw_orient_units)] w) false (World.doorLaid Tryd.prog 400 os) #[.agg #[.int .i64 0, .int .i64 0, .int .i64 0, .int .i64 0], .agg #[.int .i64 0, .int .i64 0, .int .i64 0, .int .i64 0, .int .i64 0, .int .i64 0], .agg #[.int .i64 0, .int .i64 0, .int .i64 0], .agg #[.int .i64 0, .int .i64 0, .int .i64 0]] 8 rfl (World.shaped_of_RefB (by kernel_rfl) (by kernel_rfl)) (by kernel_rfl) (by kernel_rfl) (by kernel_rfl) (door_met os _)) ?_
  intro W base args ds gs before hval0 hW _ _ hL _
  have hval : ∀ (j : Nat) t v, Tryd.f3.params[j]? = some t → args[j]? = some v → Value.okWide Tryd.prog W .any base t v := hval0
  have hW' := hW
  obtain ⟨p, q, hA0, hV, rfl, hfz, hnd⟩ := hW
  have hA : DataW.TrodAll enc Tryd.prog W 0 (fun _ => true) true Tryd.f3.params.toList args.toList ds p := hA0
  rw [Tryd.params3] at hA hval
  obtain ⟨v0, v1, v2, v3, d0, d1, d2, d3, p0, p1, p2, p3, rfl, rfl, rfl, h0, h1, h2, h3⟩ := trodAll_four hA
  obtain ⟨rfl, rfl⟩ := trodVars_none hV
  obtain ⟨n, a0, a1, a2, rfl, rfl, rfl, wn, wa0, wa1, wa2⟩ := open_P (hval 0 25 v0 rfl rfl) h0
  obtain ⟨x0, x1, x2, x3, x4, x5, rfl, rfl, rfl, wx0, wx1, wx2, wx3, wx4, wx5⟩ := open_B (hval 1 27 v1 rfl rfl) h1
  obtain ⟨s0, s1, s2, rfl, rfl, rfl, ws0, ws1, ws2⟩ := open_V (hval 2 23 v2 rfl rfl) h2
  obtain ⟨c0, c1, c2, rfl, rfl, rfl, wc0, wc1, wc2⟩ := open_V (hval 3 23 v3 rfl rfl) h3
  have hu := units_of hL
  clear hA0 hval0
  simp only [List.append_nil] at hW'
  refine (boxes_c n a0 a1 a2 x0 x1 x2 x3 x4 x5 s0 s1 s2 c0 c1 c2 W hu).mono fun e W' ⟨he, hB⟩ => ?_
  subst he
  exact ⟨_, rfl, _, _, _, [], [], [], hW', trodAll_mk1 (shut_bool Tryd.underlying4 true), trodAll_mk4 (shut_P wn wa0 wa1 wa2) (shut_B wx0 wx1 wx2 wx3 wx4 wx5) (shut_V ws0 ws1 ws2) (shut_V wc0 wc1 wc2), rfl, hB.frame _, fun h => by cases h⟩

theorem orientBoxes_holds : Rows.OrientBoxesSaid :=
  OpenClaim.holds_of_wide 3 Tryd.f3 rfl rfl rfl rfl rfl rfl rfl ⟨rfl, rfl, rfl, rfl, rfl⟩ rfl rfl rfl rfl rfl (by kernel_rfl) Tryd.func3 (by kernel_rfl)
    (of_decide_eq_true (by kernel_rfl)) (by unfold Func.isWrapper; first | (rw [if_pos (by decide +kernel)]; kernel_rfl) | (rw [if_neg (by decide +kernel)]; exact ⟨rfl, rfl⟩))
    (fun os started H enc _ => orientBoxes_lifted os started H enc)
theorem orientBoxes_card : Rows.OrientBoxesCardSaid :=
  Claim7.holds_tied_plain_at .later [] [.data] true (true, "b45ebaff8e64017981d2538e62ac95c1ce686c7825d48336f20f0c3682e3a9c0") false
    orientBoxes_holds (fun _ h => by cases h) (by kernel_rfl) (fun _ h => by cases h) orientBoxes_row_tie rfl ⟨rfl, rfl⟩ (by kernel_rfl) rfl
    (fun f fn hf hfn => by
      obtain rfl : f = 3 := Option.some.inj ((show Tryd.prog.funcNamed "gangsaw/gangsawlaw28.OrientBoxes" = some 3 by kernel_rfl).symm.trans hf) |>.symm
      obtain rfl : fn = Tryd.f3 := (Option.some.inj (Tryd.func3.symm.trans hfn)).symm
      exact ⟨by kernel_rfl, fun j t ht => by
        rw [Tryd.params3] at ht
        have hm : t ∈ [25, 27, 23, 23] := by simpa using Array.mem_of_getElem? ht
        have hall : ([25, 27, 23, 23].all fun u => !Tryd.prog.wantsStandIn u) = true := by kernel_rfl
        exact (show Tryd.prog.wantsStandIn t = false by simpa using List.all_eq_true.1 hall t hm)⟩)
    (by kernel_rfl)
#print axioms orientBoxes_card
end Go.Proofs.YtibncdefhphggaaDoor
