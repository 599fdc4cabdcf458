/- The contract of the reference's Same. -/
import Derived.Test.YtibncdefhphggaaDoorA10
import Derived.Test.YtibncdefhphggaaDoorB1
namespace Go.Proofs.YtibncdefhphggaaDoor
open Go.RowKit
set_option linter.unusedSimpArgs false
set_option linter.unusedVariables false
attribute [local go_sem ↓] Go.wp_at_zero Go.wp_at_succ

/-- A slice value that reads as a list. -/
def RdL (w : World) (v : Value) (xs : List Int) : Prop := (xs = [] ∧ v = .slice none 0 0) ∨ ∃ g cap, v = .slice (some ⟨g, 0, none⟩) xs.length cap ∧ ∀ i, i < xs.length → w.cell? ⟨g, i, none⟩ = some (.int .i64 (xs.getD i 0))
theorem RdL.later {w w' : World} {v : Value} {xs : List Int} (h : RdL w v xs) (hb : Below w.heap.size w w') : RdL w' v xs := by
  rcases h with h | ⟨g, cap, hv, hc⟩
  · exact .inl h
  · exact .inr ⟨g, cap, hv, fun i hi => cell_later hb (hc i hi)⟩
theorem RdL.of_own {w : World} {B : Nat} {v : Value} {xs : List Int} (h : w.ownsRow B 3 1 v xs.length (xs.map (Value.int .i64))) : RdL w v xs := by
  rcases h.2 with ⟨hv, hn⟩ | ⟨g, cap, cur, hv, hg, hh, r⟩
  · exact .inl ⟨List.length_eq_zero_iff.1 hn, hv⟩
  · refine .inr ⟨g, cap, hv, fun i hi => ?_⟩
    have := h.cells (g := g) (by rw [hv]; rfl) i (.int .i64 (xs.getD i 0)) (by rw [List.getElem?_map, List.getD_eq_getElem?_getD, List.getElem?_eq_getElem hi]; rfl)
    rw [Addr.add_mid, Nat.zero_add] at this
    exact this

theorem list_ext_getD {xs ys : List Int} (hl : xs.length = ys.length) (h : ∀ j, j < xs.length → xs.getD j 0 = ys.getD j 0) : xs = ys := by
  apply List.ext_getElem hl
  intro i h1 h2
  have := h i h1
  rw [List.getD_eq_getElem?_getD, List.getD_eq_getElem?_getD, List.getElem?_eq_getElem h1, List.getElem?_eq_getElem h2] at this
  simpa using this

set_option maxHeartbeats 4000000 in
theorem same_ne (a b : Option Addr) (n m c d : Nat) (h : n ≠ m) (hn : n ≤ 1000000) (hm : m ≤ 1000000) (w : World) :
    Calls Tryd.prog 28 #[.slice a n c, .slice b m d] w fun e w' => e = .returned (.bool false) ∧ Below w.heap.size w w' := by
  have h1 : ((n : Int) != (m : Int)) = true := by rw [bne_iff_ne]; omega
  have h2 : ¬ ((n : Int) = (m : Int)) := by omega
  go_enter Tryd.func28, Tryd.ntmps28
  go_wp2
  go_ret
  exact ⟨rfl, Below.refl _ _⟩

set_option maxHeartbeats 4000000 in
theorem same_nil (a b : Option Addr) (c d : Nat) (w : World) :
    Calls Tryd.prog 28 #[.slice a 0 c, .slice b 0 d] w fun e w' => e = .returned (.bool true) ∧ Below w.heap.size w w' := by
  go_enter Tryd.func28, Tryd.ntmps28
  go_wp2
  refine wp_loop_rounds 1 ?_
  rw [rounds_succ]
  go_wp2
  go_ret
  exact ⟨rfl, Below.refl _ _⟩

set_option maxHeartbeats 8000000 in
theorem same_eq (g f n c d : Nat) (xs ys : List Int) (hx : xs.length = n) (hy : ys.length = n) (hn : n ≤ 1000000) (w : World) (hg : ∀ i, i < n → w.cell? ⟨g, i, none⟩ = some (.int .i64 (xs.getD i 0))) (hf : ∀ i, i < n → w.cell? ⟨f, i, none⟩ = some (.int .i64 (ys.getD i 0))) :
    Calls Tryd.prog 28 #[.slice (some ⟨g, 0, none⟩) n c, .slice (some ⟨f, 0, none⟩) n d] w fun e w' => e = .returned (.bool (decide (xs = ys))) ∧ Below w.heap.size w w' := by
  have HX := Lib.hid hx; clear hx
  have HY := Lib.hid hy; clear hy
  have HG := Lib.hid hg; clear hg
  have HF := Lib.hid hf; clear hf
  go_enter Tryd.func28, Tryd.ntmps28
  go_wp2
  go_loopw [5] (fun i wr => ∃ k : Nat, k ≤ n ∧ i = .int .i64 k ∧ Hid (∀ j, j < k → xs.getD j 0 = ys.getD j 0) ∧ Below w.heap.size w wr) (fun i _ => (n - intOf i).toNat)
  case atStart => exact ⟨0, Nat.zero_le _, rfl, fun j hj => absurd hj (Nat.not_lt_zero _), Below.refl _ _⟩
  case round =>
    obtain ⟨k, hk, rfl, hall, bw⟩ := hrel
    by_cases hlt : k < n
    · have cx := cell_later bw (HG.out k hlt)
      have cy := cell_later bw (HF.out k hlt)
      have k0 : (0 : Int) ≤ (k : Int) := by omega
      have k1 : (k : Int) < (n : Int) := by omega
      generalize hu : xs.getD k 0 = u at cx
      generalize hv : ys.getD k 0 = v at cy
      have HU := Lib.hid hu; clear hu
      have HV := Lib.hid hv; clear hv
      by_cases he : u = v
      · subst he
        go_wp2_with fail
        go_quiet (fail)
        go_wp2
        go_roundw
        case rel =>
          refine ⟨k + 1, by omega, by go_num, ?_, below_drewN bw _⟩
          intro j hj
          rcases Nat.lt_succ_iff_lt_or_eq.1 hj with hj | rfl
          · exact hall.out j hj
          · rw [HU.out, HV.out]
        case measure => simp [intOf]; omega
      · have hne : (u != v) = true := by simpa using he
        go_wp2_with fail
        go_quiet (fail)
        go_wp2
        go_ret
        refine ⟨ret_bool ?_, below_drewN bw _⟩
        symm
        apply decide_eq_false
        intro e
        apply he
        rw [← HU.out, ← HV.out, e]
    · obtain rfl : k = n := by omega
      go_wp2
      go_ret
      refine ⟨ret_bool ?_, bw⟩
      symm
      exact decide_eq_true (list_ext_getD (by rw [HX.out, HY.out]) (by rw [HX.out]; exact hall.out))

/-- Same answers whether two lists are equal. -/
theorem same_c {w : World} {va vb : Value} {xs ys : List Int} (ha : RdL w va xs) (hb : RdL w vb ys) (hx : xs.length ≤ 1000000) (hy : ys.length ≤ 1000000) :
    Calls Tryd.prog 28 #[va, vb] w fun e w' => e = .returned (.bool (decide (xs = ys))) ∧ Below w.heap.size w w' := by
  by_cases hl : xs.length = ys.length
  · by_cases h0 : xs.length = 0
    · have e1 := List.length_eq_zero_iff.1 h0
      have e2 := List.length_eq_zero_iff.1 (hl ▸ h0)
      subst e1; subst e2
      rcases ha with ⟨_, rfl⟩ | ⟨g, cap, rfl, _⟩ <;> rcases hb with ⟨_, rfl⟩ | ⟨f, cap', rfl, _⟩ <;> exact same_nil _ _ _ _ _
    · rcases ha with ⟨rfl, _⟩ | ⟨g, cap, rfl, hg⟩
      · exact absurd rfl h0
      · rcases hb with ⟨rfl, _⟩ | ⟨f, cap', rfl, hf⟩
        · exact absurd hl h0
        · rw [← hl] at hf ⊢
          exact same_eq g f xs.length cap cap' xs ys rfl hl.symm hx w hg hf
  · have : decide (xs = ys) = false := decide_eq_false (fun e => hl (by rw [e]))
    rw [this]
    rcases ha with ⟨rfl, rfl⟩ | ⟨g, cap, rfl, _⟩ <;> rcases hb with ⟨rfl, rfl⟩ | ⟨f, cap', rfl, _⟩ <;> exact same_ne _ _ _ _ _ _ hl hx hy _
end Go.Proofs.YtibncdefhphggaaDoor
