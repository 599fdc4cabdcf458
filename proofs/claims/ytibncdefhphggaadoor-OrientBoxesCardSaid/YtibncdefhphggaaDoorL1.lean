/- The plain laws of the turns: a group that acts on points. -/
import Derived.Test.YtibncdefhphggaaDoorA8
namespace Go.Proofs.YtibncdefhphggaaDoor
open Go.RowKit

theorem cmp_rng : ∀ a, a < 24 → ∀ b, b < 24 → 0 ≤ cmpT a b ∧ cmpT a b < 24 := by decide +kernel
theorem cmp_ax : ∀ a, a < 24 → ∀ b, b < 24 → ∀ i, i < 3 → axT (cmpT a b).toNat i = axT b (axT a i) ∧ sgT (cmpT a b).toNat i = sgT a i * sgT b (axT a i) := by decide +kernel
theorem turn_ext : ∀ a, a < 24 → ∀ b, b < 24 → (∀ i, i < 3 → axT a i = axT b i ∧ sgT a i = sgT b i) → a = b := by decide +kernel
theorem inv_lr : ∀ a, a < 24 → (0 ≤ invT a ∧ invT a < 24) ∧ cmpT (invT a).toNat a = 0 ∧ cmpT a (invT a).toNat = 0 := by decide +kernel
theorem ax_lt : ∀ a, a < 24 → ∀ i, i < 3 → axT a i < 3 := by decide +kernel
theorem zero_ax : ∀ i, i < 3 → axT 0 i = i ∧ sgT 0 i = 1 := by decide +kernel

theorem cmp_nat (a b : Nat) (h : a < 24) (h' : b < 24) : ∃ k : Nat, k < 24 ∧ cmpT a b = k := by
  have := cmp_rng a h b h'
  exact ⟨(cmpT a b).toNat, by omega, by omega⟩
theorem pick_ap (j : Nat) (hj : j < 3) (f : Nat → Int) : pick j (f 0) (f 1) (f 2) = f j := by
  rcases (show j = 0 ∨ j = 1 ∨ j = 2 by omega) with rfl | rfl | rfl <;> rfl
theorem ap_cmp (a b : Nat) (h : a < 24) (h' : b < 24) (i : Nat) (hi : i < 3) (x y z : Int) :
    ap (cmpT a b).toNat i x y z = ap a i (ap b 0 x y z) (ap b 1 x y z) (ap b 2 x y z) := by
  have e := cmp_ax a h b h' i hi
  have q := pick_ap (axT a i) (ax_lt a h i hi) (fun j => ap b j x y z)
  have u : ap a i (ap b 0 x y z) (ap b 1 x y z) (ap b 2 x y z) = sgT a i * ap b (axT a i) x y z := by rw [← q]; rfl
  rw [u]
  unfold ap
  rw [e.1, e.2, Int.mul_assoc]
theorem ap_zero (i : Nat) (hi : i < 3) (x y z : Int) : ap 0 i x y z = pick i x y z := by
  have e := zero_ax i hi
  unfold ap
  rw [e.1, e.2, Int.one_mul]
theorem cmp_assoc (a b c : Nat) (ha : a < 24) (hb : b < 24) (hc : c < 24) : cmpT (cmpT a b).toNat c = cmpT a (cmpT b c).toNat := by
  obtain ⟨k, hk, ek⟩ := cmp_nat a b ha hb
  obtain ⟨l, hl, el⟩ := cmp_nat b c hb hc
  rw [ek, el, Int.toNat_natCast, Int.toNat_natCast]
  obtain ⟨u, hu, eu⟩ := cmp_nat k c hk hc
  obtain ⟨v, hv, ev⟩ := cmp_nat a l ha hl
  rw [eu, ev]
  have : u = v := turn_ext u hu v hv (fun i hi => by
    have e1 := cmp_ax k hk c hc i hi
    have e2 := cmp_ax a ha b hb i hi
    have e3 := cmp_ax a ha l hl i hi
    have hj := ax_lt a ha i hi
    have e4 := cmp_ax b hb c hc (axT a i) hj
    rw [eu, Int.toNat_natCast] at e1
    rw [ek, Int.toNat_natCast] at e2
    rw [ev, Int.toNat_natCast] at e3
    rw [el, Int.toNat_natCast] at e4
    refine ⟨?_, ?_⟩
    · rw [e1.1, e2.1, e3.1, e4.1]
    · rw [e1.2, e2.1, e2.2, e3.2, e4.2, Int.mul_assoc])
  rw [this]
end Go.Proofs.YtibncdefhphggaaDoor
