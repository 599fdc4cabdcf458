/- The plain laws of boxes under turns: images of images, sums, volumes. -/
import Derived.Test.YtibncdefhphggaaDoorL1
import Derived.Test.YtibncdefhphggaaDoorA18
namespace Go.Proofs.YtibncdefhphggaaDoor
open Go.RowKit
set_option linter.unusedVariables false
set_option linter.unusedSimpArgs false

theorem ap_fun (m i : Nat) (h : m < 24) (hi : i < 3) (f : Nat → Int) : ap m i (f 0) (f 1) (f 2) = sgT m i * f (axT m i) := by
  unfold ap
  rw [pick_ap (axT m i) (ax_lt m h i hi) f]
theorem pick_add (j : Nat) (x y z a b c : Int) : pick j (x + a) (y + b) (z + c) = pick j x y z + pick j a b c := by
  unfold pick
  split
  · rfl
  · split <;> rfl
theorem ap_add (n i : Nat) (x y z a b c : Int) : ap n i (x + a) (y + b) (z + c) = ap n i x y z + ap n i a b c := by
  unfold ap
  rw [pick_add, Int.mul_add]
theorem sg_cases (n i : Nat) (h : n < 24) (hi : i < 3) : sgT n i = 1 ∨ sgT n i = -1 := sg1 n h i hi

theorem lo_cmp (m n i : Nat) (h : m < 24) (h' : n < 24) (hi : i < 3) (x y z p q r : Int) :
    loT m i (loT n 0 x y z p q r) (loT n 1 x y z p q r) (loT n 2 x y z p q r) (hiT n 0 x y z p q r) (hiT n 1 x y z p q r) (hiT n 2 x y z p q r) = loT (cmpT m n).toNat i x y z p q r ∧
    hiT m i (loT n 0 x y z p q r) (loT n 1 x y z p q r) (loT n 2 x y z p q r) (hiT n 0 x y z p q r) (hiT n 1 x y z p q r) (hiT n 2 x y z p q r) = hiT (cmpT m n).toNat i x y z p q r := by
  have e1 := ap_fun m i h hi (fun j => loT n j x y z p q r)
  have e2 := ap_fun m i h hi (fun j => hiT n j x y z p q r)
  have e3 := (ap_cmp m n h h' i hi x y z).trans (ap_fun m i h hi (fun j => ap n j x y z))
  have e4 := (ap_cmp m n h h' i hi p q r).trans (ap_fun m i h hi (fun j => ap n j p q r))
  generalize axT m i = j at *
  have a1 : loT n j x y z p q r = min (ap n j x y z) (ap n j p q r) := rfl
  have a2 : hiT n j x y z p q r = max (ap n j x y z) (ap n j p q r) := rfl
  have b1 : ∀ a b c d e f, loT m i a b c d e f = min (ap m i a b c) (ap m i d e f) := fun _ _ _ _ _ _ => rfl
  have b2 : ∀ a b c d e f, hiT m i a b c d e f = max (ap m i a b c) (ap m i d e f) := fun _ _ _ _ _ _ => rfl
  have b3 : ∀ a b c d e f, loT (cmpT m n).toNat i a b c d e f = min (ap (cmpT m n).toNat i a b c) (ap (cmpT m n).toNat i d e f) := fun _ _ _ _ _ _ => rfl
  have b4 : ∀ a b c d e f, hiT (cmpT m n).toNat i a b c d e f = max (ap (cmpT m n).toNat i a b c) (ap (cmpT m n).toNat i d e f) := fun _ _ _ _ _ _ => rfl
  rw [b1, b2, b3, b4, e1, e2, e3, e4]
  rw [a1, a2]
  rcases sg_cases m i h hi with s | s <;> rw [s] <;> constructor <;> omega
theorem lo_add (n i : Nat) (x y z p q r a b c : Int) :
    loT n i (x + a) (y + b) (z + c) (p + a) (q + b) (r + c) = loT n i x y z p q r + ap n i a b c ∧ hiT n i (x + a) (y + b) (z + c) (p + a) (q + b) (r + c) = hiT n i x y z p q r + ap n i a b c := by
  unfold loT hiT
  rw [ap_add, ap_add]
  constructor <;> omega
theorem lo_zero (i : Nat) (hi : i < 3) {x y z p q r : Int} (h0 : x < p) (h1 : y < q) (h2 : z < r) : loT 0 i x y z p q r = pick i x y z ∧ hiT 0 i x y z p q r = pick i p q r := by
  unfold loT hiT
  rw [ap_zero i hi, ap_zero i hi]
  rcases (show i = 0 ∨ i = 1 ∨ i = 2 by omega) with rfl | rfl | rfl <;> simp [pick] <;> omega
/-- The extent of an image. -/
theorem hi_lo (n i : Nat) (h : n < 24) (hi : i < 3) {x y z p q r : Int} (h0 : x < p) (h1 : y < q) (h2 : z < r) : hiT n i x y z p q r - loT n i x y z p q r = pick (axT n i) (p - x) (q - y) (r - z) := by
  unfold loT hiT ap
  have hj := ax_lt n h i hi
  rcases sg_cases n i h hi with s | s <;> rw [s] <;> rcases (show axT n i = 0 ∨ axT n i = 1 ∨ axT n i = 2 by omega) with e | e | e <;> rw [e] <;> simp [pick] <;> omega
theorem lo_lt (n i : Nat) (h : n < 24) (hi : i < 3) {x y z p q r : Int} (h0 : x < p) (h1 : y < q) (h2 : z < r) : loT n i x y z p q r < hiT n i x y z p q r := by
  have e := hi_lo n i h hi h0 h1 h2
  have hj := ax_lt n h i hi
  rcases (show axT n i = 0 ∨ axT n i = 1 ∨ axT n i = 2 by omega) with k | k | k <;> rw [k] at e <;> simp [pick] at e <;> omega
theorem perm6 : ∀ n, n < 24 → (axT n 0 = 0 ∧ axT n 1 = 1 ∧ axT n 2 = 2) ∨ (axT n 0 = 0 ∧ axT n 1 = 2 ∧ axT n 2 = 1) ∨ (axT n 0 = 1 ∧ axT n 1 = 0 ∧ axT n 2 = 2) ∨ (axT n 0 = 1 ∧ axT n 1 = 2 ∧ axT n 2 = 0) ∨ (axT n 0 = 2 ∧ axT n 1 = 0 ∧ axT n 2 = 1) ∨ (axT n 0 = 2 ∧ axT n 1 = 1 ∧ axT n 2 = 0) := by decide +kernel
theorem prod_perm (n : Nat) (h : n < 24) (a b c : Int) : pick (axT n 0) a b c * pick (axT n 1) a b c * pick (axT n 2) a b c = a * b * c := by
  rcases perm6 n h with ⟨e0, e1, e2⟩ | ⟨e0, e1, e2⟩ | ⟨e0, e1, e2⟩ | ⟨e0, e1, e2⟩ | ⟨e0, e1, e2⟩ | ⟨e0, e1, e2⟩ <;> rw [e0, e1, e2] <;> simp [pick, Int.mul_comm, Int.mul_left_comm, Int.mul_assoc]

theorem wrap_small {n : Int} (h0 : -9223372036854775808 ≤ n) (h1 : n < 9223372036854775808) : wrap64 n = n := by unfold wrap64; omega
theorem pick_bd' (j : Nat) {a b c : Int} (ha : 0 ≤ a ∧ a ≤ 2000000) (hb : 0 ≤ b ∧ b ≤ 2000000) (hc : 0 ≤ c ∧ c ≤ 2000000) : 0 ≤ pick j a b c ∧ pick j a b c ≤ 2000000 := by
  unfold pick; split
  · exact ha
  · split
    · exact hb
    · exact hc
theorem wrap_prod {a b c : Int} (ha : 0 ≤ a ∧ a ≤ 2000000) (hb : 0 ≤ b ∧ b ≤ 2000000) (hc : 0 ≤ c ∧ c ≤ 2000000) : wrap64 (wrap64 (wrap64 a * wrap64 b) * wrap64 c) = a * b * c := by
  rw [wrap_small (n := a) (by omega) (by omega), wrap_small (n := b) (by omega) (by omega), wrap_small (n := c) (by omega) (by omega)]
  have h1 : 0 ≤ a * b := Int.mul_nonneg ha.1 hb.1
  have h2 : a * b ≤ 2000000 * 2000000 := Int.mul_le_mul ha.2 hb.2 hb.1 (by decide)
  have h3 : 0 ≤ a * b * c := Int.mul_nonneg h1 hc.1
  have h4 : a * b * c ≤ 2000000 * 2000000 * 2000000 := Int.mul_le_mul h2 hc.2 hc.1 (by decide)
  rw [wrap_small (n := a * b) (by omega) (by omega), wrap_small (n := a * b * c) (by omega) (by omega)]

/-- Where Box answers. -/
theorem boxV_yes {n : Nat} (hn : n < 24) {s0 s1 s2 x y z p q r l0 l1 l2 u0 u1 u2 : Int} (hx : (nearB x y z && nearB p q r) = true) (h0 : x < p) (h1 : y < q) (h2 : z < r) (hs : nearB s0 s1 s2 = true)
    (e0 : loT n 0 x y z p q r + s0 = l0) (e1 : loT n 1 x y z p q r + s1 = l1) (e2 : loT n 2 x y z p q r + s2 = l2) (f0 : hiT n 0 x y z p q r + s0 = u0) (f1 : hiT n 1 x y z p q r + s1 = u1) (f2 : hiT n 2 x y z p q r + s2 = u2)
    (hl : (nearB l0 l1 l2 && nearB u0 u1 u2) = true) : boxV n s0 s1 s2 x y z p q r = .tuple #[vB l0 l1 l2 u0 u1 u2, .int .i64 0] := by
  unfold boxV
  rw [if_pos ⟨isB_t.2 (by omega), hx, h0, h1, h2⟩, Int.toNat_natCast, e0, e1, e2, f0, f1, f2, if_pos ⟨hs, hl⟩]
theorem boxV_any (n s0 s1 s2 x y z p q r : Int) : ∃ l0 l1 l2 u0 u1 u2 e : Int, boxV n s0 s1 s2 x y z p q r = .tuple #[vB l0 l1 l2 u0 u1 u2, .int .i64 e] ∧
    ((e ≠ 0 ∧ l0 = 0 ∧ l1 = 0 ∧ l2 = 0 ∧ u0 = 0 ∧ u1 = 0 ∧ u2 = 0) ∨ (e = 0 ∧ ∃ m : Nat, n = m ∧ m < 24 ∧ (nearB x y z && nearB p q r) = true ∧ x < p ∧ y < q ∧ z < r ∧ nearB s0 s1 s2 = true ∧ (nearB l0 l1 l2 && nearB u0 u1 u2) = true ∧
      loT m 0 x y z p q r + s0 = l0 ∧ loT m 1 x y z p q r + s1 = l1 ∧ loT m 2 x y z p q r + s2 = l2 ∧ hiT m 0 x y z p q r + s0 = u0 ∧ hiT m 1 x y z p q r + s1 = u1 ∧ hiT m 2 x y z p q r + s2 = u2)) := by
  unfold boxV
  split
  · rename_i h
    obtain ⟨m, rfl⟩ : ∃ m : Nat, n = m := ⟨n.toNat, by have := isB_t.1 h.1; omega⟩
    rw [Int.toNat_natCast]
    split
    · rename_i h'
      exact ⟨_, _, _, _, _, _, _, rfl, .inr ⟨rfl, m, rfl, isB_nat h.1, h.2.1, h.2.2.1, h.2.2.2.1, h.2.2.2.2, h'.1, h'.2, rfl, rfl, rfl, rfl, rfl, rfl⟩⟩
    · exact ⟨_, _, _, _, _, _, _, rfl, .inl ⟨by decide, rfl, rfl, rfl, rfl, rfl, rfl⟩⟩
  · exact ⟨_, _, _, _, _, _, _, rfl, .inl ⟨by decide, rfl, rfl, rfl, rfl, rfl, rfl⟩⟩
theorem joinV_any (n s0 s1 s2 m x y z : Int) : ∃ k l0 l1 l2 e : Int, joinV n s0 s1 s2 m x y z = .tuple #[vP k l0 l1 l2, .int .i64 e] ∧
    ((e ≠ 0 ∧ k = 0 ∧ l0 = 0 ∧ l1 = 0 ∧ l2 = 0) ∨ (e = 0 ∧ ∃ a b : Nat, n = a ∧ m = b ∧ a < 24 ∧ b < 24 ∧ (nearB s0 s1 s2 && nearB x y z) = true ∧ nearB l0 l1 l2 = true ∧ k = cmpT a b ∧
      ap a 0 x y z + s0 = l0 ∧ ap a 1 x y z + s1 = l1 ∧ ap a 2 x y z + s2 = l2)) := by
  unfold joinV
  split
  · rename_i h
    have ha := (Bool.and_eq_true_iff.1 h).1
    have hb := (Bool.and_eq_true_iff.1 h).2
    obtain ⟨a, rfl⟩ : ∃ m : Nat, n = m := ⟨n.toNat, by have := isB_t.1 ha; omega⟩
    obtain ⟨b, rfl⟩ : ∃ l : Nat, m = l := ⟨m.toNat, by have := isB_t.1 hb; omega⟩
    rw [Int.toNat_natCast, Int.toNat_natCast]
    split
    · rename_i h'
      split
      · rename_i h2
        exact ⟨_, _, _, _, _, rfl, .inr ⟨rfl, a, b, rfl, rfl, isB_nat ha, isB_nat hb, h', h2, rfl, rfl, rfl, rfl⟩⟩
      · exact ⟨_, _, _, _, _, rfl, .inl ⟨by decide, rfl, rfl, rfl, rfl⟩⟩
    · exact ⟨_, _, _, _, _, rfl, .inl ⟨by decide, rfl, rfl, rfl, rfl⟩⟩
  · exact ⟨_, _, _, _, _, rfl, .inl ⟨by decide, rfl, rfl, rfl, rfl⟩⟩
end Go.Proofs.YtibncdefhphggaaDoor
