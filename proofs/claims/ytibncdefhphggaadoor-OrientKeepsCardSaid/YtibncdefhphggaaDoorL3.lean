/- Turns keep squared distances and overlaps, and map unit vectors to unit vectors. -/
import Derived.Test.YtibncdefhphggaaDoorL2
import Derived.Test.YtibncdefhphggaaDoorB5
namespace Go.Proofs.YtibncdefhphggaaDoor
open Go.RowKit

theorem dir_unit : ∀ n, n < 24 → ∀ d, d < 6 → 0 ≤ dirT n d ∧ dirT n d < 6 ∧ ∀ i, i < 3 → unT (dirT n d).toNat i = ap n i (unT d 0) (unT d 1) (unT d 2) := by decide +kernel
theorem near_unit : ∀ d, d < 6 → nearB (unT d 0) (unT d 1) (unT d 2) = true := by decide +kernel

theorem sq_sg {s p : Int} (h : s = 1 ∨ s = -1) : (s * p) * (s * p) = p * p := by
  rcases h with rfl | rfl
  · rw [Int.one_mul]
  · rw [Int.neg_mul, Int.one_mul, Int.neg_mul_neg]
theorem sq_ap (m : Nat) (h : m < 24) (x y z : Int) : ap m 0 x y z * ap m 0 x y z + ap m 1 x y z * ap m 1 x y z + ap m 2 x y z * ap m 2 x y z = x * x + y * y + z * z := by
  unfold ap
  rw [sq_sg (sg_cases m 0 h (by decide)), sq_sg (sg_cases m 1 h (by decide)), sq_sg (sg_cases m 2 h (by decide))]
  rcases perm6 m h with ⟨e0, e1, e2⟩ | ⟨e0, e1, e2⟩ | ⟨e0, e1, e2⟩ | ⟨e0, e1, e2⟩ | ⟨e0, e1, e2⟩ | ⟨e0, e1, e2⟩ <;> rw [e0, e1, e2] <;> simp only [pick] <;> simp <;> omega
theorem ap_sub (m i : Nat) (x y z a b c : Int) : ap m i x y z - ap m i a b c = ap m i (x - a) (y - b) (z - c) := by
  have h := ap_add m i (x - a) (y - b) (z - c) a b c
  rw [show x - a + a = x by omega, show y - b + b = y by omega, show z - c + c = z by omega] at h
  omega
theorem sq_bd {r : Int} (h : -2000000 ≤ r ∧ r ≤ 2000000) : 0 ≤ r * r ∧ r * r ≤ 4000000000000 := by
  have e : r * r = ((r.natAbs * r.natAbs : Nat) : Int) := by rw [Int.natAbs_mul_self]
  have l : r.natAbs * r.natAbs ≤ 2000000 * 2000000 := Nat.mul_le_mul (by omega) (by omega)
  rw [e]; omega
theorem iwrap {n : Int} (h0 : -9223372036854775808 ≤ n) (h1 : n < 9223372036854775808) : IntKind.i64.wrap n = n := IntWalk.i64_in _ (by omega)

theorem keep_wraps {v0 v1 v2 t0 t1 t2 : Int} (h0 : -2000000 ≤ v0 ∧ v0 ≤ 2000000) (h1 : -2000000 ≤ v1 ∧ v1 ≤ 2000000) (h2 : -2000000 ≤ v2 ∧ v2 ≤ 2000000) (g0 : -2000000 ≤ t0 ∧ t0 ≤ 2000000) (g1 : -2000000 ≤ t1 ∧ t1 ≤ 2000000) (g2 : -2000000 ≤ t2 ∧ t2 ≤ 2000000)
    (sq : t0 * t0 + t1 * t1 + t2 * t2 = v0 * v0 + v1 * v1 + v2 * v2) :
    (IntKind.i64.wrap (v0 * v0) = v0 * v0 ∧ wrap64 (v0 * v0) = v0 * v0) ∧ (IntKind.i64.wrap (v1 * v1) = v1 * v1 ∧ wrap64 (v1 * v1) = v1 * v1) ∧ (IntKind.i64.wrap (v2 * v2) = v2 * v2 ∧ wrap64 (v2 * v2) = v2 * v2) ∧ (IntKind.i64.wrap (v0 * v0 + v1 * v1) = v0 * v0 + v1 * v1 ∧ wrap64 (v0 * v0 + v1 * v1) = v0 * v0 + v1 * v1) ∧ (IntKind.i64.wrap (v0 * v0 + v1 * v1 + v2 * v2) = v0 * v0 + v1 * v1 + v2 * v2 ∧ wrap64 (v0 * v0 + v1 * v1 + v2 * v2) = v0 * v0 + v1 * v1 + v2 * v2) ∧ (IntKind.i64.wrap (t0 * t0) = t0 * t0 ∧ wrap64 (t0 * t0) = t0 * t0) ∧ (IntKind.i64.wrap (t1 * t1) = t1 * t1 ∧ wrap64 (t1 * t1) = t1 * t1) ∧ (IntKind.i64.wrap (t2 * t2) = t2 * t2 ∧ wrap64 (t2 * t2) = t2 * t2) ∧ (IntKind.i64.wrap (t0 * t0 + t1 * t1) = t0 * t0 + t1 * t1 ∧ wrap64 (t0 * t0 + t1 * t1) = t0 * t0 + t1 * t1) ∧ (IntKind.i64.wrap (t0 * t0 + t1 * t1 + t2 * t2) = v0 * v0 + v1 * v1 + v2 * v2 ∧ wrap64 (t0 * t0 + t1 * t1 + t2 * t2) = v0 * v0 + v1 * v1 + v2 * v2) := by
  have w0 := sq_bd h0
  have w1 := sq_bd h1
  have w2 := sq_bd h2
  have y0 := sq_bd g0
  have y1 := sq_bd g1
  have y2 := sq_bd g2
  clear h0 h1 h2 g0 g1 g2
  have W : ∀ n : Int, 0 ≤ n → n ≤ 12000000000000 → IntKind.i64.wrap n = n ∧ wrap64 n = n := fun n a b => ⟨iwrap (by omega) (by omega), wrap_small (by omega) (by omega)⟩
  rw [← sq]
  refine ⟨W _ (by omega) (by omega), W _ (by omega) (by omega), W _ (by omega) (by omega), W _ (by omega) (by omega), ?_, W _ (by omega) (by omega), W _ (by omega) (by omega), W _ (by omega) (by omega), W _ (by omega) (by omega), W _ (by omega) (by omega)⟩
  rw [sq]
  exact W _ (by omega) (by omega)

theorem ov_i (m i : Nat) (h : m < 24) (hi : i < 3) {x y z p q r a b c d e f : Int} (h0 : x < p) (h1 : y < q) (h2 : z < r) (g0 : a < d) (g1 : b < e) (g2 : c < f) :
    (loT m i x y z p q r < hiT m i a b c d e f ∧ loT m i a b c d e f < hiT m i x y z p q r) ↔ (pick (axT m i) x y z < pick (axT m i) d e f ∧ pick (axT m i) a b c < pick (axT m i) p q r) := by
  unfold loT hiT ap
  have hj := ax_lt m h i hi
  rcases sg_cases m i h hi with s | s <;> rw [s] <;> rcases (show axT m i = 0 ∨ axT m i = 1 ∨ axT m i = 2 by omega) with e | e | e <;> rw [e] <;> simp [pick] <;> omega
theorem ov_img (m : Nat) (h : m < 24) {x y z p q r a b c d e f s0 s1 s2 : Int} (h0 : x < p) (h1 : y < q) (h2 : z < r) (g0 : a < d) (g1 : b < e) (g2 : c < f) :
    ovB (loT m 0 x y z p q r + s0) (loT m 1 x y z p q r + s1) (loT m 2 x y z p q r + s2) (hiT m 0 x y z p q r + s0) (hiT m 1 x y z p q r + s1) (hiT m 2 x y z p q r + s2)
      (loT m 0 a b c d e f + s0) (loT m 1 a b c d e f + s1) (loT m 2 a b c d e f + s2) (hiT m 0 a b c d e f + s0) (hiT m 1 a b c d e f + s1) (hiT m 2 a b c d e f + s2) = ovB x y z p q r a b c d e f := by
  have v0 := ov_i m 0 h (by decide) h0 h1 h2 g0 g1 g2
  have v1 := ov_i m 1 h (by decide) h0 h1 h2 g0 g1 g2
  have v2 := ov_i m 2 h (by decide) h0 h1 h2 g0 g1 g2
  unfold ovB
  rw [decide_eq_decide]
  rcases perm6 m h with ⟨e0, e1, e2⟩ | ⟨e0, e1, e2⟩ | ⟨e0, e1, e2⟩ | ⟨e0, e1, e2⟩ | ⟨e0, e1, e2⟩ | ⟨e0, e1, e2⟩ <;> rw [e0] at v0 <;> rw [e1] at v1 <;> rw [e2] at v2 <;> simp [pick] at v0 v1 v2 <;> omega
end Go.Proofs.YtibncdefhphggaaDoor
