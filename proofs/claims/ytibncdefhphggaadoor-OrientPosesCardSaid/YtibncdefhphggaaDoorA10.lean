/- The contracts of list, List and Fits. -/
import Derived.Test.YtibncdefhphggaaDoorA9
import Derived.Test.YtibncdefhphggaaDoorA7
namespace Go.Proofs.YtibncdefhphggaaDoor
open Go.RowKit
set_option linter.unusedSimpArgs false
set_option linter.unusedVariables false
attribute [local go_sem ↓] Go.wp_at_zero Go.wp_at_succ

theorem own_later {w w' : World} {base e size n : Nat} {v : Value} {xs : List Value} (hb : Below w.heap.size w w') (h : w.ownsRow base e size v n xs) : w'.ownsRow base e size v n xs := by
  obtain ⟨h1, h2⟩ := h
  refine ⟨h1, ?_⟩
  rcases h2 with h2 | ⟨g, cap, cur, hv, hg, hh, r⟩
  · exact .inl h2
  · refine .inr ⟨g, cap, cur, hv, hg, ?_, r⟩
    rw [hb.block g (Array.getElem?_eq_some_iff.1 hh).1]; exact hh

/-- The turns below k that are kept. -/
def kept (p : Nat → Bool) (k : Nat) : List Int := ((List.range k).filter p).map (fun n : Nat => (n : Int))
theorem kept_len (p : Nat → Bool) (k : Nat) : (kept p k).length ≤ k := by
  unfold kept; rw [List.length_map]; exact Nat.le_trans (List.length_filter_le _ _) (by rw [List.length_range]; exact Nat.le_refl _)
theorem kept_yes {p : Nat → Bool} {k : Nat} (h : p k = true) : kept p (k + 1) = kept p k ++ [(k : Int)] := by
  unfold kept; rw [List.range_succ, List.filter_append, List.map_append]; simp [h]
theorem kept_no {p : Nat → Bool} {k : Nat} (h : p k = false) : kept p (k + 1) = kept p k := by
  unfold kept; rw [List.range_succ, List.filter_append, List.map_append]; simp [h]

/-- It returns a slice of its own that holds the list. -/
def RetRow (B : Nat) (w : World) (xs : List Int) (e : Ending) (w' : World) : Prop := ∃ v, e = .returned v ∧ w'.ownsRow B 3 1 v xs.length (xs.map (Value.int .i64)) ∧ Below w.heap.size w w'

theorem infoL3 : (Tryd.prog.info? 3).map (fun i => (i.zero, i.size, i.bytes)) = some (some (.int .i64 0), 1, 8) := by kernel_rfl

theorem append_step {w2 : World} {B k : Nat} {v' : Value} {xs : List Int} (h : w2.ownsRow B 3 1 v' (xs.length + 1) (xs.map (Value.int .i64) ++ [.int .i64 k])) : w2.ownsRow B 3 1 v' (xs ++ [(k : Int)]).length ((xs ++ [(k : Int)]).map (Value.int .i64)) := by
  rw [List.length_append, List.map_append]; exact h

set_option maxHeartbeats 4000000 in
theorem list_all (bed : Int) (hold : Nat → Bool) (w : World) (hu : Units w)
    (H : ∀ k : Nat, k < 24 → ∀ W, Below w.heap.size w W → Calls Tryd.prog 57 #[.int .i64 k] W fun e w' => e = .returned (.bool (hold k)) ∧ Below W.heap.size W w') :
    Calls Tryd.prog 56 #[.int .i64 bed, .func (.func 57) #[] #[]] w (RetRow w.heap.size w (kept (fun k => alB bed k && hold k) 24)) := by
  have K := Lib.hid H; clear H
  have HU := Lib.hid hu; clear hu
  obtain ⟨i0, hi, hz0, hz1, hz2⟩ := info_parts infoL3
  obtain ⟨p, hp⟩ : ∃ p, p = fun k => alB bed k && hold k := ⟨_, rfl⟩
  rw [← hp]
  have hpk := Lib.hid (show ∀ k, p k = (alB bed k && hold k) from fun k => by rw [hp])
  clear hp
  go_enter Tryd.func56, Tryd.ntmps56
  go_wp2_with fail
  go_loopw [5, 7] (fun v i wr => ∃ k : Nat, k ≤ 24 ∧ i = .int .i64 k ∧ wr.ownsRow w.heap.size 3 1 v (kept p k).length ((kept p k).map (Value.int .i64)) ∧ Below w.heap.size w wr) (fun _ i _ => (24 - intOf i).toNat)
  case atStart => exact ⟨0, by omega, rfl, World.ownsRow_nil _ _ _ _, Below.refl _ _⟩
  case round =>
    obtain ⟨k, hk, rfl, hown, bw⟩ := hrel
    have zw := bw.size
    by_cases hlt : k < 24
    · have A := Lib.hid (allowed_c bed k hlt wr (HU.out.later bw))
      have kl := kept_len p k
      cases ha : alB bed k
      · have hn : p k = false := by rw [hpk.out, ha]; rfl
        rw [ha] at A
        have HN := Lib.hid hn; clear hn ha
        go_wp2_with (go_at_call 26; (with_reducible refine A.out.mono ?_); rintro e t1 ⟨rfl, y1⟩)
        go_roundw
        case rel => exact ⟨k + 1, by omega, by go_num, by rw [kept_no HN.out]; exact own_later y1 hown, b_step bw y1 zw⟩
        case measure => simp [intOf]; omega
      · rw [ha] at A
        cases hh : hold k
        · have hn : p k = false := by rw [hpk.out, hh, Bool.and_false]
          have C := Lib.hid (fun W hW => K.out k hlt W hW)
          rw [hh] at C
          have HN := Lib.hid hn; clear hn ha hh
          go_wp2_with (first | (go_at_call 26; (with_reducible refine A.out.mono ?_); rintro e t1 ⟨rfl, y1⟩) | (go_at_call 57; (with_reducible refine (C.out _ (b_step bw y1 zw)).mono ?_); rintro e t2 ⟨rfl, y2⟩))
          go_roundw
          case rel => exact ⟨k + 1, by omega, by go_num, by rw [kept_no HN.out]; exact own_later y2 (own_later y1 hown), b_step (b_step bw y1 zw) y2 (by have := y1.size; omega)⟩
          case measure => simp [intOf]; omega
        · have hn : p k = true := by rw [hpk.out, hh, ha]; rfl
          have C := Lib.hid (fun W hW => K.out k hlt W hW)
          rw [hh] at C
          have HN := Lib.hid hn; clear hn ha hh
          go_wp2_with (first | (go_at_call 26; (with_reducible refine A.out.mono ?_); rintro e t1 ⟨rfl, y1⟩) | (go_at_call 57; (with_reducible refine (C.out _ (b_step bw y1 zw)).mono ?_); rintro e t2 ⟨rfl, y2⟩) | (at_builtin; refine wpList_append_own _ rfl _ _ 45 rfl w.heap.size 3 i0 (.int .i64 0) 1 8 Tryd.underlying45 hi hz0 hz1 hz2 rfl (by decide) _ _ _ rfl ((own_later y2 (own_later y1 hown)).alloc _) ⟨t2.heap.size, 0, none⟩ 1 1 [.int .i64 k] rfl rfl ?c1 ?c2 ?c3 ?c4 ?c5 ?_))
          case c1 =>
            intro j u hj
            match j, hj with
            | 0, hj => simp at hj; subst hj; simp [Addr.add]
          case c2 => intro u hu; simp at hu; subst hu; rfl
          case c3 => unfold maxLen; omega
          case c4 => omega
          case c5 => have := y1.size; have := y2.size; simp; omega
          intro v' w3 hown' hgrow _
          have bz : Below w.heap.size w t2 := b_step (b_step bw y1 zw) y2 (by have := y1.size; omega)
          have bg : Below w.heap.size w w3 := (bz.alloc bz.size _).grown hgrow (by have := bz.size; simp; omega) (fun q hq => ((own_later y2 (own_later y1 hown)).lt q hq).1)
          have hr := append_step hown'
          clear hown' hgrow hown
          go_wp2
          go_roundw
          case rel => exact ⟨k + 1, by omega, by go_num, by rw [kept_yes HN.out]; exact hr, bg⟩
          case measure => simp [intOf]; omega
    · obtain rfl : k = 24 := by omega
      go_wp2
      go_ret
      exact ⟨_, rfl, hown, bw⟩


theorem list1_c (n : Int) (w : World) : Calls Tryd.prog 57 #[.int .i64 n] w fun e w' => e = .returned (.bool true) ∧ Below w.heap.size w w' := by
  go_enter Tryd.func57, Tryd.ntmps57
  go_wp2
  go_ret
  exact ⟨rfl, Below.refl _ _⟩

set_option maxHeartbeats 2000000 in
theorem fits1_aux (n : Nat) (bs bz : Nat) (x y z p q r a b c : Int) (w : World)
    (H : ∀ w, Calls Tryd.prog 52 #[.int .i64 n, vV x y z] w fun e w' => e = .returned (vV a b c) ∧ Below w.heap.size w w')
    (c0 : w.cell? ⟨bs, 0, none⟩ = some (.int .i64 x)) (c1 : w.cell? ⟨bs, 1, none⟩ = some (.int .i64 y)) (c2 : w.cell? ⟨bs, 2, none⟩ = some (.int .i64 z))
    (d0 : w.cell? ⟨bz, 0, none⟩ = some (.int .i64 p)) (d1 : w.cell? ⟨bz, 1, none⟩ = some (.int .i64 q)) (d2 : w.cell? ⟨bz, 2, none⟩ = some (.int .i64 r)) :
    Calls Tryd.prog 58 #[.int .i64 n, .pointer (some ⟨bs, 0, none⟩), .pointer (some ⟨bz, 0, none⟩)] w fun e w' => e = .returned (.bool (decide (a = p ∧ b = q ∧ c = r))) ∧ Below w.heap.size w w' := by
  have K := Lib.hid H; clear H
  have l1 := World.block_lt_of_cell? _ _ c0
  have l2 := World.block_lt_of_cell? _ _ d0
  dsimp only at l1 l2
  have he : ∀ w, (binOp .eql 23 (vV a b c) (.agg #[.int .i64 p, .int .i64 q, .int .i64 r])).run Tryd.prog w = .ok (.bool (decide (a = p ∧ b = q ∧ c = r))) w := fun w => eql_V a b c p q r w
  generalize decide (a = p ∧ b = q ∧ c = r) = t at *
  go_enter Tryd.func58, Tryd.ntmps58
  go_wp2_with fail
  have mkS : ∀ w', Sm [bs, bz] w w' → (Sm [bs, bz] w w' ∧ w'.cell? ⟨bs, 0, none⟩ = some (.int .i64 x) ∧ w'.cell? ⟨bs, 1, none⟩ = some (.int .i64 y) ∧ w'.cell? ⟨bs, 2, none⟩ = some (.int .i64 z) ∧ w'.cell? ⟨bz, 0, none⟩ = some (.int .i64 p) ∧ w'.cell? ⟨bz, 1, none⟩ = some (.int .i64 q) ∧ w'.cell? ⟨bz, 2, none⟩ = some (.int .i64 r)) := fun w' h => ⟨h, h.cell (by simp) (by assumption), h.cell (by simp) (by assumption), h.cell (by simp) (by assumption), h.cell (by simp) (by assumption), h.cell (by simp) (by assumption), h.cell (by simp) (by assumption)⟩
  have rfS : Sm [bs, bz] w w := Sm.refl (by simp; try omega)
  go_region_held3 (fun w' => Sm [bs, bz] w w' ∧ w'.cell? ⟨bs, 0, none⟩ = some (.int .i64 x) ∧ w'.cell? ⟨bs, 1, none⟩ = some (.int .i64 y) ∧ w'.cell? ⟨bs, 2, none⟩ = some (.int .i64 z) ∧ w'.cell? ⟨bz, 0, none⟩ = some (.int .i64 p) ∧ w'.cell? ⟨bz, 1, none⟩ = some (.int .i64 q) ∧ w'.cell? ⟨bz, 2, none⟩ = some (.int .i64 r)) ((refine mkS _ ?_; repeat' (first | (with_reducible exact rfS.drew) | (with_reducible exact rfS) | (with_reducible refine Sm.alloc ?_ _) | (with_reducible refine Sm.drew ?_) | (with_reducible refine Sm.below ?_ (by assumption)) | (with_reducible refine Sm.far ?_ _ _ (by simp; try omega)))))
    (first | (go_at_call 52; (with_reducible refine (K.out _).mono ?_); rintro e t1 ⟨rfl, y1⟩))

  all_goals
    go_wp2
    go_ret
    exact ⟨rfl, by (repeat' (first | (with_reducible assumption) | (with_reducible exact Below.refl _ _) | (with_reducible refine Below.alloc ?_ ?_ _) | (with_reducible refine Below.drew ?_) | (with_reducible refine Below.setCell ?_ ?_ _) | (with_reducible refine b_step ?_ (by assumption) ?_) | omega | (simp only [World.size_alloc, World.size_setCell, World.size_drew]; omega)))⟩

theorem fits1_c (n : Nat) (h : n < 24) (bs bz : Nat) (x y z p q r : Int) (h0 : -1000000 ≤ x ∧ x ≤ 1000000) (h1 : -1000000 ≤ y ∧ y ≤ 1000000) (h2 : -1000000 ≤ z ∧ z ≤ 1000000) (w : World)
    (c0 : w.cell? ⟨bs, 0, none⟩ = some (.int .i64 x)) (c1 : w.cell? ⟨bs, 1, none⟩ = some (.int .i64 y)) (c2 : w.cell? ⟨bs, 2, none⟩ = some (.int .i64 z))
    (d0 : w.cell? ⟨bz, 0, none⟩ = some (.int .i64 p)) (d1 : w.cell? ⟨bz, 1, none⟩ = some (.int .i64 q)) (d2 : w.cell? ⟨bz, 2, none⟩ = some (.int .i64 r)) :
    Calls Tryd.prog 58 #[.int .i64 n, .pointer (some ⟨bs, 0, none⟩), .pointer (some ⟨bz, 0, none⟩)] w fun e w' => e = .returned (.bool (decide (ext n 0 x y z = p ∧ ext n 1 x y z = q ∧ ext n 2 x y z = r))) ∧ Below w.heap.size w w' :=
  fits1_aux n bs bz x y z p q r _ _ _ w (fun w => turned_c n h x y z h0 h1 h2 w) c0 c1 c2 d0 d1 d2

set_option maxHeartbeats 4000000 in
theorem list_fits (bed : Int) (hold : Nat → Bool) (bs bz : Nat) (w : World) (hu : Units w)
    (H : ∀ k : Nat, k < 24 → ∀ W, Below w.heap.size w W → Calls Tryd.prog 58 #[.int .i64 k, .pointer (some ⟨bs, 0, none⟩), .pointer (some ⟨bz, 0, none⟩)] W fun e w' => e = .returned (.bool (hold k)) ∧ Below W.heap.size W w') :
    Calls Tryd.prog 56 #[.int .i64 bed, .func (.func 58) #[] #[.pointer (some ⟨bs, 0, none⟩), .pointer (some ⟨bz, 0, none⟩)]] w (RetRow w.heap.size w (kept (fun k => alB bed k && hold k) 24)) := by
  have K := Lib.hid H; clear H
  have HU := Lib.hid hu; clear hu
  obtain ⟨i0, hi, hz0, hz1, hz2⟩ := info_parts infoL3
  obtain ⟨p, hp⟩ : ∃ p, p = fun k => alB bed k && hold k := ⟨_, rfl⟩
  rw [← hp]
  have hpk := Lib.hid (show ∀ k, p k = (alB bed k && hold k) from fun k => by rw [hp])
  clear hp
  go_enter Tryd.func56, Tryd.ntmps56
  go_wp2_with fail
  go_loopw [5, 7] (fun v i wr => ∃ k : Nat, k ≤ 24 ∧ i = .int .i64 k ∧ wr.ownsRow w.heap.size 3 1 v (kept p k).length ((kept p k).map (Value.int .i64)) ∧ Below w.heap.size w wr) (fun _ i _ => (24 - intOf i).toNat)
  case atStart => exact ⟨0, by omega, rfl, World.ownsRow_nil _ _ _ _, Below.refl _ _⟩
  case round =>
    obtain ⟨k, hk, rfl, hown, bw⟩ := hrel
    have zw := bw.size
    by_cases hlt : k < 24
    · have A := Lib.hid (allowed_c bed k hlt wr (HU.out.later bw))
      have kl := kept_len p k
      cases ha : alB bed k
      · have hn : p k = false := by rw [hpk.out, ha]; rfl
        rw [ha] at A
        have HN := Lib.hid hn; clear hn ha
        go_wp2_with (go_at_call 26; (with_reducible refine A.out.mono ?_); rintro e t1 ⟨rfl, y1⟩)
        go_roundw
        case rel => exact ⟨k + 1, by omega, by go_num, by rw [kept_no HN.out]; exact own_later y1 hown, b_step bw y1 zw⟩
        case measure => simp [intOf]; omega
      · rw [ha] at A
        cases hh : hold k
        · have hn : p k = false := by rw [hpk.out, hh, Bool.and_false]
          have C := Lib.hid (fun W hW => K.out k hlt W hW)
          rw [hh] at C
          have HN := Lib.hid hn; clear hn ha hh
          go_wp2_with (first | (go_at_call 26; (with_reducible refine A.out.mono ?_); rintro e t1 ⟨rfl, y1⟩) | (go_at_call 58; (with_reducible refine (C.out _ (b_step bw y1 zw)).mono ?_); rintro e t2 ⟨rfl, y2⟩))
          go_roundw
          case rel => exact ⟨k + 1, by omega, by go_num, by rw [kept_no HN.out]; exact own_later y2 (own_later y1 hown), b_step (b_step bw y1 zw) y2 (by have := y1.size; omega)⟩
          case measure => simp [intOf]; omega
        · have hn : p k = true := by rw [hpk.out, hh, ha]; rfl
          have C := Lib.hid (fun W hW => K.out k hlt W hW)
          rw [hh] at C
          have HN := Lib.hid hn; clear hn ha hh
          go_wp2_with (first | (go_at_call 26; (with_reducible refine A.out.mono ?_); rintro e t1 ⟨rfl, y1⟩) | (go_at_call 58; (with_reducible refine (C.out _ (b_step bw y1 zw)).mono ?_); rintro e t2 ⟨rfl, y2⟩) | (at_builtin; refine wpList_append_own _ rfl _ _ 45 rfl w.heap.size 3 i0 (.int .i64 0) 1 8 Tryd.underlying45 hi hz0 hz1 hz2 rfl (by decide) _ _ _ rfl ((own_later y2 (own_later y1 hown)).alloc _) ⟨t2.heap.size, 0, none⟩ 1 1 [.int .i64 k] rfl rfl ?c1 ?c2 ?c3 ?c4 ?c5 ?_))
          case c1 =>
            intro j u hj
            match j, hj with
            | 0, hj => simp at hj; subst hj; simp [Addr.add]
          case c2 => intro u hu; simp at hu; subst hu; rfl
          case c3 => unfold maxLen; omega
          case c4 => omega
          case c5 => have := y1.size; have := y2.size; simp; omega
          intro v' w3 hown' hgrow _
          have bz : Below w.heap.size w t2 := b_step (b_step bw y1 zw) y2 (by have := y1.size; omega)
          have bg : Below w.heap.size w w3 := (bz.alloc bz.size _).grown hgrow (by have := bz.size; simp; omega) (fun q hq => ((own_later y2 (own_later y1 hown)).lt q hq).1)
          have hr := append_step hown'
          clear hown' hgrow hown
          go_wp2
          go_roundw
          case rel => exact ⟨k + 1, by omega, by go_num, by rw [kept_yes HN.out]; exact hr, bg⟩
          case measure => simp [intOf]; omega
    · obtain rfl : k = 24 := by omega
      go_wp2
      go_ret
      exact ⟨_, rfl, hown, bw⟩

end Go.Proofs.YtibncdefhphggaaDoor
