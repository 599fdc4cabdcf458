/- The contract of the reference's Fits. -/
import Derived.Test.YtibncdefhphggaaDoorB9
import Derived.Deep.LoopGhost
namespace Go.Proofs.YtibncdefhphggaaDoor
open Go.RowKit
set_option linter.unusedSimpArgs false
set_option linter.unusedVariables false
attribute [local go_sem ↓] Go.wp_at_zero Go.wp_at_succ
attribute [local go_sem] undef
set_option maxRecDepth 100000 in
set_option maxHeartbeats 8000000 in
theorem rfits_all (bed x y z p q r : Int) (w : World) :
    Calls Tryd.prog 29 #[.int .i64 bed, vV x y z, vV p q r, .bool true] w (RetRow w.heap.size w (kept (fun k => ralB bed (ap k 2 0 0 1)) 24)) := by
  obtain ⟨i0, hi, hz0, hz1, hz2⟩ := info_parts infoL3
  obtain ⟨f, hp⟩ : ∃ f, f = (fun k => ralB bed (ap k 2 0 0 1)) := ⟨_, rfl⟩
  rw [← hp]
  have hpk := Lib.hid (show ∀ k, f k = (fun k => ralB bed (ap k 2 0 0 1)) k from fun k => by rw [hp])
  clear hp
  go_enter Tryd.func29, Tryd.ntmps29
  go_wp2_with fail
  refine gen_world (F := fun W => W.cell? ⟨w.heap.size, 0, none⟩ = some (.int .i64 x) ∧ W.cell? ⟨w.heap.size, 1, none⟩ = some (.int .i64 y) ∧ W.cell? ⟨w.heap.size, 2, none⟩ = some (.int .i64 z) ∧ W.cell? ⟨w.heap.size + 1, 0, none⟩ = some (.int .i64 p) ∧ W.cell? ⟨w.heap.size + 1, 1, none⟩ = some (.int .i64 q) ∧ W.cell? ⟨w.heap.size + 1, 2, none⟩ = some (.int .i64 r) ∧ W.ownsRow (w.heap.size + 1 + 1) 3 1 (.slice (some ⟨w.heap.size + 1 + 1, 0, none⟩) 0 0) 0 [] ∧ w.heap.size + 1 + 1 < W.heap.size ∧ Below w.heap.size w W) ?_ (fun W1 hW => ?_)
  · refine ⟨by (simp (disch := first | omega | (simp only [World.size_alloc, World.size_setCell, World.size_drew]; done) | (simp only [World.size_alloc, World.size_setCell, World.size_drew]; omega)) only [*, r_set_same, r_set_off, r_set_blk, r_set_f, r_alloc_at, r_alloc_past, r_falloc_at, r_falloc_past, World.cell?_drew, World.frozen?_drew, Option.map_some, List.getElem?_toArray, List.getElem?_cons_zero, List.getElem?_cons_succ]; done), by (simp (disch := first | omega | (simp only [World.size_alloc, World.size_setCell, World.size_drew]; done) | (simp only [World.size_alloc, World.size_setCell, World.size_drew]; omega)) only [*, r_set_same, r_set_off, r_set_blk, r_set_f, r_alloc_at, r_alloc_past, r_falloc_at, r_falloc_past, World.cell?_drew, World.frozen?_drew, Option.map_some, List.getElem?_toArray, List.getElem?_cons_zero, List.getElem?_cons_succ]; done), by (simp (disch := first | omega | (simp only [World.size_alloc, World.size_setCell, World.size_drew]; done) | (simp only [World.size_alloc, World.size_setCell, World.size_drew]; omega)) only [*, r_set_same, r_set_off, r_set_blk, r_set_f, r_alloc_at, r_alloc_past, r_falloc_at, r_falloc_past, World.cell?_drew, World.frozen?_drew, Option.map_some, List.getElem?_toArray, List.getElem?_cons_zero, List.getElem?_cons_succ]; done), by (simp (disch := first | omega | (simp only [World.size_alloc, World.size_setCell, World.size_drew]; done) | (simp only [World.size_alloc, World.size_setCell, World.size_drew]; omega)) only [*, r_set_same, r_set_off, r_set_blk, r_set_f, r_alloc_at, r_alloc_past, r_falloc_at, r_falloc_past, World.cell?_drew, World.frozen?_drew, Option.map_some, List.getElem?_toArray, List.getElem?_cons_zero, List.getElem?_cons_succ]; done), by (simp (disch := first | omega | (simp only [World.size_alloc, World.size_setCell, World.size_drew]; done) | (simp only [World.size_alloc, World.size_setCell, World.size_drew]; omega)) only [*, r_set_same, r_set_off, r_set_blk, r_set_f, r_alloc_at, r_alloc_past, r_falloc_at, r_falloc_past, World.cell?_drew, World.frozen?_drew, Option.map_some, List.getElem?_toArray, List.getElem?_cons_zero, List.getElem?_cons_succ]; done), by (simp (disch := first | omega | (simp only [World.size_alloc, World.size_setCell, World.size_drew]; done) | (simp only [World.size_alloc, World.size_setCell, World.size_drew]; omega)) only [*, r_set_same, r_set_off, r_set_blk, r_set_f, r_alloc_at, r_alloc_past, r_falloc_at, r_falloc_past, World.cell?_drew, World.frozen?_drew, Option.map_some, List.getElem?_toArray, List.getElem?_cons_zero, List.getElem?_cons_succ]; done), ?_, ?_, by (repeat' (first | (with_reducible assumption) | (with_reducible exact Below.refl _ _) | (with_reducible refine Below.alloc ?_ ?_ _) | (with_reducible refine Below.drew ?_) | (with_reducible refine Below.setCell ?_ ?_ _) | (with_reducible refine b_step ?_ (by assumption) ?_) | omega | (simp only [World.size_alloc, World.size_setCell, World.size_drew]; omega)))⟩
    · have := World.ownsRow_lit (base := w.heap.size + 1 + 1) (e := 3) (size := 1) ((w.alloc (.cells #[.int .i64 x, .int .i64 y, .int .i64 z] 23)).alloc (.cells #[.int .i64 p, .int .i64 q, .int .i64 r] 23)) #[] 0 (by simp only [World.size_alloc]; omega) (by decide) rfl
      simp only [World.size_alloc] at this
      exact this
    · simp only [World.size_alloc]; omega
  obtain ⟨x0, x1, x2, x3, x4, x5, ho, zW, bW⟩ := hW
  go_loopg [9, 10] 24 (fun g v i wr => ∃ k : Nat, k ≤ 24 ∧ Hid (g = 24 - k) ∧ i = .int .i64 k ∧ wr.ownsRow (w.heap.size + 1 + 1) 3 1 v (kept f k).length ((kept f k).map (Value.int .i64)) ∧ Below (w.heap.size + 1 + 1) W1 wr)
  case atStart => exact ⟨0, by omega, rfl, rfl, ho, Below.refl _ _⟩
  case round =>
    obtain ⟨k, hk, hg, rfl, hown, bw⟩ := hrel
    obtain ⟨o9, rfl⟩ : ∃ o9, o9 = u9 := ⟨_, rfl⟩
    have zw := bw.size
    have kl := kept_len f k
    have c0 := (bw.cell (p := ⟨w.heap.size, 0, none⟩) (by dsimp only; omega)).trans x0
    have c1 := (bw.cell (p := ⟨w.heap.size, 1, none⟩) (by dsimp only; omega)).trans x1
    have c2 := (bw.cell (p := ⟨w.heap.size, 2, none⟩) (by dsimp only; omega)).trans x2
    have c3 := (bw.cell (p := ⟨w.heap.size + 1, 0, none⟩) (by dsimp only; omega)).trans x3
    have c4 := (bw.cell (p := ⟨w.heap.size + 1, 1, none⟩) (by dsimp only; omega)).trans x4
    have c5 := (bw.cell (p := ⟨w.heap.size + 1, 2, none⟩) (by dsimp only; omega)).trans x5
    by_cases hlt : k < 24
    · have A := Lib.hid (fun w => rallowed_c bed k hlt w)
      cases ha : ralB bed (ap k 2 0 0 1)
      · have hn : f k = false := by rw [hpk.out]; show ralB bed (ap k 2 0 0 1) = false; rw [ha]
        rw [ha] at A
        have HN := Lib.hid hn; clear hn ha
        go_upto_region 5 with fail
        go_cut [28] (fun s wx => s = .bool false ∧ wx.ownsRow (w.heap.size + 1 + 1) 3 1 o9 (kept f k).length ((kept f k).map (Value.int .i64)) ∧ Below (w.heap.size + 1 + 1) W1 wx)
        case first =>
          first | (go_region_with (go_at_call 27; (with_reducible refine (A.out _).mono ?_); rintro e t1 ⟨rfl, y1⟩; have zt1 := y1.size; (try simp only [World.size_alloc, World.size_setCell, World.size_drew] at zt1))) | fail
          all_goals
            go_wp2_with fail
            go_meet
            exact ⟨rfl, own_later y1 hown, by (repeat' (first | (with_reducible assumption) | (with_reducible exact Below.refl _ _) | (with_reducible refine Below.alloc ?_ ?_ _) | (with_reducible refine Below.drew ?_) | (with_reducible refine Below.setCell ?_ ?_ _) | (with_reducible refine b_step ?_ (by assumption) ?_) | omega | (simp only [World.size_alloc, World.size_setCell, World.size_drew]; omega)))⟩
        obtain ⟨rfl, hown, bw⟩ := hcut
        have zc := bw.size
        go_wp2
        go_roundg (24 - (k + 1))
        case measure => rw [hg.out]; omega
        case rel => exact ⟨k + 1, by omega, rfl, by go_num, by rw [kept_no HN.out]; exact hown, bw⟩
      · have hn : f k = true := by rw [hpk.out]; exact ha
        rw [ha] at A
        have HN := Lib.hid hn; clear hn ha
        go_upto_region 5 with fail
        go_cut [28] (fun s wx => s = .bool true ∧ wx.ownsRow (w.heap.size + 1 + 1) 3 1 o9 (kept f k).length ((kept f k).map (Value.int .i64)) ∧ Below (w.heap.size + 1 + 1) W1 wx)
        case first =>
          first | (go_region_with (go_at_call 27; (with_reducible refine (A.out _).mono ?_); rintro e t1 ⟨rfl, y1⟩; have zt1 := y1.size; (try simp only [World.size_alloc, World.size_setCell, World.size_drew] at zt1))) | fail
          all_goals
            go_wp2_with fail
            go_meet
            exact ⟨rfl, own_later y1 hown, by (repeat' (first | (with_reducible assumption) | (with_reducible exact Below.refl _ _) | (with_reducible refine Below.alloc ?_ ?_ _) | (with_reducible refine Below.drew ?_) | (with_reducible refine Below.setCell ?_ ?_ _) | (with_reducible refine b_step ?_ (by assumption) ?_) | omega | (simp only [World.size_alloc, World.size_setCell, World.size_drew]; omega)))⟩
        obtain ⟨rfl, hown, bw⟩ := hcut
        have zc := bw.size
        go_wp2_with (at_builtin; refine wpList_append_own _ rfl _ _ 45 rfl (w.heap.size + 1 + 1) 3 i0 (.int .i64 0) 1 8 Tryd.underlying45 hi hz0 hz1 hz2 rfl (by decide) _ _ _ rfl (hown.alloc _) ⟨wc.heap.size, 0, none⟩ 1 1 [.int .i64 k] rfl rfl ?c1 ?c2 ?c3 ?c4 ?c5 ?_)
        case c1 =>
          intro j u hj
          match j, hj with
          | 0, hj => simp at hj; subst hj; simp [Addr.add]
        case c2 => intro u hu; simp at hu; subst hu; rfl
        case c3 => unfold maxLen; omega
        case c4 => omega
        case c5 => simp; omega
        intro v' w3 hown' hgrow _
        have bg : Below (w.heap.size + 1 + 1) W1 w3 := (bw.alloc (by omega) _).grown hgrow (by simp; omega) (fun q hq => (hown.lt q hq).1)
        have hr := append_step hown'
        clear hown' hgrow hown
        go_wp2
        go_roundg (24 - (k + 1))
        case measure => rw [hg.out]; omega
        case rel => exact ⟨k + 1, by omega, rfl, by go_num, by rw [kept_yes HN.out]; exact hr, bg⟩
    · obtain rfl : k = 24 := by omega
      go_wp2
      go_ret
      exact ⟨_, rfl, own_mono hown (by omega), bW.trans (bw.mono (by omega))⟩

set_option maxRecDepth 100000 in
set_option maxHeartbeats 8000000 in
theorem rfits_some (bed x y z p q r : Int) (g : Nat → Nat → Int) (hs : ∀ k : Nat, k < 24 → ∀ w, Calls Tryd.prog 21 #[.int .i64 k, vV x y z] w fun e w' => e = .returned (vV (g k 0) (g k 1) (g k 2)) ∧ Below w.heap.size w w') (w : World) :
    Calls Tryd.prog 29 #[.int .i64 bed, vV x y z, vV p q r, .bool false] w (RetRow w.heap.size w (kept (fun k => ralB bed (ap k 2 0 0 1) && decide (g k 0 = p ∧ g k 1 = q ∧ g k 2 = r)) 24)) := by
  obtain ⟨i0, hi, hz0, hz1, hz2⟩ := info_parts infoL3
  obtain ⟨f, hp⟩ : ∃ f, f = (fun k => ralB bed (ap k 2 0 0 1) && decide (g k 0 = p ∧ g k 1 = q ∧ g k 2 = r)) := ⟨_, rfl⟩
  rw [← hp]
  have hpk := Lib.hid (show ∀ k, f k = (fun k => ralB bed (ap k 2 0 0 1) && decide (g k 0 = p ∧ g k 1 = q ∧ g k 2 = r)) k from fun k => by rw [hp])
  clear hp
  have HZ := Lib.hid hs; clear hs
  go_enter Tryd.func29, Tryd.ntmps29
  go_wp2_with fail
  refine gen_world (F := fun W => W.cell? ⟨w.heap.size, 0, none⟩ = some (.int .i64 x) ∧ W.cell? ⟨w.heap.size, 1, none⟩ = some (.int .i64 y) ∧ W.cell? ⟨w.heap.size, 2, none⟩ = some (.int .i64 z) ∧ W.cell? ⟨w.heap.size + 1, 0, none⟩ = some (.int .i64 p) ∧ W.cell? ⟨w.heap.size + 1, 1, none⟩ = some (.int .i64 q) ∧ W.cell? ⟨w.heap.size + 1, 2, none⟩ = some (.int .i64 r) ∧ W.ownsRow (w.heap.size + 1 + 1) 3 1 (.slice (some ⟨w.heap.size + 1 + 1, 0, none⟩) 0 0) 0 [] ∧ w.heap.size + 1 + 1 < W.heap.size ∧ Below w.heap.size w W) ?_ (fun W1 hW => ?_)
  · refine ⟨by (simp (disch := first | omega | (simp only [World.size_alloc, World.size_setCell, World.size_drew]; done) | (simp only [World.size_alloc, World.size_setCell, World.size_drew]; omega)) only [*, r_set_same, r_set_off, r_set_blk, r_set_f, r_alloc_at, r_alloc_past, r_falloc_at, r_falloc_past, World.cell?_drew, World.frozen?_drew, Option.map_some, List.getElem?_toArray, List.getElem?_cons_zero, List.getElem?_cons_succ]; done), by (simp (disch := first | omega | (simp only [World.size_alloc, World.size_setCell, World.size_drew]; done) | (simp only [World.size_alloc, World.size_setCell, World.size_drew]; omega)) only [*, r_set_same, r_set_off, r_set_blk, r_set_f, r_alloc_at, r_alloc_past, r_falloc_at, r_falloc_past, World.cell?_drew, World.frozen?_drew, Option.map_some, List.getElem?_toArray, List.getElem?_cons_zero, List.getElem?_cons_succ]; done), by (simp (disch := first | omega | (simp only [World.size_alloc, World.size_setCell, World.size_drew]; done) | (simp only [World.size_alloc, World.size_setCell, World.size_drew]; omega)) only [*, r_set_same, r_set_off, r_set_blk, r_set_f, r_alloc_at, r_alloc_past, r_falloc_at, r_falloc_past, World.cell?_drew, World.frozen?_drew, Option.map_some, List.getElem?_toArray, List.getElem?_cons_zero, List.getElem?_cons_succ]; done), by (simp (disch := first | omega | (simp only [World.size_alloc, World.size_setCell, World.size_drew]; done) | (simp only [World.size_alloc, World.size_setCell, World.size_drew]; omega)) only [*, r_set_same, r_set_off, r_set_blk, r_set_f, r_alloc_at, r_alloc_past, r_falloc_at, r_falloc_past, World.cell?_drew, World.frozen?_drew, Option.map_some, List.getElem?_toArray, List.getElem?_cons_zero, List.getElem?_cons_succ]; done), by (simp (disch := first | omega | (simp only [World.size_alloc, World.size_setCell, World.size_drew]; done) | (simp only [World.size_alloc, World.size_setCell, World.size_drew]; omega)) only [*, r_set_same, r_set_off, r_set_blk, r_set_f, r_alloc_at, r_alloc_past, r_falloc_at, r_falloc_past, World.cell?_drew, World.frozen?_drew, Option.map_some, List.getElem?_toArray, List.getElem?_cons_zero, List.getElem?_cons_succ]; done), by (simp (disch := first | omega | (simp only [World.size_alloc, World.size_setCell, World.size_drew]; done) | (simp only [World.size_alloc, World.size_setCell, World.size_drew]; omega)) only [*, r_set_same, r_set_off, r_set_blk, r_set_f, r_alloc_at, r_alloc_past, r_falloc_at, r_falloc_past, World.cell?_drew, World.frozen?_drew, Option.map_some, List.getElem?_toArray, List.getElem?_cons_zero, List.getElem?_cons_succ]; done), ?_, ?_, by (repeat' (first | (with_reducible assumption) | (with_reducible exact Below.refl _ _) | (with_reducible refine Below.alloc ?_ ?_ _) | (with_reducible refine Below.drew ?_) | (with_reducible refine Below.setCell ?_ ?_ _) | (with_reducible refine b_step ?_ (by assumption) ?_) | omega | (simp only [World.size_alloc, World.size_setCell, World.size_drew]; omega)))⟩
    · have := World.ownsRow_lit (base := w.heap.size + 1 + 1) (e := 3) (size := 1) ((w.alloc (.cells #[.int .i64 x, .int .i64 y, .int .i64 z] 23)).alloc (.cells #[.int .i64 p, .int .i64 q, .int .i64 r] 23)) #[] 0 (by simp only [World.size_alloc]; omega) (by decide) rfl
      simp only [World.size_alloc] at this
      exact this
    · simp only [World.size_alloc]; omega
  obtain ⟨x0, x1, x2, x3, x4, x5, ho, zW, bW⟩ := hW
  go_loopg [9, 10] 24 (fun g v i wr => ∃ k : Nat, k ≤ 24 ∧ Hid (g = 24 - k) ∧ i = .int .i64 k ∧ wr.ownsRow (w.heap.size + 1 + 1) 3 1 v (kept f k).length ((kept f k).map (Value.int .i64)) ∧ Below (w.heap.size + 1 + 1) W1 wr)
  case atStart => exact ⟨0, by omega, rfl, rfl, ho, Below.refl _ _⟩
  case round =>
    obtain ⟨k, hk, hg, rfl, hown, bw⟩ := hrel
    obtain ⟨o9, rfl⟩ : ∃ o9, o9 = u9 := ⟨_, rfl⟩
    have zw := bw.size
    have kl := kept_len f k
    have c0 := (bw.cell (p := ⟨w.heap.size, 0, none⟩) (by dsimp only; omega)).trans x0
    have c1 := (bw.cell (p := ⟨w.heap.size, 1, none⟩) (by dsimp only; omega)).trans x1
    have c2 := (bw.cell (p := ⟨w.heap.size, 2, none⟩) (by dsimp only; omega)).trans x2
    have c3 := (bw.cell (p := ⟨w.heap.size + 1, 0, none⟩) (by dsimp only; omega)).trans x3
    have c4 := (bw.cell (p := ⟨w.heap.size + 1, 1, none⟩) (by dsimp only; omega)).trans x4
    have c5 := (bw.cell (p := ⟨w.heap.size + 1, 2, none⟩) (by dsimp only; omega)).trans x5
    by_cases hlt : k < 24
    · have A := Lib.hid (fun w => rallowed_c bed k hlt w)
      cases ha : ralB bed (ap k 2 0 0 1)
      · have hn : f k = false := by rw [hpk.out]; show (ralB bed (ap k 2 0 0 1) && _) = false; rw [ha]; rfl
        rw [ha] at A
        have HN := Lib.hid hn; clear hn ha
        go_upto_region 5 with fail
        go_cut [28] (fun s wx => s = .bool false ∧ wx.ownsRow (w.heap.size + 1 + 1) 3 1 o9 (kept f k).length ((kept f k).map (Value.int .i64)) ∧ Below (w.heap.size + 1 + 1) W1 wx)
        case first =>
          first | (go_region_with (go_at_call 27; (with_reducible refine (A.out _).mono ?_); rintro e t1 ⟨rfl, y1⟩; have zt1 := y1.size; (try simp only [World.size_alloc, World.size_setCell, World.size_drew] at zt1))) | fail
          all_goals
            go_wp2_with fail
            go_meet
            exact ⟨rfl, own_later y1 hown, by (repeat' (first | (with_reducible assumption) | (with_reducible exact Below.refl _ _) | (with_reducible refine Below.alloc ?_ ?_ _) | (with_reducible refine Below.drew ?_) | (with_reducible refine Below.setCell ?_ ?_ _) | (with_reducible refine b_step ?_ (by assumption) ?_) | omega | (simp only [World.size_alloc, World.size_setCell, World.size_drew]; omega)))⟩
        obtain ⟨rfl, hown, bw⟩ := hcut
        have zc := bw.size
        go_wp2
        go_roundg (24 - (k + 1))
        case measure => rw [hg.out]; omega
        case rel => exact ⟨k + 1, by omega, rfl, by go_num, by rw [kept_no HN.out]; exact hown, bw⟩
      · rw [ha] at A
        have Z := Lib.hid (fun w => HZ.out k hlt w)
        by_cases hh : g k 0 = p ∧ g k 1 = q ∧ g k 2 = r
        · have he : ∀ w, (binOp .eql 23 (vV (g k 0) (g k 1) (g k 2)) (.agg #[.int .i64 p, .int .i64 q, .int .i64 r])).run Tryd.prog w = .ok (.bool true) w := fun w => by rw [eql_V, decide_eq_true hh]
          have hn : f k = true := by rw [hpk.out]; show (ralB bed (ap k 2 0 0 1) && decide _) = true; rw [ha, decide_eq_true hh]; rfl
          have HN := Lib.hid hn; clear hn ha hh
          go_upto_region 5 with fail
          go_cut [28] (fun s wx => s = .bool true ∧ wx.ownsRow (w.heap.size + 1 + 1) 3 1 o9 (kept f k).length ((kept f k).map (Value.int .i64)) ∧ Below (w.heap.size + 1 + 1) W1 wx)
          case first =>
            have mkS : ∀ w', Sm [w.heap.size, w.heap.size + 1] wr w' → (Sm [w.heap.size, w.heap.size + 1] wr w' ∧ w'.cell? ⟨w.heap.size, 0, none⟩ = some (.int .i64 x) ∧ w'.cell? ⟨w.heap.size, 1, none⟩ = some (.int .i64 y) ∧ w'.cell? ⟨w.heap.size, 2, none⟩ = some (.int .i64 z) ∧ w'.cell? ⟨w.heap.size + 1, 0, none⟩ = some (.int .i64 p) ∧ w'.cell? ⟨w.heap.size + 1, 1, none⟩ = some (.int .i64 q) ∧ w'.cell? ⟨w.heap.size + 1, 2, none⟩ = some (.int .i64 r)) := fun w' h => ⟨h, h.cell (by simp) (by assumption), h.cell (by simp) (by assumption), h.cell (by simp) (by assumption), h.cell (by simp) (by assumption), h.cell (by simp) (by assumption), h.cell (by simp) (by assumption)⟩
            have rfS : Sm [w.heap.size, w.heap.size + 1] wr wr := Sm.refl (by simp; try omega)
            go_region_held3 (fun w' => Sm [w.heap.size, w.heap.size + 1] wr w' ∧ w'.cell? ⟨w.heap.size, 0, none⟩ = some (.int .i64 x) ∧ w'.cell? ⟨w.heap.size, 1, none⟩ = some (.int .i64 y) ∧ w'.cell? ⟨w.heap.size, 2, none⟩ = some (.int .i64 z) ∧ w'.cell? ⟨w.heap.size + 1, 0, none⟩ = some (.int .i64 p) ∧ w'.cell? ⟨w.heap.size + 1, 1, none⟩ = some (.int .i64 q) ∧ w'.cell? ⟨w.heap.size + 1, 2, none⟩ = some (.int .i64 r)) ((refine mkS _ ?_; repeat' (first | (with_reducible exact rfS.drew) | (with_reducible exact rfS) | (with_reducible refine Sm.alloc ?_ _) | (with_reducible refine Sm.drew ?_) | (with_reducible refine Sm.below ?_ (by assumption)) | (with_reducible refine Sm.far ?_ _ _ (by simp; try omega)))))
              (first | (go_at_call 27; (with_reducible refine (A.out _).mono ?_); rintro e t1 ⟨rfl, y1⟩; have zt1 := y1.size; (try simp only [World.size_alloc, World.size_setCell, World.size_drew] at zt1)) | (go_at_call 21; (with_reducible refine (Z.out _).mono ?_); rintro e t2 ⟨rfl, y2⟩; have zt2 := y2.size; (try simp only [World.size_alloc, World.size_setCell, World.size_drew] at zt2)))
            all_goals
              go_wp2_with fail
              go_meet
              exact ⟨rfl, own_later y2 (own_later y1 hown), by (repeat' (first | (with_reducible assumption) | (with_reducible exact Below.refl _ _) | (with_reducible refine Below.alloc ?_ ?_ _) | (with_reducible refine Below.drew ?_) | (with_reducible refine Below.setCell ?_ ?_ _) | (with_reducible refine b_step ?_ (by assumption) ?_) | omega | (simp only [World.size_alloc, World.size_setCell, World.size_drew]; omega)))⟩
          obtain ⟨rfl, hown, bw⟩ := hcut
          have zc := bw.size
          go_wp2_with (at_builtin; refine wpList_append_own _ rfl _ _ 45 rfl (w.heap.size + 1 + 1) 3 i0 (.int .i64 0) 1 8 Tryd.underlying45 hi hz0 hz1 hz2 rfl (by decide) _ _ _ rfl (hown.alloc _) ⟨wc.heap.size, 0, none⟩ 1 1 [.int .i64 k] rfl rfl ?c1 ?c2 ?c3 ?c4 ?c5 ?_)
          case c1 =>
            intro j u hj
            match j, hj with
            | 0, hj => simp at hj; subst hj; simp [Addr.add]
          case c2 => intro u hu; simp at hu; subst hu; rfl
          case c3 => unfold maxLen; omega
          case c4 => omega
          case c5 => simp; omega
          intro v' w3 hown' hgrow _
          have bg : Below (w.heap.size + 1 + 1) W1 w3 := (bw.alloc (by omega) _).grown hgrow (by simp; omega) (fun q hq => (hown.lt q hq).1)
          have hr := append_step hown'
          clear hown' hgrow hown
          go_wp2
          go_roundg (24 - (k + 1))
          case measure => rw [hg.out]; omega
          case rel => exact ⟨k + 1, by omega, rfl, by go_num, by rw [kept_yes HN.out]; exact hr, bg⟩
        · have he : ∀ w, (binOp .eql 23 (vV (g k 0) (g k 1) (g k 2)) (.agg #[.int .i64 p, .int .i64 q, .int .i64 r])).run Tryd.prog w = .ok (.bool false) w := fun w => by rw [eql_V, decide_eq_false hh]
          have hn : f k = false := by rw [hpk.out]; show (ralB bed (ap k 2 0 0 1) && decide _) = false; rw [ha, decide_eq_false hh]; rfl
          have HN := Lib.hid hn; clear hn ha hh
          go_upto_region 5 with fail
          go_cut [28] (fun s wx => s = .bool false ∧ wx.ownsRow (w.heap.size + 1 + 1) 3 1 o9 (kept f k).length ((kept f k).map (Value.int .i64)) ∧ Below (w.heap.size + 1 + 1) W1 wx)
          case first =>
            have mkS : ∀ w', Sm [w.heap.size, w.heap.size + 1] wr w' → (Sm [w.heap.size, w.heap.size + 1] wr w' ∧ w'.cell? ⟨w.heap.size, 0, none⟩ = some (.int .i64 x) ∧ w'.cell? ⟨w.heap.size, 1, none⟩ = some (.int .i64 y) ∧ w'.cell? ⟨w.heap.size, 2, none⟩ = some (.int .i64 z) ∧ w'.cell? ⟨w.heap.size + 1, 0, none⟩ = some (.int .i64 p) ∧ w'.cell? ⟨w.heap.size + 1, 1, none⟩ = some (.int .i64 q) ∧ w'.cell? ⟨w.heap.size + 1, 2, none⟩ = some (.int .i64 r)) := fun w' h => ⟨h, h.cell (by simp) (by assumption), h.cell (by simp) (by assumption), h.cell (by simp) (by assumption), h.cell (by simp) (by assumption), h.cell (by simp) (by assumption), h.cell (by simp) (by assumption)⟩
            have rfS : Sm [w.heap.size, w.heap.size + 1] wr wr := Sm.refl (by simp; try omega)
            go_region_held3 (fun w' => Sm [w.heap.size, w.heap.size + 1] wr w' ∧ w'.cell? ⟨w.heap.size, 0, none⟩ = some (.int .i64 x) ∧ w'.cell? ⟨w.heap.size, 1, none⟩ = some (.int .i64 y) ∧ w'.cell? ⟨w.heap.size, 2, none⟩ = some (.int .i64 z) ∧ w'.cell? ⟨w.heap.size + 1, 0, none⟩ = some (.int .i64 p) ∧ w'.cell? ⟨w.heap.size + 1, 1, none⟩ = some (.int .i64 q) ∧ w'.cell? ⟨w.heap.size + 1, 2, none⟩ = some (.int .i64 r)) ((refine mkS _ ?_; repeat' (first | (with_reducible exact rfS.drew) | (with_reducible exact rfS) | (with_reducible refine Sm.alloc ?_ _) | (with_reducible refine Sm.drew ?_) | (with_reducible refine Sm.below ?_ (by assumption)) | (with_reducible refine Sm.far ?_ _ _ (by simp; try omega)))))
              (first | (go_at_call 27; (with_reducible refine (A.out _).mono ?_); rintro e t1 ⟨rfl, y1⟩; have zt1 := y1.size; (try simp only [World.size_alloc, World.size_setCell, World.size_drew] at zt1)) | (go_at_call 21; (with_reducible refine (Z.out _).mono ?_); rintro e t2 ⟨rfl, y2⟩; have zt2 := y2.size; (try simp only [World.size_alloc, World.size_setCell, World.size_drew] at zt2)))
            all_goals
              go_wp2_with fail
              go_meet
              exact ⟨rfl, own_later y2 (own_later y1 hown), by (repeat' (first | (with_reducible assumption) | (with_reducible exact Below.refl _ _) | (with_reducible refine Below.alloc ?_ ?_ _) | (with_reducible refine Below.drew ?_) | (with_reducible refine Below.setCell ?_ ?_ _) | (with_reducible refine b_step ?_ (by assumption) ?_) | omega | (simp only [World.size_alloc, World.size_setCell, World.size_drew]; omega)))⟩
          obtain ⟨rfl, hown, bw⟩ := hcut
          have zc := bw.size
          go_wp2
          go_roundg (24 - (k + 1))
          case measure => rw [hg.out]; omega
          case rel => exact ⟨k + 1, by omega, rfl, by go_num, by rw [kept_no HN.out]; exact hown, bw⟩
    · obtain rfl : k = 24 := by omega
      go_wp2
      go_ret
      exact ⟨_, rfl, own_mono hown (by omega), bW.trans (bw.mono (by omega))⟩

end Go.Proofs.YtibncdefhphggaaDoor
