/- Texts of these proofs put together: TnB, TnC, KlA, KlB, KlD, KlC, KlE, RmA, RmT, RmL, LawKeptLabels, RowKeptLabels. No condition. -/
import Derived.Test.YtfbbnbpobojboaaD1RowKeptLabels
import Derived.Test.YtfbbnbpobojboaaM1
set_option linter.unusedVariables false
set_option linter.unusedSimpArgs false
/- Walks: the extents of labels. -/
namespace Go.Proofs.Ytfbbnbpobojboaa
open Go.RowKit
set_option linter.unusedVariables false
set_option maxRecDepth 100000

set_option maxHeartbeats 6400000 in
theorem extentsOf_c (ts : List Ten) (ls : List Lst) (tv lv : Value) (w : World) (l1 l2 : Nat) (h1 : Tens w l1 tv ts) (h2 : Lsts w l2 lv ls) :
  Calls Try.prog 97 #[tv, lv] w (PIntsB w (extL (extA ts ls)) (extA ts ls).isSome) := by
 obtain ⟨p0, c0, rfl⟩ := h1.form
 obtain ⟨p1, c1, rfl⟩ := h2.form
 have hlt1 := h1.len
 have hlt2 := h2.len
 go_enter Try.func97, Try.ntmps97
 by_cases hc1 : (ts.length : Int) < (1 : Int)
 ·
  go_wp2_with fail
  go_ret2
  rw [extA_none (ts := ts) (ls := ls) (.inl (by unfold tensB inB; simp; omega))]
  exact PIntsB.no qXt
 ·
  by_cases hc2 : (3 : Int) < (ts.length : Int)
  ·
   go_wp2_with fail
   go_ret2
   rw [extA_none (ts := ts) (ls := ls) (.inl (by unfold tensB inB; simp; omega))]
   exact PIntsB.no qXt
  ·
   by_cases hc3 : (ls.length : Int) = (ts.length : Int)
   ·
    have hc3e : ((ls.length : Int) == (ts.length : Int)) = true := by simpa using hc3
    have hc3n : ((ls.length : Int) != (ts.length : Int)) = false := by simpa using hc3
    replace hc3 := Lib.hid hc3
    have BL5 : Ext w w := Ext.refl _
    obtain ⟨i0mk6, himk6, hz0mk6, hz1mk6, hz2mk6⟩ := info_parts infoInt
    go_wp2_with (at_make; refine wpList_make_full _ rfl _ _ 22 rfl w.heap.size 3 i0mk6 (.int .i64 0) 1 Try.underlying22 himk6 hz0mk6 hz1mk6 .i64 .i64 _ _ 5 rfl rfl rfl rfl (by rw [hz2mk6]; omega) (by unfold maxLen; omega) (Nat.le_refl _) ?_)
    intro w1 hown7 hgr7
    have xw1 : Ext w w1 := (Ext.refl w).grown hgr7 (by simp)
    rw [made_ints] at hown7
    clear hgr7
    have O7 : OwnI w1 w.heap.size (.slice (some ⟨w.heap.size, 0, none⟩) 5 5) (List.replicate 5 0) := by unfold OwnI; simpa using hown7
    clear hown7 himk6 hz0mk6 hz1mk6 hz2mk6
    have Lw1 : Ext w w1 := Ext.trans qXt xw1
    have Xw1 : Ext w w1 := Lw1
    have s_w1 : w.heap.size ≤ w1.heap.size := Xw1.size
    have BL5_w1 : Ext w w1 := BL5.trans Lw1
    clear xw1
    skip
    go_wp2_with fail
    go_loopw [30] (fun i wr => ∃ (j : Nat), j ≤ 5 ∧ i = .int .i64 j ∧ OwnI wr (w.heap.size) (.slice (some ⟨w.heap.size, 0, none⟩) 5 5) (negL j) ∧ Chg w.heap.size (w.heap.size + 1) w1 wr ∧ Ext w wr) (fun i _ => 5 - (intOf i).toNat)
    case atStart => exact ⟨0, by omega, rfl, (show OwnI _ _ _ (negL 0) from (O7.ext qXt)), Chg.refl _ _ _, BL5_w1⟩
    case round =>
     generalize wr = wa at hrel ⊢
     obtain ⟨j, hj, rfl, O7n, Kr8, Er9⟩ := hrel
     have Xwa : Ext w wa := Er9
     have s_wa : w.heap.size ≤ wa.heap.size := Xwa.size
     have t_wa : w1.heap.size ≤ wa.heap.size := Kr8.size
     clear O7
     have O7 := O7n
     clear O7n
     have GL_wa := (own_lt O7 rfl).2
     by_cases hjl : j < 5
     ·
      have hjI : (j : Int) < (5 : Int) := by omega
      have hnl : 5 ≤ (negL j).length := by rw [negL_len hj]; omega
      have A10 := O7.cell j (by omega)
      obtain ⟨A10a, A10b⟩ := A10
      go_wp2_with fail
      generalize hW1 : (wa.setCell ⟨w.heap.size, j, none⟩ (.int .i64 (-1))) = w2 at *
      have Kw2 : Chg (w.heap.size) (w.heap.size + 1) wa w2 := by subst hW1; exact qCh
      have Xw2 : Ext w w2 := by subst hW1; exact qXt
      have BL5_w2 : Ext w w2 := by subst hW1; exact qXt
      have Kr8_w2 : Chg w.heap.size (w.heap.size + 1) w1 w2 := Chg.trans Kr8 Kw2
      have n_O7 := O7.set j (-1) (by first | omega | (simp; omega) | (rw [putUp_len]; simp; omega) | (rw [addUp_len]; omega))
      rw [hW1] at n_O7
      replace O7 := n_O7
      clear n_O7
      clear Kw2
      have s_w2 : w.heap.size ≤ w2.heap.size := Xw2.size
      clear hW1
      clear A10a A10b
      go_roundw
      case rel => exact ⟨j + 1, by omega, by go_num, (by rw [show negL (j+1) = (negL j).set j (-1) from (negL_set hjl).symm]; exact O7.ext qXt), Kr8_w2.ext qXt, BL5_w2.trans qXt⟩
      case measure => simp [intOf]; omega
     ·
      obtain rfl : j = 5 := by omega
      have hjI : ¬ (5 : Int) < (5 : Int) := by omega
      rw [show negL 5 = List.replicate 5 (-1) from rfl] at O7
      go_wp2_with fail
      go_loopw [39] (fun v wr => ∃ (i : Nat) (e : List Int), i ≤ ts.length ∧ v = .int .i64 i ∧ Hid (extT ts ls i = some e) ∧ Hid (tnB ts i = true) ∧ OwnI wr (w.heap.size) (.slice (some ⟨w.heap.size, 0, none⟩) 5 5) e ∧ Chg w.heap.size (w.heap.size + 1) wa wr ∧ Ext w wr) (fun v _ => ts.length - (intOf v).toNat)
      case atStart => exact ⟨0, List.replicate 5 (-1), Nat.zero_le _, rfl, Lib.hid rfl, Lib.hid rfl, (show OwnI _ _ _ (List.replicate 5 (-1)) from (O7.ext qXt)), Chg.refl _ _ _, Er9⟩
      case round =>
       generalize wr = wb at hrel ⊢
       obtain ⟨i, e, hi, rfl, het, htn, O7n, Kr11, Er12⟩ := hrel
       have Xwb : Ext w wb := Er12
       have s_wb : w.heap.size ≤ wb.heap.size := Xwb.size
       have t_wb : wa.heap.size ≤ wb.heap.size := Kr11.size
       clear O7
       have O7 := O7n
       clear O7n
       have GL_wb := (own_lt O7 rfl).2
       have Kr8_wb := Chg.trans Kr8 Kr11
       have he5 : 5 ≤ e.length := by rw [extT_len het.out]; omega
       have he6 : e.length ≤ 5 := by rw [extT_len het.out]; omega
       by_cases hil : i < ts.length
       ·
        have hiI : (i : Int) < ts.length := by omega
        have hil2 : i < ls.length := by have h7 := hc3.out; omega
        have hN_x13 : i < ts.length := hil
        have hI_x13 : (i : Int) < (ts.length : Int) := by omega
        obtain ⟨bl15, ol16, u17, c19, u18, c20, rfl, x130, x131, i21, i22⟩ := h1.at i hN_x13
        obtain ⟨X14, hX14⟩ : ∃ x, tenAt ts i = x := ⟨_, rfl⟩
        rw [hX14] at x130 x131 i21 i22
        obtain ⟨S23, T24⟩ := X14
        dsimp only at x130 x131 i21 i22
        replace hX14 := Lib.hid hX14
        have hLS23 := i21.len
        have hLT24 := i22.len
        have y_x13 : bl15 < w.heap.size := qB x130
        replace x130 := Xwb.cell x130
        replace x131 := Xwb.cell x131
        have z_x13 : bl15 < wb.heap.size := qB x130
        go_wp2_with fail
        generalize hW2 : wb.alloc (.cells #[.slice u17 S23.length c19, .slice u18 T24.length c20] 109) = w2 at *
        have Lw2 : Ext wb w2 := by subst hW2; exact qXt
        have Xw2 : Ext w w2 := Xwb.trans Lw2
        replace x130 := Lw2.cell x130
        replace x131 := Lw2.cell x131
        have b250 : w2.cell? ⟨wb.heap.size, 0, none⟩ = some (.slice u17 S23.length c19) := by subst hW2; exact qCl
        have b251 : w2.cell? ⟨wb.heap.size, 1, none⟩ = some (.slice u18 T24.length c20) := by subst hW2; exact qCl
        have z_x13 : bl15 < w2.heap.size := qB x130
        have z_b25 : wb.heap.size < w2.heap.size := qB b250
        replace O7 := O7.ext Lw2
        have s_w2 : w.heap.size ≤ w2.heap.size := Xw2.size
        have BL5_w2 : Ext w w2 := Er12.trans Lw2
        have Kr8_w2 : Chg w.heap.size (w.heap.size + 1) w1 w2 := Chg.ext Kr8_wb Lw2
        have Kr11_w2 : Chg w.heap.size (w.heap.size + 1) wa w2 := Chg.ext Kr11 Lw2
        clear hW2
        have hN_x26 : i < ls.length := hil2
        have hI_x26 : (i : Int) < (ls.length : Int) := by omega
        obtain ⟨bl28, ol29, u30, c31, rfl, x260, i32⟩ := h2.at i hN_x26
        obtain ⟨X27, hX27⟩ : ∃ x, lstAt ls i = x := ⟨_, rfl⟩
        rw [hX27] at x260 i32
        obtain ⟨S33⟩ := X27
        dsimp only at x260 i32
        replace hX27 := Lib.hid hX27
        have hLS33 := i32.len
        have y_x26 : bl28 < w.heap.size := qB x260
        replace x260 := Xw2.cell x260
        have z_x26 : bl28 < w2.heap.size := qB x260
        go_wp2_with fail
        refine wp_region_tail (S := fun w' => w'.cell? ⟨bl15, ol16 + i * 2, none⟩ = some (.slice u17 S23.length c19) ∧ w'.cell? ⟨bl15, ol16 + i * 2 + 1, none⟩ = some (.slice u18 T24.length c20) ∧ w'.cell? ⟨wb.heap.size, 0, none⟩ = some (.slice u17 S23.length c19) ∧ w'.cell? ⟨wb.heap.size, 1, none⟩ = some (.slice u18 T24.length c20) ∧ w'.cell? ⟨bl28, ol29 + i, none⟩ = some (.slice u30 S33.length c31)) (fun i => decide (22 ≤ i)) qKr ⟨x130, x131, b250, b251, x260⟩ (fun hHeld => ?_)
        refine qTk (v := ?_) 0 rfl (.inl ⟨by rfl, ?_⟩) ?_
        rotate_left
        ·
         (intro w hSw; (try dsimp only at hSw); go_simp; try with_reducible rfl)
        try simp only [Act.put, qa, qb, qc, qD, qE, qF]
        refine wpTail_one (i := 1) qKr rfl rfl (fun K hK => ?_)
        try simp only [Act.put, qa, qb, qc, qD, qE, qF]
        go_simp
        refine (isTensor_c (.slice u17 S23.length c19) (.slice u18 T24.length c20) S23 T24 _ _ _ (i21.ext (Xw2.trans qXt)) (i22.ext (Xw2.trans qXt))).mono ?_
        rintro e w3 ⟨rfl, xw3⟩
        have Lw3 : Ext w2 w3 := Ext.trans qXt xw3
        have Xw3 : Ext w w3 := Xw2.trans Lw3
        replace x130 := Lw3.cell x130
        replace x131 := Lw3.cell x131
        replace b250 := Lw3.cell b250
        replace b251 := Lw3.cell b251
        replace x260 := Lw3.cell x260
        have z_x13 : bl15 < w3.heap.size := qB x130
        have z_b25 : wb.heap.size < w3.heap.size := qB b250
        have z_x26 : bl28 < w3.heap.size := qB x260
        replace O7 := O7.ext Lw3
        have s_w3 : w.heap.size ≤ w3.heap.size := Xw3.size
        have BL5_w3 : Ext w w3 := BL5_w2.trans Lw3
        have Kr8_w3 : Chg w.heap.size (w.heap.size + 1) w1 w3 := Chg.ext Kr8_w2 Lw3
        have Kr11_w3 : Chg w.heap.size (w.heap.size + 1) wa w3 := Chg.ext Kr11_w2 Lw3
        clear xw3
        cases hB34 : tenB S23 T24
        ·
         replace hB34 := Lib.hid hB34
         refine hK.out _ _ ⟨x130, x131, b250, b251, x260⟩ (fun hHeld => ?_)
         clear hK K
         try simp only [Act.put, qa, qb, qc, qD, qE, qF]
         refine qTk (v := ?_) 2 rfl (.inl ⟨by rfl, ?_⟩) ?_
         rotate_left
         ·
          (intro w hSw; (try dsimp only at hSw); go_simp; try with_reducible rfl)
         try simp only [Act.put, qa, qb, qc, qD, qE, qF]
         refine qTk (v := ?_) 3 rfl (.inl ⟨by rfl, ?_⟩) ?_
         rotate_left
         ·
          (intro w hSw; (try dsimp only at hSw); go_simp; try with_reducible rfl)
         try simp only [Act.put, qa, qb, qc, qD, qE, qF]
         refine qTs 4 rfl (.inr ⟨by rfl, rfl⟩) ?_
         try simp only [Act.put, qa, qb, qc, qD, qE, qF]
         refine qTs 5 rfl (.inr ⟨by rfl, rfl⟩) ?_
         try simp only [Act.put, qa, qb, qc, qD, qE, qF]
         refine qTs 6 rfl (.inr ⟨by rfl, rfl⟩) ?_
         try simp only [Act.put, qa, qb, qc, qD, qE, qF]
         refine qTs 7 rfl (.inr ⟨by rfl, rfl⟩) ?_
         try simp only [Act.put, qa, qb, qc, qD, qE, qF]
         refine qTs 8 rfl (.inr ⟨by rfl, rfl⟩) ?_
         try simp only [Act.put, qa, qb, qc, qD, qE, qF]
         refine qTs 9 rfl (.inr ⟨by rfl, rfl⟩) ?_
         try simp only [Act.put, qa, qb, qc, qD, qE, qF]
         refine qTs 10 rfl (.inr ⟨by rfl, rfl⟩) ?_
         try simp only [Act.put, qa, qb, qc, qD, qE, qF]
         refine qTs 11 rfl (.inr ⟨by rfl, rfl⟩) ?_
         try simp only [Act.put, qa, qb, qc, qD, qE, qF]
         refine qTs 12 rfl (.inr ⟨by rfl, rfl⟩) ?_
         try simp only [Act.put, qa, qb, qc, qD, qE, qF]
         refine qTk (v := ?_) 13 rfl (.inl ⟨by rfl, ?_⟩) ?_
         rotate_left
         ·
          (intro w hSw; (try dsimp only at hSw); go_simp; try with_reducible rfl)
         try simp only [Act.put, qa, qb, qc, qD, qE, qF]
         refine qTk (v := ?_) 14 rfl (.inl ⟨by rfl, ?_⟩) ?_
         rotate_left
         ·
          (intro w hSw; (try dsimp only at hSw); go_simp; try with_reducible rfl)
         try simp only [Act.put, qa, qb, qc, qD, qE, qF]
         refine qTs 15 rfl (.inr ⟨by rfl, rfl⟩) ?_
         try simp only [Act.put, qa, qb, qc, qD, qE, qF]
         refine qTs 16 rfl (.inr ⟨by rfl, rfl⟩) ?_
         try simp only [Act.put, qa, qb, qc, qD, qE, qF]
         refine qTs 17 rfl (.inr ⟨by rfl, rfl⟩) ?_
         try simp only [Act.put, qa, qb, qc, qD, qE, qF]
         refine qTs 18 rfl (.inr ⟨by rfl, rfl⟩) ?_
         try simp only [Act.put, qa, qb, qc, qD, qE, qF]
         refine qTs 19 rfl (.inr ⟨by rfl, rfl⟩) ?_
         try simp only [Act.put, qa, qb, qc, qD, qE, qF]
         refine qTs 20 rfl (.inr ⟨by rfl, rfl⟩) ?_
         try simp only [Act.put, qa, qb, qc, qD, qE, qF]
         refine qTk (v := ?_) 21 rfl (.inl ⟨by rfl, ?_⟩) ?_
         rotate_left
         ·
          (intro w hSw; (try dsimp only at hSw); go_simp; try with_reducible rfl)
         try simp only [Act.put, qa, qb, qc, qD, qE, qF]
         refine wpTail_done qKr ?_ _
         clear hHeld 
         go_wp2_with fail
         go_ret2
         rw [extA_none (ts := ts) (ls := ls) (.inl (by unfold tensB; rw [tnB_no hil (by rw [hX14.out]; exact hB34.out)]; rfl))]
         exact PIntsB.no (Xw3.trans qXt)
        ·
         replace hB34 := Lib.hid hB34
         refine hK.out _ _ ⟨x130, x131, b250, b251, x260⟩ (fun hHeld => ?_)
         clear hK K
         try simp only [Act.put, qa, qb, qc, qD, qE, qF]
         refine qTk (v := ?_) 2 rfl (.inl ⟨by rfl, ?_⟩) ?_
         rotate_left
         ·
          (intro w hSw; (try dsimp only at hSw); go_simp; try with_reducible rfl)
         try simp only [Act.put, qa, qb, qc, qD, qE, qF]
         refine qTk (v := ?_) 3 rfl (.inl ⟨by rfl, ?_⟩) ?_
         rotate_left
         ·
          (intro w hSw; (try dsimp only at hSw); go_simp; try with_reducible rfl)
         try simp only [Act.put, qa, qb, qc, qD, qE, qF]
         refine qTk (v := ?_) 4 rfl (.inl ⟨by rfl, ?_⟩) ?_
         rotate_left
         ·
          (intro w hSw; (try dsimp only at hSw); go_simp; try with_reducible rfl)
         try simp only [Act.put, qa, qb, qc, qD, qE, qF]
         refine qTk (v := ?_) 5 rfl (.inl ⟨by rfl, ?_⟩) ?_
         rotate_left
         ·
          (intro w hSw; (try dsimp only at hSw); go_simp; try with_reducible rfl)
         try simp only [Act.put, qa, qb, qc, qD, qE, qF]
         refine qTk (v := ?_) 6 rfl (.inl ⟨by rfl, ?_⟩) ?_
         rotate_left
         ·
          (intro w hSw; (try dsimp only at hSw); go_simp; try with_reducible rfl)
         try simp only [Act.put, qa, qb, qc, qD, qE, qF]
         refine qTk (v := ?_) 7 rfl (.inl ⟨by rfl, ?_⟩) ?_
         rotate_left
         ·
          (intro w hSw; (try dsimp only at hSw); go_simp; try with_reducible rfl)
         try simp only [Act.put, qa, qb, qc, qD, qE, qF]
         refine qTk (v := ?_) 8 rfl (.inl ⟨by rfl, ?_⟩) ?_
         rotate_left
         ·
          (intro w hSw; (try dsimp only at hSw); go_simp; try with_reducible rfl)
         try simp only [Act.put, qa, qb, qc, qD, qE, qF]
         refine qTk (v := ?_) 9 rfl (.inl ⟨by rfl, ?_⟩) ?_
         rotate_left
         ·
          (intro w hSw; (try dsimp only at hSw); go_simp; try with_reducible rfl)
         try simp only [Act.put, qa, qb, qc, qD, qE, qF]
         refine qTk (v := ?_) 10 rfl (.inl ⟨by rfl, ?_⟩) ?_
         rotate_left
         ·
          (intro w hSw; (try dsimp only at hSw); go_simp; try with_reducible rfl)
         try simp only [Act.put, qa, qb, qc, qD, qE, qF]
         refine qTk (v := ?_) 11 rfl (.inl ⟨by rfl, ?_⟩) ?_
         rotate_left
         ·
          (intro w hSw; (try dsimp only at hSw); go_simp; try with_reducible rfl)
         try simp only [Act.put, qa, qb, qc, qD, qE, qF]
         by_cases hc35 : (S33.length : Int) = (S23.length : Int)
         ·
          have hc35e : ((S33.length : Int) == (S23.length : Int)) = true := by simpa using hc35
          have hc35n : ((S33.length : Int) != (S23.length : Int)) = false := by simpa using hc35
          replace hc35 := Lib.hid hc35
          refine qTk (v := ?_) 12 rfl (.inl ⟨by rfl, ?_⟩) ?_
          rotate_left
          ·
           (intro w hSw; (try dsimp only at hSw); go_simp; try with_reducible rfl)
          try simp only [Act.put, qa, qb, qc, qD, qE, qF]
          refine qTk (v := ?_) 13 rfl (.inl ⟨by rfl, ?_⟩) ?_
          rotate_left
          ·
           (intro w hSw; (try dsimp only at hSw); go_simp; try with_reducible rfl)
          try simp only [Act.put, qa, qb, qc, qD, qE, qF]
          refine qTk (v := ?_) 14 rfl (.inl ⟨by rfl, ?_⟩) ?_
          rotate_left
          ·
           (intro w hSw; (try dsimp only at hSw); go_simp; try with_reducible rfl)
          try simp only [Act.put, qa, qb, qc, qD, qE, qF]
          refine qTk (v := ?_) 15 rfl (.inl ⟨by rfl, ?_⟩) ?_
          rotate_left
          ·
           (intro w hSw; (try dsimp only at hSw); go_simp; try with_reducible rfl)
          try simp only [Act.put, qa, qb, qc, qD, qE, qF]
          refine qTk (v := ?_) 16 rfl (.inl ⟨by rfl, ?_⟩) ?_
          rotate_left
          ·
           (intro w hSw; (try dsimp only at hSw); go_simp; try with_reducible rfl)
          try simp only [Act.put, qa, qb, qc, qD, qE, qF]
          refine qTk (v := ?_) 17 rfl (.inl ⟨by rfl, ?_⟩) ?_
          rotate_left
          ·
           (intro w hSw; (try dsimp only at hSw); go_simp; try with_reducible rfl)
          try simp only [Act.put, qa, qb, qc, qD, qE, qF]
          refine qTk (v := ?_) 18 rfl (.inl ⟨by rfl, ?_⟩) ?_
          rotate_left
          ·
           (intro w hSw; (try dsimp only at hSw); go_simp; try with_reducible rfl)
          try simp only [Act.put, qa, qb, qc, qD, qE, qF]
          refine wpTail_one (i := 19) qKr rfl rfl (fun K hK => ?_)
          try simp only [Act.put, qa, qb, qc, qD, qE, qF]
          go_simp
          refine (areLabels_c S33 (.slice u30 S33.length c31) _ _ (i32.ext (Xw3.trans qXt))).mono ?_
          rintro e w4 ⟨rfl, xw4⟩
          have Lw4 : Ext w3 w4 := Ext.trans qXt xw4
          have Xw4 : Ext w w4 := Xw3.trans Lw4
          replace x130 := Lw4.cell x130
          replace x131 := Lw4.cell x131
          replace b250 := Lw4.cell b250
          replace b251 := Lw4.cell b251
          replace x260 := Lw4.cell x260
          have z_x13 : bl15 < w4.heap.size := qB x130
          have z_b25 : wb.heap.size < w4.heap.size := qB b250
          have z_x26 : bl28 < w4.heap.size := qB x260
          replace O7 := O7.ext Lw4
          have s_w4 : w.heap.size ≤ w4.heap.size := Xw4.size
          have BL5_w4 : Ext w w4 := BL5_w3.trans Lw4
          have Kr8_w4 : Chg w.heap.size (w.heap.size + 1) w1 w4 := Chg.ext Kr8_w3 Lw4
          have Kr11_w4 : Chg w.heap.size (w.heap.size + 1) wa w4 := Chg.ext Kr11_w3 Lw4
          clear xw4
          cases hB36 : labB S33
          ·
           replace hB36 := Lib.hid hB36
           refine hK.out _ _ ⟨x130, x131, b250, b251, x260⟩ (fun hHeld => ?_)
           clear hK K
           try simp only [Act.put, qa, qb, qc, qD, qE, qF]
           refine qTk (v := ?_) 20 rfl (.inl ⟨by rfl, ?_⟩) ?_
           rotate_left
           ·
            (intro w hSw; (try dsimp only at hSw); go_simp; try with_reducible rfl)
           try simp only [Act.put, qa, qb, qc, qD, qE, qF]
           refine qTk (v := ?_) 21 rfl (.inl ⟨by rfl, ?_⟩) ?_
           rotate_left
           ·
            (intro w hSw; (try dsimp only at hSw); go_simp; try with_reducible rfl)
           try simp only [Act.put, qa, qb, qc, qD, qE, qF]
           refine wpTail_done qKr ?_ _
           clear hHeld 
           go_wp2_with fail
           go_ret2
           rw [extA_none (ts := ts) (ls := ls) (.inr (extT_row hil (by rw [hX14.out, hX27.out]; unfold rowOk; rw [hB36.out, Bool.and_false])))]
           exact PIntsB.no (Xw4.trans qXt)
          ·
           replace hB36 := Lib.hid hB36
           refine hK.out _ _ ⟨x130, x131, b250, b251, x260⟩ (fun hHeld => ?_)
           clear hK K
           try simp only [Act.put, qa, qb, qc, qD, qE, qF]
           refine qTk (v := ?_) 20 rfl (.inl ⟨by rfl, ?_⟩) ?_
           rotate_left
           ·
            (intro w hSw; (try dsimp only at hSw); go_simp; try with_reducible rfl)
           try simp only [Act.put, qa, qb, qc, qD, qE, qF]
           refine qTk (v := ?_) 21 rfl (.inl ⟨by rfl, ?_⟩) ?_
           rotate_left
           ·
            (intro w hSw; (try dsimp only at hSw); go_simp; try with_reducible rfl)
           try simp only [Act.put, qa, qb, qc, qD, qE, qF]
           refine wpTail_done qKr ?_ _
           clear hHeld 
           have hro : Hid (rowOk S23 S33 = true) := Lib.hid (by unfold rowOk; rw [decide_eq_true (show (S33.length : Int) = (S23.length : Int) from hc35.out), hB36.out]; rfl)
           have hLS : S33.length ≤ S23.length := by have h7 := hc35.out; omega
           go_wp2_with fail
           go_loopw [71] (fun v wr => ∃ (d : Nat) (x : List Int), d ≤ S33.length ∧ v = .int .i64 d ∧ Hid (extIn e S23 S33 d = some x) ∧ OwnI wr (w.heap.size) (.slice (some ⟨w.heap.size, 0, none⟩) 5 5) x ∧ Chg w.heap.size (w.heap.size + 1) w4 wr ∧ Ext w wr) (fun v _ => S33.length - (intOf v).toNat)
           case atStart => exact ⟨0, e, Nat.zero_le _, rfl, Lib.hid rfl, (show OwnI _ _ _ e from (O7.ext qXt)), Chg.refl _ _ _, BL5_w4⟩
           case round =>
            generalize wr = wc at hrel ⊢
            obtain ⟨d, x, hd, rfl, hxt, O7n, Kr37, Er38⟩ := hrel
            have Xwc : Ext w wc := Er38
            have s_wc : w.heap.size ≤ wc.heap.size := Xwc.size
            have t_wc : w4.heap.size ≤ wc.heap.size := Kr37.size
            replace x130 := Kr37.cell (by omega) x130
            replace x131 := Kr37.cell (by omega) x131
            replace b250 := Kr37.cell (by omega) b250
            replace b251 := Kr37.cell (by omega) b251
            replace x260 := Kr37.cell (by omega) x260
            have z_x13 : bl15 < wc.heap.size := qB x130
            have z_b25 : wb.heap.size < wc.heap.size := qB b250
            have z_x26 : bl28 < wc.heap.size := qB x260
            clear O7
            have O7 := O7n
            clear O7n
            have GL_wc := (own_lt O7 rfl).2
            have Kr8_wc := Chg.trans Kr8_w4 Kr37
            have Kr11_wc := Chg.trans Kr11_w4 Kr37
            have hx5 : 5 ≤ x.length := by rw [extIn_len hxt.out]; omega
            have hx6 : x.length ≤ 5 := by rw [extIn_len hxt.out]; omega
            by_cases hdl : d < S33.length
            ·
             have hdI : (d : Int) < (S33.length : Int) := by omega
             have hdS : d < S23.length := by omega
             have hN_e41 : d < S33.length := hdl
             have hI_e41 : (d : Int) < (S33.length : Int) := by omega
             obtain ⟨bl39, ol40, rfl, e410⟩ := i32.at d hdl
             have y_e41 : bl39 < w.heap.size := qB e410
             replace e410 := Xwc.cell e410
             obtain ⟨v42, hv42⟩ : ∃ v, S33.getD d 0 = v := ⟨_, rfl⟩
             rw [hv42] at e410
             replace hv42 := Lib.hid hv42
             have z_e41 : bl39 < wc.heap.size := qB e410
             obtain ⟨q7, hq4, rfl⟩ := lab_at hB36.out hdl hv42.out
             have hq7 := hv42
             have hw7 : IntKind.i64.wrap (q7 : Int) = (q7 : Int) := IntWalk.i64_in _ (by omega)
             have hq5 : (q7 : Int) < 5 := by omega
             go_wp2_with fail
             have hN_e45 : q7 < x.length := (by omega)
             have hI_e45 : (q7 : Int) < (x.length : Int) := by omega
             obtain ⟨b_e45, o_e45, h_e45, e450⟩ := (O7.ints (by first | omega | (simp; omega) | (unfold putL; rw [putUp_len]; simp; omega) | (rw [putUp_len]; simp; omega))).at q7 (by omega)
             cases h_e45
             rw [Nat.zero_add] at e450
             obtain ⟨v46, hv46⟩ : ∃ v, x.getD q7 0 = v := ⟨_, rfl⟩
             rw [hv46] at e450
             replace hv46 := Lib.hid hv46
             have y_e45 : w.heap.size < wc.heap.size := qB e450
             have z_e45 := y_e45
             refine wp_region_tail (S := fun w' => w'.cell? ⟨bl15, ol16 + i * 2, none⟩ = some (.slice u17 S23.length c19) ∧ w'.cell? ⟨bl15, ol16 + i * 2 + 1, none⟩ = some (.slice u18 T24.length c20) ∧ w'.cell? ⟨wb.heap.size, 0, none⟩ = some (.slice u17 S23.length c19) ∧ w'.cell? ⟨wb.heap.size, 1, none⟩ = some (.slice u18 T24.length c20) ∧ w'.cell? ⟨bl28, ol29 + i, none⟩ = some (.slice (some ⟨bl39, ol40, none⟩) S33.length c31) ∧ w'.cell? ⟨bl39, ol40 + d, none⟩ = some (.int .i64 (q7 : Int)) ∧ w'.cell? ⟨w.heap.size, q7, none⟩ = some (.int .i64 v46)) (fun i => decide (17 ≤ i)) qKr ⟨x130, x131, b250, b251, x260, e410, e450⟩ (fun hHeld => ?_)
             refine qTk (v := ?_) 0 rfl (.inl ⟨by rfl, ?_⟩) ?_
             rotate_left
             ·
              (intro w hSw; (try dsimp only at hSw); go_simp; try with_reducible rfl)
             try simp only [Act.put, qa, qb, qc, qD, qE, qF]
             refine qTk (v := ?_) 1 rfl (.inl ⟨by rfl, ?_⟩) ?_
             rotate_left
             ·
              (intro w hSw; (try dsimp only at hSw); go_simp; try with_reducible rfl)
             try simp only [Act.put, qa, qb, qc, qD, qE, qF]
             refine qTk (v := ?_) 2 rfl (.inl ⟨by rfl, ?_⟩) ?_
             rotate_left
             ·
              (intro w hSw; (try dsimp only at hSw); go_simp; try with_reducible rfl)
             try simp only [Act.put, qa, qb, qc, qD, qE, qF]
             refine qTk (v := ?_) 3 rfl (.inl ⟨by rfl, ?_⟩) ?_
             rotate_left
             ·
              (intro w hSw; (try dsimp only at hSw); go_simp; try with_reducible rfl)
             try simp only [Act.put, qa, qb, qc, qD, qE, qF]
             by_cases hc50 : (0 : Int) ≤ (v46 : Int)
             ·
              refine qTk (v := ?_) 4 rfl (.inl ⟨by rfl, ?_⟩) ?_
              rotate_left
              ·
               (intro w hSw; (try dsimp only at hSw); go_simp; try with_reducible rfl)
              try simp only [Act.put, qa, qb, qc, qD, qE, qF]
              refine qTk (v := ?_) 5 rfl (.inl ⟨by rfl, ?_⟩) ?_
              rotate_left
              ·
               (intro w hSw; (try dsimp only at hSw); go_simp; try with_reducible rfl)
              try simp only [Act.put, qa, qb, qc, qD, qE, qF]
              refine qTk (v := ?_) 6 rfl (.inl ⟨by rfl, ?_⟩) ?_
              rotate_left
              ·
               (intro w hSw; (try dsimp only at hSw); go_simp; try with_reducible rfl)
              try simp only [Act.put, qa, qb, qc, qD, qE, qF]
              refine qTk (v := ?_) 7 rfl (.inl ⟨by rfl, ?_⟩) ?_
              rotate_left
              ·
               (intro w hSw; (try dsimp only at hSw); go_simp; try with_reducible rfl)
              try simp only [Act.put, qa, qb, qc, qD, qE, qF]
              refine qTk (v := ?_) 8 rfl (.inl ⟨by rfl, ?_⟩) ?_
              rotate_left
              ·
               (intro w hSw; (try dsimp only at hSw); go_simp; try with_reducible rfl)
              try simp only [Act.put, qa, qb, qc, qD, qE, qF]
              refine qTk (v := ?_) 9 rfl (.inl ⟨by rfl, ?_⟩) ?_
              rotate_left
              ·
               (intro w hSw; (try dsimp only at hSw); go_simp; try with_reducible rfl)
              try simp only [Act.put, qa, qb, qc, qD, qE, qF]
              refine qTk (v := ?_) 10 rfl (.inl ⟨by rfl, ?_⟩) ?_
              rotate_left
              ·
               (intro w hSw; (try dsimp only at hSw); go_simp; try with_reducible rfl)
              try simp only [Act.put, qa, qb, qc, qD, qE, qF]
              refine qTk (v := ?_) 11 rfl (.inl ⟨by rfl, ?_⟩) ?_
              rotate_left
              ·
               (intro w hSw; (try dsimp only at hSw); go_simp; try with_reducible rfl)
              try simp only [Act.put, qa, qb, qc, qD, qE, qF]
              refine qTk (v := ?_) 12 rfl (.inl ⟨by rfl, ?_⟩) ?_
              rotate_left
              ·
               (intro w hSw; (try dsimp only at hSw); go_simp; try with_reducible rfl)
              try simp only [Act.put, qa, qb, qc, qD, qE, qF]
              have hN_e56 : d < S23.length := hdS
              have hI_e56 : (d : Int) < (S23.length : Int) := by omega
              obtain ⟨bl54, ol55, rfl, e560⟩ := i21.at d hdS
              have y_e56 : bl54 < w.heap.size := qB e560
              replace e560 := Xwc.cell e560
              obtain ⟨v57, hv57⟩ : ∃ v, S23.getD d 0 = v := ⟨_, rfl⟩
              rw [hv57] at e560
              replace hv57 := Lib.hid hv57
              have z_e56 : bl54 < wc.heap.size := qB e560
              refine qTk (v := ?_) 13 rfl (.inl ⟨by rfl, ?_⟩) ?_
              rotate_left
              ·
               (intro w hSw; (try dsimp only at hSw); go_simp; try with_reducible rfl)
              try simp only [Act.put, qa, qb, qc, qD, qE, qF]
              refine wpTail_one (i := 14) qKr rfl rfl (fun K hK => ?_)
              try simp only [Act.put, qa, qb, qc, qD, qE, qF]
              go_simp
              refine hK.out _ _ ⟨x130, x131, b250, b251, x260, e410, e450⟩ (fun hHeld => ?_)
              clear hK K
              try simp only [Act.put, qa, qb, qc, qD, qE, qF]
              by_cases hc58 : (v46 : Int) = (v57 : Int)
              ·
               have hc58e : ((v46 : Int) == (v57 : Int)) = true := by simpa using hc58
               have hc58n : ((v46 : Int) != (v57 : Int)) = false := by simpa using hc58
               replace hc58 := Lib.hid hc58
               refine qTk (v := ?_) 15 rfl (.inl ⟨by rfl, ?_⟩) ?_
               rotate_left
               ·
                (intro w hSw; (try dsimp only at hSw); go_simp; try with_reducible rfl)
               try simp only [Act.put, qa, qb, qc, qD, qE, qF]
               refine qTk (v := ?_) 16 rfl (.inl ⟨by rfl, ?_⟩) ?_
               rotate_left
               ·
                (intro w hSw; (try dsimp only at hSw); go_simp; try with_reducible rfl)
               try simp only [Act.put, qa, qb, qc, qD, qE, qF]
               refine wpTail_done qKr ?_ _
               clear hHeld 
               have A62 := O7.cell q7 (by omega)
               obtain ⟨A62a, A62b⟩ := A62
               go_wp2_with fail
               clear e410 z_e41
               clear e450 z_e45
               clear e560 z_e56
               generalize hW3 : (wc.setCell ⟨w.heap.size, q7, none⟩ (.int .i64 v57)) = w5 at *
               have Kw5 : Chg (w.heap.size) (w.heap.size + 1) wc w5 := by subst hW3; exact qCh
               have Xw5 : Ext w w5 := by subst hW3; exact qXt
               have BL5_w5 : Ext w w5 := by subst hW3; exact qXt
               have Kr8_w5 : Chg w.heap.size (w.heap.size + 1) w1 w5 := Chg.trans Kr8_wc Kw5
               have Kr11_w5 : Chg w.heap.size (w.heap.size + 1) wa w5 := Chg.trans Kr11_wc Kw5
               have Kr37_w5 : Chg w.heap.size (w.heap.size + 1) w4 w5 := Chg.trans Kr37 Kw5
               replace x130 := Kw5.cell (by omega) x130
               replace x131 := Kw5.cell (by omega) x131
               replace b250 := Kw5.cell (by omega) b250
               replace b251 := Kw5.cell (by omega) b251
               replace x260 := Kw5.cell (by omega) x260
               have n_O7 := O7.set q7 (v57) (by first | omega | (simp; omega) | (rw [putUp_len]; simp; omega) | (rw [addUp_len]; omega))
               rw [hW3] at n_O7
               replace O7 := n_O7
               clear n_O7
               clear Kw5
               have z_x13 : bl15 < w5.heap.size := qB x130
               have z_b25 : wb.heap.size < w5.heap.size := qB b250
               have z_x26 : bl28 < w5.heap.size := qB x260
               have s_w5 : w.heap.size ≤ w5.heap.size := Xw5.size
               clear hW3
               clear A62a A62b
               go_roundw
               case rel => exact ⟨d + 1, x.set q7 v57, by omega, by go_num, Lib.hid (ext_go hxt.out hq7.out hv46.out hv57.out (fun h7 => h7.2 hc58.out)), O7.ext qXt, Kr37_w5.ext qXt, BL5_w5.trans qXt⟩
               case measure => simp [intOf]; omega
              ·
               have hc58e : ((v46 : Int) == (v57 : Int)) = false := by simpa using hc58
               have hc58n : ((v46 : Int) != (v57 : Int)) = true := by simpa using hc58
               replace hc58 := Lib.hid hc58
               refine qTk (v := ?_) 15 rfl (.inl ⟨by rfl, ?_⟩) ?_
               rotate_left
               ·
                (intro w hSw; (try dsimp only at hSw); go_simp; try with_reducible rfl)
               try simp only [Act.put, qa, qb, qc, qD, qE, qF]
               refine qTk (v := ?_) 16 rfl (.inl ⟨by rfl, ?_⟩) ?_
               rotate_left
               ·
                (intro w hSw; (try dsimp only at hSw); go_simp; try with_reducible rfl)
               try simp only [Act.put, qa, qb, qc, qD, qE, qF]
               refine wpTail_done qKr ?_ _
               clear hHeld 
               go_wp2_with fail
               go_ret2
               rw [extA_none (ts := ts) (ls := ls) (.inr (extT_bad hil het.out (by rw [hX14.out, hX27.out]; exact ext_stop hdl hxt.out hq7.out hv46.out hv57.out ⟨hc50, hc58.out⟩)))]
               exact PIntsB.no (Xwc.trans qXt)
             ·
              refine qTk (v := ?_) 4 rfl (.inl ⟨by rfl, ?_⟩) ?_
              rotate_left
              ·
               (intro w hSw; (try dsimp only at hSw); go_simp; try with_reducible rfl)
              try simp only [Act.put, qa, qb, qc, qD, qE, qF]
              refine qTk (v := ?_) 5 rfl (.inl ⟨by rfl, ?_⟩) ?_
              rotate_left
              ·
               (intro w hSw; (try dsimp only at hSw); go_simp; try with_reducible rfl)
              try simp only [Act.put, qa, qb, qc, qD, qE, qF]
              refine qTs 6 rfl (.inr ⟨by rfl, rfl⟩) ?_
              try simp only [Act.put, qa, qb, qc, qD, qE, qF]
              refine qTs 7 rfl (.inr ⟨by rfl, rfl⟩) ?_
              try simp only [Act.put, qa, qb, qc, qD, qE, qF]
              refine qTs 8 rfl (.inr ⟨by rfl, rfl⟩) ?_
              try simp only [Act.put, qa, qb, qc, qD, qE, qF]
              refine qTs 9 rfl (.inr ⟨by rfl, rfl⟩) ?_
              try simp only [Act.put, qa, qb, qc, qD, qE, qF]
              refine qTs 10 rfl (.inr ⟨by rfl, rfl⟩) ?_
              try simp only [Act.put, qa, qb, qc, qD, qE, qF]
              refine qTs 11 rfl (.inr ⟨by rfl, rfl⟩) ?_
              try simp only [Act.put, qa, qb, qc, qD, qE, qF]
              refine qTs 12 rfl (.inr ⟨by rfl, rfl⟩) ?_
              try simp only [Act.put, qa, qb, qc, qD, qE, qF]
              refine qTs 13 rfl (.inr ⟨by rfl, rfl⟩) ?_
              try simp only [Act.put, qa, qb, qc, qD, qE, qF]
              refine qTs 14 rfl (.inr ⟨by rfl, rfl⟩) ?_
              try simp only [Act.put, qa, qb, qc, qD, qE, qF]
              refine qTs 15 rfl (.inr ⟨by rfl, rfl⟩) ?_
              try simp only [Act.put, qa, qb, qc, qD, qE, qF]
              refine qTk (v := ?_) 16 rfl (.inl ⟨by rfl, ?_⟩) ?_
              rotate_left
              ·
               (intro w hSw; (try dsimp only at hSw); go_simp; try with_reducible rfl)
              try simp only [Act.put, qa, qb, qc, qD, qE, qF]
              refine wpTail_done qKr ?_ _
              clear hHeld 
              have hN_e65 : d < S23.length := hdS
              have hI_e65 : (d : Int) < (S23.length : Int) := by omega
              obtain ⟨bl63, ol64, rfl, e650⟩ := i21.at d hdS
              have y_e65 : bl63 < w.heap.size := qB e650
              replace e650 := Xwc.cell e650
              obtain ⟨v66, hv66⟩ : ∃ v, S23.getD d 0 = v := ⟨_, rfl⟩
              rw [hv66] at e650
              replace hv66 := Lib.hid hv66
              have z_e65 : bl63 < wc.heap.size := qB e650
              have A67 := O7.cell q7 (by omega)
              obtain ⟨A67a, A67b⟩ := A67
              go_wp2_with fail
              clear e410 z_e41
              clear e450 z_e45
              clear e650 z_e65
              generalize hW4 : (wc.setCell ⟨w.heap.size, q7, none⟩ (.int .i64 v66)) = w5 at *
              have Kw5 : Chg (w.heap.size) (w.heap.size + 1) wc w5 := by subst hW4; exact qCh
              have Xw5 : Ext w w5 := by subst hW4; exact qXt
              have BL5_w5 : Ext w w5 := by subst hW4; exact qXt
              have Kr8_w5 : Chg w.heap.size (w.heap.size + 1) w1 w5 := Chg.trans Kr8_wc Kw5
              have Kr11_w5 : Chg w.heap.size (w.heap.size + 1) wa w5 := Chg.trans Kr11_wc Kw5
              have Kr37_w5 : Chg w.heap.size (w.heap.size + 1) w4 w5 := Chg.trans Kr37 Kw5
              replace x130 := Kw5.cell (by omega) x130
              replace x131 := Kw5.cell (by omega) x131
              replace b250 := Kw5.cell (by omega) b250
              replace b251 := Kw5.cell (by omega) b251
              replace x260 := Kw5.cell (by omega) x260
              have n_O7 := O7.set q7 (v66) (by first | omega | (simp; omega) | (rw [putUp_len]; simp; omega) | (rw [addUp_len]; omega))
              rw [hW4] at n_O7
              replace O7 := n_O7
              clear n_O7
              clear Kw5
              have z_x13 : bl15 < w5.heap.size := qB x130
              have z_b25 : wb.heap.size < w5.heap.size := qB b250
              have z_x26 : bl28 < w5.heap.size := qB x260
              have s_w5 : w.heap.size ≤ w5.heap.size := Xw5.size
              clear hW4
              clear A67a A67b
              go_roundw
              case rel => exact ⟨d + 1, x.set q7 v66, by omega, by go_num, Lib.hid (ext_go hxt.out hq7.out hv46.out hv66.out (fun h7 => hc50 h7.1)), O7.ext qXt, Kr37_w5.ext qXt, BL5_w5.trans qXt⟩
              case measure => simp [intOf]; omega
            ·
             have hdN : d = S33.length := by omega
             subst hdN
             have hdI : ¬ (S33.length : Int) < (S33.length : Int) := by omega
             go_wp2_with fail
             go_roundw
             case rel => exact ⟨i + 1, x, by omega, by go_num, Lib.hid (extT_some het.out (by rw [hX14.out, hX27.out]; exact hro.out) (by rw [hX14.out, hX27.out]; exact hxt.out)), Lib.hid (by rw [tnB_succ, htn.out, Bool.true_and, hX14.out]; exact hB34.out), O7.ext qXt, Kr11_wc.ext qXt, Er38.trans qXt⟩
             case measure => simp [intOf]; omega
         ·
          have hc35e : ((S33.length : Int) == (S23.length : Int)) = false := by simpa using hc35
          have hc35n : ((S33.length : Int) != (S23.length : Int)) = true := by simpa using hc35
          replace hc35 := Lib.hid hc35
          refine qTk (v := ?_) 12 rfl (.inl ⟨by rfl, ?_⟩) ?_
          rotate_left
          ·
           (intro w hSw; (try dsimp only at hSw); go_simp; try with_reducible rfl)
          try simp only [Act.put, qa, qb, qc, qD, qE, qF]
          refine qTk (v := ?_) 13 rfl (.inl ⟨by rfl, ?_⟩) ?_
          rotate_left
          ·
           (intro w hSw; (try dsimp only at hSw); go_simp; try with_reducible rfl)
          try simp only [Act.put, qa, qb, qc, qD, qE, qF]
          refine qTk (v := ?_) 14 rfl (.inl ⟨by rfl, ?_⟩) ?_
          rotate_left
          ·
           (intro w hSw; (try dsimp only at hSw); go_simp; try with_reducible rfl)
          try simp only [Act.put, qa, qb, qc, qD, qE, qF]
          refine qTs 15 rfl (.inr ⟨by rfl, rfl⟩) ?_
          try simp only [Act.put, qa, qb, qc, qD, qE, qF]
          refine qTs 16 rfl (.inr ⟨by rfl, rfl⟩) ?_
          try simp only [Act.put, qa, qb, qc, qD, qE, qF]
          refine qTs 17 rfl (.inr ⟨by rfl, rfl⟩) ?_
          try simp only [Act.put, qa, qb, qc, qD, qE, qF]
          refine qTs 18 rfl (.inr ⟨by rfl, rfl⟩) ?_
          try simp only [Act.put, qa, qb, qc, qD, qE, qF]
          refine qTs 19 rfl (.inr ⟨by rfl, rfl⟩) ?_
          try simp only [Act.put, qa, qb, qc, qD, qE, qF]
          refine qTs 20 rfl (.inr ⟨by rfl, rfl⟩) ?_
          try simp only [Act.put, qa, qb, qc, qD, qE, qF]
          refine qTk (v := ?_) 21 rfl (.inl ⟨by rfl, ?_⟩) ?_
          rotate_left
          ·
           (intro w hSw; (try dsimp only at hSw); go_simp; try with_reducible rfl)
          try simp only [Act.put, qa, qb, qc, qD, qE, qF]
          refine wpTail_done qKr ?_ _
          clear hHeld 
          go_wp2_with fail
          go_ret2
          rw [extA_none (ts := ts) (ls := ls) (.inr (extT_row hil (by rw [hX14.out, hX27.out]; unfold rowOk; rw [decide_eq_false hc35.out]; rfl)))]
          exact PIntsB.no (Xw3.trans qXt)
       ·
        obtain rfl : i = ts.length := by omega
        have hiI : ¬ (ts.length : Int) < ts.length := by omega
        go_wp2_with fail
        go_ret2
        rw [extA_some (x := e) (by unfold tensB; rw [htn.out, show inB 1 3 (ts.length : Int) = true from by unfold inB; simp; omega, decide_eq_true (show (ls.length : Int) = (ts.length : Int) from hc3.out)]; rfl) het.out]
        exact PIntsB.yes O7.z (O7.ints (by first | exact Nat.le_of_lt (by omega) | omega)) (by omega) (Xwb.trans qXt)
   ·
    have hc3e : ((ls.length : Int) == (ts.length : Int)) = false := by simpa using hc3
    have hc3n : ((ls.length : Int) != (ts.length : Int)) = true := by simpa using hc3
    replace hc3 := Lib.hid hc3
    go_wp2_with fail
    go_ret2
    rw [extA_none (ts := ts) (ls := ls) (.inl (by unfold tensB; rw [decide_eq_false (show ¬ (ls.length : Int) = (ts.length : Int) from hc3.out)]; simp))]
    exact PIntsB.no qXt

set_option maxHeartbeats 6400000 in
theorem extents_c (ts : List Ten) (ls : List Lst) (tv lv : Value) (w : World) (l1 l2 : Nat) (h1 : Tens w l1 tv ts) (h2 : Lsts w l2 lv ls) (hn : ts.length ≤ ls.length) :
  Calls Try.prog 138 #[tv, lv] w (PIntsB w (extL (extT ts ls ts.length)) (extT ts ls ts.length).isSome) := by
 obtain ⟨p0, c0, rfl⟩ := h1.form
 obtain ⟨p1, c1, rfl⟩ := h2.form
 have hlt1 := h1.len
 have hlt2 := h2.len
 go_enter Try.func138, Try.ntmps138
 go_wp2_with fail
 have BL2 : Ext w w := Ext.refl _
 have zG_BL2 := (BL2).size
 skip
 go_loopw [6, 7] (fun gv i wa => ∃ (j : Nat) (xs : List Int), j ≤ 5 ∧ i = .int .i64 j ∧ xs.length ≤ j ∧ Hid (xs = List.replicate j (-1)) ∧ OwnI wa w.heap.size gv xs ∧ Ext w wa) (fun _ i _ => 5 - (intOf i).toNat)
 case atStart => exact ⟨0, [], by omega, rfl, by simp, Lib.hid rfl, (OwnI.lit0 w w.heap.size (Nat.le_refl _)), qXt⟩
 case round =>
  generalize wr = wa at hrel ⊢
  obtain ⟨j, xs, hj, rfl, hxl, hxs, OG, Lwa⟩ := hrel
  have Xwa : Ext w wa := Lwa
  have s_wa : w.heap.size ≤ wa.heap.size := Xwa.size
  have t_wa : w.heap.size ≤ wa.heap.size := Lwa.size
  have BL2_wa : Ext w wa := BL2.trans Lwa
  have Bwa : Ext w wa := Lwa
  obtain ⟨ga4, gc5, rfl⟩ := (OG.ints (by have := (show (xs).length ≤ 1000000 by omega); omega)).form
  have OG3 := OG
  clear OG
  by_cases hjl : j < 5
  ·
   have hjI : (j : Int) ≤ (4 : Int) := by omega
   have zGB := (Bwa).size
   have EE : Ext wa ((wa).alloc (.cells #[.int .i64 (-1)] 3)) := qXt
   have SS : Ints ((wa).alloc (.cells #[.int .i64 (-1)] 3)) 0 (.slice (some ⟨wa.heap.size, 0, none⟩) 1 1) [-1] := by simpa using Ints.one (wa) 0 (-1) (Nat.zero_le _)
   go_wp2_with (
    at_builtin
    refine wpList_app rfl (.tmp 16) (.tmp 17) rfl rfl rfl (by exact OG3.ext EE) (by exact SS) (by have := (show (xs).length ≤ 1000000 by omega); first | omega | (simp only [List.length_append, List.length_cons, List.length_nil]; omega)) qSo ?_
    intro vw1 w1 ho hg7 hbl hv7
    clear hg7 hv7
    obtain ⟨ga6, rr7, rfl⟩ : ∃ a c, vw1 = .slice a (xs.length + 1) c := by obtain ⟨a, c, h⟩ := (ho.ints (by simp only [List.length_append, List.length_cons, List.length_nil]; have := (show (xs).length ≤ 1000000 by omega); omega)).form; exact ⟨a, c, by rw [h, List.length_append]; rfl⟩
    have Xw1 : Ext w w1 := Ext.below (Xwa.trans EE) hbl (by omega)
    have BL2_w1 : Ext w w1 := Ext.below (Ext.trans BL2_wa EE) hbl (by omega)
    have Bwa_w1 : Ext w w1 := Ext.below (Ext.trans Bwa EE) hbl (by omega)
    clear OG3
    have OG3 := ho
    clear ho hbl EE SS zGB
    have s_w1 : w.heap.size ≤ w1.heap.size := Xw1.size)
   go_wp2_with fail
   go_roundw
   case rel => exact ⟨j + 1, xs ++ [-1], by omega, by go_num, by simp; omega, Lib.hid (by rw [hxs.out]; exact (negS j).symm), OG3.ext qXt, (Bwa_w1.trans qXt)⟩
   case measure => simp [intOf]; omega
  ·
   obtain rfl : j = 5 := by omega
   have hjI : ¬ (5 : Int) ≤ (4 : Int) := by omega
   obtain ⟨gr8, rr9, hvgr8, Ggr8, Ggr8'⟩ := OG3.row (by rw [hxs.out]; simp)
   injection hvgr8 with hva hvb hvc
   subst hva
   subst hvc
   clear hvb
   have hx7 := hxs.out
   subst hx7
   clear hxs hxl
   simp only [List.length_replicate] at OG3 ⊢
   go_wp2_with fail
   go_loopw [8] (fun v wr => ∃ (i : Nat) (e : List Int), i ≤ ts.length ∧ v = .int .i64 i ∧ Hid (extT ts ls i = some e) ∧ OwnI wr (w.heap.size) (.slice (some ⟨gr8, 0, none⟩) 5 gc5) e ∧ Chg gr8 (gr8 + 1) wa wr ∧ Ext w wr) (fun v _ => ts.length - (intOf v).toNat)
   case atStart => exact ⟨0, List.replicate 5 (-1), Nat.zero_le _, rfl, Lib.hid rfl, (show OwnI _ _ _ (List.replicate 5 (-1)) from (OG3.ext qXt)), Chg.refl _ _ _, BL2_wa⟩
   case round =>
    generalize wr = wb at hrel ⊢
    obtain ⟨i, e, hi, rfl, het, OG3n, Kr10, Er11⟩ := hrel
    have Xwb : Ext w wb := Er11
    have s_wb : w.heap.size ≤ wb.heap.size := Xwb.size
    have t_wb : wa.heap.size ≤ wb.heap.size := Kr10.size
    clear OG3
    have OG3 := OG3n
    clear OG3n
    have GL_wb := (own_lt OG3 rfl).2
    have he5 : 5 ≤ e.length := by rw [extT_len het.out]; omega
    have he6 : e.length ≤ 5 := by rw [extT_len het.out]; omega
    by_cases hil : i < ts.length
    ·
     have hiI : (i : Int) < ts.length := by omega
     have hil2 : i < ls.length := by omega
     go_wp2_with fail
     have hN_x12 : i < ts.length := hil
     have hI_x12 : (i : Int) < (ts.length : Int) := by omega
     obtain ⟨bl14, ol15, u16, c18, u17, c19, rfl, x120, x121, i20, i21⟩ := h1.at i hN_x12
     obtain ⟨X13, hX13⟩ : ∃ x, tenAt ts i = x := ⟨_, rfl⟩
     rw [hX13] at x120 x121 i20 i21
     obtain ⟨S22, T23⟩ := X13
     dsimp only at x120 x121 i20 i21
     replace hX13 := Lib.hid hX13
     have hLS22 := i20.len
     have hLT23 := i21.len
     have y_x12 : bl14 < w.heap.size := qB x120
     replace x120 := Xwb.cell x120
     replace x121 := Xwb.cell x121
     have z_x12 : bl14 < wb.heap.size := qB x120
     have hN_x24 : i < ls.length := hil2
     have hI_x24 : (i : Int) < (ls.length : Int) := by omega
     obtain ⟨bl26, ol27, u28, c29, rfl, x240, i30⟩ := h2.at i hN_x24
     obtain ⟨X25, hX25⟩ : ∃ x, lstAt ls i = x := ⟨_, rfl⟩
     rw [hX25] at x240 i30
     obtain ⟨S31⟩ := X25
     dsimp only at x240 i30
     replace hX25 := Lib.hid hX25
     have hLS31 := i30.len
     have y_x24 : bl26 < w.heap.size := qB x240
     replace x240 := Xwb.cell x240
     have z_x24 : bl26 < wb.heap.size := qB x240
     go_wp2_with fail
     refine wp_region_tail (S := fun w' => w'.cell? ⟨bl14, ol15 + i * 2, none⟩ = some (.slice u16 S22.length c18) ∧ w'.cell? ⟨bl14, ol15 + i * 2 + 1, none⟩ = some (.slice u17 T23.length c19) ∧ w'.cell? ⟨bl26, ol27 + i, none⟩ = some (.slice u28 S31.length c29)) (fun i => decide (20 ≤ i)) qKr ⟨x120, x121, x240⟩ (fun hHeld => ?_)
     refine qTk (v := ?_) 0 rfl (.inl ⟨by rfl, ?_⟩) ?_
     rotate_left
     ·
      (intro w hSw; (try dsimp only at hSw); go_simp; try with_reducible rfl)
     try simp only [Act.put, qa, qb, qc, qD, qE, qF]
     refine qTk (v := ?_) 1 rfl (.inl ⟨by rfl, ?_⟩) ?_
     rotate_left
     ·
      (intro w hSw; (try dsimp only at hSw); go_simp; try with_reducible rfl)
     try simp only [Act.put, qa, qb, qc, qD, qE, qF]
     refine qTk (v := ?_) 2 rfl (.inl ⟨by rfl, ?_⟩) ?_
     rotate_left
     ·
      (intro w hSw; (try dsimp only at hSw); go_simp; try with_reducible rfl)
     try simp only [Act.put, qa, qb, qc, qD, qE, qF]
     refine qTk (v := ?_) 3 rfl (.inl ⟨by rfl, ?_⟩) ?_
     rotate_left
     ·
      (intro w hSw; (try dsimp only at hSw); go_simp; try with_reducible rfl)
     try simp only [Act.put, qa, qb, qc, qD, qE, qF]
     refine qTk (v := ?_) 4 rfl (.inl ⟨by rfl, ?_⟩) ?_
     rotate_left
     ·
      (intro w hSw; (try dsimp only at hSw); go_simp; try with_reducible rfl)
     try simp only [Act.put, qa, qb, qc, qD, qE, qF]
     refine qTk (v := ?_) 5 rfl (.inl ⟨by rfl, ?_⟩) ?_
     rotate_left
     ·
      (intro w hSw; (try dsimp only at hSw); go_simp; try with_reducible rfl)
     try simp only [Act.put, qa, qb, qc, qD, qE, qF]
     refine qTk (v := ?_) 6 rfl (.inl ⟨by rfl, ?_⟩) ?_
     rotate_left
     ·
      (intro w hSw; (try dsimp only at hSw); go_simp; try with_reducible rfl)
     try simp only [Act.put, qa, qb, qc, qD, qE, qF]
     refine qTk (v := ?_) 7 rfl (.inl ⟨by rfl, ?_⟩) ?_
     rotate_left
     ·
      (intro w hSw; (try dsimp only at hSw); go_simp; try with_reducible rfl)
     try simp only [Act.put, qa, qb, qc, qD, qE, qF]
     refine qTk (v := ?_) 8 rfl (.inl ⟨by rfl, ?_⟩) ?_
     rotate_left
     ·
      (intro w hSw; (try dsimp only at hSw); go_simp; try with_reducible rfl)
     try simp only [Act.put, qa, qb, qc, qD, qE, qF]
     refine qTk (v := ?_) 9 rfl (.inl ⟨by rfl, ?_⟩) ?_
     rotate_left
     ·
      (intro w hSw; (try dsimp only at hSw); go_simp; try with_reducible rfl)
     try simp only [Act.put, qa, qb, qc, qD, qE, qF]
     refine qTk (v := ?_) 10 rfl (.inl ⟨by rfl, ?_⟩) ?_
     rotate_left
     ·
      (intro w hSw; (try dsimp only at hSw); go_simp; try with_reducible rfl)
     try simp only [Act.put, qa, qb, qc, qD, qE, qF]
     by_cases hc32 : (S31.length : Int) = (S22.length : Int)
     ·
      have hc32e : ((S31.length : Int) == (S22.length : Int)) = true := by simpa using hc32
      have hc32n : ((S31.length : Int) != (S22.length : Int)) = false := by simpa using hc32
      replace hc32 := Lib.hid hc32
      refine qTk (v := ?_) 11 rfl (.inl ⟨by rfl, ?_⟩) ?_
      rotate_left
      ·
       (intro w hSw; (try dsimp only at hSw); go_simp; try with_reducible rfl)
      try simp only [Act.put, qa, qb, qc, qD, qE, qF]
      refine qTk (v := ?_) 12 rfl (.inl ⟨by rfl, ?_⟩) ?_
      rotate_left
      ·
       (intro w hSw; (try dsimp only at hSw); go_simp; try with_reducible rfl)
      try simp only [Act.put, qa, qb, qc, qD, qE, qF]
      refine qTk (v := ?_) 13 rfl (.inl ⟨by rfl, ?_⟩) ?_
      rotate_left
      ·
       (intro w hSw; (try dsimp only at hSw); go_simp; try with_reducible rfl)
      try simp only [Act.put, qa, qb, qc, qD, qE, qF]
      refine qTk (v := ?_) 14 rfl (.inl ⟨by rfl, ?_⟩) ?_
      rotate_left
      ·
       (intro w hSw; (try dsimp only at hSw); go_simp; try with_reducible rfl)
      try simp only [Act.put, qa, qb, qc, qD, qE, qF]
      refine qTk (v := ?_) 15 rfl (.inl ⟨by rfl, ?_⟩) ?_
      rotate_left
      ·
       (intro w hSw; (try dsimp only at hSw); go_simp; try with_reducible rfl)
      try simp only [Act.put, qa, qb, qc, qD, qE, qF]
      refine qTk (v := ?_) 16 rfl (.inl ⟨by rfl, ?_⟩) ?_
      rotate_left
      ·
       (intro w hSw; (try dsimp only at hSw); go_simp; try with_reducible rfl)
      try simp only [Act.put, qa, qb, qc, qD, qE, qF]
      refine wpTail_one (i := 17) qKr rfl rfl (fun K hK => ?_)
      try simp only [Act.put, qa, qb, qc, qD, qE, qF]
      go_simp
      refine (allIn_c S31 (.slice u28 S31.length c29) 0 4 _ _ (i30.ext (Xwb.trans qXt))).mono ?_
      rintro e w' ⟨rfl, rfl⟩
      cases hB33 : S31.all (inB 0 4)
      ·
       replace hB33 := Lib.hid hB33
       refine hK.out _ _ ⟨x120, x121, x240⟩ (fun hHeld => ?_)
       clear hK K
       try simp only [Act.put, qa, qb, qc, qD, qE, qF]
       refine qTk (v := ?_) 18 rfl (.inl ⟨by rfl, ?_⟩) ?_
       rotate_left
       ·
        (intro w hSw; (try dsimp only at hSw); go_simp; try with_reducible rfl)
       try simp only [Act.put, qa, qb, qc, qD, qE, qF]
       refine qTk (v := ?_) 19 rfl (.inl ⟨by rfl, ?_⟩) ?_
       rotate_left
       ·
        (intro w hSw; (try dsimp only at hSw); go_simp; try with_reducible rfl)
       try simp only [Act.put, qa, qb, qc, qD, qE, qF]
       refine wpTail_done qKr ?_ _
       clear hHeld 
       go_wp2_with fail
       go_ret2
       rw [extT_row hil (by rw [hX13.out, hX25.out]; unfold rowOk; rw [(show labB S31 = false from hB33.out), Bool.and_false])]
       exact PIntsB.no (Xwb.trans qXt)
      ·
       replace hB33 := Lib.hid hB33
       refine hK.out _ _ ⟨x120, x121, x240⟩ (fun hHeld => ?_)
       clear hK K
       try simp only [Act.put, qa, qb, qc, qD, qE, qF]
       refine qTk (v := ?_) 18 rfl (.inl ⟨by rfl, ?_⟩) ?_
       rotate_left
       ·
        (intro w hSw; (try dsimp only at hSw); go_simp; try with_reducible rfl)
       try simp only [Act.put, qa, qb, qc, qD, qE, qF]
       refine qTk (v := ?_) 19 rfl (.inl ⟨by rfl, ?_⟩) ?_
       rotate_left
       ·
        (intro w hSw; (try dsimp only at hSw); go_simp; try with_reducible rfl)
       try simp only [Act.put, qa, qb, qc, qD, qE, qF]
       refine wpTail_done qKr ?_ _
       clear hHeld 
       have hro : Hid (rowOk S22 S31 = true) := Lib.hid (by unfold rowOk; rw [decide_eq_true (show (S31.length : Int) = (S22.length : Int) from hc32.out), (show labB S31 = true from hB33.out)]; rfl)
       have hLS : S31.length ≤ S22.length := by have h7 := hc32.out; omega
       go_wp2_with fail
       go_loopw [9] (fun v wr => ∃ (d : Nat) (x : List Int), d ≤ S31.length ∧ v = .int .i64 d ∧ Hid (extIn e S22 S31 d = some x) ∧ OwnI wr (w.heap.size) (.slice (some ⟨gr8, 0, none⟩) 5 gc5) x ∧ Chg gr8 (gr8 + 1) wb wr ∧ Ext w wr) (fun v _ => S31.length - (intOf v).toNat)
       case atStart => exact ⟨0, e, Nat.zero_le _, rfl, Lib.hid rfl, (show OwnI _ _ _ e from (OG3.ext qXt)), (by repeat (first | (with_reducible exact Chg.refl _ _ _) | (with_reducible refine Chg.setCell ?_ qSo qSo _) | (with_reducible refine Chg.ext ?_ (Ext.alloc (Ext.refl _) _)) | (with_reducible refine Chg.ext ?_ (Ext.drew (Ext.refl _))))), (Er11.trans qXt)⟩
       case round =>
        generalize wr = wc at hrel ⊢
        obtain ⟨d, x, hd, rfl, hxt, OG3n, Kr34, Er35⟩ := hrel
        have Xwc : Ext w wc := Er35
        have s_wc : w.heap.size ≤ wc.heap.size := Xwc.size
        have t_wc : wb.heap.size ≤ wc.heap.size := Kr34.size
        replace x120 := Kr34.cell (by omega) x120
        replace x121 := Kr34.cell (by omega) x121
        replace x240 := Kr34.cell (by omega) x240
        have z_x12 : bl14 < wc.heap.size := qB x120
        have z_x24 : bl26 < wc.heap.size := qB x240
        clear OG3
        have OG3 := OG3n
        clear OG3n
        have GL_wc := (own_lt OG3 rfl).2
        have Kr10_wc := Chg.trans Kr10 Kr34
        have hx5 : 5 ≤ x.length := by rw [extIn_len hxt.out]; omega
        have hx6 : x.length ≤ 5 := by rw [extIn_len hxt.out]; omega
        by_cases hdl : d < S31.length
        ·
         have hdI : (d : Int) < (S31.length : Int) := by omega
         have hdS : d < S22.length := by omega
         have hN_e38 : d < S31.length := hdl
         have hI_e38 : (d : Int) < (S31.length : Int) := by omega
         obtain ⟨bl36, ol37, rfl, e380⟩ := i30.at d hdl
         have y_e38 : bl36 < w.heap.size := qB e380
         replace e380 := Xwc.cell e380
         obtain ⟨v39, hv39⟩ : ∃ v, S31.getD d 0 = v := ⟨_, rfl⟩
         rw [hv39] at e380
         replace hv39 := Lib.hid hv39
         have z_e38 : bl36 < wc.heap.size := qB e380
         obtain ⟨q7, hq4, rfl⟩ := lab_at (show labB S31 = true from hB33.out) hdl hv39.out
         have hq7 := hv39
         have hw7 : IntKind.i64.wrap (q7 : Int) = (q7 : Int) := IntWalk.i64_in _ (by omega)
         have hq5 : (q7 : Int) < 5 := by omega
         go_wp2_with fail
         have hN_e42 : q7 < x.length := (by omega)
         have hI_e42 : (q7 : Int) < (x.length : Int) := by omega
         obtain ⟨b_e42, o_e42, h_e42, e420⟩ := (OG3.ints (by first | omega | (simp; done))).at q7 (by omega)
         cases h_e42
         rw [Nat.zero_add] at e420
         obtain ⟨v43, hv43⟩ : ∃ v, x.getD q7 0 = v := ⟨_, rfl⟩
         rw [hv43] at e420
         replace hv43 := Lib.hid hv43
         have y_e42 : gr8 < wc.heap.size := qB e420
         have z_e42 := y_e42
         refine wp_region_tail (S := fun w' => w'.cell? ⟨bl14, ol15 + i * 2, none⟩ = some (.slice u16 S22.length c18) ∧ w'.cell? ⟨bl14, ol15 + i * 2 + 1, none⟩ = some (.slice u17 T23.length c19) ∧ w'.cell? ⟨bl26, ol27 + i, none⟩ = some (.slice (some ⟨bl36, ol37, none⟩) S31.length c29) ∧ w'.cell? ⟨bl36, ol37 + d, none⟩ = some (.int .i64 (q7 : Int)) ∧ w'.cell? ⟨gr8, q7, none⟩ = some (.int .i64 v43)) (fun i => decide (20 ≤ i)) qKr ⟨x120, x121, x240, e380, e420⟩ (fun hHeld => ?_)
         refine qTk (v := ?_) 0 rfl (.inl ⟨by rfl, ?_⟩) ?_
         rotate_left
         ·
          (intro w hSw; (try dsimp only at hSw); go_simp; try with_reducible rfl)
         try simp only [Act.put, qa, qb, qc, qD, qE, qF]
         refine qTk (v := ?_) 1 rfl (.inl ⟨by rfl, ?_⟩) ?_
         rotate_left
         ·
          (intro w hSw; (try dsimp only at hSw); go_simp; try with_reducible rfl)
         try simp only [Act.put, qa, qb, qc, qD, qE, qF]
         refine qTk (v := ?_) 2 rfl (.inl ⟨by rfl, ?_⟩) ?_
         rotate_left
         ·
          (intro w hSw; (try dsimp only at hSw); go_simp; try with_reducible rfl)
         try simp only [Act.put, qa, qb, qc, qD, qE, qF]
         refine qTk (v := ?_) 3 rfl (.inl ⟨by rfl, ?_⟩) ?_
         rotate_left
         ·
          (intro w hSw; (try dsimp only at hSw); go_simp; try with_reducible rfl)
         try simp only [Act.put, qa, qb, qc, qD, qE, qF]
         by_cases hc47 : (0 : Int) ≤ (v43 : Int)
         ·
          refine qTk (v := ?_) 4 rfl (.inl ⟨by rfl, ?_⟩) ?_
          rotate_left
          ·
           (intro w hSw; (try dsimp only at hSw); go_simp; try with_reducible rfl)
          try simp only [Act.put, qa, qb, qc, qD, qE, qF]
          refine qTk (v := ?_) 5 rfl (.inl ⟨by rfl, ?_⟩) ?_
          rotate_left
          ·
           (intro w hSw; (try dsimp only at hSw); go_simp; try with_reducible rfl)
          try simp only [Act.put, qa, qb, qc, qD, qE, qF]
          refine qTk (v := ?_) 6 rfl (.inl ⟨by rfl, ?_⟩) ?_
          rotate_left
          ·
           (intro w hSw; (try dsimp only at hSw); go_simp; try with_reducible rfl)
          try simp only [Act.put, qa, qb, qc, qD, qE, qF]
          refine qTk (v := ?_) 7 rfl (.inl ⟨by rfl, ?_⟩) ?_
          rotate_left
          ·
           (intro w hSw; (try dsimp only at hSw); go_simp; try with_reducible rfl)
          try simp only [Act.put, qa, qb, qc, qD, qE, qF]
          refine qTk (v := ?_) 8 rfl (.inl ⟨by rfl, ?_⟩) ?_
          rotate_left
          ·
           (intro w hSw; (try dsimp only at hSw); go_simp; try with_reducible rfl)
          try simp only [Act.put, qa, qb, qc, qD, qE, qF]
          refine qTk (v := ?_) 9 rfl (.inl ⟨by rfl, ?_⟩) ?_
          rotate_left
          ·
           (intro w hSw; (try dsimp only at hSw); go_simp; try with_reducible rfl)
          try simp only [Act.put, qa, qb, qc, qD, qE, qF]
          refine qTk (v := ?_) 10 rfl (.inl ⟨by rfl, ?_⟩) ?_
          rotate_left
          ·
           (intro w hSw; (try dsimp only at hSw); go_simp; try with_reducible rfl)
          try simp only [Act.put, qa, qb, qc, qD, qE, qF]
          refine qTk (v := ?_) 11 rfl (.inl ⟨by rfl, ?_⟩) ?_
          rotate_left
          ·
           (intro w hSw; (try dsimp only at hSw); go_simp; try with_reducible rfl)
          try simp only [Act.put, qa, qb, qc, qD, qE, qF]
          refine qTk (v := ?_) 12 rfl (.inl ⟨by rfl, ?_⟩) ?_
          rotate_left
          ·
           (intro w hSw; (try dsimp only at hSw); go_simp; try with_reducible rfl)
          try simp only [Act.put, qa, qb, qc, qD, qE, qF]
          refine qTk (v := ?_) 13 rfl (.inl ⟨by rfl, ?_⟩) ?_
          rotate_left
          ·
           (intro w hSw; (try dsimp only at hSw); go_simp; try with_reducible rfl)
          try simp only [Act.put, qa, qb, qc, qD, qE, qF]
          refine qTk (v := ?_) 14 rfl (.inl ⟨by rfl, ?_⟩) ?_
          rotate_left
          ·
           (intro w hSw; (try dsimp only at hSw); go_simp; try with_reducible rfl)
          try simp only [Act.put, qa, qb, qc, qD, qE, qF]
          refine qTk (v := ?_) 15 rfl (.inl ⟨by rfl, ?_⟩) ?_
          rotate_left
          ·
           (intro w hSw; (try dsimp only at hSw); go_simp; try with_reducible rfl)
          try simp only [Act.put, qa, qb, qc, qD, qE, qF]
          have hN_e53 : d < S22.length := hdS
          have hI_e53 : (d : Int) < (S22.length : Int) := by omega
          obtain ⟨bl51, ol52, rfl, e530⟩ := i20.at d hdS
          have y_e53 : bl51 < w.heap.size := qB e530
          replace e530 := Xwc.cell e530
          obtain ⟨v54, hv54⟩ : ∃ v, S22.getD d 0 = v := ⟨_, rfl⟩
          rw [hv54] at e530
          replace hv54 := Lib.hid hv54
          have z_e53 : bl51 < wc.heap.size := qB e530
          refine qTk (v := ?_) 16 rfl (.inl ⟨by rfl, ?_⟩) ?_
          rotate_left
          ·
           (intro w hSw; (try dsimp only at hSw); go_simp; try with_reducible rfl)
          try simp only [Act.put, qa, qb, qc, qD, qE, qF]
          refine wpTail_one (i := 17) qKr rfl rfl (fun K hK => ?_)
          try simp only [Act.put, qa, qb, qc, qD, qE, qF]
          go_simp
          refine hK.out _ _ ⟨x120, x121, x240, e380, e420⟩ (fun hHeld => ?_)
          clear hK K
          try simp only [Act.put, qa, qb, qc, qD, qE, qF]
          by_cases hc55 : (v43 : Int) = (v54 : Int)
          ·
           have hc55e : ((v43 : Int) == (v54 : Int)) = true := by simpa using hc55
           have hc55n : ((v43 : Int) != (v54 : Int)) = false := by simpa using hc55
           replace hc55 := Lib.hid hc55
           refine qTk (v := ?_) 18 rfl (.inl ⟨by rfl, ?_⟩) ?_
           rotate_left
           ·
            (intro w hSw; (try dsimp only at hSw); go_simp; try with_reducible rfl)
           try simp only [Act.put, qa, qb, qc, qD, qE, qF]
           refine qTk (v := ?_) 19 rfl (.inl ⟨by rfl, ?_⟩) ?_
           rotate_left
           ·
            (intro w hSw; (try dsimp only at hSw); go_simp; try with_reducible rfl)
           try simp only [Act.put, qa, qb, qc, qD, qE, qF]
           refine wpTail_done qKr ?_ _
           clear hHeld 
           have A59 := OG3.cell q7 (by omega)
           obtain ⟨A59a, A59b⟩ := A59
           go_wp2_with fail
           clear e380 z_e38
           clear e420 z_e42
           clear e530 z_e53
           generalize hW5 : (wc.setCell ⟨gr8, q7, none⟩ (.int .i64 v54)) = w1 at *
           have Kw1 : Chg (gr8) (gr8 + 1) wc w1 := by subst hW5; exact qCh
           have Xw1 : Ext w w1 := by subst hW5; exact qXt
           have BL2_w1 : Ext w w1 := by subst hW5; exact qXt
           have Kr10_w1 : Chg gr8 (gr8 + 1) wa w1 := Chg.trans Kr10_wc Kw1
           have Kr34_w1 : Chg gr8 (gr8 + 1) wb w1 := Chg.trans Kr34 Kw1
           replace x120 := Kw1.cell (by omega) x120
           replace x121 := Kw1.cell (by omega) x121
           replace x240 := Kw1.cell (by omega) x240
           have n_OG3 := OG3.set q7 (v54) (by first | omega | (simp; omega) | (rw [putUp_len]; simp; omega) | (rw [addUp_len]; omega))
           rw [hW5] at n_OG3
           replace OG3 := n_OG3
           clear n_OG3
           clear Kw1
           have z_x12 : bl14 < w1.heap.size := qB x120
           have z_x24 : bl26 < w1.heap.size := qB x240
           have s_w1 : w.heap.size ≤ w1.heap.size := Xw1.size
           clear hW5
           clear A59a A59b
           go_roundw
           case rel => exact ⟨d + 1, x.set q7 v54, by omega, by go_num, Lib.hid (ext_go hxt.out hq7.out hv43.out hv54.out (fun h7 => h7.2 hc55.out)), OG3.ext qXt, Kr34_w1.ext qXt, BL2_w1.trans qXt⟩
           case measure => simp [intOf]; omega
          ·
           have hc55e : ((v43 : Int) == (v54 : Int)) = false := by simpa using hc55
           have hc55n : ((v43 : Int) != (v54 : Int)) = true := by simpa using hc55
           replace hc55 := Lib.hid hc55
           refine qTk (v := ?_) 18 rfl (.inl ⟨by rfl, ?_⟩) ?_
           rotate_left
           ·
            (intro w hSw; (try dsimp only at hSw); go_simp; try with_reducible rfl)
           try simp only [Act.put, qa, qb, qc, qD, qE, qF]
           refine qTk (v := ?_) 19 rfl (.inl ⟨by rfl, ?_⟩) ?_
           rotate_left
           ·
            (intro w hSw; (try dsimp only at hSw); go_simp; try with_reducible rfl)
           try simp only [Act.put, qa, qb, qc, qD, qE, qF]
           refine wpTail_done qKr ?_ _
           clear hHeld 
           go_wp2_with fail
           go_ret2
           rw [extT_bad hil het.out (by rw [hX13.out, hX25.out]; exact ext_stop hdl hxt.out hq7.out hv43.out hv54.out ⟨hc47, hc55.out⟩)]
           exact PIntsB.no (Xwc.trans qXt)
         ·
          refine qTk (v := ?_) 4 rfl (.inl ⟨by rfl, ?_⟩) ?_
          rotate_left
          ·
           (intro w hSw; (try dsimp only at hSw); go_simp; try with_reducible rfl)
          try simp only [Act.put, qa, qb, qc, qD, qE, qF]
          refine qTk (v := ?_) 5 rfl (.inl ⟨by rfl, ?_⟩) ?_
          rotate_left
          ·
           (intro w hSw; (try dsimp only at hSw); go_simp; try with_reducible rfl)
          try simp only [Act.put, qa, qb, qc, qD, qE, qF]
          refine qTs 6 rfl (.inr ⟨by rfl, rfl⟩) ?_
          try simp only [Act.put, qa, qb, qc, qD, qE, qF]
          refine qTs 7 rfl (.inr ⟨by rfl, rfl⟩) ?_
          try simp only [Act.put, qa, qb, qc, qD, qE, qF]
          refine qTs 8 rfl (.inr ⟨by rfl, rfl⟩) ?_
          try simp only [Act.put, qa, qb, qc, qD, qE, qF]
          refine qTs 9 rfl (.inr ⟨by rfl, rfl⟩) ?_
          try simp only [Act.put, qa, qb, qc, qD, qE, qF]
          refine qTs 10 rfl (.inr ⟨by rfl, rfl⟩) ?_
          try simp only [Act.put, qa, qb, qc, qD, qE, qF]
          refine qTs 11 rfl (.inr ⟨by rfl, rfl⟩) ?_
          try simp only [Act.put, qa, qb, qc, qD, qE, qF]
          refine qTs 12 rfl (.inr ⟨by rfl, rfl⟩) ?_
          try simp only [Act.put, qa, qb, qc, qD, qE, qF]
          refine qTs 13 rfl (.inr ⟨by rfl, rfl⟩) ?_
          try simp only [Act.put, qa, qb, qc, qD, qE, qF]
          refine qTs 14 rfl (.inr ⟨by rfl, rfl⟩) ?_
          try simp only [Act.put, qa, qb, qc, qD, qE, qF]
          refine qTs 15 rfl (.inr ⟨by rfl, rfl⟩) ?_
          try simp only [Act.put, qa, qb, qc, qD, qE, qF]
          refine qTs 16 rfl (.inr ⟨by rfl, rfl⟩) ?_
          try simp only [Act.put, qa, qb, qc, qD, qE, qF]
          refine qTs 17 rfl (.inr ⟨by rfl, rfl⟩) ?_
          try simp only [Act.put, qa, qb, qc, qD, qE, qF]
          refine qTs 18 rfl (.inr ⟨by rfl, rfl⟩) ?_
          try simp only [Act.put, qa, qb, qc, qD, qE, qF]
          refine qTk (v := ?_) 19 rfl (.inl ⟨by rfl, ?_⟩) ?_
          rotate_left
          ·
           (intro w hSw; (try dsimp only at hSw); go_simp; try with_reducible rfl)
          try simp only [Act.put, qa, qb, qc, qD, qE, qF]
          refine wpTail_done qKr ?_ _
          clear hHeld 
          have hN_e62 : d < S22.length := hdS
          have hI_e62 : (d : Int) < (S22.length : Int) := by omega
          obtain ⟨bl60, ol61, rfl, e620⟩ := i20.at d hdS
          have y_e62 : bl60 < w.heap.size := qB e620
          replace e620 := Xwc.cell e620
          obtain ⟨v63, hv63⟩ : ∃ v, S22.getD d 0 = v := ⟨_, rfl⟩
          rw [hv63] at e620
          replace hv63 := Lib.hid hv63
          have z_e62 : bl60 < wc.heap.size := qB e620
          have A64 := OG3.cell q7 (by omega)
          obtain ⟨A64a, A64b⟩ := A64
          go_wp2_with fail
          clear e380 z_e38
          clear e420 z_e42
          clear e620 z_e62
          generalize hW6 : (wc.setCell ⟨gr8, q7, none⟩ (.int .i64 v63)) = w1 at *
          have Kw1 : Chg (gr8) (gr8 + 1) wc w1 := by subst hW6; exact qCh
          have Xw1 : Ext w w1 := by subst hW6; exact qXt
          have BL2_w1 : Ext w w1 := by subst hW6; exact qXt
          have Kr10_w1 : Chg gr8 (gr8 + 1) wa w1 := Chg.trans Kr10_wc Kw1
          have Kr34_w1 : Chg gr8 (gr8 + 1) wb w1 := Chg.trans Kr34 Kw1
          replace x120 := Kw1.cell (by omega) x120
          replace x121 := Kw1.cell (by omega) x121
          replace x240 := Kw1.cell (by omega) x240
          have n_OG3 := OG3.set q7 (v63) (by first | omega | (simp; omega) | (rw [putUp_len]; simp; omega) | (rw [addUp_len]; omega))
          rw [hW6] at n_OG3
          replace OG3 := n_OG3
          clear n_OG3
          clear Kw1
          have z_x12 : bl14 < w1.heap.size := qB x120
          have z_x24 : bl26 < w1.heap.size := qB x240
          have s_w1 : w.heap.size ≤ w1.heap.size := Xw1.size
          clear hW6
          clear A64a A64b
          go_roundw
          case rel => exact ⟨d + 1, x.set q7 v63, by omega, by go_num, Lib.hid (ext_go hxt.out hq7.out hv43.out hv63.out (fun h7 => hc47 h7.1)), OG3.ext qXt, Kr34_w1.ext qXt, BL2_w1.trans qXt⟩
          case measure => simp [intOf]; omega
        ·
         have hdN : d = S31.length := by omega
         subst hdN
         have hdI : ¬ (S31.length : Int) < (S31.length : Int) := by omega
         go_wp2_with fail
         go_roundw
         case rel => exact ⟨i + 1, x, by omega, by go_num, Lib.hid (extT_some het.out (by rw [hX13.out, hX25.out]; exact hro.out) (by rw [hX13.out, hX25.out]; exact hxt.out)), OG3.ext qXt, Kr10_wc.ext qXt, Er35.trans qXt⟩
         case measure => simp [intOf]; omega
     ·
      have hc32e : ((S31.length : Int) == (S22.length : Int)) = false := by simpa using hc32
      have hc32n : ((S31.length : Int) != (S22.length : Int)) = true := by simpa using hc32
      replace hc32 := Lib.hid hc32
      refine qTk (v := ?_) 11 rfl (.inl ⟨by rfl, ?_⟩) ?_
      rotate_left
      ·
       (intro w hSw; (try dsimp only at hSw); go_simp; try with_reducible rfl)
      try simp only [Act.put, qa, qb, qc, qD, qE, qF]
      refine qTk (v := ?_) 12 rfl (.inl ⟨by rfl, ?_⟩) ?_
      rotate_left
      ·
       (intro w hSw; (try dsimp only at hSw); go_simp; try with_reducible rfl)
      try simp only [Act.put, qa, qb, qc, qD, qE, qF]
      refine qTs 13 rfl (.inr ⟨by rfl, rfl⟩) ?_
      try simp only [Act.put, qa, qb, qc, qD, qE, qF]
      refine qTs 14 rfl (.inr ⟨by rfl, rfl⟩) ?_
      try simp only [Act.put, qa, qb, qc, qD, qE, qF]
      refine qTs 15 rfl (.inr ⟨by rfl, rfl⟩) ?_
      try simp only [Act.put, qa, qb, qc, qD, qE, qF]
      refine qTs 16 rfl (.inr ⟨by rfl, rfl⟩) ?_
      try simp only [Act.put, qa, qb, qc, qD, qE, qF]
      refine qTs 17 rfl (.inr ⟨by rfl, rfl⟩) ?_
      try simp only [Act.put, qa, qb, qc, qD, qE, qF]
      refine qTs 18 rfl (.inr ⟨by rfl, rfl⟩) ?_
      try simp only [Act.put, qa, qb, qc, qD, qE, qF]
      refine qTk (v := ?_) 19 rfl (.inl ⟨by rfl, ?_⟩) ?_
      rotate_left
      ·
       (intro w hSw; (try dsimp only at hSw); go_simp; try with_reducible rfl)
      try simp only [Act.put, qa, qb, qc, qD, qE, qF]
      refine wpTail_done qKr ?_ _
      clear hHeld 
      go_wp2_with fail
      go_ret2
      rw [extT_row hil (by rw [hX13.out, hX25.out]; unfold rowOk; rw [decide_eq_false hc32.out]; rfl)]
      exact PIntsB.no (Xwb.trans qXt)
    ·
     obtain rfl : i = ts.length := by omega
     have hiI : ¬ (ts.length : Int) < ts.length := by omega
     go_wp2_with fail
     go_ret2
     rw [het.out]
     exact PIntsB.yes OG3.z (OG3.ints (by first | exact Nat.le_of_lt (by omega) | omega)) (by omega) (Xwb.trans qXt)


end Go.Proofs.Ytfbbnbpobojboaa

/- Walks: labels of lists, costs. -/
namespace Go.Proofs.Ytfbbnbpobojboaa
open Go.RowKit
set_option linter.unusedVariables false
set_option maxRecDepth 100000

theorem pie_some {o : Option (List Int)} {x : List Int} {f : Nat} {args : Array Value} {w w0 : World} (he : o = some x) (h : Calls Try.prog f args w (PIntsB w0 (extL o) o.isSome)) : Calls Try.prog f args w (PIntsB w0 x true) := by subst he; exact h
theorem pie_none {o : Option (List Int)} {f : Nat} {args : Array Value} {w w0 : World} (he : o = none) (h : Calls Try.prog f args w (PIntsB w0 (extL o) o.isSome)) : Calls Try.prog f args w (PIntsB w0 ([] : List Int) false) := by subst he; exact h
set_option maxHeartbeats 3200000 in
theorem allLabels_c (ls : List Lst) (lv : Value) (w : World) (l2 : Nat) (h2 : Lsts w l2 lv ls) (hb : Hid (labsB ls)) (h8 : ls.length ≤ 8) :
    Calls Try.prog 114 #[lv] w (PInts w (alL ls)) := by
  obtain ⟨p1, c1, rfl⟩ := h2.form
  have hlt2 := h2.len
  go_enter Try.func114, Try.ntmps114
  go_wp2_with fail
  have BL2 : Ext w w := Ext.refl _
  have zG_BL2 := (BL2).size
  skip
  go_loopw [3, 9] (fun gv i wr => ∃ (k : Nat), k ≤ ls.length ∧ i = .int .i64 k ∧ OwnI wr w.heap.size gv (catL ls k) ∧ Ext w wr) (fun _ i _ => ls.length - (intOf i).toNat)
  case atStart => exact ⟨0, Nat.zero_le _, rfl, (by rw [show catL ls 0 = [] from rfl]; exact (OwnI.lit0 w w.heap.size (Nat.le_refl _))), qXt⟩
  case round =>
    obtain ⟨k, hk, rfl, OG, Lwr⟩ := hrel
    have Xwr : Ext w wr := Lwr
    have s_wr : w.heap.size ≤ wr.heap.size := Xwr.size
    have t_wr : w.heap.size ≤ wr.heap.size := Lwr.size
    have BL2_wr : Ext w wr := BL2.trans Lwr
    have Bwr : Ext w wr := Lwr
    obtain ⟨ga4, gc5, rfl⟩ := (OG.ints (by have := (show (catL ls k).length ≤ 1000000 by have := catL_len hb.out k hk; omega); omega)).form
    have OG3 := OG
    clear OG
    by_cases hlt : k < ls.length
    · have hkI : (k : Int) < ls.length := by omega
      have hN_x6 : k < ls.length := hlt
      have hI_x6 : (k : Int) < (ls.length : Int) := by omega
      obtain ⟨bl8, ol9, u10, c11, rfl, x60, i12⟩ := h2.at k hN_x6
      obtain ⟨X7, hX7⟩ : ∃ x, lstAt ls k = x := ⟨_, rfl⟩
      rw [hX7] at x60 i12
      obtain ⟨S13⟩ := X7
      dsimp only at x60 i12
      replace hX7 := Lib.hid hX7
      have hLS13 := i12.len
      have y_x6 : bl8 < w.heap.size := qB x60
      replace x60 := Xwr.cell x60
      have z_x6 : bl8 < wr.heap.size := qB x60
      have hS60 : S13.length ≤ 60 := by have h7 := (hb.out k hlt).2; rw [hX7.out] at h7; exact h7
      have zGB := (Bwr).size
      have EE : Ext wr (wr) := qXt
      have hAL : S13.length ≤ 1000000 := (by omega)
      have SS : Ints (wr) 0 (.slice u10 S13.length c11) S13 := ((i12.ext (Xwr.trans qXt)).ext EE).lower (Nat.zero_le _)
      go_wp2_with (
        at_builtin
        refine wpList_app rfl (.tmp 13) (.tmp 14) rfl rfl rfl (by exact OG3.ext EE) (by exact SS) (by have := (show (catL ls k).length ≤ 1000000 by have := catL_len hb.out k hk; omega); first | omega | (simp only [List.length_append, List.length_cons, List.length_nil]; omega)) qSo ?_
        intro vw1 w1 ho hg7 hbl hv7
        clear hg7 hv7
        obtain ⟨ga14, rr15, rfl⟩ : ∃ a c, vw1 = .slice a ((catL ls k).length + S13.length) c := by obtain ⟨a, c, h⟩ := (ho.ints (by simp only [List.length_append, List.length_cons, List.length_nil]; have := (show (catL ls k).length ≤ 1000000 by have := catL_len hb.out k hk; omega); omega)).form; exact ⟨a, c, by rw [h, List.length_append]⟩
        have Xw1 : Ext w w1 := Ext.below (Xwr.trans EE) hbl (by omega)
        have BL2_w1 : Ext w w1 := Ext.below (Ext.trans BL2_wr EE) hbl (by omega)
        have Bwr_w1 : Ext w w1 := Ext.below (Ext.trans Bwr EE) hbl (by omega)
        clear x60
        clear OG3
        have OG3 := ho
        clear ho hbl EE SS zGB hAL
        have s_w1 : w.heap.size ≤ w1.heap.size := Xw1.size)
      go_wp2_with fail
      go_roundw
      case rel => exact ⟨k + 1, by omega, by go_num, (by rw [show catL ls (k+1) = catL ls k ++ S13 by rw [catL_succ, hX7.out]]; exact OG3.ext qXt), (Bwr_w1.trans qXt)⟩
      case measure => simp [intOf]; omega
    · obtain rfl : k = ls.length := by omega
      have hkI : ¬ (ls.length : Int) < ls.length := by omega
      go_wp2_with fail
      have hcl := catL_len hb.out ls.length (Nat.le_refl _)
      have hzb := (Bwr).size
      refine (sort_c (catL ls ls.length) (.slice ga4 ((catL ls ls.length).length) gc5) _ _ OG3.z (by omega) hzb).mono ?_
      rintro e wS ⟨rfl, OS, hbl⟩
      have XS : Ext w wS := Ext.below Xwr hbl (by omega)
      have hzc := hbl.size
      clear hbl OG3
      go_wp2_with fail
      refine (compact_c (sortL (catL ls ls.length)) (.slice ga4 ((catL ls ls.length).length) gc5) _ _ OS (by rw [sortL_len]; omega) (by omega)).mono ?_
      rintro e wC ⟨v2, rfl, OC, -, hbc⟩
      have XC : Ext w wC := Ext.below XS hbc (by omega)
      clear hbc OS
      have hle : (Lib.compact (sortL (catL ls ls.length))).length ≤ 4194304 := by have h7 := compact_len_le (sortL (catL ls ls.length)); rw [sortL_len] at h7; omega
      have IC := OC.ints hle
      obtain ⟨a7, c7, rfl⟩ := IC.form
      go_wp2_with fail
      go_ret
      exact ⟨_, rfl, IC.lower (by omega), OC.lower (by omega), XC⟩

set_option maxHeartbeats 1600000 in
theorem specExtentsOf_c (ts : List Ten) (ls : List Lst) (tv lv : Value) (w : World) (l1 l2 : Nat) (h1 : Tens w l1 tv ts) (h2 : Lsts w l2 lv ls) :
    Calls Try.prog 93 #[tv, lv] w (PIntsB w (extL (extA ts ls)) (extA ts ls).isSome) := by
  obtain ⟨p0, c0, rfl⟩ := h1.form
  obtain ⟨p1, c1, rfl⟩ := h2.form
  have hlt1 := h1.len
  have hlt2 := h2.len
  go_enter Try.func93, Try.ntmps93
  go_wp2_with fail
  refine (validTensors_c ts ls (.slice p0 ts.length c0) (.slice p1 ls.length c1) _ _ _ (h1.ext qXt) (h2.ext qXt)).mono ?_
  rintro e w1 ⟨rfl, xw1⟩
  have Lw1 : Ext w w1 := Ext.trans qXt xw1
  have Xw1 : Ext w w1 := Lw1
  have s_w1 : w.heap.size ≤ w1.heap.size := Xw1.size
  clear xw1
  cases hB1 : tensB ts ls
  · replace hB1 := Lib.hid hB1
    go_wp2_with fail
    go_ret2
    rw [extA_none (ts := ts) (ls := ls) (.inl hB1.out)]
    exact PIntsB.no (Xw1.trans qXt)
  · replace hB1 := Lib.hid hB1
    go_wp2_with fail
    refine (extents_c ts ls (.slice p0 ts.length c0) (.slice p1 ls.length c1) _ _ _ (h1.ext (Xw1.trans qXt)) (h2.ext (Xw1.trans qXt)) (by have h7 := tensB_in hB1.out; omega)).mono ?_
    rintro e w2 ⟨fv2, rfl, i3, i3z, xw2⟩
    have Lw2 : Ext w1 w2 := Ext.trans qXt xw2
    have Xw2 : Ext w w2 := Xw1.trans Lw2
    have s_w2 : w.heap.size ≤ w2.heap.size := Xw2.size
    clear xw2
    obtain ⟨afv2, cfv2, rfl⟩ := i3.form
    go_wp2_with fail
    go_ret2
    rw [show extA ts ls = extT ts ls ts.length by unfold extA; rw [hB1.out]; rfl]
    exact ⟨_, rfl, i3.lower (by omega), i3z.lower (by omega), (Xw2.trans qXt)⟩

end Go.Proofs.Ytfbbnbpobojboaa

/- Walks: the labels that are kept (the program). No condition. -/
namespace Go.Proofs.Ytfbbnbpobojboaa
open Go.RowKit
set_option linter.unusedVariables false
set_option maxRecDepth 100000

/-- a literal of two rows -/
theorem Lsts.lit2 {w : World} {l1 l2 : Nat} {u v : Value} {a b : List Int} (h1 : Ints w l1 u a) (h2 : Ints w l2 v b) :
    Lsts (w.alloc (.cells #[u, v] 22)) 0 (.slice (some ⟨w.heap.size, 0, none⟩) 2 2) [⟨a⟩, ⟨b⟩] := by
  have hO : OwnC (w.alloc (.cells #[u, v] 22)) 0 22 1 (.slice (some ⟨w.heap.size, 0, none⟩) 2 2) [[u], [v]] :=
    OwnC.made w #[u, v] 0 (Nat.zero_le _) (by unfold maxLen; simp) rfl (fun c hc => by
      simp only [List.mem_cons, List.not_mem_nil, or_false] at hc
      rcases hc with rfl | rfl <;> rfl)
  have k1 := h1.ext (show Ext w (w.alloc (.cells #[u, v] 22)) from qXt)
  have k2 := h2.ext (show Ext w (w.alloc (.cells #[u, v] 22)) from qXt)
  refine Lsts.ofRow (rs := [⟨a⟩, ⟨b⟩]) (R := fun p => if p = 0 then u else v) (lo2 := 0) hO (fun i hi => ?_) (by simp) 0 (Nat.le_refl _) (Nat.le_refl _)
  match i, hi with
  | 0, _ => exact k1.lower (Nat.zero_le _)
  | 1, _ => exact k2.lower (Nat.zero_le _)
  | n + 2, hi => exact absurd hi (by simp)

/-- the row that is kept as it grows: the literal at g8, or a row of its own -/
def KeptV (w : World) (B g8 : Nat) (v : Value) (xs : List Int) : Prop := (xs = [] ∧ v = .slice (some ⟨g8, 0, none⟩) 0 0) ∨ OwnI w B v xs
theorem KeptV.ext {w w' : World} {B g8 : Nat} {v : Value} {xs : List Int} (h : KeptV w B g8 v xs) (hx : Ext w w') : KeptV w' B g8 v xs := h.imp id fun h => h.ext hx
theorem KeptV.done {w0 w : World} {B g8 : Nat} {v : Value} {xs ys : List Int} (h : KeptV w B g8 v xs) (e : xs = ys) (hB : w0.heap.size ≤ B) (hl : ys.length ≤ 4194304) (hx : Ext w0 w) : PInts w0 ys (.returned v) w := by
  subst e
  rcases h with ⟨rfl, rfl⟩ | h
  · exact ⟨_, rfl, ⟨_, 0, rfl, by simp, by unfold maxLen; simp, ⟨by simp, fun h => by cases h⟩, fun i hi => absurd hi (by simp)⟩, .inl ⟨rfl, _, 0, rfl, by simp, fun h => by cases h⟩, hx⟩
  · exact PInts.mk h hB hl hx
theorem two_c (ls : List Lst) (i j : Nat) (v : Value) (w : World) (lo : Nat) (h : Lsts w lo v [⟨(lstAt ls i).s⟩, ⟨(lstAt ls j).s⟩]) (hb : Hid (labsB [⟨(lstAt ls i).s⟩, ⟨(lstAt ls j).s⟩])) :
    Calls Try.prog 114 #[v] w (PInts w (twoL ls i j)) := allLabels_c _ v w lo h hb (by simp)

set_option maxHeartbeats 6400000 in
theorem keptLabels_c (ls : List Lst) (out : List Int) (lv ov : Value) (i j : Nat) (w : World) (l1 l2 : Nat) (h1 : Lsts w l1 lv ls) (h2 : Ints w l2 ov out) (hi : i < ls.length) (hj : j < ls.length) (hb : Hid (labsB ls)) (h8 : ls.length ≤ 8) (ho : out.length ≤ 2000000) :
    Calls Try.prog 100 #[lv, ov, .int .i64 i, .int .i64 j] w (PInts w (kptL ls out i j)) := by
  obtain ⟨p1, c1, rfl⟩ := h1.form
  obtain ⟨p2, c2, rfl⟩ := h2.form
  have hlo := h2.len
  have h2' := Lib.hid h2
  clear h2
  go_enter Try.func100, Try.ntmps100
  go_wp2_with (at_builtin; refine wpList_app0C rfl (.tmp 15) (.tmp 16) rfl rfl rfl (OwnI.lit0 (w) w.heap.size (by simp)) (by simp) (h2'.out.ext qXt) ?_)
  intro g r w1 O1 x1 hg7 hg8 cz
  clear hg7 hg8 cz
  have X1 : Ext w w1 := Ext.trans qXt x1
  clear x1
  replace O1 := Lib.hid O1
  go_wp2_with fail
  go_loopw [9, 20] (fun gv t wr => ∃ (k : Nat), k ≤ ls.length ∧ t = .int .i64 k ∧ Hid (OwnI wr w.heap.size gv (needL ls out i j k)) ∧ Ext w wr) (fun _ t _ => ls.length - (intOf t).toNat)
  case atStart => exact ⟨0, Nat.zero_le _, rfl, Lib.hid (by rw [needL_zero]; exact O1.out.ext qXt), X1.trans qXt⟩
  case round =>
    clear O1 X1
    obtain ⟨k, hk, rfl, OG, Xr⟩ := hrel
    have hnl := needL_len (out := out) (i := i) (j := j) hb.out k hk
    have hsz := Xr.size
    obtain ⟨ga, gc, rfl⟩ := (OG.out.ints (by omega)).form
    by_cases hlt : k < ls.length
    · have hkI : (k : Int) < ls.length := by omega
      obtain ⟨bl, ol, u, cu, rfl, x0, i0⟩ := (h1.ext Xr).at k hlt
      clear h1
      replace i0 := Lib.hid i0
      by_cases hki : k = i
      · subst hki
        have hn : needL ls out k j (k+1) = needL ls out k j k := needL_skip (.inl rfl)
        replace hn := Lib.hid hn
        go_wp2_with fail
        go_roundw
        case rel => exact ⟨k + 1, by omega, by go_num, Lib.hid (by rw [hn.out]; exact OG.out.ext qXt), Xr.trans qXt⟩
        case measure => simp [intOf]; omega
      · have hc : ¬ (k : Int) = (i : Int) := by omega
        by_cases hkj : k = j
        · subst hkj
          have hn : needL ls out i k (k+1) = needL ls out i k k := needL_skip (.inr rfl)
          replace hn := Lib.hid hn
          go_wp2_with fail
          go_roundw
          case rel => exact ⟨k + 1, by omega, by go_num, Lib.hid (by rw [hn.out]; exact OG.out.ext qXt), Xr.trans qXt⟩
          case measure => simp [intOf]; omega
        · have hd : ¬ (k : Int) = (j : Int) := by omega
          have hn : needL ls out i j (k+1) = needL ls out i j k ++ (lstAt ls k).s := needL_go hki hkj
          have hr6 := (hb.out k hlt).2
          replace hn := Lib.hid hn
          generalize (lstAt ls k).s = S at *
          have EE : Ext wr wr := qXt
          have hx1 : ((k : Int) != (i : Int)) = true := bne_iff_ne.mpr hc
          have hx2 : ((k : Int) != (j : Int)) = true := bne_iff_ne.mpr hd
          go_wp2_with (
            at_builtin
            refine wpList_app rfl (.tmp 33) (.tmp 34) rfl rfl rfl (OG.out.ext qXt) (i0.out.ext qXt) (by omega) qSo ?_
            intro v2 w2 O2 hg7 hbl hv7
            clear hg7 hv7
            have X2 : Ext w w2 := Ext.below (Ext.trans Xr qXt) hbl (by omega)
            obtain ⟨ga2, gc2, rfl⟩ : ∃ a c, v2 = .slice a ((needL ls out i j k).length + S.length) c := by obtain ⟨a, c, h⟩ := (O2.ints (by rw [List.length_append]; omega)).form; exact ⟨a, c, by rw [h, List.length_append]⟩
            replace O2 := Lib.hid O2
            clear hbl EE x0 i0)
          go_wp2_with fail
          go_roundw
          case rel => exact ⟨k + 1, by omega, by go_num, Lib.hid (by rw [hn.out]; exact O2.out.ext qXt), X2.trans qXt⟩
          case measure => simp [intOf]; omega
    · obtain rfl : k = ls.length := by omega
      have hni : Ints wr 0 (.slice ga (needL ls out i j ls.length).length gc) (needL ls out i j ls.length) := (OG.out.ints (by omega)).lower (Nat.zero_le _)
      replace hni := Lib.hid hni
      clear OG
      go_wp2_with fail
      have hlaw := kept_law (out := out) hb.out hi hj
      have htl := twoL_len hb.out hi hj
      have htb := two_labs hb.out hi hj
      replace htb := Lib.hid htb
      replace hlaw := Lib.hid hlaw
      have XW : Ext w (wr.alloc (.cells #[] 3)) := qXt
      replace hni := Lib.hid (hni.out.ext (show Ext wr (wr.alloc (.cells #[] 3)) from qXt))
      obtain ⟨b1, q1, u1, d1, e1, y1, k1⟩ := (h1.ext XW).at i hi
      obtain ⟨b2, q2, u2, d2, e2, y2, k2⟩ := (h1.ext XW).at j hj
      subst e1
      cases e2
      generalize hWW : wr.alloc (.cells #[] 3) = W at *
      clear hWW
      generalize wr.heap.size = g8 at *
      clear h1
      replace k1 := Lib.hid k1
      replace k2 := Lib.hid k2
      clear hnl hsz Xr
      go_region_with (first
        | (go_at_call 114; refine (two_c ls i j _ _ 0 ?_ htb).mono ?_; exact (Lsts.lit2 k1.out k2.out).ext (Ext.drew (Ext.refl _)); rintro e w3 ⟨tv, rfl, i3, -, x3⟩; have X3 : Ext W w3 := Ext.trans qXt x3; obtain ⟨a3, c3, rfl⟩ := i3.form; replace i3 := i3.lower (Nat.zero_le _)))
      all_goals (
        try simp only [Act.put, qa, qb, qc, qD, qE, qF]
        replace i3 := Lib.hid i3
        replace hni := Lib.hid (hni.out.ext X3)
        replace x3 := Lib.hid x3
        have hsz3 := (XW.trans X3).size
        clear k1 k2 y1 y2
        go_wp2_with fail
        go_loopw [12, 49] (fun kv t wr => ∃ (k : Nat), k ≤ (twoL ls i j).length ∧ t = .int .i64 k ∧ Hid (KeptV wr w3.heap.size g8 kv (keptF ls out i j k)) ∧ Ext w3 wr) (fun _ t _ => (twoL ls i j).length - (intOf t).toNat)
        case atStart => exact ⟨0, Nat.zero_le _, rfl, Lib.hid (.inl ⟨rfl, rfl⟩), qXt⟩
        case round =>
          obtain ⟨k, hk, rfl, OG, Xr⟩ := hrel
          have hfl := keptF_len ls out i j k
          have hszr := Xr.size
          by_cases hlt : k < (twoL ls i j).length
          · have hkI : (k : Int) < (twoL ls i j).length := by omega
            obtain ⟨bl, ol, rfl, e0⟩ := (i3.out.ext Xr).at k hlt
            obtain ⟨x, hx⟩ : ∃ v, (twoL ls i j).getD k 0 = v := ⟨_, rfl⟩
            rw [hx] at e0
            replace hx := Lib.hid hx
            clear i3
            go_wp2_with fail
            refine (contains_c _ _ x _ _ (hni.out.ext (Xr.trans qXt))).mono ?_
            rintro e w4 ⟨rfl, rfl⟩
            by_cases hq : hasB (needL ls out i j ls.length) x = true
            · have hn := keptF_go hlt hx.out hq
              replace hn := Lib.hid hn
              have hkv := OG.out
              rcases hkv with ⟨he, rfl⟩ | ho1
              · replace he := Lib.hid he
                go_wp2_with (at_builtin; refine wpList_app0 rfl (.tmp 56) (.tmp 58) ⟨g8, 0, none⟩ rfl rfl rfl (by exact Ints.one _ 0 x (Nat.zero_le _)) ?_)
                intro v5 w5 O5 x5 hd5
                clear hd5
                have X5 : Ext w3 w5 := Xr.trans (Ext.trans qXt x5)
                have O5' : OwnI w5 w3.heap.size v5 (keptF ls out i j (k+1)) := by
                  rw [hn.out, he.out, List.nil_append]
                  exact (O5.ofNe (List.cons_ne_nil _ _)).lower (by first | omega | exact Nat.le_trans hszr (Ext.size (show Ext wr _ from qXt)) | (simp; omega))
                replace O5' := Lib.hid O5'
                obtain ⟨a5, n5, c5, rfl⟩ := O5'.out.any
                clear O5 x5
                go_wp2_with fail
                go_roundw
                case rel => exact ⟨k + 1, by omega, by go_num, Lib.hid (.inr (O5'.out.ext qXt)), X5.trans qXt⟩
                case measure => simp [intOf]; omega
              · obtain ⟨ga5, gn5, gc5, rfl⟩ := ho1.any
                replace ho1 := Lib.hid ho1
                clear OG
                go_wp2_with (
                  at_builtin
                  refine wpList_app rfl (.tmp 56) (.tmp 58) rfl rfl rfl (ho1.out.ext qXt) (by exact Ints.one _ 0 x (Nat.zero_le _)) (by simp only [List.length_cons, List.length_nil]; omega) qSo ?_
                  intro v5 w5 O5 hg7 hbl hv7
                  clear hg7 hv7
                  have X5 : Ext w3 w5 := Ext.below (Ext.trans Xr qXt) hbl (Nat.le_refl _)
                  obtain ⟨a5, n5, c5, rfl⟩ := O5.any
                  replace O5 := Lib.hid O5
                  clear hbl)
                go_wp2_with fail
                go_roundw
                case rel => exact ⟨k + 1, by omega, by go_num, Lib.hid (.inr (by rw [hn.out]; exact O5.out.ext qXt)), X5.trans qXt⟩
                case measure => simp [intOf]; omega
            · have hq2 : hasB (needL ls out i j ls.length) x = false := by simpa using hq
              have hn := keptF_skip hlt hx.out hq2
              replace hn := Lib.hid hn
              clear hq
              go_wp2_with fail
              go_roundw
              case rel => exact ⟨k + 1, by omega, by go_num, Lib.hid (by rw [hn.out]; exact OG.out.ext qXt), Xr.trans qXt⟩
              case measure => simp [intOf]; omega
          · obtain rfl : k = (twoL ls i j).length := by omega
            have X9 : Ext w wr := (XW.trans X3).trans Xr
            go_wp2_with fail
            go_ret
            exact KeptV.done OG.out hlaw.out hsz3 (by have := kptL_len ls out i j; omega) X9)
end Go.Proofs.Ytfbbnbpobojboaa

/- Walks: KeptLabels of both. No condition. -/
namespace Go.Proofs.Ytfbbnbpobojboaa
open Go.RowKit
set_option linter.unusedVariables false
set_option maxRecDepth 100000

theorem PInts.nilV {w w' : World} (h : Ext w w') : PInts w [] (.returned (.slice none 0 0)) w' := ⟨_, rfl, Ints.nil _ _ _ _ (by simp) (fun _ => rfl), .inl ⟨rfl, none, 0, rfl, by simp, fun _ => rfl⟩, h⟩
def prB (n : Nat) (i j : Int) : Bool := decide (0 ≤ i ∧ i < n ∧ 0 ≤ j ∧ j < n ∧ ¬ i = j)
set_option maxHeartbeats 3200000 in
theorem arePair_c (n : Nat) (a : Option Addr) (c : Nat) (i j : Int) (w : World) :
    Calls Try.prog 98 #[.slice a n c, .int .i64 i, .int .i64 j] w (fun e w' => e = .returned (.bool (prB n i j)) ∧ Ext w w') := by
  by_cases h0 : 0 ≤ i
  · skip
    by_cases h1 : i < n
    · skip
      by_cases h2 : 0 ≤ j
      · skip
        by_cases h3 : j < n
        · skip
          by_cases hq : i = j
          · subst hq
            go_enter Try.func98, Try.ntmps98
            go_wp2_with fail
            go_ret
            exact ⟨by rw [show prB n i i = false from by unfold prB; first | exact decide_eq_false (by omega) | exact decide_eq_true (by omega)] <;> rfl, qXt⟩
          · have hx : (i != j) = true := bne_iff_ne.mpr hq
            go_enter Try.func98, Try.ntmps98
            go_wp2_with fail
            go_ret
            exact ⟨by rw [show prB n i j = true from by unfold prB; first | exact decide_eq_false (by omega) | exact decide_eq_true (by omega)] <;> rfl, qXt⟩
        · skip
          go_enter Try.func98, Try.ntmps98
          go_wp2_with fail
          go_ret
          exact ⟨by rw [show prB n i j = false from by unfold prB; first | exact decide_eq_false (by omega) | exact decide_eq_true (by omega)] <;> rfl, qXt⟩
      · skip
        go_enter Try.func98, Try.ntmps98
        go_wp2_with fail
        go_ret
        exact ⟨by rw [show prB n i j = false from by unfold prB; first | exact decide_eq_false (by omega) | exact decide_eq_true (by omega)] <;> rfl, qXt⟩
    · skip
      go_enter Try.func98, Try.ntmps98
      go_wp2_with fail
      go_ret
      exact ⟨by rw [show prB n i j = false from by unfold prB; first | exact decide_eq_false (by omega) | exact decide_eq_true (by omega)] <;> rfl, qXt⟩
  · skip
    go_enter Try.func98, Try.ntmps98
    go_wp2_with fail
    go_ret
    exact ⟨by rw [show prB n i j = false from by unfold prB; first | exact decide_eq_false (by omega) | exact decide_eq_true (by omega)] <;> rfl, qXt⟩

end Go.Proofs.Ytfbbnbpobojboaa

/- Walks: KeptLabels of both. No condition. -/
namespace Go.Proofs.Ytfbbnbpobojboaa
open Go.RowKit
set_option linter.unusedVariables false
set_option maxRecDepth 100000

set_option maxHeartbeats 3200000 in
theorem implKept_0 (ts : List Ten) (ls : List Lst) (out : List Int) (tv lv ov : Value) (i j : Int) (w : World) (l1 l2 l3 : Nat) (h1 : Tens w l1 tv ts) (h2 : Lsts w l2 lv ls) (h3 : Ints w l3 ov out) (ho : out.length ≤ 2000000) (he : Hid (extA ts ls = none)) :
    Calls Try.prog 39 #[tv, lv, ov, .int .i64 i, .int .i64 j] w (PInts w (kptA ts ls out i j)) := by
  obtain ⟨p0, c0, rfl⟩ := h1.form
  obtain ⟨p1, c1, rfl⟩ := h2.form
  obtain ⟨p2, c2, rfl⟩ := h3.form
  have hlt1 := h1.len
  have hlt2 := h2.len
  go_enter Try.func39, Try.ntmps39
  go_wp2_with fail
  refine (pie_none he.out (extentsOf_c ts ls (.slice p0 ts.length c0) (.slice p1 ls.length c1) _ _ _ (h1.ext qXt) (h2.ext qXt))).mono ?_
  rintro e w1 ⟨fv1, rfl, i2, -, xw1⟩
  have X1 : Ext w w1 := Ext.trans qXt xw1
  clear xw1
  obtain ⟨afv1, cfv1, rfl⟩ := i2.form
  clear i2
  go_wp2_with fail
  go_ret
  rw [kptA_none he.out]
  exact PInts.nilV (X1.trans qXt)
set_option maxHeartbeats 6400000 in
theorem implKept_1 (ts : List Ten) (ls : List Lst) (out : List Int) (tv lv ov : Value) (i j : Int) (w : World) (l1 l2 l3 : Nat) (h1 : Tens w l1 tv ts) (h2 : Lsts w l2 lv ls) (h3 : Ints w l3 ov out) (ho : out.length ≤ 2000000) (x : List Int) (he : Hid (extA ts ls = some x)) :
    Calls Try.prog 39 #[tv, lv, ov, .int .i64 i, .int .i64 j] w (PInts w (kptA ts ls out i j)) := by
  obtain ⟨p0, c0, rfl⟩ := h1.form
  obtain ⟨p1, c1, rfl⟩ := h2.form
  obtain ⟨p2, c2, rfl⟩ := h3.form
  have hlt1 := h1.len
  have hlt2 := h2.len
  obtain ⟨f5, f1, f2, f3, f4, f6⟩ := extA_fact he.out
  have hlb : Hid (labsB ls) := Lib.hid (fun i hi => ⟨(f4 i hi).1, by have := (f4 i hi).2; omega⟩)
  have f7 : ls.length ≤ 8 := by omega
  have f8 : ts.length ≤ ls.length := by omega
  clear f4 f6 f5 f1
  go_enter Try.func39, Try.ntmps39
  go_wp2_with fail
  refine (pie_some he.out (extentsOf_c ts ls (.slice p0 ts.length c0) (.slice p1 ls.length c1) _ _ _ (h1.ext qXt) (h2.ext qXt))).mono ?_
  rintro e w1 ⟨fv1, rfl, i2, -, xw1⟩
  have X1 : Ext w w1 := Ext.trans qXt xw1
  clear xw1
  obtain ⟨afv1, cfv1, rfl⟩ := i2.form
  clear i2
  go_wp2_with fail
  refine (arePair_c ts.length p0 c0 i j _).mono ?_
  rintro e w2 ⟨rfl, x2⟩
  replace X1 := X1.trans (Ext.trans qXt x2)
  clear x2
  by_cases hp : 0 ≤ i ∧ i < ts.length ∧ 0 ≤ j ∧ j < ts.length ∧ ¬ i = j
  · rw [show prB ts.length i j = true from decide_eq_true hp]
    obtain ⟨a, rfl⟩ : ∃ a : Nat, i = a := ⟨i.toNat, by omega⟩
    obtain ⟨b, rfl⟩ : ∃ b : Nat, j = b := ⟨j.toNat, by omega⟩
    have hi : a < ls.length := by omega
    have hj : b < ls.length := by omega
    replace hp := Lib.hid hp
    go_wp2_with fail
    refine (areLabels_c out _ _ _ (h3.ext (X1.trans qXt))).mono ?_
    rintro e w3 ⟨rfl, x3⟩
    replace X1 := X1.trans (Ext.trans qXt x3)
    clear x3
    replace hp := hp.out
    cases hb : labB out with
    | true =>
      have ha : Hid (kptA ts ls out (a : Int) (b : Int) = kptL ls out a b) := Lib.hid (by rw [kptA_yes he.out hb hp, Int.toNat_natCast, Int.toNat_natCast])
      replace hb := Lib.hid hb
      replace hp := Lib.hid hp
      go_wp2_with fail
      refine (keptLabels_c ls out _ _ a b _ _ _ (h2.ext (X1.trans qXt)) (h3.ext (X1.trans qXt)) hi hj hlb f7 ho).mono ?_
      rintro e w5 ⟨v5, rfl, i5, o5, x5⟩
      have X5 : Ext w w5 := X1.trans (Ext.trans qXt x5)
      obtain ⟨a5, c5, rfl⟩ := i5.form
      go_wp2_with fail
      go_ret
      rw [ha.out]
      exact ⟨_, rfl, (i5.lower (Ext.size (X1.trans qXt))).ext qXt, (o5.lower (Ext.size (X1.trans qXt))).ext qXt, X5.trans qXt⟩
    | false =>
      replace hp := Lib.hid hp
      replace hb := Lib.hid hb
      go_wp2_with fail
      go_ret
      rw [kptA_lab hb.out]
      exact PInts.nilV (X1.trans qXt)
  · rw [show prB ts.length i j = false from decide_eq_false hp]
    replace hp := Lib.hid hp
    go_wp2_with fail
    go_ret
    rw [kptA_pair hp.out]
    exact PInts.nilV (X1.trans qXt)
theorem implKeptLabels_c (ts : List Ten) (ls : List Lst) (out : List Int) (tv lv ov : Value) (i j : Int) (w : World) (l1 l2 l3 : Nat) (h1 : Tens w l1 tv ts) (h2 : Lsts w l2 lv ls) (h3 : Ints w l3 ov out) (ho : out.length ≤ 2000000) :
    Calls Try.prog 39 #[tv, lv, ov, .int .i64 i, .int .i64 j] w (PInts w (kptA ts ls out i j)) := by
  cases he : extA ts ls with
  | none => exact implKept_0 ts ls out tv lv ov i j w l1 l2 l3 h1 h2 h3 ho (Lib.hid he)
  | some x => exact implKept_1 ts ls out tv lv ov i j w l1 l2 l3 h1 h2 h3 ho x (Lib.hid he)

end Go.Proofs.Ytfbbnbpobojboaa

/- Walks: KeptLabels of both. No condition. -/
namespace Go.Proofs.Ytfbbnbpobojboaa
open Go.RowKit
set_option linter.unusedVariables false
set_option maxRecDepth 100000

set_option maxHeartbeats 6400000 in
theorem keepFor_c (ls : List Lst) (out : List Int) (lv ov : Value) (i j : Nat) (w : World) (l1 l2 : Nat) (h1 : Lsts w l1 lv ls) (h2 : Ints w l2 ov out) (hi : i < ls.length) (hj : j < ls.length) :
    Calls Try.prog 95 #[lv, ov, .int .i64 i, .int .i64 j] w (PInts w (kptL ls out i j)) := by
  obtain ⟨p1, c1, rfl⟩ := h1.form
  obtain ⟨p2, c2, rfl⟩ := h2.form
  have hll := h1.len
  have h2' := Lib.hid h2
  clear h2
  go_enter Try.func95, Try.ntmps95
  go_wp2_with fail
  go_loopw [9, 10] (fun gv t wr => ∃ (k : Nat), k ≤ 5 ∧ t = .int .i64 k ∧ Hid (OwnI wr w.heap.size gv (labN (kptP ls out i j) k)) ∧ Ext w wr) (fun _ t _ => 5 - (intOf t).toNat)
  case atStart => exact ⟨0, by omega, rfl, Lib.hid (OwnI.lit0 w w.heap.size (Nat.le_refl _)), qXt⟩
  case round =>
    obtain ⟨k, hk, rfl, OG, Xr⟩ := hrel
    have hfl := labN_le (kptP ls out i j) k
    have hszr := Xr.size
    obtain ⟨ga, gn, gc, rfl⟩ := OG.out.any
    by_cases hlt : k < 5
    · have hkI : (k : Int) ≤ 4 := by omega
      obtain ⟨bl, ol, u1, d1, rfl, x0, i0⟩ := (h1.ext Xr).at i hi
      obtain ⟨b2, o2, u2, d2, e2, y0, i2⟩ := (h1.ext Xr).at j hj
      cases e2
      replace i0 := Lib.hid i0
      replace i2 := Lib.hid i2
      go_wp2_with fail
      refine (placeIn_c (lstAt ls i).s _ (k : Int) _ _ (i0.out.ext qXt)).mono ?_
      rintro e w2 ⟨rfl, rfl⟩
      by_cases c1 : placeL (lstAt ls i).s k < 0
      · have g1 := place_no c1
        replace g1 := Lib.hid g1
        go_wp2_with fail
        refine (placeIn_c (lstAt ls j).s _ (k : Int) _ _ (i2.out.ext qXt)).mono ?_
        rintro e w3 ⟨rfl, rfl⟩
        by_cases c2 : placeL (lstAt ls j).s k < 0
        · have hn := kpt_skip (ls := ls) (out := out) (i := i) (j := j) (k := k) (by unfold kptP; rw [g1.out, place_no c2]; rfl)
          replace hn := Lib.hid hn
          go_wp2_with fail
          go_roundw
          case rel => exact ⟨k + 1, by omega, by go_num, Lib.hid (by rw [hn.out]; exact OG.out.ext qXt), Xr.trans qXt⟩
          case measure => simp [intOf]; omega
        · have g2 := place_yes c2
          replace g2 := Lib.hid g2
          go_wp2_with fail
          refine (placeIn_c out _ (k : Int) _ _ (h2'.out.ext (Xr.trans qXt))).mono ?_
          rintro e w6 ⟨rfl, rfl⟩
          go_wp2_with fail
          go_loopw [11, 12] (fun b t wi => ∃ (m : Nat), m ≤ ls.length ∧ t = .int .i64 m ∧ b = .bool (needB ls out i j k m) ∧ Ext wr wi) (fun _ t _ => ls.length - (intOf t).toNat)
          case atStart => exact ⟨0, Nat.zero_le _, rfl, by rw [needB_zero, place_has], qXt⟩
          case round =>
            obtain ⟨m, hm, rfl, rfl, X2⟩ := hrel
            by_cases hlm : m < ls.length
            · have hmI : (m : Int) < ls.length := by omega
              cases hnb : needB ls out i j k m with
              | true =>
                have hn2 := needB_yes hnb
                replace hn2 := Lib.hid hn2
                clear hnb
                go_wp2_with fail
                go_roundw
                case rel => exact ⟨m + 1, by omega, by go_num, by rw [hn2.out], X2.trans qXt⟩
                case measure => simp [intOf]; omega
              | false =>
                by_cases hmi : m = i
                · have hn2 : needB ls out i j k (m+1) = false := by rw [needB_skip (.inl hmi)]; exact hnb
                  subst hmi
                  replace hn2 := Lib.hid hn2
                  clear hnb
                  go_wp2_with fail
                  go_roundw
                  case rel => exact ⟨m + 1, by omega, by go_num, by rw [hn2.out], X2.trans qXt⟩
                  case measure => simp [intOf]; omega
                · have hc : ¬ (m : Int) = (i : Int) := by omega
                  have hx1 : ((m : Int) != (i : Int)) = true := bne_iff_ne.mpr hc
                  by_cases hmj : m = j
                  · have hn2 : needB ls out i j k (m+1) = false := by rw [needB_skip (.inr hmj)]; exact hnb
                    subst hmj
                    replace hn2 := Lib.hid hn2
                    clear hnb
                    go_wp2_with fail
                    go_roundw
                    case rel => exact ⟨m + 1, by omega, by go_num, by rw [hn2.out], X2.trans qXt⟩
                    case measure => simp [intOf]; omega
                  · have hd : ¬ (m : Int) = (j : Int) := by omega
                    have hx2 : ((m : Int) != (j : Int)) = true := bne_iff_ne.mpr hd
                    have hn2 : needB ls out i j k (m+1) = hasB (lstAt ls m).s k := by rw [needB_go hmi hmj, hnb, Bool.false_or]
                    replace hn2 := Lib.hid hn2
                    clear hnb
                    obtain ⟨bm, om, u3, d3, e3, z0, i3⟩ := (h1.ext (Xr.trans X2)).at m hlm
                    cases e3
                    replace i3 := Lib.hid i3
                    go_wp2_with fail
                    refine (placeIn_c (lstAt ls m).s _ (k : Int) _ _ (i3.out.ext qXt)).mono ?_
                    rintro e w7 ⟨rfl, rfl⟩
                    go_wp2_with fail
                    go_roundw
                    case rel => exact ⟨m + 1, by omega, by go_num, by rw [hn2.out, place_has], X2.trans qXt⟩
                    case measure => simp [intOf]; omega
            · obtain rfl : m = ls.length := by omega
              have X3 := Xr.trans X2
              cases hnb : needB ls out i j k ls.length with
              | true =>
                have hn := kpt_go (ls := ls) (out := out) (i := i) (j := j) (k := k) (by unfold kptP; rw [hnb, g1.out, g2.out]; rfl)
                replace hn := Lib.hid hn
                clear hnb
                go_wp2_with (
                  at_builtin
                  refine wpList_app rfl (.tmp 65) (.tmp 67) rfl rfl rfl (OG.out.ext (X2.trans qXt)) (by exact Ints.one _ 0 (k : Int) (Nat.zero_le _)) (by simp only [List.length_cons, List.length_nil]; omega) (by have := X2.size; first | (simp; done) | (simp; omega) | omega) ?_
                  intro v5 w5 O5 hg7 hbl hv7
                  clear hg7 hv7
                  have X5 : Ext w w5 := Ext.below (Ext.trans X3 qXt) hbl (Nat.le_refl _)
                  obtain ⟨a5, n5, c5, rfl⟩ := O5.any
                  replace O5 := Lib.hid O5
                  clear hbl)
                go_wp2_with fail
                go_roundw
                case rel => exact ⟨k + 1, by omega, by go_num, Lib.hid (by rw [hn.out]; exact O5.out.ext qXt), X5.trans qXt⟩
                case measure => simp [intOf]; omega
              | false =>
                have hn := kpt_skip (ls := ls) (out := out) (i := i) (j := j) (k := k) (by unfold kptP; rw [hnb, Bool.and_false])
                replace hn := Lib.hid hn
                clear hnb
                go_wp2_with fail
                go_roundw
                case rel => exact ⟨k + 1, by omega, by go_num, Lib.hid (by rw [hn.out]; exact OG.out.ext (X2.trans qXt)), X3.trans qXt⟩
                case measure => simp [intOf]; omega
      · have g1 := place_yes c1
        replace g1 := Lib.hid g1
        go_wp2_with fail
        refine (placeIn_c out _ (k : Int) _ _ (h2'.out.ext (Xr.trans qXt))).mono ?_
        rintro e w6 ⟨rfl, rfl⟩
        go_wp2_with fail
        go_loopw [11, 12] (fun b t wi => ∃ (m : Nat), m ≤ ls.length ∧ t = .int .i64 m ∧ b = .bool (needB ls out i j k m) ∧ Ext wr wi) (fun _ t _ => ls.length - (intOf t).toNat)
        case atStart => exact ⟨0, Nat.zero_le _, rfl, by rw [needB_zero, place_has], qXt⟩
        case round =>
          obtain ⟨m, hm, rfl, rfl, X2⟩ := hrel
          by_cases hlm : m < ls.length
          · have hmI : (m : Int) < ls.length := by omega
            cases hnb : needB ls out i j k m with
            | true =>
              have hn2 := needB_yes hnb
              replace hn2 := Lib.hid hn2
              clear hnb
              go_wp2_with fail
              go_roundw
              case rel => exact ⟨m + 1, by omega, by go_num, by rw [hn2.out], X2.trans qXt⟩
              case measure => simp [intOf]; omega
            | false =>
              by_cases hmi : m = i
              · have hn2 : needB ls out i j k (m+1) = false := by rw [needB_skip (.inl hmi)]; exact hnb
                subst hmi
                replace hn2 := Lib.hid hn2
                clear hnb
                go_wp2_with fail
                go_roundw
                case rel => exact ⟨m + 1, by omega, by go_num, by rw [hn2.out], X2.trans qXt⟩
                case measure => simp [intOf]; omega
              · have hc : ¬ (m : Int) = (i : Int) := by omega
                have hx1 : ((m : Int) != (i : Int)) = true := bne_iff_ne.mpr hc
                by_cases hmj : m = j
                · have hn2 : needB ls out i j k (m+1) = false := by rw [needB_skip (.inr hmj)]; exact hnb
                  subst hmj
                  replace hn2 := Lib.hid hn2
                  clear hnb
                  go_wp2_with fail
                  go_roundw
                  case rel => exact ⟨m + 1, by omega, by go_num, by rw [hn2.out], X2.trans qXt⟩
                  case measure => simp [intOf]; omega
                · have hd : ¬ (m : Int) = (j : Int) := by omega
                  have hx2 : ((m : Int) != (j : Int)) = true := bne_iff_ne.mpr hd
                  have hn2 : needB ls out i j k (m+1) = hasB (lstAt ls m).s k := by rw [needB_go hmi hmj, hnb, Bool.false_or]
                  replace hn2 := Lib.hid hn2
                  clear hnb
                  obtain ⟨bm, om, u3, d3, e3, z0, i3⟩ := (h1.ext (Xr.trans X2)).at m hlm
                  cases e3
                  replace i3 := Lib.hid i3
                  go_wp2_with fail
                  refine (placeIn_c (lstAt ls m).s _ (k : Int) _ _ (i3.out.ext qXt)).mono ?_
                  rintro e w7 ⟨rfl, rfl⟩
                  go_wp2_with fail
                  go_roundw
                  case rel => exact ⟨m + 1, by omega, by go_num, by rw [hn2.out, place_has], X2.trans qXt⟩
                  case measure => simp [intOf]; omega
          · obtain rfl : m = ls.length := by omega
            have X3 := Xr.trans X2
            cases hnb : needB ls out i j k ls.length with
            | true =>
              have hn := kpt_go (ls := ls) (out := out) (i := i) (j := j) (k := k) (by unfold kptP; rw [hnb, g1.out]; rfl)
              replace hn := Lib.hid hn
              clear hnb
              go_wp2_with (
                at_builtin
                refine wpList_app rfl (.tmp 65) (.tmp 67) rfl rfl rfl (OG.out.ext (X2.trans qXt)) (by exact Ints.one _ 0 (k : Int) (Nat.zero_le _)) (by simp only [List.length_cons, List.length_nil]; omega) (by have := X2.size; first | (simp; done) | (simp; omega) | omega) ?_
                intro v5 w5 O5 hg7 hbl hv7
                clear hg7 hv7
                have X5 : Ext w w5 := Ext.below (Ext.trans X3 qXt) hbl (Nat.le_refl _)
                obtain ⟨a5, n5, c5, rfl⟩ := O5.any
                replace O5 := Lib.hid O5
                clear hbl)
              go_wp2_with fail
              go_roundw
              case rel => exact ⟨k + 1, by omega, by go_num, Lib.hid (by rw [hn.out]; exact O5.out.ext qXt), X5.trans qXt⟩
              case measure => simp [intOf]; omega
            | false =>
              have hn := kpt_skip (ls := ls) (out := out) (i := i) (j := j) (k := k) (by unfold kptP; rw [hnb, Bool.and_false])
              replace hn := Lib.hid hn
              clear hnb
              go_wp2_with fail
              go_roundw
              case rel => exact ⟨k + 1, by omega, by go_num, Lib.hid (by rw [hn.out]; exact OG.out.ext (X2.trans qXt)), X3.trans qXt⟩
              case measure => simp [intOf]; omega
    · obtain rfl : k = 5 := by omega
      go_wp2_with fail
      go_ret
      exact PInts.mk (OG.out.ext qXt) (Nat.le_refl _) (by have := kptL_len ls out i j; omega) (Xr.trans qXt)
end Go.Proofs.Ytfbbnbpobojboaa

/- Walks: KeptLabels of both. No condition. -/
namespace Go.Proofs.Ytfbbnbpobojboaa
open Go.RowKit
set_option linter.unusedVariables false
set_option maxRecDepth 100000

set_option maxHeartbeats 3200000 in
theorem specKept_0 (ts : List Ten) (ls : List Lst) (out : List Int) (tv lv ov : Value) (i j : Int) (w : World) (l1 l2 l3 : Nat) (h1 : Tens w l1 tv ts) (h2 : Lsts w l2 lv ls) (h3 : Ints w l3 ov out) (ho : out.length ≤ 2000000) (he : Hid (extA ts ls = none)) :
    Calls Try.prog 35 #[tv, lv, ov, .int .i64 i, .int .i64 j] w (PInts w (kptA ts ls out i j)) := by
  obtain ⟨p0, c0, rfl⟩ := h1.form
  obtain ⟨p1, c1, rfl⟩ := h2.form
  obtain ⟨p2, c2, rfl⟩ := h3.form
  have hlt1 := h1.len
  have hlt2 := h2.len
  go_enter Try.func35, Try.ntmps35
  go_wp2_with fail
  refine (pie_none he.out (specExtentsOf_c ts ls (.slice p0 ts.length c0) (.slice p1 ls.length c1) _ _ _ (h1.ext qXt) (h2.ext qXt))).mono ?_
  rintro e w1 ⟨fv1, rfl, i2, -, xw1⟩
  have X1 : Ext w w1 := Ext.trans qXt xw1
  clear xw1
  obtain ⟨afv1, cfv1, rfl⟩ := i2.form
  clear i2
  go_wp2_with fail
  go_ret
  rw [kptA_none he.out]
  exact PInts.nilV (X1.trans qXt)
set_option maxHeartbeats 6400000 in
theorem specKept_1 (ts : List Ten) (ls : List Lst) (out : List Int) (tv lv ov : Value) (i j : Int) (w : World) (l1 l2 l3 : Nat) (h1 : Tens w l1 tv ts) (h2 : Lsts w l2 lv ls) (h3 : Ints w l3 ov out) (ho : out.length ≤ 2000000) (x : List Int) (he : Hid (extA ts ls = some x)) :
    Calls Try.prog 35 #[tv, lv, ov, .int .i64 i, .int .i64 j] w (PInts w (kptA ts ls out i j)) := by
  obtain ⟨p0, c0, rfl⟩ := h1.form
  obtain ⟨p1, c1, rfl⟩ := h2.form
  obtain ⟨p2, c2, rfl⟩ := h3.form
  have hlt1 := h1.len
  have hlt2 := h2.len
  obtain ⟨f5, f1, f2, f3, f4, f6⟩ := extA_fact he.out
  have hlb : Hid (labsB ls) := Lib.hid (fun i hi => ⟨(f4 i hi).1, by have := (f4 i hi).2; omega⟩)
  have f7 : ls.length ≤ 8 := by omega
  have f8 : ts.length ≤ ls.length := by omega
  clear f4 f6 f5 f1
  go_enter Try.func35, Try.ntmps35
  go_wp2_with fail
  refine (pie_some he.out (specExtentsOf_c ts ls (.slice p0 ts.length c0) (.slice p1 ls.length c1) _ _ _ (h1.ext qXt) (h2.ext qXt))).mono ?_
  rintro e w1 ⟨fv1, rfl, i2, -, xw1⟩
  have X1 : Ext w w1 := Ext.trans qXt xw1
  clear xw1
  obtain ⟨afv1, cfv1, rfl⟩ := i2.form
  clear i2
  have hwl : IntKind.i64.wrap ((ts.length : Int) - 1) = (ts.length : Int) - 1 := IntWalk.i64_in _ (by omega)
  go_wp2_with fail
  refine (allIn_c out _ 0 4 _ _ (h3.ext (X1.trans qXt))).mono ?_
  rintro e w2 ⟨rfl, rfl⟩
  cases hb : out.all (inB 0 4) with
  | false =>
    have hb' : labB out = false := hb
    replace hb' := Lib.hid hb'
    clear hb
    go_wp2_with fail
    go_ret
    rw [kptA_lab hb'.out]
    exact PInts.nilV (X1.trans qXt)
  | true =>
    have hb' : labB out = true := hb
    replace hb' := Lib.hid hb'
    clear hb
    go_wp2_with fail
    refine (inRange_c i 0 ((ts.length : Int) - 1) _).mono ?_
    rintro e w2 ⟨rfl, rfl⟩
    by_cases hp1 : 0 ≤ i ∧ i < ts.length
    · rw [show inB 0 ((ts.length : Int) - 1) i = true from by unfold inB; simp; omega]
      replace hp1 := Lib.hid hp1
      go_wp2_with fail
      refine (inRange_c j 0 ((ts.length : Int) - 1) _).mono ?_
      rintro e w2 ⟨rfl, rfl⟩
      by_cases hp2 : 0 ≤ j ∧ j < ts.length
      · rw [show inB 0 ((ts.length : Int) - 1) j = true from by unfold inB; simp; omega]
        replace hp2 := Lib.hid hp2
        by_cases hq : i = j
        · subst hq
          have hk : Hid (kptA ts ls out i i = []) := Lib.hid (kptA_pair (by intro h; omega))
          go_wp2_with fail
          go_ret
          rw [hk.out]
          exact PInts.nilV (X1.trans qXt)
        · have hp : 0 ≤ i ∧ i < ts.length ∧ 0 ≤ j ∧ j < ts.length ∧ ¬ i = j := ⟨hp1.out.1, hp1.out.2, hp2.out.1, hp2.out.2, hq⟩
          have hx : (i == j) = false := by simpa using hq
          have hb := hb'.out
          obtain ⟨a, rfl⟩ : ∃ a : Nat, i = a := ⟨i.toNat, by omega⟩
          obtain ⟨b, rfl⟩ : ∃ b : Nat, j = b := ⟨j.toNat, by omega⟩
          have hi : a < ls.length := by omega
          have hj : b < ls.length := by omega
          clear hp1 hp2 hb'
          have ha : Hid (kptA ts ls out (a : Int) (b : Int) = kptL ls out a b) := Lib.hid (by rw [kptA_yes he.out hb hp, Int.toNat_natCast, Int.toNat_natCast])
          replace hb := Lib.hid hb
          replace hp := Lib.hid hp
          go_wp2_with fail
          refine (keepFor_c ls out _ _ a b _ _ _ (h2.ext (X1.trans qXt)) (h3.ext (X1.trans qXt)) hi hj).mono ?_
          rintro e w5 ⟨v5, rfl, i5, o5, x5⟩
          have X5 : Ext w w5 := X1.trans (Ext.trans qXt x5)
          obtain ⟨a5, c5, rfl⟩ := i5.form
          go_wp2_with fail
          go_ret
          rw [ha.out]
          exact ⟨_, rfl, (i5.lower (Ext.size (X1.trans qXt))).ext qXt, (o5.lower (Ext.size (X1.trans qXt))).ext qXt, X5.trans qXt⟩
      · rw [show inB 0 ((ts.length : Int) - 1) j = false from by unfold inB; simp; omega]
        have hk : Hid (kptA ts ls out i j = []) := Lib.hid (kptA_pair (by intro h; exact hp2 ⟨h.2.2.1, h.2.2.2.1⟩))
        clear hp2
        go_wp2_with fail
        go_ret
        rw [hk.out]
        exact PInts.nilV (X1.trans qXt)
    · rw [show inB 0 ((ts.length : Int) - 1) i = false from by unfold inB; simp; omega]
      have hk : Hid (kptA ts ls out i j = []) := Lib.hid (kptA_pair (by intro h; exact hp1 ⟨h.1, h.2.1⟩))
      clear hp1
      go_wp2_with fail
      go_ret
      rw [hk.out]
      exact PInts.nilV (X1.trans qXt)
theorem specKeptLabels_c (ts : List Ten) (ls : List Lst) (out : List Int) (tv lv ov : Value) (i j : Int) (w : World) (l1 l2 l3 : Nat) (h1 : Tens w l1 tv ts) (h2 : Lsts w l2 lv ls) (h3 : Ints w l3 ov out) (ho : out.length ≤ 2000000) :
    Calls Try.prog 35 #[tv, lv, ov, .int .i64 i, .int .i64 j] w (PInts w (kptA ts ls out i j)) := by
  cases he : extA ts ls with
  | none => exact specKept_0 ts ls out tv lv ov i j w l1 l2 l3 h1 h2 h3 ho (Lib.hid he)
  | some x => exact specKept_1 ts ls out tv lv ov i j w l1 l2 l3 h1 h2 h3 ho x (Lib.hid he)

end Go.Proofs.Ytfbbnbpobojboaa

/- Words for memory: a family of rows of ints, each in a block of its own. No condition. -/
namespace Go.Proofs.Ytfbbnbpobojboaa
open Go.RowKit
set_option linter.unusedVariables false
set_option maxRecDepth 100000

/-- n rows, the p-th of N p numbers, in blocks of their own from lo on and below hi -/
structure Fam (w : World) (lo hi n : Nat) (R : Nat → Value) (N : Nat → Nat) : Prop where
  nest : ∀ p, p < n → ∃ xs : List Int, xs.length = N p ∧ OwnZ w lo (R p) xs
  lens : ∀ p, p < n → N p ≤ 4194304
  apart : ∀ p q, p < n → q < n → p ≠ q → N p ≠ 0 → N q ≠ 0 → (R p).ownBlock ≠ (R q).ownBlock
  top : ∀ p, p < n → N p ≠ 0 → ∀ g, (R p).ownBlock = some g → g < hi
section
variable {w w' : World} {lo hi n : Nat} {R : Nat → Value} {N : Nat → Nat}
theorem Fam.zero : Fam w lo hi 0 R N := ⟨fun p h => absurd h (Nat.not_lt_zero _), fun p h => absurd h (Nat.not_lt_zero _), fun p _ h => absurd h (Nat.not_lt_zero _), fun p h => absurd h (Nat.not_lt_zero _)⟩
theorem Fam.ext (h : Fam w lo hi n R N) (hx : Ext w w') : Fam w' lo hi n R N :=
  ⟨fun p hp => by obtain ⟨xs, e, o⟩ := h.nest p hp; exact ⟨xs, e, o.ext hx⟩, h.lens, h.apart, h.top⟩
theorem Fam.chg {l u : Nat} (h : Fam w lo hi n R N) (k : Chg l u w w') (hu : u ≤ lo) : Fam w' lo hi n R N :=
  ⟨fun p hp => by obtain ⟨xs, e, o⟩ := h.nest p hp; exact ⟨xs, e, o.chg k hu⟩, h.lens, h.apart, h.top⟩
theorem Fam.up {hi' : Nat} (h : Fam w lo hi n R N) (hh : hi ≤ hi') : Fam w lo hi' n R N :=
  ⟨h.nest, h.lens, h.apart, fun p hp hn g hg => Nat.lt_of_lt_of_le (h.top p hp hn g hg) hh⟩
theorem Fam.add {R' : Nat → Value} {xs : List Int} (h : Fam w lo hi n R N) (o : OwnZ w lo (R' n) xs) (e : xs.length = N n) (hl : N n ≤ 4194304) (hR : ∀ p, p < n → R' p = R p)
    (ha : N n ≠ 0 → ∀ p, p < n → N p ≠ 0 → (R p).ownBlock ≠ (R' n).ownBlock) (ht : N n ≠ 0 → ∀ g, (R' n).ownBlock = some g → g < hi) : Fam w lo hi (n + 1) R' N := by
  refine ⟨fun p hp => ?_, fun p hp => ?_, fun p q hp hq hpq h1 h2 => ?_, fun p hp hn g hg => ?_⟩
  · by_cases hpn : p < n
    · rw [hR p hpn]; exact h.nest p hpn
    · obtain rfl : p = n := by omega
      exact ⟨xs, e, o⟩
  · by_cases hpn : p < n
    · exact h.lens p hpn
    · obtain rfl : p = n := by omega
      exact hl
  · by_cases hpn : p < n
    · by_cases hqn : q < n
      · rw [hR p hpn, hR q hqn]; exact h.apart p q hpn hqn hpq h1 h2
      · obtain rfl : q = n := by omega
        rw [hR p hpn]; exact ha h2 p hpn h1
    · obtain rfl : p = n := by omega
      have hqn : q < p := by omega
      rw [hR q hqn]; exact (ha h1 q hqn h2).symm
  · by_cases hpn : p < n
    · rw [hR p hpn] at hg; exact h.top p hpn hn g hg
    · obtain rfl : p = n := by omega
      exact ht hn g hg
/-- a row is marked: all rows are still there -/
theorem Fam.mark {p : Nat} {ys : List Int} (h : Fam w lo hi n R N) (hp : p < n) (o : OwnZ w' lo (R p) ys) (e : ys.length = N p) (hg : w.grownBy w' (R p).ownBlock) (hE : N p = 0 → w = w') : Fam w' lo hi n R N := by
  refine ⟨fun q hq => ?_, h.lens, h.apart, h.top⟩
  by_cases hqp : q = p
  · subst hqp; exact ⟨ys, e, o⟩
  · obtain ⟨xs, e2, o2⟩ := h.nest q hq
    by_cases h0 : N p = 0
    · have := hE h0; subst this; exact ⟨xs, e2, o2⟩
    · refine ⟨xs, e2, o2.keptG (by rw [e2]; exact h.lens q hq) hg fun hne => h.apart q p hq hp hqp (by rw [← e2]; intro h1; exact hne (List.eq_nil_of_length_eq_zero h1)) h0⟩
end
/-- the block of a row that is not empty -/
theorem OwnZ.blk {w : World} {base : Nat} {v : Value} {xs : List Int} (h : OwnZ w base v xs) (hn : xs.length ≠ 0) : ∃ g, v.ownBlock = some g ∧ base ≤ g ∧ g < w.heap.size := by
  obtain ⟨g, h1, h2, h3⟩ := h.lt (by intro h0; subst h0; exact hn rfl)
  exact ⟨g, h1, h2, h3⟩
end Go.Proofs.Ytfbbnbpobojboaa

/- Walks of the laws' own helpers: own rows and marks (Tensor). -/
namespace Go.Proofs.Ytfbbnbpobojboaa
open Go.RowKit
set_option linter.unusedVariables false
set_option maxRecDepth 100000

theorem sizeT_mono (rs : List Ten) (i k : Nat) (h : i ≤ k) : sizeT rs i ≤ sizeT rs k := by
 induction k with
 | zero =>
  obtain rfl : i = 0 := by omega
  exact Nat.le_refl _
 | succ k ih =>
  by_cases hk : i = k + 1
  ·
   subst hk; exact Nat.le_refl _
  ·
   have := ih (by omega)
   show sizeT rs i ≤ sizeT rs k + _
   omega
def lenT (rs : List Ten) (p : Nat) : Nat := if p % 2 = 0 then (tenAt rs (p / 2)).s.length else (tenAt rs (p / 2)).t.length
theorem lenT_a (rs : List Ten) (k : Nat) : lenT rs (2 * k) = (tenAt rs k).s.length := by unfold lenT; rw [if_pos (by omega), show 2 * k / 2 = k by omega]
theorem lenT_b (rs : List Ten) (k : Nat) : lenT rs (2 * k + 1) = (tenAt rs k).t.length := by unfold lenT; rw [if_neg (by omega), show (2 * k + 1) / 2 = k by omega]
/-- the row v, in block lo, of the records rs; each of their rows in a block of its own below hi -/
def OwnT (w : World) (lo hi : Nat) (v : Value) (rs : List Ten) : Prop := ∃ R c, v = .slice (some ⟨lo, 0, none⟩) rs.length c ∧ OwnC w lo 109 2 v (rowCT rs R) ∧ Fam w (lo + 1) hi (2 * rs.length) R (lenT rs) ∧ lo < hi
theorem OwnT.ext {w w' : World} {lo hi : Nat} {v : Value} {rs : List Ten} (h : OwnT w lo hi v rs) (hx : Ext w w') : OwnT w' lo hi v rs := by
 obtain ⟨R, c, hv, hE, hF, hl⟩ := h
 exact ⟨R, c, hv, hE.ext hx, hF.ext hx, hl⟩
theorem OwnT.chg {w w' : World} {lo hi l u : Nat} {v : Value} {rs : List Ten} (h : OwnT w lo hi v rs) (k : Chg l u w w') (hu : u ≤ lo) : OwnT w' lo hi v rs := by
 obtain ⟨R, c, rfl, hE, hF, hl⟩ := h
 exact ⟨R, c, rfl, hE.chgM k (.inr hu), hF.chg k (by omega), hl⟩
def POwnT (w : World) (rs : List Ten) (e : Ending) (w' : World) : Prop := ∃ v, e = .returned v ∧ Tens w' w.heap.size v rs ∧ OwnT w' w.heap.size w'.heap.size v rs ∧ Ext w w'
set_option maxHeartbeats 3200000 in
theorem toTensorSO_c (rs : List Ten) (v : Value) (w : World) (hv : RawT w v rs) (hl : rs.length ≤ 1048576) (hm : ∀ i, i < rs.length → (tenAt rs i).s.length ≤ 1048576 ∧ (tenAt rs i).t.length ≤ 1048576) :
  Calls Try.prog 36 #[v] w (POwnT w rs) := by
 obtain ⟨a, cap, rfl, _, hc⟩ := hv
 obtain ⟨i0, hi, hz0, hz1, hz2⟩ := info_parts infoT
 go_enter Try.func36, Try.ntmps36
 go_wp2_with (at_make; refine wpList_make_full _ rfl _ _ 55 rfl w.heap.size 109 i0 (.agg #[.slice none 0 0, .slice none 0 0]) 2 Try.underlying55 hi hz0 hz1 .i64 .i64 _ _ rs.length rfl rfl rfl rfl (by rw [hz2]; omega) (by unfold maxLen; omega) (Nat.le_refl _) ?_)
 intro w1 hown hgr
 have hx : Ext w w1 := (Ext.refl w).grown hgr (by simp)
 have hE : OwnC w1 w.heap.size 109 2 (.slice (some ⟨w.heap.size, 0, none⟩) rs.length rs.length) (rowCT (List.replicate rs.length noTen) (fun _ => .slice none 0 0)) := by
  have e := made_flatM [.slice none 0 0, .slice none 0 0] 2 rfl (by omega) rs.length
  change (madeCells #[.slice none 0 0, .slice none 0 0] (rs.length * 2)).toList = _ at e
  refine ⟨?_, rowCT_all _ _⟩
  rw [rowCT_rep, List.length_replicate, ← e]
  exact hown
 have hE2 : OwnC w1 w.heap.size 109 2 (.slice (some ⟨w.heap.size, 0, none⟩) rs.length rs.length) (rowCT (rs.take 0 ++ List.replicate (rs.length - 0) noTen) (fun _ => .slice none 0 0)) := by simpa using hE
 clear hgr hown hi hz0 hz1 hz2 hE
 go_wp2_with fail
 go_loopw [4] (fun i wr => ∃ (k : Nat) (R : Nat → Value), k ≤ rs.length ∧ i = .int .i64 k ∧ OwnC wr w.heap.size 109 2 (.slice (some ⟨w.heap.size, 0, none⟩) rs.length rs.length) (rowCT (rs.take k ++ List.replicate (rs.length - k) noTen) R) ∧ Hid (∀ i, i < k → Ints wr (w.heap.size + 1) (R (2 * i)) (tenAt rs i).s ∧ Ints wr (w.heap.size + 1) (R (2 * i + 1)) (tenAt rs i).t) ∧ Hid (Fam wr (w.heap.size + 1) wr.heap.size (2 * k) R (lenT rs)) ∧ Ext w wr) (fun i _ => rs.length - (intOf i).toNat)
 case atStart => exact ⟨0, _, Nat.zero_le _, rfl, hE2, Lib.hid (fun i h => absurd h (Nat.not_lt_zero _)), Lib.hid Fam.zero, hx⟩
 case round =>
  clear hE2 hx
  obtain ⟨k, R, hk, rfl, hE, hN, hF, Xr⟩ := hrel
  by_cases hlt : k < rs.length
  ·
   have hkI : (k : Int) < rs.length := by omega
   obtain ⟨bl, off, u1, c1, u2, c2, rfl, k0, k1, r1, r2, -⟩ := hc k hlt
   have hm1 := hm k hlt
   replace k0 := Xr.cell k0
   replace k1 := Xr.cell k1
   replace r1 := r1.ext Xr
   replace r2 := r2.ext Xr
   clear hc hm
   have hfl := fillT_len rs k hk
   have hgw : w.heap.size < wr.heap.size := (hE.blkM _ rfl).2
   go_wp2_with fail
   refine (toTensor_c (tenAt rs k) _ _ _ _ _ (r1.ext qXt) (r2.ext qXt) (by omega) (by omega)).mono ?_
   rintro e w2 ⟨u1, u2, rfl, j1, j2, o1, o2, hap, x2⟩
   have E2 : Ext wr w2 := Ext.trans qXt x2
   have X2 : Ext w w2 := Xr.trans E2
   replace j1 := j1.lower (lo' := w.heap.size + 1) (by first | omega | (simp; omega))
   replace j2 := j2.lower (lo' := w.heap.size + 1) (by first | omega | (simp; omega))
   have hy1 : (tenAt rs k).s.length ≠ 0 → ∃ g, u1.ownBlock = some g ∧ wr.heap.size ≤ g ∧ g < w2.heap.size := fun h0 => by
    obtain ⟨g, e1, e2, e3⟩ := o1.blk h0
    exact ⟨g, e1, Nat.le_trans (by first | exact Nat.le_refl _ | (simp; done) | (simp; omega)) e2, e3⟩
   replace o1 := o1.lower (base' := w.heap.size + 1) (by first | omega | (simp; omega))
   replace hy1 := Lib.hid hy1
   have hy2 : (tenAt rs k).t.length ≠ 0 → ∃ g, u2.ownBlock = some g ∧ wr.heap.size ≤ g ∧ g < w2.heap.size := fun h0 => by
    obtain ⟨g, e1, e2, e3⟩ := o2.blk h0
    exact ⟨g, e1, Nat.le_trans (by first | exact Nat.le_refl _ | (simp; done) | (simp; omega)) e2, e3⟩
   replace o2 := o2.lower (base' := w.heap.size + 1) (by first | omega | (simp; omega))
   replace hy2 := Lib.hid hy2
   replace hap := Lib.hid hap
   obtain ⟨d1, f1, rfl⟩ := j1.form
   obtain ⟨d2, f2, rfl⟩ := j2.form
   replace hE := hE.ext E2
   have hcl := fun j hj => hE.cellM (by rw [rowCT_len]; exact hfl.symm) k j (by rw [rowCT_len]; omega) hj
   have g0 := (hcl 0 (by omega)).1
   have f_0 := (hcl 0 (by omega)).2
   have g1 := (hcl 1 (by omega)).1
   have f_1 := (hcl 1 (by omega)).2
   simp only [Nat.add_zero] at g0 f_0
   rw [rowCT_get] at g0 g1
   simp only [erowCT, List.getElem?_cons_zero, List.getElem?_cons_succ] at g0 g1
   generalize (tenAt (rs.take k ++ List.replicate (rs.length - k) noTen) k) = Z at g0 g1
   generalize R (2 * k) = Z1 at g0
   generalize R (2 * k + 1) = Z2 at g1
   have hp := OwnC.putT hE (by rw [rowCT_len]; exact hfl.symm) k (by rw [rowCT_len]; omega) (.slice d1 (tenAt rs k).s.length f1) (.slice d2 (tenAt rs k).t.length f2)
   have hq := rowCT_put (rs.take k ++ List.replicate (rs.length - k) noTen) R k (by omega) (tenAt rs k) (.slice d1 (tenAt rs k).s.length f1) (.slice d2 (tenAt rs k).t.length f2)
   rw [fillT_set rs k hlt] at hq
   rw [show [.slice d1 (tenAt rs k).s.length f1, .slice d2 (tenAt rs k).t.length f2] = erowCT (tenAt rs k) (.slice d1 (tenAt rs k).s.length f1) (.slice d2 (tenAt rs k).t.length f2) from rfl, ← hq] at hp
   replace hp := Lib.hid hp
   have hK : Chg (w.heap.size) (w.heap.size + 1) w2 ((w2.setCell ⟨w.heap.size, k * 2, none⟩ (.slice d1 (tenAt rs k).s.length f1)).setCell ⟨w.heap.size, k * 2 + 1, none⟩ (.slice d2 (tenAt rs k).t.length f2)) := qCh
   have hN2 : Hid (∀ i, i < k + 1 → Ints ((w2.setCell ⟨w.heap.size, k * 2, none⟩ (.slice d1 (tenAt rs k).s.length f1)).setCell ⟨w.heap.size, k * 2 + 1, none⟩ (.slice d2 (tenAt rs k).t.length f2)) (w.heap.size + 1) ((fun p => if p = 2 * k then (.slice d1 (tenAt rs k).s.length f1) else if p = 2 * k + 1 then (.slice d2 (tenAt rs k).t.length f2) else R p) (2 * i)) (tenAt rs i).s ∧ Ints ((w2.setCell ⟨w.heap.size, k * 2, none⟩ (.slice d1 (tenAt rs k).s.length f1)).setCell ⟨w.heap.size, k * 2 + 1, none⟩ (.slice d2 (tenAt rs k).t.length f2)) (w.heap.size + 1) ((fun p => if p = 2 * k then (.slice d1 (tenAt rs k).s.length f1) else if p = 2 * k + 1 then (.slice d2 (tenAt rs k).t.length f2) else R p) (2 * i + 1)) (tenAt rs i).t) := Lib.hid (fun i hi => by
    by_cases hik : i < k
    ·
     have h7 := hN.out i hik
     dsimp only
     rw [if_neg (by omega), if_neg (by omega), if_neg (by omega), if_neg (by omega)]
     exact ⟨((h7.1).ext E2).chg hK (Nat.le_refl _), ((h7.2).ext E2).chg hK (Nat.le_refl _)⟩
    ·
     obtain rfl : i = k := by omega
     dsimp only
     rw [if_pos rfl, if_neg (by omega), if_pos rfl]
     exact ⟨j1.chg hK (Nat.le_refl _), j2.chg hK (Nat.le_refl _)⟩)
   have hs2 : ((w2.setCell ⟨w.heap.size, k * 2, none⟩ (.slice d1 (tenAt rs k).s.length f1)).setCell ⟨w.heap.size, k * 2 + 1, none⟩ (.slice d2 (tenAt rs k).t.length f2)).heap.size = w2.heap.size := by simp
   have hF0 := ((hF.out.ext E2).chg hK (Nat.le_refl _)).up (Nat.le_trans E2.size (Nat.le_of_eq hs2.symm))
   have hlow : ∀ p, p < 2 * k → lenT rs p ≠ 0 → ∀ g, (R p).ownBlock = some g → g < wr.heap.size := fun p hp h0 g hg => hF.out.top p hp h0 g hg
   have hF1 : Fam ((w2.setCell ⟨w.heap.size, k * 2, none⟩ (.slice d1 (tenAt rs k).s.length f1)).setCell ⟨w.heap.size, k * 2 + 1, none⟩ (.slice d2 (tenAt rs k).t.length f2)) (w.heap.size + 1) ((w2.setCell ⟨w.heap.size, k * 2, none⟩ (.slice d1 (tenAt rs k).s.length f1)).setCell ⟨w.heap.size, k * 2 + 1, none⟩ (.slice d2 (tenAt rs k).t.length f2)).heap.size (2 * k + 1) (fun p => if p = 2 * k then (.slice d1 (tenAt rs k).s.length f1) else R p) (lenT rs) := by
    refine hF0.add (n := 2 * k) (R' := fun p => if p = 2 * k then (.slice d1 (tenAt rs k).s.length f1) else R p) (xs := (tenAt rs k).s) (by (try dsimp only); rw [if_pos rfl]; exact o1.chg hK (Nat.le_refl _)) (lenT_a rs k).symm (by rw [lenT_a]; omega) (fun p hp => if_neg (by omega)) (fun h0 p hp hp0 => ?_) (fun h0 g hg => ?_)
    ·
     try dsimp only
     rw [if_pos rfl]
     rw [lenT_a] at h0
     obtain ⟨g, e1, e2, e3⟩ := hy1.out h0
     rw [e1]
     intro hh
     have := hlow p hp hp0 g hh
     omega
    ·
     try dsimp only at hg
     rw [if_pos rfl] at hg
     rw [lenT_a] at h0
     obtain ⟨g', e1, e2, e3⟩ := hy1.out h0
     rw [e1] at hg
     cases hg
     rw [hs2]
     exact e3
   have hF2 : Hid (Fam ((w2.setCell ⟨w.heap.size, k * 2, none⟩ (.slice d1 (tenAt rs k).s.length f1)).setCell ⟨w.heap.size, k * 2 + 1, none⟩ (.slice d2 (tenAt rs k).t.length f2)) (w.heap.size + 1) ((w2.setCell ⟨w.heap.size, k * 2, none⟩ (.slice d1 (tenAt rs k).s.length f1)).setCell ⟨w.heap.size, k * 2 + 1, none⟩ (.slice d2 (tenAt rs k).t.length f2)).heap.size (2 * (k + 1)) (fun p => if p = 2 * k then (.slice d1 (tenAt rs k).s.length f1) else if p = 2 * k + 1 then (.slice d2 (tenAt rs k).t.length f2) else R p) (lenT rs)) := Lib.hid (by
    rw [show 2 * (k + 1) = 2 * k + 1 + 1 by omega]
    refine hF1.add (n := 2 * k + 1) (R' := fun p => if p = 2 * k then (.slice d1 (tenAt rs k).s.length f1) else if p = 2 * k + 1 then (.slice d2 (tenAt rs k).t.length f2) else R p) (xs := (tenAt rs k).t) (by (try dsimp only); rw [if_neg (by omega), if_pos rfl]; exact o2.chg hK (Nat.le_refl _)) (lenT_b rs k).symm (by rw [lenT_b]; omega) (fun p hp => ?_) (fun h0 p hp hp0 => ?_) (fun h0 g hg => ?_)
    ·
     try dsimp only
     by_cases hpk : p = 2 * k
     ·
      rw [if_pos hpk, if_pos hpk]
     ·
      rw [if_neg hpk, if_neg hpk, if_neg (by omega)]
    ·
     try dsimp only
     rw [if_neg (show ¬ 2 * k + 1 = 2 * k by omega), if_pos rfl]
     rw [lenT_b] at h0
     obtain ⟨g, e1, e2, e3⟩ := hy2.out h0
     by_cases hpk : p = 2 * k
     ·
      subst hpk
      rw [if_pos rfl]
      rw [lenT_a] at hp0
      exact hap.out (fun h => hp0 (by rw [h]; rfl)) (fun h => h0 (by rw [h]; rfl))
     ·
      rw [if_neg hpk, e1]
      intro hh
      have := hlow p (by omega) hp0 g hh
      omega
    ·
     try dsimp only at hg
     rw [if_neg (show ¬ 2 * k + 1 = 2 * k by omega), if_pos rfl] at hg
     rw [lenT_b] at h0
     obtain ⟨g', e1, e2, e3⟩ := hy2.out h0
     rw [e1] at hg
     cases hg
     rw [hs2]
     exact e3)
   clear hF0 hF1 hlow hs2 o1 o2 hap hy1 hy2 hF
   clear hq hcl hE hK hN hm1
   go_wp2_with fail
   go_roundw
   case rel => exact ⟨k + 1, _, by omega, by go_num, hp.out, hN2, hF2, qXt⟩
   case measure => simp [intOf]; omega
  ·
   obtain rfl : k = rs.length := by omega
   go_wp2_with fail
   go_ret
   simp only [List.take_length, Nat.sub_self, List.replicate_zero, List.append_nil] at hE
   exact ⟨_, rfl, Tens.ofRow hE hN.out hl _ (Nat.le_refl _) (Nat.le_succ _), ⟨R, _, rfl, hE, hF.out, (hE.blkM _ rfl).2⟩, Xr⟩
set_option maxHeartbeats 3200000 in
theorem markTensorS_c (rs : List Ten) (v : Value) (k : Int) (w : World) (lo hi : Nat) (hv : OwnT w lo hi v rs) (hl : rs.length ≤ 1048576) (hk : 0 ≤ k) (hk2 : k + sizeT rs rs.length ≤ 100000000) :
  Calls Try.prog 43 #[v, .int .i64 k] w fun e w' => e = .returned (.int .i64 (k + sizeT rs rs.length)) ∧ Chg lo hi w w' := by
 obtain ⟨R, c, rfl, hE, hF, hlh⟩ := hv
 replace hE := Lib.hid hE
 replace hF := Lib.hid hF
 go_enter Try.func43, Try.ntmps43
 go_wp2_with fail
 go_loopw [1, 5] (fun kk i wr => ∃ (n : Nat), n ≤ rs.length ∧ i = .int .i64 n ∧ kk = .int .i64 (k + sizeT rs n) ∧ Hid (OwnC wr lo 109 2 (.slice (some ⟨lo, 0, none⟩) rs.length c) (rowCT rs R)) ∧ Hid (Fam wr (lo + 1) hi (2 * rs.length) R (lenT rs)) ∧ Chg lo hi w wr) (fun _ i _ => rs.length - (intOf i).toNat)
 case atStart => exact ⟨0, Nat.zero_le _, rfl, by simp [sizeT], Lib.hid (hE.out.ext qXt), Lib.hid (hF.out.ext qXt), Chg.of_ext qXt⟩
 case round =>
  clear hE hF
  obtain ⟨n, hn, rfl, rfl, hE, hF, Xr⟩ := hrel
  by_cases hlt : n < rs.length
  ·
   have hkI : (n : Int) < rs.length := by omega
   have hse : sizeT rs (n+1) = sizeT rs n + ((tenAt rs n).s.length + (tenAt rs n).t.length) := rfl
   have hsm := sizeT_mono rs (n+1) rs.length hlt
   obtain ⟨xs0, ex0, o0⟩ := hF.out.nest (2 * n) (by omega)
   have m0 := hF.out.lens (2 * n) (by omega)
   have ez0 : lenT rs (2 * n) = (tenAt rs n).s.length := lenT_a rs n
   rw [ez0] at ex0 m0
   have t0 := hF.out.top (2 * n) (by omega)
   rw [ez0] at t0
   obtain ⟨u0, d0, hR0⟩ := (o0.ints (by omega)).form
   rw [ex0] at hR0
   have g0 := (hE.out.cellM (by rw [rowCT_len]) n 0 (by rw [rowCT_len]; exact hlt) (by omega)).1
   rw [rowCT_get] at g0
   simp only [erowCT, List.getElem?_cons_zero, List.getElem?_cons_succ] at g0
   rw [hR0] at g0
   simp only [Nat.add_zero] at g0
   rw [hR0] at t0
   have q0 := o0
   rw [hR0] at q0
   replace o0 := Lib.hid o0
   replace t0 := Lib.hid t0
   replace q0 := Lib.hid q0
   replace hR0 := Lib.hid hR0
   replace ez0 := Lib.hid ez0
   go_wp2_with fail
   refine (markZ_c xs0 _ _ _ (lo + 1) hi (q0.out.ext qXt) (fun hne b hb => t0.out (fun h0 => hne (List.eq_nil_of_length_eq_zero (by omega))) b hb) (by omega) (by omega) (by omega)).mono ?_
   rintro e W1 ⟨rfl, oo0, K0, G0, E0⟩
   rw [← hR0.out] at oo0 G0
   replace hF := Lib.hid ((hF.out.ext (show Ext wr _ from qXt)).mark (by omega) oo0 (by rw [ksL_len, ez0.out]; exact ex0) G0 (fun h0 => E0 (List.eq_nil_of_length_eq_zero (by rw [ex0, ← ez0.out]; exact h0))))
   replace hE := Lib.hid ((hE.out.ext (show Ext wr _ from qXt)).chgM K0 (.inl (Nat.lt_succ_self _)))
   have X1 : Chg lo hi w W1 := (Chg.ext Xr (show Ext wr _ from qXt)).trans (K0.mono (Nat.le_succ _) (Nat.le_refl _))
   clear oo0 G0 E0 K0 o0 t0 q0 g0 hR0 ez0
   obtain ⟨xs1, ex1, o1⟩ := hF.out.nest (2 * n + 1) (by omega)
   have m1 := hF.out.lens (2 * n + 1) (by omega)
   have ez1 : lenT rs (2 * n + 1) = (tenAt rs n).t.length := lenT_b rs n
   rw [ez1] at ex1 m1
   have t1 := hF.out.top (2 * n + 1) (by omega)
   rw [ez1] at t1
   obtain ⟨u1, d1, hR1⟩ := (o1.ints (by omega)).form
   rw [ex1] at hR1
   have g1 := (hE.out.cellM (by rw [rowCT_len]) n 1 (by rw [rowCT_len]; exact hlt) (by omega)).1
   rw [rowCT_get] at g1
   simp only [erowCT, List.getElem?_cons_zero, List.getElem?_cons_succ] at g1
   rw [hR1] at g1
   rw [hR1] at t1
   have q1 := o1
   rw [hR1] at q1
   replace o1 := Lib.hid o1
   replace t1 := Lib.hid t1
   replace q1 := Lib.hid q1
   replace hR1 := Lib.hid hR1
   replace ez1 := Lib.hid ez1
   go_wp2_with fail
   refine (markZ_c xs1 _ _ _ (lo + 1) hi (q1.out.ext qXt) (fun hne b hb => t1.out (fun h0 => hne (List.eq_nil_of_length_eq_zero (by omega))) b hb) (by omega) (by omega) (by omega)).mono ?_
   rintro e W2 ⟨rfl, oo1, K1, G1, E1⟩
   rw [← hR1.out] at oo1 G1
   replace hF := Lib.hid ((hF.out.ext (show Ext W1 _ from qXt)).mark (by omega) oo1 (by rw [ksL_len, ez1.out]; exact ex1) G1 (fun h0 => E1 (List.eq_nil_of_length_eq_zero (by rw [ex1, ← ez1.out]; exact h0))))
   replace hE := Lib.hid ((hE.out.ext (show Ext W1 _ from qXt)).chgM K1 (.inl (Nat.lt_succ_self _)))
   have X2 : Chg lo hi w W2 := (Chg.ext X1 (show Ext W1 _ from qXt)).trans (K1.mono (Nat.le_succ _) (Nat.le_refl _))
   clear oo1 G1 E1 K1 o1 t1 q1 g1 hR1 ez1
   go_wp2_with fail
   go_roundw
   case rel => exact ⟨n + 1, by omega, by go_num, by rw [hse]; congr 1; omega, Lib.hid (hE.out.ext qXt), Lib.hid (hF.out.ext qXt), Chg.ext X2 qXt⟩
   case measure => simp [intOf]; omega
  ·
   obtain rfl : n = rs.length := by omega
   go_wp2_with fail
   go_ret
   exact ⟨rfl, Chg.ext Xr qXt⟩

end Go.Proofs.Ytfbbnbpobojboaa

/- Walks of the laws' own helpers: own rows and marks (IntS). -/
namespace Go.Proofs.Ytfbbnbpobojboaa
open Go.RowKit
set_option linter.unusedVariables false
set_option maxRecDepth 100000

theorem sizeL_mono (rs : List Lst) (i k : Nat) (h : i ≤ k) : sizeL rs i ≤ sizeL rs k := by
  induction k with
  | zero =>
    obtain rfl : i = 0 := by omega
    exact Nat.le_refl _
  | succ k ih =>
    by_cases hk : i = k + 1
    · subst hk; exact Nat.le_refl _
    · have := ih (by omega)
      show sizeL rs i ≤ sizeL rs k + _
      omega
def lenL (rs : List Lst) (p : Nat) : Nat := (lstAt rs p).s.length
/-- the row v, in block lo, of the records rs; each of their rows in a block of its own below hi -/
def OwnL (w : World) (lo hi : Nat) (v : Value) (rs : List Lst) : Prop := ∃ R c, v = .slice (some ⟨lo, 0, none⟩) rs.length c ∧ OwnC w lo 22 1 v (rowCL rs R) ∧ Fam w (lo + 1) hi (rs.length) R (lenL rs) ∧ lo < hi
theorem OwnL.ext {w w' : World} {lo hi : Nat} {v : Value} {rs : List Lst} (h : OwnL w lo hi v rs) (hx : Ext w w') : OwnL w' lo hi v rs := by
  obtain ⟨R, c, hv, hE, hF, hl⟩ := h
  exact ⟨R, c, hv, hE.ext hx, hF.ext hx, hl⟩
theorem OwnL.chg {w w' : World} {lo hi l u : Nat} {v : Value} {rs : List Lst} (h : OwnL w lo hi v rs) (k : Chg l u w w') (hu : u ≤ lo) : OwnL w' lo hi v rs := by
  obtain ⟨R, c, rfl, hE, hF, hl⟩ := h
  exact ⟨R, c, rfl, hE.chgM k (.inr hu), hF.chg k (by omega), hl⟩
def POwnL (w : World) (rs : List Lst) (e : Ending) (w' : World) : Prop := ∃ v, e = .returned v ∧ Lsts w' w.heap.size v rs ∧ OwnL w' w.heap.size w'.heap.size v rs ∧ Ext w w'
set_option maxHeartbeats 3200000 in
theorem toIntSSO_c (rs : List Lst) (v : Value) (w : World) (hv : RawL w v rs) (hl : rs.length ≤ 1048576) (hm : ∀ i, i < rs.length → (lstAt rs i).s.length ≤ 1048576) :
    Calls Try.prog 37 #[v] w (POwnL w rs) := by
  obtain ⟨a, cap, rfl, _, hc⟩ := hv
  obtain ⟨i0, hi, hz0, hz1, hz2⟩ := info_parts infoL
  go_enter Try.func37, Try.ntmps37
  go_wp2_with (at_make; refine wpList_make_full _ rfl _ _ 51 rfl w.heap.size 22 i0 (.slice none 0 0) 1 Try.underlying51 hi hz0 hz1 .i64 .i64 _ _ rs.length rfl rfl rfl rfl (by rw [hz2]; omega) (by unfold maxLen; omega) (Nat.le_refl _) ?_)
  intro w1 hown hgr
  have hx : Ext w w1 := (Ext.refl w).grown hgr (by simp)
  have hE : OwnC w1 w.heap.size 22 1 (.slice (some ⟨w.heap.size, 0, none⟩) rs.length rs.length) (rowCL (List.replicate rs.length noLst) (fun _ => .slice none 0 0)) := by
    have e := made_flatM [.slice none 0 0] 1 rfl (by omega) rs.length
    change (madeCells #[.slice none 0 0] (rs.length * 1)).toList = _ at e
    rw [Nat.mul_one] at e
    refine ⟨?_, rowCL_all _ _⟩
    rw [rowCL_rep, List.length_replicate, ← e]
    exact hown
  have hE2 : OwnC w1 w.heap.size 22 1 (.slice (some ⟨w.heap.size, 0, none⟩) rs.length rs.length) (rowCL (rs.take 0 ++ List.replicate (rs.length - 0) noLst) (fun _ => .slice none 0 0)) := by simpa using hE
  clear hgr hown hi hz0 hz1 hz2 hE
  go_wp2_with fail
  go_loopw [4] (fun i wr => ∃ (k : Nat) (R : Nat → Value), k ≤ rs.length ∧ i = .int .i64 k ∧ OwnC wr w.heap.size 22 1 (.slice (some ⟨w.heap.size, 0, none⟩) rs.length rs.length) (rowCL (rs.take k ++ List.replicate (rs.length - k) noLst) R) ∧ Hid (∀ i, i < k → Ints wr (w.heap.size + 1) (R (i)) (lstAt rs i).s) ∧ Hid (Fam wr (w.heap.size + 1) wr.heap.size (k) R (lenL rs)) ∧ Ext w wr) (fun i _ => rs.length - (intOf i).toNat)
  case atStart => exact ⟨0, _, Nat.zero_le _, rfl, hE2, Lib.hid (fun i h => absurd h (Nat.not_lt_zero _)), Lib.hid Fam.zero, hx⟩
  case round =>
    clear hE2 hx
    obtain ⟨k, R, hk, rfl, hE, hN, hF, Xr⟩ := hrel
    by_cases hlt : k < rs.length
    · have hkI : (k : Int) < rs.length := by omega
      obtain ⟨bl, off, u1, c1, rfl, k0, r1, -⟩ := hc k hlt
      have hm1 := hm k hlt
      replace k0 := Xr.cell k0
      replace r1 := r1.ext Xr
      clear hc hm
      have hfl := fillL_len rs k hk
      have hgw : w.heap.size < wr.heap.size := (hE.blkM _ rfl).2
      go_wp2_with fail
      refine (toIntS_c _ _ _ (r1.ext qXt) (by omega)).mono ?_
      rintro e w2 ⟨u1, rfl, j1, o1, x2⟩
      have E2 : Ext wr w2 := Ext.trans qXt x2
      have X2 : Ext w w2 := Xr.trans E2
      replace j1 := j1.lower (lo' := w.heap.size + 1) (by first | omega | (simp; omega))
      have hy1 : (lstAt rs k).s.length ≠ 0 → ∃ g, u1.ownBlock = some g ∧ wr.heap.size ≤ g ∧ g < w2.heap.size := fun h0 => by
        obtain ⟨g, e1, e2, e3⟩ := o1.blk h0
        exact ⟨g, e1, Nat.le_trans (by first | exact Nat.le_refl _ | (simp; done) | (simp; omega)) e2, e3⟩
      replace o1 := o1.lower (base' := w.heap.size + 1) (by first | omega | (simp; omega))
      replace hy1 := Lib.hid hy1
      obtain ⟨d1, f1, rfl⟩ := j1.form
      replace hE := hE.ext E2
      have hcl := fun j hj => hE.cellM (by rw [rowCL_len]; exact hfl.symm) k j (by rw [rowCL_len]; omega) hj
      have g0 := (hcl 0 (by omega)).1
      have f_0 := (hcl 0 (by omega)).2
      simp only [Nat.mul_one, Nat.add_zero] at g0 f_0
      rw [rowCL_get] at g0
      simp only [erowCL, List.getElem?_cons_zero, List.getElem?_cons_succ] at g0
      generalize (lstAt (rs.take k ++ List.replicate (rs.length - k) noLst) k) = Z at g0
      generalize R (k) = Z1 at g0
      have hp := OwnC.putL hE (by rw [rowCL_len]; exact hfl.symm) k (by rw [rowCL_len]; omega) (.slice d1 (lstAt rs k).s.length f1)
      have hq := rowCL_put (rs.take k ++ List.replicate (rs.length - k) noLst) R k (by omega) (lstAt rs k) (.slice d1 (lstAt rs k).s.length f1)
      rw [fillL_set rs k hlt] at hq
      rw [show [.slice d1 (lstAt rs k).s.length f1] = erowCL (lstAt rs k) (.slice d1 (lstAt rs k).s.length f1) from rfl, ← hq] at hp
      replace hp := Lib.hid hp
      have hK : Chg (w.heap.size) (w.heap.size + 1) w2 (w2.setCell ⟨w.heap.size, k, none⟩ (.slice d1 (lstAt rs k).s.length f1)) := qCh
      have hN2 : Hid (∀ i, i < k + 1 → Ints (w2.setCell ⟨w.heap.size, k, none⟩ (.slice d1 (lstAt rs k).s.length f1)) (w.heap.size + 1) ((fun p => if p = k then (.slice d1 (lstAt rs k).s.length f1) else R p) (i)) (lstAt rs i).s) := Lib.hid (fun i hi => by
        by_cases hik : i < k
        · have h7 := hN.out i hik
          dsimp only
          rw [if_neg (by omega)]
          exact (h7.ext E2).chg hK (Nat.le_refl _)
        · obtain rfl : i = k := by omega
          dsimp only
          rw [if_pos rfl]
          exact j1.chg hK (Nat.le_refl _))
      have hs2 : (w2.setCell ⟨w.heap.size, k, none⟩ (.slice d1 (lstAt rs k).s.length f1)).heap.size = w2.heap.size := by simp
      have hF0 := ((hF.out.ext E2).chg hK (Nat.le_refl _)).up (Nat.le_trans E2.size (Nat.le_of_eq hs2.symm))
      have hlow : ∀ p, p < k → lenL rs p ≠ 0 → ∀ g, (R p).ownBlock = some g → g < wr.heap.size := fun p hp h0 g hg => hF.out.top p hp h0 g hg
      have hF2 : Hid (Fam (w2.setCell ⟨w.heap.size, k, none⟩ (.slice d1 (lstAt rs k).s.length f1)) (w.heap.size + 1) (w2.setCell ⟨w.heap.size, k, none⟩ (.slice d1 (lstAt rs k).s.length f1)).heap.size (k + 1) (fun p => if p = k then (.slice d1 (lstAt rs k).s.length f1) else R p) (lenL rs)) := Lib.hid (by
        refine hF0.add (n := k) (R' := fun p => if p = k then (.slice d1 (lstAt rs k).s.length f1) else R p) (xs := (lstAt rs k).s) (by (try dsimp only); rw [if_pos rfl]; exact o1.chg hK (Nat.le_refl _)) rfl (by unfold lenL; omega) (fun p hp => if_neg (by omega)) (fun h0 p hp hp0 => ?_) (fun h0 g hg => ?_)
        · try dsimp only
          rw [if_pos rfl]
          obtain ⟨g, e1, e2, e3⟩ := hy1.out h0
          rw [e1]
          intro hh
          have := hlow p hp hp0 g hh
          omega
        · try dsimp only at hg
          rw [if_pos rfl] at hg
          obtain ⟨g', e1, e2, e3⟩ := hy1.out h0
          rw [e1] at hg
          cases hg
          rw [hs2]
          exact e3)
      clear hF0 hlow hs2 o1 hy1 hF
      clear hq hcl hE hK hN hm1
      go_wp2_with fail
      go_roundw
      case rel => exact ⟨k + 1, _, by omega, by go_num, hp.out, hN2, hF2, qXt⟩
      case measure => simp [intOf]; omega
    · obtain rfl : k = rs.length := by omega
      go_wp2_with fail
      go_ret
      simp only [List.take_length, Nat.sub_self, List.replicate_zero, List.append_nil] at hE
      exact ⟨_, rfl, Lsts.ofRow hE hN.out hl _ (Nat.le_refl _) (Nat.le_succ _), ⟨R, _, rfl, hE, hF.out, (hE.blkM _ rfl).2⟩, Xr⟩
set_option maxHeartbeats 3200000 in
theorem markIntSS_c (rs : List Lst) (v : Value) (k : Int) (w : World) (lo hi : Nat) (hv : OwnL w lo hi v rs) (hl : rs.length ≤ 1048576) (hk : 0 ≤ k) (hk2 : k + sizeL rs rs.length ≤ 100000000) :
    Calls Try.prog 44 #[v, .int .i64 k] w fun e w' => e = .returned (.int .i64 (k + sizeL rs rs.length)) ∧ Chg lo hi w w' := by
  obtain ⟨R, c, rfl, hE, hF, hlh⟩ := hv
  replace hE := Lib.hid hE
  replace hF := Lib.hid hF
  go_enter Try.func44, Try.ntmps44
  go_wp2_with fail
  go_loopw [1, 5] (fun kk i wr => ∃ (n : Nat), n ≤ rs.length ∧ i = .int .i64 n ∧ kk = .int .i64 (k + sizeL rs n) ∧ Hid (OwnC wr lo 22 1 (.slice (some ⟨lo, 0, none⟩) rs.length c) (rowCL rs R)) ∧ Hid (Fam wr (lo + 1) hi (rs.length) R (lenL rs)) ∧ Chg lo hi w wr) (fun _ i _ => rs.length - (intOf i).toNat)
  case atStart => exact ⟨0, Nat.zero_le _, rfl, by simp [sizeL], Lib.hid (hE.out.ext qXt), Lib.hid (hF.out.ext qXt), Chg.of_ext qXt⟩
  case round =>
    clear hE hF
    obtain ⟨n, hn, rfl, rfl, hE, hF, Xr⟩ := hrel
    by_cases hlt : n < rs.length
    · have hkI : (n : Int) < rs.length := by omega
      have hse : sizeL rs (n+1) = sizeL rs n + ((lstAt rs n).s.length) := rfl
      have hsm := sizeL_mono rs (n+1) rs.length hlt
      obtain ⟨xs0, ex0, o0⟩ := hF.out.nest (n) (by omega)
      have m0 := hF.out.lens (n) (by omega)
      have ez0 : lenL rs (n) = (lstAt rs n).s.length := rfl
      rw [ez0] at ex0 m0
      have t0 := hF.out.top (n) (by omega)
      rw [ez0] at t0
      obtain ⟨u0, d0, hR0⟩ := (o0.ints (by omega)).form
      rw [ex0] at hR0
      have g0 := (hE.out.cellM (by rw [rowCL_len]) n 0 (by rw [rowCL_len]; exact hlt) (by omega)).1
      rw [rowCL_get] at g0
      simp only [erowCL, List.getElem?_cons_zero, List.getElem?_cons_succ] at g0
      rw [hR0] at g0
      simp only [Nat.mul_one, Nat.add_zero] at g0
      rw [hR0] at t0
      have q0 := o0
      rw [hR0] at q0
      replace o0 := Lib.hid o0
      replace t0 := Lib.hid t0
      replace q0 := Lib.hid q0
      replace hR0 := Lib.hid hR0
      replace ez0 := Lib.hid ez0
      go_wp2_with fail
      refine (markZ_c xs0 _ _ _ (lo + 1) hi (q0.out.ext qXt) (fun hne b hb => t0.out (fun h0 => hne (List.eq_nil_of_length_eq_zero (by omega))) b hb) (by omega) (by omega) (by omega)).mono ?_
      rintro e W1 ⟨rfl, oo0, K0, G0, E0⟩
      rw [← hR0.out] at oo0 G0
      replace hF := Lib.hid ((hF.out.ext (show Ext wr _ from qXt)).mark (by omega) oo0 (by rw [ksL_len, ez0.out]; exact ex0) G0 (fun h0 => E0 (List.eq_nil_of_length_eq_zero (by rw [ex0, ← ez0.out]; exact h0))))
      replace hE := Lib.hid ((hE.out.ext (show Ext wr _ from qXt)).chgM K0 (.inl (Nat.lt_succ_self _)))
      have X1 : Chg lo hi w W1 := (Chg.ext Xr (show Ext wr _ from qXt)).trans (K0.mono (Nat.le_succ _) (Nat.le_refl _))
      clear oo0 G0 E0 K0 o0 t0 q0 g0 hR0 ez0
      go_wp2_with fail
      go_roundw
      case rel => exact ⟨n + 1, by omega, by go_num, by rw [hse]; congr 1; omega, Lib.hid (hE.out.ext qXt), Lib.hid (hF.out.ext qXt), Chg.ext X1 qXt⟩
      case measure => simp [intOf]; omega
    · obtain rfl : n = rs.length := by omega
      go_wp2_with fail
      go_ret
      exact ⟨rfl, Chg.ext Xr qXt⟩

end Go.Proofs.Ytfbbnbpobojboaa

/- FnExactKeptLabels returns true for all arguments: no condition. -/
namespace Go.Proofs.Ytfbbnbpobojboaa
open Go.RowKit
set_option linter.unusedVariables false
set_option maxRecDepth 100000

set_option maxHeartbeats 6400000 in
theorem lawKeptLabels_1 (ts : List Ten) (ls : List Lst) (v u : Value) (a0 : Option Addr) (c0 : Nat) (out : List Int) (i j : Int) (w : World) (hv : RawT w v ts) (hu : RawL w u ls) (hz : Raw w (.slice a0 out.length c0) out) (hm : ts.length ≤ maxLen) (hn : ls.length ≤ maxLen) (ho : out.length ≤ 1048576) (K : List Int) (hK : Hid (kptA ts ls out i j = K)) (hK5 : K.length ≤ 5) :
  Calls Try.prog 8 #[v, u, .slice a0 out.length c0, .int .i64 i, .int .i64 j] w fun e w' => e = .returned (.bool true) ∧ Ext w w' := by
 have hoI : ¬ (1048576 : Int) < (out.length : Int) := by omega
 replace hz := Lib.hid hz
 go_enter Try.func8, Try.ntmps8
 go_wp2_with fail
 refine (szTensorS_c ts v 1048576 _ (hv.ext qXt) (by omega) (by omega) hm).mono ?_
 rintro e w1 ⟨L, rfl, q1, q2, q3, x1⟩
 have X1 : Ext w w1 := Ext.trans qXt x1
 replace x1 := Lib.hid x1
 by_cases hL : L < 0
 ·
  go_wp2_with fail
  go_ret
  exact ⟨rfl, X1⟩
 ·
  have hq := q3 (by omega)
  have hl : ts.length ≤ 1048576 := by omega
  have hst : sizeT ts ts.length ≤ 1048576 := by omega
  have hr : ∀ i, i < ts.length → (tenAt ts i).s.length ≤ 1048576 ∧ (tenAt ts i).t.length ≤ 1048576 := fun i hi => by have := sizeT_le ts i ts.length hi; omega
  replace hr := Lib.hid hr
  replace hv := Lib.hid hv
  replace hu := Lib.hid hu
  clear q3 hq
  go_wp2_with fail
  refine (szIntSS_c ls u L _ (hu.out.ext X1) (by omega) (by omega) hn).mono ?_
  rintro e w2 ⟨M, rfl, p1, p2, p3, x2⟩
  have X2 : Ext w w2 := X1.trans (Ext.trans qXt x2)
  replace x2 := Lib.hid x2
  by_cases hM : M < 0
  ·
   go_wp2_with fail
   go_ret
   exact ⟨rfl, X2⟩
  ·
   have hp := p3 (by omega)
   have hl2 : ls.length ≤ 1048576 := by omega
   have hsl : sizeL ls ls.length ≤ 1048576 := by omega
   have hr2 : ∀ i, i < ls.length → (lstAt ls i).s.length ≤ 1048576 := fun i hi => by have := sizeL_le ls i ls.length hi; omega
   replace hr2 := Lib.hid hr2
   clear p3 hp
   have s2 : w.heap.size ≤ w2.heap.size := X2.size
   go_wp2_with fail
   refine (toTensorS_c ts v _ (hv.out.ext (X2.trans qXt)) hl hr.out).mono ?_
   rintro e w3 ⟨ta, rfl, tar, x3⟩
   have E3 : Ext w2 w3 := Ext.trans qXt x3
   have X3 : Ext w w3 := X2.trans E3
   have s3 : w2.heap.size ≤ w3.heap.size := E3.size
   replace x3 := Lib.hid x3
   clear E3
   replace tar := Lib.hid tar
   go_wp2_with fail
   refine (toIntSS_c ls u _ (hu.out.ext (X3.trans qXt)) hl2 hr2.out).mono ?_
   rintro e w4 ⟨la, rfl, lar, x4⟩
   have E4 : Ext w3 w4 := Ext.trans qXt x4
   have X4 : Ext w w4 := X3.trans E4
   replace tar := Lib.hid (tar.out.ext E4)
   have s4 : w3.heap.size ≤ w4.heap.size := E4.size
   replace x4 := Lib.hid x4
   clear E4
   replace lar := Lib.hid lar
   go_wp2_with fail
   refine (toIntS_c out _ _ (hz.out.ext (X4.trans qXt)) (by omega)).mono ?_
   rintro e w5 ⟨za, rfl, zar, -, x5⟩
   have E5 : Ext w4 w5 := Ext.trans qXt x5
   have X5 : Ext w w5 := X4.trans E5
   replace tar := Lib.hid (tar.out.ext E5)
   replace lar := Lib.hid (lar.out.ext E5)
   have s5 : w4.heap.size ≤ w5.heap.size := E5.size
   replace x5 := Lib.hid x5
   clear E5
   obtain ⟨zaa, zac, rfl⟩ := zar.form
   replace zar := Lib.hid zar
   go_wp2_with fail
   refine (specKeptLabels_c ts ls out _ _ _ i j _ _ _ _ (tar.out.ext qXt) (lar.out.ext qXt) (zar.out.ext qXt) (by omega)).mono ?_
   rintro e w6 ⟨W, rfl, Wi, Wo, x6⟩
   have E6 : Ext w5 w6 := Ext.trans qXt x6
   have X6 : Ext w w6 := X5.trans E6
   replace tar := Lib.hid (tar.out.ext E6)
   replace lar := Lib.hid (lar.out.ext E6)
   replace zar := Lib.hid (zar.out.ext E6)
   have s6 : w5.heap.size ≤ w6.heap.size := E6.size
   replace x6 := Lib.hid x6
   clear E6
   rw [hK.out] at Wi Wo
   replace Wi := Lib.hid Wi
   obtain ⟨Wa, Wc, rfl⟩ := Wi.out.form
   clear Wi
   replace Wo := Lib.hid Wo
   have bW := Wo.out.bound
   clear tar lar zar
   go_wp2_with fail
   refine (toTensorSO_c ts v _ (hv.out.ext (X6.trans qXt)) hl hr.out).mono ?_
   rintro e w7 ⟨tb, rfl, tbr, tbo, x7⟩
   have E7 : Ext w6 w7 := Ext.trans qXt x7
   have X7 : Ext w w7 := X6.trans E7
   replace Wo := Lib.hid (Wo.out.ext E7)
   have s7 : w6.heap.size ≤ w7.heap.size := E7.size
   replace x7 := Lib.hid x7
   clear E7
   replace tbr := Lib.hid tbr
   replace tbo := Lib.hid tbo
   go_wp2_with fail
   refine (toIntSSO_c ls u _ (hu.out.ext (X7.trans qXt)) hl2 hr2.out).mono ?_
   rintro e w8 ⟨lb, rfl, lbr, lbo, x8⟩
   have E8 : Ext w7 w8 := Ext.trans qXt x8
   have X8 : Ext w w8 := X7.trans E8
   replace Wo := Lib.hid (Wo.out.ext E8)
   replace tbr := Lib.hid (tbr.out.ext E8)
   replace tbo := Lib.hid (tbo.out.ext E8)
   have s8 : w7.heap.size ≤ w8.heap.size := E8.size
   replace x8 := Lib.hid x8
   clear E8
   replace lbr := Lib.hid lbr
   replace lbo := Lib.hid lbo
   go_wp2_with fail
   refine (toIntS_c out _ _ (hz.out.ext (X8.trans qXt)) (by omega)).mono ?_
   rintro e w9 ⟨zb, rfl, zbr, zbo, x9⟩
   have E9 : Ext w8 w9 := Ext.trans qXt x9
   have X9 : Ext w w9 := X8.trans E9
   replace Wo := Lib.hid (Wo.out.ext E9)
   replace tbr := Lib.hid (tbr.out.ext E9)
   replace tbo := Lib.hid (tbo.out.ext E9)
   replace lbr := Lib.hid (lbr.out.ext E9)
   replace lbo := Lib.hid (lbo.out.ext E9)
   have s9 : w8.heap.size ≤ w9.heap.size := E9.size
   replace x9 := Lib.hid x9
   clear E9
   obtain ⟨zba, zbc, rfl⟩ := zbr.form
   replace zbr := Lib.hid zbr
   replace zbo := Lib.hid zbo
   have bz := zbo.out.bound
   go_wp2_with fail
   refine (implKeptLabels_c ts ls out _ _ _ i j _ _ _ _ (tbr.out.ext qXt) (lbr.out.ext qXt) (zbr.out.ext qXt) (by omega)).mono ?_
   rintro e w10 ⟨G, rfl, Gi, Go, x10⟩
   have E10 : Ext w9 w10 := Ext.trans qXt x10
   have X10 : Ext w w10 := X9.trans E10
   replace Wo := Lib.hid (Wo.out.ext E10)
   replace tbr := Lib.hid (tbr.out.ext E10)
   replace tbo := Lib.hid (tbo.out.ext E10)
   replace lbr := Lib.hid (lbr.out.ext E10)
   replace lbo := Lib.hid (lbo.out.ext E10)
   replace zbr := Lib.hid (zbr.out.ext E10)
   replace zbo := Lib.hid (zbo.out.ext E10)
   have s10 : w9.heap.size ≤ w10.heap.size := E10.size
   replace x10 := Lib.hid x10
   clear E10
   rw [hK.out] at Gi Go
   replace Gi := Lib.hid Gi
   obtain ⟨Ga, Gc, rfl⟩ := Gi.out.form
   clear Gi
   replace Go := Lib.hid Go
   have bG := Go.out.bound
   go_wp2_with fail
   refine (eqIntS_x K _ _ _ _ _ ((Go.out.ints (by omega)).ext qXt) ((Wo.out.ints (by omega)).ext qXt)).mono ?_
   rintro e w11 ⟨rfl, x11⟩
   have E11 : Ext w10 w11 := Ext.trans qXt x11
   have X11 : Ext w w11 := X10.trans E11
   replace Wo := Lib.hid (Wo.out.ext E11)
   replace tbr := Lib.hid (tbr.out.ext E11)
   replace tbo := Lib.hid (tbo.out.ext E11)
   replace lbr := Lib.hid (lbr.out.ext E11)
   replace lbo := Lib.hid (lbo.out.ext E11)
   replace zbr := Lib.hid (zbr.out.ext E11)
   replace zbo := Lib.hid (zbo.out.ext E11)
   replace Go := Lib.hid (Go.out.ext E11)
   have s11 : w10.heap.size ≤ w11.heap.size := E11.size
   replace x11 := Lib.hid x11
   clear E11
   go_wp2_with fail
   refine (toTensorS_c ts v _ (hv.out.ext (X11.trans qXt)) hl hr.out).mono ?_
   rintro e w12 ⟨tc, rfl, tcr, x12⟩
   have E12 : Ext w11 w12 := Ext.trans qXt x12
   have X12 : Ext w w12 := X11.trans E12
   replace Wo := Lib.hid (Wo.out.ext E12)
   replace tbr := Lib.hid (tbr.out.ext E12)
   replace tbo := Lib.hid (tbo.out.ext E12)
   replace lbr := Lib.hid (lbr.out.ext E12)
   replace lbo := Lib.hid (lbo.out.ext E12)
   replace zbr := Lib.hid (zbr.out.ext E12)
   replace zbo := Lib.hid (zbo.out.ext E12)
   replace Go := Lib.hid (Go.out.ext E12)
   have s12 : w11.heap.size ≤ w12.heap.size := E12.size
   replace x12 := Lib.hid x12
   clear E12
   replace tcr := Lib.hid tcr
   go_wp2_with fail
   refine (eqTensorS_c ts _ _ _ _ _ (tbr.out.ext qXt) (tcr.out.ext qXt)).mono ?_
   rintro e w13 ⟨rfl, x13⟩
   have E13 : Ext w12 w13 := Ext.trans qXt x13
   have X13 : Ext w w13 := X12.trans E13
   replace Wo := Lib.hid (Wo.out.ext E13)
   replace tbr := Lib.hid (tbr.out.ext E13)
   replace tbo := Lib.hid (tbo.out.ext E13)
   replace lbr := Lib.hid (lbr.out.ext E13)
   replace lbo := Lib.hid (lbo.out.ext E13)
   replace zbr := Lib.hid (zbr.out.ext E13)
   replace zbo := Lib.hid (zbo.out.ext E13)
   replace Go := Lib.hid (Go.out.ext E13)
   replace tcr := Lib.hid (tcr.out.ext E13)
   have s13 : w12.heap.size ≤ w13.heap.size := E13.size
   replace x13 := Lib.hid x13
   clear E13
   clear tbr tcr
   go_wp2_with fail
   refine (toIntSS_c ls u _ (hu.out.ext (X13.trans qXt)) hl2 hr2.out).mono ?_
   rintro e w14 ⟨lc, rfl, lcr, x14⟩
   have E14 : Ext w13 w14 := Ext.trans qXt x14
   have X14 : Ext w w14 := X13.trans E14
   replace Wo := Lib.hid (Wo.out.ext E14)
   replace tbo := Lib.hid (tbo.out.ext E14)
   replace lbr := Lib.hid (lbr.out.ext E14)
   replace lbo := Lib.hid (lbo.out.ext E14)
   replace zbr := Lib.hid (zbr.out.ext E14)
   replace zbo := Lib.hid (zbo.out.ext E14)
   replace Go := Lib.hid (Go.out.ext E14)
   have s14 : w13.heap.size ≤ w14.heap.size := E14.size
   replace x14 := Lib.hid x14
   clear E14
   replace lcr := Lib.hid lcr
   go_wp2_with fail
   refine (eqIntSS_c ls _ _ _ _ _ (lbr.out.ext qXt) (lcr.out.ext qXt)).mono ?_
   rintro e w15 ⟨rfl, x15⟩
   have E15 : Ext w14 w15 := Ext.trans qXt x15
   have X15 : Ext w w15 := X14.trans E15
   replace Wo := Lib.hid (Wo.out.ext E15)
   replace tbo := Lib.hid (tbo.out.ext E15)
   replace lbr := Lib.hid (lbr.out.ext E15)
   replace lbo := Lib.hid (lbo.out.ext E15)
   replace zbr := Lib.hid (zbr.out.ext E15)
   replace zbo := Lib.hid (zbo.out.ext E15)
   replace Go := Lib.hid (Go.out.ext E15)
   replace lcr := Lib.hid (lcr.out.ext E15)
   have s15 : w14.heap.size ≤ w15.heap.size := E15.size
   replace x15 := Lib.hid x15
   clear E15
   clear lbr lcr
   go_wp2_with fail
   refine (toIntS_c out _ _ (hz.out.ext (X15.trans qXt)) (by omega)).mono ?_
   rintro e w16 ⟨zc, rfl, zcr, -, x16⟩
   have E16 : Ext w15 w16 := Ext.trans qXt x16
   have X16 : Ext w w16 := X15.trans E16
   replace Wo := Lib.hid (Wo.out.ext E16)
   replace tbo := Lib.hid (tbo.out.ext E16)
   replace lbo := Lib.hid (lbo.out.ext E16)
   replace zbr := Lib.hid (zbr.out.ext E16)
   replace zbo := Lib.hid (zbo.out.ext E16)
   replace Go := Lib.hid (Go.out.ext E16)
   have s16 : w15.heap.size ≤ w16.heap.size := E16.size
   replace x16 := Lib.hid x16
   clear E16
   obtain ⟨zca, zcc, rfl⟩ := zcr.form
   replace zcr := Lib.hid zcr
   go_wp2_with fail
   refine (eqIntS_x out _ _ _ _ _ (zbr.out.ext qXt) (zcr.out.ext qXt)).mono ?_
   rintro e w17 ⟨rfl, x17⟩
   have E17 : Ext w16 w17 := Ext.trans qXt x17
   have X17 : Ext w w17 := X16.trans E17
   replace Wo := Lib.hid (Wo.out.ext E17)
   replace tbo := Lib.hid (tbo.out.ext E17)
   replace lbo := Lib.hid (lbo.out.ext E17)
   replace zbr := Lib.hid (zbr.out.ext E17)
   replace zbo := Lib.hid (zbo.out.ext E17)
   replace Go := Lib.hid (Go.out.ext E17)
   replace zcr := Lib.hid (zcr.out.ext E17)
   have s17 : w16.heap.size ≤ w17.heap.size := E17.size
   replace x17 := Lib.hid x17
   clear E17
   clear zbr zcr
   have hb1 : w7.heap.size ≤ w7.heap.size := by omega
   have hb2 : w8.heap.size ≤ w8.heap.size := by omega
   go_wp2_with fail
   refine (markTensorS_c ts _ 1 _ _ _ (tbo.out.ext qXt) hl (by omega) (by omega)).mono ?_
   rintro e w18 ⟨rfl, k18⟩
   have K18 : Chg w6.heap.size w7.heap.size w17 w18 := (Chg.of_ext qXt).trans k18
   have X18 : Ext w w18 := X17.chg K18 (by omega)
   have s18 : w17.heap.size ≤ w18.heap.size := K18.size
   replace Wo := Lib.hid (Wo.out.chgB K18 (fun hn g hg => Nat.lt_of_lt_of_le (bW hn g hg) (by omega)))
   replace Go := Lib.hid (Go.out.chg K18 (by omega))
   replace lbo := Lib.hid (lbo.out.chg K18 (by omega))
   replace zbo := Lib.hid (zbo.out.chg K18 (by omega))
   replace k18 := Lib.hid k18
   clear K18
   clear tbo
   go_wp2_with fail
   refine (markIntSS_c ls _ _ _ _ _ (lbo.out.ext qXt) hl2 (by omega) (by omega)).mono ?_
   rintro e w19 ⟨rfl, k19⟩
   have K19 : Chg w7.heap.size w8.heap.size w18 w19 := (Chg.of_ext qXt).trans k19
   have X19 : Ext w w19 := X18.chg K19 (by omega)
   have s19 : w18.heap.size ≤ w19.heap.size := K19.size
   replace Wo := Lib.hid (Wo.out.chgB K19 (fun hn g hg => Nat.lt_of_lt_of_le (bW hn g hg) (by omega)))
   replace Go := Lib.hid (Go.out.chg K19 (by omega))
   replace zbo := Lib.hid (zbo.out.chg K19 (by omega))
   replace k19 := Lib.hid k19
   clear K19
   clear lbo
   go_wp2_with fail
   refine (markZ_c out _ _ _ (w8.heap.size) (w9.heap.size) (zbo.out.ext qXt) bz (by omega) (by omega) (by omega)).mono ?_
   rintro e w20 ⟨rfl, -, k20, -, -⟩
   have K20 : Chg w8.heap.size w9.heap.size w19 w20 := (Chg.of_ext qXt).trans k20
   have X20 : Ext w w20 := X19.chg K20 (by omega)
   have s20 : w19.heap.size ≤ w20.heap.size := K20.size
   replace Wo := Lib.hid (Wo.out.chgB K20 (fun hn g hg => Nat.lt_of_lt_of_le (bW hn g hg) (by omega)))
   replace Go := Lib.hid (Go.out.chg K20 (by omega))
   replace k20 := Lib.hid k20
   clear K20
   clear zbo
   go_wp2_with fail
   refine (eqIntS_x K _ _ _ _ _ ((Go.out.ints (by omega)).ext qXt) ((Wo.out.ints (by omega)).ext qXt)).mono ?_
   rintro e w21 ⟨rfl, x21⟩
   have E21 : Ext w20 w21 := Ext.trans qXt x21
   have X21 : Ext w w21 := X20.trans E21
   replace Wo := Lib.hid (Wo.out.ext E21)
   replace Go := Lib.hid (Go.out.ext E21)
   have s21 : w20.heap.size ≤ w21.heap.size := E21.size
   replace x21 := Lib.hid x21
   clear E21
   go_wp2_with fail
   refine (markZ_c K _ 1 _ (w9.heap.size) (w10.heap.size) (Go.out.ext qXt) bG (by omega) (by omega) (by omega)).mono ?_
   rintro e w22 ⟨rfl, Ho, k22, -, -⟩
   have K22 : Chg w9.heap.size w10.heap.size w21 w22 := (Chg.of_ext qXt).trans k22
   have X22 : Ext w w22 := X21.chg K22 (by omega)
   have s22 : w21.heap.size ≤ w22.heap.size := K22.size
   replace Wo := Lib.hid (Wo.out.chgB K22 (fun hn g hg => Nat.lt_of_lt_of_le (bW hn g hg) (by omega)))
   replace k22 := Lib.hid k22
   clear K22
   clear Go
   replace Ho := Lib.hid Ho
   have nH : (ksL 1 K.length).length ≤ 4194304 := by rw [ksL_len]; omega
   go_wp2_with fail
   refine (heldIntS_c K.length _ 1 _ _ ((Ho.out.ints nH).ext qXt) (by omega) (by omega)).mono ?_
   rintro e w' ⟨rfl, rfl⟩
   go_wp2_with fail
   refine (toTensorS_c ts v _ (hv.out.ext (X22.trans qXt)) hl hr.out).mono ?_
   rintro e w23 ⟨td, rfl, tdr, x23⟩
   have E23 : Ext w22 w23 := Ext.trans qXt x23
   have X23 : Ext w w23 := X22.trans E23
   replace Wo := Lib.hid (Wo.out.ext E23)
   replace Ho := Lib.hid (Ho.out.ext E23)
   have s23 : w22.heap.size ≤ w23.heap.size := E23.size
   replace x23 := Lib.hid x23
   clear E23
   replace tdr := Lib.hid tdr
   go_wp2_with fail
   refine (toIntSS_c ls u _ (hu.out.ext (X23.trans qXt)) hl2 hr2.out).mono ?_
   rintro e w24 ⟨ld, rfl, ldr, x24⟩
   have E24 : Ext w23 w24 := Ext.trans qXt x24
   have X24 : Ext w w24 := X23.trans E24
   replace Wo := Lib.hid (Wo.out.ext E24)
   replace Ho := Lib.hid (Ho.out.ext E24)
   replace tdr := Lib.hid (tdr.out.ext E24)
   have s24 : w23.heap.size ≤ w24.heap.size := E24.size
   replace x24 := Lib.hid x24
   clear E24
   replace ldr := Lib.hid ldr
   go_wp2_with fail
   refine (toIntS_c out _ _ (hz.out.ext (X24.trans qXt)) (by omega)).mono ?_
   rintro e w25 ⟨zd, rfl, zdr, -, x25⟩
   have E25 : Ext w24 w25 := Ext.trans qXt x25
   have X25 : Ext w w25 := X24.trans E25
   replace Wo := Lib.hid (Wo.out.ext E25)
   replace Ho := Lib.hid (Ho.out.ext E25)
   replace tdr := Lib.hid (tdr.out.ext E25)
   replace ldr := Lib.hid (ldr.out.ext E25)
   have s25 : w24.heap.size ≤ w25.heap.size := E25.size
   replace x25 := Lib.hid x25
   clear E25
   obtain ⟨zda, zdc, rfl⟩ := zdr.form
   replace zdr := Lib.hid zdr
   go_wp2_with fail
   refine (implKeptLabels_c ts ls out _ _ _ i j _ _ _ _ (tdr.out.ext qXt) (ldr.out.ext qXt) (zdr.out.ext qXt) (by omega)).mono ?_
   rintro e w26 ⟨P, rfl, Pi, Po, x26⟩
   have E26 : Ext w25 w26 := Ext.trans qXt x26
   have X26 : Ext w w26 := X25.trans E26
   replace Wo := Lib.hid (Wo.out.ext E26)
   replace Ho := Lib.hid (Ho.out.ext E26)
   replace tdr := Lib.hid (tdr.out.ext E26)
   replace ldr := Lib.hid (ldr.out.ext E26)
   replace zdr := Lib.hid (zdr.out.ext E26)
   have s26 : w25.heap.size ≤ w26.heap.size := E26.size
   replace x26 := Lib.hid x26
   clear E26
   rw [hK.out] at Pi Po
   replace Pi := Lib.hid Pi
   obtain ⟨Pa, Pc, rfl⟩ := Pi.out.form
   clear Pi
   replace Po := Lib.hid Po
   clear tdr ldr zdr
   go_wp2_with fail
   refine (eqIntS_x K _ _ _ _ _ ((Po.out.ints (by omega)).ext qXt) ((Wo.out.ints (by omega)).ext qXt)).mono ?_
   rintro e w27 ⟨rfl, x27⟩
   have E27 : Ext w26 w27 := Ext.trans qXt x27
   have X27 : Ext w w27 := X26.trans E27
   replace Wo := Lib.hid (Wo.out.ext E27)
   replace Ho := Lib.hid (Ho.out.ext E27)
   replace Po := Lib.hid (Po.out.ext E27)
   have s27 : w26.heap.size ≤ w27.heap.size := E27.size
   replace x27 := Lib.hid x27
   clear E27
   go_wp2_with fail
   refine (heldIntS_c K.length _ 1 _ _ ((Ho.out.ints nH).ext qXt) (by omega) (by omega)).mono ?_
   rintro e w' ⟨rfl, rfl⟩
   go_wp2_with fail
   go_ret
   exact ⟨rfl, X27.trans qXt⟩
set_option maxHeartbeats 1600000 in
theorem lawKeptLabels_c (ts : List Ten) (v : Value) (ls : List Lst) (u : Value) (a0 : Option Addr) (c0 : Nat) (out : List Int) (i j : Int) (w : World) (hv : RawT w v ts) (hm : ts.length ≤ maxLen) (hu : RawL w u ls) (hn : ls.length ≤ maxLen) (hz : Raw w (.slice a0 out.length c0) out) (ho : out.length ≤ maxLen) (wi : (Lit.int .i64 i).wf = true) (wj : (Lit.int .i64 j).wf = true) :
  Calls Try.prog 8 #[v, u, .slice a0 out.length c0, .int .i64 i, .int .i64 j] w fun e w' => e = .returned (.bool true) ∧ Ext w w' := by
 by_cases h : out.length ≤ 1048576
 ·
  exact lawKeptLabels_1 ts ls v u a0 c0 out i j w hv hu hz hm hn h _ (Lib.hid rfl) (kptA_len _ _ _ _ _)
 ·
  have hoI : (1048576 : Int) < (out.length : Int) := by omega
  go_enter Try.func8, Try.ntmps8
  go_wp2_with fail
  go_ret
  exact ⟨rfl, qXt⟩
end Go.Proofs.Ytfbbnbpobojboaa

/- The law FnExactKeptLabels holds for all arguments: the call returns true, and its arguments read as they did. No condition. -/
namespace Go.Proofs.Ytfbbnbpobojboaa.rowKeptLabels
open Go.ChangeShapes Go.WideShapes Go.ChangeAt Go.RowKit
set_option linter.unusedVariables false

set_option maxHeartbeats 1000000 in
set_option maxRecDepth 100000 in
theorem lifted (os : Os) (started : os.Started) (H : Type) (enc : TypeId × Value → H) :
    ReturnsInHanded {} Try.checked os 8 .any (Rows.fnExactKeptLabelsSpec.pre6 enc Try.prog Try.f8 Rows.fnExactKeptLabelsRow.domain false) (Rows.fnExactKeptLabelsSpec.post enc Try.prog Try.f8 false true false false) := by
  refine returnsInHanded_of_change (C := Try.checked) own started qKr Try.func8
    (ChangeSpec.witness6 (enc := enc) (C := Try.checked) false ⟨#[], #[.slice none 0 0, .slice none 0 0, .slice none 0 0, .int .i64 0, .int .i64 0], []⟩ 8 qKr qKr qKr qKr) ?_
  intro W base args ds gs before hval0 hW hcnd _
  have hval : ∀ (j : Nat) t v, Try.f8.params[j]? = some t → args[j]? = some v → Value.okWide Try.prog W .any base t v := hval0
  have hW' := hW
  obtain ⟨p, q, hA0, hV, rfl, hfz, hnd⟩ := hW
  have hA : DataW.TrodAll enc Try.prog W 0 (fun _ => true) true Try.f8.params.toList args.toList ds p := hA0
  rw [Try.params8] at hA hval
  obtain ⟨v0, vs0, d0, ds0, p0, q0, hargs0, rfl, rfl, h0, r0⟩ := trodAll_cons hA
  obtain ⟨v1, vs1, d1, ds1, p1, q1, hargs1, rfl, rfl, h1, r1⟩ := trodAll_cons r0
  subst hargs1
  obtain ⟨v2, vs2, d2, ds2, p2, q2, hargs2, rfl, rfl, h2, r2⟩ := trodAll_cons r1
  subst hargs2
  obtain ⟨v3, vs3, d3, ds3, p3, q3, hargs3, rfl, rfl, h3, r3⟩ := trodAll_cons r2
  subst hargs3
  obtain ⟨v4, vs4, d4, ds4, p4, q4, hargs4, rfl, rfl, h4, r4⟩ := trodAll_cons r3
  subst hargs4
  obtain ⟨rfl, rfl, rfl⟩ := trodAll_nil r4
  obtain rfl : args = #[v0, v1, v2, v3, v4] := by cases args; simp_all
  obtain ⟨rfl, rfl⟩ := trodVars_none hV
  have k0 := h0
  have lt0 : ∀ x ∈ p0, x.block < W.heap.size := by obtain ⟨m, hm⟩ := k0; exact DataW.trod_lt m _ _ _ hm
  have hc0 : v0.cells.toList = [v0] := by obtain ⟨_, _, _, rfl⟩ := okWide_slice Try.underlying50 (hval 0 _ v0 rfl rfl); rfl
  obtain ⟨m0, hm0⟩ := h0
  rw [hc0] at hm0
  obtain ⟨rs0, hs0, hn0⟩ := open_rawT hm0
  have k1 := h1
  have lt1 : ∀ x ∈ p1, x.block < W.heap.size := by obtain ⟨m, hm⟩ := k1; exact DataW.trod_lt m _ _ _ hm
  have hc1 : v1.cells.toList = [v1] := by obtain ⟨_, _, _, rfl⟩ := okWide_slice Try.underlying51 (hval 1 _ v1 rfl rfl); rfl
  obtain ⟨m1, hm1⟩ := h1
  rw [hc1] at hm1
  obtain ⟨rs1, hs1, hn1⟩ := open_rawL hm1
  have k2 := h2
  have lt2 : ∀ x ∈ p2, x.block < W.heap.size := by obtain ⟨m, hm⟩ := k2; exact DataW.trod_lt m _ _ _ hm
  have hc2 : v2.cells.toList = [v2] := by obtain ⟨_, _, _, rfl⟩ := okWide_slice Try.underlying22 (hval 2 _ v2 rfl rfl); rfl
  obtain ⟨m2, hm2⟩ := h2
  rw [hc2] at hm2
  obtain ⟨s2, hs2⟩ := open_rawInts hm2
  obtain ⟨a2, f2, rfl⟩ := hs2.form
  have k3 := h3
  have lt3 : ∀ x ∈ p3, x.block < W.heap.size := by obtain ⟨m, hm⟩ := k3; exact DataW.trod_lt m _ _ _ hm
  obtain ⟨i3, rfl, -, -, wf3⟩ := open_int Try.underlying3 (hval 3 _ v3 rfl rfl) h3
  have k4 := h4
  have lt4 : ∀ x ∈ p4, x.block < W.heap.size := by obtain ⟨m, hm⟩ := k4; exact DataW.trod_lt m _ _ _ hm
  obtain ⟨i4, rfl, -, -, wf4⟩ := open_int Try.underlying3 (hval 4 _ v4 rfl rfl) h4
  clear hA0 hval0
  refine (lawKeptLabels_c rs0 v0 rs1 v1 a2 f2 s2 i3 i4 W hs0 hn0 hs1 hn1 hs2.1 hs2.2 wf3 wf4).mono fun e W' ⟨he, bel⟩ => ?_
  subst he
  exact ⟨_, rfl, _, _, _, [], _, [], hW', trodAll_mk1 (shut_bool Try.underlying4 _), (trodAll_cons_mk (Below.trod laidOut qKr (of_decide_eq_true qKr) k0 bel lt0) (trodAll_cons_mk (Below.trod laidOut qKr (of_decide_eq_true qKr) k1 bel lt1) (trodAll_cons_mk (Below.trod laidOut qKr (of_decide_eq_true qKr) k2 bel lt2) (trodAll_cons_mk (Below.trod laidOut qKr (of_decide_eq_true qKr) k3 bel lt3) (trodAll_cons_mk (Below.trod laidOut qKr (of_decide_eq_true qKr) k4 bel lt4) trodAll_mk0))))), rfl, Below.frame bel _, fun h => by cases h⟩

set_option maxHeartbeats 2000000 in
theorem closed : joinedFacts Try.checked.prog 8 Try.f8 Rows.fnExactKeptLabelsSpec Rows.fnExactKeptLabelsRow = true :=
  facts.all qKr qKr qKr qKr qKr (by as_aux_lemma => kernel_rfl) (by as_aux_lemma => kernel_rfl) (by as_aux_lemma => kernel_rfl) (by as_aux_lemma => kernel_rfl)
    (by as_aux_lemma => kernel_rfl) (by as_aux_lemma => kernel_rfl) rfl rfl rfl rfl qKr qKr (by as_aux_lemma => kernel_rfl) (by as_aux_lemma => kernel_rfl)

theorem named : Try.pinned.checked.prog.funcNamed Rows.fnExactKeptLabelsRow.func = some 8 := by kernel_rfl

theorem over : Rows.fnExactKeptLabelsRow.holds Try.pinned (OpenSpec.ofChange Rows.fnExactKeptLabelsSpec) :=
  OpenClaim.holds_of_wide 8 Try.f8 rfl rfl rfl rfl rfl rfl rfl ⟨rfl, rfl, rfl, rfl, rfl⟩ rfl rfl rfl rfl rfl named Try.func8 closed
    (of_decide_eq_true qKr) (by unfold Func.isWrapper; exact ⟨rfl, rfl⟩)
    (fun os started H enc _ => lifted os started H enc)

theorem proved : Rows.FnExactKeptLabelsSaid := over

end Go.Proofs.Ytfbbnbpobojboaa.rowKeptLabels
