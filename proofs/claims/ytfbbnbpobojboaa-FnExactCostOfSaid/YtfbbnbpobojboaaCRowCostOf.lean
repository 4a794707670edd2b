/- Texts of these proofs put together: TnB, TnQ, TnC, LawCostOf, RowCostOf. No condition. -/
import Derived.Test.YtfbbnbpobojboaaD1RowCostOf
import Derived.Test.YtfbbnbpobojboaaM1
set_option linter.unusedVariables false
set_option linter.unusedSimpArgs false
/- Walks: the extents of labels. -/
namespace Go.Proofs.Ytfbbnbpobojboaa
open Go.RowKit
set_option linter.unusedVariables false
set_option maxRecDepth 100000

set_option maxHeartbeats 6400000 in
theorem extentsOf_c (ts : List Ten) (ls : List Lst) (tv lv : Value) (w : World) (l1 l2 : Nat) (h1 : Tens w l1 tv ts) (h2 : Lsts w l2 lv ls) :
  Calls Try.prog 97 #[tv, lv] w (PIntsB w (extL (extA ts ls)) (extA ts ls).isSome) := by
 obtain ⟨p0, c0, rfl⟩ := h1.form
 obtain ⟨p1, c1, rfl⟩ := h2.form
 have hlt1 := h1.len
 have hlt2 := h2.len
 go_enter Try.func97, Try.ntmps97
 by_cases hc1 : (ts.length : Int) < (1 : Int)
 ·
  go_wp2_with fail
  go_ret2
  rw [extA_none (ts := ts) (ls := ls) (.inl (by unfold tensB inB; simp; omega))]
  exact PIntsB.no qXt
 ·
  by_cases hc2 : (3 : Int) < (ts.length : Int)
  ·
   go_wp2_with fail
   go_ret2
   rw [extA_none (ts := ts) (ls := ls) (.inl (by unfold tensB inB; simp; omega))]
   exact PIntsB.no qXt
  ·
   by_cases hc3 : (ls.length : Int) = (ts.length : Int)
   ·
    have hc3e : ((ls.length : Int) == (ts.length : Int)) = true := by simpa using hc3
    have hc3n : ((ls.length : Int) != (ts.length : Int)) = false := by simpa using hc3
    replace hc3 := Lib.hid hc3
    have BL5 : Ext w w := Ext.refl _
    obtain ⟨i0mk6, himk6, hz0mk6, hz1mk6, hz2mk6⟩ := info_parts infoInt
    go_wp2_with (at_make; refine wpList_make_full _ rfl _ _ 22 rfl w.heap.size 3 i0mk6 (.int .i64 0) 1 Try.underlying22 himk6 hz0mk6 hz1mk6 .i64 .i64 _ _ 5 rfl rfl rfl rfl (by rw [hz2mk6]; omega) (by unfold maxLen; omega) (Nat.le_refl _) ?_)
    intro w1 hown7 hgr7
    have xw1 : Ext w w1 := (Ext.refl w).grown hgr7 (by simp)
    rw [made_ints] at hown7
    clear hgr7
    have O7 : OwnI w1 w.heap.size (.slice (some ⟨w.heap.size, 0, none⟩) 5 5) (List.replicate 5 0) := by unfold OwnI; simpa using hown7
    clear hown7 himk6 hz0mk6 hz1mk6 hz2mk6
    have Lw1 : Ext w w1 := Ext.trans qXt xw1
    have Xw1 : Ext w w1 := Lw1
    have s_w1 : w.heap.size ≤ w1.heap.size := Xw1.size
    have BL5_w1 : Ext w w1 := BL5.trans Lw1
    clear xw1
    skip
    go_wp2_with fail
    go_loopw [30] (fun i wr => ∃ (j : Nat), j ≤ 5 ∧ i = .int .i64 j ∧ OwnI wr (w.heap.size) (.slice (some ⟨w.heap.size, 0, none⟩) 5 5) (negL j) ∧ Chg w.heap.size (w.heap.size + 1) w1 wr ∧ Ext w wr) (fun i _ => 5 - (intOf i).toNat)
    case atStart => exact ⟨0, by omega, rfl, (show OwnI _ _ _ (negL 0) from (O7.ext qXt)), Chg.refl _ _ _, BL5_w1⟩
    case round =>
     generalize wr = wa at hrel ⊢
     obtain ⟨j, hj, rfl, O7n, Kr8, Er9⟩ := hrel
     have Xwa : Ext w wa := Er9
     have s_wa : w.heap.size ≤ wa.heap.size := Xwa.size
     have t_wa : w1.heap.size ≤ wa.heap.size := Kr8.size
     clear O7
     have O7 := O7n
     clear O7n
     have GL_wa := (own_lt O7 rfl).2
     by_cases hjl : j < 5
     ·
      have hjI : (j : Int) < (5 : Int) := by omega
      have hnl : 5 ≤ (negL j).length := by rw [negL_len hj]; omega
      have A10 := O7.cell j (by omega)
      obtain ⟨A10a, A10b⟩ := A10
      go_wp2_with fail
      generalize hW1 : (wa.setCell ⟨w.heap.size, j, none⟩ (.int .i64 (-1))) = w2 at *
      have Kw2 : Chg (w.heap.size) (w.heap.size + 1) wa w2 := by subst hW1; exact qCh
      have Xw2 : Ext w w2 := by subst hW1; exact qXt
      have BL5_w2 : Ext w w2 := by subst hW1; exact qXt
      have Kr8_w2 : Chg w.heap.size (w.heap.size + 1) w1 w2 := Chg.trans Kr8 Kw2
      have n_O7 := O7.set j (-1) (by first | omega | (simp; omega) | (rw [putUp_len]; simp; omega) | (rw [addUp_len]; omega))
      rw [hW1] at n_O7
      replace O7 := n_O7
      clear n_O7
      clear Kw2
      have s_w2 : w.heap.size ≤ w2.heap.size := Xw2.size
      clear hW1
      clear A10a A10b
      go_roundw
      case rel => exact ⟨j + 1, by omega, by go_num, (by rw [show negL (j+1) = (negL j).set j (-1) from (negL_set hjl).symm]; exact O7.ext qXt), Kr8_w2.ext qXt, BL5_w2.trans qXt⟩
      case measure => simp [intOf]; omega
     ·
      obtain rfl : j = 5 := by omega
      have hjI : ¬ (5 : Int) < (5 : Int) := by omega
      rw [show negL 5 = List.replicate 5 (-1) from rfl] at O7
      go_wp2_with fail
      go_loopw [39] (fun v wr => ∃ (i : Nat) (e : List Int), i ≤ ts.length ∧ v = .int .i64 i ∧ Hid (extT ts ls i = some e) ∧ Hid (tnB ts i = true) ∧ OwnI wr (w.heap.size) (.slice (some ⟨w.heap.size, 0, none⟩) 5 5) e ∧ Chg w.heap.size (w.heap.size + 1) wa wr ∧ Ext w wr) (fun v _ => ts.length - (intOf v).toNat)
      case atStart => exact ⟨0, List.replicate 5 (-1), Nat.zero_le _, rfl, Lib.hid rfl, Lib.hid rfl, (show OwnI _ _ _ (List.replicate 5 (-1)) from (O7.ext qXt)), Chg.refl _ _ _, Er9⟩
      case round =>
       generalize wr = wb at hrel ⊢
       obtain ⟨i, e, hi, rfl, het, htn, O7n, Kr11, Er12⟩ := hrel
       have Xwb : Ext w wb := Er12
       have s_wb : w.heap.size ≤ wb.heap.size := Xwb.size
       have t_wb : wa.heap.size ≤ wb.heap.size := Kr11.size
       clear O7
       have O7 := O7n
       clear O7n
       have GL_wb := (own_lt O7 rfl).2
       have Kr8_wb := Chg.trans Kr8 Kr11
       have he5 : 5 ≤ e.length := by rw [extT_len het.out]; omega
       have he6 : e.length ≤ 5 := by rw [extT_len het.out]; omega
       by_cases hil : i < ts.length
       ·
        have hiI : (i : Int) < ts.length := by omega
        have hil2 : i < ls.length := by have h7 := hc3.out; omega
        have hN_x13 : i < ts.length := hil
        have hI_x13 : (i : Int) < (ts.length : Int) := by omega
        obtain ⟨bl15, ol16, u17, c19, u18, c20, rfl, x130, x131, i21, i22⟩ := h1.at i hN_x13
        obtain ⟨X14, hX14⟩ : ∃ x, tenAt ts i = x := ⟨_, rfl⟩
        rw [hX14] at x130 x131 i21 i22
        obtain ⟨S23, T24⟩ := X14
        dsimp only at x130 x131 i21 i22
        replace hX14 := Lib.hid hX14
        have hLS23 := i21.len
        have hLT24 := i22.len
        have y_x13 : bl15 < w.heap.size := qB x130
        replace x130 := Xwb.cell x130
        replace x131 := Xwb.cell x131
        have z_x13 : bl15 < wb.heap.size := qB x130
        go_wp2_with fail
        generalize hW2 : wb.alloc (.cells #[.slice u17 S23.length c19, .slice u18 T24.length c20] 109) = w2 at *
        have Lw2 : Ext wb w2 := by subst hW2; exact qXt
        have Xw2 : Ext w w2 := Xwb.trans Lw2
        replace x130 := Lw2.cell x130
        replace x131 := Lw2.cell x131
        have b250 : w2.cell? ⟨wb.heap.size, 0, none⟩ = some (.slice u17 S23.length c19) := by subst hW2; exact qCl
        have b251 : w2.cell? ⟨wb.heap.size, 1, none⟩ = some (.slice u18 T24.length c20) := by subst hW2; exact qCl
        have z_x13 : bl15 < w2.heap.size := qB x130
        have z_b25 : wb.heap.size < w2.heap.size := qB b250
        replace O7 := O7.ext Lw2
        have s_w2 : w.heap.size ≤ w2.heap.size := Xw2.size
        have BL5_w2 : Ext w w2 := Er12.trans Lw2
        have Kr8_w2 : Chg w.heap.size (w.heap.size + 1) w1 w2 := Chg.ext Kr8_wb Lw2
        have Kr11_w2 : Chg w.heap.size (w.heap.size + 1) wa w2 := Chg.ext Kr11 Lw2
        clear hW2
        have hN_x26 : i < ls.length := hil2
        have hI_x26 : (i : Int) < (ls.length : Int) := by omega
        obtain ⟨bl28, ol29, u30, c31, rfl, x260, i32⟩ := h2.at i hN_x26
        obtain ⟨X27, hX27⟩ : ∃ x, lstAt ls i = x := ⟨_, rfl⟩
        rw [hX27] at x260 i32
        obtain ⟨S33⟩ := X27
        dsimp only at x260 i32
        replace hX27 := Lib.hid hX27
        have hLS33 := i32.len
        have y_x26 : bl28 < w.heap.size := qB x260
        replace x260 := Xw2.cell x260
        have z_x26 : bl28 < w2.heap.size := qB x260
        go_wp2_with fail
        refine wp_region_tail (S := fun w' => w'.cell? ⟨bl15, ol16 + i * 2, none⟩ = some (.slice u17 S23.length c19) ∧ w'.cell? ⟨bl15, ol16 + i * 2 + 1, none⟩ = some (.slice u18 T24.length c20) ∧ w'.cell? ⟨wb.heap.size, 0, none⟩ = some (.slice u17 S23.length c19) ∧ w'.cell? ⟨wb.heap.size, 1, none⟩ = some (.slice u18 T24.length c20) ∧ w'.cell? ⟨bl28, ol29 + i, none⟩ = some (.slice u30 S33.length c31)) (fun i => decide (22 ≤ i)) qKr ⟨x130, x131, b250, b251, x260⟩ (fun hHeld => ?_)
        refine qTk (v := ?_) 0 rfl (.inl ⟨by rfl, ?_⟩) ?_
        rotate_left
        ·
         (intro w hSw; (try dsimp only at hSw); go_simp; try with_reducible rfl)
        try simp only [Act.put, qa, qb, qc, qD, qE, qF]
        refine wpTail_one (i := 1) qKr rfl rfl (fun K hK => ?_)
        try simp only [Act.put, qa, qb, qc, qD, qE, qF]
        go_simp
        refine (isTensor_c (.slice u17 S23.length c19) (.slice u18 T24.length c20) S23 T24 _ _ _ (i21.ext (Xw2.trans qXt)) (i22.ext (Xw2.trans qXt))).mono ?_
        rintro e w3 ⟨rfl, xw3⟩
        have Lw3 : Ext w2 w3 := Ext.trans qXt xw3
        have Xw3 : Ext w w3 := Xw2.trans Lw3
        replace x130 := Lw3.cell x130
        replace x131 := Lw3.cell x131
        replace b250 := Lw3.cell b250
        replace b251 := Lw3.cell b251
        replace x260 := Lw3.cell x260
        have z_x13 : bl15 < w3.heap.size := qB x130
        have z_b25 : wb.heap.size < w3.heap.size := qB b250
        have z_x26 : bl28 < w3.heap.size := qB x260
        replace O7 := O7.ext Lw3
        have s_w3 : w.heap.size ≤ w3.heap.size := Xw3.size
        have BL5_w3 : Ext w w3 := BL5_w2.trans Lw3
        have Kr8_w3 : Chg w.heap.size (w.heap.size + 1) w1 w3 := Chg.ext Kr8_w2 Lw3
        have Kr11_w3 : Chg w.heap.size (w.heap.size + 1) wa w3 := Chg.ext Kr11_w2 Lw3
        clear xw3
        cases hB34 : tenB S23 T24
        ·
         replace hB34 := Lib.hid hB34
         refine hK.out _ _ ⟨x130, x131, b250, b251, x260⟩ (fun hHeld => ?_)
         clear hK K
         try simp only [Act.put, qa, qb, qc, qD, qE, qF]
         refine qTk (v := ?_) 2 rfl (.inl ⟨by rfl, ?_⟩) ?_
         rotate_left
         ·
          (intro w hSw; (try dsimp only at hSw); go_simp; try with_reducible rfl)
         try simp only [Act.put, qa, qb, qc, qD, qE, qF]
         refine qTk (v := ?_) 3 rfl (.inl ⟨by rfl, ?_⟩) ?_
         rotate_left
         ·
          (intro w hSw; (try dsimp only at hSw); go_simp; try with_reducible rfl)
         try simp only [Act.put, qa, qb, qc, qD, qE, qF]
         refine qTs 4 rfl (.inr ⟨by rfl, rfl⟩) ?_
         try simp only [Act.put, qa, qb, qc, qD, qE, qF]
         refine qTs 5 rfl (.inr ⟨by rfl, rfl⟩) ?_
         try simp only [Act.put, qa, qb, qc, qD, qE, qF]
         refine qTs 6 rfl (.inr ⟨by rfl, rfl⟩) ?_
         try simp only [Act.put, qa, qb, qc, qD, qE, qF]
         refine qTs 7 rfl (.inr ⟨by rfl, rfl⟩) ?_
         try simp only [Act.put, qa, qb, qc, qD, qE, qF]
         refine qTs 8 rfl (.inr ⟨by rfl, rfl⟩) ?_
         try simp only [Act.put, qa, qb, qc, qD, qE, qF]
         refine qTs 9 rfl (.inr ⟨by rfl, rfl⟩) ?_
         try simp only [Act.put, qa, qb, qc, qD, qE, qF]
         refine qTs 10 rfl (.inr ⟨by rfl, rfl⟩) ?_
         try simp only [Act.put, qa, qb, qc, qD, qE, qF]
         refine qTs 11 rfl (.inr ⟨by rfl, rfl⟩) ?_
         try simp only [Act.put, qa, qb, qc, qD, qE, qF]
         refine qTs 12 rfl (.inr ⟨by rfl, rfl⟩) ?_
         try simp only [Act.put, qa, qb, qc, qD, qE, qF]
         refine qTk (v := ?_) 13 rfl (.inl ⟨by rfl, ?_⟩) ?_
         rotate_left
         ·
          (intro w hSw; (try dsimp only at hSw); go_simp; try with_reducible rfl)
         try simp only [Act.put, qa, qb, qc, qD, qE, qF]
         refine qTk (v := ?_) 14 rfl (.inl ⟨by rfl, ?_⟩) ?_
         rotate_left
         ·
          (intro w hSw; (try dsimp only at hSw); go_simp; try with_reducible rfl)
         try simp only [Act.put, qa, qb, qc, qD, qE, qF]
         refine qTs 15 rfl (.inr ⟨by rfl, rfl⟩) ?_
         try simp only [Act.put, qa, qb, qc, qD, qE, qF]
         refine qTs 16 rfl (.inr ⟨by rfl, rfl⟩) ?_
         try simp only [Act.put, qa, qb, qc, qD, qE, qF]
         refine qTs 17 rfl (.inr ⟨by rfl, rfl⟩) ?_
         try simp only [Act.put, qa, qb, qc, qD, qE, qF]
         refine qTs 18 rfl (.inr ⟨by rfl, rfl⟩) ?_
         try simp only [Act.put, qa, qb, qc, qD, qE, qF]
         refine qTs 19 rfl (.inr ⟨by rfl, rfl⟩) ?_
         try simp only [Act.put, qa, qb, qc, qD, qE, qF]
         refine qTs 20 rfl (.inr ⟨by rfl, rfl⟩) ?_
         try simp only [Act.put, qa, qb, qc, qD, qE, qF]
         refine qTk (v := ?_) 21 rfl (.inl ⟨by rfl, ?_⟩) ?_
         rotate_left
         ·
          (intro w hSw; (try dsimp only at hSw); go_simp; try with_reducible rfl)
         try simp only [Act.put, qa, qb, qc, qD, qE, qF]
         refine wpTail_done qKr ?_ _
         clear hHeld 
         go_wp2_with fail
         go_ret2
         rw [extA_none (ts := ts) (ls := ls) (.inl (by unfold tensB; rw [tnB_no hil (by rw [hX14.out]; exact hB34.out)]; rfl))]
         exact PIntsB.no (Xw3.trans qXt)
        ·
         replace hB34 := Lib.hid hB34
         refine hK.out _ _ ⟨x130, x131, b250, b251, x260⟩ (fun hHeld => ?_)
         clear hK K
         try simp only [Act.put, qa, qb, qc, qD, qE, qF]
         refine qTk (v := ?_) 2 rfl (.inl ⟨by rfl, ?_⟩) ?_
         rotate_left
         ·
          (intro w hSw; (try dsimp only at hSw); go_simp; try with_reducible rfl)
         try simp only [Act.put, qa, qb, qc, qD, qE, qF]
         refine qTk (v := ?_) 3 rfl (.inl ⟨by rfl, ?_⟩) ?_
         rotate_left
         ·
          (intro w hSw; (try dsimp only at hSw); go_simp; try with_reducible rfl)
         try simp only [Act.put, qa, qb, qc, qD, qE, qF]
         refine qTk (v := ?_) 4 rfl (.inl ⟨by rfl, ?_⟩) ?_
         rotate_left
         ·
          (intro w hSw; (try dsimp only at hSw); go_simp; try with_reducible rfl)
         try simp only [Act.put, qa, qb, qc, qD, qE, qF]
         refine qTk (v := ?_) 5 rfl (.inl ⟨by rfl, ?_⟩) ?_
         rotate_left
         ·
          (intro w hSw; (try dsimp only at hSw); go_simp; try with_reducible rfl)
         try simp only [Act.put, qa, qb, qc, qD, qE, qF]
         refine qTk (v := ?_) 6 rfl (.inl ⟨by rfl, ?_⟩) ?_
         rotate_left
         ·
          (intro w hSw; (try dsimp only at hSw); go_simp; try with_reducible rfl)
         try simp only [Act.put, qa, qb, qc, qD, qE, qF]
         refine qTk (v := ?_) 7 rfl (.inl ⟨by rfl, ?_⟩) ?_
         rotate_left
         ·
          (intro w hSw; (try dsimp only at hSw); go_simp; try with_reducible rfl)
         try simp only [Act.put, qa, qb, qc, qD, qE, qF]
         refine qTk (v := ?_) 8 rfl (.inl ⟨by rfl, ?_⟩) ?_
         rotate_left
         ·
          (intro w hSw; (try dsimp only at hSw); go_simp; try with_reducible rfl)
         try simp only [Act.put, qa, qb, qc, qD, qE, qF]
         refine qTk (v := ?_) 9 rfl (.inl ⟨by rfl, ?_⟩) ?_
         rotate_left
         ·
          (intro w hSw; (try dsimp only at hSw); go_simp; try with_reducible rfl)
         try simp only [Act.put, qa, qb, qc, qD, qE, qF]
         refine qTk (v := ?_) 10 rfl (.inl ⟨by rfl, ?_⟩) ?_
         rotate_left
         ·
          (intro w hSw; (try dsimp only at hSw); go_simp; try with_reducible rfl)
         try simp only [Act.put, qa, qb, qc, qD, qE, qF]
         refine qTk (v := ?_) 11 rfl (.inl ⟨by rfl, ?_⟩) ?_
         rotate_left
         ·
          (intro w hSw; (try dsimp only at hSw); go_simp; try with_reducible rfl)
         try simp only [Act.put, qa, qb, qc, qD, qE, qF]
         by_cases hc35 : (S33.length : Int) = (S23.length : Int)
         ·
          have hc35e : ((S33.length : Int) == (S23.length : Int)) = true := by simpa using hc35
          have hc35n : ((S33.length : Int) != (S23.length : Int)) = false := by simpa using hc35
          replace hc35 := Lib.hid hc35
          refine qTk (v := ?_) 12 rfl (.inl ⟨by rfl, ?_⟩) ?_
          rotate_left
          ·
           (intro w hSw; (try dsimp only at hSw); go_simp; try with_reducible rfl)
          try simp only [Act.put, qa, qb, qc, qD, qE, qF]
          refine qTk (v := ?_) 13 rfl (.inl ⟨by rfl, ?_⟩) ?_
          rotate_left
          ·
           (intro w hSw; (try dsimp only at hSw); go_simp; try with_reducible rfl)
          try simp only [Act.put, qa, qb, qc, qD, qE, qF]
          refine qTk (v := ?_) 14 rfl (.inl ⟨by rfl, ?_⟩) ?_
          rotate_left
          ·
           (intro w hSw; (try dsimp only at hSw); go_simp; try with_reducible rfl)
          try simp only [Act.put, qa, qb, qc, qD, qE, qF]
          refine qTk (v := ?_) 15 rfl (.inl ⟨by rfl, ?_⟩) ?_
          rotate_left
          ·
           (intro w hSw; (try dsimp only at hSw); go_simp; try with_reducible rfl)
          try simp only [Act.put, qa, qb, qc, qD, qE, qF]
          refine qTk (v := ?_) 16 rfl (.inl ⟨by rfl, ?_⟩) ?_
          rotate_left
          ·
           (intro w hSw; (try dsimp only at hSw); go_simp; try with_reducible rfl)
          try simp only [Act.put, qa, qb, qc, qD, qE, qF]
          refine qTk (v := ?_) 17 rfl (.inl ⟨by rfl, ?_⟩) ?_
          rotate_left
          ·
           (intro w hSw; (try dsimp only at hSw); go_simp; try with_reducible rfl)
          try simp only [Act.put, qa, qb, qc, qD, qE, qF]
          refine qTk (v := ?_) 18 rfl (.inl ⟨by rfl, ?_⟩) ?_
          rotate_left
          ·
           (intro w hSw; (try dsimp only at hSw); go_simp; try with_reducible rfl)
          try simp only [Act.put, qa, qb, qc, qD, qE, qF]
          refine wpTail_one (i := 19) qKr rfl rfl (fun K hK => ?_)
          try simp only [Act.put, qa, qb, qc, qD, qE, qF]
          go_simp
          refine (areLabels_c S33 (.slice u30 S33.length c31) _ _ (i32.ext (Xw3.trans qXt))).mono ?_
          rintro e w4 ⟨rfl, xw4⟩
          have Lw4 : Ext w3 w4 := Ext.trans qXt xw4
          have Xw4 : Ext w w4 := Xw3.trans Lw4
          replace x130 := Lw4.cell x130
          replace x131 := Lw4.cell x131
          replace b250 := Lw4.cell b250
          replace b251 := Lw4.cell b251
          replace x260 := Lw4.cell x260
          have z_x13 : bl15 < w4.heap.size := qB x130
          have z_b25 : wb.heap.size < w4.heap.size := qB b250
          have z_x26 : bl28 < w4.heap.size := qB x260
          replace O7 := O7.ext Lw4
          have s_w4 : w.heap.size ≤ w4.heap.size := Xw4.size
          have BL5_w4 : Ext w w4 := BL5_w3.trans Lw4
          have Kr8_w4 : Chg w.heap.size (w.heap.size + 1) w1 w4 := Chg.ext Kr8_w3 Lw4
          have Kr11_w4 : Chg w.heap.size (w.heap.size + 1) wa w4 := Chg.ext Kr11_w3 Lw4
          clear xw4
          cases hB36 : labB S33
          ·
           replace hB36 := Lib.hid hB36
           refine hK.out _ _ ⟨x130, x131, b250, b251, x260⟩ (fun hHeld => ?_)
           clear hK K
           try simp only [Act.put, qa, qb, qc, qD, qE, qF]
           refine qTk (v := ?_) 20 rfl (.inl ⟨by rfl, ?_⟩) ?_
           rotate_left
           ·
            (intro w hSw; (try dsimp only at hSw); go_simp; try with_reducible rfl)
           try simp only [Act.put, qa, qb, qc, qD, qE, qF]
           refine qTk (v := ?_) 21 rfl (.inl ⟨by rfl, ?_⟩) ?_
           rotate_left
           ·
            (intro w hSw; (try dsimp only at hSw); go_simp; try with_reducible rfl)
           try simp only [Act.put, qa, qb, qc, qD, qE, qF]
           refine wpTail_done qKr ?_ _
           clear hHeld 
           go_wp2_with fail
           go_ret2
           rw [extA_none (ts := ts) (ls := ls) (.inr (extT_row hil (by rw [hX14.out, hX27.out]; unfold rowOk; rw [hB36.out, Bool.and_false])))]
           exact PIntsB.no (Xw4.trans qXt)
          ·
           replace hB36 := Lib.hid hB36
           refine hK.out _ _ ⟨x130, x131, b250, b251, x260⟩ (fun hHeld => ?_)
           clear hK K
           try simp only [Act.put, qa, qb, qc, qD, qE, qF]
           refine qTk (v := ?_) 20 rfl (.inl ⟨by rfl, ?_⟩) ?_
           rotate_left
           ·
            (intro w hSw; (try dsimp only at hSw); go_simp; try with_reducible rfl)
           try simp only [Act.put, qa, qb, qc, qD, qE, qF]
           refine qTk (v := ?_) 21 rfl (.inl ⟨by rfl, ?_⟩) ?_
           rotate_left
           ·
            (intro w hSw; (try dsimp only at hSw); go_simp; try with_reducible rfl)
           try simp only [Act.put, qa, qb, qc, qD, qE, qF]
           refine wpTail_done qKr ?_ _
           clear hHeld 
           have hro : Hid (rowOk S23 S33 = true) := Lib.hid (by unfold rowOk; rw [decide_eq_true (show (S33.length : Int) = (S23.length : Int) from hc35.out), hB36.out]; rfl)
           have hLS : S33.length ≤ S23.length := by have h7 := hc35.out; omega
           go_wp2_with fail
           go_loopw [71] (fun v wr => ∃ (d : Nat) (x : List Int), d ≤ S33.length ∧ v = .int .i64 d ∧ Hid (extIn e S23 S33 d = some x) ∧ OwnI wr (w.heap.size) (.slice (some ⟨w.heap.size, 0, none⟩) 5 5) x ∧ Chg w.heap.size (w.heap.size + 1) w4 wr ∧ Ext w wr) (fun v _ => S33.length - (intOf v).toNat)
           case atStart => exact ⟨0, e, Nat.zero_le _, rfl, Lib.hid rfl, (show OwnI _ _ _ e from (O7.ext qXt)), Chg.refl _ _ _, BL5_w4⟩
           case round =>
            generalize wr = wc at hrel ⊢
            obtain ⟨d, x, hd, rfl, hxt, O7n, Kr37, Er38⟩ := hrel
            have Xwc : Ext w wc := Er38
            have s_wc : w.heap.size ≤ wc.heap.size := Xwc.size
            have t_wc : w4.heap.size ≤ wc.heap.size := Kr37.size
            replace x130 := Kr37.cell (by omega) x130
            replace x131 := Kr37.cell (by omega) x131
            replace b250 := Kr37.cell (by omega) b250
            replace b251 := Kr37.cell (by omega) b251
            replace x260 := Kr37.cell (by omega) x260
            have z_x13 : bl15 < wc.heap.size := qB x130
            have z_b25 : wb.heap.size < wc.heap.size := qB b250
            have z_x26 : bl28 < wc.heap.size := qB x260
            clear O7
            have O7 := O7n
            clear O7n
            have GL_wc := (own_lt O7 rfl).2
            have Kr8_wc := Chg.trans Kr8_w4 Kr37
            have Kr11_wc := Chg.trans Kr11_w4 Kr37
            have hx5 : 5 ≤ x.length := by rw [extIn_len hxt.out]; omega
            have hx6 : x.length ≤ 5 := by rw [extIn_len hxt.out]; omega
            by_cases hdl : d < S33.length
            ·
             have hdI : (d : Int) < (S33.length : Int) := by omega
             have hdS : d < S23.length := by omega
             have hN_e41 : d < S33.length := hdl
             have hI_e41 : (d : Int) < (S33.length : Int) := by omega
             obtain ⟨bl39, ol40, rfl, e410⟩ := i32.at d hdl
             have y_e41 : bl39 < w.heap.size := qB e410
             replace e410 := Xwc.cell e410
             obtain ⟨v42, hv42⟩ : ∃ v, S33.getD d 0 = v := ⟨_, rfl⟩
             rw [hv42] at e410
             replace hv42 := Lib.hid hv42
             have z_e41 : bl39 < wc.heap.size := qB e410
             obtain ⟨q7, hq4, rfl⟩ := lab_at hB36.out hdl hv42.out
             have hq7 := hv42
             have hw7 : IntKind.i64.wrap (q7 : Int) = (q7 : Int) := IntWalk.i64_in _ (by omega)
             have hq5 : (q7 : Int) < 5 := by omega
             go_wp2_with fail
             have hN_e45 : q7 < x.length := (by omega)
             have hI_e45 : (q7 : Int) < (x.length : Int) := by omega
             obtain ⟨b_e45, o_e45, h_e45, e450⟩ := (O7.ints (by first | omega | (simp; omega) | (unfold putL; rw [putUp_len]; simp; omega) | (rw [putUp_len]; simp; omega))).at q7 (by omega)
             cases h_e45
             rw [Nat.zero_add] at e450
             obtain ⟨v46, hv46⟩ : ∃ v, x.getD q7 0 = v := ⟨_, rfl⟩
             rw [hv46] at e450
             replace hv46 := Lib.hid hv46
             have y_e45 : w.heap.size < wc.heap.size := qB e450
             have z_e45 := y_e45
             refine wp_region_tail (S := fun w' => w'.cell? ⟨bl15, ol16 + i * 2, none⟩ = some (.slice u17 S23.length c19) ∧ w'.cell? ⟨bl15, ol16 + i * 2 + 1, none⟩ = some (.slice u18 T24.length c20) ∧ w'.cell? ⟨wb.heap.size, 0, none⟩ = some (.slice u17 S23.length c19) ∧ w'.cell? ⟨wb.heap.size, 1, none⟩ = some (.slice u18 T24.length c20) ∧ w'.cell? ⟨bl28, ol29 + i, none⟩ = some (.slice (some ⟨bl39, ol40, none⟩) S33.length c31) ∧ w'.cell? ⟨bl39, ol40 + d, none⟩ = some (.int .i64 (q7 : Int)) ∧ w'.cell? ⟨w.heap.size, q7, none⟩ = some (.int .i64 v46)) (fun i => decide (17 ≤ i)) qKr ⟨x130, x131, b250, b251, x260, e410, e450⟩ (fun hHeld => ?_)
             refine qTk (v := ?_) 0 rfl (.inl ⟨by rfl, ?_⟩) ?_
             rotate_left
             ·
              (intro w hSw; (try dsimp only at hSw); go_simp; try with_reducible rfl)
             try simp only [Act.put, qa, qb, qc, qD, qE, qF]
             refine qTk (v := ?_) 1 rfl (.inl ⟨by rfl, ?_⟩) ?_
             rotate_left
             ·
              (intro w hSw; (try dsimp only at hSw); go_simp; try with_reducible rfl)
             try simp only [Act.put, qa, qb, qc, qD, qE, qF]
             refine qTk (v := ?_) 2 rfl (.inl ⟨by rfl, ?_⟩) ?_
             rotate_left
             ·
              (intro w hSw; (try dsimp only at hSw); go_simp; try with_reducible rfl)
             try simp only [Act.put, qa, qb, qc, qD, qE, qF]
             refine qTk (v := ?_) 3 rfl (.inl ⟨by rfl, ?_⟩) ?_
             rotate_left
             ·
              (intro w hSw; (try dsimp only at hSw); go_simp; try with_reducible rfl)
             try simp only [Act.put, qa, qb, qc, qD, qE, qF]
             by_cases hc50 : (0 : Int) ≤ (v46 : Int)
             ·
              refine qTk (v := ?_) 4 rfl (.inl ⟨by rfl, ?_⟩) ?_
              rotate_left
              ·
               (intro w hSw; (try dsimp only at hSw); go_simp; try with_reducible rfl)
              try simp only [Act.put, qa, qb, qc, qD, qE, qF]
              refine qTk (v := ?_) 5 rfl (.inl ⟨by rfl, ?_⟩) ?_
              rotate_left
              ·
               (intro w hSw; (try dsimp only at hSw); go_simp; try with_reducible rfl)
              try simp only [Act.put, qa, qb, qc, qD, qE, qF]
              refine qTk (v := ?_) 6 rfl (.inl ⟨by rfl, ?_⟩) ?_
              rotate_left
              ·
               (intro w hSw; (try dsimp only at hSw); go_simp; try with_reducible rfl)
              try simp only [Act.put, qa, qb, qc, qD, qE, qF]
              refine qTk (v := ?_) 7 rfl (.inl ⟨by rfl, ?_⟩) ?_
              rotate_left
              ·
               (intro w hSw; (try dsimp only at hSw); go_simp; try with_reducible rfl)
              try simp only [Act.put, qa, qb, qc, qD, qE, qF]
              refine qTk (v := ?_) 8 rfl (.inl ⟨by rfl, ?_⟩) ?_
              rotate_left
              ·
               (intro w hSw; (try dsimp only at hSw); go_simp; try with_reducible rfl)
              try simp only [Act.put, qa, qb, qc, qD, qE, qF]
              refine qTk (v := ?_) 9 rfl (.inl ⟨by rfl, ?_⟩) ?_
              rotate_left
              ·
               (intro w hSw; (try dsimp only at hSw); go_simp; try with_reducible rfl)
              try simp only [Act.put, qa, qb, qc, qD, qE, qF]
              refine qTk (v := ?_) 10 rfl (.inl ⟨by rfl, ?_⟩) ?_
              rotate_left
              ·
               (intro w hSw; (try dsimp only at hSw); go_simp; try with_reducible rfl)
              try simp only [Act.put, qa, qb, qc, qD, qE, qF]
              refine qTk (v := ?_) 11 rfl (.inl ⟨by rfl, ?_⟩) ?_
              rotate_left
              ·
               (intro w hSw; (try dsimp only at hSw); go_simp; try with_reducible rfl)
              try simp only [Act.put, qa, qb, qc, qD, qE, qF]
              refine qTk (v := ?_) 12 rfl (.inl ⟨by rfl, ?_⟩) ?_
              rotate_left
              ·
               (intro w hSw; (try dsimp only at hSw); go_simp; try with_reducible rfl)
              try simp only [Act.put, qa, qb, qc, qD, qE, qF]
              have hN_e56 : d < S23.length := hdS
              have hI_e56 : (d : Int) < (S23.length : Int) := by omega
              obtain ⟨bl54, ol55, rfl, e560⟩ := i21.at d hdS
              have y_e56 : bl54 < w.heap.size := qB e560
              replace e560 := Xwc.cell e560
              obtain ⟨v57, hv57⟩ : ∃ v, S23.getD d 0 = v := ⟨_, rfl⟩
              rw [hv57] at e560
              replace hv57 := Lib.hid hv57
              have z_e56 : bl54 < wc.heap.size := qB e560
              refine qTk (v := ?_) 13 rfl (.inl ⟨by rfl, ?_⟩) ?_
              rotate_left
              ·
               (intro w hSw; (try dsimp only at hSw); go_simp; try with_reducible rfl)
              try simp only [Act.put, qa, qb, qc, qD, qE, qF]
              refine wpTail_one (i := 14) qKr rfl rfl (fun K hK => ?_)
              try simp only [Act.put, qa, qb, qc, qD, qE, qF]
              go_simp
              refine hK.out _ _ ⟨x130, x131, b250, b251, x260, e410, e450⟩ (fun hHeld => ?_)
              clear hK K
              try simp only [Act.put, qa, qb, qc, qD, qE, qF]
              by_cases hc58 : (v46 : Int) = (v57 : Int)
              ·
               have hc58e : ((v46 : Int) == (v57 : Int)) = true := by simpa using hc58
               have hc58n : ((v46 : Int) != (v57 : Int)) = false := by simpa using hc58
               replace hc58 := Lib.hid hc58
               refine qTk (v := ?_) 15 rfl (.inl ⟨by rfl, ?_⟩) ?_
               rotate_left
               ·
                (intro w hSw; (try dsimp only at hSw); go_simp; try with_reducible rfl)
               try simp only [Act.put, qa, qb, qc, qD, qE, qF]
               refine qTk (v := ?_) 16 rfl (.inl ⟨by rfl, ?_⟩) ?_
               rotate_left
               ·
                (intro w hSw; (try dsimp only at hSw); go_simp; try with_reducible rfl)
               try simp only [Act.put, qa, qb, qc, qD, qE, qF]
               refine wpTail_done qKr ?_ _
               clear hHeld 
               have A62 := O7.cell q7 (by omega)
               obtain ⟨A62a, A62b⟩ := A62
               go_wp2_with fail
               clear e410 z_e41
               clear e450 z_e45
               clear e560 z_e56
               generalize hW3 : (wc.setCell ⟨w.heap.size, q7, none⟩ (.int .i64 v57)) = w5 at *
               have Kw5 : Chg (w.heap.size) (w.heap.size + 1) wc w5 := by subst hW3; exact qCh
               have Xw5 : Ext w w5 := by subst hW3; exact qXt
               have BL5_w5 : Ext w w5 := by subst hW3; exact qXt
               have Kr8_w5 : Chg w.heap.size (w.heap.size + 1) w1 w5 := Chg.trans Kr8_wc Kw5
               have Kr11_w5 : Chg w.heap.size (w.heap.size + 1) wa w5 := Chg.trans Kr11_wc Kw5
               have Kr37_w5 : Chg w.heap.size (w.heap.size + 1) w4 w5 := Chg.trans Kr37 Kw5
               replace x130 := Kw5.cell (by omega) x130
               replace x131 := Kw5.cell (by omega) x131
               replace b250 := Kw5.cell (by omega) b250
               replace b251 := Kw5.cell (by omega) b251
               replace x260 := Kw5.cell (by omega) x260
               have n_O7 := O7.set q7 (v57) (by first | omega | (simp; omega) | (rw [putUp_len]; simp; omega) | (rw [addUp_len]; omega))
               rw [hW3] at n_O7
               replace O7 := n_O7
               clear n_O7
               clear Kw5
               have z_x13 : bl15 < w5.heap.size := qB x130
               have z_b25 : wb.heap.size < w5.heap.size := qB b250
               have z_x26 : bl28 < w5.heap.size := qB x260
               have s_w5 : w.heap.size ≤ w5.heap.size := Xw5.size
               clear hW3
               clear A62a A62b
               go_roundw
               case rel => exact ⟨d + 1, x.set q7 v57, by omega, by go_num, Lib.hid (ext_go hxt.out hq7.out hv46.out hv57.out (fun h7 => h7.2 hc58.out)), O7.ext qXt, Kr37_w5.ext qXt, BL5_w5.trans qXt⟩
               case measure => simp [intOf]; omega
              ·
               have hc58e : ((v46 : Int) == (v57 : Int)) = false := by simpa using hc58
               have hc58n : ((v46 : Int) != (v57 : Int)) = true := by simpa using hc58
               replace hc58 := Lib.hid hc58
               refine qTk (v := ?_) 15 rfl (.inl ⟨by rfl, ?_⟩) ?_
               rotate_left
               ·
                (intro w hSw; (try dsimp only at hSw); go_simp; try with_reducible rfl)
               try simp only [Act.put, qa, qb, qc, qD, qE, qF]
               refine qTk (v := ?_) 16 rfl (.inl ⟨by rfl, ?_⟩) ?_
               rotate_left
               ·
                (intro w hSw; (try dsimp only at hSw); go_simp; try with_reducible rfl)
               try simp only [Act.put, qa, qb, qc, qD, qE, qF]
               refine wpTail_done qKr ?_ _
               clear hHeld 
               go_wp2_with fail
               go_ret2
               rw [extA_none (ts := ts) (ls := ls) (.inr (extT_bad hil het.out (by rw [hX14.out, hX27.out]; exact ext_stop hdl hxt.out hq7.out hv46.out hv57.out ⟨hc50, hc58.out⟩)))]
               exact PIntsB.no (Xwc.trans qXt)
             ·
              refine qTk (v := ?_) 4 rfl (.inl ⟨by rfl, ?_⟩) ?_
              rotate_left
              ·
               (intro w hSw; (try dsimp only at hSw); go_simp; try with_reducible rfl)
              try simp only [Act.put, qa, qb, qc, qD, qE, qF]
              refine qTk (v := ?_) 5 rfl (.inl ⟨by rfl, ?_⟩) ?_
              rotate_left
              ·
               (intro w hSw; (try dsimp only at hSw); go_simp; try with_reducible rfl)
              try simp only [Act.put, qa, qb, qc, qD, qE, qF]
              refine qTs 6 rfl (.inr ⟨by rfl, rfl⟩) ?_
              try simp only [Act.put, qa, qb, qc, qD, qE, qF]
              refine qTs 7 rfl (.inr ⟨by rfl, rfl⟩) ?_
              try simp only [Act.put, qa, qb, qc, qD, qE, qF]
              refine qTs 8 rfl (.inr ⟨by rfl, rfl⟩) ?_
              try simp only [Act.put, qa, qb, qc, qD, qE, qF]
              refine qTs 9 rfl (.inr ⟨by rfl, rfl⟩) ?_
              try simp only [Act.put, qa, qb, qc, qD, qE, qF]
              refine qTs 10 rfl (.inr ⟨by rfl, rfl⟩) ?_
              try simp only [Act.put, qa, qb, qc, qD, qE, qF]
              refine qTs 11 rfl (.inr ⟨by rfl, rfl⟩) ?_
              try simp only [Act.put, qa, qb, qc, qD, qE, qF]
              refine qTs 12 rfl (.inr ⟨by rfl, rfl⟩) ?_
              try simp only [Act.put, qa, qb, qc, qD, qE, qF]
              refine qTs 13 rfl (.inr ⟨by rfl, rfl⟩) ?_
              try simp only [Act.put, qa, qb, qc, qD, qE, qF]
              refine qTs 14 rfl (.inr ⟨by rfl, rfl⟩) ?_
              try simp only [Act.put, qa, qb, qc, qD, qE, qF]
              refine qTs 15 rfl (.inr ⟨by rfl, rfl⟩) ?_
              try simp only [Act.put, qa, qb, qc, qD, qE, qF]
              refine qTk (v := ?_) 16 rfl (.inl ⟨by rfl, ?_⟩) ?_
              rotate_left
              ·
               (intro w hSw; (try dsimp only at hSw); go_simp; try with_reducible rfl)
              try simp only [Act.put, qa, qb, qc, qD, qE, qF]
              refine wpTail_done qKr ?_ _
              clear hHeld 
              have hN_e65 : d < S23.length := hdS
              have hI_e65 : (d : Int) < (S23.length : Int) := by omega
              obtain ⟨bl63, ol64, rfl, e650⟩ := i21.at d hdS
              have y_e65 : bl63 < w.heap.size := qB e650
              replace e650 := Xwc.cell e650
              obtain ⟨v66, hv66⟩ : ∃ v, S23.getD d 0 = v := ⟨_, rfl⟩
              rw [hv66] at e650
              replace hv66 := Lib.hid hv66
              have z_e65 : bl63 < wc.heap.size := qB e650
              have A67 := O7.cell q7 (by omega)
              obtain ⟨A67a, A67b⟩ := A67
              go_wp2_with fail
              clear e410 z_e41
              clear e450 z_e45
              clear e650 z_e65
              generalize hW4 : (wc.setCell ⟨w.heap.size, q7, none⟩ (.int .i64 v66)) = w5 at *
              have Kw5 : Chg (w.heap.size) (w.heap.size + 1) wc w5 := by subst hW4; exact qCh
              have Xw5 : Ext w w5 := by subst hW4; exact qXt
              have BL5_w5 : Ext w w5 := by subst hW4; exact qXt
              have Kr8_w5 : Chg w.heap.size (w.heap.size + 1) w1 w5 := Chg.trans Kr8_wc Kw5
              have Kr11_w5 : Chg w.heap.size (w.heap.size + 1) wa w5 := Chg.trans Kr11_wc Kw5
              have Kr37_w5 : Chg w.heap.size (w.heap.size + 1) w4 w5 := Chg.trans Kr37 Kw5
              replace x130 := Kw5.cell (by omega) x130
              replace x131 := Kw5.cell (by omega) x131
              replace b250 := Kw5.cell (by omega) b250
              replace b251 := Kw5.cell (by omega) b251
              replace x260 := Kw5.cell (by omega) x260
              have n_O7 := O7.set q7 (v66) (by first | omega | (simp; omega) | (rw [putUp_len]; simp; omega) | (rw [addUp_len]; omega))
              rw [hW4] at n_O7
              replace O7 := n_O7
              clear n_O7
              clear Kw5
              have z_x13 : bl15 < w5.heap.size := qB x130
              have z_b25 : wb.heap.size < w5.heap.size := qB b250
              have z_x26 : bl28 < w5.heap.size := qB x260
              have s_w5 : w.heap.size ≤ w5.heap.size := Xw5.size
              clear hW4
              clear A67a A67b
              go_roundw
              case rel => exact ⟨d + 1, x.set q7 v66, by omega, by go_num, Lib.hid (ext_go hxt.out hq7.out hv46.out hv66.out (fun h7 => hc50 h7.1)), O7.ext qXt, Kr37_w5.ext qXt, BL5_w5.trans qXt⟩
              case measure => simp [intOf]; omega
            ·
             have hdN : d = S33.length := by omega
             subst hdN
             have hdI : ¬ (S33.length : Int) < (S33.length : Int) := by omega
             go_wp2_with fail
             go_roundw
             case rel => exact ⟨i + 1, x, by omega, by go_num, Lib.hid (extT_some het.out (by rw [hX14.out, hX27.out]; exact hro.out) (by rw [hX14.out, hX27.out]; exact hxt.out)), Lib.hid (by rw [tnB_succ, htn.out, Bool.true_and, hX14.out]; exact hB34.out), O7.ext qXt, Kr11_wc.ext qXt, Er38.trans qXt⟩
             case measure => simp [intOf]; omega
         ·
          have hc35e : ((S33.length : Int) == (S23.length : Int)) = false := by simpa using hc35
          have hc35n : ((S33.length : Int) != (S23.length : Int)) = true := by simpa using hc35
          replace hc35 := Lib.hid hc35
          refine qTk (v := ?_) 12 rfl (.inl ⟨by rfl, ?_⟩) ?_
          rotate_left
          ·
           (intro w hSw; (try dsimp only at hSw); go_simp; try with_reducible rfl)
          try simp only [Act.put, qa, qb, qc, qD, qE, qF]
          refine qTk (v := ?_) 13 rfl (.inl ⟨by rfl, ?_⟩) ?_
          rotate_left
          ·
           (intro w hSw; (try dsimp only at hSw); go_simp; try with_reducible rfl)
          try simp only [Act.put, qa, qb, qc, qD, qE, qF]
          refine qTk (v := ?_) 14 rfl (.inl ⟨by rfl, ?_⟩) ?_
          rotate_left
          ·
           (intro w hSw; (try dsimp only at hSw); go_simp; try with_reducible rfl)
          try simp only [Act.put, qa, qb, qc, qD, qE, qF]
          refine qTs 15 rfl (.inr ⟨by rfl, rfl⟩) ?_
          try simp only [Act.put, qa, qb, qc, qD, qE, qF]
          refine qTs 16 rfl (.inr ⟨by rfl, rfl⟩) ?_
          try simp only [Act.put, qa, qb, qc, qD, qE, qF]
          refine qTs 17 rfl (.inr ⟨by rfl, rfl⟩) ?_
          try simp only [Act.put, qa, qb, qc, qD, qE, qF]
          refine qTs 18 rfl (.inr ⟨by rfl, rfl⟩) ?_
          try simp only [Act.put, qa, qb, qc, qD, qE, qF]
          refine qTs 19 rfl (.inr ⟨by rfl, rfl⟩) ?_
          try simp only [Act.put, qa, qb, qc, qD, qE, qF]
          refine qTs 20 rfl (.inr ⟨by rfl, rfl⟩) ?_
          try simp only [Act.put, qa, qb, qc, qD, qE, qF]
          refine qTk (v := ?_) 21 rfl (.inl ⟨by rfl, ?_⟩) ?_
          rotate_left
          ·
           (intro w hSw; (try dsimp only at hSw); go_simp; try with_reducible rfl)
          try simp only [Act.put, qa, qb, qc, qD, qE, qF]
          refine wpTail_done qKr ?_ _
          clear hHeld 
          go_wp2_with fail
          go_ret2
          rw [extA_none (ts := ts) (ls := ls) (.inr (extT_row hil (by rw [hX14.out, hX27.out]; unfold rowOk; rw [decide_eq_false hc35.out]; rfl)))]
          exact PIntsB.no (Xw3.trans qXt)
       ·
        obtain rfl : i = ts.length := by omega
        have hiI : ¬ (ts.length : Int) < ts.length := by omega
        go_wp2_with fail
        go_ret2
        rw [extA_some (x := e) (by unfold tensB; rw [htn.out, show inB 1 3 (ts.length : Int) = true from by unfold inB; simp; omega, decide_eq_true (show (ls.length : Int) = (ts.length : Int) from hc3.out)]; rfl) het.out]
        exact PIntsB.yes O7.z (O7.ints (by first | exact Nat.le_of_lt (by omega) | omega)) (by omega) (Xwb.trans qXt)
   ·
    have hc3e : ((ls.length : Int) == (ts.length : Int)) = false := by simpa using hc3
    have hc3n : ((ls.length : Int) != (ts.length : Int)) = true := by simpa using hc3
    replace hc3 := Lib.hid hc3
    go_wp2_with fail
    go_ret2
    rw [extA_none (ts := ts) (ls := ls) (.inl (by unfold tensB; rw [decide_eq_false (show ¬ (ls.length : Int) = (ts.length : Int) from hc3.out)]; simp))]
    exact PIntsB.no qXt

set_option maxHeartbeats 6400000 in
theorem extents_c (ts : List Ten) (ls : List Lst) (tv lv : Value) (w : World) (l1 l2 : Nat) (h1 : Tens w l1 tv ts) (h2 : Lsts w l2 lv ls) (hn : ts.length ≤ ls.length) :
  Calls Try.prog 138 #[tv, lv] w (PIntsB w (extL (extT ts ls ts.length)) (extT ts ls ts.length).isSome) := by
 obtain ⟨p0, c0, rfl⟩ := h1.form
 obtain ⟨p1, c1, rfl⟩ := h2.form
 have hlt1 := h1.len
 have hlt2 := h2.len
 go_enter Try.func138, Try.ntmps138
 go_wp2_with fail
 have BL2 : Ext w w := Ext.refl _
 have zG_BL2 := (BL2).size
 skip
 go_loopw [6, 7] (fun gv i wa => ∃ (j : Nat) (xs : List Int), j ≤ 5 ∧ i = .int .i64 j ∧ xs.length ≤ j ∧ Hid (xs = List.replicate j (-1)) ∧ OwnI wa w.heap.size gv xs ∧ Ext w wa) (fun _ i _ => 5 - (intOf i).toNat)
 case atStart => exact ⟨0, [], by omega, rfl, by simp, Lib.hid rfl, (OwnI.lit0 w w.heap.size (Nat.le_refl _)), qXt⟩
 case round =>
  generalize wr = wa at hrel ⊢
  obtain ⟨j, xs, hj, rfl, hxl, hxs, OG, Lwa⟩ := hrel
  have Xwa : Ext w wa := Lwa
  have s_wa : w.heap.size ≤ wa.heap.size := Xwa.size
  have t_wa : w.heap.size ≤ wa.heap.size := Lwa.size
  have BL2_wa : Ext w wa := BL2.trans Lwa
  have Bwa : Ext w wa := Lwa
  obtain ⟨ga4, gc5, rfl⟩ := (OG.ints (by have := (show (xs).length ≤ 1000000 by omega); omega)).form
  have OG3 := OG
  clear OG
  by_cases hjl : j < 5
  ·
   have hjI : (j : Int) ≤ (4 : Int) := by omega
   have zGB := (Bwa).size
   have EE : Ext wa ((wa).alloc (.cells #[.int .i64 (-1)] 3)) := qXt
   have SS : Ints ((wa).alloc (.cells #[.int .i64 (-1)] 3)) 0 (.slice (some ⟨wa.heap.size, 0, none⟩) 1 1) [-1] := by simpa using Ints.one (wa) 0 (-1) (Nat.zero_le _)
   go_wp2_with (
    at_builtin
    refine wpList_app rfl (.tmp 16) (.tmp 17) rfl rfl rfl (by exact OG3.ext EE) (by exact SS) (by have := (show (xs).length ≤ 1000000 by omega); first | omega | (simp only [List.length_append, List.length_cons, List.length_nil]; omega)) qSo ?_
    intro vw1 w1 ho hg7 hbl hv7
    clear hg7 hv7
    obtain ⟨ga6, rr7, rfl⟩ : ∃ a c, vw1 = .slice a (xs.length + 1) c := by obtain ⟨a, c, h⟩ := (ho.ints (by simp only [List.length_append, List.length_cons, List.length_nil]; have := (show (xs).length ≤ 1000000 by omega); omega)).form; exact ⟨a, c, by rw [h, List.length_append]; rfl⟩
    have Xw1 : Ext w w1 := Ext.below (Xwa.trans EE) hbl (by omega)
    have BL2_w1 : Ext w w1 := Ext.below (Ext.trans BL2_wa EE) hbl (by omega)
    have Bwa_w1 : Ext w w1 := Ext.below (Ext.trans Bwa EE) hbl (by omega)
    clear OG3
    have OG3 := ho
    clear ho hbl EE SS zGB
    have s_w1 : w.heap.size ≤ w1.heap.size := Xw1.size)
   go_wp2_with fail
   go_roundw
   case rel => exact ⟨j + 1, xs ++ [-1], by omega, by go_num, by simp; omega, Lib.hid (by rw [hxs.out]; exact (negS j).symm), OG3.ext qXt, (Bwa_w1.trans qXt)⟩
   case measure => simp [intOf]; omega
  ·
   obtain rfl : j = 5 := by omega
   have hjI : ¬ (5 : Int) ≤ (4 : Int) := by omega
   obtain ⟨gr8, rr9, hvgr8, Ggr8, Ggr8'⟩ := OG3.row (by rw [hxs.out]; simp)
   injection hvgr8 with hva hvb hvc
   subst hva
   subst hvc
   clear hvb
   have hx7 := hxs.out
   subst hx7
   clear hxs hxl
   simp only [List.length_replicate] at OG3 ⊢
   go_wp2_with fail
   go_loopw [8] (fun v wr => ∃ (i : Nat) (e : List Int), i ≤ ts.length ∧ v = .int .i64 i ∧ Hid (extT ts ls i = some e) ∧ OwnI wr (w.heap.size) (.slice (some ⟨gr8, 0, none⟩) 5 gc5) e ∧ Chg gr8 (gr8 + 1) wa wr ∧ Ext w wr) (fun v _ => ts.length - (intOf v).toNat)
   case atStart => exact ⟨0, List.replicate 5 (-1), Nat.zero_le _, rfl, Lib.hid rfl, (show OwnI _ _ _ (List.replicate 5 (-1)) from (OG3.ext qXt)), Chg.refl _ _ _, BL2_wa⟩
   case round =>
    generalize wr = wb at hrel ⊢
    obtain ⟨i, e, hi, rfl, het, OG3n, Kr10, Er11⟩ := hrel
    have Xwb : Ext w wb := Er11
    have s_wb : w.heap.size ≤ wb.heap.size := Xwb.size
    have t_wb : wa.heap.size ≤ wb.heap.size := Kr10.size
    clear OG3
    have OG3 := OG3n
    clear OG3n
    have GL_wb := (own_lt OG3 rfl).2
    have he5 : 5 ≤ e.length := by rw [extT_len het.out]; omega
    have he6 : e.length ≤ 5 := by rw [extT_len het.out]; omega
    by_cases hil : i < ts.length
    ·
     have hiI : (i : Int) < ts.length := by omega
     have hil2 : i < ls.length := by omega
     go_wp2_with fail
     have hN_x12 : i < ts.length := hil
     have hI_x12 : (i : Int) < (ts.length : Int) := by omega
     obtain ⟨bl14, ol15, u16, c18, u17, c19, rfl, x120, x121, i20, i21⟩ := h1.at i hN_x12
     obtain ⟨X13, hX13⟩ : ∃ x, tenAt ts i = x := ⟨_, rfl⟩
     rw [hX13] at x120 x121 i20 i21
     obtain ⟨S22, T23⟩ := X13
     dsimp only at x120 x121 i20 i21
     replace hX13 := Lib.hid hX13
     have hLS22 := i20.len
     have hLT23 := i21.len
     have y_x12 : bl14 < w.heap.size := qB x120
     replace x120 := Xwb.cell x120
     replace x121 := Xwb.cell x121
     have z_x12 : bl14 < wb.heap.size := qB x120
     have hN_x24 : i < ls.length := hil2
     have hI_x24 : (i : Int) < (ls.length : Int) := by omega
     obtain ⟨bl26, ol27, u28, c29, rfl, x240, i30⟩ := h2.at i hN_x24
     obtain ⟨X25, hX25⟩ : ∃ x, lstAt ls i = x := ⟨_, rfl⟩
     rw [hX25] at x240 i30
     obtain ⟨S31⟩ := X25
     dsimp only at x240 i30
     replace hX25 := Lib.hid hX25
     have hLS31 := i30.len
     have y_x24 : bl26 < w.heap.size := qB x240
     replace x240 := Xwb.cell x240
     have z_x24 : bl26 < wb.heap.size := qB x240
     go_wp2_with fail
     refine wp_region_tail (S := fun w' => w'.cell? ⟨bl14, ol15 + i * 2, none⟩ = some (.slice u16 S22.length c18) ∧ w'.cell? ⟨bl14, ol15 + i * 2 + 1, none⟩ = some (.slice u17 T23.length c19) ∧ w'.cell? ⟨bl26, ol27 + i, none⟩ = some (.slice u28 S31.length c29)) (fun i => decide (20 ≤ i)) qKr ⟨x120, x121, x240⟩ (fun hHeld => ?_)
     refine qTk (v := ?_) 0 rfl (.inl ⟨by rfl, ?_⟩) ?_
     rotate_left
     ·
      (intro w hSw; (try dsimp only at hSw); go_simp; try with_reducible rfl)
     try simp only [Act.put, qa, qb, qc, qD, qE, qF]
     refine qTk (v := ?_) 1 rfl (.inl ⟨by rfl, ?_⟩) ?_
     rotate_left
     ·
      (intro w hSw; (try dsimp only at hSw); go_simp; try with_reducible rfl)
     try simp only [Act.put, qa, qb, qc, qD, qE, qF]
     refine qTk (v := ?_) 2 rfl (.inl ⟨by rfl, ?_⟩) ?_
     rotate_left
     ·
      (intro w hSw; (try dsimp only at hSw); go_simp; try with_reducible rfl)
     try simp only [Act.put, qa, qb, qc, qD, qE, qF]
     refine qTk (v := ?_) 3 rfl (.inl ⟨by rfl, ?_⟩) ?_
     rotate_left
     ·
      (intro w hSw; (try dsimp only at hSw); go_simp; try with_reducible rfl)
     try simp only [Act.put, qa, qb, qc, qD, qE, qF]
     refine qTk (v := ?_) 4 rfl (.inl ⟨by rfl, ?_⟩) ?_
     rotate_left
     ·
      (intro w hSw; (try dsimp only at hSw); go_simp; try with_reducible rfl)
     try simp only [Act.put, qa, qb, qc, qD, qE, qF]
     refine qTk (v := ?_) 5 rfl (.inl ⟨by rfl, ?_⟩) ?_
     rotate_left
     ·
      (intro w hSw; (try dsimp only at hSw); go_simp; try with_reducible rfl)
     try simp only [Act.put, qa, qb, qc, qD, qE, qF]
     refine qTk (v := ?_) 6 rfl (.inl ⟨by rfl, ?_⟩) ?_
     rotate_left
     ·
      (intro w hSw; (try dsimp only at hSw); go_simp; try with_reducible rfl)
     try simp only [Act.put, qa, qb, qc, qD, qE, qF]
     refine qTk (v := ?_) 7 rfl (.inl ⟨by rfl, ?_⟩) ?_
     rotate_left
     ·
      (intro w hSw; (try dsimp only at hSw); go_simp; try with_reducible rfl)
     try simp only [Act.put, qa, qb, qc, qD, qE, qF]
     refine qTk (v := ?_) 8 rfl (.inl ⟨by rfl, ?_⟩) ?_
     rotate_left
     ·
      (intro w hSw; (try dsimp only at hSw); go_simp; try with_reducible rfl)
     try simp only [Act.put, qa, qb, qc, qD, qE, qF]
     refine qTk (v := ?_) 9 rfl (.inl ⟨by rfl, ?_⟩) ?_
     rotate_left
     ·
      (intro w hSw; (try dsimp only at hSw); go_simp; try with_reducible rfl)
     try simp only [Act.put, qa, qb, qc, qD, qE, qF]
     refine qTk (v := ?_) 10 rfl (.inl ⟨by rfl, ?_⟩) ?_
     rotate_left
     ·
      (intro w hSw; (try dsimp only at hSw); go_simp; try with_reducible rfl)
     try simp only [Act.put, qa, qb, qc, qD, qE, qF]
     by_cases hc32 : (S31.length : Int) = (S22.length : Int)
     ·
      have hc32e : ((S31.length : Int) == (S22.length : Int)) = true := by simpa using hc32
      have hc32n : ((S31.length : Int) != (S22.length : Int)) = false := by simpa using hc32
      replace hc32 := Lib.hid hc32
      refine qTk (v := ?_) 11 rfl (.inl ⟨by rfl, ?_⟩) ?_
      rotate_left
      ·
       (intro w hSw; (try dsimp only at hSw); go_simp; try with_reducible rfl)
      try simp only [Act.put, qa, qb, qc, qD, qE, qF]
      refine qTk (v := ?_) 12 rfl (.inl ⟨by rfl, ?_⟩) ?_
      rotate_left
      ·
       (intro w hSw; (try dsimp only at hSw); go_simp; try with_reducible rfl)
      try simp only [Act.put, qa, qb, qc, qD, qE, qF]
      refine qTk (v := ?_) 13 rfl (.inl ⟨by rfl, ?_⟩) ?_
      rotate_left
      ·
       (intro w hSw; (try dsimp only at hSw); go_simp; try with_reducible rfl)
      try simp only [Act.put, qa, qb, qc, qD, qE, qF]
      refine qTk (v := ?_) 14 rfl (.inl ⟨by rfl, ?_⟩) ?_
      rotate_left
      ·
       (intro w hSw; (try dsimp only at hSw); go_simp; try with_reducible rfl)
      try simp only [Act.put, qa, qb, qc, qD, qE, qF]
      refine qTk (v := ?_) 15 rfl (.inl ⟨by rfl, ?_⟩) ?_
      rotate_left
      ·
       (intro w hSw; (try dsimp only at hSw); go_simp; try with_reducible rfl)
      try simp only [Act.put, qa, qb, qc, qD, qE, qF]
      refine qTk (v := ?_) 16 rfl (.inl ⟨by rfl, ?_⟩) ?_
      rotate_left
      ·
       (intro w hSw; (try dsimp only at hSw); go_simp; try with_reducible rfl)
      try simp only [Act.put, qa, qb, qc, qD, qE, qF]
      refine wpTail_one (i := 17) qKr rfl rfl (fun K hK => ?_)
      try simp only [Act.put, qa, qb, qc, qD, qE, qF]
      go_simp
      refine (allIn_c S31 (.slice u28 S31.length c29) 0 4 _ _ (i30.ext (Xwb.trans qXt))).mono ?_
      rintro e w' ⟨rfl, rfl⟩
      cases hB33 : S31.all (inB 0 4)
      ·
       replace hB33 := Lib.hid hB33
       refine hK.out _ _ ⟨x120, x121, x240⟩ (fun hHeld => ?_)
       clear hK K
       try simp only [Act.put, qa, qb, qc, qD, qE, qF]
       refine qTk (v := ?_) 18 rfl (.inl ⟨by rfl, ?_⟩) ?_
       rotate_left
       ·
        (intro w hSw; (try dsimp only at hSw); go_simp; try with_reducible rfl)
       try simp only [Act.put, qa, qb, qc, qD, qE, qF]
       refine qTk (v := ?_) 19 rfl (.inl ⟨by rfl, ?_⟩) ?_
       rotate_left
       ·
        (intro w hSw; (try dsimp only at hSw); go_simp; try with_reducible rfl)
       try simp only [Act.put, qa, qb, qc, qD, qE, qF]
       refine wpTail_done qKr ?_ _
       clear hHeld 
       go_wp2_with fail
       go_ret2
       rw [extT_row hil (by rw [hX13.out, hX25.out]; unfold rowOk; rw [(show labB S31 = false from hB33.out), Bool.and_false])]
       exact PIntsB.no (Xwb.trans qXt)
      ·
       replace hB33 := Lib.hid hB33
       refine hK.out _ _ ⟨x120, x121, x240⟩ (fun hHeld => ?_)
       clear hK K
       try simp only [Act.put, qa, qb, qc, qD, qE, qF]
       refine qTk (v := ?_) 18 rfl (.inl ⟨by rfl, ?_⟩) ?_
       rotate_left
       ·
        (intro w hSw; (try dsimp only at hSw); go_simp; try with_reducible rfl)
       try simp only [Act.put, qa, qb, qc, qD, qE, qF]
       refine qTk (v := ?_) 19 rfl (.inl ⟨by rfl, ?_⟩) ?_
       rotate_left
       ·
        (intro w hSw; (try dsimp only at hSw); go_simp; try with_reducible rfl)
       try simp only [Act.put, qa, qb, qc, qD, qE, qF]
       refine wpTail_done qKr ?_ _
       clear hHeld 
       have hro : Hid (rowOk S22 S31 = true) := Lib.hid (by unfold rowOk; rw [decide_eq_true (show (S31.length : Int) = (S22.length : Int) from hc32.out), (show labB S31 = true from hB33.out)]; rfl)
       have hLS : S31.length ≤ S22.length := by have h7 := hc32.out; omega
       go_wp2_with fail
       go_loopw [9] (fun v wr => ∃ (d : Nat) (x : List Int), d ≤ S31.length ∧ v = .int .i64 d ∧ Hid (extIn e S22 S31 d = some x) ∧ OwnI wr (w.heap.size) (.slice (some ⟨gr8, 0, none⟩) 5 gc5) x ∧ Chg gr8 (gr8 + 1) wb wr ∧ Ext w wr) (fun v _ => S31.length - (intOf v).toNat)
       case atStart => exact ⟨0, e, Nat.zero_le _, rfl, Lib.hid rfl, (show OwnI _ _ _ e from (OG3.ext qXt)), (by repeat (first | (with_reducible exact Chg.refl _ _ _) | (with_reducible refine Chg.setCell ?_ qSo qSo _) | (with_reducible refine Chg.ext ?_ (Ext.alloc (Ext.refl _) _)) | (with_reducible refine Chg.ext ?_ (Ext.drew (Ext.refl _))))), (Er11.trans qXt)⟩
       case round =>
        generalize wr = wc at hrel ⊢
        obtain ⟨d, x, hd, rfl, hxt, OG3n, Kr34, Er35⟩ := hrel
        have Xwc : Ext w wc := Er35
        have s_wc : w.heap.size ≤ wc.heap.size := Xwc.size
        have t_wc : wb.heap.size ≤ wc.heap.size := Kr34.size
        replace x120 := Kr34.cell (by omega) x120
        replace x121 := Kr34.cell (by omega) x121
        replace x240 := Kr34.cell (by omega) x240
        have z_x12 : bl14 < wc.heap.size := qB x120
        have z_x24 : bl26 < wc.heap.size := qB x240
        clear OG3
        have OG3 := OG3n
        clear OG3n
        have GL_wc := (own_lt OG3 rfl).2
        have Kr10_wc := Chg.trans Kr10 Kr34
        have hx5 : 5 ≤ x.length := by rw [extIn_len hxt.out]; omega
        have hx6 : x.length ≤ 5 := by rw [extIn_len hxt.out]; omega
        by_cases hdl : d < S31.length
        ·
         have hdI : (d : Int) < (S31.length : Int) := by omega
         have hdS : d < S22.length := by omega
         have hN_e38 : d < S31.length := hdl
         have hI_e38 : (d : Int) < (S31.length : Int) := by omega
         obtain ⟨bl36, ol37, rfl, e380⟩ := i30.at d hdl
         have y_e38 : bl36 < w.heap.size := qB e380
         replace e380 := Xwc.cell e380
         obtain ⟨v39, hv39⟩ : ∃ v, S31.getD d 0 = v := ⟨_, rfl⟩
         rw [hv39] at e380
         replace hv39 := Lib.hid hv39
         have z_e38 : bl36 < wc.heap.size := qB e380
         obtain ⟨q7, hq4, rfl⟩ := lab_at (show labB S31 = true from hB33.out) hdl hv39.out
         have hq7 := hv39
         have hw7 : IntKind.i64.wrap (q7 : Int) = (q7 : Int) := IntWalk.i64_in _ (by omega)
         have hq5 : (q7 : Int) < 5 := by omega
         go_wp2_with fail
         have hN_e42 : q7 < x.length := (by omega)
         have hI_e42 : (q7 : Int) < (x.length : Int) := by omega
         obtain ⟨b_e42, o_e42, h_e42, e420⟩ := (OG3.ints (by first | omega | (simp; done))).at q7 (by omega)
         cases h_e42
         rw [Nat.zero_add] at e420
         obtain ⟨v43, hv43⟩ : ∃ v, x.getD q7 0 = v := ⟨_, rfl⟩
         rw [hv43] at e420
         replace hv43 := Lib.hid hv43
         have y_e42 : gr8 < wc.heap.size := qB e420
         have z_e42 := y_e42
         refine wp_region_tail (S := fun w' => w'.cell? ⟨bl14, ol15 + i * 2, none⟩ = some (.slice u16 S22.length c18) ∧ w'.cell? ⟨bl14, ol15 + i * 2 + 1, none⟩ = some (.slice u17 T23.length c19) ∧ w'.cell? ⟨bl26, ol27 + i, none⟩ = some (.slice (some ⟨bl36, ol37, none⟩) S31.length c29) ∧ w'.cell? ⟨bl36, ol37 + d, none⟩ = some (.int .i64 (q7 : Int)) ∧ w'.cell? ⟨gr8, q7, none⟩ = some (.int .i64 v43)) (fun i => decide (20 ≤ i)) qKr ⟨x120, x121, x240, e380, e420⟩ (fun hHeld => ?_)
         refine qTk (v := ?_) 0 rfl (.inl ⟨by rfl, ?_⟩) ?_
         rotate_left
         ·
          (intro w hSw; (try dsimp only at hSw); go_simp; try with_reducible rfl)
         try simp only [Act.put, qa, qb, qc, qD, qE, qF]
         refine qTk (v := ?_) 1 rfl (.inl ⟨by rfl, ?_⟩) ?_
         rotate_left
         ·
          (intro w hSw; (try dsimp only at hSw); go_simp; try with_reducible rfl)
         try simp only [Act.put, qa, qb, qc, qD, qE, qF]
         refine qTk (v := ?_) 2 rfl (.inl ⟨by rfl, ?_⟩) ?_
         rotate_left
         ·
          (intro w hSw; (try dsimp only at hSw); go_simp; try with_reducible rfl)
         try simp only [Act.put, qa, qb, qc, qD, qE, qF]
         refine qTk (v := ?_) 3 rfl (.inl ⟨by rfl, ?_⟩) ?_
         rotate_left
         ·
          (intro w hSw; (try dsimp only at hSw); go_simp; try with_reducible rfl)
         try simp only [Act.put, qa, qb, qc, qD, qE, qF]
         by_cases hc47 : (0 : Int) ≤ (v43 : Int)
         ·
          refine qTk (v := ?_) 4 rfl (.inl ⟨by rfl, ?_⟩) ?_
          rotate_left
          ·
           (intro w hSw; (try dsimp only at hSw); go_simp; try with_reducible rfl)
          try simp only [Act.put, qa, qb, qc, qD, qE, qF]
          refine qTk (v := ?_) 5 rfl (.inl ⟨by rfl, ?_⟩) ?_
          rotate_left
          ·
           (intro w hSw; (try dsimp only at hSw); go_simp; try with_reducible rfl)
          try simp only [Act.put, qa, qb, qc, qD, qE, qF]
          refine qTk (v := ?_) 6 rfl (.inl ⟨by rfl, ?_⟩) ?_
          rotate_left
          ·
           (intro w hSw; (try dsimp only at hSw); go_simp; try with_reducible rfl)
          try simp only [Act.put, qa, qb, qc, qD, qE, qF]
          refine qTk (v := ?_) 7 rfl (.inl ⟨by rfl, ?_⟩) ?_
          rotate_left
          ·
           (intro w hSw; (try dsimp only at hSw); go_simp; try with_reducible rfl)
          try simp only [Act.put, qa, qb, qc, qD, qE, qF]
          refine qTk (v := ?_) 8 rfl (.inl ⟨by rfl, ?_⟩) ?_
          rotate_left
          ·
           (intro w hSw; (try dsimp only at hSw); go_simp; try with_reducible rfl)
          try simp only [Act.put, qa, qb, qc, qD, qE, qF]
          refine qTk (v := ?_) 9 rfl (.inl ⟨by rfl, ?_⟩) ?_
          rotate_left
          ·
           (intro w hSw; (try dsimp only at hSw); go_simp; try with_reducible rfl)
          try simp only [Act.put, qa, qb, qc, qD, qE, qF]
          refine qTk (v := ?_) 10 rfl (.inl ⟨by rfl, ?_⟩) ?_
          rotate_left
          ·
           (intro w hSw; (try dsimp only at hSw); go_simp; try with_reducible rfl)
          try simp only [Act.put, qa, qb, qc, qD, qE, qF]
          refine qTk (v := ?_) 11 rfl (.inl ⟨by rfl, ?_⟩) ?_
          rotate_left
          ·
           (intro w hSw; (try dsimp only at hSw); go_simp; try with_reducible rfl)
          try simp only [Act.put, qa, qb, qc, qD, qE, qF]
          refine qTk (v := ?_) 12 rfl (.inl ⟨by rfl, ?_⟩) ?_
          rotate_left
          ·
           (intro w hSw; (try dsimp only at hSw); go_simp; try with_reducible rfl)
          try simp only [Act.put, qa, qb, qc, qD, qE, qF]
          refine qTk (v := ?_) 13 rfl (.inl ⟨by rfl, ?_⟩) ?_
          rotate_left
          ·
           (intro w hSw; (try dsimp only at hSw); go_simp; try with_reducible rfl)
          try simp only [Act.put, qa, qb, qc, qD, qE, qF]
          refine qTk (v := ?_) 14 rfl (.inl ⟨by rfl, ?_⟩) ?_
          rotate_left
          ·
           (intro w hSw; (try dsimp only at hSw); go_simp; try with_reducible rfl)
          try simp only [Act.put, qa, qb, qc, qD, qE, qF]
          refine qTk (v := ?_) 15 rfl (.inl ⟨by rfl, ?_⟩) ?_
          rotate_left
          ·
           (intro w hSw; (try dsimp only at hSw); go_simp; try with_reducible rfl)
          try simp only [Act.put, qa, qb, qc, qD, qE, qF]
          have hN_e53 : d < S22.length := hdS
          have hI_e53 : (d : Int) < (S22.length : Int) := by omega
          obtain ⟨bl51, ol52, rfl, e530⟩ := i20.at d hdS
          have y_e53 : bl51 < w.heap.size := qB e530
          replace e530 := Xwc.cell e530
          obtain ⟨v54, hv54⟩ : ∃ v, S22.getD d 0 = v := ⟨_, rfl⟩
          rw [hv54] at e530
          replace hv54 := Lib.hid hv54
          have z_e53 : bl51 < wc.heap.size := qB e530
          refine qTk (v := ?_) 16 rfl (.inl ⟨by rfl, ?_⟩) ?_
          rotate_left
          ·
           (intro w hSw; (try dsimp only at hSw); go_simp; try with_reducible rfl)
          try simp only [Act.put, qa, qb, qc, qD, qE, qF]
          refine wpTail_one (i := 17) qKr rfl rfl (fun K hK => ?_)
          try simp only [Act.put, qa, qb, qc, qD, qE, qF]
          go_simp
          refine hK.out _ _ ⟨x120, x121, x240, e380, e420⟩ (fun hHeld => ?_)
          clear hK K
          try simp only [Act.put, qa, qb, qc, qD, qE, qF]
          by_cases hc55 : (v43 : Int) = (v54 : Int)
          ·
           have hc55e : ((v43 : Int) == (v54 : Int)) = true := by simpa using hc55
           have hc55n : ((v43 : Int) != (v54 : Int)) = false := by simpa using hc55
           replace hc55 := Lib.hid hc55
           refine qTk (v := ?_) 18 rfl (.inl ⟨by rfl, ?_⟩) ?_
           rotate_left
           ·
            (intro w hSw; (try dsimp only at hSw); go_simp; try with_reducible rfl)
           try simp only [Act.put, qa, qb, qc, qD, qE, qF]
           refine qTk (v := ?_) 19 rfl (.inl ⟨by rfl, ?_⟩) ?_
           rotate_left
           ·
            (intro w hSw; (try dsimp only at hSw); go_simp; try with_reducible rfl)
           try simp only [Act.put, qa, qb, qc, qD, qE, qF]
           refine wpTail_done qKr ?_ _
           clear hHeld 
           have A59 := OG3.cell q7 (by omega)
           obtain ⟨A59a, A59b⟩ := A59
           go_wp2_with fail
           clear e380 z_e38
           clear e420 z_e42
           clear e530 z_e53
           generalize hW5 : (wc.setCell ⟨gr8, q7, none⟩ (.int .i64 v54)) = w1 at *
           have Kw1 : Chg (gr8) (gr8 + 1) wc w1 := by subst hW5; exact qCh
           have Xw1 : Ext w w1 := by subst hW5; exact qXt
           have BL2_w1 : Ext w w1 := by subst hW5; exact qXt
           have Kr10_w1 : Chg gr8 (gr8 + 1) wa w1 := Chg.trans Kr10_wc Kw1
           have Kr34_w1 : Chg gr8 (gr8 + 1) wb w1 := Chg.trans Kr34 Kw1
           replace x120 := Kw1.cell (by omega) x120
           replace x121 := Kw1.cell (by omega) x121
           replace x240 := Kw1.cell (by omega) x240
           have n_OG3 := OG3.set q7 (v54) (by first | omega | (simp; omega) | (rw [putUp_len]; simp; omega) | (rw [addUp_len]; omega))
           rw [hW5] at n_OG3
           replace OG3 := n_OG3
           clear n_OG3
           clear Kw1
           have z_x12 : bl14 < w1.heap.size := qB x120
           have z_x24 : bl26 < w1.heap.size := qB x240
           have s_w1 : w.heap.size ≤ w1.heap.size := Xw1.size
           clear hW5
           clear A59a A59b
           go_roundw
           case rel => exact ⟨d + 1, x.set q7 v54, by omega, by go_num, Lib.hid (ext_go hxt.out hq7.out hv43.out hv54.out (fun h7 => h7.2 hc55.out)), OG3.ext qXt, Kr34_w1.ext qXt, BL2_w1.trans qXt⟩
           case measure => simp [intOf]; omega
          ·
           have hc55e : ((v43 : Int) == (v54 : Int)) = false := by simpa using hc55
           have hc55n : ((v43 : Int) != (v54 : Int)) = true := by simpa using hc55
           replace hc55 := Lib.hid hc55
           refine qTk (v := ?_) 18 rfl (.inl ⟨by rfl, ?_⟩) ?_
           rotate_left
           ·
            (intro w hSw; (try dsimp only at hSw); go_simp; try with_reducible rfl)
           try simp only [Act.put, qa, qb, qc, qD, qE, qF]
           refine qTk (v := ?_) 19 rfl (.inl ⟨by rfl, ?_⟩) ?_
           rotate_left
           ·
            (intro w hSw; (try dsimp only at hSw); go_simp; try with_reducible rfl)
           try simp only [Act.put, qa, qb, qc, qD, qE, qF]
           refine wpTail_done qKr ?_ _
           clear hHeld 
           go_wp2_with fail
           go_ret2
           rw [extT_bad hil het.out (by rw [hX13.out, hX25.out]; exact ext_stop hdl hxt.out hq7.out hv43.out hv54.out ⟨hc47, hc55.out⟩)]
           exact PIntsB.no (Xwc.trans qXt)
         ·
          refine qTk (v := ?_) 4 rfl (.inl ⟨by rfl, ?_⟩) ?_
          rotate_left
          ·
           (intro w hSw; (try dsimp only at hSw); go_simp; try with_reducible rfl)
          try simp only [Act.put, qa, qb, qc, qD, qE, qF]
          refine qTk (v := ?_) 5 rfl (.inl ⟨by rfl, ?_⟩) ?_
          rotate_left
          ·
           (intro w hSw; (try dsimp only at hSw); go_simp; try with_reducible rfl)
          try simp only [Act.put, qa, qb, qc, qD, qE, qF]
          refine qTs 6 rfl (.inr ⟨by rfl, rfl⟩) ?_
          try simp only [Act.put, qa, qb, qc, qD, qE, qF]
          refine qTs 7 rfl (.inr ⟨by rfl, rfl⟩) ?_
          try simp only [Act.put, qa, qb, qc, qD, qE, qF]
          refine qTs 8 rfl (.inr ⟨by rfl, rfl⟩) ?_
          try simp only [Act.put, qa, qb, qc, qD, qE, qF]
          refine qTs 9 rfl (.inr ⟨by rfl, rfl⟩) ?_
          try simp only [Act.put, qa, qb, qc, qD, qE, qF]
          refine qTs 10 rfl (.inr ⟨by rfl, rfl⟩) ?_
          try simp only [Act.put, qa, qb, qc, qD, qE, qF]
          refine qTs 11 rfl (.inr ⟨by rfl, rfl⟩) ?_
          try simp only [Act.put, qa, qb, qc, qD, qE, qF]
          refine qTs 12 rfl (.inr ⟨by rfl, rfl⟩) ?_
          try simp only [Act.put, qa, qb, qc, qD, qE, qF]
          refine qTs 13 rfl (.inr ⟨by rfl, rfl⟩) ?_
          try simp only [Act.put, qa, qb, qc, qD, qE, qF]
          refine qTs 14 rfl (.inr ⟨by rfl, rfl⟩) ?_
          try simp only [Act.put, qa, qb, qc, qD, qE, qF]
          refine qTs 15 rfl (.inr ⟨by rfl, rfl⟩) ?_
          try simp only [Act.put, qa, qb, qc, qD, qE, qF]
          refine qTs 16 rfl (.inr ⟨by rfl, rfl⟩) ?_
          try simp only [Act.put, qa, qb, qc, qD, qE, qF]
          refine qTs 17 rfl (.inr ⟨by rfl, rfl⟩) ?_
          try simp only [Act.put, qa, qb, qc, qD, qE, qF]
          refine qTs 18 rfl (.inr ⟨by rfl, rfl⟩) ?_
          try simp only [Act.put, qa, qb, qc, qD, qE, qF]
          refine qTk (v := ?_) 19 rfl (.inl ⟨by rfl, ?_⟩) ?_
          rotate_left
          ·
           (intro w hSw; (try dsimp only at hSw); go_simp; try with_reducible rfl)
          try simp only [Act.put, qa, qb, qc, qD, qE, qF]
          refine wpTail_done qKr ?_ _
          clear hHeld 
          have hN_e62 : d < S22.length := hdS
          have hI_e62 : (d : Int) < (S22.length : Int) := by omega
          obtain ⟨bl60, ol61, rfl, e620⟩ := i20.at d hdS
          have y_e62 : bl60 < w.heap.size := qB e620
          replace e620 := Xwc.cell e620
          obtain ⟨v63, hv63⟩ : ∃ v, S22.getD d 0 = v := ⟨_, rfl⟩
          rw [hv63] at e620
          replace hv63 := Lib.hid hv63
          have z_e62 : bl60 < wc.heap.size := qB e620
          have A64 := OG3.cell q7 (by omega)
          obtain ⟨A64a, A64b⟩ := A64
          go_wp2_with fail
          clear e380 z_e38
          clear e420 z_e42
          clear e620 z_e62
          generalize hW6 : (wc.setCell ⟨gr8, q7, none⟩ (.int .i64 v63)) = w1 at *
          have Kw1 : Chg (gr8) (gr8 + 1) wc w1 := by subst hW6; exact qCh
          have Xw1 : Ext w w1 := by subst hW6; exact qXt
          have BL2_w1 : Ext w w1 := by subst hW6; exact qXt
          have Kr10_w1 : Chg gr8 (gr8 + 1) wa w1 := Chg.trans Kr10_wc Kw1
          have Kr34_w1 : Chg gr8 (gr8 + 1) wb w1 := Chg.trans Kr34 Kw1
          replace x120 := Kw1.cell (by omega) x120
          replace x121 := Kw1.cell (by omega) x121
          replace x240 := Kw1.cell (by omega) x240
          have n_OG3 := OG3.set q7 (v63) (by first | omega | (simp; omega) | (rw [putUp_len]; simp; omega) | (rw [addUp_len]; omega))
          rw [hW6] at n_OG3
          replace OG3 := n_OG3
          clear n_OG3
          clear Kw1
          have z_x12 : bl14 < w1.heap.size := qB x120
          have z_x24 : bl26 < w1.heap.size := qB x240
          have s_w1 : w.heap.size ≤ w1.heap.size := Xw1.size
          clear hW6
          clear A64a A64b
          go_roundw
          case rel => exact ⟨d + 1, x.set q7 v63, by omega, by go_num, Lib.hid (ext_go hxt.out hq7.out hv43.out hv63.out (fun h7 => hc47 h7.1)), OG3.ext qXt, Kr34_w1.ext qXt, BL2_w1.trans qXt⟩
          case measure => simp [intOf]; omega
        ·
         have hdN : d = S31.length := by omega
         subst hdN
         have hdI : ¬ (S31.length : Int) < (S31.length : Int) := by omega
         go_wp2_with fail
         go_roundw
         case rel => exact ⟨i + 1, x, by omega, by go_num, Lib.hid (extT_some het.out (by rw [hX13.out, hX25.out]; exact hro.out) (by rw [hX13.out, hX25.out]; exact hxt.out)), OG3.ext qXt, Kr10_wc.ext qXt, Er35.trans qXt⟩
         case measure => simp [intOf]; omega
     ·
      have hc32e : ((S31.length : Int) == (S22.length : Int)) = false := by simpa using hc32
      have hc32n : ((S31.length : Int) != (S22.length : Int)) = true := by simpa using hc32
      replace hc32 := Lib.hid hc32
      refine qTk (v := ?_) 11 rfl (.inl ⟨by rfl, ?_⟩) ?_
      rotate_left
      ·
       (intro w hSw; (try dsimp only at hSw); go_simp; try with_reducible rfl)
      try simp only [Act.put, qa, qb, qc, qD, qE, qF]
      refine qTk (v := ?_) 12 rfl (.inl ⟨by rfl, ?_⟩) ?_
      rotate_left
      ·
       (intro w hSw; (try dsimp only at hSw); go_simp; try with_reducible rfl)
      try simp only [Act.put, qa, qb, qc, qD, qE, qF]
      refine qTs 13 rfl (.inr ⟨by rfl, rfl⟩) ?_
      try simp only [Act.put, qa, qb, qc, qD, qE, qF]
      refine qTs 14 rfl (.inr ⟨by rfl, rfl⟩) ?_
      try simp only [Act.put, qa, qb, qc, qD, qE, qF]
      refine qTs 15 rfl (.inr ⟨by rfl, rfl⟩) ?_
      try simp only [Act.put, qa, qb, qc, qD, qE, qF]
      refine qTs 16 rfl (.inr ⟨by rfl, rfl⟩) ?_
      try simp only [Act.put, qa, qb, qc, qD, qE, qF]
      refine qTs 17 rfl (.inr ⟨by rfl, rfl⟩) ?_
      try simp only [Act.put, qa, qb, qc, qD, qE, qF]
      refine qTs 18 rfl (.inr ⟨by rfl, rfl⟩) ?_
      try simp only [Act.put, qa, qb, qc, qD, qE, qF]
      refine qTk (v := ?_) 19 rfl (.inl ⟨by rfl, ?_⟩) ?_
      rotate_left
      ·
       (intro w hSw; (try dsimp only at hSw); go_simp; try with_reducible rfl)
      try simp only [Act.put, qa, qb, qc, qD, qE, qF]
      refine wpTail_done qKr ?_ _
      clear hHeld 
      go_wp2_with fail
      go_ret2
      rw [extT_row hil (by rw [hX13.out, hX25.out]; unfold rowOk; rw [decide_eq_false hc32.out]; rfl)]
      exact PIntsB.no (Xwb.trans qXt)
    ·
     obtain rfl : i = ts.length := by omega
     have hiI : ¬ (ts.length : Int) < ts.length := by omega
     go_wp2_with fail
     go_ret2
     rw [het.out]
     exact PIntsB.yes OG3.z (OG3.ints (by first | exact Nat.le_of_lt (by omega) | omega)) (by omega) (Xwb.trans qXt)


end Go.Proofs.Ytfbbnbpobojboaa

/- Plain laws: labels that are used, products of extents. No condition. -/
namespace Go.Proofs.Ytfbbnbpobojboaa
open Go.RowKit
set_option linter.unusedVariables false
set_option maxRecDepth 100000

/-- the labels of the first k lists -/
def catL (ls : List Lst) (k : Nat) : List Int := (List.range k).flatMap fun i => (lstAt ls i).s
theorem catL_succ (ls : List Lst) (k : Nat) : catL ls (k+1) = catL ls k ++ (lstAt ls k).s := by unfold catL; rw [List.range_succ, List.flatMap_append]; simp
theorem catL_mem {ls : List Lst} {k : Nat} {x : Int} : x ∈ catL ls k ↔ ∃ i, i < k ∧ x ∈ (lstAt ls i).s := by
  unfold catL
  rw [List.mem_flatMap]
  constructor
  · rintro ⟨i, hi, h⟩; exact ⟨i, List.mem_range.1 hi, h⟩
  · rintro ⟨i, hi, h⟩; exact ⟨i, List.mem_range.2 hi, h⟩
/-- the labels of all lists, ascending, each once -/
def alL (ls : List Lst) : List Int := Lib.compact (sortL (catL ls ls.length))
theorem alL_spec (ls : List Lst) : (alL ls).Pairwise (· < ·) ∧ ∀ x, x ∈ alL ls ↔ ∃ i, i < ls.length ∧ x ∈ (lstAt ls i).s := by
  have h := dedup_spec (catL ls ls.length)
  exact ⟨h.1, fun x => by rw [← catL_mem]; exact h.2 x⟩
/-- labels of 0 to 4 in all lists -/
def labsB (ls : List Lst) : Prop := ∀ i, i < ls.length → labB (lstAt ls i).s = true ∧ (lstAt ls i).s.length ≤ 60
theorem labB_mem {l : List Int} {x : Int} (h : labB l = true) (hx : x ∈ l) : 0 ≤ x ∧ x ≤ 4 := by
  unfold labB at h
  rw [List.all_eq_true] at h
  have := h x hx
  unfold inB at this; simpa using this
theorem catL_len {ls : List Lst} (h : labsB ls) (k : Nat) (hk : k ≤ ls.length) : (catL ls k).length ≤ 60 * k := by
  induction k with
  | zero => simp [catL]
  | succ k ih =>
    rw [catL_succ, List.length_append]
    have := (h k (by omega)).2
    have := ih (by omega)
    omega
/-- the labels of which p says so -/
def lab5 (p : Nat → Bool) : List Int := ((List.range 5).filter p).map fun k : Nat => (k : Int)
theorem lab5_asc (p : Nat → Bool) : (lab5 p).Pairwise (· < ·) := by
  unfold lab5
  rw [List.pairwise_map]
  exact (List.Pairwise.filter _ (List.pairwise_lt_range (n := 5))).imp fun h => by omega
theorem lab5_mem {p : Nat → Bool} {x : Int} : x ∈ lab5 p ↔ ∃ k : Nat, k < 5 ∧ p k = true ∧ x = k := by
  unfold lab5
  simp only [List.mem_map, List.mem_filter, List.mem_range]
  constructor
  · rintro ⟨k, ⟨h1, h2⟩, rfl⟩; exact ⟨k, h1, h2, rfl⟩
  · rintro ⟨k, h1, h2, rfl⟩; exact ⟨k, ⟨h1, h2⟩, rfl⟩
theorem lab5_of {xs : List Int} {p : Nat → Bool} (ha : xs.Pairwise (· < ·)) (h : ∀ x, x ∈ xs ↔ ∃ k : Nat, k < 5 ∧ p k = true ∧ x = k) : xs = lab5 p :=
  asc_ext _ _ ha (lab5_asc p) fun x => by rw [h, lab5_mem]
/-- what the extents of labels tell, behind some labels of a tensor -/
theorem extIn_fact {e s l x : List Int} {d : Nat} (he : e.length = 5) (hl : labB l = true) (hs : ∀ y ∈ s, 0 ≤ y ∧ y ≤ 60) (hd : d ≤ l.length) (hd2 : d ≤ s.length) (h : extIn e s l d = some x) (k : Nat) (hk : k < 5) :
    (0 ≤ x.getD k 0 ↔ 0 ≤ e.getD k 0 ∨ ∃ j, j < d ∧ l.getD j 0 = (k : Int)) ∧ (x.getD k 0 ≤ 60 ∨ x.getD k 0 = e.getD k 0) ∧ (0 ≤ x.getD k 0 ∨ x.getD k 0 = e.getD k 0) := by
  induction d generalizing x with
  | zero =>
    unfold extIn at h; cases h
    exact ⟨⟨fun h => .inl h, fun h => by rcases h with h | ⟨j, hj, -⟩; exact h; omega⟩, .inr rfl, .inr rfl⟩
  | succ d ih =>
    unfold extIn at h
    cases hp : extIn e s l d with
    | none => rw [hp] at h; cases h
    | some y =>
      rw [hp] at h
      simp only [Option.bind_some] at h
      have hy := extIn_len hp
      obtain ⟨i1, i2, i3⟩ := ih (by omega) (by omega) hp
      split at h
      · cases h
      · cases h
        have hq := labB_mem hl (getD_mem (s := l) (d := d) (by omega))
        have hv := hs _ (getD_mem (s := s) (d := d) (by omega))
        have hqk : (l.getD d 0).toNat < 5 := by omega
        by_cases hkq : (l.getD d 0).toNat = k
        · have hlk : l.getD d 0 = (k : Int) := by omega
          have e1 : (y.set (l.getD d 0).toNat (s.getD d 0)).getD k 0 = s.getD d 0 := by
            rw [hkq, List.getD_eq_getElem?_getD, List.getElem?_set_self (by omega)]; rfl
          rw [e1]
          exact ⟨⟨fun _ => .inr ⟨d, by omega, hlk⟩, fun _ => hv.1⟩, .inl hv.2, .inl hv.1⟩
        · have e1 : (y.set (l.getD d 0).toNat (s.getD d 0)).getD k 0 = y.getD k 0 := by
            rw [List.getD_eq_getElem?_getD, List.getElem?_set_ne hkq, ← List.getD_eq_getElem?_getD]
          rw [e1]
          refine ⟨i1.trans ⟨fun h => ?_, fun h => ?_⟩, i2, i3⟩
          · rcases h with h | ⟨j, hj, hjk⟩
            · exact .inl h
            · exact .inr ⟨j, by omega, hjk⟩
          · rcases h with h | ⟨j, hj, hjk⟩
            · exact .inl h
            · refine .inr ⟨j, ?_, hjk⟩
              have : j ≠ d := fun hjd => by subst hjd; omega
              omega
theorem mem_getD {l : List Int} {x : Int} : x ∈ l ↔ ∃ j, j < l.length ∧ l.getD j 0 = x := by
  constructor
  · intro h
    obtain ⟨j, hj, rfl⟩ := List.mem_iff_getElem.1 h
    exact ⟨j, hj, by simp [hj]⟩
  · rintro ⟨j, hj, rfl⟩; exact getD_mem hj
/-- what the extents of labels tell -/
theorem extT_fact {ts : List Ten} {ls : List Lst} {n : Nat} {x : List Int} (hv : tnB ts n = true) (h : extT ts ls n = some x) (k : Nat) (hk : k < 5) :
    (0 ≤ x.getD k 0 ↔ ∃ i, i < n ∧ (k : Int) ∈ (lstAt ls i).s) ∧ x.getD k 0 ≤ 60 ∧ (0 ≤ x.getD k 0 ∨ x.getD k 0 = -1) ∧ ∀ i, i < n → labB (lstAt ls i).s = true ∧ (lstAt ls i).s.length ≤ 4 := by
  induction n generalizing x with
  | zero =>
    unfold extT at h; cases h
    have e1 : (List.replicate 5 (-1 : Int)).getD k 0 = -1 := by rw [List.getD_eq_getElem?_getD, List.getElem?_replicate, if_pos hk]; rfl
    rw [e1]
    exact ⟨⟨fun h => by omega, fun ⟨i, hi, _⟩ => by omega⟩, by omega, .inr rfl, fun i hi => by omega⟩
  | succ n ih =>
    have hx5 := extT_len h
    rw [tnB_succ, Bool.and_eq_true] at hv
    unfold extT at h
    cases hp : extT ts ls n with
    | none => rw [hp] at h; cases h
    | some y =>
      rw [hp] at h
      simp only [Option.bind_some] at h
      have hy := extT_len hp
      obtain ⟨i1, i2, i3, i4⟩ := ih hv.1 hp
      split at h
      · rename_i hr
        unfold rowOk at hr
        rw [Bool.and_eq_true, decide_eq_true_eq] at hr
        have hsh := shapeB_in (tenB_in hv.2).1
        obtain ⟨f1, f2, f3⟩ := extIn_fact hy hr.2 hsh.2.1 (Nat.le_refl _) (by omega) h k hk
        refine ⟨?_, by omega, by omega, fun i hi => ?_⟩
        · rw [f1, i1]
          constructor
          · rintro (⟨i, hi, hm⟩ | ⟨j, hj, hjk⟩)
            · exact ⟨i, by omega, hm⟩
            · exact ⟨n, by omega, mem_getD.2 ⟨j, hj, hjk⟩⟩
          · rintro ⟨i, hi, hm⟩
            rcases Nat.lt_or_ge i n with h1 | h1
            · exact .inl ⟨i, h1, hm⟩
            · obtain rfl : i = n := by omega
              obtain ⟨j, hj, hjk⟩ := mem_getD.1 hm
              exact .inr ⟨j, hj, hjk⟩
        · rcases Nat.lt_or_ge i n with h1 | h1
          · exact i4 i h1
          · obtain rfl : i = n := by omega
            exact ⟨hr.2, by omega⟩
      · cases h
theorem tensB_in {ts : List Ten} {ls : List Lst} (h : tensB ts ls = true) : tnB ts ts.length = true ∧ 1 ≤ ts.length ∧ ts.length ≤ 3 ∧ ls.length = ts.length := by
  unfold tensB inB at h
  simp only [Bool.and_eq_true, decide_eq_true_eq] at h
  exact ⟨h.1, by omega, by omega, by omega⟩
theorem extA_in {ts : List Ten} {ls : List Lst} {x : List Int} (h : extA ts ls = some x) : tensB ts ls = true ∧ extT ts ls ts.length = some x := by
  unfold extA at h
  split at h
  · rename_i hc; exact ⟨hc, h⟩
  · cases h
/-- all that ExtentsOf tells -/
theorem extA_fact {ts : List Ten} {ls : List Lst} {x : List Int} (h : extA ts ls = some x) : x.length = 5 ∧ ls.length = ts.length ∧ 1 ≤ ts.length ∧ ts.length ≤ 3 ∧ (∀ i, i < ls.length → labB (lstAt ls i).s = true ∧ (lstAt ls i).s.length ≤ 4) ∧
    ∀ k, k < 5 → (0 ≤ x.getD k 0 ↔ ∃ i, i < ls.length ∧ (k : Int) ∈ (lstAt ls i).s) ∧ x.getD k 0 ≤ 60 ∧ (0 ≤ x.getD k 0 ∨ x.getD k 0 = -1) := by
  obtain ⟨hv, ht⟩ := extA_in h
  obtain ⟨g1, g2, g3, g4⟩ := tensB_in hv
  refine ⟨extT_len ht, g4, g2, g3, fun i hi => ?_, fun k hk => ?_⟩
  · exact (extT_fact g1 ht 0 (by omega)).2.2.2 i (by omega)
  · obtain ⟨f1, f2, f3, -⟩ := extT_fact g1 ht k hk
    rw [g4]; exact ⟨f1, f2, f3⟩
/-- the product of the extents of the first k labels -/
def costK (e ls : List Int) : Nat → Int
  | 0 => 1
  | k+1 => costK e ls k * e.getD (ls.getD k 0).toNat 0
def costL (e ls : List Int) : Int := costK e ls ls.length
theorem costK_app (e a : List Int) (x : Int) (k : Nat) (hk : k ≤ a.length) : costK e (a ++ [x]) k = costK e a k := by
  induction k with
  | zero => rfl
  | succ k ih =>
    unfold costK
    rw [ih (by omega), show (a ++ [x]).getD k 0 = a.getD k 0 by rw [List.getD_eq_getElem?_getD, List.getElem?_append_left (by omega), ← List.getD_eq_getElem?_getD]]
theorem costL_snoc (e a : List Int) (x : Int) : costL e (a ++ [x]) = costL e a * e.getD x.toNat 0 := by
  unfold costL
  rw [List.length_append, List.length_singleton]
  show costK e (a ++ [x]) a.length * e.getD ((a ++ [x]).getD a.length 0).toNat 0 = _
  rw [costK_app e a x _ (Nat.le_refl _)]
  simp
/-- the product of the first k extents, 1 for a label without one -/
def spK (e : List Int) : Nat → Int
  | 0 => 1
  | k+1 => spK e k * (if e.getD k 0 < 0 then 1 else e.getD k 0)
def labN (p : Nat → Bool) (n : Nat) : List Int := ((List.range n).filter p).map fun k : Nat => (k : Int)
theorem labN_succ (p : Nat → Bool) (n : Nat) : labN p (n+1) = if p n then labN p n ++ [(n : Int)] else labN p n := by
  unfold labN
  rw [List.range_succ, List.filter_append]
  cases h : p n
  · rw [List.filter_cons_of_neg (by simp [h])]; simp
  · rw [List.filter_cons_of_pos (by simp [h])]; simp
theorem cost_sp (e : List Int) (n : Nat) : costL e (labN (fun k => decide (0 ≤ e.getD k 0)) n) = spK e n := by
  induction n with
  | zero => rfl
  | succ n ih =>
    rw [labN_succ]
    unfold spK
    by_cases h : 0 ≤ e.getD n 0
    · rw [decide_eq_true h, if_pos rfl, costL_snoc, ih, if_neg (by omega), Int.toNat_natCast]
    · rw [decide_eq_false h, if_neg (by simp), ih, if_pos (by omega), Int.mul_one]
theorem alL_used {ts : List Ten} {ls : List Lst} {x : List Int} (h : extA ts ls = some x) : alL ls = labN (fun k => decide (0 ≤ x.getD k 0)) 5 := by
  obtain ⟨h5, h1, h2, h3, h4, h6⟩ := extA_fact h
  obtain ⟨a1, a2⟩ := alL_spec ls
  refine lab5_of a1 fun y => ?_
  rw [a2]
  constructor
  · rintro ⟨i, hi, hm⟩
    have := labB_mem (h4 i hi).1 hm
    refine ⟨y.toNat, by omega, ?_, by omega⟩
    rw [decide_eq_true_eq, (h6 y.toNat (by omega)).1]
    exact ⟨i, hi, by rw [show ((y.toNat : Nat) : Int) = y by omega]; exact hm⟩
  · rintro ⟨k, hk, hp, rfl⟩
    rw [decide_eq_true_eq, (h6 k hk).1] at hp
    exact hp
theorem all_ext {ts : List Ten} {ls : List Lst} {x : List Int} (h : extA ts ls = some x) : ∀ y ∈ alL ls, 0 ≤ y ∧ y < x.length ∧ (0 ≤ x.getD y.toNat 0 ∧ x.getD y.toNat 0 ≤ 60) := by
  obtain ⟨h5, h1, h2, h3, h4, h6⟩ := extA_fact h
  rw [alL_used h]
  intro y hy
  obtain ⟨k, hk, hp, rfl⟩ := lab5_mem.1 hy
  rw [decide_eq_true_eq] at hp
  rw [Int.toNat_natCast]
  exact ⟨by omega, by omega, hp, (h6 k hk).2.1⟩
theorem labN_le (p : Nat → Bool) (n : Nat) : (labN p n).length ≤ n := by
  unfold labN; rw [List.length_map]; exact Nat.le_trans (List.length_filter_le _ _) (by simp)
theorem all_le {ts : List Ten} {ls : List Lst} {x : List Int} (h : extA ts ls = some x) : (alL ls).length ≤ 5 := by rw [alL_used h]; exact labN_le _ _
/-- CostOf -/
def cstA (ts : List Ten) (ls : List Lst) : Int := match extA ts ls with | none => -1 | some x => spK x 5
theorem cost_law {ts : List Ten} {ls : List Lst} {x : List Int} (h : extA ts ls = some x) : costL x (alL ls) = spK x 5 := by rw [alL_used h, cost_sp]
theorem cstA_some {ts : List Ten} {ls : List Lst} {x : List Int} (h : extA ts ls = some x) : cstA ts ls = spK x 5 := by unfold cstA; rw [h]
theorem cstA_none {ts : List Ten} {ls : List Lst} (h : extA ts ls = none) : cstA ts ls = -1 := by unfold cstA; rw [h]
theorem mul_bdT {a b : Int} {m : Nat} (h1 : 0 ≤ a) (h2 : a ≤ m) (h3 : 0 ≤ b) (h4 : b ≤ 60) : 0 ≤ a * b ∧ a * b ≤ (m * 60 : Nat) := by
  refine ⟨Int.mul_nonneg h1 h3, ?_⟩
  rw [Int.natCast_mul]
  exact Int.mul_le_mul h2 h4 h3 (by omega)
theorem spK_bd {x : List Int} (h : ∀ k, k < 5 → x.getD k 0 ≤ 60) (k : Nat) (hk : k ≤ 5) : 0 ≤ spK x k ∧ spK x k ≤ (60 ^ k : Nat) := by
  induction k with
  | zero => unfold spK; simp
  | succ k ih =>
    unfold spK
    have := ih (by omega)
    rw [Nat.pow_succ]
    have hx := h k (by omega)
    split
    · exact mul_bdT this.1 this.2 (by omega) (by omega)
    · exact mul_bdT this.1 this.2 (by omega) (by omega)
theorem pow60 (k : Nat) (hk : k ≤ 5) : 60 ^ k ≤ 777600000 := by
  calc 60 ^ k ≤ 60 ^ 5 := Nat.pow_le_pow_right (by omega) hk
    _ = 777600000 := by decide
/-- the partial products of extents of labels that have one -/
theorem costK_bd {e ls : List Int} (h : ∀ y ∈ ls, 0 ≤ e.getD y.toNat 0 ∧ e.getD y.toNat 0 ≤ 60) (k : Nat) (hk : k ≤ ls.length) : 0 ≤ costK e ls k ∧ costK e ls k ≤ (60 ^ k : Nat) := by
  induction k with
  | zero => unfold costK; simp
  | succ k ih =>
    unfold costK
    rw [Nat.pow_succ]
    have := ih (by omega)
    have hx := h _ (getD_mem (s := ls) (d := k) (by omega))
    exact mul_bdT this.1 this.2 hx.1 hx.2
end Go.Proofs.Ytfbbnbpobojboaa

/- Walks: labels of lists, costs. -/
namespace Go.Proofs.Ytfbbnbpobojboaa
open Go.RowKit
set_option linter.unusedVariables false
set_option maxRecDepth 100000

theorem pie_some {o : Option (List Int)} {x : List Int} {f : Nat} {args : Array Value} {w w0 : World} (he : o = some x) (h : Calls Try.prog f args w (PIntsB w0 (extL o) o.isSome)) : Calls Try.prog f args w (PIntsB w0 x true) := by subst he; exact h
theorem pie_none {o : Option (List Int)} {f : Nat} {args : Array Value} {w w0 : World} (he : o = none) (h : Calls Try.prog f args w (PIntsB w0 (extL o) o.isSome)) : Calls Try.prog f args w (PIntsB w0 ([] : List Int) false) := by subst he; exact h
/-- a call hands back a list that nobody asks for, and a number -/
def PSp (w : World) (n : Int) (e : Ending) (w' : World) : Prop := ∃ v, e = .returned (.tuple #[v, .int .i64 n]) ∧ Ext w w'
set_option maxHeartbeats 3200000 in
theorem allLabels_c (ls : List Lst) (lv : Value) (w : World) (l2 : Nat) (h2 : Lsts w l2 lv ls) (hb : Hid (labsB ls)) (h8 : ls.length ≤ 8) :
  Calls Try.prog 114 #[lv] w (PInts w (alL ls)) := by
 obtain ⟨p1, c1, rfl⟩ := h2.form
 have hlt2 := h2.len
 go_enter Try.func114, Try.ntmps114
 go_wp2_with fail
 have BL2 : Ext w w := Ext.refl _
 have zG_BL2 := (BL2).size
 skip
 go_loopw [3, 9] (fun gv i wr => ∃ (k : Nat), k ≤ ls.length ∧ i = .int .i64 k ∧ OwnI wr w.heap.size gv (catL ls k) ∧ Ext w wr) (fun _ i _ => ls.length - (intOf i).toNat)
 case atStart => exact ⟨0, Nat.zero_le _, rfl, (by rw [show catL ls 0 = [] from rfl]; exact (OwnI.lit0 w w.heap.size (Nat.le_refl _))), qXt⟩
 case round =>
  obtain ⟨k, hk, rfl, OG, Lwr⟩ := hrel
  have Xwr : Ext w wr := Lwr
  have s_wr : w.heap.size ≤ wr.heap.size := Xwr.size
  have t_wr : w.heap.size ≤ wr.heap.size := Lwr.size
  have BL2_wr : Ext w wr := BL2.trans Lwr
  have Bwr : Ext w wr := Lwr
  obtain ⟨ga4, gc5, rfl⟩ := (OG.ints (by have := (show (catL ls k).length ≤ 1000000 by have := catL_len hb.out k hk; omega); omega)).form
  have OG3 := OG
  clear OG
  by_cases hlt : k < ls.length
  ·
   have hkI : (k : Int) < ls.length := by omega
   have hN_x6 : k < ls.length := hlt
   have hI_x6 : (k : Int) < (ls.length : Int) := by omega
   obtain ⟨bl8, ol9, u10, c11, rfl, x60, i12⟩ := h2.at k hN_x6
   obtain ⟨X7, hX7⟩ : ∃ x, lstAt ls k = x := ⟨_, rfl⟩
   rw [hX7] at x60 i12
   obtain ⟨S13⟩ := X7
   dsimp only at x60 i12
   replace hX7 := Lib.hid hX7
   have hLS13 := i12.len
   have y_x6 : bl8 < w.heap.size := qB x60
   replace x60 := Xwr.cell x60
   have z_x6 : bl8 < wr.heap.size := qB x60
   have hS60 : S13.length ≤ 60 := by have h7 := (hb.out k hlt).2; rw [hX7.out] at h7; exact h7
   have zGB := (Bwr).size
   have EE : Ext wr (wr) := qXt
   have hAL : S13.length ≤ 1000000 := (by omega)
   have SS : Ints (wr) 0 (.slice u10 S13.length c11) S13 := ((i12.ext (Xwr.trans qXt)).ext EE).lower (Nat.zero_le _)
   go_wp2_with (
    at_builtin
    refine wpList_app rfl (.tmp 13) (.tmp 14) rfl rfl rfl (by exact OG3.ext EE) (by exact SS) (by have := (show (catL ls k).length ≤ 1000000 by have := catL_len hb.out k hk; omega); first | omega | (simp only [List.length_append, List.length_cons, List.length_nil]; omega)) qSo ?_
    intro vw1 w1 ho hg7 hbl hv7
    clear hg7 hv7
    obtain ⟨ga14, rr15, rfl⟩ : ∃ a c, vw1 = .slice a ((catL ls k).length + S13.length) c := by obtain ⟨a, c, h⟩ := (ho.ints (by simp only [List.length_append, List.length_cons, List.length_nil]; have := (show (catL ls k).length ≤ 1000000 by have := catL_len hb.out k hk; omega); omega)).form; exact ⟨a, c, by rw [h, List.length_append]⟩
    have Xw1 : Ext w w1 := Ext.below (Xwr.trans EE) hbl (by omega)
    have BL2_w1 : Ext w w1 := Ext.below (Ext.trans BL2_wr EE) hbl (by omega)
    have Bwr_w1 : Ext w w1 := Ext.below (Ext.trans Bwr EE) hbl (by omega)
    clear x60
    clear OG3
    have OG3 := ho
    clear ho hbl EE SS zGB hAL
    have s_w1 : w.heap.size ≤ w1.heap.size := Xw1.size)
   go_wp2_with fail
   go_roundw
   case rel => exact ⟨k + 1, by omega, by go_num, (by rw [show catL ls (k+1) = catL ls k ++ S13 by rw [catL_succ, hX7.out]]; exact OG3.ext qXt), (Bwr_w1.trans qXt)⟩
   case measure => simp [intOf]; omega
  ·
   obtain rfl : k = ls.length := by omega
   have hkI : ¬ (ls.length : Int) < ls.length := by omega
   go_wp2_with fail
   have hcl := catL_len hb.out ls.length (Nat.le_refl _)
   have hzb := (Bwr).size
   refine (sort_c (catL ls ls.length) (.slice ga4 ((catL ls ls.length).length) gc5) _ _ OG3.z (by omega) hzb).mono ?_
   rintro e wS ⟨rfl, OS, hbl⟩
   have XS : Ext w wS := Ext.below Xwr hbl (by omega)
   have hzc := hbl.size
   clear hbl OG3
   go_wp2_with fail
   refine (compact_c (sortL (catL ls ls.length)) (.slice ga4 ((catL ls ls.length).length) gc5) _ _ OS (by rw [sortL_len]; omega) (by omega)).mono ?_
   rintro e wC ⟨v2, rfl, OC, -, hbc⟩
   have XC : Ext w wC := Ext.below XS hbc (by omega)
   clear hbc OS
   have hle : (Lib.compact (sortL (catL ls ls.length))).length ≤ 4194304 := by have h7 := compact_len_le (sortL (catL ls ls.length)); rw [sortL_len] at h7; omega
   have IC := OC.ints hle
   obtain ⟨a7, c7, rfl⟩ := IC.form
   go_wp2_with fail
   go_ret
   exact ⟨_, rfl, IC.lower (by omega), OC.lower (by omega), XC⟩

set_option maxHeartbeats 3200000 in
theorem costOver_c (x ls : List Int) (u v : Value) (w : World) (l1 l2 : Nat) (h1 : Ints w l1 u x) (h2 : Ints w l2 v ls) (hn : ls.length ≤ 5) (hx : Hid (∀ y ∈ ls, 0 ≤ y ∧ y < x.length ∧ (0 ≤ x.getD y.toNat 0 ∧ x.getD y.toNat 0 ≤ 60))) :
  Calls Try.prog 113 #[u, v] w (fun e w' => e = .returned (.int .i64 (costL x ls)) ∧ Ext w w') := by
 obtain ⟨p0, c0, rfl⟩ := h1.form
 obtain ⟨p1, c1, rfl⟩ := h2.form
 have hl1 := h1.len
 go_enter Try.func113, Try.ntmps113
 go_wp2_with fail
 go_loopw [5, 10] (fun u i wr => ∃ (k : Nat) (c : Int), k ≤ ls.length ∧ i = .int .i64 k ∧ u = .int .i64 c ∧ Hid (c = costK x ls k) ∧ Ext w wr) (fun _ i _ => ls.length - (intOf i).toNat)
 case atStart => exact ⟨0, 1, Nat.zero_le _, rfl, rfl, Lib.hid rfl, qXt⟩
 case round =>
  obtain ⟨k, c, hk, rfl, rfl, hcc, Lwr⟩ := hrel
  have Xwr : Ext w wr := Lwr
  have s_wr : w.heap.size ≤ wr.heap.size := Xwr.size
  have t_wr : w.heap.size ≤ wr.heap.size := Lwr.size
  have Bwr : Ext w wr := Lwr
  by_cases hlt : k < ls.length
  ·
   have hkI : (k : Int) < ls.length := by omega
   have hN_e3 : k < ls.length := hlt
   have hI_e3 : (k : Int) < (ls.length : Int) := by omega
   obtain ⟨bl1, ol2, rfl, e30⟩ := h2.at k hlt
   have y_e3 : bl1 < w.heap.size := qB e30
   replace e30 := Xwr.cell e30
   obtain ⟨v4, hv4⟩ : ∃ v, ls.getD k 0 = v := ⟨_, rfl⟩
   rw [hv4] at e30
   replace hv4 := Lib.hid hv4
   have z_e3 : bl1 < wr.heap.size := qB e30
   obtain ⟨hy0, hy1, -⟩ := hx.out _ (getD_mem (s := ls) (d := k) hlt)
   rw [hv4.out] at hy0 hy1
   obtain ⟨q7, rfl⟩ : ∃ q : Nat, v4 = (q : Int) := ⟨v4.toNat, by omega⟩
   have hq7 := hv4
   have hqe : q7 < x.length := by omega
   have hw7 : IntKind.i64.wrap (q7 : Int) = (q7 : Int) := IntWalk.i64_in _ (by omega)
   have hN_e7 : q7 < x.length := hqe
   have hI_e7 : (q7 : Int) < (x.length : Int) := by omega
   obtain ⟨bl5, ol6, rfl, e70⟩ := h1.at q7 hqe
   have y_e7 : bl5 < w.heap.size := qB e70
   replace e70 := Xwr.cell e70
   obtain ⟨v8, hv8⟩ : ∃ v, x.getD q7 0 = v := ⟨_, rfl⟩
   rw [hv8] at e70
   replace hv8 := Lib.hid hv8
   have z_e7 : bl5 < wr.heap.size := qB e70
   have hbd : 0 ≤ c * v8 ∧ c * v8 ≤ 777600000 := by
    have h7 := costK_bd (e := x) (ls := ls) (fun y hy => (hx.out y hy).2.2) (k+1) hlt
    have h8 := pow60 (k+1) (by omega)
    rw [show costK x ls (k+1) = c * v8 from by unfold costK; rw [← hcc.out, hq7.out, Int.toNat_natCast, hv8.out]] at h7
    omega
   have hw9 : IntKind.i64.wrap (c * v8) = c * v8 := IntWalk.i64_in _ (by omega)
   go_wp2_with fail
   go_roundw
   case rel => exact ⟨k + 1, c * v8, by omega, by go_num, rfl, Lib.hid (by unfold costK; rw [← hcc.out, hq7.out, Int.toNat_natCast, hv8.out]), (Bwr.trans qXt)⟩
   case measure => simp [intOf]; omega
  ·
   obtain rfl : k = ls.length := by omega
   have hkI : ¬ (ls.length : Int) < ls.length := by omega
   go_wp2_with fail
   go_ret
   exact ⟨by rw [hcc.out] <;> rfl, (Xwr.trans qXt)⟩

set_option maxHeartbeats 3200000 in
theorem space_c (x : List Int) (u : Value) (w : World) (l1 : Nat) (h1 : Ints w l1 u x) (h5 : 5 ≤ x.length) (h6 : x.length ≤ 5) (hx : Hid (∀ k, k < 5 → x.getD k 0 ≤ 60)) :
  Calls Try.prog 112 #[u] w (PSp w (spK x 5)) := by
 obtain ⟨p0, c0, rfl⟩ := h1.form
 go_enter Try.func112, Try.ntmps112
 go_wp2_with fail
 have BL2 : Ext w w := Ext.refl _
 have zG_BL2 := (BL2).size
 skip
 go_loopw [4, 5, 6] (fun gv u i wr => ∃ (k : Nat) (xs : List Int) (c : Int), k ≤ x.length ∧ i = .int .i64 k ∧ u = .int .i64 c ∧ xs.length ≤ k ∧ Hid (c = spK x k) ∧ OwnI wr w.heap.size gv xs ∧ Ext w wr) (fun _ _ i _ => x.length - (intOf i).toNat)
 case atStart => exact ⟨0, [], 1, Nat.zero_le _, rfl, rfl, by simp, Lib.hid rfl, (OwnI.lit0 w w.heap.size (Nat.le_refl _)), qXt⟩
 case round =>
  obtain ⟨k, xs, c, hk, rfl, rfl, hxl, hcc, OG, Lwr⟩ := hrel
  have Xwr : Ext w wr := Lwr
  have s_wr : w.heap.size ≤ wr.heap.size := Xwr.size
  have t_wr : w.heap.size ≤ wr.heap.size := Lwr.size
  have BL2_wr : Ext w wr := BL2.trans Lwr
  have Bwr : Ext w wr := Lwr
  obtain ⟨ga4, gc5, rfl⟩ := (OG.ints (by have := (show (xs).length ≤ 1000000 by omega); omega)).form
  have OG3 := OG
  clear OG
  by_cases hlt : k < x.length
  ·
   have hkI : (k : Int) < x.length := by omega
   have hN_e8 : k < x.length := hlt
   have hI_e8 : (k : Int) < (x.length : Int) := by omega
   obtain ⟨bl6, ol7, rfl, e80⟩ := h1.at k hlt
   have y_e8 : bl6 < w.heap.size := qB e80
   replace e80 := Xwr.cell e80
   obtain ⟨v9, hv9⟩ : ∃ v, x.getD k 0 = v := ⟨_, rfl⟩
   rw [hv9] at e80
   replace hv9 := Lib.hid hv9
   have z_e8 : bl6 < wr.heap.size := qB e80
   have hvx : v9 ≤ 60 := by have h7 := hx.out k (by omega); rw [hv9.out] at h7; exact h7
   have hbd : 0 ≤ c * (if v9 < 0 then 1 else v9) ∧ c * (if v9 < 0 then 1 else v9) ≤ 777600000 := by
    have h7 := spK_bd hx.out (k+1) (by omega)
    have h8 := pow60 (k+1) (by omega)
    rw [show spK x (k+1) = c * (if v9 < 0 then 1 else v9) from by unfold spK; rw [← hcc.out, hv9.out]] at h7
    omega
   by_cases hc10 : (v9 : Int) < (0 : Int)
   ·
    have hbd2 : 0 ≤ c * 1 ∧ c * 1 ≤ 777600000 := by rw [if_pos (by omega)] at hbd; exact hbd
    have hw9 : IntKind.i64.wrap (c) = c := IntWalk.i64_in _ (by omega)
    have zGB := (Bwr).size
    have EE : Ext wr ((wr).alloc (.cells #[.int .i64 1] 3)) := qXt
    have SS : Ints ((wr).alloc (.cells #[.int .i64 1] 3)) 0 (.slice (some ⟨wr.heap.size, 0, none⟩) 1 1) [1] := by simpa using Ints.one (wr) 0 1 (Nat.zero_le _)
    go_wp2_with (
     at_builtin
     refine wpList_app rfl (.tmp 21) (.tmp 23) rfl rfl rfl (by exact OG3.ext EE) (by exact SS) (by have := (show (xs).length ≤ 1000000 by omega); first | omega | (simp only [List.length_append, List.length_cons, List.length_nil]; omega)) qSo ?_
     intro vw1 w1 ho hg7 hbl hv7
     clear hg7 hv7
     obtain ⟨ga11, rr12, rfl⟩ : ∃ a c, vw1 = .slice a (xs.length + 1) c := by obtain ⟨a, c, h⟩ := (ho.ints (by simp only [List.length_append, List.length_cons, List.length_nil]; have := (show (xs).length ≤ 1000000 by omega); omega)).form; exact ⟨a, c, by rw [h, List.length_append]; rfl⟩
     have Xw1 : Ext w w1 := Ext.below (Xwr.trans EE) hbl (by omega)
     have BL2_w1 : Ext w w1 := Ext.below (Ext.trans BL2_wr EE) hbl (by omega)
     have Bwr_w1 : Ext w w1 := Ext.below (Ext.trans Bwr EE) hbl (by omega)
     clear e80
     clear OG3
     have OG3 := ho
     clear ho hbl EE SS zGB
     have s_w1 : w.heap.size ≤ w1.heap.size := Xw1.size)
    go_wp2_with fail
    go_roundw
    case rel => exact ⟨k + 1, xs ++ [1], c, by omega, by go_num, rfl, by simp; omega, Lib.hid (by unfold spK; rw [← hcc.out, hv9.out, if_pos (by omega), Int.mul_one]), OG3.ext qXt, (Bwr_w1.trans qXt)⟩
    case measure => simp [intOf]; omega
   ·
    have hbd2 : 0 ≤ c * v9 ∧ c * v9 ≤ 777600000 := by rw [if_neg (by omega)] at hbd; exact hbd
    have hw9 : IntKind.i64.wrap (c * v9) = c * v9 := IntWalk.i64_in _ (by omega)
    have zGB := (Bwr).size
    have EE : Ext wr ((wr).alloc (.cells #[.int .i64 v9] 3)) := qXt
    have SS : Ints ((wr).alloc (.cells #[.int .i64 v9] 3)) 0 (.slice (some ⟨wr.heap.size, 0, none⟩) 1 1) [v9] := by simpa using Ints.one (wr) 0 v9 (Nat.zero_le _)
    go_wp2_with (
     at_builtin
     refine wpList_app rfl (.tmp 21) (.tmp 23) rfl rfl rfl (by exact OG3.ext EE) (by exact SS) (by have := (show (xs).length ≤ 1000000 by omega); first | omega | (simp only [List.length_append, List.length_cons, List.length_nil]; omega)) qSo ?_
     intro vw1 w1 ho hg7 hbl hv7
     clear hg7 hv7
     obtain ⟨ga13, rr14, rfl⟩ : ∃ a c, vw1 = .slice a (xs.length + 1) c := by obtain ⟨a, c, h⟩ := (ho.ints (by simp only [List.length_append, List.length_cons, List.length_nil]; have := (show (xs).length ≤ 1000000 by omega); omega)).form; exact ⟨a, c, by rw [h, List.length_append]; rfl⟩
     have Xw1 : Ext w w1 := Ext.below (Xwr.trans EE) hbl (by omega)
     have BL2_w1 : Ext w w1 := Ext.below (Ext.trans BL2_wr EE) hbl (by omega)
     have Bwr_w1 : Ext w w1 := Ext.below (Ext.trans Bwr EE) hbl (by omega)
     clear e80
     clear OG3
     have OG3 := ho
     clear ho hbl EE SS zGB
     have s_w1 : w.heap.size ≤ w1.heap.size := Xw1.size)
    go_wp2_with fail
    go_roundw
    case rel => exact ⟨k + 1, xs ++ [v9], c * v9, by omega, by go_num, rfl, by simp; omega, Lib.hid (by unfold spK; rw [← hcc.out, hv9.out, if_neg (by omega)]), OG3.ext qXt, (Bwr_w1.trans qXt)⟩
    case measure => simp [intOf]; omega
  ·
   have hkI : ¬ (k : Int) < x.length := by omega
   have hk5 : k = 5 := by omega
   go_wp2_with fail
   go_ret2
   exact ⟨_, by rw [hcc.out, hk5] <;> rfl, (Xwr.trans qXt)⟩

set_option maxHeartbeats 1600000 in
theorem specExtentsOf_c (ts : List Ten) (ls : List Lst) (tv lv : Value) (w : World) (l1 l2 : Nat) (h1 : Tens w l1 tv ts) (h2 : Lsts w l2 lv ls) :
  Calls Try.prog 93 #[tv, lv] w (PIntsB w (extL (extA ts ls)) (extA ts ls).isSome) := by
 obtain ⟨p0, c0, rfl⟩ := h1.form
 obtain ⟨p1, c1, rfl⟩ := h2.form
 have hlt1 := h1.len
 have hlt2 := h2.len
 go_enter Try.func93, Try.ntmps93
 go_wp2_with fail
 refine (validTensors_c ts ls (.slice p0 ts.length c0) (.slice p1 ls.length c1) _ _ _ (h1.ext qXt) (h2.ext qXt)).mono ?_
 rintro e w1 ⟨rfl, xw1⟩
 have Lw1 : Ext w w1 := Ext.trans qXt xw1
 have Xw1 : Ext w w1 := Lw1
 have s_w1 : w.heap.size ≤ w1.heap.size := Xw1.size
 clear xw1
 cases hB1 : tensB ts ls
 ·
  replace hB1 := Lib.hid hB1
  go_wp2_with fail
  go_ret2
  rw [extA_none (ts := ts) (ls := ls) (.inl hB1.out)]
  exact PIntsB.no (Xw1.trans qXt)
 ·
  replace hB1 := Lib.hid hB1
  go_wp2_with fail
  refine (extents_c ts ls (.slice p0 ts.length c0) (.slice p1 ls.length c1) _ _ _ (h1.ext (Xw1.trans qXt)) (h2.ext (Xw1.trans qXt)) (by have h7 := tensB_in hB1.out; omega)).mono ?_
  rintro e w2 ⟨fv2, rfl, i3, i3z, xw2⟩
  have Lw2 : Ext w1 w2 := Ext.trans qXt xw2
  have Xw2 : Ext w w2 := Xw1.trans Lw2
  have s_w2 : w.heap.size ≤ w2.heap.size := Xw2.size
  clear xw2
  obtain ⟨afv2, cfv2, rfl⟩ := i3.form
  go_wp2_with fail
  go_ret2
  rw [show extA ts ls = extT ts ls ts.length by unfold extA; rw [hB1.out]; rfl]
  exact ⟨_, rfl, i3.lower (by omega), i3z.lower (by omega), (Xw2.trans qXt)⟩

set_option maxHeartbeats 3200000 in
theorem implCostOf_0 (ts : List Ten) (ls : List Lst) (tv lv : Value) (w : World) (l1 l2 : Nat) (h1 : Tens w l1 tv ts) (h2 : Lsts w l2 lv ls) (he : Hid (extA ts ls = none)) :
  Calls Try.prog 58 #[tv, lv] w (fun e w' => e = .returned (.int .i64 (cstA ts ls)) ∧ Ext w w') := by
 obtain ⟨p0, c0, rfl⟩ := h1.form
 obtain ⟨p1, c1, rfl⟩ := h2.form
 have hlt1 := h1.len
 have hlt2 := h2.len
 go_enter Try.func58, Try.ntmps58
 go_wp2_with fail
 refine (pie_none he.out (extentsOf_c ts ls (.slice p0 ts.length c0) (.slice p1 ls.length c1) _ _ _ (h1.ext qXt) (h2.ext qXt))).mono ?_
 rintro e w1 ⟨fv1, rfl, i2, -, xw1⟩
 have Lw1 : Ext w w1 := Ext.trans qXt xw1
 have Xw1 : Ext w w1 := Lw1
 have s_w1 : w.heap.size ≤ w1.heap.size := Xw1.size
 clear xw1
 obtain ⟨afv1, cfv1, rfl⟩ := i2.form
 go_wp2_with fail
 go_ret
 exact ⟨by rw [cstA_none he.out] <;> rfl, (Xw1.trans qXt)⟩

set_option maxHeartbeats 3200000 in
theorem implCostOf_1 (ts : List Ten) (ls : List Lst) (tv lv : Value) (x : List Int) (w : World) (l1 l2 : Nat) (h1 : Tens w l1 tv ts) (h2 : Lsts w l2 lv ls) (he : Hid (extA ts ls = some x)) :
  Calls Try.prog 58 #[tv, lv] w (fun e w' => e = .returned (.int .i64 (cstA ts ls)) ∧ Ext w w') := by
 obtain ⟨p0, c0, rfl⟩ := h1.form
 obtain ⟨p1, c1, rfl⟩ := h2.form
 have hlt1 := h1.len
 have hlt2 := h2.len
 obtain ⟨f5, f1, f2, f3, f4, f6⟩ := extA_fact he.out
 have h5 : 5 ≤ x.length := by omega
 have h6 : x.length ≤ 5 := by omega
 have hlb : Hid (labsB ls) := Lib.hid (fun i hi => ⟨(f4 i hi).1, by have := (f4 i hi).2; omega⟩)
 have hx60 : Hid (∀ k, k < 5 → x.getD k 0 ≤ 60) := Lib.hid (fun k hk => (f6 k hk).2.1)
 have hal : Hid (∀ y ∈ alL ls, 0 ≤ y ∧ y < x.length ∧ (0 ≤ x.getD y.toNat 0 ∧ x.getD y.toNat 0 ≤ 60)) := Lib.hid (fun y hy => all_ext he.out y hy)
 have hal5 : (alL ls).length ≤ 5 := all_le he.out
 have f7 : ls.length ≤ 8 := by omega
 clear f4 f6 f5 f1
 go_enter Try.func58, Try.ntmps58
 go_wp2_with fail
 refine (pie_some he.out (extentsOf_c ts ls (.slice p0 ts.length c0) (.slice p1 ls.length c1) _ _ _ (h1.ext qXt) (h2.ext qXt))).mono ?_
 rintro e w1 ⟨fv1, rfl, i2, -, xw1⟩
 have Lw1 : Ext w w1 := Ext.trans qXt xw1
 have Xw1 : Ext w w1 := Lw1
 have s_w1 : w.heap.size ≤ w1.heap.size := Xw1.size
 clear xw1
 obtain ⟨afv1, cfv1, rfl⟩ := i2.form
 go_wp2_with fail
 refine (allLabels_c ls (.slice p1 ls.length c1) _ _ (h2.ext (Xw1.trans qXt)) hlb f7).mono ?_
 rintro e w2 ⟨fv3, rfl, i4, -, xw2⟩
 have Lw2 : Ext w1 w2 := Ext.trans qXt xw2
 have Xw2 : Ext w w2 := Xw1.trans Lw2
 replace i2 := i2.ext Lw2
 have s_w2 : w.heap.size ≤ w2.heap.size := Xw2.size
 clear xw2
 obtain ⟨afv3, cfv3, rfl⟩ := i4.form
 go_wp2_with fail
 refine (costOver_c x (alL ls) (.slice afv1 x.length cfv1) (.slice afv3 ((alL ls).length) cfv3) _ _ _ (i2.ext qXt) (i4.ext qXt) hal5 hal).mono ?_
 rintro e w3 ⟨rfl, xw3⟩
 have Lw3 : Ext w2 w3 := Ext.trans qXt xw3
 have Xw3 : Ext w w3 := Xw2.trans Lw3
 replace i2 := i2.ext Lw3
 replace i4 := i4.ext Lw3
 have s_w3 : w.heap.size ≤ w3.heap.size := Xw3.size
 clear xw3
 go_wp2_with fail
 go_ret
 exact ⟨by rw [cstA_some he.out, ← cost_law he.out] <;> rfl, (Xw3.trans qXt)⟩

set_option maxHeartbeats 1600000 in
theorem implCostOf_c (ts : List Ten) (ls : List Lst) (tv lv : Value) (w : World) (l1 l2 : Nat) (h1 : Tens w l1 tv ts) (h2 : Lsts w l2 lv ls) :
  Calls Try.prog 58 #[tv, lv] w (fun e w' => e = .returned (.int .i64 (cstA ts ls)) ∧ Ext w w') := by
 cases he : extA ts ls with
 | none => exact implCostOf_0 ts ls tv lv w l1 l2 h1 h2 (Lib.hid he)
 | some x => exact implCostOf_1 ts ls tv lv x w l1 l2 h1 h2 (Lib.hid he)

set_option maxHeartbeats 3200000 in
theorem specCostOf_0 (ts : List Ten) (ls : List Lst) (tv lv : Value) (w : World) (l1 l2 : Nat) (h1 : Tens w l1 tv ts) (h2 : Lsts w l2 lv ls) (he : Hid (extA ts ls = none)) :
  Calls Try.prog 57 #[tv, lv] w (fun e w' => e = .returned (.int .i64 (cstA ts ls)) ∧ Ext w w') := by
 obtain ⟨p0, c0, rfl⟩ := h1.form
 obtain ⟨p1, c1, rfl⟩ := h2.form
 have hlt1 := h1.len
 have hlt2 := h2.len
 go_enter Try.func57, Try.ntmps57
 go_wp2_with fail
 refine (pie_none he.out (specExtentsOf_c ts ls (.slice p0 ts.length c0) (.slice p1 ls.length c1) _ _ _ (h1.ext qXt) (h2.ext qXt))).mono ?_
 rintro e w1 ⟨fv1, rfl, i2, -, xw1⟩
 have Lw1 : Ext w w1 := Ext.trans qXt xw1
 have Xw1 : Ext w w1 := Lw1
 have s_w1 : w.heap.size ≤ w1.heap.size := Xw1.size
 clear xw1
 obtain ⟨afv1, cfv1, rfl⟩ := i2.form
 go_wp2_with fail
 go_ret
 exact ⟨by rw [cstA_none he.out] <;> rfl, (Xw1.trans qXt)⟩

set_option maxHeartbeats 3200000 in
theorem specCostOf_1 (ts : List Ten) (ls : List Lst) (tv lv : Value) (x : List Int) (w : World) (l1 l2 : Nat) (h1 : Tens w l1 tv ts) (h2 : Lsts w l2 lv ls) (he : Hid (extA ts ls = some x)) :
  Calls Try.prog 57 #[tv, lv] w (fun e w' => e = .returned (.int .i64 (cstA ts ls)) ∧ Ext w w') := by
 obtain ⟨p0, c0, rfl⟩ := h1.form
 obtain ⟨p1, c1, rfl⟩ := h2.form
 have hlt1 := h1.len
 have hlt2 := h2.len
 obtain ⟨f5, f1, f2, f3, f4, f6⟩ := extA_fact he.out
 have h5 : 5 ≤ x.length := by omega
 have h6 : x.length ≤ 5 := by omega
 have hlb : Hid (labsB ls) := Lib.hid (fun i hi => ⟨(f4 i hi).1, by have := (f4 i hi).2; omega⟩)
 have hx60 : Hid (∀ k, k < 5 → x.getD k 0 ≤ 60) := Lib.hid (fun k hk => (f6 k hk).2.1)
 have hal : Hid (∀ y ∈ alL ls, 0 ≤ y ∧ y < x.length ∧ (0 ≤ x.getD y.toNat 0 ∧ x.getD y.toNat 0 ≤ 60)) := Lib.hid (fun y hy => all_ext he.out y hy)
 have hal5 : (alL ls).length ≤ 5 := all_le he.out
 have f7 : ls.length ≤ 8 := by omega
 clear f4 f6 f5 f1
 go_enter Try.func57, Try.ntmps57
 go_wp2_with fail
 refine (pie_some he.out (specExtentsOf_c ts ls (.slice p0 ts.length c0) (.slice p1 ls.length c1) _ _ _ (h1.ext qXt) (h2.ext qXt))).mono ?_
 rintro e w1 ⟨fv1, rfl, i2, -, xw1⟩
 have Lw1 : Ext w w1 := Ext.trans qXt xw1
 have Xw1 : Ext w w1 := Lw1
 have s_w1 : w.heap.size ≤ w1.heap.size := Xw1.size
 clear xw1
 obtain ⟨afv1, cfv1, rfl⟩ := i2.form
 go_wp2_with fail
 refine (space_c x (.slice afv1 x.length cfv1) _ _ (i2.ext qXt) h5 h6 hx60).mono ?_
 rintro e w2 ⟨sv3, rfl, xw2⟩
 have Lw2 : Ext w1 w2 := Ext.trans qXt xw2
 have Xw2 : Ext w w2 := Xw1.trans Lw2
 replace i2 := i2.ext Lw2
 have s_w2 : w.heap.size ≤ w2.heap.size := Xw2.size
 clear xw2
 go_wp2_with fail
 go_ret
 exact ⟨by rw [cstA_some he.out] <;> rfl, (Xw2.trans qXt)⟩

set_option maxHeartbeats 1600000 in
theorem specCostOf_c (ts : List Ten) (ls : List Lst) (tv lv : Value) (w : World) (l1 l2 : Nat) (h1 : Tens w l1 tv ts) (h2 : Lsts w l2 lv ls) :
  Calls Try.prog 57 #[tv, lv] w (fun e w' => e = .returned (.int .i64 (cstA ts ls)) ∧ Ext w w') := by
 cases he : extA ts ls with
 | none => exact specCostOf_0 ts ls tv lv w l1 l2 h1 h2 (Lib.hid he)
 | some x => exact specCostOf_1 ts ls tv lv x w l1 l2 h1 h2 (Lib.hid he)


end Go.Proofs.Ytfbbnbpobojboaa

/- FnExactCostOf returns true for all tensors and labels: no condition. -/
namespace Go.Proofs.Ytfbbnbpobojboaa
open Go.RowKit
set_option linter.unusedVariables false
set_option maxRecDepth 100000

set_option maxHeartbeats 6400000 in
theorem lawCostOf_1 (ts : List Ten) (ls : List Lst) (v u : Value) (w : World) (hv : RawT w v ts) (hu : RawL w u ls) (hm : ts.length ≤ maxLen) (hn : ls.length ≤ maxLen) (c : Int) (hc : Hid (cstA ts ls = c)) :
    Calls Try.prog 12 #[v, u] w fun e w' => e = .returned (.bool true) ∧ Ext w w' := by
  go_enter Try.func12, Try.ntmps12
  go_wp2_with fail
  refine (szTensorS_c ts v 1048576 _ (hv.ext qXt) (by omega) (by omega) hm).mono ?_
  rintro e w1 ⟨L, rfl, q1, q2, q3, x1⟩
  have X1 : Ext w w1 := Ext.trans qXt x1
  replace x1 := Lib.hid x1
  by_cases hL : L < 0
  · go_wp2_with fail
    go_ret
    exact ⟨rfl, X1⟩
  · have hq := q3 (by omega)
    have hl : ts.length ≤ 1048576 := by omega
    have hr : ∀ i, i < ts.length → (tenAt ts i).s.length ≤ 1048576 ∧ (tenAt ts i).t.length ≤ 1048576 := fun i hi => by have := sizeT_le ts i ts.length hi; omega
    replace hr := Lib.hid hr
    replace hv := Lib.hid hv
    replace hu := Lib.hid hu
    clear q3 hq
    go_wp2_with fail
    refine (szIntSS_c ls u L _ (hu.out.ext X1) (by omega) (by omega) hn).mono ?_
    rintro e w0 ⟨M, rfl, p1, p2, p3, x0⟩
    have X0 : Ext w w0 := X1.trans (Ext.trans qXt x0)
    replace x0 := Lib.hid x0
    by_cases hM : M < 0
    · go_wp2_with fail
      go_ret
      exact ⟨rfl, X0⟩
    · have hp := p3 (by omega)
      have hl2 : ls.length ≤ 1048576 := by omega
      have hr2 : ∀ i, i < ls.length → (lstAt ls i).s.length ≤ 1048576 := fun i hi => by have := sizeL_le ls i ls.length hi; omega
      replace hr2 := Lib.hid hr2
      clear p3 hp
      go_wp2_with fail
      refine (toTensorS_c ts v _ (hv.out.ext X0) hl hr.out).mono ?_
      rintro e w2 ⟨a1, rfl, r1, x2⟩
      have X2 : Ext w w2 := X0.trans (Ext.trans qXt x2)
      replace x2 := Lib.hid x2
      replace r1 := Lib.hid r1
      go_wp2_with fail
      refine (toIntSS_c ls u _ (hu.out.ext X2) hl2 hr2.out).mono ?_
      rintro e w3 ⟨b1, rfl, s1, x3⟩
      have E3 : Ext w2 w3 := Ext.trans qXt x3
      have X3 : Ext w w3 := X2.trans E3
      replace x3 := Lib.hid x3
      replace s1 := Lib.hid s1
      go_wp2_with fail
      refine (specCostOf_c ts ls a1 b1 _ _ _ (r1.out.ext E3) (s1.out.ext qXt)).mono ?_
      rintro e w4 ⟨rfl, x4⟩
      rw [hc.out]
      have X4 : Ext w w4 := X3.trans (Ext.trans qXt x4)
      replace x4 := Lib.hid x4
      clear r1 s1
      go_wp2_with fail
      refine (toTensorS_c ts v _ (hv.out.ext X4) hl hr.out).mono ?_
      rintro e w5 ⟨a2, rfl, r2, x5⟩
      have X5 : Ext w w5 := X4.trans (Ext.trans qXt x5)
      replace x5 := Lib.hid x5
      replace r2 := Lib.hid r2
      go_wp2_with fail
      refine (toIntSS_c ls u _ (hu.out.ext X5) hl2 hr2.out).mono ?_
      rintro e w6 ⟨b2, rfl, s2, x6⟩
      have E6 : Ext w5 w6 := Ext.trans qXt x6
      have X6 : Ext w w6 := X5.trans E6
      replace x6 := Lib.hid x6
      replace s2 := Lib.hid s2
      go_wp2_with fail
      refine (implCostOf_c ts ls a2 b2 _ _ _ (r2.out.ext E6) (s2.out.ext qXt)).mono ?_
      rintro e w7 ⟨rfl, x7⟩
      rw [hc.out]
      have E7 : Ext w6 w7 := Ext.trans qXt x7
      have X7 : Ext w w7 := X6.trans E7
      replace x7 := Lib.hid x7
      have hcc : (c != c) = false := by simp
      go_wp2_with fail
      refine (toTensorS_c ts v _ (hv.out.ext X7) hl hr.out).mono ?_
      rintro e w8 ⟨a3, rfl, r3, x8⟩
      have E8 : Ext w7 w8 := Ext.trans qXt x8
      have X8 : Ext w w8 := X7.trans E8
      replace x8 := Lib.hid x8
      replace r3 := Lib.hid r3
      go_wp2_with fail
      refine (eqTensorS_c ts a2 a3 _ _ _ (((r2.out.ext E6).ext E7).ext E8) (r3.out.ext qXt)).mono ?_
      rintro e w9 ⟨rfl, x9⟩
      have E9 : Ext w8 w9 := Ext.trans qXt x9
      have X9 : Ext w w9 := X8.trans E9
      replace x9 := Lib.hid x9
      go_wp2_with fail
      refine (toIntSS_c ls u _ (hu.out.ext X9) hl2 hr2.out).mono ?_
      rintro e w10 ⟨b3, rfl, s3, x10⟩
      have E10 : Ext w9 w10 := Ext.trans qXt x10
      have X10 : Ext w w10 := X9.trans E10
      replace x10 := Lib.hid x10
      replace s3 := Lib.hid s3
      go_wp2_with fail
      refine (eqIntSS_c ls b2 b3 _ _ _ ((((s2.out.ext E7).ext E8).ext E9).ext E10) (s3.out.ext qXt)).mono ?_
      rintro e w11 ⟨rfl, x11⟩
      have X11 : Ext w w11 := X10.trans (Ext.trans qXt x11)
      go_wp2_with fail
      go_ret
      exact ⟨rfl, X11⟩
theorem lawCostOf_c (ts : List Ten) (v : Value) (ls : List Lst) (u : Value) (w : World) (hv : RawT w v ts) (hm : ts.length ≤ maxLen) (hu : RawL w u ls) (hn : ls.length ≤ maxLen) :
    Calls Try.prog 12 #[v, u] w fun e w' => e = .returned (.bool true) ∧ Ext w w' :=
  lawCostOf_1 ts ls v u w hv hu hm hn _ (Lib.hid rfl)
end Go.Proofs.Ytfbbnbpobojboaa

/- The law FnExactCostOf holds for all arguments: the call returns true, and its arguments read as they did. No condition. -/
namespace Go.Proofs.Ytfbbnbpobojboaa.rowCostOf
open Go.ChangeShapes Go.WideShapes Go.ChangeAt Go.RowKit
set_option linter.unusedVariables false

set_option maxHeartbeats 1000000 in
set_option maxRecDepth 100000 in
theorem lifted (os : Os) (started : os.Started) (H : Type) (enc : TypeId × Value → H) :
    ReturnsInHanded {} Try.checked os 12 .any (Rows.fnExactCostOfSpec.pre6 enc Try.prog Try.f12 Rows.fnExactCostOfRow.domain false) (Rows.fnExactCostOfSpec.post enc Try.prog Try.f12 false true false false) := by
  refine returnsInHanded_of_change (C := Try.checked) own started qKr Try.func12
    (ChangeSpec.witness6 (enc := enc) (C := Try.checked) false ⟨#[], #[.slice none 0 0, .slice none 0 0], []⟩ 8 qKr qKr qKr qKr) ?_
  intro W base args ds gs before hval0 hW hcnd _
  have hval : ∀ (j : Nat) t v, Try.f12.params[j]? = some t → args[j]? = some v → Value.okWide Try.prog W .any base t v := hval0
  have hW' := hW
  obtain ⟨p, q, hA0, hV, rfl, hfz, hnd⟩ := hW
  have hA : DataW.TrodAll enc Try.prog W 0 (fun _ => true) true Try.f12.params.toList args.toList ds p := hA0
  rw [Try.params12] at hA hval
  obtain ⟨v0, vs0, d0, ds0, p0, q0, hargs0, rfl, rfl, h0, r0⟩ := trodAll_cons hA
  obtain ⟨v1, vs1, d1, ds1, p1, q1, hargs1, rfl, rfl, h1, r1⟩ := trodAll_cons r0
  subst hargs1
  obtain ⟨rfl, rfl, rfl⟩ := trodAll_nil r1
  obtain rfl : args = #[v0, v1] := by cases args; simp_all
  obtain ⟨rfl, rfl⟩ := trodVars_none hV
  have k0 := h0
  have lt0 : ∀ x ∈ p0, x.block < W.heap.size := by obtain ⟨m, hm⟩ := k0; exact DataW.trod_lt m _ _ _ hm
  have hc0 : v0.cells.toList = [v0] := by obtain ⟨_, _, _, rfl⟩ := okWide_slice Try.underlying50 (hval 0 _ v0 rfl rfl); rfl
  obtain ⟨m0, hm0⟩ := h0
  rw [hc0] at hm0
  obtain ⟨rs0, hs0, hn0⟩ := open_rawT hm0
  have k1 := h1
  have lt1 : ∀ x ∈ p1, x.block < W.heap.size := by obtain ⟨m, hm⟩ := k1; exact DataW.trod_lt m _ _ _ hm
  have hc1 : v1.cells.toList = [v1] := by obtain ⟨_, _, _, rfl⟩ := okWide_slice Try.underlying51 (hval 1 _ v1 rfl rfl); rfl
  obtain ⟨m1, hm1⟩ := h1
  rw [hc1] at hm1
  obtain ⟨rs1, hs1, hn1⟩ := open_rawL hm1
  clear hA0 hval0
  refine (lawCostOf_c rs0 v0 rs1 v1 W hs0 hn0 hs1 hn1).mono fun e W' ⟨he, bel⟩ => ?_
  subst he
  exact ⟨_, rfl, _, _, _, [], _, [], hW', trodAll_mk1 (shut_bool Try.underlying4 _), (trodAll_cons_mk (Below.trod laidOut qKr (of_decide_eq_true qKr) k0 bel lt0) (trodAll_cons_mk (Below.trod laidOut qKr (of_decide_eq_true qKr) k1 bel lt1) trodAll_mk0)), rfl, Below.frame bel _, fun h => by cases h⟩

set_option maxHeartbeats 2000000 in
theorem closed : joinedFacts Try.checked.prog 12 Try.f12 Rows.fnExactCostOfSpec Rows.fnExactCostOfRow = true :=
  facts.all qKr qKr qKr qKr qKr (by as_aux_lemma => kernel_rfl) (by as_aux_lemma => kernel_rfl) (by as_aux_lemma => kernel_rfl) (by as_aux_lemma => kernel_rfl)
    (by as_aux_lemma => kernel_rfl) (by as_aux_lemma => kernel_rfl) rfl rfl rfl rfl qKr qKr (by as_aux_lemma => kernel_rfl) (by as_aux_lemma => kernel_rfl)

theorem named : Try.pinned.checked.prog.funcNamed Rows.fnExactCostOfRow.func = some 12 := by kernel_rfl

theorem over : Rows.fnExactCostOfRow.holds Try.pinned (OpenSpec.ofChange Rows.fnExactCostOfSpec) :=
  OpenClaim.holds_of_wide 12 Try.f12 rfl rfl rfl rfl rfl rfl rfl ⟨rfl, rfl, rfl, rfl, rfl⟩ rfl rfl rfl rfl rfl named Try.func12 closed
    (of_decide_eq_true qKr) (by unfold Func.isWrapper; exact ⟨rfl, rfl⟩)
    (fun os started H enc _ => lifted os started H enc)

theorem proved : Rows.FnExactCostOfSaid := over

end Go.Proofs.Ytfbbnbpobojboaa.rowCostOf
