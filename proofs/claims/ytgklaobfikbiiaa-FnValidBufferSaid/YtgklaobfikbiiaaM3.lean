/- Texts of these proofs put together: BufB, BufC, BufD, LvB, LvF, LvE, LvH, LvG, PureM, LvI, LvJ, BufE, KitC, KitD, KitF, BufO, KitE, KitG, BufF, BufP, BufQ, BufU, BufV. No condition. -/
import Derived.Test.YtgklaobfikbiiaaM2
import Derived.Test.YtgklaobfikbiiaaM1
set_option linter.unusedVariables false
set_option linter.unusedSimpArgs false
/- Walks: valid buffers. -/
namespace Go.Proofs.Ytgklaobfikbiiaa
open Go.RowKit
set_option linter.unusedVariables false
set_option maxRecDepth 100000

set_option maxHeartbeats 3200000 in
theorem isBuffer_c (cells : List Int) (es : List Exp) (cv ev : Value) (w : World) (l1 l2 : Nat) (h1 : Ints w l1 cv cells) (h2 : Exps w l2 ev es) :
  Calls Try.prog 35 #[.agg #[cv, ev]] w (fun e w' => e = .returned (.bool (bufB cells es)) ∧ Ext w w') := by
 obtain ⟨p0, c0, rfl⟩ := h1.form
 obtain ⟨p1, c1, rfl⟩ := h2.form
 have he1 := h2.len
 have hc1 := h1.len
 go_enter Try.func35, Try.ntmps35
 go_wp2_with fail
 refine (isMemory_c cells (.slice p0 cells.length c0) _ _ (h1.ext qXt)).mono ?_
 rintro e w' ⟨rfl, rfl⟩
 cases hB2 : memB cells
 ·
  replace hB2 := Lib.hid hB2
  go_wp2_with fail
  go_ret
  exact ⟨by rw [show bufB cells es = false from by unfold bufB; rw [hB2.out]; rfl] <;> rfl, qXt⟩
 ·
  replace hB2 := Lib.hid hB2
  by_cases hc3 : (8 : Int) < (es.length : Int)
  ·
   go_wp2_with fail
   go_ret
   exact ⟨by rw [show bufB cells es = false from by unfold bufB; rw [decide_eq_false (show ¬ es.length ≤ 8 by omega)]; simp] <;> rfl, qXt⟩
  ·
   go_wp2_with fail
   generalize hW1 : w.alloc (.cells #[.slice p0 cells.length c0, .slice p1 es.length c1] 26) = w1 at *
   have Lw1 : Ext w w1 := by subst hW1; exact qXt
   have Xw1 : Ext w w1 := by subst hW1; exact Lw1
   have b10 : w1.cell? ⟨w.heap.size, 0, none⟩ = some (.slice p0 cells.length c0) := by subst hW1; exact qCl
   have b11 : w1.cell? ⟨w.heap.size, 1, none⟩ = some (.slice p1 es.length c1) := by subst hW1; exact qCl
   have z_b1 : w.heap.size < w1.heap.size := qB b10
   have s_w1 : w.heap.size ≤ w1.heap.size := Xw1.size
   clear hW1
   go_loopw [18] (fun i wr => ∃ (k : Nat), k ≤ es.length ∧ i = .int .i64 k ∧ Hid (expsB cells es k = true) ∧ Ext w1 wr) (fun i _ => es.length - (intOf i).toNat)
   case atStart => exact ⟨0, Nat.zero_le _, rfl, Lib.hid rfl, qXt⟩
   case round =>
    obtain ⟨k, hk, rfl, ht, Lwr⟩ := hrel
    have Xwr : Ext w wr := Xw1.trans Lwr
    have s_wr : w.heap.size ≤ wr.heap.size := Xwr.size
    have t_wr : w1.heap.size ≤ wr.heap.size := Lwr.size
    replace b10 := Lwr.cell b10
    replace b11 := Lwr.cell b11
    have z_b1 : w.heap.size < wr.heap.size := qB b10
    have Bwr : Ext w1 wr := Lwr
    rcases (show (k < es.length ∧ 0 ≤ (expAt es k).par) ∨ (k < es.length ∧ ¬ 0 ≤ (expAt es k).par) ∨ ¬ k < es.length by omega) with ⟨hlt, hpar⟩ | ⟨hlt, hpar⟩ | hlt
    ·
     have hkI : (k : Int) < es.length := by omega
     have hN_x4 : k < es.length := (by omega)
     have hI_x4 : (k : Int) < (es.length : Int) := by omega
     obtain ⟨bl17, ol18, u11, c12, u13, c14, rfl, x40, x41, x42, x43, x44, i15, i16⟩ := (h2.ext Xwr).at k hN_x4
     obtain ⟨X10, hX10⟩ : ∃ x, expAt es k = x := ⟨_, rfl⟩
     rw [hX10] at x40 x41 x42 x43 x44 i15 i16
     have hpq_x4 := hpar
     rw [hX10] at hpq_x4
     obtain ⟨P5, B6, S7, T8, O9⟩ := X10
     dsimp only at x40 x41 x42 x43 x44 i15 i16 hpq_x4
     obtain ⟨q, rfl⟩ : ∃ q : Nat, P5 = (q : Int) := ⟨P5.toNat, by omega⟩
     clear hpq_x4
     replace hX10 := Lib.hid hX10
     have z_x4 : bl17 < wr.heap.size := qB x40
     cases O9
     ·
      go_wp2_with fail
      refine (isView_c B6 (.slice u11 S7.length c12) (.slice u13 T8.length c14) S7 T8 _ _ _ (i15.ext qXt) (i16.ext qXt)).mono ?_
      rintro e w2 ⟨rfl, xw2⟩
      have Lw2 : Ext wr w2 := Ext.trans qXt xw2
      have Xw2 : Ext w w2 := Xwr.trans Lw2
      replace b10 := Lw2.cell b10
      replace b11 := Lw2.cell b11
      replace x40 := Lw2.cell x40
      replace x41 := Lw2.cell x41
      replace x42 := Lw2.cell x42
      replace x43 := Lw2.cell x43
      replace x44 := Lw2.cell x44
      have b190 : w2.cell? ⟨wr.heap.size, 0, none⟩ = some (.int .i64 (q : Int)) := xw2.cell qCl
      have b191 : w2.cell? ⟨wr.heap.size, 1, none⟩ = some (.int .i64 B6) := xw2.cell qCl
      have b192 : w2.cell? ⟨wr.heap.size, 2, none⟩ = some (.slice u11 S7.length c12) := xw2.cell qCl
      have b193 : w2.cell? ⟨wr.heap.size, 3, none⟩ = some (.slice u13 T8.length c14) := xw2.cell qCl
      have b194 : w2.cell? ⟨wr.heap.size, 4, none⟩ = some (.bool false) := xw2.cell qCl
      have z_b1 : w.heap.size < w2.heap.size := qB b10
      have z_x4 : bl17 < w2.heap.size := qB x40
      have z_b19 : wr.heap.size < w2.heap.size := qB b190
      replace i15 := i15.ext Lw2
      replace i16 := i16.ext Lw2
      have s_w2 : w.heap.size ≤ w2.heap.size := Xw2.size
      have Bwr_w2 : Ext w1 w2 := Bwr.trans Lw2
      clear xw2
      cases hB20 : viewB B6 S7 T8
      ·
       replace hB20 := Lib.hid hB20
       go_wp2_with fail
       go_ret
       exact ⟨by rw [show bufB cells es = false from by unfold bufB; rw [expsB_no hlt (by unfold expB inB; rw [hX10.out]; dsimp only; rw [hB20.out]; simp <;> omega)]; simp] <;> rfl, (Xw2.trans qXt)⟩
      ·
       replace hB20 := Lib.hid hB20
       have hq21 : ¬ ((q : Int) < (-1 : Int)) := (by omega)
       by_cases hc22 : (k : Int) ≤ (q : Int)
       ·
        go_wp2_with fail
        go_ret
        exact ⟨by rw [show bufB cells es = false from by unfold bufB; rw [expsB_no hlt (by unfold expB inB; rw [hX10.out]; dsimp only; rw [hB20.out]; simp <;> omega)]; simp] <;> rfl, (Xw2.trans qXt)⟩
       ·
        go_wp2_with fail
        go_roundw
        case rel => exact ⟨k + 1, by omega, by go_num, Lib.hid (by rw [expsB_succ, ht.out, Bool.true_and]; exact (by unfold expB inB; rw [hX10.out]; dsimp only; rw [hB20.out]; simp <;> omega)), (Bwr_w2.trans qXt)⟩
        case measure => simp [intOf]; omega
     ·
      go_wp2_with fail
      refine (isView_c B6 (.slice u11 S7.length c12) (.slice u13 T8.length c14) S7 T8 _ _ _ (i15.ext qXt) (i16.ext qXt)).mono ?_
      rintro e w2 ⟨rfl, xw2⟩
      have Lw2 : Ext wr w2 := Ext.trans qXt xw2
      have Xw2 : Ext w w2 := Xwr.trans Lw2
      replace b10 := Lw2.cell b10
      replace b11 := Lw2.cell b11
      replace x40 := Lw2.cell x40
      replace x41 := Lw2.cell x41
      replace x42 := Lw2.cell x42
      replace x43 := Lw2.cell x43
      replace x44 := Lw2.cell x44
      have b230 : w2.cell? ⟨wr.heap.size, 0, none⟩ = some (.int .i64 (q : Int)) := xw2.cell qCl
      have b231 : w2.cell? ⟨wr.heap.size, 1, none⟩ = some (.int .i64 B6) := xw2.cell qCl
      have b232 : w2.cell? ⟨wr.heap.size, 2, none⟩ = some (.slice u11 S7.length c12) := xw2.cell qCl
      have b233 : w2.cell? ⟨wr.heap.size, 3, none⟩ = some (.slice u13 T8.length c14) := xw2.cell qCl
      have b234 : w2.cell? ⟨wr.heap.size, 4, none⟩ = some (.bool true) := xw2.cell qCl
      have z_b1 : w.heap.size < w2.heap.size := qB b10
      have z_x4 : bl17 < w2.heap.size := qB x40
      have z_b23 : wr.heap.size < w2.heap.size := qB b230
      replace i15 := i15.ext Lw2
      replace i16 := i16.ext Lw2
      have s_w2 : w.heap.size ≤ w2.heap.size := Xw2.size
      have Bwr_w2 : Ext w1 w2 := Bwr.trans Lw2
      clear xw2
      cases hB24 : viewB B6 S7 T8
      ·
       replace hB24 := Lib.hid hB24
       go_wp2_with fail
       go_ret
       exact ⟨by rw [show bufB cells es = false from by unfold bufB; rw [expsB_no hlt (by unfold expB inB; rw [hX10.out]; dsimp only; rw [hB24.out]; simp <;> omega)]; simp] <;> rfl, (Xw2.trans qXt)⟩
      ·
       replace hB24 := Lib.hid hB24
       have hq25 : ¬ ((q : Int) < (-1 : Int)) := (by omega)
       by_cases hc26 : (k : Int) ≤ (q : Int)
       ·
        go_wp2_with fail
        go_ret
        exact ⟨by rw [show bufB cells es = false from by unfold bufB; rw [expsB_no hlt (by unfold expB inB; rw [hX10.out]; dsimp only; rw [hB24.out]; simp <;> omega)]; simp] <;> rfl, (Xw2.trans qXt)⟩
       ·
        go_wp2_with fail
        refine (fitsIn_c B6 (.slice u11 S7.length c12) (.slice u13 T8.length c14) S7 T8 (cells.length : Int) _ _ _ (i15.ext qXt) (i16.ext qXt) hB24.out).mono ?_
        rintro e w3 ⟨rfl, xw3⟩
        have Lw3 : Ext w2 w3 := Ext.trans qXt xw3
        have Xw3 : Ext w w3 := Xw2.trans Lw3
        replace b10 := Lw3.cell b10
        replace b11 := Lw3.cell b11
        replace x40 := Lw3.cell x40
        replace x41 := Lw3.cell x41
        replace x42 := Lw3.cell x42
        replace x43 := Lw3.cell x43
        replace x44 := Lw3.cell x44
        replace b230 := Lw3.cell b230
        replace b231 := Lw3.cell b231
        replace b232 := Lw3.cell b232
        replace b233 := Lw3.cell b233
        replace b234 := Lw3.cell b234
        have z_b1 : w.heap.size < w3.heap.size := qB b10
        have z_x4 : bl17 < w3.heap.size := qB x40
        have z_b23 : wr.heap.size < w3.heap.size := qB b230
        replace i15 := i15.ext Lw3
        replace i16 := i16.ext Lw3
        have s_w3 : w.heap.size ≤ w3.heap.size := Xw3.size
        have Bwr_w3 : Ext w1 w3 := Bwr_w2.trans Lw3
        clear xw3
        cases hB27 : fitB B6 S7 T8 (cells.length : Int)
        ·
         replace hB27 := Lib.hid hB27
         go_wp2_with fail
         go_ret
         exact ⟨by rw [show bufB cells es = false from by unfold bufB; rw [expsB_no hlt (by unfold expB inB; rw [hX10.out]; dsimp only; rw [hB24.out]; rw [hB27.out]; simp <;> omega)]; simp] <;> rfl, (Xw3.trans qXt)⟩
        ·
         replace hB27 := Lib.hid hB27
         have hq28 : (0 : Int) ≤ (q : Int) := (by omega)
         have hN_x29 : q < es.length := (by omega)
         have hI_x29 : (q : Int) < (es.length : Int) := by omega
         obtain ⟨b_x29, o_x29, u36, c37, u38, c39, h_x29, x290, x291, x292, x293, x294, i40, i41⟩ := (h2.ext Xw3).at q hN_x29
         cases h_x29
         obtain ⟨X35, hX35⟩ : ∃ x, expAt es q = x := ⟨_, rfl⟩
         rw [hX35] at x290 x291 x292 x293 x294 i40 i41
         obtain ⟨P30, B31, S32, T33, O34⟩ := X35
         dsimp only at x290 x291 x292 x293 x294 i40 i41
         replace hX35 := Lib.hid hX35
         have z_x29 : bl17 < w3.heap.size := qB x290
         cases O34
         ·
          go_wp2_with fail
          go_ret
          exact ⟨by rw [show bufB cells es = false from by unfold bufB; rw [expsB_no hlt (by unfold expB inB; rw [hX10.out]; dsimp only; rw [hB24.out]; rw [hB27.out]; simp [hX35.out] <;> omega)]; simp] <;> rfl, (Xw3.trans qXt)⟩
         ·
          go_wp2_with fail
          go_roundw
          case rel => exact ⟨k + 1, by omega, by go_num, Lib.hid (by rw [expsB_succ, ht.out, Bool.true_and]; exact (by unfold expB inB; rw [hX10.out]; dsimp only; rw [hB24.out]; rw [hB27.out]; simp [hX35.out] <;> omega)), (Bwr_w3.trans qXt)⟩
          case measure => simp [intOf]; omega
    ·
     have hkI : (k : Int) < es.length := by omega
     have hN_x44 : k < es.length := (by omega)
     have hI_x44 : (k : Int) < (es.length : Int) := by omega
     obtain ⟨bl57, ol58, u51, c52, u53, c54, rfl, x440, x441, x442, x443, x444, i55, i56⟩ := (h2.ext Xwr).at k hN_x44
     obtain ⟨X50, hX50⟩ : ∃ x, expAt es k = x := ⟨_, rfl⟩
     rw [hX50] at x440 x441 x442 x443 x444 i55 i56
     obtain ⟨P45, B46, S47, T48, O49⟩ := X50
     dsimp only at x440 x441 x442 x443 x444 i55 i56
     replace hX50 := Lib.hid hX50
     have z_x44 : bl57 < wr.heap.size := qB x440
     cases O49
     ·
      go_wp2_with fail
      refine (isView_c B46 (.slice u51 S47.length c52) (.slice u53 T48.length c54) S47 T48 _ _ _ (i55.ext qXt) (i56.ext qXt)).mono ?_
      rintro e w2 ⟨rfl, xw2⟩
      have Lw2 : Ext wr w2 := Ext.trans qXt xw2
      have Xw2 : Ext w w2 := Xwr.trans Lw2
      replace b10 := Lw2.cell b10
      replace b11 := Lw2.cell b11
      replace x440 := Lw2.cell x440
      replace x441 := Lw2.cell x441
      replace x442 := Lw2.cell x442
      replace x443 := Lw2.cell x443
      replace x444 := Lw2.cell x444
      have b590 : w2.cell? ⟨wr.heap.size, 0, none⟩ = some (.int .i64 P45) := xw2.cell qCl
      have b591 : w2.cell? ⟨wr.heap.size, 1, none⟩ = some (.int .i64 B46) := xw2.cell qCl
      have b592 : w2.cell? ⟨wr.heap.size, 2, none⟩ = some (.slice u51 S47.length c52) := xw2.cell qCl
      have b593 : w2.cell? ⟨wr.heap.size, 3, none⟩ = some (.slice u53 T48.length c54) := xw2.cell qCl
      have b594 : w2.cell? ⟨wr.heap.size, 4, none⟩ = some (.bool false) := xw2.cell qCl
      have z_b1 : w.heap.size < w2.heap.size := qB b10
      have z_x44 : bl57 < w2.heap.size := qB x440
      have z_b59 : wr.heap.size < w2.heap.size := qB b590
      replace i55 := i55.ext Lw2
      replace i56 := i56.ext Lw2
      have s_w2 : w.heap.size ≤ w2.heap.size := Xw2.size
      have Bwr_w2 : Ext w1 w2 := Bwr.trans Lw2
      clear xw2
      cases hB60 : viewB B46 S47 T48
      ·
       replace hB60 := Lib.hid hB60
       go_wp2_with fail
       go_ret
       exact ⟨by rw [show bufB cells es = false from by unfold bufB; rw [expsB_no hlt (by unfold expB inB; rw [hX50.out]; dsimp only; rw [hB60.out]; simp <;> omega)]; simp] <;> rfl, (Xw2.trans qXt)⟩
      ·
       replace hB60 := Lib.hid hB60
       by_cases hc61 : (P45 : Int) < (-1 : Int)
       ·
        go_wp2_with fail
        go_ret
        exact ⟨by rw [show bufB cells es = false from by unfold bufB; rw [expsB_no hlt (by unfold expB inB; rw [hX50.out]; dsimp only; rw [hB60.out]; simp <;> omega)]; simp] <;> rfl, (Xw2.trans qXt)⟩
       ·
        by_cases hc62 : (k : Int) ≤ (P45 : Int)
        ·
         go_wp2_with fail
         go_ret
         exact ⟨by rw [show bufB cells es = false from by unfold bufB; rw [expsB_no hlt (by unfold expB inB; rw [hX50.out]; dsimp only; rw [hB60.out]; simp <;> omega)]; simp] <;> rfl, (Xw2.trans qXt)⟩
        ·
         go_wp2_with fail
         go_roundw
         case rel => exact ⟨k + 1, by omega, by go_num, Lib.hid (by rw [expsB_succ, ht.out, Bool.true_and]; exact (by unfold expB inB; rw [hX50.out]; dsimp only; rw [hB60.out]; simp <;> omega)), (Bwr_w2.trans qXt)⟩
         case measure => simp [intOf]; omega
     ·
      go_wp2_with fail
      refine (isView_c B46 (.slice u51 S47.length c52) (.slice u53 T48.length c54) S47 T48 _ _ _ (i55.ext qXt) (i56.ext qXt)).mono ?_
      rintro e w2 ⟨rfl, xw2⟩
      have Lw2 : Ext wr w2 := Ext.trans qXt xw2
      have Xw2 : Ext w w2 := Xwr.trans Lw2
      replace b10 := Lw2.cell b10
      replace b11 := Lw2.cell b11
      replace x440 := Lw2.cell x440
      replace x441 := Lw2.cell x441
      replace x442 := Lw2.cell x442
      replace x443 := Lw2.cell x443
      replace x444 := Lw2.cell x444
      have b630 : w2.cell? ⟨wr.heap.size, 0, none⟩ = some (.int .i64 P45) := xw2.cell qCl
      have b631 : w2.cell? ⟨wr.heap.size, 1, none⟩ = some (.int .i64 B46) := xw2.cell qCl
      have b632 : w2.cell? ⟨wr.heap.size, 2, none⟩ = some (.slice u51 S47.length c52) := xw2.cell qCl
      have b633 : w2.cell? ⟨wr.heap.size, 3, none⟩ = some (.slice u53 T48.length c54) := xw2.cell qCl
      have b634 : w2.cell? ⟨wr.heap.size, 4, none⟩ = some (.bool true) := xw2.cell qCl
      have z_b1 : w.heap.size < w2.heap.size := qB b10
      have z_x44 : bl57 < w2.heap.size := qB x440
      have z_b63 : wr.heap.size < w2.heap.size := qB b630
      replace i55 := i55.ext Lw2
      replace i56 := i56.ext Lw2
      have s_w2 : w.heap.size ≤ w2.heap.size := Xw2.size
      have Bwr_w2 : Ext w1 w2 := Bwr.trans Lw2
      clear xw2
      cases hB64 : viewB B46 S47 T48
      ·
       replace hB64 := Lib.hid hB64
       go_wp2_with fail
       go_ret
       exact ⟨by rw [show bufB cells es = false from by unfold bufB; rw [expsB_no hlt (by unfold expB inB; rw [hX50.out]; dsimp only; rw [hB64.out]; simp <;> omega)]; simp] <;> rfl, (Xw2.trans qXt)⟩
      ·
       replace hB64 := Lib.hid hB64
       by_cases hc65 : (P45 : Int) < (-1 : Int)
       ·
        go_wp2_with fail
        go_ret
        exact ⟨by rw [show bufB cells es = false from by unfold bufB; rw [expsB_no hlt (by unfold expB inB; rw [hX50.out]; dsimp only; rw [hB64.out]; simp <;> omega)]; simp] <;> rfl, (Xw2.trans qXt)⟩
       ·
        by_cases hc66 : (k : Int) ≤ (P45 : Int)
        ·
         go_wp2_with fail
         go_ret
         exact ⟨by rw [show bufB cells es = false from by unfold bufB; rw [expsB_no hlt (by unfold expB inB; rw [hX50.out]; dsimp only; rw [hB64.out]; simp <;> omega)]; simp] <;> rfl, (Xw2.trans qXt)⟩
        ·
         go_wp2_with fail
         refine (fitsIn_c B46 (.slice u51 S47.length c52) (.slice u53 T48.length c54) S47 T48 (cells.length : Int) _ _ _ (i55.ext qXt) (i56.ext qXt) hB64.out).mono ?_
         rintro e w3 ⟨rfl, xw3⟩
         have Lw3 : Ext w2 w3 := Ext.trans qXt xw3
         have Xw3 : Ext w w3 := Xw2.trans Lw3
         replace b10 := Lw3.cell b10
         replace b11 := Lw3.cell b11
         replace x440 := Lw3.cell x440
         replace x441 := Lw3.cell x441
         replace x442 := Lw3.cell x442
         replace x443 := Lw3.cell x443
         replace x444 := Lw3.cell x444
         replace b630 := Lw3.cell b630
         replace b631 := Lw3.cell b631
         replace b632 := Lw3.cell b632
         replace b633 := Lw3.cell b633
         replace b634 := Lw3.cell b634
         have z_b1 : w.heap.size < w3.heap.size := qB b10
         have z_x44 : bl57 < w3.heap.size := qB x440
         have z_b63 : wr.heap.size < w3.heap.size := qB b630
         replace i55 := i55.ext Lw3
         replace i56 := i56.ext Lw3
         have s_w3 : w.heap.size ≤ w3.heap.size := Xw3.size
         have Bwr_w3 : Ext w1 w3 := Bwr_w2.trans Lw3
         clear xw3
         cases hB67 : fitB B46 S47 T48 (cells.length : Int)
         ·
          replace hB67 := Lib.hid hB67
          go_wp2_with fail
          go_ret
          exact ⟨by rw [show bufB cells es = false from by unfold bufB; rw [expsB_no hlt (by unfold expB inB; rw [hX50.out]; dsimp only; rw [hB64.out]; rw [hB67.out]; simp <;> omega)]; simp] <;> rfl, (Xw3.trans qXt)⟩
         ·
          replace hB67 := Lib.hid hB67
          have hq68 : ¬ ((0 : Int) ≤ (P45 : Int)) := (by have h7 := hpar; rw [hX50.out] at h7; dsimp only at h7; omega)
          go_wp2_with fail
          go_roundw
          case rel => exact ⟨k + 1, by omega, by go_num, Lib.hid (by rw [expsB_succ, ht.out, Bool.true_and]; exact (by unfold expB inB; rw [hX50.out]; dsimp only; rw [hB64.out]; rw [hB67.out]; simp <;> omega)), (Bwr_w3.trans qXt)⟩
          case measure => simp [intOf]; omega
    ·
     obtain rfl : k = es.length := by omega
     have hkI : ¬ (es.length : Int) < es.length := by omega
     go_wp2_with fail
     go_ret
     exact ⟨by rw [show bufB cells es = true from by unfold bufB; rw [hB2.out, ht.out, decide_eq_true (by omega)]; rfl] <;> rfl, (Xwr.trans qXt)⟩


end Go.Proofs.Ytgklaobfikbiiaa

/- Walks: valid buffers of the reference. -/
namespace Go.Proofs.Ytgklaobfikbiiaa
open Go.RowKit
set_option linter.unusedVariables false
set_option maxRecDepth 100000

set_option maxHeartbeats 3200000 in
theorem vexp_0 (cells : List Int) (es : List Exp) (cv ev : Value) (k : Nat) (w : World) (l1 l2 : Nat) (h1 : Ints w l1 cv cells) (h2 : Exps w l2 ev es) (hlt : k < es.length) (hpar : 0 ≤ (expAt es k).par) :
  Calls Try.prog 55 #[.agg #[cv, ev], .int .i64 (k : Int)] w (fun e w' => e = .returned (.bool (expB cells es k)) ∧ Ext w w') := by
 obtain ⟨p0, c0, rfl⟩ := h1.form
 obtain ⟨p1, c1, rfl⟩ := h2.form
 have he1 := h2.len
 have hc1 := h1.len
 go_enter Try.func55, Try.ntmps55
 have hN_x2 : k < es.length := (by omega)
 have hI_x2 : (k : Int) < (es.length : Int) := by omega
 obtain ⟨bl15, ol16, u9, c10, u11, c12, rfl, x20, x21, x22, x23, x24, i13, i14⟩ := h2.at k hN_x2
 obtain ⟨X8, hX8⟩ : ∃ x, expAt es k = x := ⟨_, rfl⟩
 rw [hX8] at x20 x21 x22 x23 x24 i13 i14
 have hpq_x2 := hpar
 rw [hX8] at hpq_x2
 obtain ⟨P3, B4, S5, T6, O7⟩ := X8
 dsimp only at x20 x21 x22 x23 x24 i13 i14 hpq_x2
 obtain ⟨q, rfl⟩ : ∃ q : Nat, P3 = (q : Int) := ⟨P3.toNat, by omega⟩
 clear hpq_x2
 replace hX8 := Lib.hid hX8
 have z_x2 : bl15 < w.heap.size := qB x20
 cases O7
 ·
  go_wp2_with fail
  refine (inRange_c (q : Int) (-1) ((k : Int) - 1) _).mono ?_
  rintro e w' ⟨rfl, rfl⟩
  cases hB18 : inB (-1) ((k : Int) - 1) (q : Int)
  ·
   replace hB18 := Lib.hid hB18
   go_wp2_with fail
   go_ret
   exact ⟨by rw [show expB cells es k = false from (by unfold expB; rw [hX8.out]; dsimp only; rw [hB18.out]; simp <;> omega)] <;> rfl, qXt⟩
  ·
   replace hB18 := Lib.hid hB18
   have hin7 : -1 ≤ (q : Int) ∧ (q : Int) ≤ (k : Int) - 1 := by have h7 := hB18.out; unfold inB at h7; simpa using h7
   go_wp2_with fail
   refine (validView_c B4 (.slice u9 S5.length c10) (.slice u11 T6.length c12) S5 T6 _ _ _ (i13.ext qXt) (i14.ext qXt)).mono ?_
   rintro e w1 ⟨rfl, xw1⟩
   have Lw1 : Ext w w1 := Ext.trans qXt xw1
   have Xw1 : Ext w w1 := Lw1
   have b10 : w1.cell? ⟨w.heap.size, 0, none⟩ = some (.slice p0 cells.length c0) := xw1.cell qCl
   have b11 : w1.cell? ⟨w.heap.size, 1, none⟩ = some (.slice (some ⟨bl15, ol16, none⟩) es.length c1) := xw1.cell qCl
   replace x20 := Lw1.cell x20
   replace x21 := Lw1.cell x21
   replace x22 := Lw1.cell x22
   replace x23 := Lw1.cell x23
   replace x24 := Lw1.cell x24
   have b170 : w1.cell? ⟨w.heap.size + 1, 0, none⟩ = some (.int .i64 (q : Int)) := xw1.cell qCl
   have b171 : w1.cell? ⟨w.heap.size + 1, 1, none⟩ = some (.int .i64 B4) := xw1.cell qCl
   have b172 : w1.cell? ⟨w.heap.size + 1, 2, none⟩ = some (.slice u9 S5.length c10) := xw1.cell qCl
   have b173 : w1.cell? ⟨w.heap.size + 1, 3, none⟩ = some (.slice u11 T6.length c12) := xw1.cell qCl
   have b174 : w1.cell? ⟨w.heap.size + 1, 4, none⟩ = some (.bool false) := xw1.cell qCl
   have z_b1 : w.heap.size < w1.heap.size := qB b10
   have z_x2 : bl15 < w1.heap.size := qB x20
   have z_b17 : w.heap.size + 1 < w1.heap.size := qB b170
   replace i13 := i13.ext Lw1
   replace i14 := i14.ext Lw1
   have s_w1 : w.heap.size ≤ w1.heap.size := Xw1.size
   clear xw1
   cases hB19 : viewB B4 S5 T6
   ·
    replace hB19 := Lib.hid hB19
    go_wp2_with fail
    go_ret
    exact ⟨by rw [show expB cells es k = false from (by unfold expB; rw [hX8.out]; dsimp only; rw [hB18.out]; rw [hB19.out]; simp <;> omega)] <;> rfl, (Xw1.trans qXt)⟩
   ·
    replace hB19 := Lib.hid hB19
    go_wp2_with fail
    go_ret
    exact ⟨by rw [show expB cells es k = true from (by unfold expB; rw [hX8.out]; dsimp only; rw [hB18.out]; rw [hB19.out]; simp <;> omega)] <;> rfl, (Xw1.trans qXt)⟩
 ·
  go_wp2_with fail
  refine (inRange_c (q : Int) (-1) ((k : Int) - 1) _).mono ?_
  rintro e w' ⟨rfl, rfl⟩
  cases hB21 : inB (-1) ((k : Int) - 1) (q : Int)
  ·
   replace hB21 := Lib.hid hB21
   go_wp2_with fail
   go_ret
   exact ⟨by rw [show expB cells es k = false from (by unfold expB; rw [hX8.out]; dsimp only; rw [hB21.out]; simp <;> omega)] <;> rfl, qXt⟩
  ·
   replace hB21 := Lib.hid hB21
   have hin7 : -1 ≤ (q : Int) ∧ (q : Int) ≤ (k : Int) - 1 := by have h7 := hB21.out; unfold inB at h7; simpa using h7
   go_wp2_with fail
   refine (validView_c B4 (.slice u9 S5.length c10) (.slice u11 T6.length c12) S5 T6 _ _ _ (i13.ext qXt) (i14.ext qXt)).mono ?_
   rintro e w1 ⟨rfl, xw1⟩
   have Lw1 : Ext w w1 := Ext.trans qXt xw1
   have Xw1 : Ext w w1 := Lw1
   have b10 : w1.cell? ⟨w.heap.size, 0, none⟩ = some (.slice p0 cells.length c0) := xw1.cell qCl
   have b11 : w1.cell? ⟨w.heap.size, 1, none⟩ = some (.slice (some ⟨bl15, ol16, none⟩) es.length c1) := xw1.cell qCl
   replace x20 := Lw1.cell x20
   replace x21 := Lw1.cell x21
   replace x22 := Lw1.cell x22
   replace x23 := Lw1.cell x23
   replace x24 := Lw1.cell x24
   have b200 : w1.cell? ⟨w.heap.size + 1, 0, none⟩ = some (.int .i64 (q : Int)) := xw1.cell qCl
   have b201 : w1.cell? ⟨w.heap.size + 1, 1, none⟩ = some (.int .i64 B4) := xw1.cell qCl
   have b202 : w1.cell? ⟨w.heap.size + 1, 2, none⟩ = some (.slice u9 S5.length c10) := xw1.cell qCl
   have b203 : w1.cell? ⟨w.heap.size + 1, 3, none⟩ = some (.slice u11 T6.length c12) := xw1.cell qCl
   have b204 : w1.cell? ⟨w.heap.size + 1, 4, none⟩ = some (.bool true) := xw1.cell qCl
   have z_b1 : w.heap.size < w1.heap.size := qB b10
   have z_x2 : bl15 < w1.heap.size := qB x20
   have z_b20 : w.heap.size + 1 < w1.heap.size := qB b200
   replace i13 := i13.ext Lw1
   replace i14 := i14.ext Lw1
   have s_w1 : w.heap.size ≤ w1.heap.size := Xw1.size
   clear xw1
   cases hB22 : viewB B4 S5 T6
   ·
    replace hB22 := Lib.hid hB22
    go_wp2_with fail
    go_ret
    exact ⟨by rw [show expB cells es k = false from (by unfold expB; rw [hX8.out]; dsimp only; rw [hB21.out]; rw [hB22.out]; simp <;> omega)] <;> rfl, (Xw1.trans qXt)⟩
   ·
    replace hB22 := Lib.hid hB22
    go_wp2_with fail
    refine (fits_c B4 (.slice u9 S5.length c10) (.slice u11 T6.length c12) S5 T6 (cells.length : Int) _ _ _ (i13.ext qXt) (i14.ext qXt) hB22.out (by first | omega | exact (vw hB22.out).1 | exact (vw hB22.out).2.1 | exact (vw hB22.out).2.2.1 | exact (vw hB22.out).2.2.2) (by first | omega | exact (vw hB22.out).1 | exact (vw hB22.out).2.1 | exact (vw hB22.out).2.2.1 | exact (vw hB22.out).2.2.2)).mono ?_
    rintro e w2 ⟨rfl, xw2⟩
    have Lw2 : Ext w1 w2 := Ext.trans qXt xw2
    have Xw2 : Ext w w2 := Xw1.trans Lw2
    replace b10 := Lw2.cell b10
    replace b11 := Lw2.cell b11
    replace x20 := Lw2.cell x20
    replace x21 := Lw2.cell x21
    replace x22 := Lw2.cell x22
    replace x23 := Lw2.cell x23
    replace x24 := Lw2.cell x24
    replace b200 := Lw2.cell b200
    replace b201 := Lw2.cell b201
    replace b202 := Lw2.cell b202
    replace b203 := Lw2.cell b203
    replace b204 := Lw2.cell b204
    have z_b1 : w.heap.size < w2.heap.size := qB b10
    have z_x2 : bl15 < w2.heap.size := qB x20
    have z_b20 : w.heap.size + 1 < w2.heap.size := qB b200
    replace i13 := i13.ext Lw2
    replace i14 := i14.ext Lw2
    have s_w2 : w.heap.size ≤ w2.heap.size := Xw2.size
    clear xw2
    cases hB23 : fitB B4 S5 T6 (cells.length : Int)
    ·
     replace hB23 := Lib.hid hB23
     go_wp2_with fail
     go_ret
     exact ⟨by rw [show expB cells es k = false from (by unfold expB; rw [hX8.out]; dsimp only; rw [hB21.out]; rw [hB22.out]; rw [hB23.out]; simp <;> omega)] <;> rfl, (Xw2.trans qXt)⟩
    ·
     replace hB23 := Lib.hid hB23
     have hq24 : ¬ ((q : Int) < (0 : Int)) := (by omega)
     have hN_x25 : q < es.length := (by omega)
     have hI_x25 : (q : Int) < (es.length : Int) := by omega
     obtain ⟨b_x25, o_x25, u32, c33, u34, c35, h_x25, x250, x251, x252, x253, x254, i36, i37⟩ := (h2.ext Xw2).at q hN_x25
     cases h_x25
     obtain ⟨X31, hX31⟩ : ∃ x, expAt es q = x := ⟨_, rfl⟩
     rw [hX31] at x250 x251 x252 x253 x254 i36 i37
     obtain ⟨P26, B27, S28, T29, O30⟩ := X31
     dsimp only at x250 x251 x252 x253 x254 i36 i37
     replace hX31 := Lib.hid hX31
     have z_x25 : bl15 < w2.heap.size := qB x250
     cases O30
     ·
      go_wp2_with fail
      go_ret
      exact ⟨by rw [show expB cells es k = false from (by unfold expB; rw [hX8.out]; dsimp only; rw [hB21.out]; rw [hB22.out]; rw [hB23.out]; simp [hX31.out] <;> omega)] <;> rfl, (Xw2.trans qXt)⟩
     ·
      go_wp2_with fail
      go_ret
      exact ⟨by rw [show expB cells es k = true from (by unfold expB; rw [hX8.out]; dsimp only; rw [hB21.out]; rw [hB22.out]; rw [hB23.out]; simp [hX31.out] <;> omega)] <;> rfl, (Xw2.trans qXt)⟩

set_option maxHeartbeats 3200000 in
theorem vexp_1 (cells : List Int) (es : List Exp) (cv ev : Value) (k : Nat) (w : World) (l1 l2 : Nat) (h1 : Ints w l1 cv cells) (h2 : Exps w l2 ev es) (hlt : k < es.length) (hpar : ¬ 0 ≤ (expAt es k).par) :
  Calls Try.prog 55 #[.agg #[cv, ev], .int .i64 (k : Int)] w (fun e w' => e = .returned (.bool (expB cells es k)) ∧ Ext w w') := by
 obtain ⟨p0, c0, rfl⟩ := h1.form
 obtain ⟨p1, c1, rfl⟩ := h2.form
 have he1 := h2.len
 have hc1 := h1.len
 go_enter Try.func55, Try.ntmps55
 have hN_x2 : k < es.length := (by omega)
 have hI_x2 : (k : Int) < (es.length : Int) := by omega
 obtain ⟨bl15, ol16, u9, c10, u11, c12, rfl, x20, x21, x22, x23, x24, i13, i14⟩ := h2.at k hN_x2
 obtain ⟨X8, hX8⟩ : ∃ x, expAt es k = x := ⟨_, rfl⟩
 rw [hX8] at x20 x21 x22 x23 x24 i13 i14
 obtain ⟨P3, B4, S5, T6, O7⟩ := X8
 dsimp only at x20 x21 x22 x23 x24 i13 i14
 replace hX8 := Lib.hid hX8
 have z_x2 : bl15 < w.heap.size := qB x20
 cases O7
 ·
  go_wp2_with fail
  refine (inRange_c P3 (-1) ((k : Int) - 1) _).mono ?_
  rintro e w' ⟨rfl, rfl⟩
  cases hB18 : inB (-1) ((k : Int) - 1) P3
  ·
   replace hB18 := Lib.hid hB18
   go_wp2_with fail
   go_ret
   exact ⟨by rw [show expB cells es k = false from (by unfold expB; rw [hX8.out]; dsimp only; rw [hB18.out]; simp <;> omega)] <;> rfl, qXt⟩
  ·
   replace hB18 := Lib.hid hB18
   have hin7 : -1 ≤ P3 ∧ P3 ≤ (k : Int) - 1 := by have h7 := hB18.out; unfold inB at h7; simpa using h7
   go_wp2_with fail
   refine (validView_c B4 (.slice u9 S5.length c10) (.slice u11 T6.length c12) S5 T6 _ _ _ (i13.ext qXt) (i14.ext qXt)).mono ?_
   rintro e w1 ⟨rfl, xw1⟩
   have Lw1 : Ext w w1 := Ext.trans qXt xw1
   have Xw1 : Ext w w1 := Lw1
   have b10 : w1.cell? ⟨w.heap.size, 0, none⟩ = some (.slice p0 cells.length c0) := xw1.cell qCl
   have b11 : w1.cell? ⟨w.heap.size, 1, none⟩ = some (.slice (some ⟨bl15, ol16, none⟩) es.length c1) := xw1.cell qCl
   replace x20 := Lw1.cell x20
   replace x21 := Lw1.cell x21
   replace x22 := Lw1.cell x22
   replace x23 := Lw1.cell x23
   replace x24 := Lw1.cell x24
   have b170 : w1.cell? ⟨w.heap.size + 1, 0, none⟩ = some (.int .i64 P3) := xw1.cell qCl
   have b171 : w1.cell? ⟨w.heap.size + 1, 1, none⟩ = some (.int .i64 B4) := xw1.cell qCl
   have b172 : w1.cell? ⟨w.heap.size + 1, 2, none⟩ = some (.slice u9 S5.length c10) := xw1.cell qCl
   have b173 : w1.cell? ⟨w.heap.size + 1, 3, none⟩ = some (.slice u11 T6.length c12) := xw1.cell qCl
   have b174 : w1.cell? ⟨w.heap.size + 1, 4, none⟩ = some (.bool false) := xw1.cell qCl
   have z_b1 : w.heap.size < w1.heap.size := qB b10
   have z_x2 : bl15 < w1.heap.size := qB x20
   have z_b17 : w.heap.size + 1 < w1.heap.size := qB b170
   replace i13 := i13.ext Lw1
   replace i14 := i14.ext Lw1
   have s_w1 : w.heap.size ≤ w1.heap.size := Xw1.size
   clear xw1
   cases hB19 : viewB B4 S5 T6
   ·
    replace hB19 := Lib.hid hB19
    go_wp2_with fail
    go_ret
    exact ⟨by rw [show expB cells es k = false from (by unfold expB; rw [hX8.out]; dsimp only; rw [hB18.out]; rw [hB19.out]; simp <;> omega)] <;> rfl, (Xw1.trans qXt)⟩
   ·
    replace hB19 := Lib.hid hB19
    go_wp2_with fail
    go_ret
    exact ⟨by rw [show expB cells es k = true from (by unfold expB; rw [hX8.out]; dsimp only; rw [hB18.out]; rw [hB19.out]; simp <;> omega)] <;> rfl, (Xw1.trans qXt)⟩
 ·
  go_wp2_with fail
  refine (inRange_c P3 (-1) ((k : Int) - 1) _).mono ?_
  rintro e w' ⟨rfl, rfl⟩
  cases hB21 : inB (-1) ((k : Int) - 1) P3
  ·
   replace hB21 := Lib.hid hB21
   go_wp2_with fail
   go_ret
   exact ⟨by rw [show expB cells es k = false from (by unfold expB; rw [hX8.out]; dsimp only; rw [hB21.out]; simp <;> omega)] <;> rfl, qXt⟩
  ·
   replace hB21 := Lib.hid hB21
   have hin7 : -1 ≤ P3 ∧ P3 ≤ (k : Int) - 1 := by have h7 := hB21.out; unfold inB at h7; simpa using h7
   go_wp2_with fail
   refine (validView_c B4 (.slice u9 S5.length c10) (.slice u11 T6.length c12) S5 T6 _ _ _ (i13.ext qXt) (i14.ext qXt)).mono ?_
   rintro e w1 ⟨rfl, xw1⟩
   have Lw1 : Ext w w1 := Ext.trans qXt xw1
   have Xw1 : Ext w w1 := Lw1
   have b10 : w1.cell? ⟨w.heap.size, 0, none⟩ = some (.slice p0 cells.length c0) := xw1.cell qCl
   have b11 : w1.cell? ⟨w.heap.size, 1, none⟩ = some (.slice (some ⟨bl15, ol16, none⟩) es.length c1) := xw1.cell qCl
   replace x20 := Lw1.cell x20
   replace x21 := Lw1.cell x21
   replace x22 := Lw1.cell x22
   replace x23 := Lw1.cell x23
   replace x24 := Lw1.cell x24
   have b200 : w1.cell? ⟨w.heap.size + 1, 0, none⟩ = some (.int .i64 P3) := xw1.cell qCl
   have b201 : w1.cell? ⟨w.heap.size + 1, 1, none⟩ = some (.int .i64 B4) := xw1.cell qCl
   have b202 : w1.cell? ⟨w.heap.size + 1, 2, none⟩ = some (.slice u9 S5.length c10) := xw1.cell qCl
   have b203 : w1.cell? ⟨w.heap.size + 1, 3, none⟩ = some (.slice u11 T6.length c12) := xw1.cell qCl
   have b204 : w1.cell? ⟨w.heap.size + 1, 4, none⟩ = some (.bool true) := xw1.cell qCl
   have z_b1 : w.heap.size < w1.heap.size := qB b10
   have z_x2 : bl15 < w1.heap.size := qB x20
   have z_b20 : w.heap.size + 1 < w1.heap.size := qB b200
   replace i13 := i13.ext Lw1
   replace i14 := i14.ext Lw1
   have s_w1 : w.heap.size ≤ w1.heap.size := Xw1.size
   clear xw1
   cases hB22 : viewB B4 S5 T6
   ·
    replace hB22 := Lib.hid hB22
    go_wp2_with fail
    go_ret
    exact ⟨by rw [show expB cells es k = false from (by unfold expB; rw [hX8.out]; dsimp only; rw [hB21.out]; rw [hB22.out]; simp <;> omega)] <;> rfl, (Xw1.trans qXt)⟩
   ·
    replace hB22 := Lib.hid hB22
    go_wp2_with fail
    refine (fits_c B4 (.slice u9 S5.length c10) (.slice u11 T6.length c12) S5 T6 (cells.length : Int) _ _ _ (i13.ext qXt) (i14.ext qXt) hB22.out (by first | omega | exact (vw hB22.out).1 | exact (vw hB22.out).2.1 | exact (vw hB22.out).2.2.1 | exact (vw hB22.out).2.2.2) (by first | omega | exact (vw hB22.out).1 | exact (vw hB22.out).2.1 | exact (vw hB22.out).2.2.1 | exact (vw hB22.out).2.2.2)).mono ?_
    rintro e w2 ⟨rfl, xw2⟩
    have Lw2 : Ext w1 w2 := Ext.trans qXt xw2
    have Xw2 : Ext w w2 := Xw1.trans Lw2
    replace b10 := Lw2.cell b10
    replace b11 := Lw2.cell b11
    replace x20 := Lw2.cell x20
    replace x21 := Lw2.cell x21
    replace x22 := Lw2.cell x22
    replace x23 := Lw2.cell x23
    replace x24 := Lw2.cell x24
    replace b200 := Lw2.cell b200
    replace b201 := Lw2.cell b201
    replace b202 := Lw2.cell b202
    replace b203 := Lw2.cell b203
    replace b204 := Lw2.cell b204
    have z_b1 : w.heap.size < w2.heap.size := qB b10
    have z_x2 : bl15 < w2.heap.size := qB x20
    have z_b20 : w.heap.size + 1 < w2.heap.size := qB b200
    replace i13 := i13.ext Lw2
    replace i14 := i14.ext Lw2
    have s_w2 : w.heap.size ≤ w2.heap.size := Xw2.size
    clear xw2
    cases hB23 : fitB B4 S5 T6 (cells.length : Int)
    ·
     replace hB23 := Lib.hid hB23
     go_wp2_with fail
     go_ret
     exact ⟨by rw [show expB cells es k = false from (by unfold expB; rw [hX8.out]; dsimp only; rw [hB21.out]; rw [hB22.out]; rw [hB23.out]; simp <;> omega)] <;> rfl, (Xw2.trans qXt)⟩
    ·
     replace hB23 := Lib.hid hB23
     have hq24 : (P3 : Int) < (0 : Int) := (by have h7 := hpar; rw [hX8.out] at h7; dsimp only at h7; omega)
     go_wp2_with fail
     go_ret
     exact ⟨by rw [show expB cells es k = true from (by unfold expB; rw [hX8.out]; dsimp only; rw [hB21.out]; rw [hB22.out]; rw [hB23.out]; simp <;> omega)] <;> rfl, (Xw2.trans qXt)⟩

set_option maxHeartbeats 1600000 in
theorem validExport_c (cells : List Int) (es : List Exp) (cv ev : Value) (k : Nat) (w : World) (l1 l2 : Nat) (h1 : Ints w l1 cv cells) (h2 : Exps w l2 ev es) (hlt : k < es.length) :
  Calls Try.prog 55 #[.agg #[cv, ev], .int .i64 (k : Int)] w (fun e w' => e = .returned (.bool (expB cells es k)) ∧ Ext w w') := by
 by_cases hpar : 0 ≤ (expAt es k).par
 ·
  exact vexp_0 cells es cv ev k w l1 l2 h1 h2 hlt hpar
 ·
  exact vexp_1 cells es cv ev k w l1 l2 h1 h2 hlt hpar

set_option maxHeartbeats 3200000 in
theorem validBuffer_c (cells : List Int) (es : List Exp) (cv ev : Value) (w : World) (l1 l2 : Nat) (h1 : Ints w l1 cv cells) (h2 : Exps w l2 ev es) :
  Calls Try.prog 36 #[.agg #[cv, ev]] w (fun e w' => e = .returned (.bool (bufB cells es)) ∧ Ext w w') := by
 obtain ⟨p0, c0, rfl⟩ := h1.form
 obtain ⟨p1, c1, rfl⟩ := h2.form
 have he1 := h2.len
 have hc1 := h1.len
 go_enter Try.func36, Try.ntmps36
 go_wp2_with fail
 generalize hW1 : w.alloc (.cells #[.slice p0 cells.length c0, .slice p1 es.length c1] 26) = w1 at *
 have Lw1 : Ext w w1 := by subst hW1; exact qXt
 have Xw1 : Ext w w1 := by subst hW1; exact Lw1
 have b10 : w1.cell? ⟨w.heap.size, 0, none⟩ = some (.slice p0 cells.length c0) := by subst hW1; exact qCl
 have b11 : w1.cell? ⟨w.heap.size, 1, none⟩ = some (.slice p1 es.length c1) := by subst hW1; exact qCl
 have z_b1 : w.heap.size < w1.heap.size := qB b10
 have s_w1 : w.heap.size ≤ w1.heap.size := Xw1.size
 clear hW1
 go_loopw [3] (fun i wr => ∃ (k : Nat), k ≤ es.length ∧ i = .int .i64 k ∧ Hid (expsB cells es k = true) ∧ Ext w1 wr) (fun i _ => es.length - (intOf i).toNat)
 case atStart => exact ⟨0, Nat.zero_le _, rfl, Lib.hid rfl, qXt⟩
 case round =>
  obtain ⟨k, hk, rfl, ht, Lwr⟩ := hrel
  have Xwr : Ext w wr := Xw1.trans Lwr
  have s_wr : w.heap.size ≤ wr.heap.size := Xwr.size
  have t_wr : w1.heap.size ≤ wr.heap.size := Lwr.size
  replace b10 := Lwr.cell b10
  replace b11 := Lwr.cell b11
  have z_b1 : w.heap.size < wr.heap.size := qB b10
  have Bwr : Ext w1 wr := Lwr
  by_cases hlt : k < es.length
  ·
   have hkI : (k : Int) < es.length := by omega
   go_wp2_with fail
   refine (validExport_c cells es (.slice p0 cells.length c0) (.slice p1 es.length c1) k _ _ _ (h1.ext (Xwr.trans qXt)) (h2.ext (Xwr.trans qXt)) hlt).mono ?_
   rintro e w2 ⟨rfl, xw2⟩
   have Lw2 : Ext wr w2 := Ext.trans qXt xw2
   have Xw2 : Ext w w2 := Xwr.trans Lw2
   replace b10 := Lw2.cell b10
   replace b11 := Lw2.cell b11
   have z_b1 : w.heap.size < w2.heap.size := qB b10
   have s_w2 : w.heap.size ≤ w2.heap.size := Xw2.size
   have Bwr_w2 : Ext w1 w2 := Bwr.trans Lw2
   clear xw2
   cases hB2 : expB cells es k
   ·
    replace hB2 := Lib.hid hB2
    go_wp2_with fail
    go_ret
    exact ⟨by rw [show bufB cells es = false from by unfold bufB; rw [expsB_no hlt hB2.out]; simp] <;> rfl, (Xw2.trans qXt)⟩
   ·
    replace hB2 := Lib.hid hB2
    go_wp2_with fail
    go_roundw
    case rel => exact ⟨k + 1, by omega, by go_num, Lib.hid (by rw [expsB_succ, ht.out, hB2.out]; rfl), (Bwr_w2.trans qXt)⟩
    case measure => simp [intOf]; omega
  ·
   obtain rfl : k = es.length := by omega
   have hkI : ¬ (es.length : Int) < es.length := by omega
   go_wp2_with fail
   refine (validMemory_c cells (.slice p0 cells.length c0) _ _ (h1.ext (Xwr.trans qXt))).mono ?_
   rintro e w' ⟨rfl, rfl⟩
   cases hB3 : memB cells
   ·
    replace hB3 := Lib.hid hB3
    go_wp2_with fail
    go_ret
    exact ⟨by rw [show bufB cells es = false from by unfold bufB; rw [hB3.out]; rfl] <;> rfl, (Xwr.trans qXt)⟩
   ·
    replace hB3 := Lib.hid hB3
    by_cases hc4 : (es.length : Int) ≤ (8 : Int)
    ·
     go_wp2_with fail
     go_ret
     exact ⟨by rw [show bufB cells es = true from by unfold bufB; rw [hB3.out, ht.out, decide_eq_true (by omega)]; rfl] <;> rfl, (Xwr.trans qXt)⟩
    ·
     go_wp2_with fail
     go_ret
     exact ⟨by rw [show bufB cells es = decide ((es.length : Int) ≤ 8) from by unfold bufB; rw [hB3.out, ht.out, Bool.and_true, Bool.true_and]; exact decide_eq_decide.2 (by omega)] <;> rfl, (Xwr.trans qXt)⟩


end Go.Proofs.Ytgklaobfikbiiaa

/- Walks: open exports. -/
namespace Go.Proofs.Ytgklaobfikbiiaa
open Go.RowKit
set_option linter.unusedVariables false
set_option maxRecDepth 100000


/-- is there an open export of the number i? -/
def opB (es : List Exp) (i : Int) : Bool := inB 0 ((es.length : Int) - 1) i && (expAt es i.toNat).op
theorem opB_out {es : List Exp} {i : Int} (h : ¬ (0 ≤ i ∧ i < es.length)) : opB es i = false := by unfold opB inB; rw [decide_eq_false (by omega)]; rfl
theorem opB_nat {es : List Exp} {k : Nat} (h : k < es.length) : opB es (k : Int) = (expAt es k).op := by unfold opB inB; rw [decide_eq_true (by omega), Int.toNat_natCast]; rfl

set_option maxHeartbeats 3200000 in
theorem implIsOpen_0 (cells : List Int) (es : List Exp) (cv ev : Value) (i : Int) (w : World) (l1 l2 : Nat) (h1 : Ints w l1 cv cells) (h2 : Exps w l2 ev es) (hio : ¬ (0 ≤ i ∧ i < es.length)) :
    Calls Try.prog 44 #[.agg #[cv, ev], .int .i64 i] w (fun e w' => e = .returned (.bool (bufB cells es && opB es i)) ∧ Ext w w') := by
  obtain ⟨p0, c0, rfl⟩ := h1.form
  obtain ⟨p1, c1, rfl⟩ := h2.form
  have he1 := h2.len
  have hc1 := h1.len
  go_enter Try.func44, Try.ntmps44
  go_wp2_with fail
  refine (isBuffer_c cells es (.slice p0 cells.length c0) (.slice p1 es.length c1) _ _ _ (h1.ext qXt) (h2.ext qXt)).mono ?_
  rintro e w1 ⟨rfl, xw1⟩
  have Lw1 : Ext w w1 := Ext.trans qXt xw1
  have Xw1 : Ext w w1 := Lw1
  have b10 : w1.cell? ⟨w.heap.size, 0, none⟩ = some (.slice p0 cells.length c0) := xw1.cell qCl
  have b11 : w1.cell? ⟨w.heap.size, 1, none⟩ = some (.slice p1 es.length c1) := xw1.cell qCl
  have z_b1 : w.heap.size < w1.heap.size := qB b10
  have s_w1 : w.heap.size ≤ w1.heap.size := Xw1.size
  clear xw1
  cases hB2 : bufB cells es
  · replace hB2 := Lib.hid hB2
    go_wp2_with fail
    go_ret
    exact ⟨by rw [show (bufB cells es && opB es i) = false from by rw [hB2.out]; rfl] <;> rfl, (Xw1.trans qXt)⟩
  · replace hB2 := Lib.hid hB2
    by_cases hc3 : (0 : Int) ≤ (i : Int)
    · have hq4 : ¬ ((i : Int) < (es.length : Int)) := (by omega)
      go_wp2_with fail
      go_ret
      exact ⟨by rw [show (bufB cells es && opB es i) = false from by rw [opB_out hio]; simp] <;> rfl, (Xw1.trans qXt)⟩
    · go_wp2_with fail
      go_ret
      exact ⟨by rw [show (bufB cells es && opB es i) = false from by rw [opB_out hio]; simp] <;> rfl, (Xw1.trans qXt)⟩

set_option maxHeartbeats 3200000 in
theorem implIsOpen_1 (cells : List Int) (es : List Exp) (cv ev : Value) (k : Nat) (w : World) (l1 l2 : Nat) (h1 : Ints w l1 cv cells) (h2 : Exps w l2 ev es) (hlt : k < es.length) :
    Calls Try.prog 44 #[.agg #[cv, ev], .int .i64 (k : Int)] w (fun e w' => e = .returned (.bool (bufB cells es && opB es (k : Int))) ∧ Ext w w') := by
  obtain ⟨p0, c0, rfl⟩ := h1.form
  obtain ⟨p1, c1, rfl⟩ := h2.form
  have he1 := h2.len
  have hc1 := h1.len
  go_enter Try.func44, Try.ntmps44
  go_wp2_with fail
  refine (isBuffer_c cells es (.slice p0 cells.length c0) (.slice p1 es.length c1) _ _ _ (h1.ext qXt) (h2.ext qXt)).mono ?_
  rintro e w1 ⟨rfl, xw1⟩
  have Lw1 : Ext w w1 := Ext.trans qXt xw1
  have Xw1 : Ext w w1 := Lw1
  have b10 : w1.cell? ⟨w.heap.size, 0, none⟩ = some (.slice p0 cells.length c0) := xw1.cell qCl
  have b11 : w1.cell? ⟨w.heap.size, 1, none⟩ = some (.slice p1 es.length c1) := xw1.cell qCl
  have z_b1 : w.heap.size < w1.heap.size := qB b10
  have s_w1 : w.heap.size ≤ w1.heap.size := Xw1.size
  clear xw1
  cases hB2 : bufB cells es
  · replace hB2 := Lib.hid hB2
    go_wp2_with fail
    go_ret
    exact ⟨by rw [show (bufB cells es && opB es (k : Int)) = false from by rw [hB2.out]; rfl] <;> rfl, (Xw1.trans qXt)⟩
  · replace hB2 := Lib.hid hB2
    have hq3 : (0 : Int) ≤ (k : Int) := (by omega)
    have hq4 : (k : Int) < (es.length : Int) := (by omega)
    have hN_x5 : k < es.length := hlt
    have hI_x5 : (k : Int) < (es.length : Int) := by omega
    obtain ⟨bl18, ol19, u12, c13, u14, c15, rfl, x50, x51, x52, x53, x54, i16, i17⟩ := (h2.ext Xw1).at k hN_x5
    obtain ⟨X11, hX11⟩ : ∃ x, expAt es k = x := ⟨_, rfl⟩
    rw [hX11] at x50 x51 x52 x53 x54 i16 i17
    obtain ⟨P6, B7, S8, T9, O10⟩ := X11
    dsimp only at x50 x51 x52 x53 x54 i16 i17
    replace hX11 := Lib.hid hX11
    have z_x5 : bl18 < w1.heap.size := qB x50
    cases O10
    · go_wp2_with fail
      go_ret
      exact ⟨by rw [show (bufB cells es && opB es (k : Int)) = false from by rw [opB_nat hlt, hX11.out, hB2.out]; rfl] <;> rfl, (Xw1.trans qXt)⟩
    · go_wp2_with fail
      go_ret
      exact ⟨by rw [show (bufB cells es && opB es (k : Int)) = true from by rw [opB_nat hlt, hX11.out, hB2.out]; rfl] <;> rfl, (Xw1.trans qXt)⟩

set_option maxHeartbeats 1600000 in
theorem implIsOpen_c (cells : List Int) (es : List Exp) (cv ev : Value) (i : Int) (w : World) (l1 l2 : Nat) (h1 : Ints w l1 cv cells) (h2 : Exps w l2 ev es) :
    Calls Try.prog 44 #[.agg #[cv, ev], .int .i64 i] w (fun e w' => e = .returned (.bool (bufB cells es && opB es i)) ∧ Ext w w') := by
  by_cases h : 0 ≤ i ∧ i < es.length
  · obtain ⟨k, rfl⟩ : ∃ k : Nat, i = k := ⟨i.toNat, by omega⟩
    exact implIsOpen_1 cells es cv ev k w l1 l2 h1 h2 (by omega)
  · exact implIsOpen_0 cells es cv ev i w l1 l2 h1 h2 h

set_option maxHeartbeats 3200000 in
theorem specIsOpen_0 (cells : List Int) (es : List Exp) (cv ev : Value) (i : Int) (w : World) (l1 l2 : Nat) (h1 : Ints w l1 cv cells) (h2 : Exps w l2 ev es) (hio : ¬ (0 ≤ i ∧ i < es.length)) :
    Calls Try.prog 47 #[.agg #[cv, ev], .int .i64 i] w (fun e w' => e = .returned (.bool (opB es i)) ∧ Ext w w') := by
  obtain ⟨p0, c0, rfl⟩ := h1.form
  obtain ⟨p1, c1, rfl⟩ := h2.form
  have he1 := h2.len
  have hc1 := h1.len
  have hin : Hid (inB 0 ((es.length : Int) - 1) i = false) := Lib.hid (by unfold inB; simp; omega)
  go_enter Try.func47, Try.ntmps47
  go_wp2_with fail
  refine (inRange_c i 0 ((es.length : Int) - 1) _).mono ?_
  rintro e w' ⟨rfl, rfl⟩
  rw [hin.out]
  go_wp2_with fail
  go_ret
  exact ⟨by rw [show opB es i = false from opB_out hio] <;> rfl, qXt⟩

set_option maxHeartbeats 3200000 in
theorem specIsOpen_1 (cells : List Int) (es : List Exp) (cv ev : Value) (k : Nat) (w : World) (l1 l2 : Nat) (h1 : Ints w l1 cv cells) (h2 : Exps w l2 ev es) (hlt : k < es.length) :
    Calls Try.prog 47 #[.agg #[cv, ev], .int .i64 (k : Int)] w (fun e w' => e = .returned (.bool (opB es (k : Int))) ∧ Ext w w') := by
  obtain ⟨p0, c0, rfl⟩ := h1.form
  obtain ⟨p1, c1, rfl⟩ := h2.form
  have he1 := h2.len
  have hc1 := h1.len
  have hin : Hid (inB 0 ((es.length : Int) - 1) (k : Int) = true) := Lib.hid (by unfold inB; simp; omega)
  go_enter Try.func47, Try.ntmps47
  go_wp2_with fail
  refine (inRange_c (k : Int) 0 ((es.length : Int) - 1) _).mono ?_
  rintro e w' ⟨rfl, rfl⟩
  rw [hin.out]
  have hN_x2 : k < es.length := hlt
  have hI_x2 : (k : Int) < (es.length : Int) := by omega
  obtain ⟨bl15, ol16, u9, c10, u11, c12, rfl, x20, x21, x22, x23, x24, i13, i14⟩ := h2.at k hN_x2
  obtain ⟨X8, hX8⟩ : ∃ x, expAt es k = x := ⟨_, rfl⟩
  rw [hX8] at x20 x21 x22 x23 x24 i13 i14
  obtain ⟨P3, B4, S5, T6, O7⟩ := X8
  dsimp only at x20 x21 x22 x23 x24 i13 i14
  replace hX8 := Lib.hid hX8
  have z_x2 : bl15 < w.heap.size := qB x20
  cases O7
  · go_wp2_with fail
    go_ret
    exact ⟨by rw [show opB es (k : Int) = false from by rw [opB_nat hlt, hX8.out]] <;> rfl, qXt⟩
  · go_wp2_with fail
    go_ret
    exact ⟨by rw [show opB es (k : Int) = true from by rw [opB_nat hlt, hX8.out]] <;> rfl, qXt⟩

set_option maxHeartbeats 1600000 in
theorem specIsOpen_c (cells : List Int) (es : List Exp) (cv ev : Value) (i : Int) (w : World) (l1 l2 : Nat) (h1 : Ints w l1 cv cells) (h2 : Exps w l2 ev es) :
    Calls Try.prog 47 #[.agg #[cv, ev], .int .i64 i] w (fun e w' => e = .returned (.bool (opB es i)) ∧ Ext w w') := by
  by_cases h : 0 ≤ i ∧ i < es.length
  · obtain ⟨k, rfl⟩ : ∃ k : Nat, i = k := ⟨i.toNat, by omega⟩
    exact specIsOpen_1 cells es cv ev k w l1 l2 h1 h2 (by omega)
  · exact specIsOpen_0 cells es cv ev i w l1 l2 h1 h2 h


end Go.Proofs.Ytgklaobfikbiiaa

/- Walks: OffsetsOf and IsRow of the program and of the reference. -/
namespace Go.Proofs.Ytgklaobfikbiiaa
open Go.RowKit
set_option linter.unusedVariables false
set_option maxRecDepth 100000


def offA (b : Int) (s t : List Int) : List Int := if viewB b s t then offsL b s t else []
end Go.Proofs.Ytgklaobfikbiiaa

/- Walks: rowStrides of the program. -/
namespace Go.Proofs.Ytgklaobfikbiiaa
open Go.RowKit
set_option linter.unusedVariables false
set_option maxRecDepth 100000

theorem rowS_at (xs : List Int) (j : Nat) (h : j < xs.length) : ((rowS xs).take j ++ List.replicate (xs.length - j) 0).set j (prodL (xs.drop (j+1))) = (rowS xs).take (j+1) ++ List.replicate (xs.length - (j+1)) 0 := by
  have hl := rowS_len xs
  have hg : (rowS xs)[j]'(by omega) = prodL (xs.drop (j+1)) := by
    induction xs generalizing j with
    | nil => simp at h
    | cons x xs ih =>
      cases j with
      | zero => rfl
      | succ j => simpa [rowS] using ih j (by simpa using h) (rowS_len xs)
  have e : xs.length - j = (xs.length - (j+1)) + 1 := by omega
  have ht : ((rowS xs).take j).length = j := by simp; omega
  rw [e, List.replicate_succ, List.set_append_right _ _ (by omega), ht, Nat.sub_self, List.set_cons_zero, List.take_succ_eq_append_getElem (by omega), hg]
  simp

end Go.Proofs.Ytgklaobfikbiiaa

/- Helpers of the laws: equal lists, equal views, a number in a list. -/
namespace Go.Proofs.Ytgklaobfikbiiaa
open Go.RowKit
set_option linter.unusedVariables false
set_option maxRecDepth 100000



set_option maxHeartbeats 1600000 in
theorem leqInts_c (xs : List Int) (a b : Value) (w : World) (la lb : Nat) (ha : Ints w la a xs) (hb : Ints w lb b xs) :
    Calls Try.prog 17 #[a, b] w fun e w' => e = .returned (.bool true) ∧ Ext w w' := by
  obtain ⟨a1, cap1, rfl, _, _, ⟨hlen, _⟩, hc1⟩ := ha
  obtain ⟨a2, cap2, rfl, _, _, ⟨hlen2, _⟩, hc2⟩ := hb
  go_enter Try.func17, Try.ntmps17
  go_wp2_with fail
  go_loopw [5] (fun i wr => ∃ k m : Nat, k ≤ xs.length ∧ i = .int .i64 k ∧ wr = w.drewN m) (fun i _ => xs.length - (intOf i).toNat)
  case atStart => exact ⟨0, 0, Nat.zero_le _, rfl, rfl⟩
  case round =>
    obtain ⟨k, m, hk, rfl, rfl⟩ := hrel
    by_cases hlt : k < xs.length
    · obtain ⟨b1, off1, rfl, _, hcell1, _⟩ := hc1 k hlt
      obtain ⟨b2, off2, rfl, _, hcell2, _⟩ := hc2 k hlt
      have hk4 : (k : Int) < xs.length := by omega
      clear hc1 hc2
      generalize xs.getD k 0 = x at *
      go_wp2_with fail
      go_quiet (fail)
      go_wp2_with fail
      go_roundw
      case rel => exact ⟨k+1, _, by omega, by go_num, rfl⟩
      case measure => simp [intOf]; omega
    · obtain rfl : k = xs.length := by omega
      go_wp2_with fail
      go_ret
      exact ⟨rfl, qXo⟩

set_option maxHeartbeats 1600000 in
theorem isIn_c (xs : List Int) (n : Int) (a : Value) (w : World) (la : Nat) (ha : Ints w la a xs) :
    Calls Try.prog 24 #[a, .int .i64 n] w fun e w' => e = .returned (.bool (decide (n ∈ xs))) ∧ Ext w w' := by
  obtain ⟨a1, cap1, rfl, _, _, ⟨hlen, _⟩, hc1⟩ := ha
  go_enter Try.func24, Try.ntmps24
  go_wp2_with fail
  go_loopw [5] (fun i wr => ∃ k m : Nat, k ≤ xs.length ∧ i = .int .i64 k ∧ wr = w.drewN m ∧ Hid (n ∉ xs.take k)) (fun i _ => xs.length - (intOf i).toNat)
  case atStart => exact ⟨0, 0, Nat.zero_le _, rfl, rfl, Lib.hid (by simp)⟩
  case round =>
    obtain ⟨k, m, hk, rfl, rfl, ht⟩ := hrel
    by_cases hlt : k < xs.length
    · obtain ⟨b1, off1, rfl, _, hcell1, _⟩ := hc1 k hlt
      have hk4 : (k : Int) < xs.length := by omega
      have hg := Lib.hid (show xs.getD k 0 ∈ xs by simp [hlt])
      have hs := Lib.hid (show xs.take (k+1) = xs.take k ++ [xs.getD k 0] by rw [List.take_succ_eq_append_getElem hlt]; simp [hlt])
      clear hc1
      generalize xs.getD k 0 = x at *
      by_cases hx : x = n
      · have hq : (x == n) = true := by simpa using hx
        have hn := Lib.hid (show decide (n ∈ xs) = true by rw [← hx]; simpa using hg.out)
        replace hx := Lib.hid hx
        go_wp2_with fail
        go_ret
        exact ⟨by rw [hn.out] <;> rfl, qXo⟩
      · have hq : (x == n) = false := by simpa using hx
        have hn := Lib.hid (show n ∉ xs.take (k+1) by rw [hs.out]; simp only [List.mem_append, List.mem_singleton, not_or]; exact ⟨ht.out, fun h => hx h.symm⟩)
        replace hx := Lib.hid hx
        go_wp2_with fail
        go_roundw
        case rel => exact ⟨k+1, _, by omega, by go_num, rfl, hn⟩
        case measure => simp [intOf]; omega
    · obtain rfl : k = xs.length := by omega
      have hn := Lib.hid (show decide (n ∈ xs) = false by have := ht.out; rw [List.take_length] at this; simpa using this)
      go_wp2_with fail
      go_ret
      exact ⟨by rw [hn.out] <;> rfl, qXo⟩

set_option maxHeartbeats 1600000 in
theorem leqView_c (b1 : Int) (u1 v1 u2 v2 : Value) (s1 t1 : List Int) (w : World) (l1 m1 l2 m2 : Nat) (h1 : Ints w l1 u1 s1) (k1 : Ints w m1 v1 t1) (h2 : Ints w l2 u2 s1) (k2 : Ints w m2 v2 t1) :
    Calls Try.prog 43 #[.agg #[.int .i64 b1, u1, v1], .agg #[.int .i64 b1, u2, v2]] w fun e w' => e = .returned (.bool true) ∧ Ext w w' := by
  obtain ⟨a1, cp1, rfl⟩ := h1.form
  obtain ⟨a2, cp2, rfl⟩ := k1.form
  obtain ⟨a3, cp3, rfl⟩ := h2.form
  obtain ⟨a4, cp4, rfl⟩ := k2.form
  go_enter Try.func43, Try.ntmps43
  go_wp2_with fail
  refine (leqInts_c s1 _ _ _ l1 l2 (h1.ext qXt) (h2.ext qXt)).mono ?_
  rintro e w1 ⟨rfl, xw1⟩
  have Lw1 : Ext w w1 := Ext.trans qXt xw1
  have Xw1 : Ext w w1 := Lw1
  have va0 : w1.cell? ⟨w.heap.size, 0, none⟩ = some (.int .i64 b1) := xw1.cell qCl
  have va1 : w1.cell? ⟨w.heap.size, 1, none⟩ = some (.slice a1 s1.length cp1) := xw1.cell qCl
  have va2 : w1.cell? ⟨w.heap.size, 2, none⟩ = some (.slice a2 t1.length cp2) := xw1.cell qCl
  have vb0 : w1.cell? ⟨w.heap.size + 1, 0, none⟩ = some (.int .i64 b1) := xw1.cell qCl
  have vb1 : w1.cell? ⟨w.heap.size + 1, 1, none⟩ = some (.slice a3 s1.length cp3) := xw1.cell qCl
  have vb2 : w1.cell? ⟨w.heap.size + 1, 2, none⟩ = some (.slice a4 t1.length cp4) := xw1.cell qCl
  have z_va : w.heap.size < w1.heap.size := qB va0
  have z_vb : w.heap.size + 1 < w1.heap.size := qB vb0
  have s_w1 : w.heap.size ≤ w1.heap.size := Xw1.size
  clear xw1
  go_wp2_with fail
  refine (leqInts_c t1 _ _ _ m1 m2 (k1.ext (Xw1.trans qXt)) (k2.ext (Xw1.trans qXt))).mono ?_
  rintro e w2 ⟨rfl, xw2⟩
  have Lw2 : Ext w1 w2 := Ext.trans qXt xw2
  have Xw2 : Ext w w2 := Xw1.trans Lw2
  replace va0 := Lw2.cell va0
  replace va1 := Lw2.cell va1
  replace va2 := Lw2.cell va2
  replace vb0 := Lw2.cell vb0
  replace vb1 := Lw2.cell vb1
  replace vb2 := Lw2.cell vb2
  have z_va : w.heap.size < w2.heap.size := qB va0
  have z_vb : w.heap.size + 1 < w2.heap.size := qB vb0
  have s_w2 : w.heap.size ≤ w2.heap.size := Xw2.size
  clear xw2
  go_wp2_with fail
  go_ret
  exact ⟨rfl, Xw2.trans qXt⟩

end Go.Proofs.Ytgklaobfikbiiaa

/- Walks: helpers of the laws. -/
namespace Go.Proofs.Ytgklaobfikbiiaa
open Go.RowKit
set_option linter.unusedVariables false
set_option maxRecDepth 100000

theorem back_take (xs : List Int) (k : Nat) (h : k < xs.length) : (xs.drop k).reverse = (xs.drop (k+1)).reverse ++ [xs.getD k 0] := by
  rw [List.drop_eq_getElem_cons h, List.reverse_cons]; simp [h]
/-- the sum of numbers -/
def sumL (xs : List Int) : Int := xs.foldl (· + ·) 0
theorem sumL_take (xs : List Int) (k : Nat) (h : k < xs.length) : sumL (xs.take (k+1)) = sumL (xs.take k) + xs.getD k 0 := by
  unfold sumL; rw [List.take_succ_eq_append_getElem h, List.foldl_append]; simp [h]
theorem sumL_bd (xs : List Int) (h : ∀ x ∈ xs, -1000000 ≤ x ∧ x ≤ 1000000) : -(1000000 * (xs.length : Int)) ≤ sumL xs ∧ sumL xs ≤ 1000000 * (xs.length : Int) := by
  have key : ∀ (ys : List Int) (a : Int), (∀ x ∈ ys, -1000000 ≤ x ∧ x ≤ 1000000) → a - 1000000 * (ys.length : Int) ≤ ys.foldl (· + ·) a ∧ ys.foldl (· + ·) a ≤ a + 1000000 * (ys.length : Int) := by
    intro ys
    induction ys with
    | nil => intro a _; simp
    | cons y r ih =>
      intro a hy
      have h1 := hy y (by simp)
      have h2 := ih (a + y) (fun x hx => hy x (by simp [hx]))
      simp only [List.foldl_cons, List.length_cons]
      omega
  have := key xs 0 h
  unfold sumL; omega
theorem leqInts_e (xs ys : List Int) (a b : Value) (w : World) (la lb : Nat) (ha : Ints w la a xs) (hb : Ints w lb b ys) (he : xs = ys) :
    Calls Try.prog 17 #[a, b] w fun e w' => e = .returned (.bool true) ∧ Ext w w' := by
  subst he; exact leqInts_c xs a b w la lb ha hb
theorem leqView_e (b1 b2 : Int) (u1 v1 u2 v2 : Value) (s1 t1 s2 t2 : List Int) (w : World) (l1 m1 l2 m2 : Nat) (h1 : Ints w l1 u1 s1) (k1 : Ints w m1 v1 t1) (h2 : Ints w l2 u2 s2) (k2 : Ints w m2 v2 t2) (he : b1 = b2 ∧ s1 = s2 ∧ t1 = t2) :
    Calls Try.prog 43 #[.agg #[.int .i64 b1, u1, v1], .agg #[.int .i64 b2, u2, v2]] w fun e w' => e = .returned (.bool true) ∧ Ext w w' := by
  obtain ⟨rfl, rfl, rfl⟩ := he; exact leqView_c b1 u1 v1 u2 v2 s1 t1 w l1 m1 l2 m2 h1 k1 h2 k2

end Go.Proofs.Ytgklaobfikbiiaa

/- Walks: LoadView of the program and of the reference. -/
namespace Go.Proofs.Ytgklaobfikbiiaa
open Go.RowKit
set_option linter.unusedVariables false
set_option maxRecDepth 100000


def loadA (mem : List Int) (b : Int) (s t : List Int) : List Int := if holdB mem b s t then loadL mem b s t else []
theorem PInts.no {w w' : World} (h : Ext w w') : PInts w [] (.returned (.slice none 0 0)) w' :=
  ⟨_, rfl, Ints.nil _ _ _ _ (by simp) (fun _ => rfl), .inl ⟨rfl, none, 0, rfl, by simp, fun _ => rfl⟩, h⟩

set_option maxHeartbeats 1600000 in
theorem implLoadView_c (mem : List Int) (a0 : Value) (b1 : Int) (u1 v1 : Value) (s1 t1 : List Int) (w : World) (l0 l1 m1 : Nat) (h0 : Ints w l0 a0 mem) (h1 : Ints w l1 u1 s1) (k1 : Ints w m1 v1 t1) :
    Calls Try.prog 25 #[a0, .agg #[.int .i64 b1, u1, v1]] w (PInts w (loadA mem b1 s1 t1)) := by
  obtain ⟨p0, c0, rfl⟩ := h0.form
  obtain ⟨p1, c1, rfl⟩ := h1.form
  obtain ⟨p2, c2, rfl⟩ := k1.form
  go_enter Try.func25, Try.ntmps25
  go_wp2_with fail
  refine (canHold_c mem (.slice p0 mem.length c0) b1 (.slice p1 s1.length c1) (.slice p2 t1.length c2) s1 t1 _ _ _ _ (h0.ext qXt) (h1.ext qXt) (k1.ext qXt)).mono ?_
  rintro e w1 ⟨rfl, xw1⟩
  have Lw1 : Ext w w1 := Ext.trans qXt xw1
  have Xw1 : Ext w w1 := Lw1
  have b10 : w1.cell? ⟨w.heap.size, 0, none⟩ = some (.int .i64 b1) := xw1.cell qCl
  have b11 : w1.cell? ⟨w.heap.size, 1, none⟩ = some (.slice p1 s1.length c1) := xw1.cell qCl
  have b12 : w1.cell? ⟨w.heap.size, 2, none⟩ = some (.slice p2 t1.length c2) := xw1.cell qCl
  have z_b1 : w.heap.size < w1.heap.size := qB b10
  have s_w1 : w.heap.size ≤ w1.heap.size := Xw1.size
  clear xw1
  cases hB2 : holdB mem b1 s1 t1
  · replace hB2 := Lib.hid hB2
    go_wp2_with fail
    go_ret
    rw [show loadA mem b1 s1 t1 = [] by unfold loadA; rw [hB2.out]; rfl]
    exact PInts.no (Xw1.trans qXt)
  · replace hB2 := Lib.hid hB2
    go_wp2_with fail
    refine (loadView_c mem (.slice p0 mem.length c0) b1 (.slice p1 s1.length c1) (.slice p2 t1.length c2) s1 t1 _ _ _ _ (h0.ext (Xw1.trans qXt)) (h1.ext (Xw1.trans qXt)) (k1.ext (Xw1.trans qXt)) hB2.out).mono ?_
    rintro e w2 ⟨fv3, rfl, i4, i4z, xw2⟩
    have Lw2 : Ext w1 w2 := Ext.trans qXt xw2
    have Xw2 : Ext w w2 := Xw1.trans Lw2
    replace b10 := Lw2.cell b10
    replace b11 := Lw2.cell b11
    replace b12 := Lw2.cell b12
    have z_b1 : w.heap.size < w2.heap.size := qB b10
    have s_w2 : w.heap.size ≤ w2.heap.size := Xw2.size
    clear xw2
    obtain ⟨afv3, cfv3, rfl⟩ := i4.form
    go_wp2_with fail
    go_ret
    rw [show loadA mem b1 s1 t1 = loadL mem b1 s1 t1 by unfold loadA; rw [hB2.out]; rfl]
    exact ⟨_, rfl, i4.lower (by omega), i4z.lower (by omega), Xw2⟩

end Go.Proofs.Ytgklaobfikbiiaa

/- Plain laws on memories: what is stored last stays, what is added, sums. -/
namespace Go.Proofs.Ytgklaobfikbiiaa
open Go.RowKit
set_option linter.unusedVariables false
set_option maxRecDepth 100000

theorem getD_set (m : List Int) (a : Nat) (x : Int) (b : Nat) : (m.set a x).getD b 0 = if a = b ∧ b < m.length then x else m.getD b 0 := by
  simp only [List.getD_eq_getElem?_getD, List.getElem?_set]
  by_cases h : a = b
  · subst h
    by_cases h2 : a < m.length
    · rw [if_pos rfl, if_pos h2, if_pos ⟨rfl, h2⟩]; rfl
    · rw [if_pos rfl, if_neg h2, if_neg (fun h => h2 h.2), List.getElem?_eq_none (by omega)]
  · rw [if_neg h, if_neg (fun h' => h h'.1)]

/-- the last value of a cell stays -/
theorem put_last (mem ix vs : List Int) (hix : ∀ x ∈ ix, 0 ≤ x ∧ x < mem.length) (i : Nat) (hi : i < ix.length) (hno : (ix.drop (i+1)).contains (ix.getD i 0) = false) :
    (putL mem ix vs).getD (ix.getD i 0).toNat 0 = vs.getD i 0 := by
  have key : ∀ k, i < k → k ≤ ix.length → (putUp mem ix vs k).getD (ix.getD i 0).toNat 0 = vs.getD i 0 := by
    intro k
    induction k with
    | zero => intro h; omega
    | succ k ih =>
      intro h1 h2
      rw [putUp_succ, getD_set, putUp_len]
      have hxi := hix (ix.getD i 0) (by have : ix.getD i 0 = ix[i] := by simp [hi]
                                        rw [this]; exact List.getElem_mem hi)
      by_cases hk : k = i
      · subst hk; rw [if_pos ⟨rfl, by omega⟩]
      · have hxk := hix (ix.getD k 0) (by have : ix.getD k 0 = ix[k] := by simp [show k < ix.length by omega]
                                          rw [this]; exact List.getElem_mem _)
        rw [if_neg, ih (by omega) (by omega)]
        rintro ⟨h3, _⟩
        have h4 : ix.getD k 0 = ix.getD i 0 := by omega
        have : (ix.drop (i+1)).contains (ix.getD i 0) = true := by
          rw [List.contains_iff_mem, ← h4, List.mem_iff_getElem]
          exact ⟨k - (i+1), by simp; omega, by simp [show i + 1 + (k - (i + 1)) = k by omega, show k < ix.length by omega]⟩
        rw [this] at hno; cases hno
  exact key ix.length hi (Nat.le_refl _)

/-- additions one by one -/
def addUp (mem ix vs : List Int) (k : Nat) : List Int := (List.range k).foldl (fun m i => m.set (ix.getD i 0).toNat ((m.getD (ix.getD i 0).toNat 0 + vs.getD i 0) % 256)) mem
theorem addUp_succ (mem ix vs : List Int) (k : Nat) : addUp mem ix vs (k+1) = (addUp mem ix vs k).set (ix.getD k 0).toNat (((addUp mem ix vs k).getD (ix.getD k 0).toNat 0 + vs.getD k 0) % 256) := by
  unfold addUp; rw [List.range_succ, List.foldl_append]; rfl
theorem addUp_len (mem ix vs : List Int) (k : Nat) : (addUp mem ix vs k).length = mem.length := by
  induction k with
  | zero => rfl
  | succ k ih => rw [addUp_succ, List.length_set, ih]
def addL (mem ix vs : List Int) : List Int := addUp mem ix vs ix.length
/-- what is added to a cell by the first k -/
def sumAt (ix vs : List Int) (x : Int) : Nat → Int
  | 0 => 0
  | k+1 => sumAt ix vs x k + if ix.getD k 0 = x then vs.getD k 0 else 0
theorem addUp_get (mem ix vs : List Int) (hm : ∀ y ∈ mem, 0 ≤ y ∧ y ≤ 255) (hix : ∀ x ∈ ix, 0 ≤ x ∧ x < mem.length) (x : Nat) (hx : x < mem.length) : ∀ k, k ≤ ix.length → (addUp mem ix vs k).getD x 0 = (mem.getD x 0 + sumAt ix vs x k) % 256 := by
  intro k
  induction k with
  | zero =>
    intro _
    have := hm (mem.getD x 0) (by have : mem.getD x 0 = mem[x] := by simp [hx]
                                  rw [this]; exact List.getElem_mem hx)
    simp only [sumAt, Int.add_zero]
    rw [Int.emod_eq_of_lt (by omega) (by omega)]; rfl
  | succ k ih =>
    intro hk
    have h := ih (by omega)
    have hxk := hix (ix.getD k 0) (by have : ix.getD k 0 = ix[k] := by simp [show k < ix.length by omega]
                                      rw [this]; exact List.getElem_mem _)
    rw [addUp_succ, getD_set, addUp_len, sumAt]
    by_cases he : ix.getD k 0 = (x : Int)
    · rw [if_pos ⟨by omega, hx⟩, if_pos he, he, Int.toNat_natCast, h]
      rw [← Int.add_assoc]
      exact Int.emod_add_emod _ _ _
    · rw [if_neg (fun h' => he (by omega)), if_neg he, Int.add_zero, h]

theorem takL_sum_perm {mem a b : List Int} (h : a.Perm b) : (takL mem a).sum = (takL mem b).sum := perm_sum (h.map _)

end Go.Proofs.Ytgklaobfikbiiaa

/- Walks: indices, ranks, rows, sums. -/
namespace Go.Proofs.Ytgklaobfikbiiaa
open Go.RowKit
set_option linter.unusedVariables false
set_option maxRecDepth 100000


theorem vw {b : Int} {s t : List Int} (h : viewB b s t = true) : s.length ≤ t.length ∧ (0 < countL s → ∀ e ∈ s, 1 ≤ e) ∧ countL s ≤ 1000000 ∧ Small s := by
  obtain ⟨h1, h2, h3, h4, h5⟩ := viewB_in h
  have h6 := shapeB_in h1
  exact ⟨by omega, h6.2.2.2.2, by omega, Small.of h1⟩
theorem sh {s : List Int} (h : shapeB s = true) : Small s ∧ (0 < countL s → ∀ e ∈ s, 1 ≤ e) ∧ countL s ≤ 1000000 := by
  have h6 := shapeB_in h
  exact ⟨Small.of h, h6.2.2.2.2, by omega⟩
/-- the first k numbers are within the extents -/
def OkTo (s r : List Int) (k : Nat) : Prop := ∀ j, j < k → 0 ≤ r.getD j 0 ∧ r.getD j 0 < s.getD j 0
theorem OkTo.zero (s r : List Int) : OkTo s r 0 := fun j h => absurd h (by omega)
theorem OkTo.succ {s r : List Int} {k : Nat} (h : OkTo s r k) {x e : Int} (hx : r.getD k 0 = x) (he : s.getD k 0 = e) (h1 : 0 ≤ x) (h2 : x < e) : OkTo s r (k+1) := fun j hj => by
  by_cases hjk : j = k
  · subst hjk; rw [hx, he]; exact ⟨h1, h2⟩
  · exact h j (by omega)
theorem ixOf_ok : ∀ (s r : List Int), r.length = s.length → (IxOf s r ↔ OkTo s r r.length)
  | [], [], _ => ⟨fun _ => OkTo.zero _ _, fun _ => trivial⟩
  | [], x :: r, h => by simp at h
  | e :: s, [], h => by simp at h
  | e :: s, x :: r, h => by
    have ih := ixOf_ok s r (by simpa using h)
    constructor
    · rintro ⟨h1, h2⟩ j hj
      cases j with
      | zero => simpa using h1
      | succ j => have := (ih.1 h2) j (by simpa using hj); simpa using this
    · intro hk
      refine ⟨by simpa using hk 0 (by simp), ih.2 fun j hj => by have := hk (j+1) (by simpa using hj); simpa using this⟩
theorem ixB_ok {s r : List Int} (hl : r.length = s.length) (h : OkTo s r r.length) : ixB s r = true := (ixB_iff s r).2 ((ixOf_ok s r hl).2 h)
theorem ixB_no {s r : List Int} {k : Nat} (hk : k < r.length) {x e : Int} (hx : r.getD k 0 = x) (he : s.getD k 0 = e) (h : x < 0 ∨ e ≤ x) : ixB s r = false := by
  cases hb : ixB s r with
  | false => rfl
  | true =>
    have h1 := (ixB_iff s r).1 hb
    have h2 := (ixOf_ok s r h1.len).1 h1 k hk
    rw [hx, he] at h2; omega
theorem ixB_len {s r : List Int} (h : r.length ≠ s.length) : ixB s r = false := by unfold ixB; simp [h]

end Go.Proofs.Ytgklaobfikbiiaa

/- Walks: ranks, indices, rows, sums. -/
namespace Go.Proofs.Ytgklaobfikbiiaa
open Go.RowKit
set_option linter.unusedVariables false
set_option maxRecDepth 100000


def rankA (s r : List Int) : Int := if shapeB s && ixB s r then rankC s r else -1
def idxA (s : List Int) (k : Int) : List Int := if shapeB s && (decide (0 ≤ k) && decide (k < countL s)) then (unrL s k).1 else []
def okA (b : Int) (s t r : List Int) : Bool := viewB b s t && ixB s r
def atA (b : Int) (s t r : List Int) : Int := if okA b s t r then dotL b r t else 0
def rowB (b : Int) (s t : List Int) : Bool := viewB b s t && sameB (offsL b s t) (offsL b s (rowS s))
def sumA (mem : List Int) (b : Int) (s t : List Int) : Int := if holdB mem b s t then sumL (loadL mem b s t) else -1
theorem ix_len {s r : List Int} (h : ixB s r = true) : r.length = s.length := ((ixB_iff s r).1 h).len
theorem loadL_bd {mem : List Int} {b : Int} {s t : List Int} (h : holdB mem b s t = true) : ∀ x ∈ loadL mem b s t, 0 ≤ x ∧ x ≤ 255 := by
  intro x hx
  obtain ⟨h1, h2, h3⟩ := hold_in h
  unfold loadL takL at hx
  obtain ⟨i, hi, rfl⟩ := List.mem_map.1 hx
  obtain ⟨g1, g2⟩ := h3 i hi
  have hm : mem.getD i.toNat 0 ∈ mem := getD_mem (by omega)
  unfold memB at h1
  simp only [Bool.and_eq_true, List.all_eq_true, decide_eq_true_eq, inB] at h1
  exact h1.2 _ hm
theorem loadL_len {mem : List Int} {b : Int} {s t : List Int} (h : holdB mem b s t = true) : (loadL mem b s t).length ≤ 60 := by
  unfold loadL; rw [takL_len, offs_count]
  have h1 := (viewB_in (hold_in h).2.1).1
  have := shapeB_in h1
  omega

end Go.Proofs.Ytgklaobfikbiiaa

/- Walks: open exports, kids. -/
namespace Go.Proofs.Ytgklaobfikbiiaa
open Go.RowKit
set_option linter.unusedVariables false
set_option maxRecDepth 100000


/-- the numbers, below k, of the exports of a kind -/
def selL (p : Exp → Bool) (es : List Exp) (k : Nat) : List Int := ((List.range k).filter fun i => p (expAt es i)).map fun i : Nat => (i : Int)
theorem selL_yes {p : Exp → Bool} {es : List Exp} {k : Nat} (h : p (expAt es k) = true) : selL p es (k+1) = selL p es k ++ [(k : Int)] := by
 unfold selL; rw [List.range_succ, List.filter_append, List.map_append, List.filter_cons_of_pos (by simpa using h)]; rfl
theorem selL_no {p : Exp → Bool} {es : List Exp} {k : Nat} (h : p (expAt es k) = false) : selL p es (k+1) = selL p es k := by
 unfold selL; rw [List.range_succ, List.filter_append, List.map_append, List.filter_cons_of_neg (by simp [h])]; simp
theorem selL_len (p : Exp → Bool) (es : List Exp) (k : Nat) : (selL p es k).length ≤ k := by
 unfold selL; rw [List.length_map]; exact Nat.le_trans (List.length_filter_le _ _) (by simp)
def opP (e : Exp) : Bool := e.op
def kidP (d : Int) (e : Exp) : Bool := e.op && decide (e.par = d)
/-- OpenOf -/
def openA (cells : List Int) (es : List Exp) : List Int := if bufB cells es then selL opP es es.length else []
/-- KidsOf -/
def kidsA (cells : List Int) (es : List Exp) (d : Int) : List Int := if bufB cells es && (decide (-1 ≤ d) && decide (d < es.length)) then selL (kidP d) es es.length else []
set_option maxHeartbeats 3200000 in
theorem implOpenOf_c (cells : List Int) (es : List Exp) (cv ev : Value) (w : World) (l1 l2 : Nat) (h1 : Ints w l1 cv cells) (h2 : Exps w l2 ev es) :
  Calls Try.prog 12 #[.agg #[cv, ev]] w (PInts w (openA cells es)) := by
 obtain ⟨p0, c0, rfl⟩ := h1.form
 obtain ⟨p1, c1, rfl⟩ := h2.form
 have he1 := h2.len
 have hc1 := h1.len
 go_enter Try.func12, Try.ntmps12
 go_wp2_with fail
 refine (isBuffer_c cells es (.slice p0 cells.length c0) (.slice p1 es.length c1) _ _ _ (h1.ext qXt) (h2.ext qXt)).mono ?_
 rintro e w1 ⟨rfl, xw1⟩
 have Lw1 : Ext w w1 := Ext.trans qXt xw1
 have Xw1 : Ext w w1 := Lw1
 have b10 : w1.cell? ⟨w.heap.size, 0, none⟩ = some (.slice p0 cells.length c0) := xw1.cell qCl
 have b11 : w1.cell? ⟨w.heap.size, 1, none⟩ = some (.slice p1 es.length c1) := xw1.cell qCl
 have z_b1 : w.heap.size < w1.heap.size := qB b10
 have s_w1 : w.heap.size ≤ w1.heap.size := Xw1.size
 clear xw1
 cases hB2 : bufB cells es
 ·
  replace hB2 := Lib.hid hB2
  go_wp2_with fail
  go_ret
  rw [show openA cells es = [] by unfold openA; rw [hB2.out]; rfl]
  exact PInts.no (Xw1.trans qXt)
 ·
  replace hB2 := Lib.hid hB2
  go_wp2_with fail
  have Q3_b10 := Lib.hid b10
  have Q3_b11 := Lib.hid b11
  have Q3_zb1 := z_b1
  have BL4 : Ext w1 w1 := Ext.refl _
  have zG_BL4 := (BL4).size
  skip
  go_loopw [3, 13] (fun gv i wr => ∃ (k : Nat), k ≤ es.length ∧ i = .int .i64 k ∧ OwnI wr w1.heap.size gv (selL (opP) es k) ∧ Ext w1 wr) (fun _ i _ => es.length - (intOf i).toNat)
  case atStart => exact ⟨0, Nat.zero_le _, rfl, (by rw [show selL (opP) es 0 = [] from rfl]; exact (OwnI.lit0 w1 w1.heap.size (Nat.le_refl _))), qXt⟩
  case round =>
   obtain ⟨k, hk, rfl, OG, Lwr⟩ := hrel
   have Xwr : Ext w wr := Xw1.trans Lwr
   have s_wr : w.heap.size ≤ wr.heap.size := Xwr.size
   have t_wr : w1.heap.size ≤ wr.heap.size := Lwr.size
   replace b10 := Lwr.cell b10
   replace b11 := Lwr.cell b11
   have z_b1 : w.heap.size < wr.heap.size := qB b10
   have BL4_wr : Ext w1 wr := BL4.trans Lwr
   have Bwr : Ext w1 wr := Lwr
   obtain ⟨ga6, gc7, rfl⟩ := (OG.ints (by have := (show (selL (opP) es k).length ≤ 1048576 by have := selL_len (opP) es k; omega); omega)).form
   have OG5 := OG
   clear OG
   by_cases hlt : k < es.length
   ·
    have hkI : (k : Int) < es.length := by omega
    have hN_x8 : k < es.length := (by omega)
    have hI_x8 : (k : Int) < (es.length : Int) := by omega
    obtain ⟨bl21, ol22, u15, c16, u17, c18, rfl, x80, x81, x82, x83, x84, i19, i20⟩ := (h2.ext Xwr).at k hN_x8
    obtain ⟨X14, hX14⟩ : ∃ x, expAt es k = x := ⟨_, rfl⟩
    rw [hX14] at x80 x81 x82 x83 x84 i19 i20
    obtain ⟨P9, B10, S11, T12, O13⟩ := X14
    dsimp only at x80 x81 x82 x83 x84 i19 i20
    replace hX14 := Lib.hid hX14
    have z_x8 : bl21 < wr.heap.size := qB x80
    cases O13
    ·
     go_wp2_with fail
     go_roundw
     case rel => exact ⟨k + 1, by omega, by go_num, (by rw [selL_no (by rw [hX14.out]; rfl)]; exact OG5.ext qXt), (Bwr.trans qXt)⟩
     case measure => simp [intOf]; omega
    ·
     go_upto_region 8 with fail
     generalize hW1 : wr.alloc (.cells #[.int .i64 P9, .int .i64 B10, .slice u15 S11.length c16, .slice u17 T12.length c18, .bool true] 32) = w2 at *
     have Lw2 : Ext wr w2 := by subst hW1; exact qXt
     have Xw2 : Ext w w2 := Xwr.trans Lw2
     replace b10 := Lw2.cell b10
     replace b11 := Lw2.cell b11
     replace x80 := Lw2.cell x80
     replace x81 := Lw2.cell x81
     replace x82 := Lw2.cell x82
     replace x83 := Lw2.cell x83
     replace x84 := Lw2.cell x84
     have b240 : w2.cell? ⟨wr.heap.size, 0, none⟩ = some (.int .i64 P9) := by subst hW1; exact qCl
     have b241 : w2.cell? ⟨wr.heap.size, 1, none⟩ = some (.int .i64 B10) := by subst hW1; exact qCl
     have b242 : w2.cell? ⟨wr.heap.size, 2, none⟩ = some (.slice u15 S11.length c16) := by subst hW1; exact qCl
     have b243 : w2.cell? ⟨wr.heap.size, 3, none⟩ = some (.slice u17 T12.length c18) := by subst hW1; exact qCl
     have b244 : w2.cell? ⟨wr.heap.size, 4, none⟩ = some (.bool true) := by subst hW1; exact qCl
     have z_b1 : w.heap.size < w2.heap.size := qB b10
     have z_x8 : bl21 < w2.heap.size := qB x80
     have z_b24 : wr.heap.size < w2.heap.size := qB b240
     replace OG5 := OG5.ext Lw2
     replace i19 := i19.ext Lw2
     replace i20 := i20.ext Lw2
     have s_w2 : w.heap.size ≤ w2.heap.size := Xw2.size
     have BL4_w2 : Ext w1 w2 := BL4_wr.trans Lw2
     have Bwr_w2 : Ext w1 w2 := Bwr.trans Lw2
     clear hW1
     have zGB := (Bwr_w2).size
     have EE : Ext w2 ((w2).alloc (.cells #[.int .i64 (k : Int)] 3)) := qXt
     have SS : Ints ((w2).alloc (.cells #[.int .i64 (k : Int)] 3)) 0 (.slice (some ⟨w2.heap.size, 0, none⟩) 1 1) [(k : Int)] := by simpa using Ints.one (w2) 0 (k : Int) (Nat.zero_le _)
     go_wp2_with (
      at_builtin
      refine wpList_app rfl (.tmp 20) (.tmp 22) rfl rfl rfl (by exact OG5.ext EE) (by exact SS) (by have := (show (selL (opP) es k).length ≤ 1048576 by have := selL_len (opP) es k; omega); simp only [List.length_append, List.length_cons, List.length_nil]; omega) (by simp <;> omega) ?_
      intro vw3 w3 ho hg7 hbl hv7
      clear hg7 hv7
      obtain ⟨ga25, rr26, rfl⟩ : ∃ a c, vw3 = .slice a ((selL (opP) es k).length + 1) c := by obtain ⟨a, c, h⟩ := (ho.ints (by simp only [List.length_append, List.length_cons, List.length_nil]; have := (show (selL (opP) es k).length ≤ 1048576 by have := selL_len (opP) es k; omega); omega)).form; exact ⟨a, c, by rw [h, List.length_append]; rfl⟩
      have Xw3 : Ext w w3 := Ext.below (Xw2.trans EE) hbl (by omega)
      have BL4_w3 : Ext w1 w3 := Ext.below (Ext.trans BL4_w2 EE) hbl (by omega)
      have Bwr_w3 : Ext w1 w3 := Ext.below (Ext.trans Bwr_w2 EE) hbl (by omega)
      clear b10 b11
      clear x80 x81 x82 x83 x84
      clear b240 b241 b242 b243 b244
      clear i19
      clear i20
      clear OG5
      have OG5 := ho
      clear ho hbl EE SS zGB
      have s_w3 : w.heap.size ≤ w3.heap.size := Xw3.size)
     go_wp2_with fail
     go_roundw
     case rel => exact ⟨k + 1, by omega, by go_num, (by rw [selL_yes (by rw [hX14.out]; rfl)]; exact OG5.ext qXt), (Bwr_w3.trans qXt)⟩
     case measure => simp [intOf]; omega
   ·
    obtain rfl : k = es.length := by omega
    have hkI : ¬ (es.length : Int) < es.length := by omega
    go_wp2_with fail
    go_ret
    rw [show openA cells es = selL (opP) es es.length by unfold openA; rw [hB2.out]; rfl]
    exact PInts.mk OG5 (by omega) (by have := selL_len (opP) es es.length; omega) (Xwr.trans qXt)

set_option maxHeartbeats 3200000 in
theorem specOpenOf_c (cells : List Int) (es : List Exp) (cv ev : Value) (w : World) (l1 l2 : Nat) (h1 : Ints w l1 cv cells) (h2 : Exps w l2 ev es) :
  Calls Try.prog 19 #[.agg #[cv, ev]] w (PInts w (openA cells es)) := by
 obtain ⟨p0, c0, rfl⟩ := h1.form
 obtain ⟨p1, c1, rfl⟩ := h2.form
 have he1 := h2.len
 have hc1 := h1.len
 go_enter Try.func19, Try.ntmps19
 go_wp2_with fail
 refine (validBuffer_c cells es (.slice p0 cells.length c0) (.slice p1 es.length c1) _ _ _ (h1.ext qXt) (h2.ext qXt)).mono ?_
 rintro e w1 ⟨rfl, xw1⟩
 have Lw1 : Ext w w1 := Ext.trans qXt xw1
 have Xw1 : Ext w w1 := Lw1
 have b10 : w1.cell? ⟨w.heap.size, 0, none⟩ = some (.slice p0 cells.length c0) := xw1.cell qCl
 have b11 : w1.cell? ⟨w.heap.size, 1, none⟩ = some (.slice p1 es.length c1) := xw1.cell qCl
 have z_b1 : w.heap.size < w1.heap.size := qB b10
 have s_w1 : w.heap.size ≤ w1.heap.size := Xw1.size
 clear xw1
 cases hB2 : bufB cells es
 ·
  replace hB2 := Lib.hid hB2
  go_wp2_with fail
  go_ret
  rw [show openA cells es = [] by unfold openA; rw [hB2.out]; rfl]
  exact PInts.no (Xw1.trans qXt)
 ·
  replace hB2 := Lib.hid hB2
  go_wp2_with fail
  have Q3_b10 := Lib.hid b10
  have Q3_b11 := Lib.hid b11
  have Q3_zb1 := z_b1
  have BL4 : Ext w1 w1 := Ext.refl _
  have zG_BL4 := (BL4).size
  skip
  go_loopw [3, 4] (fun gv i wr => ∃ (k : Nat), k ≤ es.length ∧ i = .int .i64 k ∧ OwnI wr w1.heap.size gv (selL (opP) es k) ∧ Ext w1 wr) (fun _ i _ => es.length - (intOf i).toNat)
  case atStart => exact ⟨0, Nat.zero_le _, rfl, (by rw [show selL (opP) es 0 = [] from rfl]; exact (OwnI.lit0 w1 w1.heap.size (Nat.le_refl _))), qXt⟩
  case round =>
   obtain ⟨k, hk, rfl, OG, Lwr⟩ := hrel
   have Xwr : Ext w wr := Xw1.trans Lwr
   have s_wr : w.heap.size ≤ wr.heap.size := Xwr.size
   have t_wr : w1.heap.size ≤ wr.heap.size := Lwr.size
   replace b10 := Lwr.cell b10
   replace b11 := Lwr.cell b11
   have z_b1 : w.heap.size < wr.heap.size := qB b10
   have BL4_wr : Ext w1 wr := BL4.trans Lwr
   have Bwr : Ext w1 wr := Lwr
   obtain ⟨ga6, gc7, rfl⟩ := (OG.ints (by have := (show (selL (opP) es k).length ≤ 1048576 by have := selL_len (opP) es k; omega); omega)).form
   have OG5 := OG
   clear OG
   by_cases hlt : k < es.length
   ·
    have hkI : (k : Int) < es.length := by omega
    have hN_x8 : k < es.length := (by omega)
    have hI_x8 : (k : Int) < (es.length : Int) := by omega
    obtain ⟨bl21, ol22, u15, c16, u17, c18, rfl, x80, x81, x82, x83, x84, i19, i20⟩ := (h2.ext Xwr).at k hN_x8
    obtain ⟨X14, hX14⟩ : ∃ x, expAt es k = x := ⟨_, rfl⟩
    rw [hX14] at x80 x81 x82 x83 x84 i19 i20
    obtain ⟨P9, B10, S11, T12, O13⟩ := X14
    dsimp only at x80 x81 x82 x83 x84 i19 i20
    replace hX14 := Lib.hid hX14
    have z_x8 : bl21 < wr.heap.size := qB x80
    cases O13
    ·
     go_wp2_with fail
     go_roundw
     case rel => exact ⟨k + 1, by omega, by go_num, (by rw [selL_no (by rw [hX14.out]; rfl)]; exact OG5.ext qXt), (Bwr.trans qXt)⟩
     case measure => simp [intOf]; omega
    ·
     have zGB := (Bwr).size
     have EE : Ext wr ((wr).alloc (.cells #[.int .i64 (k : Int)] 3)) := qXt
     have SS : Ints ((wr).alloc (.cells #[.int .i64 (k : Int)] 3)) 0 (.slice (some ⟨wr.heap.size, 0, none⟩) 1 1) [(k : Int)] := by simpa using Ints.one (wr) 0 (k : Int) (Nat.zero_le _)
     go_wp2_with (
      at_builtin
      refine wpList_app rfl (.tmp 22) (.tmp 24) rfl rfl rfl (by exact OG5.ext EE) (by exact SS) (by have := (show (selL (opP) es k).length ≤ 1048576 by have := selL_len (opP) es k; omega); simp only [List.length_append, List.length_cons, List.length_nil]; omega) (by simp <;> omega) ?_
      intro vw2 w2 ho hg7 hbl hv7
      clear hg7 hv7
      obtain ⟨ga23, rr24, rfl⟩ : ∃ a c, vw2 = .slice a ((selL (opP) es k).length + 1) c := by obtain ⟨a, c, h⟩ := (ho.ints (by simp only [List.length_append, List.length_cons, List.length_nil]; have := (show (selL (opP) es k).length ≤ 1048576 by have := selL_len (opP) es k; omega); omega)).form; exact ⟨a, c, by rw [h, List.length_append]; rfl⟩
      have Xw2 : Ext w w2 := Ext.below (Xwr.trans EE) hbl (by omega)
      have BL4_w2 : Ext w1 w2 := Ext.below (Ext.trans BL4_wr EE) hbl (by omega)
      have Bwr_w2 : Ext w1 w2 := Ext.below (Ext.trans Bwr EE) hbl (by omega)
      clear b10 b11
      clear x80 x81 x82 x83 x84
      clear i19
      clear i20
      clear OG5
      have OG5 := ho
      clear ho hbl EE SS zGB
      have s_w2 : w.heap.size ≤ w2.heap.size := Xw2.size)
     go_wp2_with fail
     go_roundw
     case rel => exact ⟨k + 1, by omega, by go_num, (by rw [selL_yes (by rw [hX14.out]; rfl)]; exact OG5.ext qXt), (Bwr_w2.trans qXt)⟩
     case measure => simp [intOf]; omega
   ·
    obtain rfl : k = es.length := by omega
    have hkI : ¬ (es.length : Int) < es.length := by omega
    go_wp2_with fail
    go_ret
    rw [show openA cells es = selL (opP) es es.length by unfold openA; rw [hB2.out]; rfl]
    exact PInts.mk OG5 (by omega) (by have := selL_len (opP) es es.length; omega) (Xwr.trans qXt)

set_option maxHeartbeats 3200000 in
theorem implKidsOf_c (cells : List Int) (es : List Exp) (cv ev : Value) (d : Int) (w : World) (l1 l2 : Nat) (h1 : Ints w l1 cv cells) (h2 : Exps w l2 ev es) :
  Calls Try.prog 27 #[.agg #[cv, ev], .int .i64 d] w (PInts w (kidsA cells es d)) := by
 obtain ⟨p0, c0, rfl⟩ := h1.form
 obtain ⟨p1, c1, rfl⟩ := h2.form
 have he1 := h2.len
 have hc1 := h1.len
 go_enter Try.func27, Try.ntmps27
 go_wp2_with fail
 refine (isBuffer_c cells es (.slice p0 cells.length c0) (.slice p1 es.length c1) _ _ _ (h1.ext qXt) (h2.ext qXt)).mono ?_
 rintro e w1 ⟨rfl, xw1⟩
 have Lw1 : Ext w w1 := Ext.trans qXt xw1
 have Xw1 : Ext w w1 := Lw1
 have b10 : w1.cell? ⟨w.heap.size, 0, none⟩ = some (.slice p0 cells.length c0) := xw1.cell qCl
 have b11 : w1.cell? ⟨w.heap.size, 1, none⟩ = some (.slice p1 es.length c1) := xw1.cell qCl
 have z_b1 : w.heap.size < w1.heap.size := qB b10
 have s_w1 : w.heap.size ≤ w1.heap.size := Xw1.size
 clear xw1
 cases hB2 : bufB cells es
 ·
  replace hB2 := Lib.hid hB2
  go_wp2_with fail
  go_ret
  rw [show kidsA cells es d = [] by unfold kidsA; rw [hB2.out]; rfl]
  exact PInts.no (Xw1.trans qXt)
 ·
  replace hB2 := Lib.hid hB2
  by_cases hc3 : (d : Int) < (-1 : Int)
  ·
   go_wp2_with fail
   go_ret
   rw [show kidsA cells es d = [] by unfold kidsA; rw [if_neg (by simp only [Bool.and_eq_true, decide_eq_true_eq]; omega)]]
   exact PInts.no (Xw1.trans qXt)
  ·
   by_cases hc4 : (es.length : Int) ≤ (d : Int)
   ·
    go_wp2_with fail
    go_ret
    rw [show kidsA cells es d = [] by unfold kidsA; rw [if_neg (by simp only [Bool.and_eq_true, decide_eq_true_eq]; omega)]]
    exact PInts.no (Xw1.trans qXt)
   ·
    go_wp2_with fail
    have Q5_b10 := Lib.hid b10
    have Q5_b11 := Lib.hid b11
    have Q5_zb1 := z_b1
    have BL6 : Ext w1 w1 := Ext.refl _
    have zG_BL6 := (BL6).size
    skip
    go_loopw [5, 26] (fun gv i wr => ∃ (k : Nat), k ≤ es.length ∧ i = .int .i64 k ∧ OwnI wr w1.heap.size gv (selL (kidP d) es k) ∧ Ext w1 wr) (fun _ i _ => es.length - (intOf i).toNat)
    case atStart => exact ⟨0, Nat.zero_le _, rfl, (by rw [show selL (kidP d) es 0 = [] from rfl]; exact (OwnI.lit0 w1 w1.heap.size (Nat.le_refl _))), qXt⟩
    case round =>
     obtain ⟨k, hk, rfl, OG, Lwr⟩ := hrel
     have Xwr : Ext w wr := Xw1.trans Lwr
     have s_wr : w.heap.size ≤ wr.heap.size := Xwr.size
     have t_wr : w1.heap.size ≤ wr.heap.size := Lwr.size
     replace b10 := Lwr.cell b10
     replace b11 := Lwr.cell b11
     have z_b1 : w.heap.size < wr.heap.size := qB b10
     have BL6_wr : Ext w1 wr := BL6.trans Lwr
     have Bwr : Ext w1 wr := Lwr
     obtain ⟨ga8, gc9, rfl⟩ := (OG.ints (by have := (show (selL (kidP d) es k).length ≤ 1048576 by have := selL_len (kidP d) es k; omega); omega)).form
     have OG7 := OG
     clear OG
     by_cases hlt : k < es.length
     ·
      have hkI : (k : Int) < es.length := by omega
      have hN_x10 : k < es.length := (by omega)
      have hI_x10 : (k : Int) < (es.length : Int) := by omega
      obtain ⟨bl23, ol24, u17, c18, u19, c20, rfl, x100, x101, x102, x103, x104, i21, i22⟩ := (h2.ext Xwr).at k hN_x10
      obtain ⟨X16, hX16⟩ : ∃ x, expAt es k = x := ⟨_, rfl⟩
      rw [hX16] at x100 x101 x102 x103 x104 i21 i22
      obtain ⟨P11, B12, S13, T14, O15⟩ := X16
      dsimp only at x100 x101 x102 x103 x104 i21 i22
      replace hX16 := Lib.hid hX16
      have z_x10 : bl23 < wr.heap.size := qB x100
      cases O15
      ·
       go_wp2_with fail
       go_roundw
       case rel => exact ⟨k + 1, by omega, by go_num, (by rw [selL_no (by rw [hX16.out]; rfl)]; exact OG7.ext qXt), (Bwr.trans qXt)⟩
       case measure => simp [intOf]; omega
      ·
       by_cases hc27 : (P11 : Int) = (d : Int)
       ·
        have hc27e : ((P11 : Int) == (d : Int)) = true := by simpa using hc27
        have hc27n : ((P11 : Int) != (d : Int)) = false := by simpa using hc27
        replace hc27 := Lib.hid hc27
        go_upto_region 8 with fail
        generalize hW2 : wr.alloc (.cells #[.int .i64 P11, .int .i64 B12, .slice u17 S13.length c18, .slice u19 T14.length c20, .bool true] 32) = w2 at *
        have Lw2 : Ext wr w2 := by subst hW2; exact qXt
        have Xw2 : Ext w w2 := Xwr.trans Lw2
        replace b10 := Lw2.cell b10
        replace b11 := Lw2.cell b11
        replace x100 := Lw2.cell x100
        replace x101 := Lw2.cell x101
        replace x102 := Lw2.cell x102
        replace x103 := Lw2.cell x103
        replace x104 := Lw2.cell x104
        have b260 : w2.cell? ⟨wr.heap.size, 0, none⟩ = some (.int .i64 P11) := by subst hW2; exact qCl
        have b261 : w2.cell? ⟨wr.heap.size, 1, none⟩ = some (.int .i64 B12) := by subst hW2; exact qCl
        have b262 : w2.cell? ⟨wr.heap.size, 2, none⟩ = some (.slice u17 S13.length c18) := by subst hW2; exact qCl
        have b263 : w2.cell? ⟨wr.heap.size, 3, none⟩ = some (.slice u19 T14.length c20) := by subst hW2; exact qCl
        have b264 : w2.cell? ⟨wr.heap.size, 4, none⟩ = some (.bool true) := by subst hW2; exact qCl
        have z_b1 : w.heap.size < w2.heap.size := qB b10
        have z_x10 : bl23 < w2.heap.size := qB x100
        have z_b26 : wr.heap.size < w2.heap.size := qB b260
        replace OG7 := OG7.ext Lw2
        replace i21 := i21.ext Lw2
        replace i22 := i22.ext Lw2
        have s_w2 : w.heap.size ≤ w2.heap.size := Xw2.size
        have BL6_w2 : Ext w1 w2 := BL6_wr.trans Lw2
        have Bwr_w2 : Ext w1 w2 := Bwr.trans Lw2
        clear hW2
        have zGB := (Bwr_w2).size
        have EE : Ext w2 ((w2).alloc (.cells #[.int .i64 (k : Int)] 3)) := qXt
        have SS : Ints ((w2).alloc (.cells #[.int .i64 (k : Int)] 3)) 0 (.slice (some ⟨w2.heap.size, 0, none⟩) 1 1) [(k : Int)] := by simpa using Ints.one (w2) 0 (k : Int) (Nat.zero_le _)
        go_wp2_with (
         at_builtin
         refine wpList_app rfl (.tmp 39) (.tmp 41) rfl rfl rfl (by exact OG7.ext EE) (by exact SS) (by have := (show (selL (kidP d) es k).length ≤ 1048576 by have := selL_len (kidP d) es k; omega); simp only [List.length_append, List.length_cons, List.length_nil]; omega) (by simp <;> omega) ?_
         intro vw3 w3 ho hg7 hbl hv7
         clear hg7 hv7
         obtain ⟨ga28, rr29, rfl⟩ : ∃ a c, vw3 = .slice a ((selL (kidP d) es k).length + 1) c := by obtain ⟨a, c, h⟩ := (ho.ints (by simp only [List.length_append, List.length_cons, List.length_nil]; have := (show (selL (kidP d) es k).length ≤ 1048576 by have := selL_len (kidP d) es k; omega); omega)).form; exact ⟨a, c, by rw [h, List.length_append]; rfl⟩
         have Xw3 : Ext w w3 := Ext.below (Xw2.trans EE) hbl (by omega)
         have BL6_w3 : Ext w1 w3 := Ext.below (Ext.trans BL6_w2 EE) hbl (by omega)
         have Bwr_w3 : Ext w1 w3 := Ext.below (Ext.trans Bwr_w2 EE) hbl (by omega)
         clear b10 b11
         clear x100 x101 x102 x103 x104
         clear b260 b261 b262 b263 b264
         clear i21
         clear i22
         clear OG7
         have OG7 := ho
         clear ho hbl EE SS zGB
         have s_w3 : w.heap.size ≤ w3.heap.size := Xw3.size)
        go_wp2_with fail
        go_roundw
        case rel => exact ⟨k + 1, by omega, by go_num, (by rw [selL_yes (by rw [hX16.out]; simp [kidP, hc27.out])]; exact OG7.ext qXt), (Bwr_w3.trans qXt)⟩
        case measure => simp [intOf]; omega
       ·
        have hc27e : ((P11 : Int) == (d : Int)) = false := by simpa using hc27
        have hc27n : ((P11 : Int) != (d : Int)) = true := by simpa using hc27
        replace hc27 := Lib.hid hc27
        go_wp2_with fail
        go_roundw
        case rel => exact ⟨k + 1, by omega, by go_num, (by rw [selL_no (by rw [hX16.out]; simp [kidP, hc27.out])]; exact OG7.ext qXt), (Bwr.trans qXt)⟩
        case measure => simp [intOf]; omega
     ·
      obtain rfl : k = es.length := by omega
      have hkI : ¬ (es.length : Int) < es.length := by omega
      go_wp2_with fail
      go_ret
      rw [show kidsA cells es d = selL (kidP d) es es.length by unfold kidsA; rw [hB2.out, if_pos (by simp only [Bool.true_and, Bool.and_eq_true, decide_eq_true_eq]; omega)]]
      exact PInts.mk OG7 (by omega) (by have := selL_len (kidP d) es es.length; omega) (Xwr.trans qXt)

set_option maxHeartbeats 3200000 in
theorem kids_c (cells : List Int) (es : List Exp) (cv ev : Value) (d : Int) (w : World) (l1 l2 : Nat) (h1 : Ints w l1 cv cells) (h2 : Exps w l2 ev es) :
  Calls Try.prog 50 #[.agg #[cv, ev], .int .i64 d] w (PInts w (selL (kidP d) es es.length)) := by
 obtain ⟨p0, c0, rfl⟩ := h1.form
 obtain ⟨p1, c1, rfl⟩ := h2.form
 have he1 := h2.len
 have hc1 := h1.len
 go_enter Try.func50, Try.ntmps50
 go_upto_region 1 with fail
 generalize hW3 : w.alloc (.cells #[.slice p0 cells.length c0, .slice p1 es.length c1] 26) = w1 at *
 have Lw1 : Ext w w1 := by subst hW3; exact qXt
 have Xw1 : Ext w w1 := by subst hW3; exact Lw1
 have b10 : w1.cell? ⟨w.heap.size, 0, none⟩ = some (.slice p0 cells.length c0) := by subst hW3; exact qCl
 have b11 : w1.cell? ⟨w.heap.size, 1, none⟩ = some (.slice p1 es.length c1) := by subst hW3; exact qCl
 have z_b1 : w.heap.size < w1.heap.size := qB b10
 have s_w1 : w.heap.size ≤ w1.heap.size := Xw1.size
 clear hW3
 go_wp2_with fail
 have Q2_b10 := Lib.hid b10
 have Q2_b11 := Lib.hid b11
 have Q2_zb1 := z_b1
 have BL3 : Ext w1 w1 := Ext.refl _
 have zG_BL3 := (BL3).size
 skip
 go_loopw [5, 6] (fun gv i wr => ∃ (k : Nat), k ≤ es.length ∧ i = .int .i64 k ∧ OwnI wr w1.heap.size gv (selL (kidP d) es k) ∧ Ext w1 wr) (fun _ i _ => es.length - (intOf i).toNat)
 case atStart => exact ⟨0, Nat.zero_le _, rfl, (by rw [show selL (kidP d) es 0 = [] from rfl]; exact (OwnI.lit0 w1 w1.heap.size (Nat.le_refl _))), qXt⟩
 case round =>
  obtain ⟨k, hk, rfl, OG, Lwr⟩ := hrel
  have Xwr : Ext w wr := Xw1.trans Lwr
  have s_wr : w.heap.size ≤ wr.heap.size := Xwr.size
  have t_wr : w1.heap.size ≤ wr.heap.size := Lwr.size
  replace b10 := Lwr.cell b10
  replace b11 := Lwr.cell b11
  have z_b1 : w.heap.size < wr.heap.size := qB b10
  have BL3_wr : Ext w1 wr := BL3.trans Lwr
  have Bwr : Ext w1 wr := Lwr
  obtain ⟨ga5, gc6, rfl⟩ := (OG.ints (by have := (show (selL (kidP d) es k).length ≤ 1048576 by have := selL_len (kidP d) es k; omega); omega)).form
  have OG4 := OG
  clear OG
  by_cases hlt : k < es.length
  ·
   have hkI : (k : Int) < es.length := by omega
   have hN_x7 : k < es.length := (by omega)
   have hI_x7 : (k : Int) < (es.length : Int) := by omega
   obtain ⟨bl20, ol21, u14, c15, u16, c17, rfl, x70, x71, x72, x73, x74, i18, i19⟩ := (h2.ext Xwr).at k hN_x7
   obtain ⟨X13, hX13⟩ : ∃ x, expAt es k = x := ⟨_, rfl⟩
   rw [hX13] at x70 x71 x72 x73 x74 i18 i19
   obtain ⟨P8, B9, S10, T11, O12⟩ := X13
   dsimp only at x70 x71 x72 x73 x74 i18 i19
   replace hX13 := Lib.hid hX13
   have z_x7 : bl20 < wr.heap.size := qB x70
   cases O12
   ·
    go_wp2_with fail
    go_roundw
    case rel => exact ⟨k + 1, by omega, by go_num, (by rw [selL_no (by rw [hX13.out]; rfl)]; exact OG4.ext qXt), (Bwr.trans qXt)⟩
    case measure => simp [intOf]; omega
   ·
    by_cases hc22 : (P8 : Int) = (d : Int)
    ·
     have hc22e : ((P8 : Int) == (d : Int)) = true := by simpa using hc22
     have hc22n : ((P8 : Int) != (d : Int)) = false := by simpa using hc22
     replace hc22 := Lib.hid hc22
     have zGB := (Bwr).size
     have EE : Ext wr ((wr).alloc (.cells #[.int .i64 (k : Int)] 3)) := qXt
     have SS : Ints ((wr).alloc (.cells #[.int .i64 (k : Int)] 3)) 0 (.slice (some ⟨wr.heap.size, 0, none⟩) 1 1) [(k : Int)] := by simpa using Ints.one (wr) 0 (k : Int) (Nat.zero_le _)
     go_wp2_with (
      at_builtin
      refine wpList_app rfl (.tmp 31) (.tmp 33) rfl rfl rfl (by exact OG4.ext EE) (by exact SS) (by have := (show (selL (kidP d) es k).length ≤ 1048576 by have := selL_len (kidP d) es k; omega); simp only [List.length_append, List.length_cons, List.length_nil]; omega) (by simp <;> omega) ?_
      intro vw2 w2 ho hg7 hbl hv7
      clear hg7 hv7
      obtain ⟨ga23, rr24, rfl⟩ : ∃ a c, vw2 = .slice a ((selL (kidP d) es k).length + 1) c := by obtain ⟨a, c, h⟩ := (ho.ints (by simp only [List.length_append, List.length_cons, List.length_nil]; have := (show (selL (kidP d) es k).length ≤ 1048576 by have := selL_len (kidP d) es k; omega); omega)).form; exact ⟨a, c, by rw [h, List.length_append]; rfl⟩
      have Xw2 : Ext w w2 := Ext.below (Xwr.trans EE) hbl (by omega)
      have BL3_w2 : Ext w1 w2 := Ext.below (Ext.trans BL3_wr EE) hbl (by omega)
      have Bwr_w2 : Ext w1 w2 := Ext.below (Ext.trans Bwr EE) hbl (by omega)
      clear b10 b11
      clear x70 x71 x72 x73 x74
      clear i18
      clear i19
      clear OG4
      have OG4 := ho
      clear ho hbl EE SS zGB
      have s_w2 : w.heap.size ≤ w2.heap.size := Xw2.size)
     go_wp2_with fail
     go_roundw
     case rel => exact ⟨k + 1, by omega, by go_num, (by rw [selL_yes (by rw [hX13.out]; simp [kidP, hc22.out])]; exact OG4.ext qXt), (Bwr_w2.trans qXt)⟩
     case measure => simp [intOf]; omega
    ·
     have hc22e : ((P8 : Int) == (d : Int)) = false := by simpa using hc22
     have hc22n : ((P8 : Int) != (d : Int)) = true := by simpa using hc22
     replace hc22 := Lib.hid hc22
     go_wp2_with fail
     go_roundw
     case rel => exact ⟨k + 1, by omega, by go_num, (by rw [selL_no (by rw [hX13.out]; simp [kidP, hc22.out])]; exact OG4.ext qXt), (Bwr.trans qXt)⟩
     case measure => simp [intOf]; omega
  ·
   obtain rfl : k = es.length := by omega
   have hkI : ¬ (es.length : Int) < es.length := by omega
   go_wp2_with fail
   go_ret
   exact PInts.mk OG4 (by omega) (by have := selL_len (kidP d) es es.length; omega) (Xwr.trans qXt)


end Go.Proofs.Ytgklaobfikbiiaa

/- Helpers of walks: capacities, two rows that grow. -/
namespace Go.Proofs.Ytgklaobfikbiiaa
open Go.RowKit
set_option linter.unusedVariables false

theorem Ints.capLe {w : World} {lo : Nat} {a : Option Addr} {n c : Nat} {xs : List Int} (h : Ints w lo (.slice a n c) xs) : n ≤ c ∧ c ≤ maxLen := by
  obtain ⟨a', c', e, h1, h2, _⟩ := h
  cases e
  exact ⟨h1, h2⟩
theorem PViewB.two {w w' : World} {B : Nat} {b : Int} {s t : List Int} {v1 v2 : Value} (T : Two B w' v1 v2 s t) (hB : w.heap.size ≤ B) (hs : s.length ≤ 1000) (ht : t.length ≤ 1000) (hx : Ext w w') :
    PViewB w b s t true (.returned (.tuple #[.agg #[.int .i64 b, v1, v2], .bool true])) w' :=
  ⟨_, _, rfl, (T.o1.ints (by omega)).lower hB, (T.o2.ints (by omega)).lower hB, (T.o1.lower hB).z, (T.o2.lower hB).z,
    (fun n1 n2 h => by obtain ⟨g, _, h1, _⟩ := (T.o1).row n1; rw [h1] at h; exact T.sep g (by rw [h1]; rfl) (h ▸ rfl)), hx⟩
theorem pi_eq {w w0 : World} {xs ys : List Int} {f : Nat} {args : Array Value} (he : xs = ys) (h : Calls Try.prog f args w (PInts w0 xs)) : Calls Try.prog f args w (PInts w0 ys) := he ▸ h
theorem pv_eq {w w0 : World} {x : VBool} {B : Int} {S T : List Int} {o : Bool} {f : Nat} {args : Array Value} (he : x = (B, S, T, o)) (h : Calls Try.prog f args w (PVB w0 x)) : Calls Try.prog f args w (PViewB w0 B S T o) := by subst he; exact h
end Go.Proofs.Ytgklaobfikbiiaa

/- Helpers of walks: appends to a literal without room, whatever is appended. -/
namespace Go.Proofs.Ytgklaobfikbiiaa
open Go.RowKit
set_option linter.unusedVariables false
theorem Chg.setNew {lo hi : Nat} {a w : World} {p : Addr} (h : Chg lo hi a w) (hp : a.heap.size ≤ p.block) (u : Value) : Chg lo hi a (w.setCell p u) :=
  ⟨h.os, h.tape, h.output, by have := h.size; simpa using this, fun k hk hd => (Below.heap_setCell _ _ _ _ (by omega)).trans (h.block k hk hd)⟩
section
variable {w : World} {src : Value} {ys : List Int} {lo B l : Nat}
theorem run_app0O (ty : TypeId) (O : OwnI w B (.slice (some ⟨l, 0, none⟩) 0 0) []) (hB : B ≤ w.heap.size) (hs : Ints w lo src ys) :
    ∃ g r w', (Builtin.append_ #[23, 23] ty #[.slice (some ⟨l, 0, none⟩) 0 0, src]).run Try.prog w = .ok (.slice (some ⟨g, 0, none⟩) ys.length r) w' ∧ OwnI w' B (.slice (some ⟨g, 0, none⟩) ys.length r) ys ∧ Ext w w' ∧ (g = l ∨ w.heap.size ≤ g) ∧ g < w'.heap.size ∧ (ys = [] → r = 0) := by
  obtain ⟨v', w', hr, h1, h2, h3⟩ := run_app0 ⟨l, 0, none⟩ ty hs
  by_cases he : ys = []
  · subst he
    have hs' := hs
    obtain ⟨i0, hi, hz0, hz1, hz2⟩ := info_parts infoInt
    obtain ⟨a, cap, rfl, h1, h2, ⟨h3', h3⟩, h4⟩ := hs
    refine ⟨l, 0, w, ?_, O, Ext.refl _, .inl rfl, (own_lt O rfl).2, fun _ => rfl⟩
    cases a with
    | none => simp [Builtin.append_, run_underlying Try.underlying23, sizeOf, typeInfo, hi, Builtin.lenOf, Builtin.firstCells, storeCells]
    | some x => simp [Builtin.append_, run_underlying Try.underlying23, sizeOf, typeInfo, hi, Builtin.lenOf, Builtin.firstCells, storeCells, loadCells, loadCellsFrom]
  · have O' := (h1.ofNe he)
    obtain ⟨g, r, rfl, hg, hg'⟩ := O'.row he
    exact ⟨g, r, w', hr, O'.lower hB, h2, .inr hg, hg', fun h => absurd h he⟩

theorem step_app0O {ops : Array Oper} {o : Oper} {a : Act} {K : Act → World → Prop} {Q : Exit → Act → World → Prop} {F : Prop} (hgd : o.guard = none) (s x : Operand)
    (ho : o.op = .call { callee := .builtin .append, args := #[s, x], argTypes := #[23, 23] })
    (hs : a.eval s = .slice (some ⟨l, 0, none⟩) 0 0) (hx : a.eval x = src) (O : OwnI w B (.slice (some ⟨l, 0, none⟩) 0 0) []) (hB : B ≤ w.heap.size) (hsrc : Ints w lo src ys)
    (hK : ∀ g r w', OwnI w' B (.slice (some ⟨g, 0, none⟩) ys.length r) ys → Ext w w' → (g = l ∨ w.heap.size ≤ g) → g < w'.heap.size → K (a.put o.dst (.slice (some ⟨g, 0, none⟩) ys.length r)) w') :
    if Region.wanted o (yielded ops a.tmps) = true then Oper.wp Try.prog o a w K Q else F := by
  have hw : Region.wanted o (yielded ops a.tmps) = true := by simp [Region.wanted, hgd]
  rw [if_pos hw]
  obtain ⟨g, r, w', hr, h1, h2, h3, h4, h5⟩ := run_app0O o.type O hB hsrc
  unfold Oper.wp execOp
  simp only [ho, resolve, invoke, builtin, Sem.run_bind, Sem.run_pure, Result.andThen_ok, List.map_toArray, List.map_cons, List.map_nil, hs, hx, hr]
  exact hK g r w' h1 h2 h3 h4
theorem wpList_app0O {ops : Array Oper} {rest : List Oper} {o : Oper} {a : Act} {Q : Exit → Act → World → Prop} (hgd : o.guard = none) (s x : Operand)
    (ho : o.op = .call { callee := .builtin .append, args := #[s, x], argTypes := #[23, 23] })
    (hs : a.eval s = .slice (some ⟨l, 0, none⟩) 0 0) (hx : a.eval x = src) (O : OwnI w B (.slice (some ⟨l, 0, none⟩) 0 0) []) (hB : B ≤ w.heap.size) (hsrc : Ints w lo src ys)
    (hK : ∀ g r w', OwnI w' B (.slice (some ⟨g, 0, none⟩) ys.length r) ys → Ext w w' → (g = l ∨ w.heap.size ≤ g) → g < w'.heap.size → wpList Try.prog ops Q rest (a.put o.dst (.slice (some ⟨g, 0, none⟩) ys.length r)) w') : wpList Try.prog ops Q (o :: rest) a w := by
  refine wpList_plain hgd fun K hK' => ?_
  obtain ⟨g, r, w', hr, h1, h2, h3, h4, h5⟩ := run_app0O o.type O hB hsrc
  unfold Oper.wp execOp
  simp only [ho, resolve, invoke, builtin, Sem.run_bind, Sem.run_pure, Result.andThen_ok, List.map_toArray, List.map_cons, List.map_nil, hs, hx, hr]
  exact hK' _ _ (hK g r w' h1 h2 h3 h4)
theorem wpList_app0C {ops : Array Oper} {rest : List Oper} {o : Oper} {a : Act} {Q : Exit → Act → World → Prop} (hgd : o.guard = none) (s x : Operand)
    (ho : o.op = .call { callee := .builtin .append, args := #[s, x], argTypes := #[23, 23] })
    (hs : a.eval s = .slice (some ⟨l, 0, none⟩) 0 0) (hx : a.eval x = src) (O : OwnI w B (.slice (some ⟨l, 0, none⟩) 0 0) []) (hB : B ≤ w.heap.size) (hsrc : Ints w lo src ys)
    (hK : ∀ g r w', OwnI w' B (.slice (some ⟨g, 0, none⟩) ys.length r) ys → Ext w w' → (g = l ∨ w.heap.size ≤ g) → g < w'.heap.size → Hid (ys = [] → r = 0) → wpList Try.prog ops Q rest (a.put o.dst (.slice (some ⟨g, 0, none⟩) ys.length r)) w') : wpList Try.prog ops Q (o :: rest) a w := by
  refine wpList_plain hgd fun K hK' => ?_
  obtain ⟨g, r, w', hr, h1, h2, h3, h4, h5⟩ := run_app0O o.type O hB hsrc
  unfold Oper.wp execOp
  simp only [ho, resolve, invoke, builtin, Sem.run_bind, Sem.run_pure, Result.andThen_ok, List.map_toArray, List.map_cons, List.map_nil, hs, hx, hr]
  exact hK' _ _ (hK g r w' h1 h2 h3 h4 (Lib.hid h5))
end
/-- a call hands back a row of its own -/
def PIntsO (w : World) (xs : List Int) (e : Ending) (w' : World) : Prop := ∃ g r, e = .returned (.slice (some ⟨g, 0, none⟩) xs.length r) ∧ OwnI w' w.heap.size (.slice (some ⟨g, 0, none⟩) xs.length r) xs ∧ w.heap.size ≤ g ∧ g < w'.heap.size ∧ Ext w w'
/-- a call hands back a row of its own, without room where it is empty -/
def PIntsC (w : World) (xs : List Int) (e : Ending) (w' : World) : Prop := ∃ g r, e = .returned (.slice (some ⟨g, 0, none⟩) xs.length r) ∧ OwnI w' w.heap.size (.slice (some ⟨g, 0, none⟩) xs.length r) xs ∧ w.heap.size ≤ g ∧ g < w'.heap.size ∧ Hid (xs = [] → r = 0) ∧ Ext w w'
theorem PIntsC.o {w w' : World} {xs : List Int} {e : Ending} (h : PIntsC w xs e w') : PIntsO w xs e w' := by obtain ⟨g, r, h1, h2, h3, h4, -, h5⟩ := h; exact ⟨g, r, h1, h2, h3, h4, h5⟩
/-- an empty slice has no room -/
def CapZ (v : Value) (xs : List Int) : Prop := Hid (xs = [] → ∃ a, v = .slice a 0 0)
theorem CapZ.row {g r n : Nat} {ys xs : List Int} (hz : Hid (ys = [] → r = 0)) (hl : xs.length = ys.length) (hn : n = ys.length) : CapZ (.slice (some ⟨g, 0, none⟩) n r) xs :=
  Lib.hid fun h => by
    subst h
    have hy : ys = [] := List.eq_nil_of_length_eq_zero hl.symm
    rw [hn, hz.out hy, hy]
    exact ⟨_, rfl⟩
theorem CapZ.nil (xs : List Int) : CapZ (.slice none 0 0) xs := Lib.hid fun _ => ⟨_, rfl⟩
theorem CapZ.same {g n : Nat} {xs : List Int} (hn : n = xs.length) : CapZ (.slice (some ⟨g, 0, none⟩) n n) xs := Lib.hid fun h => by subst h; subst hn; exact ⟨_, rfl⟩
/-- a call hands back a new slice, without room where it is empty -/
def PIntsZ (w : World) (xs : List Int) (e : Ending) (w' : World) : Prop := ∃ v, e = .returned v ∧ Ints w' w.heap.size v xs ∧ OwnZ w' w.heap.size v xs ∧ CapZ v xs ∧ Ext w w'
/-- a call hands back a new slice, without room where it is empty, and whether that is possible -/
def PIntsBC (w : World) (xs : List Int) (b : Bool) (e : Ending) (w' : World) : Prop := ∃ v, e = .returned (.tuple #[v, .bool b]) ∧ Ints w' w.heap.size v xs ∧ OwnZ w' w.heap.size v xs ∧ CapZ v xs ∧ Ext w w'
theorem PIntsBC.nil {w w' : World} (h : Ext w w') : PIntsBC w [] false (.returned (.tuple #[.slice none 0 0, .bool false])) w' :=
  ⟨_, rfl, Ints.nil _ _ _ _ (by simp) (fun _ => rfl), .inl ⟨rfl, none, 0, rfl, by simp, fun _ => rfl⟩, CapZ.nil _, h⟩
end Go.Proofs.Ytgklaobfikbiiaa

/- Walks: copies of views that are rows. -/
namespace Go.Proofs.Ytgklaobfikbiiaa
open Go.RowKit
set_option linter.unusedVariables false
set_option maxRecDepth 100000

def PViewO (w : World) (b : Int) (s t : List Int) (e : Ending) (w' : World) : Prop := ∃ g1 g2 r1 r2, e = .returned (.agg #[.int .i64 b, .slice (some ⟨g1, 0, none⟩) s.length r1, .slice (some ⟨g2, 0, none⟩) t.length r2]) ∧ OwnI w' w.heap.size (.slice (some ⟨g1, 0, none⟩) s.length r1) s ∧ OwnI w' w.heap.size (.slice (some ⟨g2, 0, none⟩) t.length r2) t ∧ w.heap.size ≤ g1 ∧ g1 < w'.heap.size ∧ w.heap.size ≤ g2 ∧ g2 < w'.heap.size ∧ g1 ≠ g2 ∧ Ext w w'
set_option maxHeartbeats 1600000 in
theorem copyViewO_c (b1 : Int) (u1 v1 : Value) (s1 t1 : List Int) (w : World) (l1 m1 : Nat) (h1 : Ints w l1 u1 s1) (k1 : Ints w m1 v1 t1) :
  Calls Try.prog 57 #[.agg #[.int .i64 b1, u1, v1]] w (PViewO w b1 s1 t1) := by
 obtain ⟨p0, c0, rfl⟩ := h1.form
 obtain ⟨p1, c1, rfl⟩ := k1.form
 go_enter Try.func57, Try.ntmps57
 go_wp2_with fail
 generalize hW1 : (w.alloc (.cells #[.int .i64 b1, .slice p0 s1.length c0, .slice p1 t1.length c1] 30)).alloc (.cells #[.int .i64 0, .slice none 0 0, .slice none 0 0] 30) = w1 at *
 have Lw1 : Ext w w1 := by subst hW1; exact qXt
 have Xw1 : Ext w w1 := by subst hW1; exact Lw1
 have b10 : w1.cell? ⟨w.heap.size, 0, none⟩ = some (.int .i64 b1) := by subst hW1; exact qCl
 have b11 : w1.cell? ⟨w.heap.size, 1, none⟩ = some (.slice p0 s1.length c0) := by subst hW1; exact qCl
 have b12 : w1.cell? ⟨w.heap.size, 2, none⟩ = some (.slice p1 t1.length c1) := by subst hW1; exact qCl
 have b20 : w1.cell? ⟨w.heap.size + 1, 0, none⟩ = some (.int .i64 0) := by subst hW1; exact qCl
 have b21 : w1.cell? ⟨w.heap.size + 1, 1, none⟩ = some (.slice none 0 0) := by subst hW1; exact qCl
 have b22 : w1.cell? ⟨w.heap.size + 1, 2, none⟩ = some (.slice none 0 0) := by subst hW1; exact qCl
 have f_b20 : w1.frozen? ⟨w.heap.size + 1, 0, none⟩ = false := by subst hW1; exact qFz
 have f_b21 : w1.frozen? ⟨w.heap.size + 1, 1, none⟩ = false := by subst hW1; exact qFz
 have f_b22 : w1.frozen? ⟨w.heap.size + 1, 2, none⟩ = false := by subst hW1; exact qFz
 have z_b1 : w.heap.size < w1.heap.size := qB b10
 have z_b2 : w.heap.size + 1 < w1.heap.size := qB b20
 have s_w1 : w.heap.size ≤ w1.heap.size := Xw1.size
 clear hW1
 have Q3_b10 := Lib.hid b10
 have Q3_b11 := Lib.hid b11
 have Q3_b12 := Lib.hid b12
 have Q3_zb1 := z_b1
 have Q3_b20 := Lib.hid b20
 have Q3_f_b20 := Lib.hid f_b20
 have Q3_b21 := Lib.hid b21
 have Q3_f_b21 := Lib.hid f_b21
 have Q3_b22 := Lib.hid b22
 have Q3_f_b22 := Lib.hid f_b22
 have Q3_zb2 := z_b2
 have BL4 : Ext w1 w1 := Ext.refl _
 go_cut [] (fun  wx => ∃ (g5 : Nat) (r5 : Nat) (g9 : Nat) (r9 : Nat), Chg (w.heap.size + 1) (w.heap.size + 1 + 1) w1 wx ∧ w1.heap.size ≤ g5 ∧ g5 < wx.heap.size ∧ w1.heap.size ≤ g9 ∧ g9 < wx.heap.size ∧ g5 ≠ g9 ∧ OwnI wx w1.heap.size (.slice (some ⟨g5, 0, none⟩) s1.length r5) s1 ∧ OwnI wx w1.heap.size (.slice (some ⟨g9, 0, none⟩) t1.length r9) t1 ∧ wx.cell? ⟨w.heap.size + 1, 0, none⟩ = some (.int .i64 b1) ∧ wx.frozen? ⟨w.heap.size + 1, 0, none⟩ = false ∧ wx.cell? ⟨w.heap.size + 1, 1, none⟩ = some (.slice (some ⟨g5, 0, none⟩) s1.length r5) ∧ wx.frozen? ⟨w.heap.size + 1, 1, none⟩ = false ∧ wx.cell? ⟨w.heap.size + 1, 2, none⟩ = some (.slice (some ⟨g9, 0, none⟩) t1.length r9) ∧ wx.frozen? ⟨w.heap.size + 1, 2, none⟩ = false)
 case first =>
  have X1 : Ext w1 w1 := Ext.refl _
  refine wp_region_held_drew (S := fun w' => w'.cell? ⟨w.heap.size, 0, none⟩ = some (.int .i64 b1) ∧ w'.cell? ⟨w.heap.size, 1, none⟩ = some (.slice p0 s1.length c0) ∧ w'.cell? ⟨w.heap.size, 2, none⟩ = some (.slice p1 t1.length c1)) qKr ⟨b10, b11, b12⟩ (fun hHeld => ?_)
  refine qHk (v := ?_) 0 rfl (.inl ⟨by rfl, ?_⟩) ?_
  rotate_left
  ·
   (intro w hSw; (try dsimp only at hSw); go_simp; try with_reducible rfl)
  try simp only [Act.put, qa, qb, qc, qD, qE, qF]
  refine qHk (v := ?_) 1 rfl (.inl ⟨by rfl, ?_⟩) ?_
  rotate_left
  ·
   (intro w hSw; (try dsimp only at hSw); go_simp; try with_reducible rfl)
  try simp only [Act.put, qa, qb, qc, qD, qE, qF]
  refine qHk (v := ?_) 3 rfl (.inl ⟨by rfl, ?_⟩) ?_
  rotate_left
  ·
   (intro w hSw; (try dsimp only at hSw); go_simp; try with_reducible rfl)
  try simp only [Act.put, qa, qb, qc, qD, qE, qF]
  refine qHk (v := ?_) 4 rfl (.inl ⟨by rfl, ?_⟩) ?_
  rotate_left
  ·
   (intro w hSw; (try dsimp only at hSw); go_simp; try with_reducible rfl)
  try simp only [Act.put, qa, qb, qc, qD, qE, qF]
  refine qHk (v := ?_) 7 rfl (.inl ⟨by rfl, ?_⟩) ?_
  rotate_left
  ·
   (intro w hSw; (try dsimp only at hSw); go_simp; try with_reducible rfl)
  try simp only [Act.put, qa, qb, qc, qD, qE, qF]
  refine qHk (v := ?_) 8 rfl (.inl ⟨by rfl, ?_⟩) ?_
  rotate_left
  ·
   (intro w hSw; (try dsimp only at hSw); go_simp; try with_reducible rfl)
  try simp only [Act.put, qa, qb, qc, qD, qE, qF]
  refine wpAnyH_ready (rs := [2, 6]) qKr (by simp) ?_
  refine AllReadyH.cons rfl (fun K hK => ?_) (AllReadyH.cons rfl (fun K hK => ?_) AllReadyH.nil)
  ·
   try simp only [Act.put, qa, qb, qc, qD, qE, qF]
   go_simp
   refine hK.out _ (w1.drew.alloc (.cells #[] 3)) ⟨(show Ext w1 (w1.drew.alloc (.cells #[] 3)) from qXt).cell b10, (show Ext w1 (w1.drew.alloc (.cells #[] 3)) from qXt).cell b11, (show Ext w1 (w1.drew.alloc (.cells #[] 3)) from qXt).cell b12⟩ (fun hHeld => ?_)
   clear hK K
   try simp only [Act.put, qa, qb, qc, qD, qE, qF]
   generalize hW2 : w1.drew.alloc (.cells #[] 3) = w1_1 at *
   have S_w1_1 : w1.heap.size < w1_1.heap.size := by subst hW2; simp
   have hx7 : Ext w1 w1_1 := by subst hW2; exact qXt
   replace X1 := X1.trans hx7
   clear hx7
   have O1_2 : OwnI w1_1 w1.heap.size (.slice (some ⟨w1.heap.size, 0, none⟩) 0 0) [] := by subst hW2; exact OwnI.lit0 _ _ (by simp)
   have Yw1_1 := Ext.refl w1_1
   clear hW2
   refine wpAnyH_ready (rs := [5, 6]) qKr (by simp) ?_
   refine AllReadyH.cons rfl (fun K hK => ?_) (AllReadyH.cons rfl (fun K hK => ?_) AllReadyH.nil)
   ·
    refine step_app0O rfl (.tmp 5) (.tmp 7) rfl rfl rfl (O1_2.ext Yw1_1) (by omega) (by exact ((h1.ext Xw1).ext (show Ext w1 w1_1 from qXt))) ?_
    intro g1_6 r1_7 w1_3 O1_4 x1_5 Eg1_6 Hg1_6
    have S_w1_3 : w1_1.heap.size ≤ w1_3.heap.size := x1_5.size
    replace Yw1_1 := Yw1_1.trans x1_5
    replace X1 := X1.trans x1_5
    have Yw1_3 := Ext.refl w1_3
    clear x1_5
    refine hK.out _ w1_3 ⟨(show Ext w1 w1_3 from qXt).cell b10, (show Ext w1 w1_3 from qXt).cell b11, (show Ext w1 w1_3 from qXt).cell b12⟩ (fun hHeld => ?_)
    clear hK K
    try simp only [Act.put, qa, qb, qc, qD, qE, qF]
    refine qHr 6 rfl (fun K hK => ?_)
    try simp only [Act.put, qa, qb, qc, qD, qE, qF]
    go_simp
    refine hK.out _ (w1_3.alloc (.cells #[] 3)) ⟨(show Ext w1 (w1_3.alloc (.cells #[] 3)) from qXt).cell b10, (show Ext w1 (w1_3.alloc (.cells #[] 3)) from qXt).cell b11, (show Ext w1 (w1_3.alloc (.cells #[] 3)) from qXt).cell b12⟩ (fun hHeld => ?_)
    clear hK K
    try simp only [Act.put, qa, qb, qc, qD, qE, qF]
    generalize hW3 : w1_3.alloc (.cells #[] 3) = w1_8 at *
    have S_w1_8 : w1_3.heap.size < w1_8.heap.size := by subst hW3; simp
    have hx7 : Ext w1_3 w1_8 := by subst hW3; exact qXt
    replace Yw1_3 := Yw1_3.trans hx7
    replace X1 := X1.trans hx7
    clear hx7
    have O1_9 : OwnI w1_8 w1_3.heap.size (.slice (some ⟨w1_3.heap.size, 0, none⟩) 0 0) [] := by subst hW3; exact OwnI.lit0 _ _ (by simp)
    have Yw1_8 := Ext.refl w1_8
    clear hW3
    refine qHr 9 rfl (fun K hK => ?_)
    refine step_app0O rfl (.tmp 9) (.tmp 11) rfl rfl rfl (O1_9.ext Yw1_8) (by omega) (by exact ((k1.ext Xw1).ext (show Ext w1 w1_8 from qXt))) ?_
    intro g1_13 r1_14 w1_10 O1_11 x1_12 Eg1_13 Hg1_13
    have S_w1_10 : w1_8.heap.size ≤ w1_10.heap.size := x1_12.size
    replace Yw1_3 := Yw1_3.trans x1_12
    replace Yw1_8 := Yw1_8.trans x1_12
    replace X1 := X1.trans x1_12
    have Yw1_10 := Ext.refl w1_10
    clear x1_12
    refine hK.out _ w1_10 ⟨(show Ext w1 w1_10 from qXt).cell b10, (show Ext w1 w1_10 from qXt).cell b11, (show Ext w1 w1_10 from qXt).cell b12⟩ (fun hHeld => ?_)
    clear hK K
    try simp only [Act.put, qa, qb, qc, qD, qE, qF]
    refine qHk (v := ?_) 10 rfl (.inl ⟨by rfl, ?_⟩) ?_
    rotate_left
    ·
     (intro w hSw; (try dsimp only at hSw); go_simp; try with_reducible rfl)
    try simp only [Act.put, qa, qb, qc, qD, qE, qF]
    refine qHr 11 rfl (fun K hK => ?_)
    try simp only [Act.put, qa, qb, qc, qD, qE, qF]
    replace b20 := X1.cell b20
    replace f_b20 := X1.frz z_b2 f_b20
    replace b21 := X1.cell b21
    replace f_b21 := X1.frz z_b2 f_b21
    replace b22 := X1.cell b22
    replace f_b22 := X1.frz z_b2 f_b22
    go_simp
    have zz := X1.size
    have K1 : Chg (w.heap.size + 1) (w.heap.size + 1 + 1) w1_10 (((w1_10.setCell ⟨w.heap.size + 1, 0, none⟩ (.int .i64 b1)).setCell ⟨w.heap.size + 1, 1, none⟩ (.slice (some ⟨g1_6, 0, none⟩) s1.length r1_7)).setCell ⟨w.heap.size + 1, 2, none⟩ (.slice (some ⟨g1_13, 0, none⟩) t1.length r1_14)) := (Chg.setCell (p := ⟨w.heap.size + 1, 2, none⟩) (Chg.setCell (p := ⟨w.heap.size + 1, 1, none⟩) (Chg.setCell (p := ⟨w.heap.size + 1, 0, none⟩) (Chg.refl (w.heap.size + 1) ((w.heap.size + 1) + 1) w1_10) (Nat.le_refl _) (Nat.lt_succ_self _) _) (Nat.le_refl _) (Nat.lt_succ_self _) _) (Nat.le_refl _) (Nat.lt_succ_self _) _)
    have n_b20 : (((w1_10.setCell ⟨w.heap.size + 1, 0, none⟩ (.int .i64 b1)).setCell ⟨w.heap.size + 1, 1, none⟩ (.slice (some ⟨g1_6, 0, none⟩) s1.length r1_7)).setCell ⟨w.heap.size + 1, 2, none⟩ (.slice (some ⟨g1_13, 0, none⟩) t1.length r1_14)).cell? ⟨w.heap.size + 1, 0, none⟩ = some (.int .i64 b1) := by go_simp
    replace f_b20 : (((w1_10.setCell ⟨w.heap.size + 1, 0, none⟩ (.int .i64 b1)).setCell ⟨w.heap.size + 1, 1, none⟩ (.slice (some ⟨g1_6, 0, none⟩) s1.length r1_7)).setCell ⟨w.heap.size + 1, 2, none⟩ (.slice (some ⟨g1_13, 0, none⟩) t1.length r1_14)).frozen? ⟨w.heap.size + 1, 0, none⟩ = false := by go_simp
    have n_b21 : (((w1_10.setCell ⟨w.heap.size + 1, 0, none⟩ (.int .i64 b1)).setCell ⟨w.heap.size + 1, 1, none⟩ (.slice (some ⟨g1_6, 0, none⟩) s1.length r1_7)).setCell ⟨w.heap.size + 1, 2, none⟩ (.slice (some ⟨g1_13, 0, none⟩) t1.length r1_14)).cell? ⟨w.heap.size + 1, 1, none⟩ = some (.slice (some ⟨g1_6, 0, none⟩) s1.length r1_7) := by go_simp
    replace f_b21 : (((w1_10.setCell ⟨w.heap.size + 1, 0, none⟩ (.int .i64 b1)).setCell ⟨w.heap.size + 1, 1, none⟩ (.slice (some ⟨g1_6, 0, none⟩) s1.length r1_7)).setCell ⟨w.heap.size + 1, 2, none⟩ (.slice (some ⟨g1_13, 0, none⟩) t1.length r1_14)).frozen? ⟨w.heap.size + 1, 1, none⟩ = false := by go_simp
    have n_b22 : (((w1_10.setCell ⟨w.heap.size + 1, 0, none⟩ (.int .i64 b1)).setCell ⟨w.heap.size + 1, 1, none⟩ (.slice (some ⟨g1_6, 0, none⟩) s1.length r1_7)).setCell ⟨w.heap.size + 1, 2, none⟩ (.slice (some ⟨g1_13, 0, none⟩) t1.length r1_14)).cell? ⟨w.heap.size + 1, 2, none⟩ = some (.slice (some ⟨g1_13, 0, none⟩) t1.length r1_14) := by go_simp
    replace f_b22 : (((w1_10.setCell ⟨w.heap.size + 1, 0, none⟩ (.int .i64 b1)).setCell ⟨w.heap.size + 1, 1, none⟩ (.slice (some ⟨g1_6, 0, none⟩) s1.length r1_7)).setCell ⟨w.heap.size + 1, 2, none⟩ (.slice (some ⟨g1_13, 0, none⟩) t1.length r1_14)).frozen? ⟨w.heap.size + 1, 2, none⟩ = false := by go_simp
    replace O1_4 := (O1_4.ext Yw1_3).chgN K1 (by omega)
    replace O1_11 := (O1_11.ext Yw1_10).chgN K1 (by omega)
    have C1 : Chg (w.heap.size + 1) (w.heap.size + 1 + 1) w1 (((w1_10.setCell ⟨w.heap.size + 1, 0, none⟩ (.int .i64 b1)).setCell ⟨w.heap.size + 1, 1, none⟩ (.slice (some ⟨g1_6, 0, none⟩) s1.length r1_7)).setCell ⟨w.heap.size + 1, 2, none⟩ (.slice (some ⟨g1_13, 0, none⟩) t1.length r1_14)) := (Chg.of_ext X1).trans K1
    clear zz K1
    have S_st : w1_10.heap.size ≤ (((w1_10.setCell ⟨w.heap.size + 1, 0, none⟩ (.int .i64 b1)).setCell ⟨w.heap.size + 1, 1, none⟩ (.slice (some ⟨g1_6, 0, none⟩) s1.length r1_7)).setCell ⟨w.heap.size + 1, 2, none⟩ (.slice (some ⟨g1_13, 0, none⟩) t1.length r1_14)).heap.size := by simp
    refine hK.out _ ((((w1_10.setCell ⟨w.heap.size + 1, 0, none⟩ (.int .i64 b1)).setCell ⟨w.heap.size + 1, 1, none⟩ (.slice (some ⟨g1_6, 0, none⟩) s1.length r1_7)).setCell ⟨w.heap.size + 1, 2, none⟩ (.slice (some ⟨g1_13, 0, none⟩) t1.length r1_14))) ⟨C1.cell (by omega) b10, C1.cell (by omega) b11, C1.cell (by omega) b12⟩ (fun hHeld => ?_)
    clear hK K
    try simp only [Act.put, qa, qb, qc, qD, qE, qF]
    refine wpAnyH_done qKr ?_ _
    clear hHeld
    have zz := X1.size
    go_step
    go_step
    go_meet
    case rel => exact ⟨g1_6, r1_7, g1_13, r1_14, C1, (by omega), (by omega), (by omega), (by omega), (by omega), (O1_4).lower (by omega), (O1_11).lower (by omega), n_b20, f_b20, n_b21, f_b21, n_b22, f_b22⟩
   ·
    try simp only [Act.put, qa, qb, qc, qD, qE, qF]
    go_simp
    refine hK.out _ (w1_1.alloc (.cells #[] 3)) ⟨(show Ext w1 (w1_1.alloc (.cells #[] 3)) from qXt).cell b10, (show Ext w1 (w1_1.alloc (.cells #[] 3)) from qXt).cell b11, (show Ext w1 (w1_1.alloc (.cells #[] 3)) from qXt).cell b12⟩ (fun hHeld => ?_)
    clear hK K
    try simp only [Act.put, qa, qb, qc, qD, qE, qF]
    generalize hW4 : w1_1.alloc (.cells #[] 3) = w1_15 at *
    have S_w1_15 : w1_1.heap.size < w1_15.heap.size := by subst hW4; simp
    have hx7 : Ext w1_1 w1_15 := by subst hW4; exact qXt
    replace Yw1_1 := Yw1_1.trans hx7
    replace X1 := X1.trans hx7
    clear hx7
    have O1_16 : OwnI w1_15 w1_1.heap.size (.slice (some ⟨w1_1.heap.size, 0, none⟩) 0 0) [] := by subst hW4; exact OwnI.lit0 _ _ (by simp)
    have Yw1_15 := Ext.refl w1_15
    clear hW4
    refine qHr 5 rfl (fun K hK => ?_)
    refine step_app0O rfl (.tmp 5) (.tmp 7) rfl rfl rfl (O1_2.ext Yw1_1) (by omega) (by exact ((h1.ext Xw1).ext (show Ext w1 w1_15 from qXt))) ?_
    intro g1_20 r1_21 w1_17 O1_18 x1_19 Eg1_20 Hg1_20
    have S_w1_17 : w1_15.heap.size ≤ w1_17.heap.size := x1_19.size
    replace Yw1_1 := Yw1_1.trans x1_19
    replace Yw1_15 := Yw1_15.trans x1_19
    replace X1 := X1.trans x1_19
    have Yw1_17 := Ext.refl w1_17
    clear x1_19
    refine hK.out _ w1_17 ⟨(show Ext w1 w1_17 from qXt).cell b10, (show Ext w1 w1_17 from qXt).cell b11, (show Ext w1 w1_17 from qXt).cell b12⟩ (fun hHeld => ?_)
    clear hK K
    try simp only [Act.put, qa, qb, qc, qD, qE, qF]
    refine qHr 9 rfl (fun K hK => ?_)
    refine step_app0O rfl (.tmp 9) (.tmp 11) rfl rfl rfl (O1_16.ext Yw1_15) (by omega) (by exact ((k1.ext Xw1).ext (show Ext w1 w1_17 from qXt))) ?_
    intro g1_25 r1_26 w1_22 O1_23 x1_24 Eg1_25 Hg1_25
    have S_w1_22 : w1_17.heap.size ≤ w1_22.heap.size := x1_24.size
    replace Yw1_15 := Yw1_15.trans x1_24
    replace Yw1_17 := Yw1_17.trans x1_24
    replace X1 := X1.trans x1_24
    have Yw1_22 := Ext.refl w1_22
    clear x1_24
    refine hK.out _ w1_22 ⟨(show Ext w1 w1_22 from qXt).cell b10, (show Ext w1 w1_22 from qXt).cell b11, (show Ext w1 w1_22 from qXt).cell b12⟩ (fun hHeld => ?_)
    clear hK K
    try simp only [Act.put, qa, qb, qc, qD, qE, qF]
    refine qHk (v := ?_) 10 rfl (.inl ⟨by rfl, ?_⟩) ?_
    rotate_left
    ·
     (intro w hSw; (try dsimp only at hSw); go_simp; try with_reducible rfl)
    try simp only [Act.put, qa, qb, qc, qD, qE, qF]
    refine qHr 11 rfl (fun K hK => ?_)
    try simp only [Act.put, qa, qb, qc, qD, qE, qF]
    replace b20 := X1.cell b20
    replace f_b20 := X1.frz z_b2 f_b20
    replace b21 := X1.cell b21
    replace f_b21 := X1.frz z_b2 f_b21
    replace b22 := X1.cell b22
    replace f_b22 := X1.frz z_b2 f_b22
    go_simp
    have zz := X1.size
    have K1 : Chg (w.heap.size + 1) (w.heap.size + 1 + 1) w1_22 (((w1_22.setCell ⟨w.heap.size + 1, 0, none⟩ (.int .i64 b1)).setCell ⟨w.heap.size + 1, 1, none⟩ (.slice (some ⟨g1_20, 0, none⟩) s1.length r1_21)).setCell ⟨w.heap.size + 1, 2, none⟩ (.slice (some ⟨g1_25, 0, none⟩) t1.length r1_26)) := (Chg.setCell (p := ⟨w.heap.size + 1, 2, none⟩) (Chg.setCell (p := ⟨w.heap.size + 1, 1, none⟩) (Chg.setCell (p := ⟨w.heap.size + 1, 0, none⟩) (Chg.refl (w.heap.size + 1) ((w.heap.size + 1) + 1) w1_22) (Nat.le_refl _) (Nat.lt_succ_self _) _) (Nat.le_refl _) (Nat.lt_succ_self _) _) (Nat.le_refl _) (Nat.lt_succ_self _) _)
    have n_b20 : (((w1_22.setCell ⟨w.heap.size + 1, 0, none⟩ (.int .i64 b1)).setCell ⟨w.heap.size + 1, 1, none⟩ (.slice (some ⟨g1_20, 0, none⟩) s1.length r1_21)).setCell ⟨w.heap.size + 1, 2, none⟩ (.slice (some ⟨g1_25, 0, none⟩) t1.length r1_26)).cell? ⟨w.heap.size + 1, 0, none⟩ = some (.int .i64 b1) := by go_simp
    replace f_b20 : (((w1_22.setCell ⟨w.heap.size + 1, 0, none⟩ (.int .i64 b1)).setCell ⟨w.heap.size + 1, 1, none⟩ (.slice (some ⟨g1_20, 0, none⟩) s1.length r1_21)).setCell ⟨w.heap.size + 1, 2, none⟩ (.slice (some ⟨g1_25, 0, none⟩) t1.length r1_26)).frozen? ⟨w.heap.size + 1, 0, none⟩ = false := by go_simp
    have n_b21 : (((w1_22.setCell ⟨w.heap.size + 1, 0, none⟩ (.int .i64 b1)).setCell ⟨w.heap.size + 1, 1, none⟩ (.slice (some ⟨g1_20, 0, none⟩) s1.length r1_21)).setCell ⟨w.heap.size + 1, 2, none⟩ (.slice (some ⟨g1_25, 0, none⟩) t1.length r1_26)).cell? ⟨w.heap.size + 1, 1, none⟩ = some (.slice (some ⟨g1_20, 0, none⟩) s1.length r1_21) := by go_simp
    replace f_b21 : (((w1_22.setCell ⟨w.heap.size + 1, 0, none⟩ (.int .i64 b1)).setCell ⟨w.heap.size + 1, 1, none⟩ (.slice (some ⟨g1_20, 0, none⟩) s1.length r1_21)).setCell ⟨w.heap.size + 1, 2, none⟩ (.slice (some ⟨g1_25, 0, none⟩) t1.length r1_26)).frozen? ⟨w.heap.size + 1, 1, none⟩ = false := by go_simp
    have n_b22 : (((w1_22.setCell ⟨w.heap.size + 1, 0, none⟩ (.int .i64 b1)).setCell ⟨w.heap.size + 1, 1, none⟩ (.slice (some ⟨g1_20, 0, none⟩) s1.length r1_21)).setCell ⟨w.heap.size + 1, 2, none⟩ (.slice (some ⟨g1_25, 0, none⟩) t1.length r1_26)).cell? ⟨w.heap.size + 1, 2, none⟩ = some (.slice (some ⟨g1_25, 0, none⟩) t1.length r1_26) := by go_simp
    replace f_b22 : (((w1_22.setCell ⟨w.heap.size + 1, 0, none⟩ (.int .i64 b1)).setCell ⟨w.heap.size + 1, 1, none⟩ (.slice (some ⟨g1_20, 0, none⟩) s1.length r1_21)).setCell ⟨w.heap.size + 1, 2, none⟩ (.slice (some ⟨g1_25, 0, none⟩) t1.length r1_26)).frozen? ⟨w.heap.size + 1, 2, none⟩ = false := by go_simp
    replace O1_18 := (O1_18.ext Yw1_17).chgN K1 (by omega)
    replace O1_23 := (O1_23.ext Yw1_22).chgN K1 (by omega)
    have C1 : Chg (w.heap.size + 1) (w.heap.size + 1 + 1) w1 (((w1_22.setCell ⟨w.heap.size + 1, 0, none⟩ (.int .i64 b1)).setCell ⟨w.heap.size + 1, 1, none⟩ (.slice (some ⟨g1_20, 0, none⟩) s1.length r1_21)).setCell ⟨w.heap.size + 1, 2, none⟩ (.slice (some ⟨g1_25, 0, none⟩) t1.length r1_26)) := (Chg.of_ext X1).trans K1
    clear zz K1
    have S_st : w1_22.heap.size ≤ (((w1_22.setCell ⟨w.heap.size + 1, 0, none⟩ (.int .i64 b1)).setCell ⟨w.heap.size + 1, 1, none⟩ (.slice (some ⟨g1_20, 0, none⟩) s1.length r1_21)).setCell ⟨w.heap.size + 1, 2, none⟩ (.slice (some ⟨g1_25, 0, none⟩) t1.length r1_26)).heap.size := by simp
    refine hK.out _ ((((w1_22.setCell ⟨w.heap.size + 1, 0, none⟩ (.int .i64 b1)).setCell ⟨w.heap.size + 1, 1, none⟩ (.slice (some ⟨g1_20, 0, none⟩) s1.length r1_21)).setCell ⟨w.heap.size + 1, 2, none⟩ (.slice (some ⟨g1_25, 0, none⟩) t1.length r1_26))) ⟨C1.cell (by omega) b10, C1.cell (by omega) b11, C1.cell (by omega) b12⟩ (fun hHeld => ?_)
    clear hK K
    try simp only [Act.put, qa, qb, qc, qD, qE, qF]
    refine wpAnyH_done qKr ?_ _
    clear hHeld
    have zz := X1.size
    go_step
    go_step
    go_meet
    case rel => exact ⟨g1_20, r1_21, g1_25, r1_26, C1, (by omega), (by omega), (by omega), (by omega), (by omega), (O1_18).lower (by omega), (O1_23).lower (by omega), n_b20, f_b20, n_b21, f_b21, n_b22, f_b22⟩
  ·
   try simp only [Act.put, qa, qb, qc, qD, qE, qF]
   go_simp
   refine hK.out _ (w1.drew.alloc (.cells #[] 3)) ⟨(show Ext w1 (w1.drew.alloc (.cells #[] 3)) from qXt).cell b10, (show Ext w1 (w1.drew.alloc (.cells #[] 3)) from qXt).cell b11, (show Ext w1 (w1.drew.alloc (.cells #[] 3)) from qXt).cell b12⟩ (fun hHeld => ?_)
   clear hK K
   try simp only [Act.put, qa, qb, qc, qD, qE, qF]
   generalize hW5 : w1.drew.alloc (.cells #[] 3) = w1_27 at *
   have S_w1_27 : w1.heap.size < w1_27.heap.size := by subst hW5; simp
   have hx7 : Ext w1 w1_27 := by subst hW5; exact qXt
   replace X1 := X1.trans hx7
   clear hx7
   have O1_28 : OwnI w1_27 w1.heap.size (.slice (some ⟨w1.heap.size, 0, none⟩) 0 0) [] := by subst hW5; exact OwnI.lit0 _ _ (by simp)
   have Yw1_27 := Ext.refl w1_27
   clear hW5
   refine qHr 2 rfl (fun K hK => ?_)
   try simp only [Act.put, qa, qb, qc, qD, qE, qF]
   go_simp
   refine hK.out _ (w1_27.alloc (.cells #[] 3)) ⟨(show Ext w1 (w1_27.alloc (.cells #[] 3)) from qXt).cell b10, (show Ext w1 (w1_27.alloc (.cells #[] 3)) from qXt).cell b11, (show Ext w1 (w1_27.alloc (.cells #[] 3)) from qXt).cell b12⟩ (fun hHeld => ?_)
   clear hK K
   try simp only [Act.put, qa, qb, qc, qD, qE, qF]
   generalize hW6 : w1_27.alloc (.cells #[] 3) = w1_29 at *
   have S_w1_29 : w1_27.heap.size < w1_29.heap.size := by subst hW6; simp
   have hx7 : Ext w1_27 w1_29 := by subst hW6; exact qXt
   replace Yw1_27 := Yw1_27.trans hx7
   replace X1 := X1.trans hx7
   clear hx7
   have O1_30 : OwnI w1_29 w1_27.heap.size (.slice (some ⟨w1_27.heap.size, 0, none⟩) 0 0) [] := by subst hW6; exact OwnI.lit0 _ _ (by simp)
   have Yw1_29 := Ext.refl w1_29
   clear hW6
   refine qHr 5 rfl (fun K hK => ?_)
   refine step_app0O rfl (.tmp 5) (.tmp 7) rfl rfl rfl (O1_30.ext Yw1_29) (by omega) (by exact ((h1.ext Xw1).ext (show Ext w1 w1_29 from qXt))) ?_
   intro g1_34 r1_35 w1_31 O1_32 x1_33 Eg1_34 Hg1_34
   have S_w1_31 : w1_29.heap.size ≤ w1_31.heap.size := x1_33.size
   replace Yw1_27 := Yw1_27.trans x1_33
   replace Yw1_29 := Yw1_29.trans x1_33
   replace X1 := X1.trans x1_33
   have Yw1_31 := Ext.refl w1_31
   clear x1_33
   refine hK.out _ w1_31 ⟨(show Ext w1 w1_31 from qXt).cell b10, (show Ext w1 w1_31 from qXt).cell b11, (show Ext w1 w1_31 from qXt).cell b12⟩ (fun hHeld => ?_)
   clear hK K
   try simp only [Act.put, qa, qb, qc, qD, qE, qF]
   refine qHr 9 rfl (fun K hK => ?_)
   refine step_app0O rfl (.tmp 9) (.tmp 11) rfl rfl rfl (O1_28.ext Yw1_27) (by omega) (by exact ((k1.ext Xw1).ext (show Ext w1 w1_31 from qXt))) ?_
   intro g1_39 r1_40 w1_36 O1_37 x1_38 Eg1_39 Hg1_39
   have S_w1_36 : w1_31.heap.size ≤ w1_36.heap.size := x1_38.size
   replace Yw1_27 := Yw1_27.trans x1_38
   replace Yw1_31 := Yw1_31.trans x1_38
   replace X1 := X1.trans x1_38
   have Yw1_36 := Ext.refl w1_36
   clear x1_38
   refine hK.out _ w1_36 ⟨(show Ext w1 w1_36 from qXt).cell b10, (show Ext w1 w1_36 from qXt).cell b11, (show Ext w1 w1_36 from qXt).cell b12⟩ (fun hHeld => ?_)
   clear hK K
   try simp only [Act.put, qa, qb, qc, qD, qE, qF]
   refine qHk (v := ?_) 10 rfl (.inl ⟨by rfl, ?_⟩) ?_
   rotate_left
   ·
    (intro w hSw; (try dsimp only at hSw); go_simp; try with_reducible rfl)
   try simp only [Act.put, qa, qb, qc, qD, qE, qF]
   refine qHr 11 rfl (fun K hK => ?_)
   try simp only [Act.put, qa, qb, qc, qD, qE, qF]
   replace b20 := X1.cell b20
   replace f_b20 := X1.frz z_b2 f_b20
   replace b21 := X1.cell b21
   replace f_b21 := X1.frz z_b2 f_b21
   replace b22 := X1.cell b22
   replace f_b22 := X1.frz z_b2 f_b22
   go_simp
   have zz := X1.size
   have K1 : Chg (w.heap.size + 1) (w.heap.size + 1 + 1) w1_36 (((w1_36.setCell ⟨w.heap.size + 1, 0, none⟩ (.int .i64 b1)).setCell ⟨w.heap.size + 1, 1, none⟩ (.slice (some ⟨g1_34, 0, none⟩) s1.length r1_35)).setCell ⟨w.heap.size + 1, 2, none⟩ (.slice (some ⟨g1_39, 0, none⟩) t1.length r1_40)) := (Chg.setCell (p := ⟨w.heap.size + 1, 2, none⟩) (Chg.setCell (p := ⟨w.heap.size + 1, 1, none⟩) (Chg.setCell (p := ⟨w.heap.size + 1, 0, none⟩) (Chg.refl (w.heap.size + 1) ((w.heap.size + 1) + 1) w1_36) (Nat.le_refl _) (Nat.lt_succ_self _) _) (Nat.le_refl _) (Nat.lt_succ_self _) _) (Nat.le_refl _) (Nat.lt_succ_self _) _)
   have n_b20 : (((w1_36.setCell ⟨w.heap.size + 1, 0, none⟩ (.int .i64 b1)).setCell ⟨w.heap.size + 1, 1, none⟩ (.slice (some ⟨g1_34, 0, none⟩) s1.length r1_35)).setCell ⟨w.heap.size + 1, 2, none⟩ (.slice (some ⟨g1_39, 0, none⟩) t1.length r1_40)).cell? ⟨w.heap.size + 1, 0, none⟩ = some (.int .i64 b1) := by go_simp
   replace f_b20 : (((w1_36.setCell ⟨w.heap.size + 1, 0, none⟩ (.int .i64 b1)).setCell ⟨w.heap.size + 1, 1, none⟩ (.slice (some ⟨g1_34, 0, none⟩) s1.length r1_35)).setCell ⟨w.heap.size + 1, 2, none⟩ (.slice (some ⟨g1_39, 0, none⟩) t1.length r1_40)).frozen? ⟨w.heap.size + 1, 0, none⟩ = false := by go_simp
   have n_b21 : (((w1_36.setCell ⟨w.heap.size + 1, 0, none⟩ (.int .i64 b1)).setCell ⟨w.heap.size + 1, 1, none⟩ (.slice (some ⟨g1_34, 0, none⟩) s1.length r1_35)).setCell ⟨w.heap.size + 1, 2, none⟩ (.slice (some ⟨g1_39, 0, none⟩) t1.length r1_40)).cell? ⟨w.heap.size + 1, 1, none⟩ = some (.slice (some ⟨g1_34, 0, none⟩) s1.length r1_35) := by go_simp
   replace f_b21 : (((w1_36.setCell ⟨w.heap.size + 1, 0, none⟩ (.int .i64 b1)).setCell ⟨w.heap.size + 1, 1, none⟩ (.slice (some ⟨g1_34, 0, none⟩) s1.length r1_35)).setCell ⟨w.heap.size + 1, 2, none⟩ (.slice (some ⟨g1_39, 0, none⟩) t1.length r1_40)).frozen? ⟨w.heap.size + 1, 1, none⟩ = false := by go_simp
   have n_b22 : (((w1_36.setCell ⟨w.heap.size + 1, 0, none⟩ (.int .i64 b1)).setCell ⟨w.heap.size + 1, 1, none⟩ (.slice (some ⟨g1_34, 0, none⟩) s1.length r1_35)).setCell ⟨w.heap.size + 1, 2, none⟩ (.slice (some ⟨g1_39, 0, none⟩) t1.length r1_40)).cell? ⟨w.heap.size + 1, 2, none⟩ = some (.slice (some ⟨g1_39, 0, none⟩) t1.length r1_40) := by go_simp
   replace f_b22 : (((w1_36.setCell ⟨w.heap.size + 1, 0, none⟩ (.int .i64 b1)).setCell ⟨w.heap.size + 1, 1, none⟩ (.slice (some ⟨g1_34, 0, none⟩) s1.length r1_35)).setCell ⟨w.heap.size + 1, 2, none⟩ (.slice (some ⟨g1_39, 0, none⟩) t1.length r1_40)).frozen? ⟨w.heap.size + 1, 2, none⟩ = false := by go_simp
   replace O1_32 := (O1_32.ext Yw1_31).chgN K1 (by omega)
   replace O1_37 := (O1_37.ext Yw1_36).chgN K1 (by omega)
   have C1 : Chg (w.heap.size + 1) (w.heap.size + 1 + 1) w1 (((w1_36.setCell ⟨w.heap.size + 1, 0, none⟩ (.int .i64 b1)).setCell ⟨w.heap.size + 1, 1, none⟩ (.slice (some ⟨g1_34, 0, none⟩) s1.length r1_35)).setCell ⟨w.heap.size + 1, 2, none⟩ (.slice (some ⟨g1_39, 0, none⟩) t1.length r1_40)) := (Chg.of_ext X1).trans K1
   clear zz K1
   have S_st : w1_36.heap.size ≤ (((w1_36.setCell ⟨w.heap.size + 1, 0, none⟩ (.int .i64 b1)).setCell ⟨w.heap.size + 1, 1, none⟩ (.slice (some ⟨g1_34, 0, none⟩) s1.length r1_35)).setCell ⟨w.heap.size + 1, 2, none⟩ (.slice (some ⟨g1_39, 0, none⟩) t1.length r1_40)).heap.size := by simp
   refine hK.out _ ((((w1_36.setCell ⟨w.heap.size + 1, 0, none⟩ (.int .i64 b1)).setCell ⟨w.heap.size + 1, 1, none⟩ (.slice (some ⟨g1_34, 0, none⟩) s1.length r1_35)).setCell ⟨w.heap.size + 1, 2, none⟩ (.slice (some ⟨g1_39, 0, none⟩) t1.length r1_40))) ⟨C1.cell (by omega) b10, C1.cell (by omega) b11, C1.cell (by omega) b12⟩ (fun hHeld => ?_)
   clear hK K
   try simp only [Act.put, qa, qb, qc, qD, qE, qF]
   refine wpAnyH_done qKr ?_ _
   clear hHeld
   have zz := X1.size
   go_step
   go_step
   go_meet
   case rel => exact ⟨g1_34, r1_35, g1_39, r1_40, C1, (by omega), (by omega), (by omega), (by omega), (by omega), (O1_32).lower (by omega), (O1_37).lower (by omega), n_b20, f_b20, n_b21, f_b21, n_b22, f_b22⟩
 case rest =>
  generalize wc = wc5 at hcut ⊢
  obtain ⟨g7, r8, g9, r10, xx6, Gg7, Hg7, Gg9, Hg9, Dg7g9, O11, O12, N_b20, M_b20, N_b21, M_b21, N_b22, M_b22⟩ := hcut
  have zc_wc5 := xx6.size
  have Xwc5 : Ext w wc5 := Ext.chg Xw1 xx6 (by omega)
  replace b10 := xx6.cell (by omega) b10
  replace b11 := xx6.cell (by omega) b11
  replace b12 := xx6.cell (by omega) b12
  replace b20 := N_b20
  clear N_b20
  replace f_b20 := M_b20
  clear M_b20
  replace b21 := N_b21
  clear N_b21
  replace f_b21 := M_b21
  clear M_b21
  replace b22 := N_b22
  clear N_b22
  replace f_b22 := M_b22
  clear M_b22
  have z_b1 : w.heap.size < wc5.heap.size := qB b10
  have z_b2 : w.heap.size + 1 < wc5.heap.size := qB b20
  have s_wc5 : w.heap.size ≤ wc5.heap.size := Xwc5.size
  clear xx6
  go_wp2_with fail
  refine bodyPost_ret (v := .agg #[.int .i64 b1, .slice (some ⟨g7, 0, none⟩) s1.length r8, .slice (some ⟨g9, 0, none⟩) t1.length r10]) (by simp only [results, Try.results57]; go_simp) rfl ?_
  exact ⟨g7, g9, _, _, rfl, O11.lower (by omega), O12.lower (by omega), by omega, by omega, by omega, by omega, by omega, (Xwc5.trans qXt)⟩


end Go.Proofs.Ytgklaobfikbiiaa

/- Words for memory: exports in rows of their own. No condition. -/
namespace Go.Proofs.Ytgklaobfikbiiaa
open Go.RowKit
set_option linter.unusedVariables false
set_option maxRecDepth 100000

/-- the rows of exports: shapes at even places, strides at odd ones -/
def rowAt (es : List Exp) (p : Nat) : List Int := if p % 2 = 0 then (expAt es (p / 2)).s else (expAt es (p / 2)).t
theorem rowAt_even (es : List Exp) (i : Nat) : rowAt es (2 * i) = (expAt es i).s := by unfold rowAt; rw [if_pos (by omega)]; congr 2; omega
theorem rowAt_odd (es : List Exp) (i : Nat) : rowAt es (2 * i + 1) = (expAt es i).t := by unfold rowAt; rw [if_neg (by omega)]; congr 2; omega
theorem expAt_app1 {es : List Exp} {e : Exp} {i : Nat} (h : i < es.length) : expAt (es ++ [e]) i = expAt es i := by unfold expAt; rw [List.getD_eq_getElem?_getD, List.getElem?_append_left h, ← List.getD_eq_getElem?_getD]
theorem expAt_app2 (es : List Exp) (e : Exp) : expAt (es ++ [e]) es.length = e := by unfold expAt; simp
theorem rowAt_app {es : List Exp} {e : Exp} {p : Nat} (h : p < 2 * es.length) : rowAt (es ++ [e]) p = rowAt es p := by unfold rowAt; rw [expAt_app1 (by omega)]
theorem expAt_set (es : List Exp) (i : Nat) (e : Exp) (j : Nat) (hi : i < es.length) : expAt (es.set i e) j = if j = i then e else expAt es j := by
 unfold expAt
 by_cases h : j = i
 ·
  subst h; simp [hi]
 ·
  rw [if_neg h, List.getD_eq_getElem?_getD, List.getElem?_set_ne (by omega), ← List.getD_eq_getElem?_getD]
theorem take_expAt {es : List Exp} {k : Nat} (h : k < es.length) : es.take (k+1) = es.take k ++ [expAt es k] := by rw [List.take_succ_eq_append_getElem h, expAt_get h]
/-- the cells of an export -/
def eCells (e : Exp) (u v : Value) : List Value := [.int .i64 e.par, .int .i64 e.b, u, v, .bool e.op]
def cellsE (es : List Exp) (R : Nat → Value) : List (List Value) := (List.range es.length).map fun i => eCells (expAt es i) (R (2 * i)) (R (2 * i + 1))
theorem cellsE_len (es : List Exp) (R : Nat → Value) : (cellsE es R).length = es.length := by simp [cellsE]
theorem cellsE_get (es : List Exp) (R : Nat → Value) (i : Nat) (h : i < (cellsE es R).length) : (cellsE es R)[i] = eCells (expAt es i) (R (2 * i)) (R (2 * i + 1)) := by simp [cellsE]
abbrev TEXPORT : TypeId := 32
/-- exports in rows of their own -/
structure ExpR (w : World) (lo : Nat) (ev : Value) (es : List Exp) (R : Nat → Value) : Prop where
 row : OwnC w lo TEXPORT 5 ev (cellsE es R)
 nest : ∀ p, p < 2 * es.length → OwnZ w lo (R p) (rowAt es p)
 lens : ∀ p, p < 2 * es.length → (rowAt es p).length ≤ 4194304
 apart : ∀ p q, p < q → q < 2 * es.length → rowAt es p ≠ [] → rowAt es q ≠ [] → (R p).ownBlock ≠ (R q).ownBlock
 off : ∀ p, p < 2 * es.length → rowAt es p ≠ [] → (R p).ownBlock ≠ ev.ownBlock
section
variable {w w' W : World} {lo lo' : Nat} {ev : Value} {es : List Exp} {R : Nat → Value}
theorem ExpR.nil (w : World) (lo : Nat) (R : Nat → Value) : ExpR w lo (.slice none 0 0) [] R :=
 ⟨OwnC.nil, fun p h => by simp at h, fun p h => by simp at h, fun p q _ h => by simp at h, fun p h => by simp at h⟩
theorem ExpR.ext (h : ExpR w lo ev es R) (hx : Ext w w') : ExpR w' lo ev es R := ⟨h.row.ext hx, fun p hp => (h.nest p hp).ext hx, h.lens, h.apart, h.off⟩
theorem ExpR.lower (h : ExpR w lo ev es R) (hl : lo' ≤ lo) : ExpR w lo' ev es R := ⟨h.row.lower hl, fun p hp => (h.nest p hp).lower hl, h.lens, h.apart, h.off⟩
theorem ExpR.chg {l hi : Nat} (h : ExpR w lo ev es R) (k : Chg l hi w w') (hb : hi ≤ lo) : ExpR w' lo ev es R := ⟨h.row.chg k hb, fun p hp => (h.nest p hp).chg k hb, h.lens, h.apart, h.off⟩
theorem ExpR.len (h : ExpR w lo ev es R) : ∃ a c, ev = .slice a es.length c := by have := h.row.form; rw [cellsE_len] at this; exact this
/-- where the row lies -/
theorem own_block_lt {base E sz n : Nat} {v : Value} {xs : List Value} (h : w.ownsRow base E sz v n xs) (g : Nat) (hg : v.ownBlock = some g) : base ≤ g ∧ g < w.heap.size := World.ownsRow.lt h g hg
theorem ExpR.blk (h : ExpR w lo ev es R) (g : Nat) (hg : ev.ownBlock = some g) : lo ≤ g ∧ g < w.heap.size := own_block_lt h.row.1 g hg
theorem ExpR.nblk (h : ExpR w lo ev es R) (p : Nat) (hp : p < 2 * es.length) (hn : rowAt es p ≠ []) : ∃ g, (R p).ownBlock = some g ∧ lo ≤ g ∧ g < w.heap.size := (h.nest p hp).lt hn
theorem ExpR.big (h : ExpR w lo ev es R) (hn : es ≠ []) : ∃ g c, ev = .slice (some ⟨g, 0, none⟩) es.length c ∧ ev.ownBlock = some g ∧ lo ≤ g ∧ g < w.heap.size ∧ es.length ≤ c ∧ c ≤ maxLen := by
 have := h.row.lt (by intro h0; have := cellsE_len es R; rw [h0] at this; exact hn (List.eq_nil_of_length_eq_zero this.symm))
 rw [cellsE_len] at this
 exact this
/-- such exports can be read -/
theorem ExpR.exps (h : ExpR w lo ev es R) (hl : es.length ≤ 1048576) : Exps w lo ev es := by
 by_cases hn : es = []
 ·
  subst hn
  obtain ⟨hr, -⟩ := h.row
  rcases hr.2 with ⟨rfl, _⟩ | ⟨g, cap, cur, rfl, hb, hh, h1, h2, _⟩
  ·
   exact Exps.nil _ _
  ·
   exact ⟨_, cap, rfl, by simp, h2, ⟨by simp, fun h => by cases h⟩, fun i hi => absurd hi (by simp)⟩
 ·
  obtain ⟨g, c, rfl, hg, hb, hlt, hc, hm⟩ := h.big hn
  refine ⟨_, c, rfl, hc, hm, ⟨hl, fun h => by cases h⟩, fun i hi => ?_⟩
  have hr := h.row
  have e1 : (.slice (some ⟨g, 0, none⟩) es.length c : Value) = .slice (some ⟨g, 0, none⟩) (cellsE es R).length c := by rw [cellsE_len]
  rw [e1] at hr
  have hi' : i < (cellsE es R).length := by rw [cellsE_len]; exact hi
  have k := fun j (hj : j < 5) => (hr.cell i j hi' hj).1
  rw [cellsE_get] at k
  have i1 := (h.nest (2 * i) (by omega)).ints (h.lens _ (by omega))
  have i2 := (h.nest (2 * i + 1) (by omega)).ints (h.lens _ (by omega))
  rw [rowAt_even] at i1
  rw [rowAt_odd] at i2
  obtain ⟨u1, c1, e2⟩ := i1.form
  obtain ⟨u2, c2, e3⟩ := i2.form
  rw [e2] at i1
  rw [e3] at i2
  refine ⟨g, 0, u1, c1, u2, c2, rfl, hb, ?_, ?_, ?_, ?_, ?_, i1, i2⟩
  ·
   have := k 0 (by omega); rw [Nat.zero_add]; exact this
  ·
   have := k 1 (by omega); rw [Nat.zero_add]; exact this
  ·
   have := k 2 (by omega); rw [Nat.zero_add, ← e2]; exact this
  ·
   have := k 3 (by omega); rw [Nat.zero_add, ← e3]; exact this
  ·
   have := k 4 (by omega); rw [Nat.zero_add]; exact this
end
def extR (R : Nat → Value) (n : Nat) (u1 u2 : Value) (p : Nat) : Value := if p < 2 * n then R p else if p = 2 * n then u1 else u2
theorem extR_old {R : Nat → Value} {n : Nat} {u1 u2 : Value} {p : Nat} (h : p < 2 * n) : extR R n u1 u2 p = R p := by unfold extR; rw [if_pos h]
theorem extR_a {R : Nat → Value} {n : Nat} {u1 u2 : Value} : extR R n u1 u2 (2 * n) = u1 := by unfold extR; rw [if_neg (by omega), if_pos rfl]
theorem extR_b {R : Nat → Value} {n : Nat} {u1 u2 : Value} : extR R n u1 u2 (2 * n + 1) = u2 := by unfold extR; rw [if_neg (by omega), if_neg (by omega)]
section
variable {w w' W : World} {lo lo' : Nat} {ev : Value} {es : List Exp} {R : Nat → Value}
/-- one export more, with rows apart from the others -/
theorem ExpR.snocG {lo2 : Nat} {v' : Value} {e : Exp} {u1 u2 : Value} (h : ExpR W lo ev es R) (hl : lo2 ≤ lo) (o1 : OwnZ W lo2 u1 e.s) (o2 : OwnZ W lo2 u2 e.t) (l1 : e.s.length ≤ 4194304) (l2 : e.t.length ≤ 4194304)
  (hd : e.s ≠ [] → e.t ≠ [] → u1.ownBlock ≠ u2.ownBlock) (a1 : e.s ≠ [] → ∀ p, p < 2 * es.length → rowAt es p ≠ [] → (R p).ownBlock ≠ u1.ownBlock) (a2 : e.t ≠ [] → ∀ p, p < 2 * es.length → rowAt es p ≠ [] → (R p).ownBlock ≠ u2.ownBlock)
  (n1 : e.s ≠ [] → u1.ownBlock ≠ ev.ownBlock) (n2 : e.t ≠ [] → u2.ownBlock ≠ ev.ownBlock)
  (h1 : OwnC w' lo TEXPORT 5 v' (cellsE es R ++ [eCells e u1 u2])) (hg : W.grownBy w' ev.ownBlock) (hv : v'.ownBlock = ev.ownBlock ∨ v'.ownBlock = some W.heap.size) :
  ExpR w' lo2 v' (es ++ [e]) (extR R es.length u1 u2) := by
 have hpl : ∀ p, p < 2 * (es ++ [e]).length → p < 2 * es.length ∨ p = 2 * es.length ∨ p = 2 * es.length + 1 := fun p hp => by
  rw [List.length_append, List.length_singleton] at hp; omega
 have r1 : rowAt (es ++ [e]) (2 * es.length) = e.s := by rw [rowAt_even, expAt_app2]
 have r2 : rowAt (es ++ [e]) (2 * es.length + 1) = e.t := by rw [rowAt_odd, expAt_app2]
 have nv : ∀ (x : Value) (xs : List Int), OwnZ W lo2 x xs → xs ≠ [] → x.ownBlock ≠ ev.ownBlock → x.ownBlock ≠ v'.ownBlock := fun x xs ho hs hne he => by
  rcases hv with hv | hv
  ·
   exact hne (he.trans hv)
  ·
   obtain ⟨g, hg1, -, hlt⟩ := ho.lt hs
   rw [hg1, hv] at he
   have := Option.some.inj he
   omega
 refine ⟨?_, ?_, ?_, ?_, ?_⟩
 ·
  have : cellsE (es ++ [e]) (extR R es.length u1 u2) = cellsE es R ++ [eCells e u1 u2] := by
   unfold cellsE
   rw [List.length_append, List.length_singleton, List.range_succ, List.map_append]
   congr 1
   ·
    refine List.map_congr_left fun i hi => ?_
    have hi := List.mem_range.1 hi
    rw [expAt_app1 hi, extR_old (by omega), extR_old (by omega)]
   ·
    simp only [List.map_cons, List.map_nil]
    rw [expAt_app2, extR_a, extR_b]
  rw [this]; exact h1.lower hl
 ·
  intro p hp
  rcases hpl p hp with hp | rfl | rfl
  ·
   rw [extR_old hp, rowAt_app hp]
   exact ((h.nest p hp).lower hl).keptG (h.lens p hp) hg (fun hs => h.off p hp hs)
  ·
   rw [extR_a, r1]
   exact o1.keptG l1 hg n1
  ·
   rw [extR_b, r2]
   exact o2.keptG l2 hg n2
 ·
  intro p hp
  rcases hpl p hp with hp | rfl | rfl
  ·
   rw [rowAt_app hp]; exact h.lens p hp
  ·
   rw [r1]; exact l1
  ·
   rw [r2]; exact l2
 ·
  intro p q hpq hq
  have old : ∀ p, p < 2 * es.length → rowAt es p ≠ [] → (e.s ≠ [] → (R p).ownBlock ≠ u1.ownBlock) ∧ (e.t ≠ [] → (R p).ownBlock ≠ u2.ownBlock) := fun p hp hs => ⟨fun he => a1 he p hp hs, fun he => a2 he p hp hs⟩
  rcases hpl q hq with hq' | rfl | rfl
  ·
   rw [extR_old (by omega), extR_old hq', rowAt_app (by omega), rowAt_app hq']
   exact h.apart p q hpq hq'
  ·
   rw [extR_old hpq, extR_a, rowAt_app hpq, r1]
   exact fun hs he => (old p hpq hs).1 he
  ·
   rcases Nat.lt_or_ge p (2 * es.length) with hp | hp
   ·
    rw [extR_old hp, extR_b, rowAt_app hp, r2]
    exact fun hs he => (old p hp hs).2 he
   ·
    obtain rfl : p = 2 * es.length := by omega
    rw [extR_a, extR_b, r1, r2]
    exact hd
 ·
  intro p hp
  rcases hpl p hp with hp | rfl | rfl
  ·
   rw [extR_old hp, rowAt_app hp]
   exact fun hs => nv _ _ ((h.nest p hp).lower hl) hs (h.off p hp hs)
  ·
   rw [extR_a, r1]
   exact fun hs => nv _ _ o1 hs (n1 hs)
  ·
   rw [extR_b, r2]
   exact fun hs => nv _ _ o2 hs (n2 hs)
/-- one export more, with rows that came up later than all the others -/
theorem ExpR.snoc {w0 : World} {v' : Value} {e : Exp} {u1 u2 : Value} (h0 : ExpR w0 lo ev es R) (hx : Ext w0 W) (o1 : OwnZ W lo u1 e.s) (o2 : OwnZ W lo u2 e.t) (l1 : e.s.length ≤ 4194304) (l2 : e.t.length ≤ 4194304)
  (hd : e.s ≠ [] → e.t ≠ [] → u1.ownBlock ≠ u2.ownBlock) (m1 : e.s ≠ [] → ∀ g, u1.ownBlock = some g → w0.heap.size ≤ g) (m2 : e.t ≠ [] → ∀ g, u2.ownBlock = some g → w0.heap.size ≤ g)
  (h1 : OwnC w' lo TEXPORT 5 v' (cellsE es R ++ [eCells e u1 u2])) (hg : W.grownBy w' ev.ownBlock) (hv : v'.ownBlock = ev.ownBlock ∨ v'.ownBlock = some W.heap.size) :
  ExpR w' lo v' (es ++ [e]) (extR R es.length u1 u2) := by
 refine (h0.ext hx).snocG (Nat.le_refl _) o1 o2 l1 l2 hd ?_ ?_ ?_ ?_ h1 hg hv
 ·
  intro he p hp hs h2
  obtain ⟨g, hg1, -, hlt⟩ := h0.nblk p hp hs
  have := m1 he g (by rw [← h2]; exact hg1); omega
 ·
  intro he p hp hs h2
  obtain ⟨g, hg1, -, hlt⟩ := h0.nblk p hp hs
  have := m2 he g (by rw [← h2]; exact hg1); omega
 ·
  intro hs he
  obtain ⟨g, hg1, -, -⟩ := o1.lt hs
  rw [hg1] at he
  have := (h0.blk g he.symm).2
  have := m1 hs g hg1
  omega
 ·
  intro hs he
  obtain ⟨g, hg1, -, -⟩ := o2.lt hs
  rw [hg1] at he
  have := (h0.blk g he.symm).2
  have := m2 hs g hg1
  omega
/-- one export more, with rows that came up before all the others -/
theorem ExpR.snocB {lo2 : Nat} {v' : Value} {e : Exp} {u1 u2 : Value} (h : ExpR W lo ev es R) (hl : lo2 ≤ lo) (o1 : OwnZ W lo2 u1 e.s) (o2 : OwnZ W lo2 u2 e.t) (l1 : e.s.length ≤ 4194304) (l2 : e.t.length ≤ 4194304)
  (hd : e.s ≠ [] → e.t ≠ [] → u1.ownBlock ≠ u2.ownBlock) (m1 : e.s ≠ [] → ∀ g, u1.ownBlock = some g → g < lo) (m2 : e.t ≠ [] → ∀ g, u2.ownBlock = some g → g < lo)
  (h1 : OwnC w' lo TEXPORT 5 v' (cellsE es R ++ [eCells e u1 u2])) (hg : W.grownBy w' ev.ownBlock) (hv : v'.ownBlock = ev.ownBlock ∨ v'.ownBlock = some W.heap.size) :
  ExpR w' lo2 v' (es ++ [e]) (extR R es.length u1 u2) := by
 refine h.snocG hl o1 o2 l1 l2 hd ?_ ?_ ?_ ?_ h1 hg hv
 ·
  intro he p hp hs h2
  obtain ⟨g, hg1, hb, -⟩ := h.nblk p hp hs
  have := m1 he g (by rw [← h2]; exact hg1); omega
 ·
  intro he p hp hs h2
  obtain ⟨g, hg1, hb, -⟩ := h.nblk p hp hs
  have := m2 he g (by rw [← h2]; exact hg1); omega
 ·
  intro hs he
  obtain ⟨g, hg1, -, -⟩ := o1.lt hs
  rw [hg1] at he
  have := (h.blk g he.symm).1
  have := m1 hs g hg1
  omega
 ·
  intro hs he
  obtain ⟨g, hg1, -, -⟩ := o2.lt hs
  rw [hg1] at he
  have := (h.blk g he.symm).1
  have := m2 hs g hg1
  omega
theorem cellsE_set (es : List Exp) (R : Nat → Value) (i : Nat) (hi : i < es.length) (e : Exp) : cellsE (es.set i e) R = (cellsE es R).set i (eCells e (R (2 * i)) (R (2 * i + 1))) := by
 refine List.ext_getElem (by rw [List.length_set, cellsE_len, cellsE_len, List.length_set]) fun j h1 h2 => ?_
 rw [cellsE_get, List.getElem_set, expAt_set es i e j hi]
 by_cases h : i = j
 ·
  subst h; rw [if_pos rfl, if_pos rfl]
 ·
  rw [if_neg (by omega), if_neg h, cellsE_get]
/-- a cell of an export (but its rows') is written -/
theorem ExpR.store {a c : Nat} (h : ExpR w lo (.slice (some ⟨a, 0, none⟩) es.length c) es R) (i j : Nat) (hi : i < es.length) (hj : j < 5) (x : Value) (e : Exp) (hs : e.s = (expAt es i).s) (ht : e.t = (expAt es i).t)
  (he : (eCells (expAt es i) (R (2 * i)) (R (2 * i + 1))).set j x = eCells e (R (2 * i)) (R (2 * i + 1))) : ExpR (w.setCell ⟨a, i * 5 + j, none⟩ x) lo (.slice (some ⟨a, 0, none⟩) es.length c) (es.set i e) R := by
 have hr := h.row
 have e1 : (.slice (some ⟨a, 0, none⟩) es.length c : Value) = .slice (some ⟨a, 0, none⟩) (cellsE es R).length c := by rw [cellsE_len]
 rw [e1] at hr
 have hi' : i < (cellsE es R).length := by rw [cellsE_len]; exact hi
 have h2 := hr.set i j hi' hj x
 rw [cellsE_get, he, ← cellsE_set es R i hi e] at h2
 rw [cellsE_len] at h2
 have hra : ∀ p, rowAt (es.set i e) p = rowAt es p := fun p => by
  unfold rowAt
  rw [expAt_set es i e _ hi]
  by_cases h : p / 2 = i
  ·
   rw [if_pos h, hs, ht, h]
  ·
   rw [if_neg h]
 have hk : Chg a (a + 1) w (w.setCell ⟨a, i * 5 + j, none⟩ x) := Chg.setCell (p := ⟨a, i * 5 + j, none⟩) (Chg.refl _ _ _) (Nat.le_refl _) (Nat.lt_succ_self _) x
 have hgr : w.grownBy (w.setCell ⟨a, i * 5 + j, none⟩ x) (some a) := ⟨hk.os, hk.tape, hk.output, hk.size, fun b hb hne => hk.block b hb (by
  rcases Nat.lt_or_ge b a with h | h
  ·
   exact .inl h
  ·
   exact .inr (by have : b ≠ a := fun h0 => hne (by rw [h0]); omega))⟩
 refine ⟨h2, ?_, ?_, ?_, ?_⟩
 ·
  intro p hp
  rw [List.length_set] at hp
  rw [hra]
  exact (h.nest p hp).keptG (h.lens p hp) hgr (fun hs => h.off p hp hs)
 ·
  intro p hp; rw [List.length_set] at hp; rw [hra]; exact h.lens p hp
 ·
  intro p q hpq hq; rw [List.length_set] at hq; rw [hra, hra]; exact h.apart p q hpq hq
 ·
  intro p hp; rw [List.length_set] at hp; rw [hra]; exact h.off p hp
/-- a row of an export is written -/
theorem ExpR.rowset (h : ExpR w lo ev es R) (i : Nat) (hi : i < es.length) (e : Exp) (o1 : OwnZ w' lo (R (2 * i)) e.s) (o2 : OwnZ w' lo (R (2 * i + 1)) e.t) (l1 : e.s.length = (expAt es i).s.length) (l2 : e.t.length = (expAt es i).t.length)
  (hp : e.par = (expAt es i).par) (hb : e.b = (expAt es i).b) (ho : e.op = (expAt es i).op) (q : Nat) (hq : q = 2 * i ∨ q = 2 * i + 1) (hn : rowAt es q ≠ []) (hg : w.grownBy w' (R q).ownBlock) : ExpR w' lo ev (es.set i e) R := by
 have hql : q < 2 * es.length := by omega
 have hne : ∀ p, p < 2 * es.length → p ≠ q → rowAt es p ≠ [] → (R p).ownBlock ≠ (R q).ownBlock := fun p hp hpq hs => by
  rcases Nat.lt_or_ge p q with h' | h'
  ·
   exact h.apart p q h' hql hs hn
  ·
   exact fun h2 => h.apart q p (by omega) hp hn hs h2.symm
 have hlen : ∀ p, p < 2 * es.length → (rowAt (es.set i e) p).length = (rowAt es p).length := fun p hp => by
  unfold rowAt
  rw [expAt_set es i e _ hi]
  by_cases h : p / 2 = i
  ·
   rw [if_pos h, h]; split
   ·
    exact l1
   ·
    exact l2
  ·
   rw [if_neg h]
 have hnn : ∀ p, p < 2 * es.length → (rowAt (es.set i e) p ≠ [] ↔ rowAt es p ≠ []) := fun p hp => by
  have := hlen p hp
  rw [← List.length_pos_iff, ← List.length_pos_iff, this]
 refine ⟨?_, ?_, ?_, ?_, ?_⟩
 ·
  have e1 : cellsE (es.set i e) R = cellsE es R := by
   rw [cellsE_set es R i hi e]
   have : eCells e (R (2 * i)) (R (2 * i + 1)) = (cellsE es R)[i]'(by rw [cellsE_len]; exact hi) := by rw [cellsE_get]; unfold eCells; rw [hp, hb, ho]
   rw [this, List.set_getElem_self]
  rw [e1]
  refine h.row.kept hg ?_
  cases hE : ev.ownBlock with
  | none => exact .inl rfl
  | some g => exact .inr (by rw [← hE]; exact fun h2 => h.off q hql hn h2.symm)
 ·
  intro p hp
  rw [List.length_set] at hp
  by_cases h1 : p = 2 * i
  ·
   subst h1; rw [rowAt_even, expAt_set es i e i hi, if_pos rfl]; exact o1
  ·
   by_cases h2 : p = 2 * i + 1
   ·
    subst h2; rw [rowAt_odd, expAt_set es i e i hi, if_pos rfl]; exact o2
   ·
    have : rowAt (es.set i e) p = rowAt es p := by
     unfold rowAt
     simp only [expAt_set es i e _ hi, if_neg (show ¬ p / 2 = i by omega)]
    rw [this]
    exact (h.nest p hp).keptG (h.lens p hp) hg (fun hs => hne p hp (by omega) hs)
 ·
  intro p hp; rw [List.length_set] at hp; rw [hlen p hp]; exact h.lens p hp
 ·
  intro p q' hpq hq'
  rw [List.length_set] at hq'
  rw [hnn p (by omega), hnn q' hq']
  exact h.apart p q' hpq hq'
 ·
  intro p hp; rw [List.length_set] at hp; rw [hnn p hp]; exact h.off p hp
end
/-- a buffer in rows of its own -/
structure BufR (w : World) (lo : Nat) (cv ev : Value) (cells : List Int) (es : List Exp) (R : Nat → Value) : Prop where
 cel : OwnZ w lo cv cells
 ex : ExpR w lo ev es R
 cl : cells.length ≤ 4194304
 el : es.length ≤ 1048576
 offc : cells ≠ [] → cv.ownBlock ≠ ev.ownBlock
 offr : ∀ p, p < 2 * es.length → rowAt es p ≠ [] → cells ≠ [] → (R p).ownBlock ≠ cv.ownBlock
 cz : CapZ cv cells
section
variable {w w' : World} {lo lo' : Nat} {cv ev : Value} {cells : List Int} {es : List Exp} {R : Nat → Value}
theorem BufR.ext (h : BufR w lo cv ev cells es R) (hx : Ext w w') : BufR w' lo cv ev cells es R := ⟨h.cel.ext hx, h.ex.ext hx, h.cl, h.el, h.offc, h.offr, h.cz⟩
theorem BufR.lower (h : BufR w lo cv ev cells es R) (hl : lo' ≤ lo) : BufR w lo' cv ev cells es R := ⟨h.cel.lower hl, h.ex.lower hl, h.cl, h.el, h.offc, h.offr, h.cz⟩
theorem BufR.chg {l hi : Nat} (h : BufR w lo cv ev cells es R) (k : Chg l hi w w') (hb : hi ≤ lo) : BufR w' lo cv ev cells es R := ⟨h.cel.chg k hb, h.ex.chg k hb, h.cl, h.el, h.offc, h.offr, h.cz⟩
theorem BufR.ints (h : BufR w lo cv ev cells es R) : Ints w lo cv cells := h.cel.ints h.cl
theorem BufR.exps (h : BufR w lo cv ev cells es R) : Exps w lo ev es := h.ex.exps h.el
end
/-- a call hands back a new buffer -/
def PBuf (w : World) (cells : List Int) (es : List Exp) (e : Ending) (w' : World) : Prop := ∃ cv ev R, e = .returned (.agg #[cv, ev]) ∧ BufR w' w.heap.size cv ev cells es R ∧ Ext w w'
/-- a call hands back a new buffer and whether there is one -/
def PBufB (w : World) (cells : List Int) (es : List Exp) (o : Bool) (e : Ending) (w' : World) : Prop := ∃ cv ev R, e = .returned (.tuple #[.agg #[cv, ev], .bool o]) ∧ BufR w' w.heap.size cv ev cells es R ∧ Ext w w'
theorem BufR.nil (w : World) (lo : Nat) : BufR w lo (.slice none 0 0) (.slice none 0 0) [] [] (fun _ => .slice none 0 0) :=
 ⟨.inl ⟨rfl, none, 0, rfl, by simp, fun _ => rfl⟩, ExpR.nil _ _ _, by simp, by simp, fun h => absurd rfl h, fun p h => (by simp at h), CapZ.nil _⟩
theorem PBufB.no {w w' : World} (h : Ext w w') : PBufB w [] [] false (.returned (.tuple #[.agg #[.slice none 0 0, .slice none 0 0], .bool false])) w' := ⟨_, _, _, rfl, BufR.nil _ _, h⟩
theorem infoExp : (Try.prog.info? TEXPORT).map (fun i => (i.zero, i.size, i.bytes)) = some (some (.agg #[.int .i64 0, .int .i64 0, .slice none 0 0, .slice none 0 0, .bool false]), 5, 72) := by kernel_rfl
end Go.Proofs.Ytgklaobfikbiiaa

/- Walks: copies that are rows. -/
namespace Go.Proofs.Ytgklaobfikbiiaa
open Go.RowKit
set_option linter.unusedVariables false
set_option maxRecDepth 100000

set_option maxHeartbeats 1600000 in
theorem copyIntsC_c (v3 : Value) (u : List Int) (w : World) (l3 : Nat) (h3 : Ints w l3 v3 u) :
    Calls Try.prog 58 #[v3] w (PIntsC w u) := by
  obtain ⟨p2, c2, rfl⟩ := h3.form
  go_enter Try.func58, Try.ntmps58
  have BL6 : Ext w w := Ext.refl _
  have hln1 : u.length ≤ 4194304 := (h3).len
  go_wp2_with (at_builtin; refine wpList_app0C rfl (.tmp 3) (.tmp 4) rfl rfl rfl (OwnI.lit0 (w) w.heap.size (by simp)) (by simp) (h3.ext qXt) ?_)
  intro gr3 rr4 w1 O2 xw1 hg7 Ggr3' czgr3
  replace xw1 : Ext w w1 := Ext.trans qXt xw1
  have Ggr3 : w.heap.size ≤ gr3 := by (try simp only [World.size_alloc, World.size_drew] at hg7); omega
  clear hg7
  have Lw1 : Ext w w1 := Ext.trans qXt xw1
  have Xw1 : Ext w w1 := Lw1
  have s_w1 : w.heap.size ≤ w1.heap.size := Xw1.size
  have BL6_w1 : Ext w w1 := BL6.trans Lw1
  clear xw1
  go_wp2_with fail
  go_ret
  exact ⟨_, _, rfl, O2.lower (by omega), by omega, Ggr3', czgr3, Xw1⟩

set_option maxHeartbeats 1600000 in
theorem copyIntsO_c (v3 : Value) (u : List Int) (w : World) (l3 : Nat) (h3 : Ints w l3 v3 u) :
    Calls Try.prog 58 #[v3] w (PIntsO w u) :=
  (copyIntsC_c v3 u w l3 h3).mono fun _ _ h => h.o


end Go.Proofs.Ytgklaobfikbiiaa

/- Walks: copies of views of the reference that are rows. -/
namespace Go.Proofs.Ytgklaobfikbiiaa
open Go.RowKit
set_option linter.unusedVariables false
set_option maxRecDepth 100000

set_option maxHeartbeats 1600000 in
theorem scopyViewO_c (b1 : Int) (u1 v1 : Value) (s1 t1 : List Int) (w : World) (l1 m1 : Nat) (h1 : Ints w l1 u1 s1) (k1 : Ints w m1 v1 t1) :
    Calls Try.prog 59 #[.agg #[.int .i64 b1, u1, v1]] w (PViewO w b1 s1 t1) := by
  obtain ⟨p0, c0, rfl⟩ := h1.form
  obtain ⟨p1, c1, rfl⟩ := k1.form
  go_enter Try.func59, Try.ntmps59
  go_wp2_with fail
  generalize hW1 : (w.alloc (.cells #[.int .i64 b1, .slice p0 s1.length c0, .slice p1 t1.length c1] 30)).alloc (.cells #[.int .i64 0, .slice none 0 0, .slice none 0 0] 30) = w1 at *
  have Lw1 : Ext w w1 := by subst hW1; exact qXt
  have Xw1 : Ext w w1 := by subst hW1; exact Lw1
  have b10 : w1.cell? ⟨w.heap.size, 0, none⟩ = some (.int .i64 b1) := by subst hW1; exact qCl
  have b11 : w1.cell? ⟨w.heap.size, 1, none⟩ = some (.slice p0 s1.length c0) := by subst hW1; exact qCl
  have b12 : w1.cell? ⟨w.heap.size, 2, none⟩ = some (.slice p1 t1.length c1) := by subst hW1; exact qCl
  have b20 : w1.cell? ⟨w.heap.size + 1, 0, none⟩ = some (.int .i64 0) := by subst hW1; exact qCl
  have b21 : w1.cell? ⟨w.heap.size + 1, 1, none⟩ = some (.slice none 0 0) := by subst hW1; exact qCl
  have b22 : w1.cell? ⟨w.heap.size + 1, 2, none⟩ = some (.slice none 0 0) := by subst hW1; exact qCl
  have f_b20 : w1.frozen? ⟨w.heap.size + 1, 0, none⟩ = false := by subst hW1; exact qFz
  have f_b21 : w1.frozen? ⟨w.heap.size + 1, 1, none⟩ = false := by subst hW1; exact qFz
  have f_b22 : w1.frozen? ⟨w.heap.size + 1, 2, none⟩ = false := by subst hW1; exact qFz
  have z_b1 : w.heap.size < w1.heap.size := qB b10
  have z_b2 : w.heap.size + 1 < w1.heap.size := qB b20
  have s_w1 : w.heap.size ≤ w1.heap.size := Xw1.size
  clear hW1
  have Q3_b10 := Lib.hid b10
  have Q3_b11 := Lib.hid b11
  have Q3_b12 := Lib.hid b12
  have Q3_zb1 := z_b1
  have Q3_b20 := Lib.hid b20
  have Q3_f_b20 := Lib.hid f_b20
  have Q3_b21 := Lib.hid b21
  have Q3_f_b21 := Lib.hid f_b21
  have Q3_b22 := Lib.hid b22
  have Q3_f_b22 := Lib.hid f_b22
  have Q3_zb2 := z_b2
  have BL4 : Ext w1 w1 := Ext.refl _
  go_cut [] (fun  wx => ∃ (g4 : Nat) (r4 : Nat) (g7 : Nat) (r7 : Nat), Chg (w.heap.size + 1) (w.heap.size + 1 + 1) w1 wx ∧ w1.heap.size ≤ g4 ∧ g4 < wx.heap.size ∧ w1.heap.size ≤ g7 ∧ g7 < wx.heap.size ∧ g4 ≠ g7 ∧ OwnI wx w1.heap.size (.slice (some ⟨g4, 0, none⟩) s1.length r4) s1 ∧ OwnI wx w1.heap.size (.slice (some ⟨g7, 0, none⟩) t1.length r7) t1 ∧ wx.cell? ⟨w.heap.size + 1, 0, none⟩ = some (.int .i64 b1) ∧ wx.frozen? ⟨w.heap.size + 1, 0, none⟩ = false ∧ wx.cell? ⟨w.heap.size + 1, 1, none⟩ = some (.slice (some ⟨g4, 0, none⟩) s1.length r4) ∧ wx.frozen? ⟨w.heap.size + 1, 1, none⟩ = false ∧ wx.cell? ⟨w.heap.size + 1, 2, none⟩ = some (.slice (some ⟨g7, 0, none⟩) t1.length r7) ∧ wx.frozen? ⟨w.heap.size + 1, 2, none⟩ = false)
  case first =>
    have X1 : Ext w1 w1 := Ext.refl _
    refine wp_region_held_drew (S := fun w' => w'.cell? ⟨w.heap.size, 0, none⟩ = some (.int .i64 b1) ∧ w'.cell? ⟨w.heap.size, 1, none⟩ = some (.slice p0 s1.length c0) ∧ w'.cell? ⟨w.heap.size, 2, none⟩ = some (.slice p1 t1.length c1)) qKr ⟨b10, b11, b12⟩ (fun hHeld => ?_)
    refine qHk (v := ?_) 0 rfl (.inl ⟨by rfl, ?_⟩) ?_
    rotate_left
    · (intro w hSw; (try dsimp only at hSw); go_simp; try with_reducible rfl)
    try simp only [Act.put, qa, qb, qc, qD, qE, qF]
    refine qHk (v := ?_) 1 rfl (.inl ⟨by rfl, ?_⟩) ?_
    rotate_left
    · (intro w hSw; (try dsimp only at hSw); go_simp; try with_reducible rfl)
    try simp only [Act.put, qa, qb, qc, qD, qE, qF]
    refine qHk (v := ?_) 2 rfl (.inl ⟨by rfl, ?_⟩) ?_
    rotate_left
    · (intro w hSw; (try dsimp only at hSw); go_simp; try with_reducible rfl)
    try simp only [Act.put, qa, qb, qc, qD, qE, qF]
    refine qHk (v := ?_) 3 rfl (.inl ⟨by rfl, ?_⟩) ?_
    rotate_left
    · (intro w hSw; (try dsimp only at hSw); go_simp; try with_reducible rfl)
    try simp only [Act.put, qa, qb, qc, qD, qE, qF]
    refine qHk (v := ?_) 5 rfl (.inl ⟨by rfl, ?_⟩) ?_
    rotate_left
    · (intro w hSw; (try dsimp only at hSw); go_simp; try with_reducible rfl)
    try simp only [Act.put, qa, qb, qc, qD, qE, qF]
    refine qHk (v := ?_) 6 rfl (.inl ⟨by rfl, ?_⟩) ?_
    rotate_left
    · (intro w hSw; (try dsimp only at hSw); go_simp; try with_reducible rfl)
    try simp only [Act.put, qa, qb, qc, qD, qE, qF]
    refine qHr 4 rfl (fun K hK => ?_)
    try simp only [Act.put, qa, qb, qc, qD, qE, qF]
    go_simp
    refine (copyIntsO_c (.slice p0 s1.length c0) s1 _ _ (h1.ext (Xw1.trans qXt))).mono ?_
    rintro e w1_1 ⟨g1_4, r1_5, rfl, O1_3, Gg1_4, Hg1_4, x1_2⟩
    simp only [World.size_drew] at Gg1_4 O1_3
    replace x1_2 : Ext w1 w1_1 := Ext.trans qXt x1_2
    have S_w1_1 : w1.heap.size ≤ w1_1.heap.size := x1_2.size
    replace X1 := X1.trans x1_2
    have Yw1_1 := Ext.refl w1_1
    clear x1_2
    refine hK.out _ w1_1 ⟨(show Ext w1 w1_1 from qXt).cell b10, (show Ext w1 w1_1 from qXt).cell b11, (show Ext w1 w1_1 from qXt).cell b12⟩ (fun hHeld => ?_)
    clear hK K
    try simp only [Act.put, qa, qb, qc, qD, qE, qF]
    refine qHr 7 rfl (fun K hK => ?_)
    try simp only [Act.put, qa, qb, qc, qD, qE, qF]
    go_simp
    refine (copyIntsO_c (.slice p1 t1.length c1) t1 _ _ (k1.ext (Xw1.trans qXt))).mono ?_
    rintro e w1_6 ⟨g1_9, r1_10, rfl, O1_8, Gg1_9, Hg1_9, x1_7⟩
    replace x1_7 : Ext w1_1 w1_6 := Ext.trans qXt x1_7
    have S_w1_6 : w1_1.heap.size ≤ w1_6.heap.size := x1_7.size
    replace Yw1_1 := Yw1_1.trans x1_7
    replace X1 := X1.trans x1_7
    have Yw1_6 := Ext.refl w1_6
    clear x1_7
    refine hK.out _ w1_6 ⟨(show Ext w1 w1_6 from qXt).cell b10, (show Ext w1 w1_6 from qXt).cell b11, (show Ext w1 w1_6 from qXt).cell b12⟩ (fun hHeld => ?_)
    clear hK K
    try simp only [Act.put, qa, qb, qc, qD, qE, qF]
    refine qHk (v := ?_) 8 rfl (.inl ⟨by rfl, ?_⟩) ?_
    rotate_left
    · (intro w hSw; (try dsimp only at hSw); go_simp; try with_reducible rfl)
    try simp only [Act.put, qa, qb, qc, qD, qE, qF]
    refine qHr 9 rfl (fun K hK => ?_)
    try simp only [Act.put, qa, qb, qc, qD, qE, qF]
    replace b20 := X1.cell b20
    replace f_b20 := X1.frz z_b2 f_b20
    replace b21 := X1.cell b21
    replace f_b21 := X1.frz z_b2 f_b21
    replace b22 := X1.cell b22
    replace f_b22 := X1.frz z_b2 f_b22
    go_simp
    have zz := X1.size
    have K1 : Chg (w.heap.size + 1) (w.heap.size + 1 + 1) w1_6 (((w1_6.setCell ⟨w.heap.size + 1, 0, none⟩ (.int .i64 b1)).setCell ⟨w.heap.size + 1, 1, none⟩ (.slice (some ⟨g1_4, 0, none⟩) s1.length r1_5)).setCell ⟨w.heap.size + 1, 2, none⟩ (.slice (some ⟨g1_9, 0, none⟩) t1.length r1_10)) := (Chg.setCell (p := ⟨w.heap.size + 1, 2, none⟩) (Chg.setCell (p := ⟨w.heap.size + 1, 1, none⟩) (Chg.setCell (p := ⟨w.heap.size + 1, 0, none⟩) (Chg.refl (w.heap.size + 1) ((w.heap.size + 1) + 1) w1_6) (Nat.le_refl _) (Nat.lt_succ_self _) _) (Nat.le_refl _) (Nat.lt_succ_self _) _) (Nat.le_refl _) (Nat.lt_succ_self _) _)
    have n_b20 : (((w1_6.setCell ⟨w.heap.size + 1, 0, none⟩ (.int .i64 b1)).setCell ⟨w.heap.size + 1, 1, none⟩ (.slice (some ⟨g1_4, 0, none⟩) s1.length r1_5)).setCell ⟨w.heap.size + 1, 2, none⟩ (.slice (some ⟨g1_9, 0, none⟩) t1.length r1_10)).cell? ⟨w.heap.size + 1, 0, none⟩ = some (.int .i64 b1) := by go_simp
    replace f_b20 : (((w1_6.setCell ⟨w.heap.size + 1, 0, none⟩ (.int .i64 b1)).setCell ⟨w.heap.size + 1, 1, none⟩ (.slice (some ⟨g1_4, 0, none⟩) s1.length r1_5)).setCell ⟨w.heap.size + 1, 2, none⟩ (.slice (some ⟨g1_9, 0, none⟩) t1.length r1_10)).frozen? ⟨w.heap.size + 1, 0, none⟩ = false := by go_simp
    have n_b21 : (((w1_6.setCell ⟨w.heap.size + 1, 0, none⟩ (.int .i64 b1)).setCell ⟨w.heap.size + 1, 1, none⟩ (.slice (some ⟨g1_4, 0, none⟩) s1.length r1_5)).setCell ⟨w.heap.size + 1, 2, none⟩ (.slice (some ⟨g1_9, 0, none⟩) t1.length r1_10)).cell? ⟨w.heap.size + 1, 1, none⟩ = some (.slice (some ⟨g1_4, 0, none⟩) s1.length r1_5) := by go_simp
    replace f_b21 : (((w1_6.setCell ⟨w.heap.size + 1, 0, none⟩ (.int .i64 b1)).setCell ⟨w.heap.size + 1, 1, none⟩ (.slice (some ⟨g1_4, 0, none⟩) s1.length r1_5)).setCell ⟨w.heap.size + 1, 2, none⟩ (.slice (some ⟨g1_9, 0, none⟩) t1.length r1_10)).frozen? ⟨w.heap.size + 1, 1, none⟩ = false := by go_simp
    have n_b22 : (((w1_6.setCell ⟨w.heap.size + 1, 0, none⟩ (.int .i64 b1)).setCell ⟨w.heap.size + 1, 1, none⟩ (.slice (some ⟨g1_4, 0, none⟩) s1.length r1_5)).setCell ⟨w.heap.size + 1, 2, none⟩ (.slice (some ⟨g1_9, 0, none⟩) t1.length r1_10)).cell? ⟨w.heap.size + 1, 2, none⟩ = some (.slice (some ⟨g1_9, 0, none⟩) t1.length r1_10) := by go_simp
    replace f_b22 : (((w1_6.setCell ⟨w.heap.size + 1, 0, none⟩ (.int .i64 b1)).setCell ⟨w.heap.size + 1, 1, none⟩ (.slice (some ⟨g1_4, 0, none⟩) s1.length r1_5)).setCell ⟨w.heap.size + 1, 2, none⟩ (.slice (some ⟨g1_9, 0, none⟩) t1.length r1_10)).frozen? ⟨w.heap.size + 1, 2, none⟩ = false := by go_simp
    replace O1_3 := (O1_3.ext Yw1_1).chgN K1 (by omega)
    replace O1_8 := (O1_8.ext Yw1_6).chgN K1 (by omega)
    have C1 : Chg (w.heap.size + 1) (w.heap.size + 1 + 1) w1 (((w1_6.setCell ⟨w.heap.size + 1, 0, none⟩ (.int .i64 b1)).setCell ⟨w.heap.size + 1, 1, none⟩ (.slice (some ⟨g1_4, 0, none⟩) s1.length r1_5)).setCell ⟨w.heap.size + 1, 2, none⟩ (.slice (some ⟨g1_9, 0, none⟩) t1.length r1_10)) := (Chg.of_ext X1).trans K1
    clear zz K1
    have S_st : w1_6.heap.size ≤ (((w1_6.setCell ⟨w.heap.size + 1, 0, none⟩ (.int .i64 b1)).setCell ⟨w.heap.size + 1, 1, none⟩ (.slice (some ⟨g1_4, 0, none⟩) s1.length r1_5)).setCell ⟨w.heap.size + 1, 2, none⟩ (.slice (some ⟨g1_9, 0, none⟩) t1.length r1_10)).heap.size := by simp
    refine hK.out _ ((((w1_6.setCell ⟨w.heap.size + 1, 0, none⟩ (.int .i64 b1)).setCell ⟨w.heap.size + 1, 1, none⟩ (.slice (some ⟨g1_4, 0, none⟩) s1.length r1_5)).setCell ⟨w.heap.size + 1, 2, none⟩ (.slice (some ⟨g1_9, 0, none⟩) t1.length r1_10))) ⟨C1.cell (by omega) b10, C1.cell (by omega) b11, C1.cell (by omega) b12⟩ (fun hHeld => ?_)
    clear hK K
    try simp only [Act.put, qa, qb, qc, qD, qE, qF]
    refine wpAnyH_done qKr ?_ _
    clear hHeld
    have zz := X1.size
    go_step
    go_step
    go_meet
    case rel => exact ⟨g1_4, r1_5, g1_9, r1_10, C1, (by omega), (by omega), (by omega), (by omega), (by omega), (O1_3).lower (by omega), (O1_8).lower (by omega), n_b20, f_b20, n_b21, f_b21, n_b22, f_b22⟩
  case rest =>
    generalize wc = wc5 at hcut ⊢
    obtain ⟨g7, r8, g9, r10, xx6, Gg7, Hg7, Gg9, Hg9, Dg7g9, O11, O12, N_b20, M_b20, N_b21, M_b21, N_b22, M_b22⟩ := hcut
    have zc_wc5 := xx6.size
    have Xwc5 : Ext w wc5 := Ext.chg Xw1 xx6 (by omega)
    replace b10 := xx6.cell (by omega) b10
    replace b11 := xx6.cell (by omega) b11
    replace b12 := xx6.cell (by omega) b12
    replace b20 := N_b20
    clear N_b20
    replace f_b20 := M_b20
    clear M_b20
    replace b21 := N_b21
    clear N_b21
    replace f_b21 := M_b21
    clear M_b21
    replace b22 := N_b22
    clear N_b22
    replace f_b22 := M_b22
    clear M_b22
    have z_b1 : w.heap.size < wc5.heap.size := qB b10
    have z_b2 : w.heap.size + 1 < wc5.heap.size := qB b20
    have s_wc5 : w.heap.size ≤ wc5.heap.size := Xwc5.size
    clear xx6
    go_wp2_with fail
    refine bodyPost_ret (v := .agg #[.int .i64 b1, .slice (some ⟨g7, 0, none⟩) s1.length r8, .slice (some ⟨g9, 0, none⟩) t1.length r10]) (by simp only [results, Try.results59]; go_simp) rfl ?_
    exact ⟨g7, g9, _, _, rfl, O11.lower (by omega), O12.lower (by omega), by omega, by omega, by omega, by omega, by omega, (Xwc5.trans qXt)⟩


end Go.Proofs.Ytgklaobfikbiiaa

/- Walks: copies of buffers. -/
namespace Go.Proofs.Ytgklaobfikbiiaa
open Go.RowKit
set_option linter.unusedVariables false
set_option maxRecDepth 100000

set_option maxHeartbeats 3200000 in
theorem implCopyBuffer_c (cells : List Int) (es : List Exp) (cv ev : Value) (w : World) (l1 l2 : Nat) (h1 : Ints w l1 cv cells) (h2 : Exps w l2 ev es) :
  Calls Try.prog 40 #[.agg #[cv, ev]] w (PBuf w cells es) := by
 obtain ⟨p0, c0, rfl⟩ := h1.form
 obtain ⟨p1, c1, rfl⟩ := h2.form
 have he1 := h2.len
 have hc1 := h1.len
 go_enter Try.func40, Try.ntmps40
 go_upto_region 1 with fail
 generalize hW1 : (w.alloc (.cells #[.slice p0 cells.length c0, .slice p1 es.length c1] 26)).alloc (.cells #[.slice none 0 0, .slice none 0 0] 26) = w1 at *
 have Lw1 : Ext w w1 := by subst hW1; exact qXt
 have Xw1 : Ext w w1 := by subst hW1; exact Lw1
 have b10 : w1.cell? ⟨w.heap.size, 0, none⟩ = some (.slice p0 cells.length c0) := by subst hW1; exact qCl
 have b11 : w1.cell? ⟨w.heap.size, 1, none⟩ = some (.slice p1 es.length c1) := by subst hW1; exact qCl
 have b20 : w1.cell? ⟨w.heap.size + 1, 0, none⟩ = some (.slice none 0 0) := by subst hW1; exact qCl
 have b21 : w1.cell? ⟨w.heap.size + 1, 1, none⟩ = some (.slice none 0 0) := by subst hW1; exact qCl
 have f_b20 : w1.frozen? ⟨w.heap.size + 1, 0, none⟩ = false := by subst hW1; exact qFz
 have f_b21 : w1.frozen? ⟨w.heap.size + 1, 1, none⟩ = false := by subst hW1; exact qFz
 have z_b1 : w.heap.size < w1.heap.size := qB b10
 have z_b2 : w.heap.size + 1 < w1.heap.size := qB b20
 have s_w1 : w.heap.size ≤ w1.heap.size := Xw1.size
 clear hW1
 have Q7_b10 := Lib.hid b10
 have Q7_b11 := Lib.hid b11
 have Q7_zb1 := z_b1
 have Q7_b20 := Lib.hid b20
 have Q7_f_b20 := Lib.hid f_b20
 have Q7_b21 := Lib.hid b21
 have Q7_f_b21 := Lib.hid f_b21
 have Q7_zb2 := z_b2
 have BL8 : Ext w1 w1 := Ext.refl _
 have hln3 : cells.length ≤ 4194304 := ((h1.ext Xw1)).len
 go_wp2_with (at_builtin; refine wpList_app0C rfl (.tmp 6) (.tmp 8) rfl rfl rfl (OwnI.lit0 (w1) w1.heap.size (by simp)) (by simp) ((h1.ext Xw1).ext qXt) ?_)
 intro gr5 rr6 w2 O4 xw2 hg7 Ggr5' czgr5
 replace xw2 : Ext w1 w2 := Ext.trans qXt xw2
 have Ggr5 : w1.heap.size ≤ gr5 := by (try simp only [World.size_alloc, World.size_drew] at hg7); omega
 clear hg7
 have Lw2 : Ext w1 w2 := Ext.trans qXt xw2
 have Xw2 : Ext w w2 := Xw1.trans Lw2
 replace b10 := Lw2.cell b10
 replace b11 := Lw2.cell b11
 replace b20 := Lw2.cell b20
 replace b21 := Lw2.cell b21
 replace f_b20 := Lw2.frz z_b2 f_b20
 replace f_b21 := Lw2.frz z_b2 f_b21
 have z_b1 : w.heap.size < w2.heap.size := qB b10
 have z_b2 : w.heap.size + 1 < w2.heap.size := qB b20
 have s_w2 : w.heap.size ≤ w2.heap.size := Xw2.size
 have BL8_w2 : Ext w1 w2 := BL8.trans Lw2
 clear xw2
 have Q9_b10 := Lib.hid b10
 have Q9_b11 := Lib.hid b11
 have Q9_zb1 := z_b1
 have Q9_b20 := Lib.hid b20
 have Q9_f_b20 := Lib.hid f_b20
 have Q9_b21 := Lib.hid b21
 have Q9_f_b21 := Lib.hid f_b21
 have Q9_zb2 := z_b2
 have Q9_O4 := Lib.hid O4
 have BL10 : Ext w2 w2 := Ext.refl _
 go_wp2_with fail
 generalize hW2 : w2.alloc (.cells #[.slice (some ⟨gr5, 0, none⟩) cells.length rr6, .slice none 0 0] 26) = w3 at *
 have Lw3 : Ext w2 w3 := by subst hW2; exact qXt
 have Xw3 : Ext w w3 := Xw2.trans Lw3
 replace b10 := Lw3.cell b10
 replace b11 := Lw3.cell b11
 replace b20 := Lw3.cell b20
 replace b21 := Lw3.cell b21
 replace f_b20 := Lw3.frz z_b2 f_b20
 replace f_b21 := Lw3.frz z_b2 f_b21
 have b110 : w3.cell? ⟨w2.heap.size, 0, none⟩ = some (.slice (some ⟨gr5, 0, none⟩) cells.length rr6) := by subst hW2; exact qCl
 have b111 : w3.cell? ⟨w2.heap.size, 1, none⟩ = some (.slice none 0 0) := by subst hW2; exact qCl
 have f_b110 : w3.frozen? ⟨w2.heap.size, 0, none⟩ = false := by subst hW2; exact qFz
 have f_b111 : w3.frozen? ⟨w2.heap.size, 1, none⟩ = false := by subst hW2; exact qFz
 have z_b1 : w.heap.size < w3.heap.size := qB b10
 have z_b2 : w.heap.size + 1 < w3.heap.size := qB b20
 have z_b11 : w2.heap.size < w3.heap.size := qB b110
 replace O4 := O4.ext Lw3
 have s_w3 : w.heap.size ≤ w3.heap.size := Xw3.size
 have BL8_w3 : Ext w1 w3 := BL8_w2.trans Lw3
 have BL10_w3 : Ext w2 w3 := BL10.trans Lw3
 have q_w3 : w3.heap.size ≤ w2.heap.size + 1 := by subst hW2; simp
 clear hW2
 have yE_b1 := z_b1
 have yE_b2 := z_b2
 have yE_b11 := z_b11
 go_loopw [14] (fun i wr => ∃ (k : Nat) (gv : Value) (R : Nat → Value), k ≤ es.length ∧ i = .int .i64 k ∧ ExpR wr w3.heap.size gv (es.take k) R ∧ Ext w wr ∧ OwnI wr w.heap.size (.slice (some ⟨gr5, 0, none⟩) cells.length rr6) cells ∧ wr.cell? ⟨w.heap.size, 0, none⟩ = some (.slice p0 cells.length c0) ∧ wr.cell? ⟨w.heap.size, 1, none⟩ = some (.slice p1 es.length c1) ∧ wr.cell? ⟨w.heap.size + 1, 0, none⟩ = some (.slice none 0 0) ∧ wr.cell? ⟨w.heap.size + 1, 1, none⟩ = some (.slice none 0 0) ∧ wr.frozen? ⟨w.heap.size + 1, 0, none⟩ = false ∧ wr.frozen? ⟨w.heap.size + 1, 1, none⟩ = false ∧ wr.cell? ⟨w2.heap.size, 0, none⟩ = some (.slice (some ⟨gr5, 0, none⟩) cells.length rr6) ∧ wr.cell? ⟨w2.heap.size, 1, none⟩ = some (gv) ∧ wr.frozen? ⟨w2.heap.size, 0, none⟩ = false ∧ wr.frozen? ⟨w2.heap.size, 1, none⟩ = false) (fun i _ => es.length - (intOf i).toNat)
 case atStart => exact ⟨0, _, fun _ => .slice none 0 0, Nat.zero_le _, rfl, ExpR.nil _ _ _, (Xw3.trans qXt), O4.lower (by omega), b10, b11, b20, b21, f_b20, f_b21, b110, b111, f_b110, f_b111⟩
 case round =>
  clear O4
  obtain ⟨k, gv, R, hk, rfl, hE, Xr, O4, b10, b11, b20, b21, f_b20, f_b21, b110, b111, f_b110, f_b111⟩ := hrel
  have z_b1 : w.heap.size < wr.heap.size := qB b10
  have z_b2 : w.heap.size + 1 < wr.heap.size := qB b20
  have z_b11 : w2.heap.size < wr.heap.size := qB b110
  obtain ⟨ga, gc, hgv⟩ := hE.len
  rw [List.length_take, Nat.min_eq_left hk] at hgv
  subst hgv
  have s_wr : w.heap.size ≤ wr.heap.size := Xr.size
  have hBr : w3.heap.size ≤ wr.heap.size := by omega
  by_cases hlt : k < es.length
  ·
   have hkI : (k : Int) < es.length := by omega
   have hN_x12 : k < es.length := (by omega)
   have hI_x12 : (k : Int) < (es.length : Int) := by omega
   obtain ⟨bl25, ol26, u19, c20, u21, c22, rfl, x120, x121, x122, x123, x124, i23, i24⟩ := (h2.ext Xr).at k hN_x12
   obtain ⟨X18, hX18⟩ : ∃ x, expAt es k = x := ⟨_, rfl⟩
   rw [hX18] at x120 x121 x122 x123 x124 i23 i24
   obtain ⟨P13, B14, S15, T16, O17⟩ := X18
   dsimp only at x120 x121 x122 x123 x124 i23 i24
   replace hX18 := Lib.hid hX18
   have hLS15 := i23.len
   have hLT16 := i24.len
   have z_x12 : bl25 < wr.heap.size := qB x120
   have Q27_b10 := Lib.hid b10
   have Q27_b11 := Lib.hid b11
   have Q27_zb1 := z_b1
   have Q27_b20 := Lib.hid b20
   have Q27_f_b20 := Lib.hid f_b20
   have Q27_b21 := Lib.hid b21
   have Q27_f_b21 := Lib.hid f_b21
   have Q27_zb2 := z_b2
   have Q27_b110 := Lib.hid b110
   have Q27_f_b110 := Lib.hid f_b110
   have Q27_b111 := Lib.hid b111
   have Q27_f_b111 := Lib.hid f_b111
   have Q27_zb11 := z_b11
   have Q27_x120 := Lib.hid x120
   have Q27_x121 := Lib.hid x121
   have Q27_x122 := Lib.hid x122
   have Q27_x123 := Lib.hid x123
   have Q27_x124 := Lib.hid x124
   have Q27_zx12 := z_x12
   have Q27_hE := Lib.hid hE
   have Q27_O4 := Lib.hid O4
   have Q27_i23 := Lib.hid i23
   have Q27_i24 := Lib.hid i24
   have BL28 : Ext wr wr := Ext.refl _
   go_upto_region 5 with fail
   generalize hW3 : wr.alloc (.cells #[.int .i64 P13, .int .i64 B14, .slice u19 S15.length c20, .slice u21 T16.length c22, .bool O17] 32) = w4 at *
   have Lw4 : Ext wr w4 := by subst hW3; exact qXt
   have Xw4 : Ext w w4 := Xr.trans Lw4
   replace b10 := Lw4.cell b10
   replace b11 := Lw4.cell b11
   replace b20 := Lw4.cell b20
   replace b21 := Lw4.cell b21
   replace f_b20 := Lw4.frz z_b2 f_b20
   replace f_b21 := Lw4.frz z_b2 f_b21
   replace b110 := Lw4.cell b110
   replace b111 := Lw4.cell b111
   replace f_b110 := Lw4.frz z_b11 f_b110
   replace f_b111 := Lw4.frz z_b11 f_b111
   replace x120 := Lw4.cell x120
   replace x121 := Lw4.cell x121
   replace x122 := Lw4.cell x122
   replace x123 := Lw4.cell x123
   replace x124 := Lw4.cell x124
   have b290 : w4.cell? ⟨wr.heap.size, 0, none⟩ = some (.int .i64 P13) := by subst hW3; exact qCl
   have b291 : w4.cell? ⟨wr.heap.size, 1, none⟩ = some (.int .i64 B14) := by subst hW3; exact qCl
   have b292 : w4.cell? ⟨wr.heap.size, 2, none⟩ = some (.slice u19 S15.length c20) := by subst hW3; exact qCl
   have b293 : w4.cell? ⟨wr.heap.size, 3, none⟩ = some (.slice u21 T16.length c22) := by subst hW3; exact qCl
   have b294 : w4.cell? ⟨wr.heap.size, 4, none⟩ = some (.bool O17) := by subst hW3; exact qCl
   have f_b290 : w4.frozen? ⟨wr.heap.size, 0, none⟩ = false := by subst hW3; exact qFz
   have f_b291 : w4.frozen? ⟨wr.heap.size, 1, none⟩ = false := by subst hW3; exact qFz
   have f_b292 : w4.frozen? ⟨wr.heap.size, 2, none⟩ = false := by subst hW3; exact qFz
   have f_b293 : w4.frozen? ⟨wr.heap.size, 3, none⟩ = false := by subst hW3; exact qFz
   have f_b294 : w4.frozen? ⟨wr.heap.size, 4, none⟩ = false := by subst hW3; exact qFz
   have z_b1 : w.heap.size < w4.heap.size := qB b10
   have z_b2 : w.heap.size + 1 < w4.heap.size := qB b20
   have z_b11 : w2.heap.size < w4.heap.size := qB b110
   have z_x12 : bl25 < w4.heap.size := qB x120
   have z_b29 : wr.heap.size < w4.heap.size := qB b290
   replace hE := hE.ext Lw4
   replace O4 := O4.ext Lw4
   replace i23 := i23.ext Lw4
   replace i24 := i24.ext Lw4
   have s_w4 : w.heap.size ≤ w4.heap.size := Xw4.size
   have BL28_w4 : Ext wr w4 := BL28.trans Lw4
   clear hW3
   go_wp2_with fail
   have Q36_b10 := Lib.hid b10
   have Q36_b11 := Lib.hid b11
   have Q36_zb1 := z_b1
   have Q36_b20 := Lib.hid b20
   have Q36_f_b20 := Lib.hid f_b20
   have Q36_b21 := Lib.hid b21
   have Q36_f_b21 := Lib.hid f_b21
   have Q36_zb2 := z_b2
   have Q36_b110 := Lib.hid b110
   have Q36_f_b110 := Lib.hid f_b110
   have Q36_b111 := Lib.hid b111
   have Q36_f_b111 := Lib.hid f_b111
   have Q36_zb11 := z_b11
   have Q36_x120 := Lib.hid x120
   have Q36_x121 := Lib.hid x121
   have Q36_x122 := Lib.hid x122
   have Q36_x123 := Lib.hid x123
   have Q36_x124 := Lib.hid x124
   have Q36_zx12 := z_x12
   have Q36_b290 := Lib.hid b290
   have Q36_f_b290 := Lib.hid f_b290
   have Q36_b291 := Lib.hid b291
   have Q36_f_b291 := Lib.hid f_b291
   have Q36_b292 := Lib.hid b292
   have Q36_f_b292 := Lib.hid f_b292
   have Q36_b293 := Lib.hid b293
   have Q36_f_b293 := Lib.hid f_b293
   have Q36_b294 := Lib.hid b294
   have Q36_f_b294 := Lib.hid f_b294
   have Q36_zb29 := z_b29
   have Q36_hE := Lib.hid hE
   have Q36_O4 := Lib.hid O4
   have Q36_i23 := Lib.hid i23
   have Q36_i24 := Lib.hid i24
   have BL37 : Ext w4 w4 := Ext.refl _
   refine (copyViewO_c B14 (.slice u19 S15.length c20) (.slice u21 T16.length c22) S15 T16 _ _ _ (i23.ext qXt) (i24.ext qXt)).mono ?_
   rintro e w5 ⟨gr30, gr31, rr32, rr33, rfl, O34, O35, Ggr30, Ggr30', Ggr31, Ggr31', hggr30, xw5⟩
   have Lw5 : Ext w4 w5 := Ext.trans qXt xw5
   have Xw5 : Ext w w5 := Xw4.trans Lw5
   replace b10 := Lw5.cell b10
   replace b11 := Lw5.cell b11
   replace b20 := Lw5.cell b20
   replace b21 := Lw5.cell b21
   replace f_b20 := Lw5.frz z_b2 f_b20
   replace f_b21 := Lw5.frz z_b2 f_b21
   replace b110 := Lw5.cell b110
   replace b111 := Lw5.cell b111
   replace f_b110 := Lw5.frz z_b11 f_b110
   replace f_b111 := Lw5.frz z_b11 f_b111
   replace x120 := Lw5.cell x120
   replace x121 := Lw5.cell x121
   replace x122 := Lw5.cell x122
   replace x123 := Lw5.cell x123
   replace x124 := Lw5.cell x124
   replace b290 := Lw5.cell b290
   replace b291 := Lw5.cell b291
   replace b292 := Lw5.cell b292
   replace b293 := Lw5.cell b293
   replace b294 := Lw5.cell b294
   replace f_b290 := Lw5.frz z_b29 f_b290
   replace f_b291 := Lw5.frz z_b29 f_b291
   replace f_b292 := Lw5.frz z_b29 f_b292
   replace f_b293 := Lw5.frz z_b29 f_b293
   replace f_b294 := Lw5.frz z_b29 f_b294
   have z_b1 : w.heap.size < w5.heap.size := qB b10
   have z_b2 : w.heap.size + 1 < w5.heap.size := qB b20
   have z_b11 : w2.heap.size < w5.heap.size := qB b110
   have z_x12 : bl25 < w5.heap.size := qB x120
   have z_b29 : wr.heap.size < w5.heap.size := qB b290
   replace hE := hE.ext Lw5
   replace O4 := O4.ext Lw5
   replace i23 := i23.ext Lw5
   replace i24 := i24.ext Lw5
   have s_w5 : w.heap.size ≤ w5.heap.size := Xw5.size
   have BL28_w5 : Ext wr w5 := BL28_w4.trans Lw5
   have BL37_w5 : Ext w4 w5 := BL37.trans Lw5
   clear xw5
   go_upto_region 6 with fail
   generalize hW4 : (((w5.setCell ⟨wr.heap.size, 1, none⟩ (.int .i64 B14)).setCell ⟨wr.heap.size, 2, none⟩ (.slice (some ⟨gr30, 0, none⟩) S15.length rr32)).setCell ⟨wr.heap.size, 3, none⟩ (.slice (some ⟨gr31, 0, none⟩) T16.length rr33)) = w6 at *
   have Kw6 : Chg (wr.heap.size) (wr.heap.size + 1) w5 w6 := by subst hW4; exact qCh
   have Xw6 : Ext w w6 := by subst hW4; exact qXt
   have BL28_w6 : Ext wr w6 := by subst hW4; exact qXt
   replace b10 := BL28_w6.cell Q27_b10.out
   replace b11 := BL28_w6.cell Q27_b11.out
   replace b20 := BL28_w6.cell Q27_b20.out
   replace f_b20 := BL28_w6.frz Q27_zb2 Q27_f_b20.out
   replace b21 := BL28_w6.cell Q27_b21.out
   replace f_b21 := BL28_w6.frz Q27_zb2 Q27_f_b21.out
   replace b110 := BL28_w6.cell Q27_b110.out
   replace f_b110 := BL28_w6.frz Q27_zb11 Q27_f_b110.out
   replace b111 := BL28_w6.cell Q27_b111.out
   replace f_b111 := BL28_w6.frz Q27_zb11 Q27_f_b111.out
   replace x120 := BL28_w6.cell Q27_x120.out
   replace x121 := BL28_w6.cell Q27_x121.out
   replace x122 := BL28_w6.cell Q27_x122.out
   replace x123 := BL28_w6.cell Q27_x123.out
   replace x124 := BL28_w6.cell Q27_x124.out
   replace b290 : w6.cell? ⟨wr.heap.size, 0, none⟩ = some (.int .i64 P13) := by subst hW4; go_simp
   replace f_b290 : w6.frozen? ⟨wr.heap.size, 0, none⟩ = false := by subst hW4; first | (simp only [World.frozen?_setCell]; with_reducible assumption) | go_simp
   replace b291 : w6.cell? ⟨wr.heap.size, 1, none⟩ = some (.int .i64 B14) := by subst hW4; go_simp
   replace f_b291 : w6.frozen? ⟨wr.heap.size, 1, none⟩ = false := by subst hW4; first | (simp only [World.frozen?_setCell]; with_reducible assumption) | go_simp
   replace b292 : w6.cell? ⟨wr.heap.size, 2, none⟩ = some (.slice (some ⟨gr30, 0, none⟩) S15.length rr32) := by subst hW4; go_simp
   replace f_b292 : w6.frozen? ⟨wr.heap.size, 2, none⟩ = false := by subst hW4; first | (simp only [World.frozen?_setCell]; with_reducible assumption) | go_simp
   replace b293 : w6.cell? ⟨wr.heap.size, 3, none⟩ = some (.slice (some ⟨gr31, 0, none⟩) T16.length rr33) := by subst hW4; go_simp
   replace f_b293 : w6.frozen? ⟨wr.heap.size, 3, none⟩ = false := by subst hW4; first | (simp only [World.frozen?_setCell]; with_reducible assumption) | go_simp
   replace b294 : w6.cell? ⟨wr.heap.size, 4, none⟩ = some (.bool O17) := by subst hW4; go_simp
   replace f_b294 : w6.frozen? ⟨wr.heap.size, 4, none⟩ = false := by subst hW4; first | (simp only [World.frozen?_setCell]; with_reducible assumption) | go_simp
   replace hE := (Q27_hE.out).ext BL28_w6
   replace O4 := O4.chgN Kw6 (by omega)
   replace i23 := (Q27_i23.out).ext BL28_w6
   replace i24 := (Q27_i24.out).ext BL28_w6
   replace O34 := O34.chgN Kw6 (by omega)
   replace O35 := O35.chgN Kw6 (by omega)
   clear Kw6
   have z_b1 : w.heap.size < w6.heap.size := qB b10
   have z_b2 : w.heap.size + 1 < w6.heap.size := qB b20
   have z_b11 : w2.heap.size < w6.heap.size := qB b110
   have z_x12 : bl25 < w6.heap.size := qB x120
   have z_b29 : wr.heap.size < w6.heap.size := qB b290
   have s_w6 : w.heap.size ≤ w6.heap.size := Xw6.size
   clear hW4
   have zBL := (BL28_w6).size
   have EE : Ext w6 (w6.alloc (.cells #[.int .i64 P13, .int .i64 B14, .slice (some ⟨gr30, 0, none⟩) S15.length rr32, .slice (some ⟨gr31, 0, none⟩) T16.length rr33, .bool O17] TEXPORT)) := qXt
   have SS : SrcR (w6.alloc (.cells #[.int .i64 P13, .int .i64 B14, .slice (some ⟨gr30, 0, none⟩) S15.length rr32, .slice (some ⟨gr31, 0, none⟩) T16.length rr33, .bool O17] TEXPORT)) 5 (.slice (some ⟨w6.heap.size, 0, none⟩) 1 1) 1 [.int .i64 P13, .int .i64 B14, .slice (some ⟨gr30, 0, none⟩) S15.length rr32, .slice (some ⟨gr31, 0, none⟩) T16.length rr33, .bool O17] := src_one w6 _ rfl (by intro u hu; simp only [List.mem_cons, List.not_mem_nil, or_false] at hu; rcases hu with rfl | rfl | rfl | rfl | rfl <;> rfl)
   go_wp2_with (
    at_builtin
    refine wpList_appC Try.underlying24 infoExp rfl (by decide) rfl (.tmp 23) (.tmp 25) rfl rfl rfl (hE.row.ext EE) SS (by rw [cellsE_len]; simp; omega) (by rw [cellsE_len]; simp; omega) (by simp <;> omega) ?_
    intro vw7 w7 ho hgr hbl hv
    have hS : ExpR w7 (w3.heap.size) vw7 ((es.take k) ++ [⟨P13, B14, S15, T16, O17⟩]) (extR R (es.take k).length (.slice (some ⟨gr30, 0, none⟩) S15.length rr32) (.slice (some ⟨gr31, 0, none⟩) T16.length rr33)) := ExpR.snoc Q27_hE.out (Ext.trans BL28_w6 EE) ((O34.ext EE).lower (by omega)).z ((O35.ext EE).lower (by omega)).z (by dsimp only; omega) (by dsimp only; omega) (fun _ _ h => by have h9 : gr30 = gr31 := Option.some.inj h; omega) (fun _ g h => by have h9 : gr30 = g := Option.some.inj h; omega) (fun _ g h => by have h9 : gr31 = g := Option.some.inj h; omega) ho hgr hv
    obtain ⟨pa38, pc39, hpv⟩ := hS.len
    rw [List.length_append, List.length_singleton, List.length_take, Nat.min_eq_left hk] at hpv
    subst hpv
    have Xw7 : Ext w w7 := Ext.below (Xw6.trans EE) hbl (by omega)
    clear x120 x121 x122 x123 x124
    clear b290 b291 b292 b293 b294 f_b290 f_b291 f_b292 f_b293 f_b294
    replace b10 := below_cell hbl (by omega) (EE.cell b10)
    replace b11 := below_cell hbl (by omega) (EE.cell b11)
    replace b20 := below_cell hbl (by omega) (EE.cell b20)
    replace f_b20 := below_frz hbl (by omega) (EE.frz z_b2 f_b20)
    replace b21 := below_cell hbl (by omega) (EE.cell b21)
    replace f_b21 := below_frz hbl (by omega) (EE.frz z_b2 f_b21)
    replace b110 := below_cell hbl (by omega) (EE.cell b110)
    replace f_b110 := below_frz hbl (by omega) (EE.frz z_b11 f_b110)
    replace b111 := below_cell hbl (by omega) (EE.cell b111)
    replace f_b111 := below_frz hbl (by omega) (EE.frz z_b11 f_b111)
    have z_b1 : w.heap.size < w7.heap.size := qB b10
    have z_b2 : w.heap.size + 1 < w7.heap.size := qB b20
    have z_b11 : w2.heap.size < w7.heap.size := qB b110
    replace O4 := (O4.ext EE).chgN (Below.chg hbl) (.inl (by omega))
    clear i23
    clear i24
    clear O34
    clear O35
    clear hE
    have hE := hS
    have hzb := hbl.size
    simp only [World.size_alloc] at hzb
    clear ho hbl EE SS hgr hv hS zBL
    have s_w7 : w.heap.size ≤ w7.heap.size := Xw7.size)
   go_upto_region 7 with fail
   generalize hW5 : (w7.setCell ⟨w2.heap.size, 1, none⟩ (.slice pa38 (k + 1) pc39)) = w8 at *
   have Kw8 : Chg (w2.heap.size) (w2.heap.size + 1) w7 w8 := by subst hW5; exact qCh
   have Xw8 : Ext w w8 := by subst hW5; exact qXt
   replace b10 := Kw8.cell (by omega) b10
   replace b11 := Kw8.cell (by omega) b11
   replace b20 := Kw8.cell (by omega) b20
   replace f_b20 := Kw8.frzO (by omega) z_b2 f_b20
   replace b21 := Kw8.cell (by omega) b21
   replace f_b21 := Kw8.frzO (by omega) z_b2 f_b21
   replace b110 : w8.cell? ⟨w2.heap.size, 0, none⟩ = some (.slice (some ⟨gr5, 0, none⟩) cells.length rr6) := by subst hW5; go_simp
   replace f_b110 : w8.frozen? ⟨w2.heap.size, 0, none⟩ = false := by subst hW5; first | (simp only [World.frozen?_setCell]; with_reducible assumption) | go_simp
   replace b111 : w8.cell? ⟨w2.heap.size, 1, none⟩ = some (.slice pa38 (k + 1) pc39) := by subst hW5; go_simp
   replace f_b111 : w8.frozen? ⟨w2.heap.size, 1, none⟩ = false := by subst hW5; first | (simp only [World.frozen?_setCell]; with_reducible assumption) | go_simp
   replace hE := hE.chg Kw8 (by omega)
   replace O4 := O4.chgN Kw8 (by omega)
   clear Kw8
   have z_b1 : w.heap.size < w8.heap.size := qB b10
   have z_b2 : w.heap.size + 1 < w8.heap.size := qB b20
   have z_b11 : w2.heap.size < w8.heap.size := qB b110
   have s_w8 : w.heap.size ≤ w8.heap.size := Xw8.size
   clear hW5
   go_wp2_with fail
   go_roundw
   case rel => exact ⟨k + 1, _, _, by omega, by go_num, (by rw [take_expAt hlt, hX18.out]; exact hE), Xw8, O4, b10, b11, b20, b21, f_b20, f_b21, b110, b111, f_b110, f_b111⟩
   case measure => simp [intOf]; omega
  ·
   obtain rfl : k = es.length := by omega
   have hkI : ¬ (es.length : Int) < es.length := by omega
   go_wp2_with fail
   generalize hW6 : ((wr.setCell ⟨w.heap.size + 1, 0, none⟩ (.slice (some ⟨gr5, 0, none⟩) cells.length rr6)).setCell ⟨w.heap.size + 1, 1, none⟩ (.slice ga es.length gc)) = w4 at *
   have Kw4 : Chg (w.heap.size + 1) (w.heap.size + 1 + 1) wr w4 := by subst hW6; exact qCh
   have Xw4 : Ext w w4 := by subst hW6; exact qXt
   replace b10 := Kw4.cell (by omega) b10
   replace b11 := Kw4.cell (by omega) b11
   replace b20 : w4.cell? ⟨w.heap.size + 1, 0, none⟩ = some (.slice (some ⟨gr5, 0, none⟩) cells.length rr6) := by subst hW6; go_simp
   replace f_b20 : w4.frozen? ⟨w.heap.size + 1, 0, none⟩ = false := by subst hW6; first | (simp only [World.frozen?_setCell]; with_reducible assumption) | go_simp
   replace b21 : w4.cell? ⟨w.heap.size + 1, 1, none⟩ = some (.slice ga es.length gc) := by subst hW6; go_simp
   replace f_b21 : w4.frozen? ⟨w.heap.size + 1, 1, none⟩ = false := by subst hW6; first | (simp only [World.frozen?_setCell]; with_reducible assumption) | go_simp
   replace b110 := Kw4.cell (by omega) b110
   replace f_b110 := Kw4.frzO (by omega) z_b11 f_b110
   replace b111 := Kw4.cell (by omega) b111
   replace f_b111 := Kw4.frzO (by omega) z_b11 f_b111
   replace hE := hE.chg Kw4 (by omega)
   replace O4 := O4.chgN Kw4 (by omega)
   clear Kw4
   have z_b1 : w.heap.size < w4.heap.size := qB b10
   have z_b2 : w.heap.size + 1 < w4.heap.size := qB b20
   have z_b11 : w2.heap.size < w4.heap.size := qB b110
   have s_w4 : w.heap.size ≤ w4.heap.size := Xw4.size
   clear hW6
   refine bodyPost_ret (v := .agg #[.slice (some ⟨gr5, 0, none⟩) cells.length rr6, .slice ga es.length gc]) (by simp only [results, Try.results40]; go_simp) rfl ?_
   rw [List.take_of_length_le (Nat.le_refl _)] at hE
   refine ⟨.slice (some ⟨gr5, 0, none⟩) cells.length rr6, .slice ga es.length gc, R, rfl, ⟨(O4.lower (by omega)).z, hE.lower (by omega), hc1, he1, fun _ h => ?_, fun p hp hs _ h => ?_, CapZ.row czgr5 rfl rfl⟩, (Xw4.trans qXt)⟩
   ·
    have h8 := (hE.blk gr5 h.symm).1
    omega
   ·
    obtain ⟨g, hg, hg1, -⟩ := hE.nblk p hp hs
    rw [hg] at h
    have h9 : g = gr5 := Option.some.inj h
    omega

set_option maxHeartbeats 3200000 in
theorem specCopyBuffer_c (cells : List Int) (es : List Exp) (cv ev : Value) (w : World) (l1 l2 : Nat) (h1 : Ints w l1 cv cells) (h2 : Exps w l2 ev es) :
  Calls Try.prog 42 #[.agg #[cv, ev]] w (PBuf w cells es) := by
 obtain ⟨p0, c0, rfl⟩ := h1.form
 obtain ⟨p1, c1, rfl⟩ := h2.form
 have he1 := h2.len
 have hc1 := h1.len
 go_enter Try.func42, Try.ntmps42
 go_upto_region 1 with fail
 generalize hW7 : (w.alloc (.cells #[.slice p0 cells.length c0, .slice p1 es.length c1] 26)).alloc (.cells #[.slice none 0 0, .slice none 0 0] 26) = w1 at *
 have Lw1 : Ext w w1 := by subst hW7; exact qXt
 have Xw1 : Ext w w1 := by subst hW7; exact Lw1
 have b10 : w1.cell? ⟨w.heap.size, 0, none⟩ = some (.slice p0 cells.length c0) := by subst hW7; exact qCl
 have b11 : w1.cell? ⟨w.heap.size, 1, none⟩ = some (.slice p1 es.length c1) := by subst hW7; exact qCl
 have b20 : w1.cell? ⟨w.heap.size + 1, 0, none⟩ = some (.slice none 0 0) := by subst hW7; exact qCl
 have b21 : w1.cell? ⟨w.heap.size + 1, 1, none⟩ = some (.slice none 0 0) := by subst hW7; exact qCl
 have f_b20 : w1.frozen? ⟨w.heap.size + 1, 0, none⟩ = false := by subst hW7; exact qFz
 have f_b21 : w1.frozen? ⟨w.heap.size + 1, 1, none⟩ = false := by subst hW7; exact qFz
 have z_b1 : w.heap.size < w1.heap.size := qB b10
 have z_b2 : w.heap.size + 1 < w1.heap.size := qB b20
 have s_w1 : w.heap.size ≤ w1.heap.size := Xw1.size
 clear hW7
 go_wp2_with fail
 have Q6_b10 := Lib.hid b10
 have Q6_b11 := Lib.hid b11
 have Q6_zb1 := z_b1
 have Q6_b20 := Lib.hid b20
 have Q6_f_b20 := Lib.hid f_b20
 have Q6_b21 := Lib.hid b21
 have Q6_f_b21 := Lib.hid f_b21
 have Q6_zb2 := z_b2
 have BL7 : Ext w1 w1 := Ext.refl _
 refine (copyIntsC_c (.slice p0 cells.length c0) cells _ _ (h1.ext (Xw1.trans qXt))).mono ?_
 rintro e w2 ⟨gr4, rr5, rfl, O3, Ggr4, Ggr4', czgr4, xw2⟩
 have Lw2 : Ext w1 w2 := Ext.trans qXt xw2
 have Xw2 : Ext w w2 := Xw1.trans Lw2
 replace b10 := Lw2.cell b10
 replace b11 := Lw2.cell b11
 replace b20 := Lw2.cell b20
 replace b21 := Lw2.cell b21
 replace f_b20 := Lw2.frz z_b2 f_b20
 replace f_b21 := Lw2.frz z_b2 f_b21
 have z_b1 : w.heap.size < w2.heap.size := qB b10
 have z_b2 : w.heap.size + 1 < w2.heap.size := qB b20
 have s_w2 : w.heap.size ≤ w2.heap.size := Xw2.size
 have BL7_w2 : Ext w1 w2 := BL7.trans Lw2
 clear xw2
 have Q8_b10 := Lib.hid b10
 have Q8_b11 := Lib.hid b11
 have Q8_zb1 := z_b1
 have Q8_b20 := Lib.hid b20
 have Q8_f_b20 := Lib.hid f_b20
 have Q8_b21 := Lib.hid b21
 have Q8_f_b21 := Lib.hid f_b21
 have Q8_zb2 := z_b2
 have Q8_O3 := Lib.hid O3
 have BL9 : Ext w2 w2 := Ext.refl _
 go_wp2_with fail
 generalize hW8 : w2.alloc (.cells #[.slice (some ⟨gr4, 0, none⟩) cells.length rr5, .slice none 0 0] 26) = w3 at *
 have Lw3 : Ext w2 w3 := by subst hW8; exact qXt
 have Xw3 : Ext w w3 := Xw2.trans Lw3
 replace b10 := Lw3.cell b10
 replace b11 := Lw3.cell b11
 replace b20 := Lw3.cell b20
 replace b21 := Lw3.cell b21
 replace f_b20 := Lw3.frz z_b2 f_b20
 replace f_b21 := Lw3.frz z_b2 f_b21
 have b100 : w3.cell? ⟨w2.heap.size, 0, none⟩ = some (.slice (some ⟨gr4, 0, none⟩) cells.length rr5) := by subst hW8; exact qCl
 have b101 : w3.cell? ⟨w2.heap.size, 1, none⟩ = some (.slice none 0 0) := by subst hW8; exact qCl
 have f_b100 : w3.frozen? ⟨w2.heap.size, 0, none⟩ = false := by subst hW8; exact qFz
 have f_b101 : w3.frozen? ⟨w2.heap.size, 1, none⟩ = false := by subst hW8; exact qFz
 have z_b1 : w.heap.size < w3.heap.size := qB b10
 have z_b2 : w.heap.size + 1 < w3.heap.size := qB b20
 have z_b10 : w2.heap.size < w3.heap.size := qB b100
 replace O3 := O3.ext Lw3
 have s_w3 : w.heap.size ≤ w3.heap.size := Xw3.size
 have BL7_w3 : Ext w1 w3 := BL7_w2.trans Lw3
 have BL9_w3 : Ext w2 w3 := BL9.trans Lw3
 have q_w3 : w3.heap.size ≤ w2.heap.size + 1 := by subst hW8; simp
 clear hW8
 have yE_b1 := z_b1
 have yE_b2 := z_b2
 have yE_b10 := z_b10
 go_loopw [4] (fun i wr => ∃ (k : Nat) (gv : Value) (R : Nat → Value), k ≤ es.length ∧ i = .int .i64 k ∧ ExpR wr w3.heap.size gv (es.take k) R ∧ Ext w wr ∧ OwnI wr w.heap.size (.slice (some ⟨gr4, 0, none⟩) cells.length rr5) cells ∧ wr.cell? ⟨w.heap.size, 0, none⟩ = some (.slice p0 cells.length c0) ∧ wr.cell? ⟨w.heap.size, 1, none⟩ = some (.slice p1 es.length c1) ∧ wr.cell? ⟨w.heap.size + 1, 0, none⟩ = some (.slice none 0 0) ∧ wr.cell? ⟨w.heap.size + 1, 1, none⟩ = some (.slice none 0 0) ∧ wr.frozen? ⟨w.heap.size + 1, 0, none⟩ = false ∧ wr.frozen? ⟨w.heap.size + 1, 1, none⟩ = false ∧ wr.cell? ⟨w2.heap.size, 0, none⟩ = some (.slice (some ⟨gr4, 0, none⟩) cells.length rr5) ∧ wr.cell? ⟨w2.heap.size, 1, none⟩ = some (gv) ∧ wr.frozen? ⟨w2.heap.size, 0, none⟩ = false ∧ wr.frozen? ⟨w2.heap.size, 1, none⟩ = false) (fun i _ => es.length - (intOf i).toNat)
 case atStart => exact ⟨0, _, fun _ => .slice none 0 0, Nat.zero_le _, rfl, ExpR.nil _ _ _, (Xw3.trans qXt), O3.lower (by omega), b10, b11, b20, b21, f_b20, f_b21, b100, b101, f_b100, f_b101⟩
 case round =>
  clear O3
  obtain ⟨k, gv, R, hk, rfl, hE, Xr, O3, b10, b11, b20, b21, f_b20, f_b21, b100, b101, f_b100, f_b101⟩ := hrel
  have z_b1 : w.heap.size < wr.heap.size := qB b10
  have z_b2 : w.heap.size + 1 < wr.heap.size := qB b20
  have z_b10 : w2.heap.size < wr.heap.size := qB b100
  obtain ⟨ga, gc, hgv⟩ := hE.len
  rw [List.length_take, Nat.min_eq_left hk] at hgv
  subst hgv
  have s_wr : w.heap.size ≤ wr.heap.size := Xr.size
  have hBr : w3.heap.size ≤ wr.heap.size := by omega
  by_cases hlt : k < es.length
  ·
   have hkI : (k : Int) < es.length := by omega
   have hN_x11 : k < es.length := (by omega)
   have hI_x11 : (k : Int) < (es.length : Int) := by omega
   obtain ⟨bl24, ol25, u18, c19, u20, c21, rfl, x110, x111, x112, x113, x114, i22, i23⟩ := (h2.ext Xr).at k hN_x11
   obtain ⟨X17, hX17⟩ : ∃ x, expAt es k = x := ⟨_, rfl⟩
   rw [hX17] at x110 x111 x112 x113 x114 i22 i23
   obtain ⟨P12, B13, S14, T15, O16⟩ := X17
   dsimp only at x110 x111 x112 x113 x114 i22 i23
   replace hX17 := Lib.hid hX17
   have hLS14 := i22.len
   have hLT15 := i23.len
   have z_x11 : bl24 < wr.heap.size := qB x110
   have Q26_b10 := Lib.hid b10
   have Q26_b11 := Lib.hid b11
   have Q26_zb1 := z_b1
   have Q26_b20 := Lib.hid b20
   have Q26_f_b20 := Lib.hid f_b20
   have Q26_b21 := Lib.hid b21
   have Q26_f_b21 := Lib.hid f_b21
   have Q26_zb2 := z_b2
   have Q26_b100 := Lib.hid b100
   have Q26_f_b100 := Lib.hid f_b100
   have Q26_b101 := Lib.hid b101
   have Q26_f_b101 := Lib.hid f_b101
   have Q26_zb10 := z_b10
   have Q26_x110 := Lib.hid x110
   have Q26_x111 := Lib.hid x111
   have Q26_x112 := Lib.hid x112
   have Q26_x113 := Lib.hid x113
   have Q26_x114 := Lib.hid x114
   have Q26_zx11 := z_x11
   have Q26_hE := Lib.hid hE
   have Q26_O3 := Lib.hid O3
   have Q26_i22 := Lib.hid i22
   have Q26_i23 := Lib.hid i23
   have BL27 : Ext wr wr := Ext.refl _
   go_upto_region 6 with fail
   generalize hW9 : wr.alloc (.cells #[.int .i64 P12, .int .i64 B13, .slice u18 S14.length c19, .slice u20 T15.length c21, .bool O16] 32) = w4 at *
   have Lw4 : Ext wr w4 := by subst hW9; exact qXt
   have Xw4 : Ext w w4 := Xr.trans Lw4
   replace b10 := Lw4.cell b10
   replace b11 := Lw4.cell b11
   replace b20 := Lw4.cell b20
   replace b21 := Lw4.cell b21
   replace f_b20 := Lw4.frz z_b2 f_b20
   replace f_b21 := Lw4.frz z_b2 f_b21
   replace b100 := Lw4.cell b100
   replace b101 := Lw4.cell b101
   replace f_b100 := Lw4.frz z_b10 f_b100
   replace f_b101 := Lw4.frz z_b10 f_b101
   replace x110 := Lw4.cell x110
   replace x111 := Lw4.cell x111
   replace x112 := Lw4.cell x112
   replace x113 := Lw4.cell x113
   replace x114 := Lw4.cell x114
   have b280 : w4.cell? ⟨wr.heap.size, 0, none⟩ = some (.int .i64 P12) := by subst hW9; exact qCl
   have b281 : w4.cell? ⟨wr.heap.size, 1, none⟩ = some (.int .i64 B13) := by subst hW9; exact qCl
   have b282 : w4.cell? ⟨wr.heap.size, 2, none⟩ = some (.slice u18 S14.length c19) := by subst hW9; exact qCl
   have b283 : w4.cell? ⟨wr.heap.size, 3, none⟩ = some (.slice u20 T15.length c21) := by subst hW9; exact qCl
   have b284 : w4.cell? ⟨wr.heap.size, 4, none⟩ = some (.bool O16) := by subst hW9; exact qCl
   have f_b280 : w4.frozen? ⟨wr.heap.size, 0, none⟩ = false := by subst hW9; exact qFz
   have f_b281 : w4.frozen? ⟨wr.heap.size, 1, none⟩ = false := by subst hW9; exact qFz
   have f_b282 : w4.frozen? ⟨wr.heap.size, 2, none⟩ = false := by subst hW9; exact qFz
   have f_b283 : w4.frozen? ⟨wr.heap.size, 3, none⟩ = false := by subst hW9; exact qFz
   have f_b284 : w4.frozen? ⟨wr.heap.size, 4, none⟩ = false := by subst hW9; exact qFz
   have z_b1 : w.heap.size < w4.heap.size := qB b10
   have z_b2 : w.heap.size + 1 < w4.heap.size := qB b20
   have z_b10 : w2.heap.size < w4.heap.size := qB b100
   have z_x11 : bl24 < w4.heap.size := qB x110
   have z_b28 : wr.heap.size < w4.heap.size := qB b280
   replace hE := hE.ext Lw4
   replace O3 := O3.ext Lw4
   replace i22 := i22.ext Lw4
   replace i23 := i23.ext Lw4
   have s_w4 : w.heap.size ≤ w4.heap.size := Xw4.size
   have BL27_w4 : Ext wr w4 := BL27.trans Lw4
   clear hW9
   go_wp2_with fail
   have Q35_b10 := Lib.hid b10
   have Q35_b11 := Lib.hid b11
   have Q35_zb1 := z_b1
   have Q35_b20 := Lib.hid b20
   have Q35_f_b20 := Lib.hid f_b20
   have Q35_b21 := Lib.hid b21
   have Q35_f_b21 := Lib.hid f_b21
   have Q35_zb2 := z_b2
   have Q35_b100 := Lib.hid b100
   have Q35_f_b100 := Lib.hid f_b100
   have Q35_b101 := Lib.hid b101
   have Q35_f_b101 := Lib.hid f_b101
   have Q35_zb10 := z_b10
   have Q35_x110 := Lib.hid x110
   have Q35_x111 := Lib.hid x111
   have Q35_x112 := Lib.hid x112
   have Q35_x113 := Lib.hid x113
   have Q35_x114 := Lib.hid x114
   have Q35_zx11 := z_x11
   have Q35_b280 := Lib.hid b280
   have Q35_f_b280 := Lib.hid f_b280
   have Q35_b281 := Lib.hid b281
   have Q35_f_b281 := Lib.hid f_b281
   have Q35_b282 := Lib.hid b282
   have Q35_f_b282 := Lib.hid f_b282
   have Q35_b283 := Lib.hid b283
   have Q35_f_b283 := Lib.hid f_b283
   have Q35_b284 := Lib.hid b284
   have Q35_f_b284 := Lib.hid f_b284
   have Q35_zb28 := z_b28
   have Q35_hE := Lib.hid hE
   have Q35_O3 := Lib.hid O3
   have Q35_i22 := Lib.hid i22
   have Q35_i23 := Lib.hid i23
   have BL36 : Ext w4 w4 := Ext.refl _
   refine (scopyViewO_c B13 (.slice u18 S14.length c19) (.slice u20 T15.length c21) S14 T15 _ _ _ (i22.ext qXt) (i23.ext qXt)).mono ?_
   rintro e w5 ⟨gr29, gr30, rr31, rr32, rfl, O33, O34, Ggr29, Ggr29', Ggr30, Ggr30', hggr29, xw5⟩
   have Lw5 : Ext w4 w5 := Ext.trans qXt xw5
   have Xw5 : Ext w w5 := Xw4.trans Lw5
   replace b10 := Lw5.cell b10
   replace b11 := Lw5.cell b11
   replace b20 := Lw5.cell b20
   replace b21 := Lw5.cell b21
   replace f_b20 := Lw5.frz z_b2 f_b20
   replace f_b21 := Lw5.frz z_b2 f_b21
   replace b100 := Lw5.cell b100
   replace b101 := Lw5.cell b101
   replace f_b100 := Lw5.frz z_b10 f_b100
   replace f_b101 := Lw5.frz z_b10 f_b101
   replace x110 := Lw5.cell x110
   replace x111 := Lw5.cell x111
   replace x112 := Lw5.cell x112
   replace x113 := Lw5.cell x113
   replace x114 := Lw5.cell x114
   replace b280 := Lw5.cell b280
   replace b281 := Lw5.cell b281
   replace b282 := Lw5.cell b282
   replace b283 := Lw5.cell b283
   replace b284 := Lw5.cell b284
   replace f_b280 := Lw5.frz z_b28 f_b280
   replace f_b281 := Lw5.frz z_b28 f_b281
   replace f_b282 := Lw5.frz z_b28 f_b282
   replace f_b283 := Lw5.frz z_b28 f_b283
   replace f_b284 := Lw5.frz z_b28 f_b284
   have z_b1 : w.heap.size < w5.heap.size := qB b10
   have z_b2 : w.heap.size + 1 < w5.heap.size := qB b20
   have z_b10 : w2.heap.size < w5.heap.size := qB b100
   have z_x11 : bl24 < w5.heap.size := qB x110
   have z_b28 : wr.heap.size < w5.heap.size := qB b280
   replace hE := hE.ext Lw5
   replace O3 := O3.ext Lw5
   replace i22 := i22.ext Lw5
   replace i23 := i23.ext Lw5
   have s_w5 : w.heap.size ≤ w5.heap.size := Xw5.size
   have BL27_w5 : Ext wr w5 := BL27_w4.trans Lw5
   have BL36_w5 : Ext w4 w5 := BL36.trans Lw5
   clear xw5
   go_upto_region 7 with fail
   generalize hW10 : (((w5.setCell ⟨wr.heap.size, 1, none⟩ (.int .i64 B13)).setCell ⟨wr.heap.size, 2, none⟩ (.slice (some ⟨gr29, 0, none⟩) S14.length rr31)).setCell ⟨wr.heap.size, 3, none⟩ (.slice (some ⟨gr30, 0, none⟩) T15.length rr32)) = w6 at *
   have Kw6 : Chg (wr.heap.size) (wr.heap.size + 1) w5 w6 := by subst hW10; exact qCh
   have Xw6 : Ext w w6 := by subst hW10; exact qXt
   have BL27_w6 : Ext wr w6 := by subst hW10; exact qXt
   replace b10 := BL27_w6.cell Q26_b10.out
   replace b11 := BL27_w6.cell Q26_b11.out
   replace b20 := BL27_w6.cell Q26_b20.out
   replace f_b20 := BL27_w6.frz Q26_zb2 Q26_f_b20.out
   replace b21 := BL27_w6.cell Q26_b21.out
   replace f_b21 := BL27_w6.frz Q26_zb2 Q26_f_b21.out
   replace b100 := BL27_w6.cell Q26_b100.out
   replace f_b100 := BL27_w6.frz Q26_zb10 Q26_f_b100.out
   replace b101 := BL27_w6.cell Q26_b101.out
   replace f_b101 := BL27_w6.frz Q26_zb10 Q26_f_b101.out
   replace x110 := BL27_w6.cell Q26_x110.out
   replace x111 := BL27_w6.cell Q26_x111.out
   replace x112 := BL27_w6.cell Q26_x112.out
   replace x113 := BL27_w6.cell Q26_x113.out
   replace x114 := BL27_w6.cell Q26_x114.out
   replace b280 : w6.cell? ⟨wr.heap.size, 0, none⟩ = some (.int .i64 P12) := by subst hW10; go_simp
   replace f_b280 : w6.frozen? ⟨wr.heap.size, 0, none⟩ = false := by subst hW10; first | (simp only [World.frozen?_setCell]; with_reducible assumption) | go_simp
   replace b281 : w6.cell? ⟨wr.heap.size, 1, none⟩ = some (.int .i64 B13) := by subst hW10; go_simp
   replace f_b281 : w6.frozen? ⟨wr.heap.size, 1, none⟩ = false := by subst hW10; first | (simp only [World.frozen?_setCell]; with_reducible assumption) | go_simp
   replace b282 : w6.cell? ⟨wr.heap.size, 2, none⟩ = some (.slice (some ⟨gr29, 0, none⟩) S14.length rr31) := by subst hW10; go_simp
   replace f_b282 : w6.frozen? ⟨wr.heap.size, 2, none⟩ = false := by subst hW10; first | (simp only [World.frozen?_setCell]; with_reducible assumption) | go_simp
   replace b283 : w6.cell? ⟨wr.heap.size, 3, none⟩ = some (.slice (some ⟨gr30, 0, none⟩) T15.length rr32) := by subst hW10; go_simp
   replace f_b283 : w6.frozen? ⟨wr.heap.size, 3, none⟩ = false := by subst hW10; first | (simp only [World.frozen?_setCell]; with_reducible assumption) | go_simp
   replace b284 : w6.cell? ⟨wr.heap.size, 4, none⟩ = some (.bool O16) := by subst hW10; go_simp
   replace f_b284 : w6.frozen? ⟨wr.heap.size, 4, none⟩ = false := by subst hW10; first | (simp only [World.frozen?_setCell]; with_reducible assumption) | go_simp
   replace hE := (Q26_hE.out).ext BL27_w6
   replace O3 := O3.chgN Kw6 (by omega)
   replace i22 := (Q26_i22.out).ext BL27_w6
   replace i23 := (Q26_i23.out).ext BL27_w6
   replace O33 := O33.chgN Kw6 (by omega)
   replace O34 := O34.chgN Kw6 (by omega)
   clear Kw6
   have z_b1 : w.heap.size < w6.heap.size := qB b10
   have z_b2 : w.heap.size + 1 < w6.heap.size := qB b20
   have z_b10 : w2.heap.size < w6.heap.size := qB b100
   have z_x11 : bl24 < w6.heap.size := qB x110
   have z_b28 : wr.heap.size < w6.heap.size := qB b280
   have s_w6 : w.heap.size ≤ w6.heap.size := Xw6.size
   clear hW10
   have zBL := (BL27_w6).size
   have EE : Ext w6 (w6.alloc (.cells #[.int .i64 P12, .int .i64 B13, .slice (some ⟨gr29, 0, none⟩) S14.length rr31, .slice (some ⟨gr30, 0, none⟩) T15.length rr32, .bool O16] TEXPORT)) := qXt
   have SS : SrcR (w6.alloc (.cells #[.int .i64 P12, .int .i64 B13, .slice (some ⟨gr29, 0, none⟩) S14.length rr31, .slice (some ⟨gr30, 0, none⟩) T15.length rr32, .bool O16] TEXPORT)) 5 (.slice (some ⟨w6.heap.size, 0, none⟩) 1 1) 1 [.int .i64 P12, .int .i64 B13, .slice (some ⟨gr29, 0, none⟩) S14.length rr31, .slice (some ⟨gr30, 0, none⟩) T15.length rr32, .bool O16] := src_one w6 _ rfl (by intro u hu; simp only [List.mem_cons, List.not_mem_nil, or_false] at hu; rcases hu with rfl | rfl | rfl | rfl | rfl <;> rfl)
   go_wp2_with (
    at_builtin
    refine wpList_appC Try.underlying24 infoExp rfl (by decide) rfl (.tmp 27) (.tmp 29) rfl rfl rfl (hE.row.ext EE) SS (by rw [cellsE_len]; simp; omega) (by rw [cellsE_len]; simp; omega) (by simp <;> omega) ?_
    intro vw7 w7 ho hgr hbl hv
    have hS : ExpR w7 (w3.heap.size) vw7 ((es.take k) ++ [⟨P12, B13, S14, T15, O16⟩]) (extR R (es.take k).length (.slice (some ⟨gr29, 0, none⟩) S14.length rr31) (.slice (some ⟨gr30, 0, none⟩) T15.length rr32)) := ExpR.snoc Q26_hE.out (Ext.trans BL27_w6 EE) ((O33.ext EE).lower (by omega)).z ((O34.ext EE).lower (by omega)).z (by dsimp only; omega) (by dsimp only; omega) (fun _ _ h => by have h9 : gr29 = gr30 := Option.some.inj h; omega) (fun _ g h => by have h9 : gr29 = g := Option.some.inj h; omega) (fun _ g h => by have h9 : gr30 = g := Option.some.inj h; omega) ho hgr hv
    obtain ⟨pa37, pc38, hpv⟩ := hS.len
    rw [List.length_append, List.length_singleton, List.length_take, Nat.min_eq_left hk] at hpv
    subst hpv
    have Xw7 : Ext w w7 := Ext.below (Xw6.trans EE) hbl (by omega)
    clear x110 x111 x112 x113 x114
    clear b280 b281 b282 b283 b284 f_b280 f_b281 f_b282 f_b283 f_b284
    replace b10 := below_cell hbl (by omega) (EE.cell b10)
    replace b11 := below_cell hbl (by omega) (EE.cell b11)
    replace b20 := below_cell hbl (by omega) (EE.cell b20)
    replace f_b20 := below_frz hbl (by omega) (EE.frz z_b2 f_b20)
    replace b21 := below_cell hbl (by omega) (EE.cell b21)
    replace f_b21 := below_frz hbl (by omega) (EE.frz z_b2 f_b21)
    replace b100 := below_cell hbl (by omega) (EE.cell b100)
    replace f_b100 := below_frz hbl (by omega) (EE.frz z_b10 f_b100)
    replace b101 := below_cell hbl (by omega) (EE.cell b101)
    replace f_b101 := below_frz hbl (by omega) (EE.frz z_b10 f_b101)
    have z_b1 : w.heap.size < w7.heap.size := qB b10
    have z_b2 : w.heap.size + 1 < w7.heap.size := qB b20
    have z_b10 : w2.heap.size < w7.heap.size := qB b100
    replace O3 := (O3.ext EE).chgN (Below.chg hbl) (.inl (by omega))
    clear i22
    clear i23
    clear O33
    clear O34
    clear hE
    have hE := hS
    have hzb := hbl.size
    simp only [World.size_alloc] at hzb
    clear ho hbl EE SS hgr hv hS zBL
    have s_w7 : w.heap.size ≤ w7.heap.size := Xw7.size)
   go_wp2_with fail
   generalize hW11 : (w7.setCell ⟨w2.heap.size, 1, none⟩ (.slice pa37 (k + 1) pc38)) = w8 at *
   have Kw8 : Chg (w2.heap.size) (w2.heap.size + 1) w7 w8 := by subst hW11; exact qCh
   have Xw8 : Ext w w8 := by subst hW11; exact qXt
   replace b10 := Kw8.cell (by omega) b10
   replace b11 := Kw8.cell (by omega) b11
   replace b20 := Kw8.cell (by omega) b20
   replace f_b20 := Kw8.frzO (by omega) z_b2 f_b20
   replace b21 := Kw8.cell (by omega) b21
   replace f_b21 := Kw8.frzO (by omega) z_b2 f_b21
   replace b100 : w8.cell? ⟨w2.heap.size, 0, none⟩ = some (.slice (some ⟨gr4, 0, none⟩) cells.length rr5) := by subst hW11; go_simp
   replace f_b100 : w8.frozen? ⟨w2.heap.size, 0, none⟩ = false := by subst hW11; first | (simp only [World.frozen?_setCell]; with_reducible assumption) | go_simp
   replace b101 : w8.cell? ⟨w2.heap.size, 1, none⟩ = some (.slice pa37 (k + 1) pc38) := by subst hW11; go_simp
   replace f_b101 : w8.frozen? ⟨w2.heap.size, 1, none⟩ = false := by subst hW11; first | (simp only [World.frozen?_setCell]; with_reducible assumption) | go_simp
   replace hE := hE.chg Kw8 (by omega)
   replace O3 := O3.chgN Kw8 (by omega)
   clear Kw8
   have z_b1 : w.heap.size < w8.heap.size := qB b10
   have z_b2 : w.heap.size + 1 < w8.heap.size := qB b20
   have z_b10 : w2.heap.size < w8.heap.size := qB b100
   have s_w8 : w.heap.size ≤ w8.heap.size := Xw8.size
   clear hW11
   go_roundw
   case rel => exact ⟨k + 1, _, _, by omega, by go_num, (by rw [take_expAt hlt, hX17.out]; exact hE), Xw8, O3, b10, b11, b20, b21, f_b20, f_b21, b100, b101, f_b100, f_b101⟩
   case measure => simp [intOf]; omega
  ·
   obtain rfl : k = es.length := by omega
   have hkI : ¬ (es.length : Int) < es.length := by omega
   go_wp2_with fail
   generalize hW12 : ((wr.setCell ⟨w.heap.size + 1, 0, none⟩ (.slice (some ⟨gr4, 0, none⟩) cells.length rr5)).setCell ⟨w.heap.size + 1, 1, none⟩ (.slice ga es.length gc)) = w4 at *
   have Kw4 : Chg (w.heap.size + 1) (w.heap.size + 1 + 1) wr w4 := by subst hW12; exact qCh
   have Xw4 : Ext w w4 := by subst hW12; exact qXt
   replace b10 := Kw4.cell (by omega) b10
   replace b11 := Kw4.cell (by omega) b11
   replace b20 : w4.cell? ⟨w.heap.size + 1, 0, none⟩ = some (.slice (some ⟨gr4, 0, none⟩) cells.length rr5) := by subst hW12; go_simp
   replace f_b20 : w4.frozen? ⟨w.heap.size + 1, 0, none⟩ = false := by subst hW12; first | (simp only [World.frozen?_setCell]; with_reducible assumption) | go_simp
   replace b21 : w4.cell? ⟨w.heap.size + 1, 1, none⟩ = some (.slice ga es.length gc) := by subst hW12; go_simp
   replace f_b21 : w4.frozen? ⟨w.heap.size + 1, 1, none⟩ = false := by subst hW12; first | (simp only [World.frozen?_setCell]; with_reducible assumption) | go_simp
   replace b100 := Kw4.cell (by omega) b100
   replace f_b100 := Kw4.frzO (by omega) z_b10 f_b100
   replace b101 := Kw4.cell (by omega) b101
   replace f_b101 := Kw4.frzO (by omega) z_b10 f_b101
   replace hE := hE.chg Kw4 (by omega)
   replace O3 := O3.chgN Kw4 (by omega)
   clear Kw4
   have z_b1 : w.heap.size < w4.heap.size := qB b10
   have z_b2 : w.heap.size + 1 < w4.heap.size := qB b20
   have z_b10 : w2.heap.size < w4.heap.size := qB b100
   have s_w4 : w.heap.size ≤ w4.heap.size := Xw4.size
   clear hW12
   refine bodyPost_ret (v := .agg #[.slice (some ⟨gr4, 0, none⟩) cells.length rr5, .slice ga es.length gc]) (by simp only [results, Try.results42]; go_simp) rfl ?_
   rw [List.take_of_length_le (Nat.le_refl _)] at hE
   refine ⟨.slice (some ⟨gr4, 0, none⟩) cells.length rr5, .slice ga es.length gc, R, rfl, ⟨(O3.lower (by omega)).z, hE.lower (by omega), hc1, he1, fun _ h => ?_, fun p hp hs _ h => ?_, CapZ.row czgr4 rfl rfl⟩, (Xw4.trans qXt)⟩
   ·
    have h8 := (hE.blk gr4 h.symm).1
    omega
   ·
    obtain ⟨g, hg, hg1, -⟩ := hE.nblk p hp hs
    rw [hg] at h
    have h9 : g = gr4 := Option.some.inj h
    omega


end Go.Proofs.Ytgklaobfikbiiaa

/- Walks of the laws' own helpers on buffers: sizes, conversions. -/
namespace Go.Proofs.Ytgklaobfikbiiaa
open Go.RowKit
set_option linter.unusedVariables false
set_option maxRecDepth 100000

/-- a slice of exports that came in -/
def RawE (w : World) (v : Value) (es : List Exp) : Prop :=
  ∃ a cap, v = .slice a es.length cap ∧ (a = none → cap = 0) ∧
    ∀ i, i < es.length → ∃ bl off u1 c1 u2 c2, a = some ⟨bl, off, none⟩ ∧
      w.cell? ⟨bl, off + i * 5, none⟩ = some (.int .i64 (expAt es i).par) ∧ w.cell? ⟨bl, off + i * 5 + 1, none⟩ = some (.int .i64 (expAt es i).b) ∧
      w.cell? ⟨bl, off + i * 5 + 2, none⟩ = some (.slice u1 (expAt es i).s.length c1) ∧ w.cell? ⟨bl, off + i * 5 + 3, none⟩ = some (.slice u2 (expAt es i).t.length c2) ∧
      w.cell? ⟨bl, off + i * 5 + 4, none⟩ = some (.bool (expAt es i).op) ∧ Raw w (.slice u1 (expAt es i).s.length c1) (expAt es i).s ∧ Raw w (.slice u2 (expAt es i).t.length c2) (expAt es i).t ∧
      (expAt es i).s.length ≤ maxLen ∧ (expAt es i).t.length ≤ maxLen
theorem RawE.ext {w w' : World} {v : Value} {es : List Exp} (h : RawE w v es) (hx : Ext w w') : RawE w' v es := by
  obtain ⟨a, cap, hv, h3, h4⟩ := h
  refine ⟨a, cap, hv, h3, fun i hi => ?_⟩
  obtain ⟨bl, off, u1, c1, u2, c2, ha, k0, k1, k2, k3, k4, i1, i2, m⟩ := h4 i hi
  exact ⟨bl, off, u1, c1, u2, c2, ha, hx.cell k0, hx.cell k1, hx.cell k2, hx.cell k3, hx.cell k4, i1.ext hx, i2.ext hx, m⟩
/-- the numbers in the views of the first k exports -/
def sizeE (es : List Exp) : Nat → Nat
  | 0 => 0
  | k + 1 => sizeE es k + ((expAt es k).s.length + (expAt es k).t.length)
theorem sizeE_le (es : List Exp) (i k : Nat) (h : i < k) : (expAt es i).s.length + (expAt es i).t.length ≤ sizeE es k := by
  induction k with
  | zero => omega
  | succ k ih =>
    unfold sizeE
    by_cases hk : i = k
    · subst hk; omega
    · have := ih (by omega); omega
/-- what is left -/
def PLeft (need : Nat) (left : Int) (w : World) (e : Ending) (w' : World) : Prop := ∃ L : Int, e = .returned (.int .i64 L) ∧ -1 ≤ L ∧ L ≤ 1048576 ∧ (0 ≤ L → (need : Int) + L = left) ∧ Ext w w'
end Go.Proofs.Ytgklaobfikbiiaa

/- Walks of the laws' own helpers on buffers: conversions. -/
namespace Go.Proofs.Ytgklaobfikbiiaa
open Go.RowKit
set_option linter.unusedVariables false
set_option maxRecDepth 100000

theorem made_flat (zs : List Value) (sz : Nat) (hz : zs.length = sz) (hsz : 0 < sz) (n : Nat) : (madeCells zs.toArray (n * sz)).toList = (List.replicate n zs).flatten := by
  have hall : ∀ c ∈ List.replicate n zs, c.length = sz := fun c hc => by rw [List.eq_of_mem_replicate hc]; exact hz
  refine List.ext_getElem (by rw [flat_len hall]; simp [size_madeCells]) fun i h1 h2 => ?_
  have h : i < n * sz := by simpa [size_madeCells] using h1
  have e : i / sz * sz + i % sz = i := by rw [Nat.mul_comm]; exact Nat.div_add_mod i sz
  have h3 : i / sz < n := Nat.div_lt_of_lt_mul (by rw [Nat.mul_comm]; exact h)
  have h4 : i % sz < sz := Nat.mod_lt _ hsz
  have k := flat_get hall (i / sz) (i % sz) (by simpa using h3) h4
  rw [e, List.getElem?_eq_getElem h2, List.getElem_replicate, List.getElem?_eq_getElem (by omega)] at k
  rw [Option.some.inj k]
  simp [madeCells, hz]
  rw [List.getElem?_eq_getElem (by omega)]; rfl
theorem expAt_rep (n i : Nat) : expAt (List.replicate n noE) i = noE := by
  unfold expAt
  rw [List.getD_eq_getElem?_getD, List.getElem?_replicate]
  split <;> rfl
theorem rowAt_rep (n p : Nat) : rowAt (List.replicate n noE) p = [] := by unfold rowAt; rw [expAt_rep]; split <;> rfl
theorem cellsE_rep (n : Nat) : cellsE (List.replicate n noE) (fun _ => .slice none 0 0) = List.replicate n [.int .i64 0, .int .i64 0, .slice none 0 0, .slice none 0 0, .bool false] := by
  refine List.ext_getElem (by rw [cellsE_len]; simp) fun i h1 h2 => ?_
  rw [cellsE_get, List.getElem_replicate, expAt_rep]; rfl
theorem own_nil (w : World) (lo : Nat) : OwnZ w lo (.slice none 0 0) [] := .inl ⟨rfl, none, 0, rfl, by simp, fun _ => rfl⟩
/-- n exports of zeros -/
theorem ExpR.made {w : World} {lo g n c : Nat} (h : w.ownsRow lo TEXPORT 5 (.slice (some ⟨g, 0, none⟩) n c) n (madeCells #[.int .i64 0, .int .i64 0, .slice none 0 0, .slice none 0 0, .bool false] (n * 5)).toList) :
    ExpR w lo (.slice (some ⟨g, 0, none⟩) n c) (List.replicate n noE) (fun _ => .slice none 0 0) := by
  have e := made_flat [.int .i64 0, .int .i64 0, .slice none 0 0, .slice none 0 0, .bool false] 5 rfl (by omega) n
  change (madeCells #[.int .i64 0, .int .i64 0, .slice none 0 0, .slice none 0 0, .bool false] (n * 5)).toList = _ at e
  rw [e] at h
  refine ⟨⟨?_, fun c hc => ?_⟩, fun p _ => by rw [rowAt_rep]; exact own_nil _ _, fun p _ => by rw [rowAt_rep]; simp, fun p q _ _ hs => absurd (rowAt_rep n p) hs, fun p _ hs => absurd (rowAt_rep n p) hs⟩
  · rw [cellsE_rep, List.length_replicate]; exact h
  · rw [cellsE_rep] at hc; rw [List.eq_of_mem_replicate hc]; rfl
def putR (R : Nat → Value) (k : Nat) (u1 u2 : Value) (p : Nat) : Value := if p = 2 * k then u1 else if p = 2 * k + 1 then u2 else R p
theorem putR_a {R : Nat → Value} {k : Nat} {u1 u2 : Value} : putR R k u1 u2 (2 * k) = u1 := by unfold putR; rw [if_pos rfl]
theorem putR_b {R : Nat → Value} {k : Nat} {u1 u2 : Value} : putR R k u1 u2 (2 * k + 1) = u2 := by unfold putR; rw [if_neg (by omega), if_pos rfl]
theorem putR_o {R : Nat → Value} {k : Nat} {u1 u2 : Value} {p : Nat} (h : p / 2 ≠ k) : putR R k u1 u2 p = R p := by unfold putR; rw [if_neg (by omega), if_neg (by omega)]
section
variable {w w' W : World} {lo : Nat} {es : List Exp} {R : Nat → Value}
/-- the cells of an export in a row of one's own -/
theorem ExpR.cells {g n c : Nat} (h : ExpR w lo (.slice (some ⟨g, 0, none⟩) n c) es R) (hn : n = es.length) (i j : Nat) (hi : i < es.length) (hj : j < 5) :
    w.cell? ⟨g, i * 5 + j, none⟩ = (eCells (expAt es i) (R (2 * i)) (R (2 * i + 1)))[j]? ∧ w.frozen? ⟨g, i * 5 + j, none⟩ = false := by
  subst hn
  have hr := h.row
  have e1 : (.slice (some ⟨g, 0, none⟩) es.length c : Value) = .slice (some ⟨g, 0, none⟩) (cellsE es R).length c := by rw [cellsE_len]
  rw [e1] at hr
  have := hr.cell i j (by rw [cellsE_len]; exact hi) hj
  rw [cellsE_get] at this
  exact this
theorem OwnC.setN {base E sz g n c : Nat} {L : List (List Value)} (h : OwnC w base E sz (.slice (some ⟨g, 0, none⟩) n c) L) (hn : n = L.length) (i j : Nat) (hi : i < L.length) (hj : j < sz) (x : Value) :
    OwnC (w.setCell ⟨g, i * sz + j, none⟩ x) base E sz (.slice (some ⟨g, 0, none⟩) n c) (L.set i ((L[i]).set j x)) := by subst hn; exact h.set i j hi hj x
theorem OwnC.put5 {base E g n c : Nat} {L : List (List Value)} (h : OwnC w base E 5 (.slice (some ⟨g, 0, none⟩) n c) L) (hn : n = L.length) (i : Nat) (hi : i < L.length) (x0 x1 x2 x3 x4 : Value) :
    OwnC (((((w.setCell ⟨g, i * 5, none⟩ x0).setCell ⟨g, i * 5 + 1, none⟩ x1).setCell ⟨g, i * 5 + 2, none⟩ x2).setCell ⟨g, i * 5 + 3, none⟩ x3).setCell ⟨g, i * 5 + 4, none⟩ x4) base E 5 (.slice (some ⟨g, 0, none⟩) n c) (L.set i [x0, x1, x2, x3, x4]) := by
  have hl : L[i].length = 5 := h.2 _ (List.getElem_mem hi)
  obtain ⟨y0, y1, y2, y3, y4, hy⟩ : ∃ y0 y1 y2 y3 y4, L[i] = [y0, y1, y2, y3, y4] := by
    match hL : L[i], hl with
    | [a, b, c, d, e], _ => exact ⟨a, b, c, d, e, rfl⟩
  have r1 := h.setN hn i 0 hi (by omega) x0
  have r2 := r1.setN (by simpa using hn) i 1 (by simpa using hi) (by omega) x1
  have r3 := r2.setN (by simpa using hn) i 2 (by simpa using hi) (by omega) x2
  have r4 := r3.setN (by simpa using hn) i 3 (by simpa using hi) (by omega) x3
  have r5 := r4.setN (by simpa using hn) i 4 (by simpa using hi) (by omega) x4
  simp only [List.getElem_set_self, List.set_set, hy] at r5
  exact r5
/-- an export is written, with rows that came up later than all others -/
theorem ExpR.put {w0 : World} {g c : Nat} {e : Exp} {u1 u2 : Value} (h0 : ExpR w0 lo (.slice (some ⟨g, 0, none⟩) es.length c) es R) (hx : Ext w0 W) (k : Nat) (hk : k < es.length) (o1 : OwnZ W lo u1 e.s) (o2 : OwnZ W lo u2 e.t)
    (l1 : e.s.length ≤ 4194304) (l2 : e.t.length ≤ 4194304) (hd : e.s ≠ [] → e.t ≠ [] → u1.ownBlock ≠ u2.ownBlock) (m1 : e.s ≠ [] → ∀ b, u1.ownBlock = some b → w0.heap.size ≤ b) (m2 : e.t ≠ [] → ∀ b, u2.ownBlock = some b → w0.heap.size ≤ b) :
    ExpR (((((W.setCell ⟨g, k * 5, none⟩ (.int .i64 e.par)).setCell ⟨g, k * 5 + 1, none⟩ (.int .i64 e.b)).setCell ⟨g, k * 5 + 2, none⟩ u1).setCell ⟨g, k * 5 + 3, none⟩ u2).setCell ⟨g, k * 5 + 4, none⟩ (.bool e.op)) lo
      (.slice (some ⟨g, 0, none⟩) es.length c) (es.set k e) (putR R k u1 u2) := by
  have h := h0.ext hx
  have hgl := (h0.blk g rfl).2
  have hk' : k < (cellsE es R).length := by rw [cellsE_len]; exact hk
  have hr := h.row.put5 (cellsE_len es R).symm k hk' (.int .i64 e.par) (.int .i64 e.b) u1 u2 (.bool e.op)
  have hC : Chg g (g + 1) W (((((W.setCell ⟨g, k * 5, none⟩ (.int .i64 e.par)).setCell ⟨g, k * 5 + 1, none⟩ (.int .i64 e.b)).setCell ⟨g, k * 5 + 2, none⟩ u1).setCell ⟨g, k * 5 + 3, none⟩ u2).setCell ⟨g, k * 5 + 4, none⟩ (.bool e.op)) := qCh
  generalize (((((W.setCell ⟨g, k * 5, none⟩ (.int .i64 e.par)).setCell ⟨g, k * 5 + 1, none⟩ (.int .i64 e.b)).setCell ⟨g, k * 5 + 2, none⟩ u1).setCell ⟨g, k * 5 + 3, none⟩ u2).setCell ⟨g, k * 5 + 4, none⟩ (.bool e.op)) = W2 at *
  have hgr : W.grownBy W2 (some g) := ⟨hC.os, hC.tape, hC.output, hC.size, fun b hb hne => hC.block b hb (by
    rcases Nat.lt_or_ge b g with h | h
    · exact .inl h
    · exact .inr (by have : b ≠ g := fun h0 => hne (by rw [h0]); omega))⟩
  have n1 : e.s ≠ [] → u1.ownBlock ≠ some g := fun hs he => by have := m1 hs g he; omega
  have n2 : e.t ≠ [] → u2.ownBlock ≠ some g := fun hs he => by have := m2 hs g he; omega
  have hrow : ∀ p, p / 2 ≠ k → rowAt (es.set k e) p = rowAt es p := fun p hp => by unfold rowAt; simp only [expAt_set es k e _ hk, if_neg hp]
  have hra : rowAt (es.set k e) (2 * k) = e.s := by rw [rowAt_even, expAt_set es k e k hk, if_pos rfl]
  have hrb : rowAt (es.set k e) (2 * k + 1) = e.t := by rw [rowAt_odd, expAt_set es k e k hk, if_pos rfl]
  have old : ∀ p, p < 2 * es.length → rowAt es p ≠ [] → (e.s ≠ [] → (R p).ownBlock ≠ u1.ownBlock) ∧ (e.t ≠ [] → (R p).ownBlock ≠ u2.ownBlock) := fun p hp hs => by
    obtain ⟨b, hb1, -, hlt⟩ := h0.nblk p hp hs
    refine ⟨fun he h2 => ?_, fun he h2 => ?_⟩
    · have := m1 he b (by rw [← h2]; exact hb1); omega
    · have := m2 he b (by rw [← h2]; exact hb1); omega
  have three : ∀ p, p = 2 * k ∨ p = 2 * k + 1 ∨ p / 2 ≠ k := fun p => by omega
  refine ⟨?_, ?_, ?_, ?_, ?_⟩
  · have e2 : cellsE (es.set k e) (putR R k u1 u2) = (cellsE es R).set k [.int .i64 e.par, .int .i64 e.b, u1, u2, .bool e.op] := by
      refine List.ext_getElem (by rw [List.length_set, cellsE_len, cellsE_len, List.length_set]) fun j h1 h2 => ?_
      rw [cellsE_get, List.getElem_set, expAt_set es k e j hk]
      by_cases hj : k = j
      · subst hj; rw [if_pos rfl, if_pos rfl, putR_a, putR_b]; rfl
      · rw [if_neg (by omega), if_neg hj, cellsE_get, putR_o (by omega), putR_o (by omega)]
    rw [e2]; exact hr
  · intro p hp
    rw [List.length_set] at hp
    rcases three p with rfl | rfl | h3
    · rw [putR_a, hra]; exact o1.keptG l1 hgr n1
    · rw [putR_b, hrb]; exact o2.keptG l2 hgr n2
    · rw [putR_o h3, hrow p h3]; exact (h.nest p hp).keptG (h.lens p hp) hgr (fun hs => h.off p hp hs)
  · intro p hp
    rw [List.length_set] at hp
    rcases three p with rfl | rfl | h3
    · rw [hra]; exact l1
    · rw [hrb]; exact l2
    · rw [hrow p h3]; exact h.lens p hp
  · intro p q hpq hq
    rw [List.length_set] at hq
    rcases three p with rfl | rfl | h3
    · rcases three q with rfl | rfl | h4
      · omega
      · rw [putR_a, putR_b, hra, hrb]; exact hd
      · rw [putR_a, hra, putR_o h4, hrow q h4]
        exact fun he hs h2 => (old q hq hs).1 he h2.symm
    · rcases three q with rfl | rfl | h4
      · omega
      · omega
      · rw [putR_b, hrb, putR_o h4, hrow q h4]
        exact fun he hs h2 => (old q hq hs).2 he h2.symm
    · rcases three q with rfl | rfl | h4
      · rw [putR_a, hra, putR_o h3, hrow p h3]
        exact fun hs he => (old p (by omega) hs).1 he
      · rw [putR_b, hrb, putR_o h3, hrow p h3]
        exact fun hs he => (old p (by omega) hs).2 he
      · rw [putR_o h3, hrow p h3, putR_o h4, hrow q h4]
        exact h.apart p q hpq hq
  · intro p hp
    rw [List.length_set] at hp
    rcases three p with rfl | rfl | h3
    · rw [putR_a, hra]; exact n1
    · rw [putR_b, hrb]; exact n2
    · rw [putR_o h3, hrow p h3]; exact h.off p hp
end

/-- a call hands back a new export -/
def PExp (w : World) (x : Exp) (e : Ending) (w' : World) : Prop := ∃ u1 c1 u2 c2, e = .returned (.agg #[.int .i64 x.par, .int .i64 x.b, .slice u1 x.s.length c1, .slice u2 x.t.length c2, .bool x.op]) ∧ OwnZ w' w.heap.size (.slice u1 x.s.length c1) x.s ∧ OwnZ w' w.heap.size (.slice u2 x.t.length c2) x.t ∧
  (x.s ≠ [] → x.t ≠ [] → (Value.slice u1 x.s.length c1).ownBlock ≠ (Value.slice u2 x.t.length c2).ownBlock) ∧ Ext w w'
/-- a call hands back new exports -/
def PExpS (w : World) (es : List Exp) (e : Ending) (w' : World) : Prop := ∃ v R, e = .returned v ∧ ExpR w' w.heap.size v es R ∧ Ext w w'
theorem fill_len (es : List Exp) (k : Nat) (h : k ≤ es.length) : (es.take k ++ List.replicate (es.length - k) noE).length = es.length := by simp; omega
theorem fill_set (es : List Exp) (k : Nat) (h : k < es.length) : (es.take k ++ List.replicate (es.length - k) noE).set k (expAt es k) = es.take (k+1) ++ List.replicate (es.length - (k+1)) noE := by
  rw [take_expAt h, show es.length - k = (es.length - (k+1)) + 1 by omega, List.replicate_succ]
  rw [List.set_append_right _ _ (by simp; omega), show k - (es.take k).length = 0 by simp; omega, List.set_cons_zero, List.append_assoc]; rfl
end Go.Proofs.Ytgklaobfikbiiaa

/- Walks of the laws' own helpers on buffers: equal buffers. -/
namespace Go.Proofs.Ytgklaobfikbiiaa
open Go.RowKit
set_option linter.unusedVariables false
set_option maxRecDepth 100000

end Go.Proofs.Ytgklaobfikbiiaa

/- Walks of the laws' own helpers on buffers: marks. -/
namespace Go.Proofs.Ytgklaobfikbiiaa
open Go.RowKit
set_option linter.unusedVariables false
set_option maxRecDepth 100000

/-- the mark at the start of an export -/
def kE (k : Int) (es : List Exp) : Nat → Int
  | 0 => k
  | i + 1 => kE k es i + 3 + (expAt es i).s.length + (expAt es i).t.length
theorem kE_mono (k : Int) (es : List Exp) (i j : Nat) (h : i ≤ j) : kE k es i ≤ kE k es j := by
  induction j with
  | zero => obtain rfl : i = 0 := by omega
            exact Int.le_refl _
  | succ j ih =>
    by_cases hi : i = j + 1
    · subst hi; exact Int.le_refl _
    · have := ih (by omega)
      show _ ≤ kE k es j + 3 + _ + _
      omega
/-- a marked export -/
def mkE (k : Int) (es : List Exp) (i : Nat) : Exp :=
  ⟨kE k es i, kE k es i + 1, ksL (kE k es i + 1 + 1) (expAt es i).s.length, ksL (kE k es i + 1 + 1 + (expAt es i).s.length) (expAt es i).t.length,
    decide ((kE k es i + 1 + 1 + (expAt es i).s.length + (expAt es i).t.length) % 3 = 0)⟩
/-- the first n exports marked -/
def mixE (k : Int) (es : List Exp) (n : Nat) : List Exp := (List.range n).map (mkE k es) ++ es.drop n
theorem mixE_zero (k : Int) (es : List Exp) : mixE k es 0 = es := by simp [mixE]
theorem mixE_len (k : Int) (es : List Exp) (n : Nat) (h : n ≤ es.length) : (mixE k es n).length = es.length := by simp [mixE]; omega
theorem mixE_at (k : Int) (es : List Exp) (n i : Nat) (h : n ≤ es.length) : expAt (mixE k es n) i = if i < n then mkE k es i else expAt es i := by
  unfold expAt mixE
  by_cases hi : i < n
  · rw [if_pos hi, List.getD_eq_getElem?_getD, List.getElem?_append_left (by simpa using hi)]; simp [hi]
  · rw [if_neg hi, List.getD_eq_getElem?_getD, List.getElem?_append_right (by simp; omega)]
    simp only [List.length_map, List.length_range, List.getElem?_drop]
    rw [show n + (i - n) = i by omega, List.getD_eq_getElem?_getD]
theorem mixE_succ (k : Int) (es : List Exp) (n : Nat) (h : n < es.length) : mixE k es (n + 1) = (mixE k es n).set n (mkE k es n) := by
  refine List.ext_getElem (by rw [List.length_set, mixE_len k es _ h, mixE_len k es _ (by omega)]) fun i h1 h2 => ?_
  rw [mixE_len k es _ h] at h1
  have a := mixE_at k es (n+1) i h
  have b := expAt_set (mixE k es n) n (mkE k es n) i (by rw [mixE_len k es _ (by omega)]; exact h)
  rw [mixE_at k es n i (by omega)] at b
  rw [← expAt_get (by rw [mixE_len k es _ h]; exact h1), ← expAt_get (by rw [List.length_set, mixE_len k es _ (by omega)]; exact h1), a, b]
  by_cases hi : i = n
  · subst hi; simp
  · by_cases h3 : i < n
    · rw [if_pos (by omega), if_neg hi, if_pos h3]
    · rw [if_neg (by omega), if_neg hi, if_neg h3]

end Go.Proofs.Ytgklaobfikbiiaa
