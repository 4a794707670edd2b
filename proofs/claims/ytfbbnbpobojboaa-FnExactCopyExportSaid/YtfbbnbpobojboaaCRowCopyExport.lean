/- Texts of these proofs put together: LawCopyExport, RowCopyExport. No condition. -/
import Derived.Test.YtfbbnbpobojboaaD2RowCopyExport
import Derived.Test.YtfbbnbpobojboaaD1RowCopyExport
import Derived.Test.YtfbbnbpobojboaaM1
set_option linter.unusedVariables false
set_option linter.unusedSimpArgs false
/- FnExactCopyExport returns true for all arguments: no condition. -/
namespace Go.Proofs.Ytfbbnbpobojboaa
open Go.RowKit
set_option linter.unusedVariables false
set_option maxRecDepth 100000

set_option maxHeartbeats 6400000 in
theorem lawCopyExport_false (cells : List Int) (es : List Exp) (ac ae : Option Addr) (cc ce : Nat) (i1 : Int) (i2 : Int) (w : World) (hc : Raw w (.slice ac cells.length cc) cells) (he : RawE w (.slice ae es.length ce) es) (nc : cells.length ≤ maxLen) (ne : es.length ≤ maxLen) (PC : List Int) (PE : List Exp) (hP : Hid (cpyA cells es i1 i2 = (PC, PE, false))) (hS : SmallB (PC, PE, false)) :
  Calls Try.prog 9 #[.agg #[.slice ac cells.length cc, .slice ae es.length ce], .int .i64 i1, .int .i64 i2] w fun e w' => e = .returned (.bool true) ∧ Ext w w' := by
 go_enter Try.func9, Try.ntmps9
 have X : Ext w w := Ext.refl _
 go_wp2_with fail
 refine (szBuffer_c cells es _ _ _ _ 1048576 _ (he.ext qXt) (by omega) (by omega) ne nc).mono ?_
 rintro e w1 ⟨L, rfl, q1, q2, q3, xw1⟩
 have Lw1 : Ext w w1 := Ext.trans qXt xw1
 have cb0 : w1.cell? ⟨w.heap.size, 0, none⟩ = some (.slice ac cells.length cc) := xw1.cell qCl
 have cb1 : w1.cell? ⟨w.heap.size, 1, none⟩ = some (.slice ae es.length ce) := xw1.cell qCl
 replace X := X.trans Lw1
 have z1 : w.heap.size < w1.heap.size := qB cb0
 have sw1 : w.heap.size ≤ w1.heap.size := Lw1.size
 clear Lw1
 clear xw1
 by_cases q0 : L < 0
 ·
  go_wp2_with fail
  go_ret
  exact ⟨rfl, X.trans qXt⟩
 have q4 := q3 (by omega)
 have hm : ∀ i, i < es.length → (expAt es i).s.length ≤ 1048576 ∧ (expAt es i).t.length ≤ 1048576 := fun i hi => by have := sizeE_le es i es.length hi; omega
 replace hm := Lib.hid hm
 have hk1 : kE (1 + cells.length) es es.length ≤ 4194304 := by rw [kE_size]; omega
 have hk0 := kE_mono (1 + cells.length) es 0 es.length (Nat.zero_le _)
 have hk2 : 0 ≤ kE (1 + cells.length) es es.length := by simp only [kE] at hk0; omega
 clear hk0
 obtain ⟨K1, hK1⟩ : ∃ x, kE (1 + cells.length) es es.length = x := ⟨_, rfl⟩
 rw [hK1] at hk1 hk2
 replace hK1 := Lib.hid hK1
 have hG1 := hS.kE
 have hG0 := kE_mono (1 + PC.length) PE 0 PE.length (Nat.zero_le _)
 obtain ⟨hSc, hSe, hSr⟩ := hS
 dsimp only at hG1 hSc hSe hSr
 have hG2 : 0 ≤ kE (1 + PC.length) PE PE.length := by simp only [kE] at hG0; omega
 clear hG0
 obtain ⟨K2, hK2⟩ : ∃ x, kE (1 + PC.length) PE PE.length = x := ⟨_, rfl⟩
 rw [hK2] at hG1 hG2
 replace hK2 := Lib.hid hK2
 replace hSr := Lib.hid hSr
 go_wp2_with fail
 refine (toBuffer_c cells es _ _ _ _ _ (hc.ext (X.trans qXt)) (he.ext (X.trans qXt)) (by omega) (by omega) hm.out).mono ?_
 rintro e w2 ⟨uW, vW, RW, rfl, bW, xw2⟩
 have Lw2 : Ext w1 w2 := Ext.trans qXt xw2
 replace cb0 := Lw2.cell cb0
 replace cb1 := Lw2.cell cb1
 replace X := X.trans Lw2
 have z2 : w.heap.size < w2.heap.size := qB cb0
 have sw2 : w1.heap.size ≤ w2.heap.size := Lw2.size
 clear Lw2
 clear xw2
 go_wp2_with fail
 refine (pbx_eq hP.out (specCopyExport_c cells es _ _ i1 i2 _ _ _ (bW.ints.ext qXt) (bW.exps.ext qXt))).mono ?_
 rintro e w3 ⟨W1, W2, RW, rfl, iW, xw3⟩
 have Lw3 : Ext w2 w3 := Ext.trans qXt xw3
 replace cb0 := Lw3.cell cb0
 replace cb1 := Lw3.cell cb1
 replace X := X.trans Lw3
 have z3 : w.heap.size < w3.heap.size := qB cb0
 have sw3 : w2.heap.size ≤ w3.heap.size := Lw3.size
 clear Lw3
 clear xw3
 have EW : Ext w3 w3 := Ext.refl _
 clear bW
 obtain ⟨Wa, Wc, rfl⟩ := iW.ints.form
 obtain ⟨Wd, Wf, rfl⟩ := iW.exps.form
 go_wp2_with fail
 refine (toBuffer_c cells es _ _ _ _ _ (hc.ext (X.trans qXt)) (he.ext (X.trans qXt)) (by omega) (by omega) hm.out).mono ?_
 rintro e w4 ⟨uX, vX, RX, rfl, bX, xw4⟩
 have Lw4 : Ext w3 w4 := Ext.trans qXt xw4
 replace cb0 := Lw4.cell cb0
 replace cb1 := Lw4.cell cb1
 have r0 : w4.cell? ⟨w3.heap.size, 0, none⟩ = some (.slice Wa PC.length Wc) := xw4.cell qCl
 have r1 : w4.cell? ⟨w3.heap.size, 1, none⟩ = some (.slice Wd PE.length Wf) := xw4.cell qCl
 replace X := X.trans Lw4
 replace EW := EW.trans Lw4
 have z4 : w.heap.size < w4.heap.size := qB cb0
 have z5 : w3.heap.size < w4.heap.size := qB r0
 have sw4 : w3.heap.size ≤ w4.heap.size := Lw4.size
 clear Lw4
 clear xw4
 replace bX := bX.lower (lo' := w3.heap.size + 1) qSo
 have lX := bX.below
 obtain ⟨Xa, Xc, rfl⟩ := bX.ints.form
 obtain ⟨Xd, Xf, rfl⟩ := bX.exps.form
 go_wp2_with fail
 refine (pbx_eq hP.out (implCopyExport_c cells es _ _ i1 i2 _ _ _ (bX.ints.ext qXt) (bX.exps.ext qXt))).mono ?_
 rintro e w5 ⟨G1, G2, RG, rfl, bG, xw5⟩
 have Lw5 : Ext w4 w5 := Ext.trans qXt xw5
 replace cb0 := Lw5.cell cb0
 replace cb1 := Lw5.cell cb1
 replace r0 := Lw5.cell r0
 replace r1 := Lw5.cell r1
 have x0 : w5.cell? ⟨w4.heap.size, 0, none⟩ = some (.slice Xa cells.length Xc) := xw5.cell qCl
 have x1 : w5.cell? ⟨w4.heap.size, 1, none⟩ = some (.slice Xd es.length Xf) := xw5.cell qCl
 replace bX := bX.ext Lw5
 replace X := X.trans Lw5
 replace EW := EW.trans Lw5
 have z6 : w.heap.size < w5.heap.size := qB cb0
 have z7 : w3.heap.size < w5.heap.size := qB r0
 have z8 : w4.heap.size < w5.heap.size := qB x0
 have sw5 : w4.heap.size ≤ w5.heap.size := Lw5.size
 clear Lw5
 clear xw5
 replace bG := bG.lower (lo' := w4.heap.size + 1) qSo
 have lG := bG.below
 obtain ⟨Ga, Gc, rfl⟩ := bG.ints.form
 obtain ⟨Gd, Gf, rfl⟩ := bG.exps.form
 go_wp2_with fail
 refine (eqBuffer_c PC PE _ _ _ _ _ _ _ _ _ (bG.ints.ext qXt) (bG.exps.ext qXt) ((iW.ext EW).ints.ext qXt) ((iW.ext EW).exps.ext qXt)).mono ?_
 rintro e w6 ⟨rfl, xw6⟩
 have Lw6 : Ext w5 w6 := Ext.trans qXt xw6
 replace cb0 := Lw6.cell cb0
 replace cb1 := Lw6.cell cb1
 replace r0 := Lw6.cell r0
 replace r1 := Lw6.cell r1
 replace x0 := Lw6.cell x0
 replace x1 := Lw6.cell x1
 have gg0 : w6.cell? ⟨w5.heap.size, 0, none⟩ = some (.slice Ga PC.length Gc) := xw6.cell qCl
 have gg1 : w6.cell? ⟨w5.heap.size, 1, none⟩ = some (.slice Gd PE.length Gf) := xw6.cell qCl
 replace bX := bX.ext Lw6
 replace bG := bG.ext Lw6
 replace X := X.trans Lw6
 replace EW := EW.trans Lw6
 have z9 : w.heap.size < w6.heap.size := qB cb0
 have z10 : w3.heap.size < w6.heap.size := qB r0
 have z11 : w4.heap.size < w6.heap.size := qB x0
 have z12 : w5.heap.size < w6.heap.size := qB gg0
 have sw6 : w5.heap.size ≤ w6.heap.size := Lw6.size
 clear Lw6
 clear xw6
 go_wp2_with fail
 go_region_held3 (fun w' => w'.cell? ⟨w.heap.size, 0, none⟩ = some (.slice ac cells.length cc) ∧ w'.cell? ⟨w.heap.size, 1, none⟩ = some (.slice ae es.length ce) ∧ w'.cell? ⟨w3.heap.size, 0, none⟩ = some (.slice Wa PC.length Wc) ∧ w'.cell? ⟨w3.heap.size, 1, none⟩ = some (.slice Wd PE.length Wf) ∧ w'.cell? ⟨w4.heap.size, 0, none⟩ = some (.slice Xa cells.length Xc) ∧ w'.cell? ⟨w4.heap.size, 1, none⟩ = some (.slice Xd es.length Xf) ∧ w'.cell? ⟨w5.heap.size, 0, none⟩ = some (.slice Ga PC.length Gc) ∧ w'.cell? ⟨w5.heap.size, 1, none⟩ = some (.slice Gd PE.length Gf))
  (first
   | go_keep
   | exact ⟨Yw8.cell cb0, Yw8.cell cb1, Yw8.cell r0, Yw8.cell r1, Yw8.cell x0, Yw8.cell x1, Yw8.cell gg0, Yw8.cell gg1⟩
   | exact ⟨Yw7.cell cb0, Yw7.cell cb1, Yw7.cell r0, Yw7.cell r1, Yw7.cell x0, Yw7.cell x1, Yw7.cell gg0, Yw7.cell gg1⟩)
  (first
   | (go_at_call 19; refine (eqBuffer_c cells es _ _ _ _ _ _ _ _ _ (bX.ints.ext (Yw7.trans qXo)) (bX.exps.ext (Yw7.trans qXo)) (bu.ints.ext qXo) (bu.exps.ext qXo)).mono ?_; rintro e w8 ⟨rfl, xw8⟩; have Yw8 : Ext w6 w8 := Yw7.trans (Ext.trans qXo xw8); replace bu := bu.ext (Ext.trans qXo xw8))
   | (go_at_call 16; refine (toBuffer_c cells es _ _ _ _ _ (hc.ext (X.trans qXo)) (he.ext (X.trans qXo)) (by omega) (by omega) hm.out).mono ?_; rintro e w7 ⟨uu, vu, Ru, rfl, bu, xw7⟩; have Yw7 : Ext w6 w7 := Ext.trans qXo xw7))
 have Lw8 : Ext w6 w8 := Yw8
 replace cb0 := Lw8.cell cb0
 replace cb1 := Lw8.cell cb1
 replace r0 := Lw8.cell r0
 replace r1 := Lw8.cell r1
 replace x0 := Lw8.cell x0
 replace x1 := Lw8.cell x1
 replace gg0 := Lw8.cell gg0
 replace gg1 := Lw8.cell gg1
 replace bX := bX.ext Lw8
 replace bG := bG.ext Lw8
 replace X := X.trans Lw8
 replace EW := EW.trans Lw8
 have z13 : w.heap.size < w8.heap.size := qB cb0
 have z14 : w3.heap.size < w8.heap.size := qB r0
 have z15 : w4.heap.size < w8.heap.size := qB x0
 have z16 : w5.heap.size < w8.heap.size := qB gg0
 have sw8 : w6.heap.size ≤ w8.heap.size := Lw8.size
 clear bu
 go_wp2_with fail
 refine (markBuffer_c cells es _ 1 _ _ _ (w3.heap.size + 1) (w4.heap.size) (bX.ext qXt) lX (Nat.le_trans (by omega) (Ext.size (show Ext w8 _ from qXt))) (by omega) (by rw [hK1.out]; omega)).mono ?_
 rintro e w9 ⟨rfl, -, kw9⟩
 have Kw9 : Chg (w3.heap.size + 1) (w4.heap.size) w8 w9 := (Chg.of_ext qXt).trans kw9
 have sw9 : w8.heap.size ≤ w9.heap.size := Kw9.size
 replace X := Ext.chg X Kw9 (by omega)
 replace EW := Ext.chg EW Kw9 (by omega)
 replace cb0 := Kw9.cell (by first | (left; omega) | (right; omega) | omega) cb0
 replace cb1 := Kw9.cell (by first | (left; omega) | (right; omega) | omega) cb1
 replace r0 := Kw9.cell (by first | (left; omega) | (right; omega) | omega) r0
 replace r1 := Kw9.cell (by first | (left; omega) | (right; omega) | omega) r1
 replace x0 := Kw9.cell (by first | (left; omega) | (right; omega) | omega) x0
 replace x1 := Kw9.cell (by first | (left; omega) | (right; omega) | omega) x1
 replace gg0 := Kw9.cell (by first | (left; omega) | (right; omega) | omega) gg0
 replace gg1 := Kw9.cell (by first | (left; omega) | (right; omega) | omega) gg1
 replace bG := bG.chg Kw9 (by omega)
 have z17 : w.heap.size < w9.heap.size := qB cb0
 have z18 : w3.heap.size < w9.heap.size := qB r0
 have z19 : w4.heap.size < w9.heap.size := qB x0
 have z20 : w5.heap.size < w9.heap.size := qB gg0
 clear Kw9 kw9
 clear bX
 rw [hK1.out]
 go_wp2_with fail
 refine (eqBuffer_c PC PE _ _ _ _ _ _ _ _ _ (bG.ints.ext qXt) (bG.exps.ext qXt) ((iW.ext EW).ints.ext qXt) ((iW.ext EW).exps.ext qXt)).mono ?_
 rintro e w10 ⟨rfl, xw10⟩
 have Lw10 : Ext w9 w10 := Ext.trans qXt xw10
 replace cb0 := Lw10.cell cb0
 replace cb1 := Lw10.cell cb1
 replace r0 := Lw10.cell r0
 replace r1 := Lw10.cell r1
 replace x0 := Lw10.cell x0
 replace x1 := Lw10.cell x1
 replace gg0 := Lw10.cell gg0
 replace gg1 := Lw10.cell gg1
 replace bG := bG.ext Lw10
 replace X := X.trans Lw10
 replace EW := EW.trans Lw10
 have z21 : w.heap.size < w10.heap.size := qB cb0
 have z22 : w3.heap.size < w10.heap.size := qB r0
 have z23 : w4.heap.size < w10.heap.size := qB x0
 have z24 : w5.heap.size < w10.heap.size := qB gg0
 have sw10 : w9.heap.size ≤ w10.heap.size := Lw10.size
 clear Lw10
 clear xw10
 go_wp2_with fail
 refine (markBuffer_c PC PE _ 1 _ _ _ (w4.heap.size + 1) (w5.heap.size) (bG.ext qXt) lG (Nat.le_trans (by omega) (Ext.size (show Ext w10 _ from qXt))) (by omega) (by rw [hK2.out]; omega)).mono ?_
 rintro e w11 ⟨rfl, bH, kw11⟩
 have Kw11 : Chg (w4.heap.size + 1) (w5.heap.size) w10 w11 := (Chg.of_ext qXt).trans kw11
 have sw11 : w10.heap.size ≤ w11.heap.size := Kw11.size
 replace X := Ext.chg X Kw11 (by omega)
 replace EW := Ext.chg EW Kw11 (by omega)
 replace cb0 := Kw11.cell (by first | (left; omega) | (right; omega) | omega) cb0
 replace cb1 := Kw11.cell (by first | (left; omega) | (right; omega) | omega) cb1
 replace r0 := Kw11.cell (by first | (left; omega) | (right; omega) | omega) r0
 replace r1 := Kw11.cell (by first | (left; omega) | (right; omega) | omega) r1
 replace x0 := Kw11.cell (by first | (left; omega) | (right; omega) | omega) x0
 replace x1 := Kw11.cell (by first | (left; omega) | (right; omega) | omega) x1
 replace gg0 := Kw11.cell (by first | (left; omega) | (right; omega) | omega) gg0
 replace gg1 := Kw11.cell (by first | (left; omega) | (right; omega) | omega) gg1
 have z25 : w.heap.size < w11.heap.size := qB cb0
 have z26 : w3.heap.size < w11.heap.size := qB r0
 have z27 : w4.heap.size < w11.heap.size := qB x0
 have z28 : w5.heap.size < w11.heap.size := qB gg0
 clear Kw11 kw11
 clear bG
 rw [hK2.out]
 go_wp2_with fail
 refine (heldBuffer_c PC.length PE 1 _ _ _ _ _ (bH.ints.ext qXt) (bH.exps.ext qXt) (fun i hi => by have := hSr.out i hi; omega) (by omega) (by rw [hK2.out]; omega)).mono ?_
 rintro e w12 ⟨rfl, xw12⟩
 have Lw12 : Ext w11 w12 := Ext.trans qXt xw12
 replace cb0 := Lw12.cell cb0
 replace cb1 := Lw12.cell cb1
 replace r0 := Lw12.cell r0
 replace r1 := Lw12.cell r1
 replace x0 := Lw12.cell x0
 replace x1 := Lw12.cell x1
 replace gg0 := Lw12.cell gg0
 replace gg1 := Lw12.cell gg1
 replace bH := bH.ext Lw12
 replace X := X.trans Lw12
 replace EW := EW.trans Lw12
 have z29 : w.heap.size < w12.heap.size := qB cb0
 have z30 : w3.heap.size < w12.heap.size := qB r0
 have z31 : w4.heap.size < w12.heap.size := qB x0
 have z32 : w5.heap.size < w12.heap.size := qB gg0
 have sw12 : w11.heap.size ≤ w12.heap.size := Lw12.size
 clear Lw12
 clear xw12
 rw [hK2.out]
 go_wp2_with fail
 refine (toBuffer_c cells es _ _ _ _ _ (hc.ext (X.trans qXt)) (he.ext (X.trans qXt)) (by omega) (by omega) hm.out).mono ?_
 rintro e w13 ⟨uZ, vZ, RZ, rfl, bZ, xw13⟩
 have Lw13 : Ext w12 w13 := Ext.trans qXt xw13
 replace cb0 := Lw13.cell cb0
 replace cb1 := Lw13.cell cb1
 replace r0 := Lw13.cell r0
 replace r1 := Lw13.cell r1
 replace x0 := Lw13.cell x0
 replace x1 := Lw13.cell x1
 replace gg0 := Lw13.cell gg0
 replace gg1 := Lw13.cell gg1
 replace bH := bH.ext Lw13
 replace X := X.trans Lw13
 replace EW := EW.trans Lw13
 have z33 : w.heap.size < w13.heap.size := qB cb0
 have z34 : w3.heap.size < w13.heap.size := qB r0
 have z35 : w4.heap.size < w13.heap.size := qB x0
 have z36 : w5.heap.size < w13.heap.size := qB gg0
 have sw13 : w12.heap.size ≤ w13.heap.size := Lw13.size
 clear Lw13
 clear xw13
 go_wp2_with fail
 refine (pbx_eq hP.out (implCopyExport_c cells es _ _ i1 i2 _ _ _ (bZ.ints.ext qXt) (bZ.exps.ext qXt))).mono ?_
 rintro e w14 ⟨H1, H2, RH, rfl, iH, xw14⟩
 have Lw14 : Ext w13 w14 := Ext.trans qXt xw14
 replace cb0 := Lw14.cell cb0
 replace cb1 := Lw14.cell cb1
 replace r0 := Lw14.cell r0
 replace r1 := Lw14.cell r1
 replace x0 := Lw14.cell x0
 replace x1 := Lw14.cell x1
 replace gg0 := Lw14.cell gg0
 replace gg1 := Lw14.cell gg1
 replace bH := bH.ext Lw14
 replace X := X.trans Lw14
 replace EW := EW.trans Lw14
 have z37 : w.heap.size < w14.heap.size := qB cb0
 have z38 : w3.heap.size < w14.heap.size := qB r0
 have z39 : w4.heap.size < w14.heap.size := qB x0
 have z40 : w5.heap.size < w14.heap.size := qB gg0
 have sw14 : w13.heap.size ≤ w14.heap.size := Lw14.size
 clear Lw14
 clear xw14
 clear bZ
 obtain ⟨Ha, Hc, rfl⟩ := iH.ints.form
 obtain ⟨Hd, Hf, rfl⟩ := iH.exps.form
 go_wp2_with fail
 refine (eqBuffer_c PC PE _ _ _ _ _ _ _ _ _ (iH.ints.ext qXt) (iH.exps.ext qXt) ((iW.ext EW).ints.ext qXt) ((iW.ext EW).exps.ext qXt)).mono ?_
 rintro e w15 ⟨rfl, xw15⟩
 have Lw15 : Ext w14 w15 := Ext.trans qXt xw15
 replace cb0 := Lw15.cell cb0
 replace cb1 := Lw15.cell cb1
 replace r0 := Lw15.cell r0
 replace r1 := Lw15.cell r1
 replace x0 := Lw15.cell x0
 replace x1 := Lw15.cell x1
 replace gg0 := Lw15.cell gg0
 replace gg1 := Lw15.cell gg1
 have y0 : w15.cell? ⟨w14.heap.size, 0, none⟩ = some (.slice Ha PC.length Hc) := xw15.cell qCl
 have y1 : w15.cell? ⟨w14.heap.size, 1, none⟩ = some (.slice Hd PE.length Hf) := xw15.cell qCl
 replace bH := bH.ext Lw15
 replace iH := iH.ext Lw15
 replace X := X.trans Lw15
 replace EW := EW.trans Lw15
 have z41 : w.heap.size < w15.heap.size := qB cb0
 have z42 : w3.heap.size < w15.heap.size := qB r0
 have z43 : w4.heap.size < w15.heap.size := qB x0
 have z44 : w5.heap.size < w15.heap.size := qB gg0
 have z45 : w14.heap.size < w15.heap.size := qB y0
 have sw15 : w14.heap.size ≤ w15.heap.size := Lw15.size
 clear Lw15
 clear xw15
 go_wp2_with fail
 refine (heldBuffer_c PC.length PE 1 _ _ _ _ _ (bH.ints.ext qXt) (bH.exps.ext qXt) (fun i hi => by have := hSr.out i hi; omega) (by omega) (by rw [hK2.out]; omega)).mono ?_
 rintro e w16 ⟨rfl, xw16⟩
 have Lw16 : Ext w15 w16 := Ext.trans qXt xw16
 replace cb0 := Lw16.cell cb0
 replace cb1 := Lw16.cell cb1
 replace r0 := Lw16.cell r0
 replace r1 := Lw16.cell r1
 replace x0 := Lw16.cell x0
 replace x1 := Lw16.cell x1
 replace gg0 := Lw16.cell gg0
 replace gg1 := Lw16.cell gg1
 replace y0 := Lw16.cell y0
 replace y1 := Lw16.cell y1
 replace bH := bH.ext Lw16
 replace iH := iH.ext Lw16
 replace X := X.trans Lw16
 replace EW := EW.trans Lw16
 have z46 : w.heap.size < w16.heap.size := qB cb0
 have z47 : w3.heap.size < w16.heap.size := qB r0
 have z48 : w4.heap.size < w16.heap.size := qB x0
 have z49 : w5.heap.size < w16.heap.size := qB gg0
 have z50 : w14.heap.size < w16.heap.size := qB y0
 have sw16 : w15.heap.size ≤ w16.heap.size := Lw16.size
 clear Lw16
 clear xw16
 rw [hK2.out]
 go_wp2_with fail
 go_ret
 exact ⟨rfl, X.trans qXt⟩

set_option maxHeartbeats 6400000 in
theorem lawCopyExport_true (cells : List Int) (es : List Exp) (ac ae : Option Addr) (cc ce : Nat) (i1 : Int) (i2 : Int) (w : World) (hc : Raw w (.slice ac cells.length cc) cells) (he : RawE w (.slice ae es.length ce) es) (nc : cells.length ≤ maxLen) (ne : es.length ≤ maxLen) (PC : List Int) (PE : List Exp) (hP : Hid (cpyA cells es i1 i2 = (PC, PE, true))) (hS : SmallB (PC, PE, true)) :
  Calls Try.prog 9 #[.agg #[.slice ac cells.length cc, .slice ae es.length ce], .int .i64 i1, .int .i64 i2] w fun e w' => e = .returned (.bool true) ∧ Ext w w' := by
 go_enter Try.func9, Try.ntmps9
 have X : Ext w w := Ext.refl _
 go_wp2_with fail
 refine (szBuffer_c cells es _ _ _ _ 1048576 _ (he.ext qXt) (by omega) (by omega) ne nc).mono ?_
 rintro e w1 ⟨L, rfl, q1, q2, q3, xw1⟩
 have Lw1 : Ext w w1 := Ext.trans qXt xw1
 have cb0 : w1.cell? ⟨w.heap.size, 0, none⟩ = some (.slice ac cells.length cc) := xw1.cell qCl
 have cb1 : w1.cell? ⟨w.heap.size, 1, none⟩ = some (.slice ae es.length ce) := xw1.cell qCl
 replace X := X.trans Lw1
 have z1 : w.heap.size < w1.heap.size := qB cb0
 have sw1 : w.heap.size ≤ w1.heap.size := Lw1.size
 clear Lw1
 clear xw1
 by_cases q0 : L < 0
 ·
  go_wp2_with fail
  go_ret
  exact ⟨rfl, X.trans qXt⟩
 have q4 := q3 (by omega)
 have hm : ∀ i, i < es.length → (expAt es i).s.length ≤ 1048576 ∧ (expAt es i).t.length ≤ 1048576 := fun i hi => by have := sizeE_le es i es.length hi; omega
 replace hm := Lib.hid hm
 have hk1 : kE (1 + cells.length) es es.length ≤ 4194304 := by rw [kE_size]; omega
 have hk0 := kE_mono (1 + cells.length) es 0 es.length (Nat.zero_le _)
 have hk2 : 0 ≤ kE (1 + cells.length) es es.length := by simp only [kE] at hk0; omega
 clear hk0
 obtain ⟨K1, hK1⟩ : ∃ x, kE (1 + cells.length) es es.length = x := ⟨_, rfl⟩
 rw [hK1] at hk1 hk2
 replace hK1 := Lib.hid hK1
 have hG1 := hS.kE
 have hG0 := kE_mono (1 + PC.length) PE 0 PE.length (Nat.zero_le _)
 obtain ⟨hSc, hSe, hSr⟩ := hS
 dsimp only at hG1 hSc hSe hSr
 have hG2 : 0 ≤ kE (1 + PC.length) PE PE.length := by simp only [kE] at hG0; omega
 clear hG0
 obtain ⟨K2, hK2⟩ : ∃ x, kE (1 + PC.length) PE PE.length = x := ⟨_, rfl⟩
 rw [hK2] at hG1 hG2
 replace hK2 := Lib.hid hK2
 replace hSr := Lib.hid hSr
 go_wp2_with fail
 refine (toBuffer_c cells es _ _ _ _ _ (hc.ext (X.trans qXt)) (he.ext (X.trans qXt)) (by omega) (by omega) hm.out).mono ?_
 rintro e w2 ⟨uW, vW, RW, rfl, bW, xw2⟩
 have Lw2 : Ext w1 w2 := Ext.trans qXt xw2
 replace cb0 := Lw2.cell cb0
 replace cb1 := Lw2.cell cb1
 replace X := X.trans Lw2
 have z2 : w.heap.size < w2.heap.size := qB cb0
 have sw2 : w1.heap.size ≤ w2.heap.size := Lw2.size
 clear Lw2
 clear xw2
 go_wp2_with fail
 refine (pbx_eq hP.out (specCopyExport_c cells es _ _ i1 i2 _ _ _ (bW.ints.ext qXt) (bW.exps.ext qXt))).mono ?_
 rintro e w3 ⟨W1, W2, RW, rfl, iW, xw3⟩
 have Lw3 : Ext w2 w3 := Ext.trans qXt xw3
 replace cb0 := Lw3.cell cb0
 replace cb1 := Lw3.cell cb1
 replace X := X.trans Lw3
 have z3 : w.heap.size < w3.heap.size := qB cb0
 have sw3 : w2.heap.size ≤ w3.heap.size := Lw3.size
 clear Lw3
 clear xw3
 have EW : Ext w3 w3 := Ext.refl _
 clear bW
 obtain ⟨Wa, Wc, rfl⟩ := iW.ints.form
 obtain ⟨Wd, Wf, rfl⟩ := iW.exps.form
 go_wp2_with fail
 refine (toBuffer_c cells es _ _ _ _ _ (hc.ext (X.trans qXt)) (he.ext (X.trans qXt)) (by omega) (by omega) hm.out).mono ?_
 rintro e w4 ⟨uX, vX, RX, rfl, bX, xw4⟩
 have Lw4 : Ext w3 w4 := Ext.trans qXt xw4
 replace cb0 := Lw4.cell cb0
 replace cb1 := Lw4.cell cb1
 have r0 : w4.cell? ⟨w3.heap.size, 0, none⟩ = some (.slice Wa PC.length Wc) := xw4.cell qCl
 have r1 : w4.cell? ⟨w3.heap.size, 1, none⟩ = some (.slice Wd PE.length Wf) := xw4.cell qCl
 replace X := X.trans Lw4
 replace EW := EW.trans Lw4
 have z4 : w.heap.size < w4.heap.size := qB cb0
 have z5 : w3.heap.size < w4.heap.size := qB r0
 have sw4 : w3.heap.size ≤ w4.heap.size := Lw4.size
 clear Lw4
 clear xw4
 replace bX := bX.lower (lo' := w3.heap.size + 1) qSo
 have lX := bX.below
 obtain ⟨Xa, Xc, rfl⟩ := bX.ints.form
 obtain ⟨Xd, Xf, rfl⟩ := bX.exps.form
 go_wp2_with fail
 refine (pbx_eq hP.out (implCopyExport_c cells es _ _ i1 i2 _ _ _ (bX.ints.ext qXt) (bX.exps.ext qXt))).mono ?_
 rintro e w5 ⟨G1, G2, RG, rfl, bG, xw5⟩
 have Lw5 : Ext w4 w5 := Ext.trans qXt xw5
 replace cb0 := Lw5.cell cb0
 replace cb1 := Lw5.cell cb1
 replace r0 := Lw5.cell r0
 replace r1 := Lw5.cell r1
 have x0 : w5.cell? ⟨w4.heap.size, 0, none⟩ = some (.slice Xa cells.length Xc) := xw5.cell qCl
 have x1 : w5.cell? ⟨w4.heap.size, 1, none⟩ = some (.slice Xd es.length Xf) := xw5.cell qCl
 replace bX := bX.ext Lw5
 replace X := X.trans Lw5
 replace EW := EW.trans Lw5
 have z6 : w.heap.size < w5.heap.size := qB cb0
 have z7 : w3.heap.size < w5.heap.size := qB r0
 have z8 : w4.heap.size < w5.heap.size := qB x0
 have sw5 : w4.heap.size ≤ w5.heap.size := Lw5.size
 clear Lw5
 clear xw5
 replace bG := bG.lower (lo' := w4.heap.size + 1) qSo
 have lG := bG.below
 obtain ⟨Ga, Gc, rfl⟩ := bG.ints.form
 obtain ⟨Gd, Gf, rfl⟩ := bG.exps.form
 go_wp2_with fail
 refine (eqBuffer_c PC PE _ _ _ _ _ _ _ _ _ (bG.ints.ext qXt) (bG.exps.ext qXt) ((iW.ext EW).ints.ext qXt) ((iW.ext EW).exps.ext qXt)).mono ?_
 rintro e w6 ⟨rfl, xw6⟩
 have Lw6 : Ext w5 w6 := Ext.trans qXt xw6
 replace cb0 := Lw6.cell cb0
 replace cb1 := Lw6.cell cb1
 replace r0 := Lw6.cell r0
 replace r1 := Lw6.cell r1
 replace x0 := Lw6.cell x0
 replace x1 := Lw6.cell x1
 have gg0 : w6.cell? ⟨w5.heap.size, 0, none⟩ = some (.slice Ga PC.length Gc) := xw6.cell qCl
 have gg1 : w6.cell? ⟨w5.heap.size, 1, none⟩ = some (.slice Gd PE.length Gf) := xw6.cell qCl
 replace bX := bX.ext Lw6
 replace bG := bG.ext Lw6
 replace X := X.trans Lw6
 replace EW := EW.trans Lw6
 have z9 : w.heap.size < w6.heap.size := qB cb0
 have z10 : w3.heap.size < w6.heap.size := qB r0
 have z11 : w4.heap.size < w6.heap.size := qB x0
 have z12 : w5.heap.size < w6.heap.size := qB gg0
 have sw6 : w5.heap.size ≤ w6.heap.size := Lw6.size
 clear Lw6
 clear xw6
 go_wp2_with fail
 go_region_held3 (fun w' => w'.cell? ⟨w.heap.size, 0, none⟩ = some (.slice ac cells.length cc) ∧ w'.cell? ⟨w.heap.size, 1, none⟩ = some (.slice ae es.length ce) ∧ w'.cell? ⟨w3.heap.size, 0, none⟩ = some (.slice Wa PC.length Wc) ∧ w'.cell? ⟨w3.heap.size, 1, none⟩ = some (.slice Wd PE.length Wf) ∧ w'.cell? ⟨w4.heap.size, 0, none⟩ = some (.slice Xa cells.length Xc) ∧ w'.cell? ⟨w4.heap.size, 1, none⟩ = some (.slice Xd es.length Xf) ∧ w'.cell? ⟨w5.heap.size, 0, none⟩ = some (.slice Ga PC.length Gc) ∧ w'.cell? ⟨w5.heap.size, 1, none⟩ = some (.slice Gd PE.length Gf))
  (first
   | go_keep
   | exact ⟨Yw8.cell cb0, Yw8.cell cb1, Yw8.cell r0, Yw8.cell r1, Yw8.cell x0, Yw8.cell x1, Yw8.cell gg0, Yw8.cell gg1⟩
   | exact ⟨Yw7.cell cb0, Yw7.cell cb1, Yw7.cell r0, Yw7.cell r1, Yw7.cell x0, Yw7.cell x1, Yw7.cell gg0, Yw7.cell gg1⟩)
  (first
   | (go_at_call 19; refine (eqBuffer_c cells es _ _ _ _ _ _ _ _ _ (bX.ints.ext (Yw7.trans qXo)) (bX.exps.ext (Yw7.trans qXo)) (bu.ints.ext qXo) (bu.exps.ext qXo)).mono ?_; rintro e w8 ⟨rfl, xw8⟩; have Yw8 : Ext w6 w8 := Yw7.trans (Ext.trans qXo xw8); replace bu := bu.ext (Ext.trans qXo xw8))
   | (go_at_call 16; refine (toBuffer_c cells es _ _ _ _ _ (hc.ext (X.trans qXo)) (he.ext (X.trans qXo)) (by omega) (by omega) hm.out).mono ?_; rintro e w7 ⟨uu, vu, Ru, rfl, bu, xw7⟩; have Yw7 : Ext w6 w7 := Ext.trans qXo xw7))
 have Lw8 : Ext w6 w8 := Yw8
 replace cb0 := Lw8.cell cb0
 replace cb1 := Lw8.cell cb1
 replace r0 := Lw8.cell r0
 replace r1 := Lw8.cell r1
 replace x0 := Lw8.cell x0
 replace x1 := Lw8.cell x1
 replace gg0 := Lw8.cell gg0
 replace gg1 := Lw8.cell gg1
 replace bX := bX.ext Lw8
 replace bG := bG.ext Lw8
 replace X := X.trans Lw8
 replace EW := EW.trans Lw8
 have z13 : w.heap.size < w8.heap.size := qB cb0
 have z14 : w3.heap.size < w8.heap.size := qB r0
 have z15 : w4.heap.size < w8.heap.size := qB x0
 have z16 : w5.heap.size < w8.heap.size := qB gg0
 have sw8 : w6.heap.size ≤ w8.heap.size := Lw8.size
 clear bu
 go_wp2_with fail
 refine (markBuffer_c cells es _ 1 _ _ _ (w3.heap.size + 1) (w4.heap.size) (bX.ext qXt) lX (Nat.le_trans (by omega) (Ext.size (show Ext w8 _ from qXt))) (by omega) (by rw [hK1.out]; omega)).mono ?_
 rintro e w9 ⟨rfl, -, kw9⟩
 have Kw9 : Chg (w3.heap.size + 1) (w4.heap.size) w8 w9 := (Chg.of_ext qXt).trans kw9
 have sw9 : w8.heap.size ≤ w9.heap.size := Kw9.size
 replace X := Ext.chg X Kw9 (by omega)
 replace EW := Ext.chg EW Kw9 (by omega)
 replace cb0 := Kw9.cell (by first | (left; omega) | (right; omega) | omega) cb0
 replace cb1 := Kw9.cell (by first | (left; omega) | (right; omega) | omega) cb1
 replace r0 := Kw9.cell (by first | (left; omega) | (right; omega) | omega) r0
 replace r1 := Kw9.cell (by first | (left; omega) | (right; omega) | omega) r1
 replace x0 := Kw9.cell (by first | (left; omega) | (right; omega) | omega) x0
 replace x1 := Kw9.cell (by first | (left; omega) | (right; omega) | omega) x1
 replace gg0 := Kw9.cell (by first | (left; omega) | (right; omega) | omega) gg0
 replace gg1 := Kw9.cell (by first | (left; omega) | (right; omega) | omega) gg1
 replace bG := bG.chg Kw9 (by omega)
 have z17 : w.heap.size < w9.heap.size := qB cb0
 have z18 : w3.heap.size < w9.heap.size := qB r0
 have z19 : w4.heap.size < w9.heap.size := qB x0
 have z20 : w5.heap.size < w9.heap.size := qB gg0
 clear Kw9 kw9
 clear bX
 rw [hK1.out]
 go_wp2_with fail
 refine (eqBuffer_c PC PE _ _ _ _ _ _ _ _ _ (bG.ints.ext qXt) (bG.exps.ext qXt) ((iW.ext EW).ints.ext qXt) ((iW.ext EW).exps.ext qXt)).mono ?_
 rintro e w10 ⟨rfl, xw10⟩
 have Lw10 : Ext w9 w10 := Ext.trans qXt xw10
 replace cb0 := Lw10.cell cb0
 replace cb1 := Lw10.cell cb1
 replace r0 := Lw10.cell r0
 replace r1 := Lw10.cell r1
 replace x0 := Lw10.cell x0
 replace x1 := Lw10.cell x1
 replace gg0 := Lw10.cell gg0
 replace gg1 := Lw10.cell gg1
 replace bG := bG.ext Lw10
 replace X := X.trans Lw10
 replace EW := EW.trans Lw10
 have z21 : w.heap.size < w10.heap.size := qB cb0
 have z22 : w3.heap.size < w10.heap.size := qB r0
 have z23 : w4.heap.size < w10.heap.size := qB x0
 have z24 : w5.heap.size < w10.heap.size := qB gg0
 have sw10 : w9.heap.size ≤ w10.heap.size := Lw10.size
 clear Lw10
 clear xw10
 go_wp2_with fail
 refine (markBuffer_c PC PE _ 1 _ _ _ (w4.heap.size + 1) (w5.heap.size) (bG.ext qXt) lG (Nat.le_trans (by omega) (Ext.size (show Ext w10 _ from qXt))) (by omega) (by rw [hK2.out]; omega)).mono ?_
 rintro e w11 ⟨rfl, bH, kw11⟩
 have Kw11 : Chg (w4.heap.size + 1) (w5.heap.size) w10 w11 := (Chg.of_ext qXt).trans kw11
 have sw11 : w10.heap.size ≤ w11.heap.size := Kw11.size
 replace X := Ext.chg X Kw11 (by omega)
 replace EW := Ext.chg EW Kw11 (by omega)
 replace cb0 := Kw11.cell (by first | (left; omega) | (right; omega) | omega) cb0
 replace cb1 := Kw11.cell (by first | (left; omega) | (right; omega) | omega) cb1
 replace r0 := Kw11.cell (by first | (left; omega) | (right; omega) | omega) r0
 replace r1 := Kw11.cell (by first | (left; omega) | (right; omega) | omega) r1
 replace x0 := Kw11.cell (by first | (left; omega) | (right; omega) | omega) x0
 replace x1 := Kw11.cell (by first | (left; omega) | (right; omega) | omega) x1
 replace gg0 := Kw11.cell (by first | (left; omega) | (right; omega) | omega) gg0
 replace gg1 := Kw11.cell (by first | (left; omega) | (right; omega) | omega) gg1
 have z25 : w.heap.size < w11.heap.size := qB cb0
 have z26 : w3.heap.size < w11.heap.size := qB r0
 have z27 : w4.heap.size < w11.heap.size := qB x0
 have z28 : w5.heap.size < w11.heap.size := qB gg0
 clear Kw11 kw11
 clear bG
 rw [hK2.out]
 go_wp2_with fail
 refine (heldBuffer_c PC.length PE 1 _ _ _ _ _ (bH.ints.ext qXt) (bH.exps.ext qXt) (fun i hi => by have := hSr.out i hi; omega) (by omega) (by rw [hK2.out]; omega)).mono ?_
 rintro e w12 ⟨rfl, xw12⟩
 have Lw12 : Ext w11 w12 := Ext.trans qXt xw12
 replace cb0 := Lw12.cell cb0
 replace cb1 := Lw12.cell cb1
 replace r0 := Lw12.cell r0
 replace r1 := Lw12.cell r1
 replace x0 := Lw12.cell x0
 replace x1 := Lw12.cell x1
 replace gg0 := Lw12.cell gg0
 replace gg1 := Lw12.cell gg1
 replace bH := bH.ext Lw12
 replace X := X.trans Lw12
 replace EW := EW.trans Lw12
 have z29 : w.heap.size < w12.heap.size := qB cb0
 have z30 : w3.heap.size < w12.heap.size := qB r0
 have z31 : w4.heap.size < w12.heap.size := qB x0
 have z32 : w5.heap.size < w12.heap.size := qB gg0
 have sw12 : w11.heap.size ≤ w12.heap.size := Lw12.size
 clear Lw12
 clear xw12
 rw [hK2.out]
 go_wp2_with fail
 refine (toBuffer_c cells es _ _ _ _ _ (hc.ext (X.trans qXt)) (he.ext (X.trans qXt)) (by omega) (by omega) hm.out).mono ?_
 rintro e w13 ⟨uZ, vZ, RZ, rfl, bZ, xw13⟩
 have Lw13 : Ext w12 w13 := Ext.trans qXt xw13
 replace cb0 := Lw13.cell cb0
 replace cb1 := Lw13.cell cb1
 replace r0 := Lw13.cell r0
 replace r1 := Lw13.cell r1
 replace x0 := Lw13.cell x0
 replace x1 := Lw13.cell x1
 replace gg0 := Lw13.cell gg0
 replace gg1 := Lw13.cell gg1
 replace bH := bH.ext Lw13
 replace X := X.trans Lw13
 replace EW := EW.trans Lw13
 have z33 : w.heap.size < w13.heap.size := qB cb0
 have z34 : w3.heap.size < w13.heap.size := qB r0
 have z35 : w4.heap.size < w13.heap.size := qB x0
 have z36 : w5.heap.size < w13.heap.size := qB gg0
 have sw13 : w12.heap.size ≤ w13.heap.size := Lw13.size
 clear Lw13
 clear xw13
 go_wp2_with fail
 refine (pbx_eq hP.out (implCopyExport_c cells es _ _ i1 i2 _ _ _ (bZ.ints.ext qXt) (bZ.exps.ext qXt))).mono ?_
 rintro e w14 ⟨H1, H2, RH, rfl, iH, xw14⟩
 have Lw14 : Ext w13 w14 := Ext.trans qXt xw14
 replace cb0 := Lw14.cell cb0
 replace cb1 := Lw14.cell cb1
 replace r0 := Lw14.cell r0
 replace r1 := Lw14.cell r1
 replace x0 := Lw14.cell x0
 replace x1 := Lw14.cell x1
 replace gg0 := Lw14.cell gg0
 replace gg1 := Lw14.cell gg1
 replace bH := bH.ext Lw14
 replace X := X.trans Lw14
 replace EW := EW.trans Lw14
 have z37 : w.heap.size < w14.heap.size := qB cb0
 have z38 : w3.heap.size < w14.heap.size := qB r0
 have z39 : w4.heap.size < w14.heap.size := qB x0
 have z40 : w5.heap.size < w14.heap.size := qB gg0
 have sw14 : w13.heap.size ≤ w14.heap.size := Lw14.size
 clear Lw14
 clear xw14
 clear bZ
 obtain ⟨Ha, Hc, rfl⟩ := iH.ints.form
 obtain ⟨Hd, Hf, rfl⟩ := iH.exps.form
 go_wp2_with fail
 refine (eqBuffer_c PC PE _ _ _ _ _ _ _ _ _ (iH.ints.ext qXt) (iH.exps.ext qXt) ((iW.ext EW).ints.ext qXt) ((iW.ext EW).exps.ext qXt)).mono ?_
 rintro e w15 ⟨rfl, xw15⟩
 have Lw15 : Ext w14 w15 := Ext.trans qXt xw15
 replace cb0 := Lw15.cell cb0
 replace cb1 := Lw15.cell cb1
 replace r0 := Lw15.cell r0
 replace r1 := Lw15.cell r1
 replace x0 := Lw15.cell x0
 replace x1 := Lw15.cell x1
 replace gg0 := Lw15.cell gg0
 replace gg1 := Lw15.cell gg1
 have y0 : w15.cell? ⟨w14.heap.size, 0, none⟩ = some (.slice Ha PC.length Hc) := xw15.cell qCl
 have y1 : w15.cell? ⟨w14.heap.size, 1, none⟩ = some (.slice Hd PE.length Hf) := xw15.cell qCl
 replace bH := bH.ext Lw15
 replace iH := iH.ext Lw15
 replace X := X.trans Lw15
 replace EW := EW.trans Lw15
 have z41 : w.heap.size < w15.heap.size := qB cb0
 have z42 : w3.heap.size < w15.heap.size := qB r0
 have z43 : w4.heap.size < w15.heap.size := qB x0
 have z44 : w5.heap.size < w15.heap.size := qB gg0
 have z45 : w14.heap.size < w15.heap.size := qB y0
 have sw15 : w14.heap.size ≤ w15.heap.size := Lw15.size
 clear Lw15
 clear xw15
 go_wp2_with fail
 refine (heldBuffer_c PC.length PE 1 _ _ _ _ _ (bH.ints.ext qXt) (bH.exps.ext qXt) (fun i hi => by have := hSr.out i hi; omega) (by omega) (by rw [hK2.out]; omega)).mono ?_
 rintro e w16 ⟨rfl, xw16⟩
 have Lw16 : Ext w15 w16 := Ext.trans qXt xw16
 replace cb0 := Lw16.cell cb0
 replace cb1 := Lw16.cell cb1
 replace r0 := Lw16.cell r0
 replace r1 := Lw16.cell r1
 replace x0 := Lw16.cell x0
 replace x1 := Lw16.cell x1
 replace gg0 := Lw16.cell gg0
 replace gg1 := Lw16.cell gg1
 replace y0 := Lw16.cell y0
 replace y1 := Lw16.cell y1
 replace bH := bH.ext Lw16
 replace iH := iH.ext Lw16
 replace X := X.trans Lw16
 replace EW := EW.trans Lw16
 have z46 : w.heap.size < w16.heap.size := qB cb0
 have z47 : w3.heap.size < w16.heap.size := qB r0
 have z48 : w4.heap.size < w16.heap.size := qB x0
 have z49 : w5.heap.size < w16.heap.size := qB gg0
 have z50 : w14.heap.size < w16.heap.size := qB y0
 have sw16 : w15.heap.size ≤ w16.heap.size := Lw16.size
 clear Lw16
 clear xw16
 rw [hK2.out]
 go_wp2_with fail
 go_ret
 exact ⟨rfl, X.trans qXt⟩

set_option maxHeartbeats 6400000 in
theorem lawCopyExport_c (cells : List Int) (es : List Exp) (ac ae : Option Addr) (cc ce : Nat) (i1 : Int) (i2 : Int) (w : World) (hc : Raw w (.slice ac cells.length cc) cells) (he : RawE w (.slice ae es.length ce) es) (nc : cells.length ≤ maxLen) (ne : es.length ≤ maxLen) (wf1 : (Lit.int .i64 i1).wf = true) (wf2 : (Lit.int .i64 i2).wf = true) :
  Calls Try.prog 9 #[.agg #[.slice ac cells.length cc, .slice ae es.length ce], .int .i64 i1, .int .i64 i2] w fun e w' => e = .returned (.bool true) ∧ Ext w w' := by
 have hS := cpyA_small cells es i1 i2
 obtain ⟨PC, PE, PO, hP⟩ : ∃ PC PE PO, cpyA cells es i1 i2 = (PC, PE, PO) := ⟨_, _, _, rfl⟩
 rw [hP] at hS
 cases PO
 ·
  exact lawCopyExport_false cells es ac ae cc ce i1 i2 w hc he nc ne PC PE (Lib.hid hP) hS
 ·
  exact lawCopyExport_true cells es ac ae cc ce i1 i2 w hc he nc ne PC PE (Lib.hid hP) hS
end Go.Proofs.Ytfbbnbpobojboaa

/- The law FnExactCopyExport holds for all arguments: the call returns true, and its arguments read as they did. No condition. -/
namespace Go.Proofs.Ytfbbnbpobojboaa.rowCopyExport
open Go.ChangeShapes Go.WideShapes Go.ChangeAt Go.RowKit
set_option linter.unusedVariables false

set_option maxHeartbeats 1000000 in
set_option maxRecDepth 100000 in
theorem lifted (os : Os) (started : os.Started) (H : Type) (enc : TypeId × Value → H) :
    ReturnsInHanded {} Try.checked os 9 .any (Rows.fnExactCopyExportSpec.pre6 enc Try.prog Try.f9 Rows.fnExactCopyExportRow.domain false) (Rows.fnExactCopyExportSpec.post enc Try.prog Try.f9 false true false false) := by
  refine returnsInHanded_of_change (C := Try.checked) own started qKr Try.func9
    (ChangeSpec.witness6 (enc := enc) (C := Try.checked) false ⟨#[], #[.agg #[.slice none 0 0, .slice none 0 0], .int .i64 0, .int .i64 0], []⟩ 8 qKr qKr qKr qKr) ?_
  intro W base args ds gs before hval0 hW hcnd _
  have hval : ∀ (j : Nat) t v, Try.f9.params[j]? = some t → args[j]? = some v → Value.okWide Try.prog W .any base t v := hval0
  have hW' := hW
  obtain ⟨p, q, hA0, hV, rfl, hfz, hnd⟩ := hW
  have hA : DataW.TrodAll enc Try.prog W 0 (fun _ => true) true Try.f9.params.toList args.toList ds p := hA0
  rw [Try.params9] at hA hval
  obtain ⟨v0, vs0, d0, ds0, p0, q0, hargs0, rfl, rfl, h0, r0⟩ := trodAll_cons hA
  obtain ⟨v1, vs1, d1, ds1, p1, q1, hargs1, rfl, rfl, h1, r1⟩ := trodAll_cons r0
  subst hargs1
  obtain ⟨v2, vs2, d2, ds2, p2, q2, hargs2, rfl, rfl, h2, r2⟩ := trodAll_cons r1
  subst hargs2
  obtain ⟨rfl, rfl, rfl⟩ := trodAll_nil r2
  obtain rfl : args = #[v0, v1, v2] := by cases args; simp_all
  obtain ⟨rfl, rfl⟩ := trodVars_none hV
  have k0 := h0
  have lt0 : ∀ x ∈ p0, x.block < W.heap.size := by obtain ⟨m, hm⟩ := k0; exact DataW.trod_lt m _ _ _ hm
  obtain ⟨cells0, es0, ac0, ae0, cc0, ce0, rfl, ⟨hb0, nb0⟩, hE0, ne0⟩ := open_buffer (hval 0 _ v0 rfl rfl) h0
  have k1 := h1
  have lt1 : ∀ x ∈ p1, x.block < W.heap.size := by obtain ⟨m, hm⟩ := k1; exact DataW.trod_lt m _ _ _ hm
  obtain ⟨i1, rfl, -, -, wf1⟩ := open_int Try.underlying3 (hval 1 _ v1 rfl rfl) h1
  have k2 := h2
  have lt2 : ∀ x ∈ p2, x.block < W.heap.size := by obtain ⟨m, hm⟩ := k2; exact DataW.trod_lt m _ _ _ hm
  obtain ⟨i2, rfl, -, -, wf2⟩ := open_int Try.underlying3 (hval 2 _ v2 rfl rfl) h2
  clear hA0 hval0
  refine (lawCopyExport_c cells0 es0 ac0 ae0 cc0 ce0 i1 i2 W hb0 hE0 nb0 ne0 wf1 wf2).mono fun e W' ⟨he, bel⟩ => ?_
  subst he
  exact ⟨_, rfl, _, _, _, [], _, [], hW', trodAll_mk1 (shut_bool Try.underlying4 _), (trodAll_cons_mk (Below.trod laidOut qKr (of_decide_eq_true qKr) k0 bel lt0) (trodAll_cons_mk (Below.trod laidOut qKr (of_decide_eq_true qKr) k1 bel lt1) (trodAll_cons_mk (Below.trod laidOut qKr (of_decide_eq_true qKr) k2 bel lt2) trodAll_mk0))), rfl, Below.frame bel _, fun h => by cases h⟩

set_option maxHeartbeats 2000000 in
theorem closed : joinedFacts Try.checked.prog 9 Try.f9 Rows.fnExactCopyExportSpec Rows.fnExactCopyExportRow = true :=
  facts.all qKr qKr qKr qKr qKr (by as_aux_lemma => kernel_rfl) (by as_aux_lemma => kernel_rfl) (by as_aux_lemma => kernel_rfl) (by as_aux_lemma => kernel_rfl)
    (by as_aux_lemma => kernel_rfl) (by as_aux_lemma => kernel_rfl) rfl rfl rfl rfl qKr qKr (by as_aux_lemma => kernel_rfl) (by as_aux_lemma => kernel_rfl)

theorem named : Try.pinned.checked.prog.funcNamed Rows.fnExactCopyExportRow.func = some 9 := by kernel_rfl

theorem over : Rows.fnExactCopyExportRow.holds Try.pinned (OpenSpec.ofChange Rows.fnExactCopyExportSpec) :=
  OpenClaim.holds_of_wide 9 Try.f9 rfl rfl rfl rfl rfl rfl rfl ⟨rfl, rfl, rfl, rfl, rfl⟩ rfl rfl rfl rfl rfl named Try.func9 closed
    (of_decide_eq_true qKr) (by unfold Func.isWrapper; exact ⟨rfl, rfl⟩)
    (fun os started H enc _ => lifted os started H enc)

theorem proved : Rows.FnExactCopyExportSaid := over

end Go.Proofs.Ytfbbnbpobojboaa.rowCopyExport
