/- Texts of these proofs put together: LawExportView, RowExportView. No condition. -/
import Derived.Test.YtfbbnbpobojboaaD2RowExportView
import Derived.Test.YtfbbnbpobojboaaD1RowExportView
import Derived.Test.YtfbbnbpobojboaaM1
set_option linter.unusedVariables false
set_option linter.unusedSimpArgs false
/- FnExactExportView returns true for all arguments: no condition. -/
namespace Go.Proofs.Ytfbbnbpobojboaa
open Go.RowKit
set_option linter.unusedVariables false
set_option maxRecDepth 100000

set_option maxHeartbeats 6400000 in
theorem lawExportView_false (cells : List Int) (es : List Exp) (ac ae : Option Addr) (cc ce : Nat) (b1 : Int) (a1 d1 : Option Addr) (f1 g1 : Nat) (s1 t1 : List Int) (w : World) (hc : Raw w (.slice ac cells.length cc) cells) (he : RawE w (.slice ae es.length ce) es) (nc : cells.length ≤ maxLen) (ne : es.length ≤ maxLen) (h1 : Raw w (.slice a1 s1.length f1) s1) (k1 : Raw w (.slice d1 t1.length g1) t1) (n1 : s1.length ≤ maxLen) (m1 : t1.length ≤ maxLen) (PC : List Int) (PE : List Exp) (hP : Hid (expA cells es b1 s1 t1 = (PC, PE, false))) (hS : SmallB (PC, PE, false)) :
  Calls Try.prog 3 #[.agg #[.slice ac cells.length cc, .slice ae es.length ce], .agg #[.int .i64 b1, .slice a1 s1.length f1, .slice d1 t1.length g1]] w fun e w' => e = .returned (.bool true) ∧ Ext w w' := by
 go_enter Try.func3, Try.ntmps3
 have X : Ext w w := Ext.refl _
 go_wp2_with fail
 refine (szBuffer_c cells es _ _ _ _ 1048576 _ (he.ext qXt) (by omega) (by omega) ne nc).mono ?_
 rintro e w1 ⟨L, rfl, q1, q2, q3, xw1⟩
 have Lw1 : Ext w w1 := Ext.trans qXt xw1
 have cb0 : w1.cell? ⟨w.heap.size, 0, none⟩ = some (.slice ac cells.length cc) := xw1.cell qCl
 have cb1 : w1.cell? ⟨w.heap.size, 1, none⟩ = some (.slice ae es.length ce) := xw1.cell qCl
 have cc10 : w1.cell? ⟨w.heap.size + 1, 0, none⟩ = some (.int .i64 b1) := xw1.cell qCl
 have cc11 : w1.cell? ⟨w.heap.size + 1, 1, none⟩ = some (.slice a1 s1.length f1) := xw1.cell qCl
 have cc12 : w1.cell? ⟨w.heap.size + 1, 2, none⟩ = some (.slice d1 t1.length g1) := xw1.cell qCl
 replace X := X.trans Lw1
 have z1 : w.heap.size < w1.heap.size := qB cb0
 have z2 : w.heap.size + 1 < w1.heap.size := qB cc10
 have sw1 : w.heap.size ≤ w1.heap.size := Lw1.size
 clear Lw1
 clear xw1
 by_cases q0 : L < 0
 ·
  go_wp2_with fail
  go_ret
  exact ⟨rfl, X.trans qXt⟩
 have q4 := q3 (by omega)
 have hm : ∀ i, i < es.length → (expAt es i).s.length ≤ 1048576 ∧ (expAt es i).t.length ≤ 1048576 := fun i hi => by have := sizeE_le es i es.length hi; omega
 replace hm := Lib.hid hm
 go_wp2_with fail
 refine (szView_c b1 a1 d1 _ f1 _ g1 L _ (by omega) (by omega) n1 m1).mono ?_
 rintro e w2 ⟨rfl, xw2⟩
 have Lw2 : Ext w1 w2 := Ext.trans qXt xw2
 replace cb0 := Lw2.cell cb0
 replace cb1 := Lw2.cell cb1
 replace cc10 := Lw2.cell cc10
 replace cc11 := Lw2.cell cc11
 replace cc12 := Lw2.cell cc12
 replace X := X.trans Lw2
 have z3 : w.heap.size < w2.heap.size := qB cb0
 have z4 : w.heap.size + 1 < w2.heap.size := qB cc10
 have sw2 : w1.heap.size ≤ w2.heap.size := Lw2.size
 clear Lw2
 clear xw2
 by_cases y1 : szV L s1.length t1.length < 0
 ·
  go_wp2_with fail
  go_ret
  exact ⟨rfl, X.trans qXt⟩
 have y1' := szV_ge (by omega) y1
 have hk1 : kE (1 + cells.length) es es.length ≤ 4194304 := by rw [kE_size]; omega
 have hk0 := kE_mono (1 + cells.length) es 0 es.length (Nat.zero_le _)
 have hk2 : 0 ≤ kE (1 + cells.length) es es.length := by simp only [kE] at hk0; omega
 clear hk0
 obtain ⟨K1, hK1⟩ : ∃ x, kE (1 + cells.length) es es.length = x := ⟨_, rfl⟩
 rw [hK1] at hk1 hk2
 replace hK1 := Lib.hid hK1
 have hG1 := hS.kE
 have hG0 := kE_mono (1 + PC.length) PE 0 PE.length (Nat.zero_le _)
 obtain ⟨hSc, hSe, hSr⟩ := hS
 dsimp only at hG1 hSc hSe hSr
 have hG2 : 0 ≤ kE (1 + PC.length) PE PE.length := by simp only [kE] at hG0; omega
 clear hG0
 obtain ⟨K2, hK2⟩ : ∃ x, kE (1 + PC.length) PE PE.length = x := ⟨_, rfl⟩
 rw [hK2] at hG1 hG2
 replace hK2 := Lib.hid hK2
 replace hSr := Lib.hid hSr
 go_wp2_with fail
 go_cut [6, 7] (fun s0 s1 wx => ∃ (gW : Nat) (Wa : Option Addr) (Wc : Nat) (Wd : Option Addr) (Wf : Nat) (RW : Nat → Value), s0 = .pointer (some ⟨gW, 0, none⟩) ∧ s1 = .bool false ∧ Ext w2 wx ∧ w2.heap.size ≤ gW ∧ wx.cell? ⟨gW, 0, none⟩ = some (.slice Wa PC.length Wc) ∧ wx.cell? ⟨gW, 1, none⟩ = some (.slice Wd PE.length Wf) ∧ BufR wx 0 (.slice Wa PC.length Wc) (.slice Wd PE.length Wf) PC PE RW)
 case first =>
  refine wp_region_held_drew (S := fun w' => w'.cell? ⟨w.heap.size, 0, none⟩ = some (.slice ac cells.length cc) ∧ w'.cell? ⟨w.heap.size, 1, none⟩ = some (.slice ae es.length ce) ∧ w'.cell? ⟨w.heap.size + 1, 0, none⟩ = some (.int .i64 b1) ∧ w'.cell? ⟨w.heap.size + 1, 1, none⟩ = some (.slice a1 s1.length f1) ∧ w'.cell? ⟨w.heap.size + 1, 2, none⟩ = some (.slice d1 t1.length g1)) qKr ⟨cb0, cb1, cc10, cc11, cc12⟩ (fun hHeld => ?_)
  refine qHk (v := ?_) 0 rfl (.inl ⟨by rfl, ?_⟩) ?_
  rotate_left
  ·
   (intro w hSw; (try dsimp only at hSw); go_simp; try with_reducible rfl)
  try simp only [Act.put, qa, qb, qc, qD, qE, qF]
  refine qHk (v := ?_) 2 rfl (.inl ⟨by rfl, ?_⟩) ?_
  rotate_left
  ·
   (intro w hSw; (try dsimp only at hSw); go_simp; try with_reducible rfl)
  try simp only [Act.put, qa, qb, qc, qD, qE, qF]
  refine wpAnyH_ready (rs := [1, 8]) qKr (by simp) ?_
  refine AllReadyH.cons rfl (fun K hK => ?_) (AllReadyH.cons rfl (fun K hK => ?_) AllReadyH.nil)
  rotate_left
  try simp only [Act.put, qa, qb, qc, qD, qE, qF]
  go_simp
  refine hK.out _ _ ⟨(show Ext w2 _ from qXt).cell cb0, (show Ext w2 _ from qXt).cell cb1, (show Ext w2 _ from qXt).cell cc10, (show Ext w2 _ from qXt).cell cc11, (show Ext w2 _ from qXt).cell cc12⟩ (fun hHeld => ?_)
  clear hK K
  try simp only [Act.put, qa, qb, qc, qD, qE, qF]
  have qa0 : (w2.drew.alloc (.cells #[.slice none 0 0, .slice none 0 0] 32)).cell? ⟨w2.heap.size, 0, none⟩ = some (.slice none 0 0) := qCl
  have qf0 : (w2.drew.alloc (.cells #[.slice none 0 0, .slice none 0 0] 32)).frozen? ⟨w2.heap.size, 0, none⟩ = false := qFz
  have qa1 : (w2.drew.alloc (.cells #[.slice none 0 0, .slice none 0 0] 32)).cell? ⟨w2.heap.size, 1, none⟩ = some (.slice none 0 0) := qCl
  have qf1 : (w2.drew.alloc (.cells #[.slice none 0 0, .slice none 0 0] 32)).frozen? ⟨w2.heap.size, 1, none⟩ = false := qFz
  have zg : w2.heap.size < (w2.drew.alloc (.cells #[.slice none 0 0, .slice none 0 0] 32)).heap.size := qB qa0
  have hg : w2.heap.size ≤ w2.heap.size := Nat.le_refl _
  refine qHr 1 rfl (fun K hK => ?_)
  have zp := zg
  try simp only [Act.put, qa, qb, qc, qD, qE, qF]
  go_simp
  refine (toBuffer_c cells es _ _ _ _ _ (hc.ext (X.trans qXt)) (he.ext (X.trans qXt)) (by omega) (by omega) hm.out).mono ?_
  rintro e w3 ⟨uW, vW, RW, rfl, bW, xw3⟩
  have Lw3 : Ext w2 w3 := Ext.trans qXt xw3
  replace cb0 := Lw3.cell cb0
  replace cb1 := Lw3.cell cb1
  replace cc10 := Lw3.cell cc10
  replace cc11 := Lw3.cell cc11
  replace cc12 := Lw3.cell cc12
  have sz_w3 := Lw3.size
  replace qa0 := xw3.cell qa0
  replace qf0 := xw3.frz zg qf0
  replace qa1 := xw3.cell qa1
  replace qf1 := xw3.frz zg qf1
  replace zg := Nat.lt_of_lt_of_le zg xw3.size
  refine hK.out _ _ ⟨cb0, cb1, cc10, cc11, cc12⟩ (fun hHeld => ?_)
  clear hK K
  try simp only [Act.put, qa, qb, qc, qD, qE, qF]
  refine qHr 3 rfl (fun K hK => ?_)
  have zp := zg
  try simp only [Act.put, qa, qb, qc, qD, qE, qF]
  go_simp
  refine (toView_c b1 _ _ s1 t1 _ (h1.ext (X.trans (Lw3.trans qXt))) (k1.ext (X.trans (Lw3.trans qXt))) (by omega) (by omega)).mono ?_
  rintro e w4 ⟨uW1, vW1, rfl, iuW1, ivW1, -, -, -, xw4⟩
  have Lw4 : Ext w3 w4 := Ext.trans qXt xw4
  replace cb0 := Lw4.cell cb0
  replace cb1 := Lw4.cell cb1
  replace cc10 := Lw4.cell cc10
  replace cc11 := Lw4.cell cc11
  replace cc12 := Lw4.cell cc12
  replace bW := bW.ext Lw4
  have sz_w4 := Lw4.size
  replace qa0 := xw4.cell qa0
  replace qf0 := xw4.frz zg qf0
  replace qa1 := xw4.cell qa1
  replace qf1 := xw4.frz zg qf1
  replace zg := Nat.lt_of_lt_of_le zg xw4.size
  refine hK.out _ _ ⟨cb0, cb1, cc10, cc11, cc12⟩ (fun hHeld => ?_)
  clear hK K
  try simp only [Act.put, qa, qb, qc, qD, qE, qF]
  refine qHr 4 rfl (fun K hK => ?_)
  have zp := zg
  try simp only [Act.put, qa, qb, qc, qD, qE, qF]
  go_simp
  refine (pbx_eq hP.out (specExportView_c cells es _ _ b1 _ _ s1 t1 _ _ _ (bW.ints.ext qXt) (bW.exps.ext qXt) _ _ (iuW1.ext qXt) (ivW1.ext qXt))).mono ?_
  rintro e w5 ⟨W1, W2, RW, rfl, iW, xw5⟩
  have Lw5 : Ext w4 w5 := Ext.trans qXt xw5
  replace cb0 := Lw5.cell cb0
  replace cb1 := Lw5.cell cb1
  replace cc10 := Lw5.cell cc10
  replace cc11 := Lw5.cell cc11
  replace cc12 := Lw5.cell cc12
  replace bW := bW.ext Lw5
  replace iuW1 := iuW1.ext Lw5
  replace ivW1 := ivW1.ext Lw5
  have sz_w5 := Lw5.size
  try simp only [World.size_alloc, World.size_drew] at iW
  obtain ⟨Wa, Wc, rfl⟩ := iW.ints.form
  obtain ⟨Wd, Wf, rfl⟩ := iW.exps.form
  replace qa0 := xw5.cell qa0
  replace qf0 := xw5.frz zg qf0
  replace qa1 := xw5.cell qa1
  replace qf1 := xw5.frz zg qf1
  replace zg := Nat.lt_of_lt_of_le zg xw5.size
  refine hK.out _ _ ⟨cb0, cb1, cc10, cc11, cc12⟩ (fun hHeld => ?_)
  clear hK K
  try simp only [Act.put, qa, qb, qc, qD, qE, qF]
  refine qHk (v := ?_) 5 rfl (.inl ⟨by rfl, ?_⟩) ?_
  rotate_left
  ·
   (intro w hSw; (try dsimp only at hSw); go_simp; try with_reducible rfl)
  try simp only [Act.put, qa, qb, qc, qD, qE, qF]
  refine qHk (v := ?_) 6 rfl (.inl ⟨by rfl, ?_⟩) ?_
  rotate_left
  ·
   (intro w hSw; (try dsimp only at hSw); go_simp; try with_reducible rfl)
  try simp only [Act.put, qa, qb, qc, qD, qE, qF]
  refine qHk (v := ?_) 7 rfl (.inl ⟨by rfl, ?_⟩) ?_
  rotate_left
  ·
   (intro w hSw; (try dsimp only at hSw); go_simp; try with_reducible rfl)
  try simp only [Act.put, qa, qb, qc, qD, qE, qF]
  refine qHr 9 rfl (fun K hK => ?_)
  try simp only [Act.put, qa, qb, qc, qD, qE, qF]
  go_simp
  have XE : Ext w2 ((w5.setCell ⟨w2.heap.size, 0, none⟩ (.slice Wa PC.length Wc)).setCell ⟨w2.heap.size, 1, none⟩ (.slice Wd PE.length Wf)) := (Ext.setCell (Ext.setCell ((Lw3.trans Lw4).trans Lw5) hg _) hg _)
  have r0 : ((w5.setCell ⟨w2.heap.size, 0, none⟩ (.slice Wa PC.length Wc)).setCell ⟨w2.heap.size, 1, none⟩ (.slice Wd PE.length Wf)).cell? ⟨w2.heap.size, 0, none⟩ = some (.slice Wa PC.length Wc) := qCl
  have f_r0 : ((w5.setCell ⟨w2.heap.size, 0, none⟩ (.slice Wa PC.length Wc)).setCell ⟨w2.heap.size, 1, none⟩ (.slice Wd PE.length Wf)).frozen? ⟨w2.heap.size, 0, none⟩ = false := qFz
  have r1 : ((w5.setCell ⟨w2.heap.size, 0, none⟩ (.slice Wa PC.length Wc)).setCell ⟨w2.heap.size, 1, none⟩ (.slice Wd PE.length Wf)).cell? ⟨w2.heap.size, 1, none⟩ = some (.slice Wd PE.length Wf) := qCl
  have f_r1 : ((w5.setCell ⟨w2.heap.size, 0, none⟩ (.slice Wa PC.length Wc)).setCell ⟨w2.heap.size, 1, none⟩ (.slice Wd PE.length Wf)).frozen? ⟨w2.heap.size, 1, none⟩ = false := qFz
  have hg1 : w2.heap.size ≤ w2.heap.size := hg
  have KE : Chg w2.heap.size (w2.heap.size + 1) w5 ((w5.setCell ⟨w2.heap.size, 0, none⟩ (.slice Wa PC.length Wc)).setCell ⟨w2.heap.size, 1, none⟩ (.slice Wd PE.length Wf)) := (by repeat (first | (with_reducible exact Chg.refl _ _ _) | (with_reducible refine Chg.setCell ?_ qSo qSo _) | (with_reducible refine Chg.ext ?_ (Ext.alloc (Ext.refl _) _)) | (with_reducible refine Chg.ext ?_ (Ext.drew (Ext.refl _)))))
  replace cb0 := KE.cell (by omega) cb0
  replace cb1 := KE.cell (by omega) cb1
  replace cc10 := KE.cell (by omega) cc10
  replace cc11 := KE.cell (by omega) cc11
  replace cc12 := KE.cell (by omega) cc12
  clear bW
  clear iuW1
  clear ivW1
  replace iW := iW.chg KE (by omega)
  have ke_ := KE.size
  refine hK.out _ _ ⟨cb0, cb1, cc10, cc11, cc12⟩ (fun hHeld => ?_)
  clear hK K KE
  try simp only [Act.put, qa, qb, qc, qD, qE, qF]
  refine qHk (v := ?_) 10 rfl (.inl ⟨by rfl, ?_⟩) ?_
  rotate_left
  ·
   (intro w hSw; (try dsimp only at hSw); go_simp; try with_reducible rfl)
  try simp only [Act.put, qa, qb, qc, qD, qE, qF]
  refine wpAnyH_done qKr ?_ _
  clear hHeld
  generalize ((w5.setCell ⟨w2.heap.size, 0, none⟩ (.slice Wa PC.length Wc)).setCell ⟨w2.heap.size, 1, none⟩ (.slice Wd PE.length Wf)) = WE at *
  go_step
  go_step
  go_meet
  case rel => exact ⟨_, _, _, _, _, _, rfl, rfl, XE, hg1, r0, r1, iW.lower (Nat.zero_le _)⟩
  try simp only [Act.put, qa, qb, qc, qD, qE, qF]
  go_simp
  refine (toBuffer_c cells es _ _ _ _ _ (hc.ext (X.trans qXt)) (he.ext (X.trans qXt)) (by omega) (by omega) hm.out).mono ?_
  rintro e w3 ⟨uW, vW, RW, rfl, bW, xw3⟩
  have Lw3 : Ext w2 w3 := Ext.trans qXt xw3
  replace cb0 := Lw3.cell cb0
  replace cb1 := Lw3.cell cb1
  replace cc10 := Lw3.cell cc10
  replace cc11 := Lw3.cell cc11
  replace cc12 := Lw3.cell cc12
  have sz_w3 := Lw3.size
  refine hK.out _ _ ⟨cb0, cb1, cc10, cc11, cc12⟩ (fun hHeld => ?_)
  clear hK K
  try simp only [Act.put, qa, qb, qc, qD, qE, qF]
  refine wpAnyH_ready (rs := [3, 8]) qKr (by simp) ?_
  refine AllReadyH.cons rfl (fun K hK => ?_) (AllReadyH.cons rfl (fun K hK => ?_) AllReadyH.nil)
  rotate_left
  try simp only [Act.put, qa, qb, qc, qD, qE, qF]
  go_simp
  refine hK.out _ _ ⟨(show Ext w3 _ from qXt).cell cb0, (show Ext w3 _ from qXt).cell cb1, (show Ext w3 _ from qXt).cell cc10, (show Ext w3 _ from qXt).cell cc11, (show Ext w3 _ from qXt).cell cc12⟩ (fun hHeld => ?_)
  clear hK K
  try simp only [Act.put, qa, qb, qc, qD, qE, qF]
  have qa0 : (w3.alloc (.cells #[.slice none 0 0, .slice none 0 0] 32)).cell? ⟨w3.heap.size, 0, none⟩ = some (.slice none 0 0) := qCl
  have qf0 : (w3.alloc (.cells #[.slice none 0 0, .slice none 0 0] 32)).frozen? ⟨w3.heap.size, 0, none⟩ = false := qFz
  have qa1 : (w3.alloc (.cells #[.slice none 0 0, .slice none 0 0] 32)).cell? ⟨w3.heap.size, 1, none⟩ = some (.slice none 0 0) := qCl
  have qf1 : (w3.alloc (.cells #[.slice none 0 0, .slice none 0 0] 32)).frozen? ⟨w3.heap.size, 1, none⟩ = false := qFz
  have zg : w3.heap.size < (w3.alloc (.cells #[.slice none 0 0, .slice none 0 0] 32)).heap.size := qB qa0
  have hg : w2.heap.size ≤ w3.heap.size := (Lw3).size
  refine qHr 3 rfl (fun K hK => ?_)
  have zp := zg
  try simp only [Act.put, qa, qb, qc, qD, qE, qF]
  go_simp
  refine (toView_c b1 _ _ s1 t1 _ (h1.ext (X.trans (Lw3.trans qXt))) (k1.ext (X.trans (Lw3.trans qXt))) (by omega) (by omega)).mono ?_
  rintro e w4 ⟨uW1, vW1, rfl, iuW1, ivW1, -, -, -, xw4⟩
  have Lw4 : Ext w3 w4 := Ext.trans qXt xw4
  replace cb0 := Lw4.cell cb0
  replace cb1 := Lw4.cell cb1
  replace cc10 := Lw4.cell cc10
  replace cc11 := Lw4.cell cc11
  replace cc12 := Lw4.cell cc12
  replace bW := bW.ext Lw4
  have sz_w4 := Lw4.size
  replace qa0 := xw4.cell qa0
  replace qf0 := xw4.frz zg qf0
  replace qa1 := xw4.cell qa1
  replace qf1 := xw4.frz zg qf1
  replace zg := Nat.lt_of_lt_of_le zg xw4.size
  refine hK.out _ _ ⟨cb0, cb1, cc10, cc11, cc12⟩ (fun hHeld => ?_)
  clear hK K
  try simp only [Act.put, qa, qb, qc, qD, qE, qF]
  refine qHr 4 rfl (fun K hK => ?_)
  have zp := zg
  try simp only [Act.put, qa, qb, qc, qD, qE, qF]
  go_simp
  refine (pbx_eq hP.out (specExportView_c cells es _ _ b1 _ _ s1 t1 _ _ _ (bW.ints.ext qXt) (bW.exps.ext qXt) _ _ (iuW1.ext qXt) (ivW1.ext qXt))).mono ?_
  rintro e w5 ⟨W1, W2, RW, rfl, iW, xw5⟩
  have Lw5 : Ext w4 w5 := Ext.trans qXt xw5
  replace cb0 := Lw5.cell cb0
  replace cb1 := Lw5.cell cb1
  replace cc10 := Lw5.cell cc10
  replace cc11 := Lw5.cell cc11
  replace cc12 := Lw5.cell cc12
  replace bW := bW.ext Lw5
  replace iuW1 := iuW1.ext Lw5
  replace ivW1 := ivW1.ext Lw5
  have sz_w5 := Lw5.size
  try simp only [World.size_alloc, World.size_drew] at iW
  obtain ⟨Wa, Wc, rfl⟩ := iW.ints.form
  obtain ⟨Wd, Wf, rfl⟩ := iW.exps.form
  replace qa0 := xw5.cell qa0
  replace qf0 := xw5.frz zg qf0
  replace qa1 := xw5.cell qa1
  replace qf1 := xw5.frz zg qf1
  replace zg := Nat.lt_of_lt_of_le zg xw5.size
  refine hK.out _ _ ⟨cb0, cb1, cc10, cc11, cc12⟩ (fun hHeld => ?_)
  clear hK K
  try simp only [Act.put, qa, qb, qc, qD, qE, qF]
  refine qHk (v := ?_) 5 rfl (.inl ⟨by rfl, ?_⟩) ?_
  rotate_left
  ·
   (intro w hSw; (try dsimp only at hSw); go_simp; try with_reducible rfl)
  try simp only [Act.put, qa, qb, qc, qD, qE, qF]
  refine qHk (v := ?_) 6 rfl (.inl ⟨by rfl, ?_⟩) ?_
  rotate_left
  ·
   (intro w hSw; (try dsimp only at hSw); go_simp; try with_reducible rfl)
  try simp only [Act.put, qa, qb, qc, qD, qE, qF]
  refine qHk (v := ?_) 7 rfl (.inl ⟨by rfl, ?_⟩) ?_
  rotate_left
  ·
   (intro w hSw; (try dsimp only at hSw); go_simp; try with_reducible rfl)
  try simp only [Act.put, qa, qb, qc, qD, qE, qF]
  refine qHr 9 rfl (fun K hK => ?_)
  try simp only [Act.put, qa, qb, qc, qD, qE, qF]
  go_simp
  have XE : Ext w2 ((w5.setCell ⟨w3.heap.size, 0, none⟩ (.slice Wa PC.length Wc)).setCell ⟨w3.heap.size, 1, none⟩ (.slice Wd PE.length Wf)) := (Ext.setCell (Ext.setCell ((Lw3.trans Lw4).trans Lw5) hg _) hg _)
  have r0 : ((w5.setCell ⟨w3.heap.size, 0, none⟩ (.slice Wa PC.length Wc)).setCell ⟨w3.heap.size, 1, none⟩ (.slice Wd PE.length Wf)).cell? ⟨w3.heap.size, 0, none⟩ = some (.slice Wa PC.length Wc) := qCl
  have f_r0 : ((w5.setCell ⟨w3.heap.size, 0, none⟩ (.slice Wa PC.length Wc)).setCell ⟨w3.heap.size, 1, none⟩ (.slice Wd PE.length Wf)).frozen? ⟨w3.heap.size, 0, none⟩ = false := qFz
  have r1 : ((w5.setCell ⟨w3.heap.size, 0, none⟩ (.slice Wa PC.length Wc)).setCell ⟨w3.heap.size, 1, none⟩ (.slice Wd PE.length Wf)).cell? ⟨w3.heap.size, 1, none⟩ = some (.slice Wd PE.length Wf) := qCl
  have f_r1 : ((w5.setCell ⟨w3.heap.size, 0, none⟩ (.slice Wa PC.length Wc)).setCell ⟨w3.heap.size, 1, none⟩ (.slice Wd PE.length Wf)).frozen? ⟨w3.heap.size, 1, none⟩ = false := qFz
  have hg1 : w2.heap.size ≤ w3.heap.size := hg
  have KE : Chg w3.heap.size (w3.heap.size + 1) w5 ((w5.setCell ⟨w3.heap.size, 0, none⟩ (.slice Wa PC.length Wc)).setCell ⟨w3.heap.size, 1, none⟩ (.slice Wd PE.length Wf)) := (by repeat (first | (with_reducible exact Chg.refl _ _ _) | (with_reducible refine Chg.setCell ?_ qSo qSo _) | (with_reducible refine Chg.ext ?_ (Ext.alloc (Ext.refl _) _)) | (with_reducible refine Chg.ext ?_ (Ext.drew (Ext.refl _)))))
  replace cb0 := KE.cell (by omega) cb0
  replace cb1 := KE.cell (by omega) cb1
  replace cc10 := KE.cell (by omega) cc10
  replace cc11 := KE.cell (by omega) cc11
  replace cc12 := KE.cell (by omega) cc12
  clear bW
  clear iuW1
  clear ivW1
  replace iW := iW.chg KE (by omega)
  have ke_ := KE.size
  refine hK.out _ _ ⟨cb0, cb1, cc10, cc11, cc12⟩ (fun hHeld => ?_)
  clear hK K KE
  try simp only [Act.put, qa, qb, qc, qD, qE, qF]
  refine qHk (v := ?_) 10 rfl (.inl ⟨by rfl, ?_⟩) ?_
  rotate_left
  ·
   (intro w hSw; (try dsimp only at hSw); go_simp; try with_reducible rfl)
  try simp only [Act.put, qa, qb, qc, qD, qE, qF]
  refine wpAnyH_done qKr ?_ _
  clear hHeld
  generalize ((w5.setCell ⟨w3.heap.size, 0, none⟩ (.slice Wa PC.length Wc)).setCell ⟨w3.heap.size, 1, none⟩ (.slice Wd PE.length Wf)) = WE at *
  go_step
  go_step
  go_meet
  case rel => exact ⟨_, _, _, _, _, _, rfl, rfl, XE, hg1, r0, r1, iW.lower (Nat.zero_le _)⟩
  try simp only [Act.put, qa, qb, qc, qD, qE, qF]
  go_simp
  refine (toView_c b1 _ _ s1 t1 _ (h1.ext (X.trans (Lw3.trans qXt))) (k1.ext (X.trans (Lw3.trans qXt))) (by omega) (by omega)).mono ?_
  rintro e w4 ⟨uW1, vW1, rfl, iuW1, ivW1, -, -, -, xw4⟩
  have Lw4 : Ext w3 w4 := Ext.trans qXt xw4
  replace cb0 := Lw4.cell cb0
  replace cb1 := Lw4.cell cb1
  replace cc10 := Lw4.cell cc10
  replace cc11 := Lw4.cell cc11
  replace cc12 := Lw4.cell cc12
  replace bW := bW.ext Lw4
  have sz_w4 := Lw4.size
  refine hK.out _ _ ⟨cb0, cb1, cc10, cc11, cc12⟩ (fun hHeld => ?_)
  clear hK K
  try simp only [Act.put, qa, qb, qc, qD, qE, qF]
  refine wpAnyH_ready (rs := [4, 8]) qKr (by simp) ?_
  refine AllReadyH.cons rfl (fun K hK => ?_) (AllReadyH.cons rfl (fun K hK => ?_) AllReadyH.nil)
  rotate_left
  try simp only [Act.put, qa, qb, qc, qD, qE, qF]
  go_simp
  refine hK.out _ _ ⟨(show Ext w4 _ from qXt).cell cb0, (show Ext w4 _ from qXt).cell cb1, (show Ext w4 _ from qXt).cell cc10, (show Ext w4 _ from qXt).cell cc11, (show Ext w4 _ from qXt).cell cc12⟩ (fun hHeld => ?_)
  clear hK K
  try simp only [Act.put, qa, qb, qc, qD, qE, qF]
  have qa0 : (w4.alloc (.cells #[.slice none 0 0, .slice none 0 0] 32)).cell? ⟨w4.heap.size, 0, none⟩ = some (.slice none 0 0) := qCl
  have qf0 : (w4.alloc (.cells #[.slice none 0 0, .slice none 0 0] 32)).frozen? ⟨w4.heap.size, 0, none⟩ = false := qFz
  have qa1 : (w4.alloc (.cells #[.slice none 0 0, .slice none 0 0] 32)).cell? ⟨w4.heap.size, 1, none⟩ = some (.slice none 0 0) := qCl
  have qf1 : (w4.alloc (.cells #[.slice none 0 0, .slice none 0 0] 32)).frozen? ⟨w4.heap.size, 1, none⟩ = false := qFz
  have zg : w4.heap.size < (w4.alloc (.cells #[.slice none 0 0, .slice none 0 0] 32)).heap.size := qB qa0
  have hg : w2.heap.size ≤ w4.heap.size := ((Lw3.trans Lw4)).size
  refine qHr 4 rfl (fun K hK => ?_)
  have zp := zg
  try simp only [Act.put, qa, qb, qc, qD, qE, qF]
  go_simp
  refine (pbx_eq hP.out (specExportView_c cells es _ _ b1 _ _ s1 t1 _ _ _ (bW.ints.ext qXt) (bW.exps.ext qXt) _ _ (iuW1.ext qXt) (ivW1.ext qXt))).mono ?_
  rintro e w5 ⟨W1, W2, RW, rfl, iW, xw5⟩
  have Lw5 : Ext w4 w5 := Ext.trans qXt xw5
  replace cb0 := Lw5.cell cb0
  replace cb1 := Lw5.cell cb1
  replace cc10 := Lw5.cell cc10
  replace cc11 := Lw5.cell cc11
  replace cc12 := Lw5.cell cc12
  replace bW := bW.ext Lw5
  replace iuW1 := iuW1.ext Lw5
  replace ivW1 := ivW1.ext Lw5
  have sz_w5 := Lw5.size
  try simp only [World.size_alloc, World.size_drew] at iW
  obtain ⟨Wa, Wc, rfl⟩ := iW.ints.form
  obtain ⟨Wd, Wf, rfl⟩ := iW.exps.form
  replace qa0 := xw5.cell qa0
  replace qf0 := xw5.frz zg qf0
  replace qa1 := xw5.cell qa1
  replace qf1 := xw5.frz zg qf1
  replace zg := Nat.lt_of_lt_of_le zg xw5.size
  refine hK.out _ _ ⟨cb0, cb1, cc10, cc11, cc12⟩ (fun hHeld => ?_)
  clear hK K
  try simp only [Act.put, qa, qb, qc, qD, qE, qF]
  refine qHk (v := ?_) 5 rfl (.inl ⟨by rfl, ?_⟩) ?_
  rotate_left
  ·
   (intro w hSw; (try dsimp only at hSw); go_simp; try with_reducible rfl)
  try simp only [Act.put, qa, qb, qc, qD, qE, qF]
  refine qHk (v := ?_) 6 rfl (.inl ⟨by rfl, ?_⟩) ?_
  rotate_left
  ·
   (intro w hSw; (try dsimp only at hSw); go_simp; try with_reducible rfl)
  try simp only [Act.put, qa, qb, qc, qD, qE, qF]
  refine qHk (v := ?_) 7 rfl (.inl ⟨by rfl, ?_⟩) ?_
  rotate_left
  ·
   (intro w hSw; (try dsimp only at hSw); go_simp; try with_reducible rfl)
  try simp only [Act.put, qa, qb, qc, qD, qE, qF]
  refine qHr 9 rfl (fun K hK => ?_)
  try simp only [Act.put, qa, qb, qc, qD, qE, qF]
  go_simp
  have XE : Ext w2 ((w5.setCell ⟨w4.heap.size, 0, none⟩ (.slice Wa PC.length Wc)).setCell ⟨w4.heap.size, 1, none⟩ (.slice Wd PE.length Wf)) := (Ext.setCell (Ext.setCell ((Lw3.trans Lw4).trans Lw5) hg _) hg _)
  have r0 : ((w5.setCell ⟨w4.heap.size, 0, none⟩ (.slice Wa PC.length Wc)).setCell ⟨w4.heap.size, 1, none⟩ (.slice Wd PE.length Wf)).cell? ⟨w4.heap.size, 0, none⟩ = some (.slice Wa PC.length Wc) := qCl
  have f_r0 : ((w5.setCell ⟨w4.heap.size, 0, none⟩ (.slice Wa PC.length Wc)).setCell ⟨w4.heap.size, 1, none⟩ (.slice Wd PE.length Wf)).frozen? ⟨w4.heap.size, 0, none⟩ = false := qFz
  have r1 : ((w5.setCell ⟨w4.heap.size, 0, none⟩ (.slice Wa PC.length Wc)).setCell ⟨w4.heap.size, 1, none⟩ (.slice Wd PE.length Wf)).cell? ⟨w4.heap.size, 1, none⟩ = some (.slice Wd PE.length Wf) := qCl
  have f_r1 : ((w5.setCell ⟨w4.heap.size, 0, none⟩ (.slice Wa PC.length Wc)).setCell ⟨w4.heap.size, 1, none⟩ (.slice Wd PE.length Wf)).frozen? ⟨w4.heap.size, 1, none⟩ = false := qFz
  have hg1 : w2.heap.size ≤ w4.heap.size := hg
  have KE : Chg w4.heap.size (w4.heap.size + 1) w5 ((w5.setCell ⟨w4.heap.size, 0, none⟩ (.slice Wa PC.length Wc)).setCell ⟨w4.heap.size, 1, none⟩ (.slice Wd PE.length Wf)) := (by repeat (first | (with_reducible exact Chg.refl _ _ _) | (with_reducible refine Chg.setCell ?_ qSo qSo _) | (with_reducible refine Chg.ext ?_ (Ext.alloc (Ext.refl _) _)) | (with_reducible refine Chg.ext ?_ (Ext.drew (Ext.refl _)))))
  replace cb0 := KE.cell (by omega) cb0
  replace cb1 := KE.cell (by omega) cb1
  replace cc10 := KE.cell (by omega) cc10
  replace cc11 := KE.cell (by omega) cc11
  replace cc12 := KE.cell (by omega) cc12
  clear bW
  clear iuW1
  clear ivW1
  replace iW := iW.chg KE (by omega)
  have ke_ := KE.size
  refine hK.out _ _ ⟨cb0, cb1, cc10, cc11, cc12⟩ (fun hHeld => ?_)
  clear hK K KE
  try simp only [Act.put, qa, qb, qc, qD, qE, qF]
  refine qHk (v := ?_) 10 rfl (.inl ⟨by rfl, ?_⟩) ?_
  rotate_left
  ·
   (intro w hSw; (try dsimp only at hSw); go_simp; try with_reducible rfl)
  try simp only [Act.put, qa, qb, qc, qD, qE, qF]
  refine wpAnyH_done qKr ?_ _
  clear hHeld
  generalize ((w5.setCell ⟨w4.heap.size, 0, none⟩ (.slice Wa PC.length Wc)).setCell ⟨w4.heap.size, 1, none⟩ (.slice Wd PE.length Wf)) = WE at *
  go_step
  go_step
  go_meet
  case rel => exact ⟨_, _, _, _, _, _, rfl, rfl, XE, hg1, r0, r1, iW.lower (Nat.zero_le _)⟩
  try simp only [Act.put, qa, qb, qc, qD, qE, qF]
  go_simp
  refine (pbx_eq hP.out (specExportView_c cells es _ _ b1 _ _ s1 t1 _ _ _ (bW.ints.ext qXt) (bW.exps.ext qXt) _ _ (iuW1.ext qXt) (ivW1.ext qXt))).mono ?_
  rintro e w5 ⟨W1, W2, RW, rfl, iW, xw5⟩
  have Lw5 : Ext w4 w5 := Ext.trans qXt xw5
  replace cb0 := Lw5.cell cb0
  replace cb1 := Lw5.cell cb1
  replace cc10 := Lw5.cell cc10
  replace cc11 := Lw5.cell cc11
  replace cc12 := Lw5.cell cc12
  replace bW := bW.ext Lw5
  replace iuW1 := iuW1.ext Lw5
  replace ivW1 := ivW1.ext Lw5
  have sz_w5 := Lw5.size
  try simp only [World.size_alloc, World.size_drew] at iW
  obtain ⟨Wa, Wc, rfl⟩ := iW.ints.form
  obtain ⟨Wd, Wf, rfl⟩ := iW.exps.form
  refine hK.out _ _ ⟨cb0, cb1, cc10, cc11, cc12⟩ (fun hHeld => ?_)
  clear hK K
  try simp only [Act.put, qa, qb, qc, qD, qE, qF]
  refine qHk (v := ?_) 5 rfl (.inl ⟨by rfl, ?_⟩) ?_
  rotate_left
  ·
   (intro w hSw; (try dsimp only at hSw); go_simp; try with_reducible rfl)
  try simp only [Act.put, qa, qb, qc, qD, qE, qF]
  refine qHk (v := ?_) 6 rfl (.inl ⟨by rfl, ?_⟩) ?_
  rotate_left
  ·
   (intro w hSw; (try dsimp only at hSw); go_simp; try with_reducible rfl)
  try simp only [Act.put, qa, qb, qc, qD, qE, qF]
  refine qHk (v := ?_) 7 rfl (.inl ⟨by rfl, ?_⟩) ?_
  rotate_left
  ·
   (intro w hSw; (try dsimp only at hSw); go_simp; try with_reducible rfl)
  try simp only [Act.put, qa, qb, qc, qD, qE, qF]
  refine qHr 8 rfl (fun K hK => ?_)
  try simp only [Act.put, qa, qb, qc, qD, qE, qF]
  go_simp
  refine hK.out _ _ ⟨(show Ext w5 _ from qXt).cell cb0, (show Ext w5 _ from qXt).cell cb1, (show Ext w5 _ from qXt).cell cc10, (show Ext w5 _ from qXt).cell cc11, (show Ext w5 _ from qXt).cell cc12⟩ (fun hHeld => ?_)
  clear hK K
  try simp only [Act.put, qa, qb, qc, qD, qE, qF]
  refine qHr 9 rfl (fun K hK => ?_)
  try simp only [Act.put, qa, qb, qc, qD, qE, qF]
  go_simp
  have XE : Ext w2 (w5.alloc (.cells #[.slice Wa PC.length Wc, .slice Wd PE.length Wf] 32)) := ((Lw3.trans Lw4).trans Lw5).trans qXo
  have r0 : (w5.alloc (.cells #[.slice Wa PC.length Wc, .slice Wd PE.length Wf] 32)).cell? ⟨w5.heap.size, 0, none⟩ = some (.slice Wa PC.length Wc) := qCl
  have f_r0 : (w5.alloc (.cells #[.slice Wa PC.length Wc, .slice Wd PE.length Wf] 32)).frozen? ⟨w5.heap.size, 0, none⟩ = false := qFz
  have r1 : (w5.alloc (.cells #[.slice Wa PC.length Wc, .slice Wd PE.length Wf] 32)).cell? ⟨w5.heap.size, 1, none⟩ = some (.slice Wd PE.length Wf) := qCl
  have f_r1 : (w5.alloc (.cells #[.slice Wa PC.length Wc, .slice Wd PE.length Wf] 32)).frozen? ⟨w5.heap.size, 1, none⟩ = false := qFz
  have hg1 : w2.heap.size ≤ w5.heap.size := ((Lw3.trans Lw4).trans Lw5).size
  have KE : Ext w5 (w5.alloc (.cells #[.slice Wa PC.length Wc, .slice Wd PE.length Wf] 32)) := qXo
  replace cb0 := KE.cell cb0
  replace cb1 := KE.cell cb1
  replace cc10 := KE.cell cc10
  replace cc11 := KE.cell cc11
  replace cc12 := KE.cell cc12
  clear bW
  clear iuW1
  clear ivW1
  replace iW := iW.ext KE
  have ke_ := KE.size
  refine hK.out _ _ ⟨cb0, cb1, cc10, cc11, cc12⟩ (fun hHeld => ?_)
  clear hK K KE
  try simp only [Act.put, qa, qb, qc, qD, qE, qF]
  refine qHk (v := ?_) 10 rfl (.inl ⟨by rfl, ?_⟩) ?_
  rotate_left
  ·
   (intro w hSw; (try dsimp only at hSw); go_simp; try with_reducible rfl)
  try simp only [Act.put, qa, qb, qc, qD, qE, qF]
  refine wpAnyH_done qKr ?_ _
  clear hHeld
  generalize (w5.alloc (.cells #[.slice Wa PC.length Wc, .slice Wd PE.length Wf] 32)) = WE at *
  go_step
  go_step
  go_meet
  case rel => exact ⟨_, _, _, _, _, _, rfl, rfl, XE, hg1, r0, r1, iW.lower (Nat.zero_le _)⟩
 case rest =>
  generalize wc = w6 at hcut ⊢
  obtain ⟨gW, Wa, Wc, Wd, Wf, RW, rfl, rfl, xw6, hg_r, r0, r1, iW⟩ := hcut
  have Lw6 : Ext w2 w6 := xw6
  replace cb0 := Lw6.cell cb0
  replace cb1 := Lw6.cell cb1
  replace cc10 := Lw6.cell cc10
  replace cc11 := Lw6.cell cc11
  replace cc12 := Lw6.cell cc12
  replace X := X.trans Lw6
  have z5 : w.heap.size < w6.heap.size := qB cb0
  have z6 : w.heap.size + 1 < w6.heap.size := qB cc10
  have z7 : gW < w6.heap.size := qB r0
  have sw6 : w2.heap.size ≤ w6.heap.size := Lw6.size
  clear Lw6 xw6
  have EW : Ext w6 w6 := Ext.refl _
  go_wp2_with fail
  refine (toBuffer_c cells es _ _ _ _ _ (hc.ext (X.trans qXt)) (he.ext (X.trans qXt)) (by omega) (by omega) hm.out).mono ?_
  rintro e w7 ⟨uX, vX, RX, rfl, bX, xw7⟩
  have Lw7 : Ext w6 w7 := Ext.trans qXt xw7
  replace cb0 := Lw7.cell cb0
  replace cb1 := Lw7.cell cb1
  replace cc10 := Lw7.cell cc10
  replace cc11 := Lw7.cell cc11
  replace cc12 := Lw7.cell cc12
  replace r0 := Lw7.cell r0
  replace r1 := Lw7.cell r1
  replace X := X.trans Lw7
  replace EW := EW.trans Lw7
  have z8 : w.heap.size < w7.heap.size := qB cb0
  have z9 : w.heap.size + 1 < w7.heap.size := qB cc10
  have z10 : gW < w7.heap.size := qB r0
  have sw7 : w6.heap.size ≤ w7.heap.size := Lw7.size
  clear Lw7
  clear xw7
  replace bX := bX.lower (lo' := w6.heap.size) qSo
  have lX := bX.below
  obtain ⟨Xa, Xc, rfl⟩ := bX.ints.form
  obtain ⟨Xd, Xf, rfl⟩ := bX.exps.form
  go_wp2_with fail
  refine (toView_c b1 _ _ s1 t1 _ (h1.ext (X.trans qXt)) (k1.ext (X.trans qXt)) (by omega) (by omega)).mono ?_
  rintro e w8 ⟨uX1, vX1, rfl, iuX1, ivX1, ouX1, ovX1, hdX1, xw8⟩
  have Lw8 : Ext w7 w8 := Ext.trans qXt xw8
  replace cb0 := Lw8.cell cb0
  replace cb1 := Lw8.cell cb1
  replace cc10 := Lw8.cell cc10
  replace cc11 := Lw8.cell cc11
  replace cc12 := Lw8.cell cc12
  replace r0 := Lw8.cell r0
  replace r1 := Lw8.cell r1
  have x0 : w8.cell? ⟨w7.heap.size, 0, none⟩ = some (.slice Xa cells.length Xc) := xw8.cell qCl
  have x1 : w8.cell? ⟨w7.heap.size, 1, none⟩ = some (.slice Xd es.length Xf) := xw8.cell qCl
  replace bX := bX.ext Lw8
  replace X := X.trans Lw8
  replace EW := EW.trans Lw8
  have z11 : w.heap.size < w8.heap.size := qB cb0
  have z12 : w.heap.size + 1 < w8.heap.size := qB cc10
  have z13 : gW < w8.heap.size := qB r0
  have z14 : w7.heap.size < w8.heap.size := qB x0
  have sw8 : w7.heap.size ≤ w8.heap.size := Lw8.size
  clear Lw8
  clear xw8
  replace ouX1 := ouX1.lower (base' := w7.heap.size + 1) qSo
  replace ovX1 := ovX1.lower (base' := w7.heap.size + 1) qSo
  have buX1 := ouX1.bound
  have bvX1 := ovX1.bound
  obtain ⟨Xa1, Xc1, rfl⟩ := iuX1.form
  obtain ⟨Xd1, Xf1, rfl⟩ := ivX1.form
  clear iuX1 ivX1
  go_wp2_with fail
  refine (pbx_eq hP.out (implExportView_c cells es _ _ b1 _ _ s1 t1 _ _ _ (bX.ints.ext qXt) (bX.exps.ext qXt) _ _ ((ouX1.ints (by omega)).ext qXt) ((ovX1.ints (by omega)).ext qXt))).mono ?_
  rintro e w9 ⟨G1, G2, RG, rfl, bG, xw9⟩
  have Lw9 : Ext w8 w9 := Ext.trans qXt xw9
  replace cb0 := Lw9.cell cb0
  replace cb1 := Lw9.cell cb1
  replace cc10 := Lw9.cell cc10
  replace cc11 := Lw9.cell cc11
  replace cc12 := Lw9.cell cc12
  replace r0 := Lw9.cell r0
  replace r1 := Lw9.cell r1
  replace x0 := Lw9.cell x0
  replace x1 := Lw9.cell x1
  have xv10 : w9.cell? ⟨w8.heap.size, 0, none⟩ = some (.int .i64 b1) := xw9.cell qCl
  have xv11 : w9.cell? ⟨w8.heap.size, 1, none⟩ = some (.slice Xa1 s1.length Xc1) := xw9.cell qCl
  have xv12 : w9.cell? ⟨w8.heap.size, 2, none⟩ = some (.slice Xd1 t1.length Xf1) := xw9.cell qCl
  replace bX := bX.ext Lw9
  replace ouX1 := ouX1.ext Lw9
  replace ovX1 := ovX1.ext Lw9
  replace X := X.trans Lw9
  replace EW := EW.trans Lw9
  have z15 : w.heap.size < w9.heap.size := qB cb0
  have z16 : w.heap.size + 1 < w9.heap.size := qB cc10
  have z17 : gW < w9.heap.size := qB r0
  have z18 : w7.heap.size < w9.heap.size := qB x0
  have z19 : w8.heap.size < w9.heap.size := qB xv10
  have sw9 : w8.heap.size ≤ w9.heap.size := Lw9.size
  clear Lw9
  clear xw9
  replace bG := bG.lower (lo' := w8.heap.size + 1) qSo
  have lG := bG.below
  obtain ⟨Ga, Gc, rfl⟩ := bG.ints.form
  obtain ⟨Gd, Gf, rfl⟩ := bG.exps.form
  go_wp2_with fail
  refine (eqBuffer_c PC PE _ _ _ _ _ _ _ _ _ (bG.ints.ext qXt) (bG.exps.ext qXt) ((iW.ext EW).ints.ext qXt) ((iW.ext EW).exps.ext qXt)).mono ?_
  rintro e w10 ⟨rfl, xw10⟩
  have Lw10 : Ext w9 w10 := Ext.trans qXt xw10
  replace cb0 := Lw10.cell cb0
  replace cb1 := Lw10.cell cb1
  replace cc10 := Lw10.cell cc10
  replace cc11 := Lw10.cell cc11
  replace cc12 := Lw10.cell cc12
  replace r0 := Lw10.cell r0
  replace r1 := Lw10.cell r1
  replace x0 := Lw10.cell x0
  replace x1 := Lw10.cell x1
  replace xv10 := Lw10.cell xv10
  replace xv11 := Lw10.cell xv11
  replace xv12 := Lw10.cell xv12
  have gg0 : w10.cell? ⟨w9.heap.size, 0, none⟩ = some (.slice Ga PC.length Gc) := xw10.cell qCl
  have gg1 : w10.cell? ⟨w9.heap.size, 1, none⟩ = some (.slice Gd PE.length Gf) := xw10.cell qCl
  replace bX := bX.ext Lw10
  replace ouX1 := ouX1.ext Lw10
  replace ovX1 := ovX1.ext Lw10
  replace bG := bG.ext Lw10
  replace X := X.trans Lw10
  replace EW := EW.trans Lw10
  have z20 : w.heap.size < w10.heap.size := qB cb0
  have z21 : w.heap.size + 1 < w10.heap.size := qB cc10
  have z22 : gW < w10.heap.size := qB r0
  have z23 : w7.heap.size < w10.heap.size := qB x0
  have z24 : w8.heap.size < w10.heap.size := qB xv10
  have z25 : w9.heap.size < w10.heap.size := qB gg0
  have sw10 : w9.heap.size ≤ w10.heap.size := Lw10.size
  clear Lw10
  clear xw10
  go_wp2_with fail
  go_region_held3 (fun w' => w'.cell? ⟨w.heap.size, 0, none⟩ = some (.slice ac cells.length cc) ∧ w'.cell? ⟨w.heap.size, 1, none⟩ = some (.slice ae es.length ce) ∧ w'.cell? ⟨w.heap.size + 1, 0, none⟩ = some (.int .i64 b1) ∧ w'.cell? ⟨w.heap.size + 1, 1, none⟩ = some (.slice a1 s1.length f1) ∧ w'.cell? ⟨w.heap.size + 1, 2, none⟩ = some (.slice d1 t1.length g1) ∧ w'.cell? ⟨gW, 0, none⟩ = some (.slice Wa PC.length Wc) ∧ w'.cell? ⟨gW, 1, none⟩ = some (.slice Wd PE.length Wf) ∧ w'.cell? ⟨w7.heap.size, 0, none⟩ = some (.slice Xa cells.length Xc) ∧ w'.cell? ⟨w7.heap.size, 1, none⟩ = some (.slice Xd es.length Xf) ∧ w'.cell? ⟨w8.heap.size, 0, none⟩ = some (.int .i64 b1) ∧ w'.cell? ⟨w8.heap.size, 1, none⟩ = some (.slice Xa1 s1.length Xc1) ∧ w'.cell? ⟨w8.heap.size, 2, none⟩ = some (.slice Xd1 t1.length Xf1) ∧ w'.cell? ⟨w9.heap.size, 0, none⟩ = some (.slice Ga PC.length Gc) ∧ w'.cell? ⟨w9.heap.size, 1, none⟩ = some (.slice Gd PE.length Gf))
   (first
    | go_keep
    | exact ⟨Yw12.cell cb0, Yw12.cell cb1, Yw12.cell cc10, Yw12.cell cc11, Yw12.cell cc12, Yw12.cell r0, Yw12.cell r1, Yw12.cell x0, Yw12.cell x1, Yw12.cell xv10, Yw12.cell xv11, Yw12.cell xv12, Yw12.cell gg0, Yw12.cell gg1⟩
    | exact ⟨Yw11.cell cb0, Yw11.cell cb1, Yw11.cell cc10, Yw11.cell cc11, Yw11.cell cc12, Yw11.cell r0, Yw11.cell r1, Yw11.cell x0, Yw11.cell x1, Yw11.cell xv10, Yw11.cell xv11, Yw11.cell xv12, Yw11.cell gg0, Yw11.cell gg1⟩)
   (first
    | (go_at_call 19; refine (eqBuffer_c cells es _ _ _ _ _ _ _ _ _ (bX.ints.ext (Yw11.trans qXo)) (bX.exps.ext (Yw11.trans qXo)) (bu.ints.ext qXo) (bu.exps.ext qXo)).mono ?_; rintro e w12 ⟨rfl, xw12⟩; have Yw12 : Ext w10 w12 := Yw11.trans (Ext.trans qXo xw12); replace bu := bu.ext (Ext.trans qXo xw12))
    | (go_at_call 16; refine (toBuffer_c cells es _ _ _ _ _ (hc.ext (X.trans qXo)) (he.ext (X.trans qXo)) (by omega) (by omega) hm.out).mono ?_; rintro e w11 ⟨uu, vu, Ru, rfl, bu, xw11⟩; have Yw11 : Ext w10 w11 := Ext.trans qXo xw11))
  have Lw12 : Ext w10 w12 := Yw12
  replace cb0 := Lw12.cell cb0
  replace cb1 := Lw12.cell cb1
  replace cc10 := Lw12.cell cc10
  replace cc11 := Lw12.cell cc11
  replace cc12 := Lw12.cell cc12
  replace r0 := Lw12.cell r0
  replace r1 := Lw12.cell r1
  replace x0 := Lw12.cell x0
  replace x1 := Lw12.cell x1
  replace xv10 := Lw12.cell xv10
  replace xv11 := Lw12.cell xv11
  replace xv12 := Lw12.cell xv12
  replace gg0 := Lw12.cell gg0
  replace gg1 := Lw12.cell gg1
  replace bX := bX.ext Lw12
  replace ouX1 := ouX1.ext Lw12
  replace ovX1 := ovX1.ext Lw12
  replace bG := bG.ext Lw12
  replace X := X.trans Lw12
  replace EW := EW.trans Lw12
  have z26 : w.heap.size < w12.heap.size := qB cb0
  have z27 : w.heap.size + 1 < w12.heap.size := qB cc10
  have z28 : gW < w12.heap.size := qB r0
  have z29 : w7.heap.size < w12.heap.size := qB x0
  have z30 : w8.heap.size < w12.heap.size := qB xv10
  have z31 : w9.heap.size < w12.heap.size := qB gg0
  have sw12 : w10.heap.size ≤ w12.heap.size := Lw12.size
  clear bu
  go_wp2_with fail
  go_region_held3 (fun w' => w'.cell? ⟨w.heap.size, 0, none⟩ = some (.slice ac cells.length cc) ∧ w'.cell? ⟨w.heap.size, 1, none⟩ = some (.slice ae es.length ce) ∧ w'.cell? ⟨w.heap.size + 1, 0, none⟩ = some (.int .i64 b1) ∧ w'.cell? ⟨w.heap.size + 1, 1, none⟩ = some (.slice a1 s1.length f1) ∧ w'.cell? ⟨w.heap.size + 1, 2, none⟩ = some (.slice d1 t1.length g1) ∧ w'.cell? ⟨gW, 0, none⟩ = some (.slice Wa PC.length Wc) ∧ w'.cell? ⟨gW, 1, none⟩ = some (.slice Wd PE.length Wf) ∧ w'.cell? ⟨w7.heap.size, 0, none⟩ = some (.slice Xa cells.length Xc) ∧ w'.cell? ⟨w7.heap.size, 1, none⟩ = some (.slice Xd es.length Xf) ∧ w'.cell? ⟨w8.heap.size, 0, none⟩ = some (.int .i64 b1) ∧ w'.cell? ⟨w8.heap.size, 1, none⟩ = some (.slice Xa1 s1.length Xc1) ∧ w'.cell? ⟨w8.heap.size, 2, none⟩ = some (.slice Xd1 t1.length Xf1) ∧ w'.cell? ⟨w9.heap.size, 0, none⟩ = some (.slice Ga PC.length Gc) ∧ w'.cell? ⟨w9.heap.size, 1, none⟩ = some (.slice Gd PE.length Gf))
   (first
    | go_keep
    | exact ⟨Yw14.cell cb0, Yw14.cell cb1, Yw14.cell cc10, Yw14.cell cc11, Yw14.cell cc12, Yw14.cell r0, Yw14.cell r1, Yw14.cell x0, Yw14.cell x1, Yw14.cell xv10, Yw14.cell xv11, Yw14.cell xv12, Yw14.cell gg0, Yw14.cell gg1⟩
    | exact ⟨Yw13.cell cb0, Yw13.cell cb1, Yw13.cell cc10, Yw13.cell cc11, Yw13.cell cc12, Yw13.cell r0, Yw13.cell r1, Yw13.cell x0, Yw13.cell x1, Yw13.cell xv10, Yw13.cell xv11, Yw13.cell xv12, Yw13.cell gg0, Yw13.cell gg1⟩)
   (first
    | (go_at_call 20; refine (eqView_c b1 _ _ _ _ s1 t1 _ _ _ _ _ ((ouX1.ints (by omega)).ext (Yw13.trans qXo)) ((ovX1.ints (by omega)).ext (Yw13.trans qXo)) (iu.ext qXo) (iv.ext qXo)).mono ?_; rintro e w14 ⟨rfl, xw14⟩; have Yw14 : Ext w12 w14 := Yw13.trans (Ext.trans qXo xw14); replace iu := iu.ext (Ext.trans qXo xw14); replace iv := iv.ext (Ext.trans qXo xw14))
    | (go_at_call 17; refine (toView_c b1 _ _ s1 t1 _ (h1.ext (X.trans qXo)) (k1.ext (X.trans qXo)) (by omega) (by omega)).mono ?_; rintro e w13 ⟨u, v, rfl, iu, iv, _, _, _, xw13⟩; have Yw13 : Ext w12 w13 := Ext.trans qXo xw13))
  have Lw14 : Ext w12 w14 := Yw14
  replace cb0 := Lw14.cell cb0
  replace cb1 := Lw14.cell cb1
  replace cc10 := Lw14.cell cc10
  replace cc11 := Lw14.cell cc11
  replace cc12 := Lw14.cell cc12
  replace r0 := Lw14.cell r0
  replace r1 := Lw14.cell r1
  replace x0 := Lw14.cell x0
  replace x1 := Lw14.cell x1
  replace xv10 := Lw14.cell xv10
  replace xv11 := Lw14.cell xv11
  replace xv12 := Lw14.cell xv12
  replace gg0 := Lw14.cell gg0
  replace gg1 := Lw14.cell gg1
  replace bX := bX.ext Lw14
  replace ouX1 := ouX1.ext Lw14
  replace ovX1 := ovX1.ext Lw14
  replace bG := bG.ext Lw14
  replace X := X.trans Lw14
  replace EW := EW.trans Lw14
  have z32 : w.heap.size < w14.heap.size := qB cb0
  have z33 : w.heap.size + 1 < w14.heap.size := qB cc10
  have z34 : gW < w14.heap.size := qB r0
  have z35 : w7.heap.size < w14.heap.size := qB x0
  have z36 : w8.heap.size < w14.heap.size := qB xv10
  have z37 : w9.heap.size < w14.heap.size := qB gg0
  have sw14 : w12.heap.size ≤ w14.heap.size := Lw14.size
  clear iu iv
  go_wp2_with fail
  refine (markBuffer_c cells es _ 1 _ _ _ (w6.heap.size) (w7.heap.size) (bX.ext qXt) lX (Nat.le_trans (by omega) (Ext.size (show Ext w14 _ from qXt))) (by omega) (by rw [hK1.out]; omega)).mono ?_
  rintro e w15 ⟨rfl, -, kw15⟩
  have Kw15 : Chg (w6.heap.size) (w7.heap.size) w14 w15 := (Chg.of_ext qXt).trans kw15
  have sw15 : w14.heap.size ≤ w15.heap.size := Kw15.size
  replace X := Ext.chg X Kw15 (by omega)
  replace EW := Ext.chg EW Kw15 (by omega)
  replace cb0 := Kw15.cell (by first | (left; omega) | (right; omega) | omega) cb0
  replace cb1 := Kw15.cell (by first | (left; omega) | (right; omega) | omega) cb1
  replace cc10 := Kw15.cell (by first | (left; omega) | (right; omega) | omega) cc10
  replace cc11 := Kw15.cell (by first | (left; omega) | (right; omega) | omega) cc11
  replace cc12 := Kw15.cell (by first | (left; omega) | (right; omega) | omega) cc12
  replace r0 := Kw15.cell (by first | (left; omega) | (right; omega) | omega) r0
  replace r1 := Kw15.cell (by first | (left; omega) | (right; omega) | omega) r1
  replace x0 := Kw15.cell (by first | (left; omega) | (right; omega) | omega) x0
  replace x1 := Kw15.cell (by first | (left; omega) | (right; omega) | omega) x1
  replace xv10 := Kw15.cell (by first | (left; omega) | (right; omega) | omega) xv10
  replace xv11 := Kw15.cell (by first | (left; omega) | (right; omega) | omega) xv11
  replace xv12 := Kw15.cell (by first | (left; omega) | (right; omega) | omega) xv12
  replace gg0 := Kw15.cell (by first | (left; omega) | (right; omega) | omega) gg0
  replace gg1 := Kw15.cell (by first | (left; omega) | (right; omega) | omega) gg1
  replace ouX1 := ouX1.chg Kw15 (by omega)
  replace ovX1 := ovX1.chg Kw15 (by omega)
  replace bG := bG.chg Kw15 (by omega)
  have z38 : w.heap.size < w15.heap.size := qB cb0
  have z39 : w.heap.size + 1 < w15.heap.size := qB cc10
  have z40 : gW < w15.heap.size := qB r0
  have z41 : w7.heap.size < w15.heap.size := qB x0
  have z42 : w8.heap.size < w15.heap.size := qB xv10
  have z43 : w9.heap.size < w15.heap.size := qB gg0
  clear Kw15 kw15
  clear bX
  rw [hK1.out]
  go_wp2_with fail
  refine (markView_c b1 _ _ s1 t1 K1 _ (w7.heap.size + 1) (w8.heap.size) (ouX1.ext qXt) (ovX1.ext qXt) hdX1 buX1 bvX1 (Nat.le_trans (by omega) (Ext.size (show Ext w15 _ from qXt))) (by omega) (by omega) (by omega) (by omega)).mono ?_
  rintro e w16 ⟨rfl, -, -, kw16⟩
  have Kw16 : Chg (w7.heap.size + 1) (w8.heap.size) w15 w16 := (Chg.of_ext qXt).trans kw16
  have sw16 : w15.heap.size ≤ w16.heap.size := Kw16.size
  replace X := Ext.chg X Kw16 (by omega)
  replace EW := Ext.chg EW Kw16 (by omega)
  replace cb0 := Kw16.cell (by first | (left; omega) | (right; omega) | omega) cb0
  replace cb1 := Kw16.cell (by first | (left; omega) | (right; omega) | omega) cb1
  replace cc10 := Kw16.cell (by first | (left; omega) | (right; omega) | omega) cc10
  replace cc11 := Kw16.cell (by first | (left; omega) | (right; omega) | omega) cc11
  replace cc12 := Kw16.cell (by first | (left; omega) | (right; omega) | omega) cc12
  replace r0 := Kw16.cell (by first | (left; omega) | (right; omega) | omega) r0
  replace r1 := Kw16.cell (by first | (left; omega) | (right; omega) | omega) r1
  replace x0 := Kw16.cell (by first | (left; omega) | (right; omega) | omega) x0
  replace x1 := Kw16.cell (by first | (left; omega) | (right; omega) | omega) x1
  replace xv10 := Kw16.cell (by first | (left; omega) | (right; omega) | omega) xv10
  replace xv11 := Kw16.cell (by first | (left; omega) | (right; omega) | omega) xv11
  replace xv12 := Kw16.cell (by first | (left; omega) | (right; omega) | omega) xv12
  replace gg0 := Kw16.cell (by first | (left; omega) | (right; omega) | omega) gg0
  replace gg1 := Kw16.cell (by first | (left; omega) | (right; omega) | omega) gg1
  replace bG := bG.chg Kw16 (by omega)
  have z44 : w.heap.size < w16.heap.size := qB cb0
  have z45 : w.heap.size + 1 < w16.heap.size := qB cc10
  have z46 : gW < w16.heap.size := qB r0
  have z47 : w7.heap.size < w16.heap.size := qB x0
  have z48 : w8.heap.size < w16.heap.size := qB xv10
  have z49 : w9.heap.size < w16.heap.size := qB gg0
  clear Kw16 kw16
  clear ouX1 ovX1
  go_wp2_with fail
  refine (eqBuffer_c PC PE _ _ _ _ _ _ _ _ _ (bG.ints.ext qXt) (bG.exps.ext qXt) ((iW.ext EW).ints.ext qXt) ((iW.ext EW).exps.ext qXt)).mono ?_
  rintro e w17 ⟨rfl, xw17⟩
  have Lw17 : Ext w16 w17 := Ext.trans qXt xw17
  replace cb0 := Lw17.cell cb0
  replace cb1 := Lw17.cell cb1
  replace cc10 := Lw17.cell cc10
  replace cc11 := Lw17.cell cc11
  replace cc12 := Lw17.cell cc12
  replace r0 := Lw17.cell r0
  replace r1 := Lw17.cell r1
  replace x0 := Lw17.cell x0
  replace x1 := Lw17.cell x1
  replace xv10 := Lw17.cell xv10
  replace xv11 := Lw17.cell xv11
  replace xv12 := Lw17.cell xv12
  replace gg0 := Lw17.cell gg0
  replace gg1 := Lw17.cell gg1
  replace bG := bG.ext Lw17
  replace X := X.trans Lw17
  replace EW := EW.trans Lw17
  have z50 : w.heap.size < w17.heap.size := qB cb0
  have z51 : w.heap.size + 1 < w17.heap.size := qB cc10
  have z52 : gW < w17.heap.size := qB r0
  have z53 : w7.heap.size < w17.heap.size := qB x0
  have z54 : w8.heap.size < w17.heap.size := qB xv10
  have z55 : w9.heap.size < w17.heap.size := qB gg0
  have sw17 : w16.heap.size ≤ w17.heap.size := Lw17.size
  clear Lw17
  clear xw17
  go_wp2_with fail
  refine (markBuffer_c PC PE _ 1 _ _ _ (w8.heap.size + 1) (w9.heap.size) (bG.ext qXt) lG (Nat.le_trans (by omega) (Ext.size (show Ext w17 _ from qXt))) (by omega) (by rw [hK2.out]; omega)).mono ?_
  rintro e w18 ⟨rfl, bH, kw18⟩
  have Kw18 : Chg (w8.heap.size + 1) (w9.heap.size) w17 w18 := (Chg.of_ext qXt).trans kw18
  have sw18 : w17.heap.size ≤ w18.heap.size := Kw18.size
  replace X := Ext.chg X Kw18 (by omega)
  replace EW := Ext.chg EW Kw18 (by omega)
  replace cb0 := Kw18.cell (by first | (left; omega) | (right; omega) | omega) cb0
  replace cb1 := Kw18.cell (by first | (left; omega) | (right; omega) | omega) cb1
  replace cc10 := Kw18.cell (by first | (left; omega) | (right; omega) | omega) cc10
  replace cc11 := Kw18.cell (by first | (left; omega) | (right; omega) | omega) cc11
  replace cc12 := Kw18.cell (by first | (left; omega) | (right; omega) | omega) cc12
  replace r0 := Kw18.cell (by first | (left; omega) | (right; omega) | omega) r0
  replace r1 := Kw18.cell (by first | (left; omega) | (right; omega) | omega) r1
  replace x0 := Kw18.cell (by first | (left; omega) | (right; omega) | omega) x0
  replace x1 := Kw18.cell (by first | (left; omega) | (right; omega) | omega) x1
  replace xv10 := Kw18.cell (by first | (left; omega) | (right; omega) | omega) xv10
  replace xv11 := Kw18.cell (by first | (left; omega) | (right; omega) | omega) xv11
  replace xv12 := Kw18.cell (by first | (left; omega) | (right; omega) | omega) xv12
  replace gg0 := Kw18.cell (by first | (left; omega) | (right; omega) | omega) gg0
  replace gg1 := Kw18.cell (by first | (left; omega) | (right; omega) | omega) gg1
  have z56 : w.heap.size < w18.heap.size := qB cb0
  have z57 : w.heap.size + 1 < w18.heap.size := qB cc10
  have z58 : gW < w18.heap.size := qB r0
  have z59 : w7.heap.size < w18.heap.size := qB x0
  have z60 : w8.heap.size < w18.heap.size := qB xv10
  have z61 : w9.heap.size < w18.heap.size := qB gg0
  clear Kw18 kw18
  clear bG
  rw [hK2.out]
  go_wp2_with fail
  refine (heldBuffer_c PC.length PE 1 _ _ _ _ _ (bH.ints.ext qXt) (bH.exps.ext qXt) (fun i hi => by have := hSr.out i hi; omega) (by omega) (by rw [hK2.out]; omega)).mono ?_
  rintro e w19 ⟨rfl, xw19⟩
  have Lw19 : Ext w18 w19 := Ext.trans qXt xw19
  replace cb0 := Lw19.cell cb0
  replace cb1 := Lw19.cell cb1
  replace cc10 := Lw19.cell cc10
  replace cc11 := Lw19.cell cc11
  replace cc12 := Lw19.cell cc12
  replace r0 := Lw19.cell r0
  replace r1 := Lw19.cell r1
  replace x0 := Lw19.cell x0
  replace x1 := Lw19.cell x1
  replace xv10 := Lw19.cell xv10
  replace xv11 := Lw19.cell xv11
  replace xv12 := Lw19.cell xv12
  replace gg0 := Lw19.cell gg0
  replace gg1 := Lw19.cell gg1
  replace bH := bH.ext Lw19
  replace X := X.trans Lw19
  replace EW := EW.trans Lw19
  have z62 : w.heap.size < w19.heap.size := qB cb0
  have z63 : w.heap.size + 1 < w19.heap.size := qB cc10
  have z64 : gW < w19.heap.size := qB r0
  have z65 : w7.heap.size < w19.heap.size := qB x0
  have z66 : w8.heap.size < w19.heap.size := qB xv10
  have z67 : w9.heap.size < w19.heap.size := qB gg0
  have sw19 : w18.heap.size ≤ w19.heap.size := Lw19.size
  clear Lw19
  clear xw19
  rw [hK2.out]
  go_wp2_with fail
  go_cut [15, 16] (fun s0 s1 wx => ∃ (gZ : Nat) (Ha : Option Addr) (Hc : Nat) (Hd : Option Addr) (Hf : Nat) (RH : Nat → Value), s0 = .pointer (some ⟨gZ, 0, none⟩) ∧ s1 = .bool false ∧ Ext w19 wx ∧ w19.heap.size ≤ gZ ∧ wx.cell? ⟨gZ, 0, none⟩ = some (.slice Ha PC.length Hc) ∧ wx.cell? ⟨gZ, 1, none⟩ = some (.slice Hd PE.length Hf) ∧ BufR wx 0 (.slice Ha PC.length Hc) (.slice Hd PE.length Hf) PC PE RH)
  case first =>
   refine wp_region_held_drew (S := fun w' => w'.cell? ⟨w.heap.size, 0, none⟩ = some (.slice ac cells.length cc) ∧ w'.cell? ⟨w.heap.size, 1, none⟩ = some (.slice ae es.length ce) ∧ w'.cell? ⟨w.heap.size + 1, 0, none⟩ = some (.int .i64 b1) ∧ w'.cell? ⟨w.heap.size + 1, 1, none⟩ = some (.slice a1 s1.length f1) ∧ w'.cell? ⟨w.heap.size + 1, 2, none⟩ = some (.slice d1 t1.length g1) ∧ w'.cell? ⟨gW, 0, none⟩ = some (.slice Wa PC.length Wc) ∧ w'.cell? ⟨gW, 1, none⟩ = some (.slice Wd PE.length Wf) ∧ w'.cell? ⟨w7.heap.size, 0, none⟩ = some (.slice Xa cells.length Xc) ∧ w'.cell? ⟨w7.heap.size, 1, none⟩ = some (.slice Xd es.length Xf) ∧ w'.cell? ⟨w8.heap.size, 0, none⟩ = some (.int .i64 b1) ∧ w'.cell? ⟨w8.heap.size, 1, none⟩ = some (.slice Xa1 s1.length Xc1) ∧ w'.cell? ⟨w8.heap.size, 2, none⟩ = some (.slice Xd1 t1.length Xf1) ∧ w'.cell? ⟨w9.heap.size, 0, none⟩ = some (.slice Ga PC.length Gc) ∧ w'.cell? ⟨w9.heap.size, 1, none⟩ = some (.slice Gd PE.length Gf)) qKr ⟨cb0, cb1, cc10, cc11, cc12, r0, r1, x0, x1, xv10, xv11, xv12, gg0, gg1⟩ (fun hHeld => ?_)
   refine qHk (v := ?_) 0 rfl (.inl ⟨by rfl, ?_⟩) ?_
   rotate_left
   ·
    (intro w hSw; (try dsimp only at hSw); go_simp; try with_reducible rfl)
   try simp only [Act.put, qa, qb, qc, qD, qE, qF]
   refine qHk (v := ?_) 2 rfl (.inl ⟨by rfl, ?_⟩) ?_
   rotate_left
   ·
    (intro w hSw; (try dsimp only at hSw); go_simp; try with_reducible rfl)
   try simp only [Act.put, qa, qb, qc, qD, qE, qF]
   refine wpAnyH_ready (rs := [1, 8]) qKr (by simp) ?_
   refine AllReadyH.cons rfl (fun K hK => ?_) (AllReadyH.cons rfl (fun K hK => ?_) AllReadyH.nil)
   rotate_left
   try simp only [Act.put, qa, qb, qc, qD, qE, qF]
   go_simp
   refine hK.out _ _ ⟨(show Ext w19 _ from qXt).cell cb0, (show Ext w19 _ from qXt).cell cb1, (show Ext w19 _ from qXt).cell cc10, (show Ext w19 _ from qXt).cell cc11, (show Ext w19 _ from qXt).cell cc12, (show Ext w19 _ from qXt).cell r0, (show Ext w19 _ from qXt).cell r1, (show Ext w19 _ from qXt).cell x0, (show Ext w19 _ from qXt).cell x1, (show Ext w19 _ from qXt).cell xv10, (show Ext w19 _ from qXt).cell xv11, (show Ext w19 _ from qXt).cell xv12, (show Ext w19 _ from qXt).cell gg0, (show Ext w19 _ from qXt).cell gg1⟩ (fun hHeld => ?_)
   clear hK K
   try simp only [Act.put, qa, qb, qc, qD, qE, qF]
   have qa0 : (w19.drew.alloc (.cells #[.slice none 0 0, .slice none 0 0] 32)).cell? ⟨w19.heap.size, 0, none⟩ = some (.slice none 0 0) := qCl
   have qf0 : (w19.drew.alloc (.cells #[.slice none 0 0, .slice none 0 0] 32)).frozen? ⟨w19.heap.size, 0, none⟩ = false := qFz
   have qa1 : (w19.drew.alloc (.cells #[.slice none 0 0, .slice none 0 0] 32)).cell? ⟨w19.heap.size, 1, none⟩ = some (.slice none 0 0) := qCl
   have qf1 : (w19.drew.alloc (.cells #[.slice none 0 0, .slice none 0 0] 32)).frozen? ⟨w19.heap.size, 1, none⟩ = false := qFz
   have zg : w19.heap.size < (w19.drew.alloc (.cells #[.slice none 0 0, .slice none 0 0] 32)).heap.size := qB qa0
   have hg : w19.heap.size ≤ w19.heap.size := Nat.le_refl _
   refine qHr 1 rfl (fun K hK => ?_)
   have zp := zg
   try simp only [Act.put, qa, qb, qc, qD, qE, qF]
   go_simp
   refine (toBuffer_c cells es _ _ _ _ _ (hc.ext (X.trans qXt)) (he.ext (X.trans qXt)) (by omega) (by omega) hm.out).mono ?_
   rintro e w20 ⟨uZ, vZ, RZ, rfl, bZ, xw20⟩
   have Lw20 : Ext w19 w20 := Ext.trans qXt xw20
   replace cb0 := Lw20.cell cb0
   replace cb1 := Lw20.cell cb1
   replace cc10 := Lw20.cell cc10
   replace cc11 := Lw20.cell cc11
   replace cc12 := Lw20.cell cc12
   replace r0 := Lw20.cell r0
   replace r1 := Lw20.cell r1
   replace x0 := Lw20.cell x0
   replace x1 := Lw20.cell x1
   replace xv10 := Lw20.cell xv10
   replace xv11 := Lw20.cell xv11
   replace xv12 := Lw20.cell xv12
   replace gg0 := Lw20.cell gg0
   replace gg1 := Lw20.cell gg1
   have sz_w20 := Lw20.size
   replace qa0 := xw20.cell qa0
   replace qf0 := xw20.frz zg qf0
   replace qa1 := xw20.cell qa1
   replace qf1 := xw20.frz zg qf1
   replace zg := Nat.lt_of_lt_of_le zg xw20.size
   refine hK.out _ _ ⟨cb0, cb1, cc10, cc11, cc12, r0, r1, x0, x1, xv10, xv11, xv12, gg0, gg1⟩ (fun hHeld => ?_)
   clear hK K
   try simp only [Act.put, qa, qb, qc, qD, qE, qF]
   refine qHr 3 rfl (fun K hK => ?_)
   have zp := zg
   try simp only [Act.put, qa, qb, qc, qD, qE, qF]
   go_simp
   refine (toView_c b1 _ _ s1 t1 _ (h1.ext (X.trans (Lw20.trans qXt))) (k1.ext (X.trans (Lw20.trans qXt))) (by omega) (by omega)).mono ?_
   rintro e w21 ⟨uZ1, vZ1, rfl, iuZ1, ivZ1, -, -, -, xw21⟩
   have Lw21 : Ext w20 w21 := Ext.trans qXt xw21
   replace cb0 := Lw21.cell cb0
   replace cb1 := Lw21.cell cb1
   replace cc10 := Lw21.cell cc10
   replace cc11 := Lw21.cell cc11
   replace cc12 := Lw21.cell cc12
   replace r0 := Lw21.cell r0
   replace r1 := Lw21.cell r1
   replace x0 := Lw21.cell x0
   replace x1 := Lw21.cell x1
   replace xv10 := Lw21.cell xv10
   replace xv11 := Lw21.cell xv11
   replace xv12 := Lw21.cell xv12
   replace gg0 := Lw21.cell gg0
   replace gg1 := Lw21.cell gg1
   replace bZ := bZ.ext Lw21
   have sz_w21 := Lw21.size
   replace qa0 := xw21.cell qa0
   replace qf0 := xw21.frz zg qf0
   replace qa1 := xw21.cell qa1
   replace qf1 := xw21.frz zg qf1
   replace zg := Nat.lt_of_lt_of_le zg xw21.size
   refine hK.out _ _ ⟨cb0, cb1, cc10, cc11, cc12, r0, r1, x0, x1, xv10, xv11, xv12, gg0, gg1⟩ (fun hHeld => ?_)
   clear hK K
   try simp only [Act.put, qa, qb, qc, qD, qE, qF]
   refine qHr 4 rfl (fun K hK => ?_)
   have zp := zg
   try simp only [Act.put, qa, qb, qc, qD, qE, qF]
   go_simp
   refine (pbx_eq hP.out (implExportView_c cells es _ _ b1 _ _ s1 t1 _ _ _ (bZ.ints.ext qXt) (bZ.exps.ext qXt) _ _ (iuZ1.ext qXt) (ivZ1.ext qXt))).mono ?_
   rintro e w22 ⟨H1, H2, RH, rfl, iH, xw22⟩
   have Lw22 : Ext w21 w22 := Ext.trans qXt xw22
   replace cb0 := Lw22.cell cb0
   replace cb1 := Lw22.cell cb1
   replace cc10 := Lw22.cell cc10
   replace cc11 := Lw22.cell cc11
   replace cc12 := Lw22.cell cc12
   replace r0 := Lw22.cell r0
   replace r1 := Lw22.cell r1
   replace x0 := Lw22.cell x0
   replace x1 := Lw22.cell x1
   replace xv10 := Lw22.cell xv10
   replace xv11 := Lw22.cell xv11
   replace xv12 := Lw22.cell xv12
   replace gg0 := Lw22.cell gg0
   replace gg1 := Lw22.cell gg1
   replace bZ := bZ.ext Lw22
   replace iuZ1 := iuZ1.ext Lw22
   replace ivZ1 := ivZ1.ext Lw22
   have sz_w22 := Lw22.size
   try simp only [World.size_alloc, World.size_drew] at iH
   obtain ⟨Ha, Hc, rfl⟩ := iH.ints.form
   obtain ⟨Hd, Hf, rfl⟩ := iH.exps.form
   replace qa0 := xw22.cell qa0
   replace qf0 := xw22.frz zg qf0
   replace qa1 := xw22.cell qa1
   replace qf1 := xw22.frz zg qf1
   replace zg := Nat.lt_of_lt_of_le zg xw22.size
   refine hK.out _ _ ⟨cb0, cb1, cc10, cc11, cc12, r0, r1, x0, x1, xv10, xv11, xv12, gg0, gg1⟩ (fun hHeld => ?_)
   clear hK K
   try simp only [Act.put, qa, qb, qc, qD, qE, qF]
   refine qHk (v := ?_) 5 rfl (.inl ⟨by rfl, ?_⟩) ?_
   rotate_left
   ·
    (intro w hSw; (try dsimp only at hSw); go_simp; try with_reducible rfl)
   try simp only [Act.put, qa, qb, qc, qD, qE, qF]
   refine qHk (v := ?_) 6 rfl (.inl ⟨by rfl, ?_⟩) ?_
   rotate_left
   ·
    (intro w hSw; (try dsimp only at hSw); go_simp; try with_reducible rfl)
   try simp only [Act.put, qa, qb, qc, qD, qE, qF]
   refine qHk (v := ?_) 7 rfl (.inl ⟨by rfl, ?_⟩) ?_
   rotate_left
   ·
    (intro w hSw; (try dsimp only at hSw); go_simp; try with_reducible rfl)
   try simp only [Act.put, qa, qb, qc, qD, qE, qF]
   refine qHr 9 rfl (fun K hK => ?_)
   try simp only [Act.put, qa, qb, qc, qD, qE, qF]
   go_simp
   have XE : Ext w19 ((w22.setCell ⟨w19.heap.size, 0, none⟩ (.slice Ha PC.length Hc)).setCell ⟨w19.heap.size, 1, none⟩ (.slice Hd PE.length Hf)) := (Ext.setCell (Ext.setCell ((Lw20.trans Lw21).trans Lw22) hg _) hg _)
   have y0 : ((w22.setCell ⟨w19.heap.size, 0, none⟩ (.slice Ha PC.length Hc)).setCell ⟨w19.heap.size, 1, none⟩ (.slice Hd PE.length Hf)).cell? ⟨w19.heap.size, 0, none⟩ = some (.slice Ha PC.length Hc) := qCl
   have f_y0 : ((w22.setCell ⟨w19.heap.size, 0, none⟩ (.slice Ha PC.length Hc)).setCell ⟨w19.heap.size, 1, none⟩ (.slice Hd PE.length Hf)).frozen? ⟨w19.heap.size, 0, none⟩ = false := qFz
   have y1 : ((w22.setCell ⟨w19.heap.size, 0, none⟩ (.slice Ha PC.length Hc)).setCell ⟨w19.heap.size, 1, none⟩ (.slice Hd PE.length Hf)).cell? ⟨w19.heap.size, 1, none⟩ = some (.slice Hd PE.length Hf) := qCl
   have f_y1 : ((w22.setCell ⟨w19.heap.size, 0, none⟩ (.slice Ha PC.length Hc)).setCell ⟨w19.heap.size, 1, none⟩ (.slice Hd PE.length Hf)).frozen? ⟨w19.heap.size, 1, none⟩ = false := qFz
   have hg1 : w19.heap.size ≤ w19.heap.size := hg
   have KE : Chg w19.heap.size (w19.heap.size + 1) w22 ((w22.setCell ⟨w19.heap.size, 0, none⟩ (.slice Ha PC.length Hc)).setCell ⟨w19.heap.size, 1, none⟩ (.slice Hd PE.length Hf)) := (by repeat (first | (with_reducible exact Chg.refl _ _ _) | (with_reducible refine Chg.setCell ?_ qSo qSo _) | (with_reducible refine Chg.ext ?_ (Ext.alloc (Ext.refl _) _)) | (with_reducible refine Chg.ext ?_ (Ext.drew (Ext.refl _)))))
   replace cb0 := KE.cell (by omega) cb0
   replace cb1 := KE.cell (by omega) cb1
   replace cc10 := KE.cell (by omega) cc10
   replace cc11 := KE.cell (by omega) cc11
   replace cc12 := KE.cell (by omega) cc12
   replace r0 := KE.cell (by omega) r0
   replace r1 := KE.cell (by omega) r1
   replace x0 := KE.cell (by omega) x0
   replace x1 := KE.cell (by omega) x1
   replace xv10 := KE.cell (by omega) xv10
   replace xv11 := KE.cell (by omega) xv11
   replace xv12 := KE.cell (by omega) xv12
   replace gg0 := KE.cell (by omega) gg0
   replace gg1 := KE.cell (by omega) gg1
   clear bZ
   clear iuZ1
   clear ivZ1
   replace iH := iH.chg KE (by omega)
   have ke_ := KE.size
   refine hK.out _ _ ⟨cb0, cb1, cc10, cc11, cc12, r0, r1, x0, x1, xv10, xv11, xv12, gg0, gg1⟩ (fun hHeld => ?_)
   clear hK K KE
   try simp only [Act.put, qa, qb, qc, qD, qE, qF]
   refine qHk (v := ?_) 10 rfl (.inl ⟨by rfl, ?_⟩) ?_
   rotate_left
   ·
    (intro w hSw; (try dsimp only at hSw); go_simp; try with_reducible rfl)
   try simp only [Act.put, qa, qb, qc, qD, qE, qF]
   refine wpAnyH_done qKr ?_ _
   clear hHeld
   generalize ((w22.setCell ⟨w19.heap.size, 0, none⟩ (.slice Ha PC.length Hc)).setCell ⟨w19.heap.size, 1, none⟩ (.slice Hd PE.length Hf)) = WE at *
   go_step
   go_step
   go_meet
   case rel => exact ⟨_, _, _, _, _, _, rfl, rfl, XE, hg1, y0, y1, iH.lower (Nat.zero_le _)⟩
   try simp only [Act.put, qa, qb, qc, qD, qE, qF]
   go_simp
   refine (toBuffer_c cells es _ _ _ _ _ (hc.ext (X.trans qXt)) (he.ext (X.trans qXt)) (by omega) (by omega) hm.out).mono ?_
   rintro e w20 ⟨uZ, vZ, RZ, rfl, bZ, xw20⟩
   have Lw20 : Ext w19 w20 := Ext.trans qXt xw20
   replace cb0 := Lw20.cell cb0
   replace cb1 := Lw20.cell cb1
   replace cc10 := Lw20.cell cc10
   replace cc11 := Lw20.cell cc11
   replace cc12 := Lw20.cell cc12
   replace r0 := Lw20.cell r0
   replace r1 := Lw20.cell r1
   replace x0 := Lw20.cell x0
   replace x1 := Lw20.cell x1
   replace xv10 := Lw20.cell xv10
   replace xv11 := Lw20.cell xv11
   replace xv12 := Lw20.cell xv12
   replace gg0 := Lw20.cell gg0
   replace gg1 := Lw20.cell gg1
   have sz_w20 := Lw20.size
   refine hK.out _ _ ⟨cb0, cb1, cc10, cc11, cc12, r0, r1, x0, x1, xv10, xv11, xv12, gg0, gg1⟩ (fun hHeld => ?_)
   clear hK K
   try simp only [Act.put, qa, qb, qc, qD, qE, qF]
   refine wpAnyH_ready (rs := [3, 8]) qKr (by simp) ?_
   refine AllReadyH.cons rfl (fun K hK => ?_) (AllReadyH.cons rfl (fun K hK => ?_) AllReadyH.nil)
   rotate_left
   try simp only [Act.put, qa, qb, qc, qD, qE, qF]
   go_simp
   refine hK.out _ _ ⟨(show Ext w20 _ from qXt).cell cb0, (show Ext w20 _ from qXt).cell cb1, (show Ext w20 _ from qXt).cell cc10, (show Ext w20 _ from qXt).cell cc11, (show Ext w20 _ from qXt).cell cc12, (show Ext w20 _ from qXt).cell r0, (show Ext w20 _ from qXt).cell r1, (show Ext w20 _ from qXt).cell x0, (show Ext w20 _ from qXt).cell x1, (show Ext w20 _ from qXt).cell xv10, (show Ext w20 _ from qXt).cell xv11, (show Ext w20 _ from qXt).cell xv12, (show Ext w20 _ from qXt).cell gg0, (show Ext w20 _ from qXt).cell gg1⟩ (fun hHeld => ?_)
   clear hK K
   try simp only [Act.put, qa, qb, qc, qD, qE, qF]
   have qa0 : (w20.alloc (.cells #[.slice none 0 0, .slice none 0 0] 32)).cell? ⟨w20.heap.size, 0, none⟩ = some (.slice none 0 0) := qCl
   have qf0 : (w20.alloc (.cells #[.slice none 0 0, .slice none 0 0] 32)).frozen? ⟨w20.heap.size, 0, none⟩ = false := qFz
   have qa1 : (w20.alloc (.cells #[.slice none 0 0, .slice none 0 0] 32)).cell? ⟨w20.heap.size, 1, none⟩ = some (.slice none 0 0) := qCl
   have qf1 : (w20.alloc (.cells #[.slice none 0 0, .slice none 0 0] 32)).frozen? ⟨w20.heap.size, 1, none⟩ = false := qFz
   have zg : w20.heap.size < (w20.alloc (.cells #[.slice none 0 0, .slice none 0 0] 32)).heap.size := qB qa0
   have hg : w19.heap.size ≤ w20.heap.size := (Lw20).size
   refine qHr 3 rfl (fun K hK => ?_)
   have zp := zg
   try simp only [Act.put, qa, qb, qc, qD, qE, qF]
   go_simp
   refine (toView_c b1 _ _ s1 t1 _ (h1.ext (X.trans (Lw20.trans qXt))) (k1.ext (X.trans (Lw20.trans qXt))) (by omega) (by omega)).mono ?_
   rintro e w21 ⟨uZ1, vZ1, rfl, iuZ1, ivZ1, -, -, -, xw21⟩
   have Lw21 : Ext w20 w21 := Ext.trans qXt xw21
   replace cb0 := Lw21.cell cb0
   replace cb1 := Lw21.cell cb1
   replace cc10 := Lw21.cell cc10
   replace cc11 := Lw21.cell cc11
   replace cc12 := Lw21.cell cc12
   replace r0 := Lw21.cell r0
   replace r1 := Lw21.cell r1
   replace x0 := Lw21.cell x0
   replace x1 := Lw21.cell x1
   replace xv10 := Lw21.cell xv10
   replace xv11 := Lw21.cell xv11
   replace xv12 := Lw21.cell xv12
   replace gg0 := Lw21.cell gg0
   replace gg1 := Lw21.cell gg1
   replace bZ := bZ.ext Lw21
   have sz_w21 := Lw21.size
   replace qa0 := xw21.cell qa0
   replace qf0 := xw21.frz zg qf0
   replace qa1 := xw21.cell qa1
   replace qf1 := xw21.frz zg qf1
   replace zg := Nat.lt_of_lt_of_le zg xw21.size
   refine hK.out _ _ ⟨cb0, cb1, cc10, cc11, cc12, r0, r1, x0, x1, xv10, xv11, xv12, gg0, gg1⟩ (fun hHeld => ?_)
   clear hK K
   try simp only [Act.put, qa, qb, qc, qD, qE, qF]
   refine qHr 4 rfl (fun K hK => ?_)
   have zp := zg
   try simp only [Act.put, qa, qb, qc, qD, qE, qF]
   go_simp
   refine (pbx_eq hP.out (implExportView_c cells es _ _ b1 _ _ s1 t1 _ _ _ (bZ.ints.ext qXt) (bZ.exps.ext qXt) _ _ (iuZ1.ext qXt) (ivZ1.ext qXt))).mono ?_
   rintro e w22 ⟨H1, H2, RH, rfl, iH, xw22⟩
   have Lw22 : Ext w21 w22 := Ext.trans qXt xw22
   replace cb0 := Lw22.cell cb0
   replace cb1 := Lw22.cell cb1
   replace cc10 := Lw22.cell cc10
   replace cc11 := Lw22.cell cc11
   replace cc12 := Lw22.cell cc12
   replace r0 := Lw22.cell r0
   replace r1 := Lw22.cell r1
   replace x0 := Lw22.cell x0
   replace x1 := Lw22.cell x1
   replace xv10 := Lw22.cell xv10
   replace xv11 := Lw22.cell xv11
   replace xv12 := Lw22.cell xv12
   replace gg0 := Lw22.cell gg0
   replace gg1 := Lw22.cell gg1
   replace bZ := bZ.ext Lw22
   replace iuZ1 := iuZ1.ext Lw22
   replace ivZ1 := ivZ1.ext Lw22
   have sz_w22 := Lw22.size
   try simp only [World.size_alloc, World.size_drew] at iH
   obtain ⟨Ha, Hc, rfl⟩ := iH.ints.form
   obtain ⟨Hd, Hf, rfl⟩ := iH.exps.form
   replace qa0 := xw22.cell qa0
   replace qf0 := xw22.frz zg qf0
   replace qa1 := xw22.cell qa1
   replace qf1 := xw22.frz zg qf1
   replace zg := Nat.lt_of_lt_of_le zg xw22.size
   refine hK.out _ _ ⟨cb0, cb1, cc10, cc11, cc12, r0, r1, x0, x1, xv10, xv11, xv12, gg0, gg1⟩ (fun hHeld => ?_)
   clear hK K
   try simp only [Act.put, qa, qb, qc, qD, qE, qF]
   refine qHk (v := ?_) 5 rfl (.inl ⟨by rfl, ?_⟩) ?_
   rotate_left
   ·
    (intro w hSw; (try dsimp only at hSw); go_simp; try with_reducible rfl)
   try simp only [Act.put, qa, qb, qc, qD, qE, qF]
   refine qHk (v := ?_) 6 rfl (.inl ⟨by rfl, ?_⟩) ?_
   rotate_left
   ·
    (intro w hSw; (try dsimp only at hSw); go_simp; try with_reducible rfl)
   try simp only [Act.put, qa, qb, qc, qD, qE, qF]
   refine qHk (v := ?_) 7 rfl (.inl ⟨by rfl, ?_⟩) ?_
   rotate_left
   ·
    (intro w hSw; (try dsimp only at hSw); go_simp; try with_reducible rfl)
   try simp only [Act.put, qa, qb, qc, qD, qE, qF]
   refine qHr 9 rfl (fun K hK => ?_)
   try simp only [Act.put, qa, qb, qc, qD, qE, qF]
   go_simp
   have XE : Ext w19 ((w22.setCell ⟨w20.heap.size, 0, none⟩ (.slice Ha PC.length Hc)).setCell ⟨w20.heap.size, 1, none⟩ (.slice Hd PE.length Hf)) := (Ext.setCell (Ext.setCell ((Lw20.trans Lw21).trans Lw22) hg _) hg _)
   have y0 : ((w22.setCell ⟨w20.heap.size, 0, none⟩ (.slice Ha PC.length Hc)).setCell ⟨w20.heap.size, 1, none⟩ (.slice Hd PE.length Hf)).cell? ⟨w20.heap.size, 0, none⟩ = some (.slice Ha PC.length Hc) := qCl
   have f_y0 : ((w22.setCell ⟨w20.heap.size, 0, none⟩ (.slice Ha PC.length Hc)).setCell ⟨w20.heap.size, 1, none⟩ (.slice Hd PE.length Hf)).frozen? ⟨w20.heap.size, 0, none⟩ = false := qFz
   have y1 : ((w22.setCell ⟨w20.heap.size, 0, none⟩ (.slice Ha PC.length Hc)).setCell ⟨w20.heap.size, 1, none⟩ (.slice Hd PE.length Hf)).cell? ⟨w20.heap.size, 1, none⟩ = some (.slice Hd PE.length Hf) := qCl
   have f_y1 : ((w22.setCell ⟨w20.heap.size, 0, none⟩ (.slice Ha PC.length Hc)).setCell ⟨w20.heap.size, 1, none⟩ (.slice Hd PE.length Hf)).frozen? ⟨w20.heap.size, 1, none⟩ = false := qFz
   have hg1 : w19.heap.size ≤ w20.heap.size := hg
   have KE : Chg w20.heap.size (w20.heap.size + 1) w22 ((w22.setCell ⟨w20.heap.size, 0, none⟩ (.slice Ha PC.length Hc)).setCell ⟨w20.heap.size, 1, none⟩ (.slice Hd PE.length Hf)) := (by repeat (first | (with_reducible exact Chg.refl _ _ _) | (with_reducible refine Chg.setCell ?_ qSo qSo _) | (with_reducible refine Chg.ext ?_ (Ext.alloc (Ext.refl _) _)) | (with_reducible refine Chg.ext ?_ (Ext.drew (Ext.refl _)))))
   replace cb0 := KE.cell (by omega) cb0
   replace cb1 := KE.cell (by omega) cb1
   replace cc10 := KE.cell (by omega) cc10
   replace cc11 := KE.cell (by omega) cc11
   replace cc12 := KE.cell (by omega) cc12
   replace r0 := KE.cell (by omega) r0
   replace r1 := KE.cell (by omega) r1
   replace x0 := KE.cell (by omega) x0
   replace x1 := KE.cell (by omega) x1
   replace xv10 := KE.cell (by omega) xv10
   replace xv11 := KE.cell (by omega) xv11
   replace xv12 := KE.cell (by omega) xv12
   replace gg0 := KE.cell (by omega) gg0
   replace gg1 := KE.cell (by omega) gg1
   clear bZ
   clear iuZ1
   clear ivZ1
   replace iH := iH.chg KE (by omega)
   have ke_ := KE.size
   refine hK.out _ _ ⟨cb0, cb1, cc10, cc11, cc12, r0, r1, x0, x1, xv10, xv11, xv12, gg0, gg1⟩ (fun hHeld => ?_)
   clear hK K KE
   try simp only [Act.put, qa, qb, qc, qD, qE, qF]
   refine qHk (v := ?_) 10 rfl (.inl ⟨by rfl, ?_⟩) ?_
   rotate_left
   ·
    (intro w hSw; (try dsimp only at hSw); go_simp; try with_reducible rfl)
   try simp only [Act.put, qa, qb, qc, qD, qE, qF]
   refine wpAnyH_done qKr ?_ _
   clear hHeld
   generalize ((w22.setCell ⟨w20.heap.size, 0, none⟩ (.slice Ha PC.length Hc)).setCell ⟨w20.heap.size, 1, none⟩ (.slice Hd PE.length Hf)) = WE at *
   go_step
   go_step
   go_meet
   case rel => exact ⟨_, _, _, _, _, _, rfl, rfl, XE, hg1, y0, y1, iH.lower (Nat.zero_le _)⟩
   try simp only [Act.put, qa, qb, qc, qD, qE, qF]
   go_simp
   refine (toView_c b1 _ _ s1 t1 _ (h1.ext (X.trans (Lw20.trans qXt))) (k1.ext (X.trans (Lw20.trans qXt))) (by omega) (by omega)).mono ?_
   rintro e w21 ⟨uZ1, vZ1, rfl, iuZ1, ivZ1, -, -, -, xw21⟩
   have Lw21 : Ext w20 w21 := Ext.trans qXt xw21
   replace cb0 := Lw21.cell cb0
   replace cb1 := Lw21.cell cb1
   replace cc10 := Lw21.cell cc10
   replace cc11 := Lw21.cell cc11
   replace cc12 := Lw21.cell cc12
   replace r0 := Lw21.cell r0
   replace r1 := Lw21.cell r1
   replace x0 := Lw21.cell x0
   replace x1 := Lw21.cell x1
   replace xv10 := Lw21.cell xv10
   replace xv11 := Lw21.cell xv11
   replace xv12 := Lw21.cell xv12
   replace gg0 := Lw21.cell gg0
   replace gg1 := Lw21.cell gg1
   replace bZ := bZ.ext Lw21
   have sz_w21 := Lw21.size
   refine hK.out _ _ ⟨cb0, cb1, cc10, cc11, cc12, r0, r1, x0, x1, xv10, xv11, xv12, gg0, gg1⟩ (fun hHeld => ?_)
   clear hK K
   try simp only [Act.put, qa, qb, qc, qD, qE, qF]
   refine wpAnyH_ready (rs := [4, 8]) qKr (by simp) ?_
   refine AllReadyH.cons rfl (fun K hK => ?_) (AllReadyH.cons rfl (fun K hK => ?_) AllReadyH.nil)
   rotate_left
   try simp only [Act.put, qa, qb, qc, qD, qE, qF]
   go_simp
   refine hK.out _ _ ⟨(show Ext w21 _ from qXt).cell cb0, (show Ext w21 _ from qXt).cell cb1, (show Ext w21 _ from qXt).cell cc10, (show Ext w21 _ from qXt).cell cc11, (show Ext w21 _ from qXt).cell cc12, (show Ext w21 _ from qXt).cell r0, (show Ext w21 _ from qXt).cell r1, (show Ext w21 _ from qXt).cell x0, (show Ext w21 _ from qXt).cell x1, (show Ext w21 _ from qXt).cell xv10, (show Ext w21 _ from qXt).cell xv11, (show Ext w21 _ from qXt).cell xv12, (show Ext w21 _ from qXt).cell gg0, (show Ext w21 _ from qXt).cell gg1⟩ (fun hHeld => ?_)
   clear hK K
   try simp only [Act.put, qa, qb, qc, qD, qE, qF]
   have qa0 : (w21.alloc (.cells #[.slice none 0 0, .slice none 0 0] 32)).cell? ⟨w21.heap.size, 0, none⟩ = some (.slice none 0 0) := qCl
   have qf0 : (w21.alloc (.cells #[.slice none 0 0, .slice none 0 0] 32)).frozen? ⟨w21.heap.size, 0, none⟩ = false := qFz
   have qa1 : (w21.alloc (.cells #[.slice none 0 0, .slice none 0 0] 32)).cell? ⟨w21.heap.size, 1, none⟩ = some (.slice none 0 0) := qCl
   have qf1 : (w21.alloc (.cells #[.slice none 0 0, .slice none 0 0] 32)).frozen? ⟨w21.heap.size, 1, none⟩ = false := qFz
   have zg : w21.heap.size < (w21.alloc (.cells #[.slice none 0 0, .slice none 0 0] 32)).heap.size := qB qa0
   have hg : w19.heap.size ≤ w21.heap.size := ((Lw20.trans Lw21)).size
   refine qHr 4 rfl (fun K hK => ?_)
   have zp := zg
   try simp only [Act.put, qa, qb, qc, qD, qE, qF]
   go_simp
   refine (pbx_eq hP.out (implExportView_c cells es _ _ b1 _ _ s1 t1 _ _ _ (bZ.ints.ext qXt) (bZ.exps.ext qXt) _ _ (iuZ1.ext qXt) (ivZ1.ext qXt))).mono ?_
   rintro e w22 ⟨H1, H2, RH, rfl, iH, xw22⟩
   have Lw22 : Ext w21 w22 := Ext.trans qXt xw22
   replace cb0 := Lw22.cell cb0
   replace cb1 := Lw22.cell cb1
   replace cc10 := Lw22.cell cc10
   replace cc11 := Lw22.cell cc11
   replace cc12 := Lw22.cell cc12
   replace r0 := Lw22.cell r0
   replace r1 := Lw22.cell r1
   replace x0 := Lw22.cell x0
   replace x1 := Lw22.cell x1
   replace xv10 := Lw22.cell xv10
   replace xv11 := Lw22.cell xv11
   replace xv12 := Lw22.cell xv12
   replace gg0 := Lw22.cell gg0
   replace gg1 := Lw22.cell gg1
   replace bZ := bZ.ext Lw22
   replace iuZ1 := iuZ1.ext Lw22
   replace ivZ1 := ivZ1.ext Lw22
   have sz_w22 := Lw22.size
   try simp only [World.size_alloc, World.size_drew] at iH
   obtain ⟨Ha, Hc, rfl⟩ := iH.ints.form
   obtain ⟨Hd, Hf, rfl⟩ := iH.exps.form
   replace qa0 := xw22.cell qa0
   replace qf0 := xw22.frz zg qf0
   replace qa1 := xw22.cell qa1
   replace qf1 := xw22.frz zg qf1
   replace zg := Nat.lt_of_lt_of_le zg xw22.size
   refine hK.out _ _ ⟨cb0, cb1, cc10, cc11, cc12, r0, r1, x0, x1, xv10, xv11, xv12, gg0, gg1⟩ (fun hHeld => ?_)
   clear hK K
   try simp only [Act.put, qa, qb, qc, qD, qE, qF]
   refine qHk (v := ?_) 5 rfl (.inl ⟨by rfl, ?_⟩) ?_
   rotate_left
   ·
    (intro w hSw; (try dsimp only at hSw); go_simp; try with_reducible rfl)
   try simp only [Act.put, qa, qb, qc, qD, qE, qF]
   refine qHk (v := ?_) 6 rfl (.inl ⟨by rfl, ?_⟩) ?_
   rotate_left
   ·
    (intro w hSw; (try dsimp only at hSw); go_simp; try with_reducible rfl)
   try simp only [Act.put, qa, qb, qc, qD, qE, qF]
   refine qHk (v := ?_) 7 rfl (.inl ⟨by rfl, ?_⟩) ?_
   rotate_left
   ·
    (intro w hSw; (try dsimp only at hSw); go_simp; try with_reducible rfl)
   try simp only [Act.put, qa, qb, qc, qD, qE, qF]
   refine qHr 9 rfl (fun K hK => ?_)
   try simp only [Act.put, qa, qb, qc, qD, qE, qF]
   go_simp
   have XE : Ext w19 ((w22.setCell ⟨w21.heap.size, 0, none⟩ (.slice Ha PC.length Hc)).setCell ⟨w21.heap.size, 1, none⟩ (.slice Hd PE.length Hf)) := (Ext.setCell (Ext.setCell ((Lw20.trans Lw21).trans Lw22) hg _) hg _)
   have y0 : ((w22.setCell ⟨w21.heap.size, 0, none⟩ (.slice Ha PC.length Hc)).setCell ⟨w21.heap.size, 1, none⟩ (.slice Hd PE.length Hf)).cell? ⟨w21.heap.size, 0, none⟩ = some (.slice Ha PC.length Hc) := qCl
   have f_y0 : ((w22.setCell ⟨w21.heap.size, 0, none⟩ (.slice Ha PC.length Hc)).setCell ⟨w21.heap.size, 1, none⟩ (.slice Hd PE.length Hf)).frozen? ⟨w21.heap.size, 0, none⟩ = false := qFz
   have y1 : ((w22.setCell ⟨w21.heap.size, 0, none⟩ (.slice Ha PC.length Hc)).setCell ⟨w21.heap.size, 1, none⟩ (.slice Hd PE.length Hf)).cell? ⟨w21.heap.size, 1, none⟩ = some (.slice Hd PE.length Hf) := qCl
   have f_y1 : ((w22.setCell ⟨w21.heap.size, 0, none⟩ (.slice Ha PC.length Hc)).setCell ⟨w21.heap.size, 1, none⟩ (.slice Hd PE.length Hf)).frozen? ⟨w21.heap.size, 1, none⟩ = false := qFz
   have hg1 : w19.heap.size ≤ w21.heap.size := hg
   have KE : Chg w21.heap.size (w21.heap.size + 1) w22 ((w22.setCell ⟨w21.heap.size, 0, none⟩ (.slice Ha PC.length Hc)).setCell ⟨w21.heap.size, 1, none⟩ (.slice Hd PE.length Hf)) := (by repeat (first | (with_reducible exact Chg.refl _ _ _) | (with_reducible refine Chg.setCell ?_ qSo qSo _) | (with_reducible refine Chg.ext ?_ (Ext.alloc (Ext.refl _) _)) | (with_reducible refine Chg.ext ?_ (Ext.drew (Ext.refl _)))))
   replace cb0 := KE.cell (by omega) cb0
   replace cb1 := KE.cell (by omega) cb1
   replace cc10 := KE.cell (by omega) cc10
   replace cc11 := KE.cell (by omega) cc11
   replace cc12 := KE.cell (by omega) cc12
   replace r0 := KE.cell (by omega) r0
   replace r1 := KE.cell (by omega) r1
   replace x0 := KE.cell (by omega) x0
   replace x1 := KE.cell (by omega) x1
   replace xv10 := KE.cell (by omega) xv10
   replace xv11 := KE.cell (by omega) xv11
   replace xv12 := KE.cell (by omega) xv12
   replace gg0 := KE.cell (by omega) gg0
   replace gg1 := KE.cell (by omega) gg1
   clear bZ
   clear iuZ1
   clear ivZ1
   replace iH := iH.chg KE (by omega)
   have ke_ := KE.size
   refine hK.out _ _ ⟨cb0, cb1, cc10, cc11, cc12, r0, r1, x0, x1, xv10, xv11, xv12, gg0, gg1⟩ (fun hHeld => ?_)
   clear hK K KE
   try simp only [Act.put, qa, qb, qc, qD, qE, qF]
   refine qHk (v := ?_) 10 rfl (.inl ⟨by rfl, ?_⟩) ?_
   rotate_left
   ·
    (intro w hSw; (try dsimp only at hSw); go_simp; try with_reducible rfl)
   try simp only [Act.put, qa, qb, qc, qD, qE, qF]
   refine wpAnyH_done qKr ?_ _
   clear hHeld
   generalize ((w22.setCell ⟨w21.heap.size, 0, none⟩ (.slice Ha PC.length Hc)).setCell ⟨w21.heap.size, 1, none⟩ (.slice Hd PE.length Hf)) = WE at *
   go_step
   go_step
   go_meet
   case rel => exact ⟨_, _, _, _, _, _, rfl, rfl, XE, hg1, y0, y1, iH.lower (Nat.zero_le _)⟩
   try simp only [Act.put, qa, qb, qc, qD, qE, qF]
   go_simp
   refine (pbx_eq hP.out (implExportView_c cells es _ _ b1 _ _ s1 t1 _ _ _ (bZ.ints.ext qXt) (bZ.exps.ext qXt) _ _ (iuZ1.ext qXt) (ivZ1.ext qXt))).mono ?_
   rintro e w22 ⟨H1, H2, RH, rfl, iH, xw22⟩
   have Lw22 : Ext w21 w22 := Ext.trans qXt xw22
   replace cb0 := Lw22.cell cb0
   replace cb1 := Lw22.cell cb1
   replace cc10 := Lw22.cell cc10
   replace cc11 := Lw22.cell cc11
   replace cc12 := Lw22.cell cc12
   replace r0 := Lw22.cell r0
   replace r1 := Lw22.cell r1
   replace x0 := Lw22.cell x0
   replace x1 := Lw22.cell x1
   replace xv10 := Lw22.cell xv10
   replace xv11 := Lw22.cell xv11
   replace xv12 := Lw22.cell xv12
   replace gg0 := Lw22.cell gg0
   replace gg1 := Lw22.cell gg1
   replace bZ := bZ.ext Lw22
   replace iuZ1 := iuZ1.ext Lw22
   replace ivZ1 := ivZ1.ext Lw22
   have sz_w22 := Lw22.size
   try simp only [World.size_alloc, World.size_drew] at iH
   obtain ⟨Ha, Hc, rfl⟩ := iH.ints.form
   obtain ⟨Hd, Hf, rfl⟩ := iH.exps.form
   refine hK.out _ _ ⟨cb0, cb1, cc10, cc11, cc12, r0, r1, x0, x1, xv10, xv11, xv12, gg0, gg1⟩ (fun hHeld => ?_)
   clear hK K
   try simp only [Act.put, qa, qb, qc, qD, qE, qF]
   refine qHk (v := ?_) 5 rfl (.inl ⟨by rfl, ?_⟩) ?_
   rotate_left
   ·
    (intro w hSw; (try dsimp only at hSw); go_simp; try with_reducible rfl)
   try simp only [Act.put, qa, qb, qc, qD, qE, qF]
   refine qHk (v := ?_) 6 rfl (.inl ⟨by rfl, ?_⟩) ?_
   rotate_left
   ·
    (intro w hSw; (try dsimp only at hSw); go_simp; try with_reducible rfl)
   try simp only [Act.put, qa, qb, qc, qD, qE, qF]
   refine qHk (v := ?_) 7 rfl (.inl ⟨by rfl, ?_⟩) ?_
   rotate_left
   ·
    (intro w hSw; (try dsimp only at hSw); go_simp; try with_reducible rfl)
   try simp only [Act.put, qa, qb, qc, qD, qE, qF]
   refine qHr 8 rfl (fun K hK => ?_)
   try simp only [Act.put, qa, qb, qc, qD, qE, qF]
   go_simp
   refine hK.out _ _ ⟨(show Ext w22 _ from qXt).cell cb0, (show Ext w22 _ from qXt).cell cb1, (show Ext w22 _ from qXt).cell cc10, (show Ext w22 _ from qXt).cell cc11, (show Ext w22 _ from qXt).cell cc12, (show Ext w22 _ from qXt).cell r0, (show Ext w22 _ from qXt).cell r1, (show Ext w22 _ from qXt).cell x0, (show Ext w22 _ from qXt).cell x1, (show Ext w22 _ from qXt).cell xv10, (show Ext w22 _ from qXt).cell xv11, (show Ext w22 _ from qXt).cell xv12, (show Ext w22 _ from qXt).cell gg0, (show Ext w22 _ from qXt).cell gg1⟩ (fun hHeld => ?_)
   clear hK K
   try simp only [Act.put, qa, qb, qc, qD, qE, qF]
   refine qHr 9 rfl (fun K hK => ?_)
   try simp only [Act.put, qa, qb, qc, qD, qE, qF]
   go_simp
   have XE : Ext w19 (w22.alloc (.cells #[.slice Ha PC.length Hc, .slice Hd PE.length Hf] 32)) := ((Lw20.trans Lw21).trans Lw22).trans qXo
   have y0 : (w22.alloc (.cells #[.slice Ha PC.length Hc, .slice Hd PE.length Hf] 32)).cell? ⟨w22.heap.size, 0, none⟩ = some (.slice Ha PC.length Hc) := qCl
   have f_y0 : (w22.alloc (.cells #[.slice Ha PC.length Hc, .slice Hd PE.length Hf] 32)).frozen? ⟨w22.heap.size, 0, none⟩ = false := qFz
   have y1 : (w22.alloc (.cells #[.slice Ha PC.length Hc, .slice Hd PE.length Hf] 32)).cell? ⟨w22.heap.size, 1, none⟩ = some (.slice Hd PE.length Hf) := qCl
   have f_y1 : (w22.alloc (.cells #[.slice Ha PC.length Hc, .slice Hd PE.length Hf] 32)).frozen? ⟨w22.heap.size, 1, none⟩ = false := qFz
   have hg1 : w19.heap.size ≤ w22.heap.size := ((Lw20.trans Lw21).trans Lw22).size
   have KE : Ext w22 (w22.alloc (.cells #[.slice Ha PC.length Hc, .slice Hd PE.length Hf] 32)) := qXo
   replace cb0 := KE.cell cb0
   replace cb1 := KE.cell cb1
   replace cc10 := KE.cell cc10
   replace cc11 := KE.cell cc11
   replace cc12 := KE.cell cc12
   replace r0 := KE.cell r0
   replace r1 := KE.cell r1
   replace x0 := KE.cell x0
   replace x1 := KE.cell x1
   replace xv10 := KE.cell xv10
   replace xv11 := KE.cell xv11
   replace xv12 := KE.cell xv12
   replace gg0 := KE.cell gg0
   replace gg1 := KE.cell gg1
   clear bZ
   clear iuZ1
   clear ivZ1
   replace iH := iH.ext KE
   have ke_ := KE.size
   refine hK.out _ _ ⟨cb0, cb1, cc10, cc11, cc12, r0, r1, x0, x1, xv10, xv11, xv12, gg0, gg1⟩ (fun hHeld => ?_)
   clear hK K KE
   try simp only [Act.put, qa, qb, qc, qD, qE, qF]
   refine qHk (v := ?_) 10 rfl (.inl ⟨by rfl, ?_⟩) ?_
   rotate_left
   ·
    (intro w hSw; (try dsimp only at hSw); go_simp; try with_reducible rfl)
   try simp only [Act.put, qa, qb, qc, qD, qE, qF]
   refine wpAnyH_done qKr ?_ _
   clear hHeld
   generalize (w22.alloc (.cells #[.slice Ha PC.length Hc, .slice Hd PE.length Hf] 32)) = WE at *
   go_step
   go_step
   go_meet
   case rel => exact ⟨_, _, _, _, _, _, rfl, rfl, XE, hg1, y0, y1, iH.lower (Nat.zero_le _)⟩
  case rest =>
   generalize wc = w23 at hcut ⊢
   obtain ⟨gZ, Ha, Hc, Hd, Hf, RH, rfl, rfl, xw23, hg_y, y0, y1, iH⟩ := hcut
   have Lw23 : Ext w19 w23 := xw23
   replace cb0 := Lw23.cell cb0
   replace cb1 := Lw23.cell cb1
   replace cc10 := Lw23.cell cc10
   replace cc11 := Lw23.cell cc11
   replace cc12 := Lw23.cell cc12
   replace r0 := Lw23.cell r0
   replace r1 := Lw23.cell r1
   replace x0 := Lw23.cell x0
   replace x1 := Lw23.cell x1
   replace xv10 := Lw23.cell xv10
   replace xv11 := Lw23.cell xv11
   replace xv12 := Lw23.cell xv12
   replace gg0 := Lw23.cell gg0
   replace gg1 := Lw23.cell gg1
   replace bH := bH.ext Lw23
   replace X := X.trans Lw23
   replace EW := EW.trans Lw23
   have z68 : w.heap.size < w23.heap.size := qB cb0
   have z69 : w.heap.size + 1 < w23.heap.size := qB cc10
   have z70 : gW < w23.heap.size := qB r0
   have z71 : w7.heap.size < w23.heap.size := qB x0
   have z72 : w8.heap.size < w23.heap.size := qB xv10
   have z73 : w9.heap.size < w23.heap.size := qB gg0
   have z74 : gZ < w23.heap.size := qB y0
   have sw23 : w19.heap.size ≤ w23.heap.size := Lw23.size
   clear Lw23 xw23
   go_wp2_with fail
   refine (eqBuffer_c PC PE _ _ _ _ _ _ _ _ _ (iH.ints.ext qXt) (iH.exps.ext qXt) ((iW.ext EW).ints.ext qXt) ((iW.ext EW).exps.ext qXt)).mono ?_
   rintro e w24 ⟨rfl, xw24⟩
   have Lw24 : Ext w23 w24 := Ext.trans qXt xw24
   replace cb0 := Lw24.cell cb0
   replace cb1 := Lw24.cell cb1
   replace cc10 := Lw24.cell cc10
   replace cc11 := Lw24.cell cc11
   replace cc12 := Lw24.cell cc12
   replace r0 := Lw24.cell r0
   replace r1 := Lw24.cell r1
   replace x0 := Lw24.cell x0
   replace x1 := Lw24.cell x1
   replace xv10 := Lw24.cell xv10
   replace xv11 := Lw24.cell xv11
   replace xv12 := Lw24.cell xv12
   replace gg0 := Lw24.cell gg0
   replace gg1 := Lw24.cell gg1
   replace y0 := Lw24.cell y0
   replace y1 := Lw24.cell y1
   replace bH := bH.ext Lw24
   replace iH := iH.ext Lw24
   replace X := X.trans Lw24
   replace EW := EW.trans Lw24
   have z75 : w.heap.size < w24.heap.size := qB cb0
   have z76 : w.heap.size + 1 < w24.heap.size := qB cc10
   have z77 : gW < w24.heap.size := qB r0
   have z78 : w7.heap.size < w24.heap.size := qB x0
   have z79 : w8.heap.size < w24.heap.size := qB xv10
   have z80 : w9.heap.size < w24.heap.size := qB gg0
   have z81 : gZ < w24.heap.size := qB y0
   have sw24 : w23.heap.size ≤ w24.heap.size := Lw24.size
   clear Lw24
   clear xw24
   go_wp2_with fail
   refine (heldBuffer_c PC.length PE 1 _ _ _ _ _ (bH.ints.ext qXt) (bH.exps.ext qXt) (fun i hi => by have := hSr.out i hi; omega) (by omega) (by rw [hK2.out]; omega)).mono ?_
   rintro e w25 ⟨rfl, xw25⟩
   have Lw25 : Ext w24 w25 := Ext.trans qXt xw25
   replace cb0 := Lw25.cell cb0
   replace cb1 := Lw25.cell cb1
   replace cc10 := Lw25.cell cc10
   replace cc11 := Lw25.cell cc11
   replace cc12 := Lw25.cell cc12
   replace r0 := Lw25.cell r0
   replace r1 := Lw25.cell r1
   replace x0 := Lw25.cell x0
   replace x1 := Lw25.cell x1
   replace xv10 := Lw25.cell xv10
   replace xv11 := Lw25.cell xv11
   replace xv12 := Lw25.cell xv12
   replace gg0 := Lw25.cell gg0
   replace gg1 := Lw25.cell gg1
   replace y0 := Lw25.cell y0
   replace y1 := Lw25.cell y1
   replace bH := bH.ext Lw25
   replace iH := iH.ext Lw25
   replace X := X.trans Lw25
   replace EW := EW.trans Lw25
   have z82 : w.heap.size < w25.heap.size := qB cb0
   have z83 : w.heap.size + 1 < w25.heap.size := qB cc10
   have z84 : gW < w25.heap.size := qB r0
   have z85 : w7.heap.size < w25.heap.size := qB x0
   have z86 : w8.heap.size < w25.heap.size := qB xv10
   have z87 : w9.heap.size < w25.heap.size := qB gg0
   have z88 : gZ < w25.heap.size := qB y0
   have sw25 : w24.heap.size ≤ w25.heap.size := Lw25.size
   clear Lw25
   clear xw25
   rw [hK2.out]
   go_wp2_with fail
   go_ret
   exact ⟨rfl, X.trans qXt⟩

set_option maxHeartbeats 6400000 in
theorem lawExportView_true (cells : List Int) (es : List Exp) (ac ae : Option Addr) (cc ce : Nat) (b1 : Int) (a1 d1 : Option Addr) (f1 g1 : Nat) (s1 t1 : List Int) (w : World) (hc : Raw w (.slice ac cells.length cc) cells) (he : RawE w (.slice ae es.length ce) es) (nc : cells.length ≤ maxLen) (ne : es.length ≤ maxLen) (h1 : Raw w (.slice a1 s1.length f1) s1) (k1 : Raw w (.slice d1 t1.length g1) t1) (n1 : s1.length ≤ maxLen) (m1 : t1.length ≤ maxLen) (PC : List Int) (PE : List Exp) (hP : Hid (expA cells es b1 s1 t1 = (PC, PE, true))) (hS : SmallB (PC, PE, true)) :
  Calls Try.prog 3 #[.agg #[.slice ac cells.length cc, .slice ae es.length ce], .agg #[.int .i64 b1, .slice a1 s1.length f1, .slice d1 t1.length g1]] w fun e w' => e = .returned (.bool true) ∧ Ext w w' := by
 go_enter Try.func3, Try.ntmps3
 have X : Ext w w := Ext.refl _
 go_wp2_with fail
 refine (szBuffer_c cells es _ _ _ _ 1048576 _ (he.ext qXt) (by omega) (by omega) ne nc).mono ?_
 rintro e w1 ⟨L, rfl, q1, q2, q3, xw1⟩
 have Lw1 : Ext w w1 := Ext.trans qXt xw1
 have cb0 : w1.cell? ⟨w.heap.size, 0, none⟩ = some (.slice ac cells.length cc) := xw1.cell qCl
 have cb1 : w1.cell? ⟨w.heap.size, 1, none⟩ = some (.slice ae es.length ce) := xw1.cell qCl
 have cc10 : w1.cell? ⟨w.heap.size + 1, 0, none⟩ = some (.int .i64 b1) := xw1.cell qCl
 have cc11 : w1.cell? ⟨w.heap.size + 1, 1, none⟩ = some (.slice a1 s1.length f1) := xw1.cell qCl
 have cc12 : w1.cell? ⟨w.heap.size + 1, 2, none⟩ = some (.slice d1 t1.length g1) := xw1.cell qCl
 replace X := X.trans Lw1
 have z1 : w.heap.size < w1.heap.size := qB cb0
 have z2 : w.heap.size + 1 < w1.heap.size := qB cc10
 have sw1 : w.heap.size ≤ w1.heap.size := Lw1.size
 clear Lw1
 clear xw1
 by_cases q0 : L < 0
 ·
  go_wp2_with fail
  go_ret
  exact ⟨rfl, X.trans qXt⟩
 have q4 := q3 (by omega)
 have hm : ∀ i, i < es.length → (expAt es i).s.length ≤ 1048576 ∧ (expAt es i).t.length ≤ 1048576 := fun i hi => by have := sizeE_le es i es.length hi; omega
 replace hm := Lib.hid hm
 go_wp2_with fail
 refine (szView_c b1 a1 d1 _ f1 _ g1 L _ (by omega) (by omega) n1 m1).mono ?_
 rintro e w2 ⟨rfl, xw2⟩
 have Lw2 : Ext w1 w2 := Ext.trans qXt xw2
 replace cb0 := Lw2.cell cb0
 replace cb1 := Lw2.cell cb1
 replace cc10 := Lw2.cell cc10
 replace cc11 := Lw2.cell cc11
 replace cc12 := Lw2.cell cc12
 replace X := X.trans Lw2
 have z3 : w.heap.size < w2.heap.size := qB cb0
 have z4 : w.heap.size + 1 < w2.heap.size := qB cc10
 have sw2 : w1.heap.size ≤ w2.heap.size := Lw2.size
 clear Lw2
 clear xw2
 by_cases y1 : szV L s1.length t1.length < 0
 ·
  go_wp2_with fail
  go_ret
  exact ⟨rfl, X.trans qXt⟩
 have y1' := szV_ge (by omega) y1
 have hk1 : kE (1 + cells.length) es es.length ≤ 4194304 := by rw [kE_size]; omega
 have hk0 := kE_mono (1 + cells.length) es 0 es.length (Nat.zero_le _)
 have hk2 : 0 ≤ kE (1 + cells.length) es es.length := by simp only [kE] at hk0; omega
 clear hk0
 obtain ⟨K1, hK1⟩ : ∃ x, kE (1 + cells.length) es es.length = x := ⟨_, rfl⟩
 rw [hK1] at hk1 hk2
 replace hK1 := Lib.hid hK1
 have hG1 := hS.kE
 have hG0 := kE_mono (1 + PC.length) PE 0 PE.length (Nat.zero_le _)
 obtain ⟨hSc, hSe, hSr⟩ := hS
 dsimp only at hG1 hSc hSe hSr
 have hG2 : 0 ≤ kE (1 + PC.length) PE PE.length := by simp only [kE] at hG0; omega
 clear hG0
 obtain ⟨K2, hK2⟩ : ∃ x, kE (1 + PC.length) PE PE.length = x := ⟨_, rfl⟩
 rw [hK2] at hG1 hG2
 replace hK2 := Lib.hid hK2
 replace hSr := Lib.hid hSr
 go_wp2_with fail
 go_cut [6, 7] (fun s0 s1 wx => ∃ (gW : Nat) (Wa : Option Addr) (Wc : Nat) (Wd : Option Addr) (Wf : Nat) (RW : Nat → Value), s0 = .pointer (some ⟨gW, 0, none⟩) ∧ s1 = .bool true ∧ Ext w2 wx ∧ w2.heap.size ≤ gW ∧ wx.cell? ⟨gW, 0, none⟩ = some (.slice Wa PC.length Wc) ∧ wx.cell? ⟨gW, 1, none⟩ = some (.slice Wd PE.length Wf) ∧ BufR wx 0 (.slice Wa PC.length Wc) (.slice Wd PE.length Wf) PC PE RW)
 case first =>
  refine wp_region_held_drew (S := fun w' => w'.cell? ⟨w.heap.size, 0, none⟩ = some (.slice ac cells.length cc) ∧ w'.cell? ⟨w.heap.size, 1, none⟩ = some (.slice ae es.length ce) ∧ w'.cell? ⟨w.heap.size + 1, 0, none⟩ = some (.int .i64 b1) ∧ w'.cell? ⟨w.heap.size + 1, 1, none⟩ = some (.slice a1 s1.length f1) ∧ w'.cell? ⟨w.heap.size + 1, 2, none⟩ = some (.slice d1 t1.length g1)) qKr ⟨cb0, cb1, cc10, cc11, cc12⟩ (fun hHeld => ?_)
  refine qHk (v := ?_) 0 rfl (.inl ⟨by rfl, ?_⟩) ?_
  rotate_left
  ·
   (intro w hSw; (try dsimp only at hSw); go_simp; try with_reducible rfl)
  try simp only [Act.put, qa, qb, qc, qD, qE, qF]
  refine qHk (v := ?_) 2 rfl (.inl ⟨by rfl, ?_⟩) ?_
  rotate_left
  ·
   (intro w hSw; (try dsimp only at hSw); go_simp; try with_reducible rfl)
  try simp only [Act.put, qa, qb, qc, qD, qE, qF]
  refine wpAnyH_ready (rs := [1, 8]) qKr (by simp) ?_
  refine AllReadyH.cons rfl (fun K hK => ?_) (AllReadyH.cons rfl (fun K hK => ?_) AllReadyH.nil)
  rotate_left
  try simp only [Act.put, qa, qb, qc, qD, qE, qF]
  go_simp
  refine hK.out _ _ ⟨(show Ext w2 _ from qXt).cell cb0, (show Ext w2 _ from qXt).cell cb1, (show Ext w2 _ from qXt).cell cc10, (show Ext w2 _ from qXt).cell cc11, (show Ext w2 _ from qXt).cell cc12⟩ (fun hHeld => ?_)
  clear hK K
  try simp only [Act.put, qa, qb, qc, qD, qE, qF]
  have qa0 : (w2.drew.alloc (.cells #[.slice none 0 0, .slice none 0 0] 32)).cell? ⟨w2.heap.size, 0, none⟩ = some (.slice none 0 0) := qCl
  have qf0 : (w2.drew.alloc (.cells #[.slice none 0 0, .slice none 0 0] 32)).frozen? ⟨w2.heap.size, 0, none⟩ = false := qFz
  have qa1 : (w2.drew.alloc (.cells #[.slice none 0 0, .slice none 0 0] 32)).cell? ⟨w2.heap.size, 1, none⟩ = some (.slice none 0 0) := qCl
  have qf1 : (w2.drew.alloc (.cells #[.slice none 0 0, .slice none 0 0] 32)).frozen? ⟨w2.heap.size, 1, none⟩ = false := qFz
  have zg : w2.heap.size < (w2.drew.alloc (.cells #[.slice none 0 0, .slice none 0 0] 32)).heap.size := qB qa0
  have hg : w2.heap.size ≤ w2.heap.size := Nat.le_refl _
  refine qHr 1 rfl (fun K hK => ?_)
  have zp := zg
  try simp only [Act.put, qa, qb, qc, qD, qE, qF]
  go_simp
  refine (toBuffer_c cells es _ _ _ _ _ (hc.ext (X.trans qXt)) (he.ext (X.trans qXt)) (by omega) (by omega) hm.out).mono ?_
  rintro e w3 ⟨uW, vW, RW, rfl, bW, xw3⟩
  have Lw3 : Ext w2 w3 := Ext.trans qXt xw3
  replace cb0 := Lw3.cell cb0
  replace cb1 := Lw3.cell cb1
  replace cc10 := Lw3.cell cc10
  replace cc11 := Lw3.cell cc11
  replace cc12 := Lw3.cell cc12
  have sz_w3 := Lw3.size
  replace qa0 := xw3.cell qa0
  replace qf0 := xw3.frz zg qf0
  replace qa1 := xw3.cell qa1
  replace qf1 := xw3.frz zg qf1
  replace zg := Nat.lt_of_lt_of_le zg xw3.size
  refine hK.out _ _ ⟨cb0, cb1, cc10, cc11, cc12⟩ (fun hHeld => ?_)
  clear hK K
  try simp only [Act.put, qa, qb, qc, qD, qE, qF]
  refine qHr 3 rfl (fun K hK => ?_)
  have zp := zg
  try simp only [Act.put, qa, qb, qc, qD, qE, qF]
  go_simp
  refine (toView_c b1 _ _ s1 t1 _ (h1.ext (X.trans (Lw3.trans qXt))) (k1.ext (X.trans (Lw3.trans qXt))) (by omega) (by omega)).mono ?_
  rintro e w4 ⟨uW1, vW1, rfl, iuW1, ivW1, -, -, -, xw4⟩
  have Lw4 : Ext w3 w4 := Ext.trans qXt xw4
  replace cb0 := Lw4.cell cb0
  replace cb1 := Lw4.cell cb1
  replace cc10 := Lw4.cell cc10
  replace cc11 := Lw4.cell cc11
  replace cc12 := Lw4.cell cc12
  replace bW := bW.ext Lw4
  have sz_w4 := Lw4.size
  replace qa0 := xw4.cell qa0
  replace qf0 := xw4.frz zg qf0
  replace qa1 := xw4.cell qa1
  replace qf1 := xw4.frz zg qf1
  replace zg := Nat.lt_of_lt_of_le zg xw4.size
  refine hK.out _ _ ⟨cb0, cb1, cc10, cc11, cc12⟩ (fun hHeld => ?_)
  clear hK K
  try simp only [Act.put, qa, qb, qc, qD, qE, qF]
  refine qHr 4 rfl (fun K hK => ?_)
  have zp := zg
  try simp only [Act.put, qa, qb, qc, qD, qE, qF]
  go_simp
  refine (pbx_eq hP.out (specExportView_c cells es _ _ b1 _ _ s1 t1 _ _ _ (bW.ints.ext qXt) (bW.exps.ext qXt) _ _ (iuW1.ext qXt) (ivW1.ext qXt))).mono ?_
  rintro e w5 ⟨W1, W2, RW, rfl, iW, xw5⟩
  have Lw5 : Ext w4 w5 := Ext.trans qXt xw5
  replace cb0 := Lw5.cell cb0
  replace cb1 := Lw5.cell cb1
  replace cc10 := Lw5.cell cc10
  replace cc11 := Lw5.cell cc11
  replace cc12 := Lw5.cell cc12
  replace bW := bW.ext Lw5
  replace iuW1 := iuW1.ext Lw5
  replace ivW1 := ivW1.ext Lw5
  have sz_w5 := Lw5.size
  try simp only [World.size_alloc, World.size_drew] at iW
  obtain ⟨Wa, Wc, rfl⟩ := iW.ints.form
  obtain ⟨Wd, Wf, rfl⟩ := iW.exps.form
  replace qa0 := xw5.cell qa0
  replace qf0 := xw5.frz zg qf0
  replace qa1 := xw5.cell qa1
  replace qf1 := xw5.frz zg qf1
  replace zg := Nat.lt_of_lt_of_le zg xw5.size
  refine hK.out _ _ ⟨cb0, cb1, cc10, cc11, cc12⟩ (fun hHeld => ?_)
  clear hK K
  try simp only [Act.put, qa, qb, qc, qD, qE, qF]
  refine qHk (v := ?_) 5 rfl (.inl ⟨by rfl, ?_⟩) ?_
  rotate_left
  ·
   (intro w hSw; (try dsimp only at hSw); go_simp; try with_reducible rfl)
  try simp only [Act.put, qa, qb, qc, qD, qE, qF]
  refine qHk (v := ?_) 6 rfl (.inl ⟨by rfl, ?_⟩) ?_
  rotate_left
  ·
   (intro w hSw; (try dsimp only at hSw); go_simp; try with_reducible rfl)
  try simp only [Act.put, qa, qb, qc, qD, qE, qF]
  refine qHk (v := ?_) 7 rfl (.inl ⟨by rfl, ?_⟩) ?_
  rotate_left
  ·
   (intro w hSw; (try dsimp only at hSw); go_simp; try with_reducible rfl)
  try simp only [Act.put, qa, qb, qc, qD, qE, qF]
  refine qHr 9 rfl (fun K hK => ?_)
  try simp only [Act.put, qa, qb, qc, qD, qE, qF]
  go_simp
  have XE : Ext w2 ((w5.setCell ⟨w2.heap.size, 0, none⟩ (.slice Wa PC.length Wc)).setCell ⟨w2.heap.size, 1, none⟩ (.slice Wd PE.length Wf)) := (Ext.setCell (Ext.setCell ((Lw3.trans Lw4).trans Lw5) hg _) hg _)
  have r0 : ((w5.setCell ⟨w2.heap.size, 0, none⟩ (.slice Wa PC.length Wc)).setCell ⟨w2.heap.size, 1, none⟩ (.slice Wd PE.length Wf)).cell? ⟨w2.heap.size, 0, none⟩ = some (.slice Wa PC.length Wc) := qCl
  have f_r0 : ((w5.setCell ⟨w2.heap.size, 0, none⟩ (.slice Wa PC.length Wc)).setCell ⟨w2.heap.size, 1, none⟩ (.slice Wd PE.length Wf)).frozen? ⟨w2.heap.size, 0, none⟩ = false := qFz
  have r1 : ((w5.setCell ⟨w2.heap.size, 0, none⟩ (.slice Wa PC.length Wc)).setCell ⟨w2.heap.size, 1, none⟩ (.slice Wd PE.length Wf)).cell? ⟨w2.heap.size, 1, none⟩ = some (.slice Wd PE.length Wf) := qCl
  have f_r1 : ((w5.setCell ⟨w2.heap.size, 0, none⟩ (.slice Wa PC.length Wc)).setCell ⟨w2.heap.size, 1, none⟩ (.slice Wd PE.length Wf)).frozen? ⟨w2.heap.size, 1, none⟩ = false := qFz
  have hg1 : w2.heap.size ≤ w2.heap.size := hg
  have KE : Chg w2.heap.size (w2.heap.size + 1) w5 ((w5.setCell ⟨w2.heap.size, 0, none⟩ (.slice Wa PC.length Wc)).setCell ⟨w2.heap.size, 1, none⟩ (.slice Wd PE.length Wf)) := (by repeat (first | (with_reducible exact Chg.refl _ _ _) | (with_reducible refine Chg.setCell ?_ qSo qSo _) | (with_reducible refine Chg.ext ?_ (Ext.alloc (Ext.refl _) _)) | (with_reducible refine Chg.ext ?_ (Ext.drew (Ext.refl _)))))
  replace cb0 := KE.cell (by omega) cb0
  replace cb1 := KE.cell (by omega) cb1
  replace cc10 := KE.cell (by omega) cc10
  replace cc11 := KE.cell (by omega) cc11
  replace cc12 := KE.cell (by omega) cc12
  clear bW
  clear iuW1
  clear ivW1
  replace iW := iW.chg KE (by omega)
  have ke_ := KE.size
  refine hK.out _ _ ⟨cb0, cb1, cc10, cc11, cc12⟩ (fun hHeld => ?_)
  clear hK K KE
  try simp only [Act.put, qa, qb, qc, qD, qE, qF]
  refine qHk (v := ?_) 10 rfl (.inl ⟨by rfl, ?_⟩) ?_
  rotate_left
  ·
   (intro w hSw; (try dsimp only at hSw); go_simp; try with_reducible rfl)
  try simp only [Act.put, qa, qb, qc, qD, qE, qF]
  refine wpAnyH_done qKr ?_ _
  clear hHeld
  generalize ((w5.setCell ⟨w2.heap.size, 0, none⟩ (.slice Wa PC.length Wc)).setCell ⟨w2.heap.size, 1, none⟩ (.slice Wd PE.length Wf)) = WE at *
  go_step
  go_step
  go_meet
  case rel => exact ⟨_, _, _, _, _, _, rfl, rfl, XE, hg1, r0, r1, iW.lower (Nat.zero_le _)⟩
  try simp only [Act.put, qa, qb, qc, qD, qE, qF]
  go_simp
  refine (toBuffer_c cells es _ _ _ _ _ (hc.ext (X.trans qXt)) (he.ext (X.trans qXt)) (by omega) (by omega) hm.out).mono ?_
  rintro e w3 ⟨uW, vW, RW, rfl, bW, xw3⟩
  have Lw3 : Ext w2 w3 := Ext.trans qXt xw3
  replace cb0 := Lw3.cell cb0
  replace cb1 := Lw3.cell cb1
  replace cc10 := Lw3.cell cc10
  replace cc11 := Lw3.cell cc11
  replace cc12 := Lw3.cell cc12
  have sz_w3 := Lw3.size
  refine hK.out _ _ ⟨cb0, cb1, cc10, cc11, cc12⟩ (fun hHeld => ?_)
  clear hK K
  try simp only [Act.put, qa, qb, qc, qD, qE, qF]
  refine wpAnyH_ready (rs := [3, 8]) qKr (by simp) ?_
  refine AllReadyH.cons rfl (fun K hK => ?_) (AllReadyH.cons rfl (fun K hK => ?_) AllReadyH.nil)
  rotate_left
  try simp only [Act.put, qa, qb, qc, qD, qE, qF]
  go_simp
  refine hK.out _ _ ⟨(show Ext w3 _ from qXt).cell cb0, (show Ext w3 _ from qXt).cell cb1, (show Ext w3 _ from qXt).cell cc10, (show Ext w3 _ from qXt).cell cc11, (show Ext w3 _ from qXt).cell cc12⟩ (fun hHeld => ?_)
  clear hK K
  try simp only [Act.put, qa, qb, qc, qD, qE, qF]
  have qa0 : (w3.alloc (.cells #[.slice none 0 0, .slice none 0 0] 32)).cell? ⟨w3.heap.size, 0, none⟩ = some (.slice none 0 0) := qCl
  have qf0 : (w3.alloc (.cells #[.slice none 0 0, .slice none 0 0] 32)).frozen? ⟨w3.heap.size, 0, none⟩ = false := qFz
  have qa1 : (w3.alloc (.cells #[.slice none 0 0, .slice none 0 0] 32)).cell? ⟨w3.heap.size, 1, none⟩ = some (.slice none 0 0) := qCl
  have qf1 : (w3.alloc (.cells #[.slice none 0 0, .slice none 0 0] 32)).frozen? ⟨w3.heap.size, 1, none⟩ = false := qFz
  have zg : w3.heap.size < (w3.alloc (.cells #[.slice none 0 0, .slice none 0 0] 32)).heap.size := qB qa0
  have hg : w2.heap.size ≤ w3.heap.size := (Lw3).size
  refine qHr 3 rfl (fun K hK => ?_)
  have zp := zg
  try simp only [Act.put, qa, qb, qc, qD, qE, qF]
  go_simp
  refine (toView_c b1 _ _ s1 t1 _ (h1.ext (X.trans (Lw3.trans qXt))) (k1.ext (X.trans (Lw3.trans qXt))) (by omega) (by omega)).mono ?_
  rintro e w4 ⟨uW1, vW1, rfl, iuW1, ivW1, -, -, -, xw4⟩
  have Lw4 : Ext w3 w4 := Ext.trans qXt xw4
  replace cb0 := Lw4.cell cb0
  replace cb1 := Lw4.cell cb1
  replace cc10 := Lw4.cell cc10
  replace cc11 := Lw4.cell cc11
  replace cc12 := Lw4.cell cc12
  replace bW := bW.ext Lw4
  have sz_w4 := Lw4.size
  replace qa0 := xw4.cell qa0
  replace qf0 := xw4.frz zg qf0
  replace qa1 := xw4.cell qa1
  replace qf1 := xw4.frz zg qf1
  replace zg := Nat.lt_of_lt_of_le zg xw4.size
  refine hK.out _ _ ⟨cb0, cb1, cc10, cc11, cc12⟩ (fun hHeld => ?_)
  clear hK K
  try simp only [Act.put, qa, qb, qc, qD, qE, qF]
  refine qHr 4 rfl (fun K hK => ?_)
  have zp := zg
  try simp only [Act.put, qa, qb, qc, qD, qE, qF]
  go_simp
  refine (pbx_eq hP.out (specExportView_c cells es _ _ b1 _ _ s1 t1 _ _ _ (bW.ints.ext qXt) (bW.exps.ext qXt) _ _ (iuW1.ext qXt) (ivW1.ext qXt))).mono ?_
  rintro e w5 ⟨W1, W2, RW, rfl, iW, xw5⟩
  have Lw5 : Ext w4 w5 := Ext.trans qXt xw5
  replace cb0 := Lw5.cell cb0
  replace cb1 := Lw5.cell cb1
  replace cc10 := Lw5.cell cc10
  replace cc11 := Lw5.cell cc11
  replace cc12 := Lw5.cell cc12
  replace bW := bW.ext Lw5
  replace iuW1 := iuW1.ext Lw5
  replace ivW1 := ivW1.ext Lw5
  have sz_w5 := Lw5.size
  try simp only [World.size_alloc, World.size_drew] at iW
  obtain ⟨Wa, Wc, rfl⟩ := iW.ints.form
  obtain ⟨Wd, Wf, rfl⟩ := iW.exps.form
  replace qa0 := xw5.cell qa0
  replace qf0 := xw5.frz zg qf0
  replace qa1 := xw5.cell qa1
  replace qf1 := xw5.frz zg qf1
  replace zg := Nat.lt_of_lt_of_le zg xw5.size
  refine hK.out _ _ ⟨cb0, cb1, cc10, cc11, cc12⟩ (fun hHeld => ?_)
  clear hK K
  try simp only [Act.put, qa, qb, qc, qD, qE, qF]
  refine qHk (v := ?_) 5 rfl (.inl ⟨by rfl, ?_⟩) ?_
  rotate_left
  ·
   (intro w hSw; (try dsimp only at hSw); go_simp; try with_reducible rfl)
  try simp only [Act.put, qa, qb, qc, qD, qE, qF]
  refine qHk (v := ?_) 6 rfl (.inl ⟨by rfl, ?_⟩) ?_
  rotate_left
  ·
   (intro w hSw; (try dsimp only at hSw); go_simp; try with_reducible rfl)
  try simp only [Act.put, qa, qb, qc, qD, qE, qF]
  refine qHk (v := ?_) 7 rfl (.inl ⟨by rfl, ?_⟩) ?_
  rotate_left
  ·
   (intro w hSw; (try dsimp only at hSw); go_simp; try with_reducible rfl)
  try simp only [Act.put, qa, qb, qc, qD, qE, qF]
  refine qHr 9 rfl (fun K hK => ?_)
  try simp only [Act.put, qa, qb, qc, qD, qE, qF]
  go_simp
  have XE : Ext w2 ((w5.setCell ⟨w3.heap.size, 0, none⟩ (.slice Wa PC.length Wc)).setCell ⟨w3.heap.size, 1, none⟩ (.slice Wd PE.length Wf)) := (Ext.setCell (Ext.setCell ((Lw3.trans Lw4).trans Lw5) hg _) hg _)
  have r0 : ((w5.setCell ⟨w3.heap.size, 0, none⟩ (.slice Wa PC.length Wc)).setCell ⟨w3.heap.size, 1, none⟩ (.slice Wd PE.length Wf)).cell? ⟨w3.heap.size, 0, none⟩ = some (.slice Wa PC.length Wc) := qCl
  have f_r0 : ((w5.setCell ⟨w3.heap.size, 0, none⟩ (.slice Wa PC.length Wc)).setCell ⟨w3.heap.size, 1, none⟩ (.slice Wd PE.length Wf)).frozen? ⟨w3.heap.size, 0, none⟩ = false := qFz
  have r1 : ((w5.setCell ⟨w3.heap.size, 0, none⟩ (.slice Wa PC.length Wc)).setCell ⟨w3.heap.size, 1, none⟩ (.slice Wd PE.length Wf)).cell? ⟨w3.heap.size, 1, none⟩ = some (.slice Wd PE.length Wf) := qCl
  have f_r1 : ((w5.setCell ⟨w3.heap.size, 0, none⟩ (.slice Wa PC.length Wc)).setCell ⟨w3.heap.size, 1, none⟩ (.slice Wd PE.length Wf)).frozen? ⟨w3.heap.size, 1, none⟩ = false := qFz
  have hg1 : w2.heap.size ≤ w3.heap.size := hg
  have KE : Chg w3.heap.size (w3.heap.size + 1) w5 ((w5.setCell ⟨w3.heap.size, 0, none⟩ (.slice Wa PC.length Wc)).setCell ⟨w3.heap.size, 1, none⟩ (.slice Wd PE.length Wf)) := (by repeat (first | (with_reducible exact Chg.refl _ _ _) | (with_reducible refine Chg.setCell ?_ qSo qSo _) | (with_reducible refine Chg.ext ?_ (Ext.alloc (Ext.refl _) _)) | (with_reducible refine Chg.ext ?_ (Ext.drew (Ext.refl _)))))
  replace cb0 := KE.cell (by omega) cb0
  replace cb1 := KE.cell (by omega) cb1
  replace cc10 := KE.cell (by omega) cc10
  replace cc11 := KE.cell (by omega) cc11
  replace cc12 := KE.cell (by omega) cc12
  clear bW
  clear iuW1
  clear ivW1
  replace iW := iW.chg KE (by omega)
  have ke_ := KE.size
  refine hK.out _ _ ⟨cb0, cb1, cc10, cc11, cc12⟩ (fun hHeld => ?_)
  clear hK K KE
  try simp only [Act.put, qa, qb, qc, qD, qE, qF]
  refine qHk (v := ?_) 10 rfl (.inl ⟨by rfl, ?_⟩) ?_
  rotate_left
  ·
   (intro w hSw; (try dsimp only at hSw); go_simp; try with_reducible rfl)
  try simp only [Act.put, qa, qb, qc, qD, qE, qF]
  refine wpAnyH_done qKr ?_ _
  clear hHeld
  generalize ((w5.setCell ⟨w3.heap.size, 0, none⟩ (.slice Wa PC.length Wc)).setCell ⟨w3.heap.size, 1, none⟩ (.slice Wd PE.length Wf)) = WE at *
  go_step
  go_step
  go_meet
  case rel => exact ⟨_, _, _, _, _, _, rfl, rfl, XE, hg1, r0, r1, iW.lower (Nat.zero_le _)⟩
  try simp only [Act.put, qa, qb, qc, qD, qE, qF]
  go_simp
  refine (toView_c b1 _ _ s1 t1 _ (h1.ext (X.trans (Lw3.trans qXt))) (k1.ext (X.trans (Lw3.trans qXt))) (by omega) (by omega)).mono ?_
  rintro e w4 ⟨uW1, vW1, rfl, iuW1, ivW1, -, -, -, xw4⟩
  have Lw4 : Ext w3 w4 := Ext.trans qXt xw4
  replace cb0 := Lw4.cell cb0
  replace cb1 := Lw4.cell cb1
  replace cc10 := Lw4.cell cc10
  replace cc11 := Lw4.cell cc11
  replace cc12 := Lw4.cell cc12
  replace bW := bW.ext Lw4
  have sz_w4 := Lw4.size
  refine hK.out _ _ ⟨cb0, cb1, cc10, cc11, cc12⟩ (fun hHeld => ?_)
  clear hK K
  try simp only [Act.put, qa, qb, qc, qD, qE, qF]
  refine wpAnyH_ready (rs := [4, 8]) qKr (by simp) ?_
  refine AllReadyH.cons rfl (fun K hK => ?_) (AllReadyH.cons rfl (fun K hK => ?_) AllReadyH.nil)
  rotate_left
  try simp only [Act.put, qa, qb, qc, qD, qE, qF]
  go_simp
  refine hK.out _ _ ⟨(show Ext w4 _ from qXt).cell cb0, (show Ext w4 _ from qXt).cell cb1, (show Ext w4 _ from qXt).cell cc10, (show Ext w4 _ from qXt).cell cc11, (show Ext w4 _ from qXt).cell cc12⟩ (fun hHeld => ?_)
  clear hK K
  try simp only [Act.put, qa, qb, qc, qD, qE, qF]
  have qa0 : (w4.alloc (.cells #[.slice none 0 0, .slice none 0 0] 32)).cell? ⟨w4.heap.size, 0, none⟩ = some (.slice none 0 0) := qCl
  have qf0 : (w4.alloc (.cells #[.slice none 0 0, .slice none 0 0] 32)).frozen? ⟨w4.heap.size, 0, none⟩ = false := qFz
  have qa1 : (w4.alloc (.cells #[.slice none 0 0, .slice none 0 0] 32)).cell? ⟨w4.heap.size, 1, none⟩ = some (.slice none 0 0) := qCl
  have qf1 : (w4.alloc (.cells #[.slice none 0 0, .slice none 0 0] 32)).frozen? ⟨w4.heap.size, 1, none⟩ = false := qFz
  have zg : w4.heap.size < (w4.alloc (.cells #[.slice none 0 0, .slice none 0 0] 32)).heap.size := qB qa0
  have hg : w2.heap.size ≤ w4.heap.size := ((Lw3.trans Lw4)).size
  refine qHr 4 rfl (fun K hK => ?_)
  have zp := zg
  try simp only [Act.put, qa, qb, qc, qD, qE, qF]
  go_simp
  refine (pbx_eq hP.out (specExportView_c cells es _ _ b1 _ _ s1 t1 _ _ _ (bW.ints.ext qXt) (bW.exps.ext qXt) _ _ (iuW1.ext qXt) (ivW1.ext qXt))).mono ?_
  rintro e w5 ⟨W1, W2, RW, rfl, iW, xw5⟩
  have Lw5 : Ext w4 w5 := Ext.trans qXt xw5
  replace cb0 := Lw5.cell cb0
  replace cb1 := Lw5.cell cb1
  replace cc10 := Lw5.cell cc10
  replace cc11 := Lw5.cell cc11
  replace cc12 := Lw5.cell cc12
  replace bW := bW.ext Lw5
  replace iuW1 := iuW1.ext Lw5
  replace ivW1 := ivW1.ext Lw5
  have sz_w5 := Lw5.size
  try simp only [World.size_alloc, World.size_drew] at iW
  obtain ⟨Wa, Wc, rfl⟩ := iW.ints.form
  obtain ⟨Wd, Wf, rfl⟩ := iW.exps.form
  replace qa0 := xw5.cell qa0
  replace qf0 := xw5.frz zg qf0
  replace qa1 := xw5.cell qa1
  replace qf1 := xw5.frz zg qf1
  replace zg := Nat.lt_of_lt_of_le zg xw5.size
  refine hK.out _ _ ⟨cb0, cb1, cc10, cc11, cc12⟩ (fun hHeld => ?_)
  clear hK K
  try simp only [Act.put, qa, qb, qc, qD, qE, qF]
  refine qHk (v := ?_) 5 rfl (.inl ⟨by rfl, ?_⟩) ?_
  rotate_left
  ·
   (intro w hSw; (try dsimp only at hSw); go_simp; try with_reducible rfl)
  try simp only [Act.put, qa, qb, qc, qD, qE, qF]
  refine qHk (v := ?_) 6 rfl (.inl ⟨by rfl, ?_⟩) ?_
  rotate_left
  ·
   (intro w hSw; (try dsimp only at hSw); go_simp; try with_reducible rfl)
  try simp only [Act.put, qa, qb, qc, qD, qE, qF]
  refine qHk (v := ?_) 7 rfl (.inl ⟨by rfl, ?_⟩) ?_
  rotate_left
  ·
   (intro w hSw; (try dsimp only at hSw); go_simp; try with_reducible rfl)
  try simp only [Act.put, qa, qb, qc, qD, qE, qF]
  refine qHr 9 rfl (fun K hK => ?_)
  try simp only [Act.put, qa, qb, qc, qD, qE, qF]
  go_simp
  have XE : Ext w2 ((w5.setCell ⟨w4.heap.size, 0, none⟩ (.slice Wa PC.length Wc)).setCell ⟨w4.heap.size, 1, none⟩ (.slice Wd PE.length Wf)) := (Ext.setCell (Ext.setCell ((Lw3.trans Lw4).trans Lw5) hg _) hg _)
  have r0 : ((w5.setCell ⟨w4.heap.size, 0, none⟩ (.slice Wa PC.length Wc)).setCell ⟨w4.heap.size, 1, none⟩ (.slice Wd PE.length Wf)).cell? ⟨w4.heap.size, 0, none⟩ = some (.slice Wa PC.length Wc) := qCl
  have f_r0 : ((w5.setCell ⟨w4.heap.size, 0, none⟩ (.slice Wa PC.length Wc)).setCell ⟨w4.heap.size, 1, none⟩ (.slice Wd PE.length Wf)).frozen? ⟨w4.heap.size, 0, none⟩ = false := qFz
  have r1 : ((w5.setCell ⟨w4.heap.size, 0, none⟩ (.slice Wa PC.length Wc)).setCell ⟨w4.heap.size, 1, none⟩ (.slice Wd PE.length Wf)).cell? ⟨w4.heap.size, 1, none⟩ = some (.slice Wd PE.length Wf) := qCl
  have f_r1 : ((w5.setCell ⟨w4.heap.size, 0, none⟩ (.slice Wa PC.length Wc)).setCell ⟨w4.heap.size, 1, none⟩ (.slice Wd PE.length Wf)).frozen? ⟨w4.heap.size, 1, none⟩ = false := qFz
  have hg1 : w2.heap.size ≤ w4.heap.size := hg
  have KE : Chg w4.heap.size (w4.heap.size + 1) w5 ((w5.setCell ⟨w4.heap.size, 0, none⟩ (.slice Wa PC.length Wc)).setCell ⟨w4.heap.size, 1, none⟩ (.slice Wd PE.length Wf)) := (by repeat (first | (with_reducible exact Chg.refl _ _ _) | (with_reducible refine Chg.setCell ?_ qSo qSo _) | (with_reducible refine Chg.ext ?_ (Ext.alloc (Ext.refl _) _)) | (with_reducible refine Chg.ext ?_ (Ext.drew (Ext.refl _)))))
  replace cb0 := KE.cell (by omega) cb0
  replace cb1 := KE.cell (by omega) cb1
  replace cc10 := KE.cell (by omega) cc10
  replace cc11 := KE.cell (by omega) cc11
  replace cc12 := KE.cell (by omega) cc12
  clear bW
  clear iuW1
  clear ivW1
  replace iW := iW.chg KE (by omega)
  have ke_ := KE.size
  refine hK.out _ _ ⟨cb0, cb1, cc10, cc11, cc12⟩ (fun hHeld => ?_)
  clear hK K KE
  try simp only [Act.put, qa, qb, qc, qD, qE, qF]
  refine qHk (v := ?_) 10 rfl (.inl ⟨by rfl, ?_⟩) ?_
  rotate_left
  ·
   (intro w hSw; (try dsimp only at hSw); go_simp; try with_reducible rfl)
  try simp only [Act.put, qa, qb, qc, qD, qE, qF]
  refine wpAnyH_done qKr ?_ _
  clear hHeld
  generalize ((w5.setCell ⟨w4.heap.size, 0, none⟩ (.slice Wa PC.length Wc)).setCell ⟨w4.heap.size, 1, none⟩ (.slice Wd PE.length Wf)) = WE at *
  go_step
  go_step
  go_meet
  case rel => exact ⟨_, _, _, _, _, _, rfl, rfl, XE, hg1, r0, r1, iW.lower (Nat.zero_le _)⟩
  try simp only [Act.put, qa, qb, qc, qD, qE, qF]
  go_simp
  refine (pbx_eq hP.out (specExportView_c cells es _ _ b1 _ _ s1 t1 _ _ _ (bW.ints.ext qXt) (bW.exps.ext qXt) _ _ (iuW1.ext qXt) (ivW1.ext qXt))).mono ?_
  rintro e w5 ⟨W1, W2, RW, rfl, iW, xw5⟩
  have Lw5 : Ext w4 w5 := Ext.trans qXt xw5
  replace cb0 := Lw5.cell cb0
  replace cb1 := Lw5.cell cb1
  replace cc10 := Lw5.cell cc10
  replace cc11 := Lw5.cell cc11
  replace cc12 := Lw5.cell cc12
  replace bW := bW.ext Lw5
  replace iuW1 := iuW1.ext Lw5
  replace ivW1 := ivW1.ext Lw5
  have sz_w5 := Lw5.size
  try simp only [World.size_alloc, World.size_drew] at iW
  obtain ⟨Wa, Wc, rfl⟩ := iW.ints.form
  obtain ⟨Wd, Wf, rfl⟩ := iW.exps.form
  refine hK.out _ _ ⟨cb0, cb1, cc10, cc11, cc12⟩ (fun hHeld => ?_)
  clear hK K
  try simp only [Act.put, qa, qb, qc, qD, qE, qF]
  refine qHk (v := ?_) 5 rfl (.inl ⟨by rfl, ?_⟩) ?_
  rotate_left
  ·
   (intro w hSw; (try dsimp only at hSw); go_simp; try with_reducible rfl)
  try simp only [Act.put, qa, qb, qc, qD, qE, qF]
  refine qHk (v := ?_) 6 rfl (.inl ⟨by rfl, ?_⟩) ?_
  rotate_left
  ·
   (intro w hSw; (try dsimp only at hSw); go_simp; try with_reducible rfl)
  try simp only [Act.put, qa, qb, qc, qD, qE, qF]
  refine qHk (v := ?_) 7 rfl (.inl ⟨by rfl, ?_⟩) ?_
  rotate_left
  ·
   (intro w hSw; (try dsimp only at hSw); go_simp; try with_reducible rfl)
  try simp only [Act.put, qa, qb, qc, qD, qE, qF]
  refine qHr 8 rfl (fun K hK => ?_)
  try simp only [Act.put, qa, qb, qc, qD, qE, qF]
  go_simp
  refine hK.out _ _ ⟨(show Ext w5 _ from qXt).cell cb0, (show Ext w5 _ from qXt).cell cb1, (show Ext w5 _ from qXt).cell cc10, (show Ext w5 _ from qXt).cell cc11, (show Ext w5 _ from qXt).cell cc12⟩ (fun hHeld => ?_)
  clear hK K
  try simp only [Act.put, qa, qb, qc, qD, qE, qF]
  refine qHr 9 rfl (fun K hK => ?_)
  try simp only [Act.put, qa, qb, qc, qD, qE, qF]
  go_simp
  have XE : Ext w2 (w5.alloc (.cells #[.slice Wa PC.length Wc, .slice Wd PE.length Wf] 32)) := ((Lw3.trans Lw4).trans Lw5).trans qXo
  have r0 : (w5.alloc (.cells #[.slice Wa PC.length Wc, .slice Wd PE.length Wf] 32)).cell? ⟨w5.heap.size, 0, none⟩ = some (.slice Wa PC.length Wc) := qCl
  have f_r0 : (w5.alloc (.cells #[.slice Wa PC.length Wc, .slice Wd PE.length Wf] 32)).frozen? ⟨w5.heap.size, 0, none⟩ = false := qFz
  have r1 : (w5.alloc (.cells #[.slice Wa PC.length Wc, .slice Wd PE.length Wf] 32)).cell? ⟨w5.heap.size, 1, none⟩ = some (.slice Wd PE.length Wf) := qCl
  have f_r1 : (w5.alloc (.cells #[.slice Wa PC.length Wc, .slice Wd PE.length Wf] 32)).frozen? ⟨w5.heap.size, 1, none⟩ = false := qFz
  have hg1 : w2.heap.size ≤ w5.heap.size := ((Lw3.trans Lw4).trans Lw5).size
  have KE : Ext w5 (w5.alloc (.cells #[.slice Wa PC.length Wc, .slice Wd PE.length Wf] 32)) := qXo
  replace cb0 := KE.cell cb0
  replace cb1 := KE.cell cb1
  replace cc10 := KE.cell cc10
  replace cc11 := KE.cell cc11
  replace cc12 := KE.cell cc12
  clear bW
  clear iuW1
  clear ivW1
  replace iW := iW.ext KE
  have ke_ := KE.size
  refine hK.out _ _ ⟨cb0, cb1, cc10, cc11, cc12⟩ (fun hHeld => ?_)
  clear hK K KE
  try simp only [Act.put, qa, qb, qc, qD, qE, qF]
  refine qHk (v := ?_) 10 rfl (.inl ⟨by rfl, ?_⟩) ?_
  rotate_left
  ·
   (intro w hSw; (try dsimp only at hSw); go_simp; try with_reducible rfl)
  try simp only [Act.put, qa, qb, qc, qD, qE, qF]
  refine wpAnyH_done qKr ?_ _
  clear hHeld
  generalize (w5.alloc (.cells #[.slice Wa PC.length Wc, .slice Wd PE.length Wf] 32)) = WE at *
  go_step
  go_step
  go_meet
  case rel => exact ⟨_, _, _, _, _, _, rfl, rfl, XE, hg1, r0, r1, iW.lower (Nat.zero_le _)⟩
 case rest =>
  generalize wc = w6 at hcut ⊢
  obtain ⟨gW, Wa, Wc, Wd, Wf, RW, rfl, rfl, xw6, hg_r, r0, r1, iW⟩ := hcut
  have Lw6 : Ext w2 w6 := xw6
  replace cb0 := Lw6.cell cb0
  replace cb1 := Lw6.cell cb1
  replace cc10 := Lw6.cell cc10
  replace cc11 := Lw6.cell cc11
  replace cc12 := Lw6.cell cc12
  replace X := X.trans Lw6
  have z5 : w.heap.size < w6.heap.size := qB cb0
  have z6 : w.heap.size + 1 < w6.heap.size := qB cc10
  have z7 : gW < w6.heap.size := qB r0
  have sw6 : w2.heap.size ≤ w6.heap.size := Lw6.size
  clear Lw6 xw6
  have EW : Ext w6 w6 := Ext.refl _
  go_wp2_with fail
  refine (toBuffer_c cells es _ _ _ _ _ (hc.ext (X.trans qXt)) (he.ext (X.trans qXt)) (by omega) (by omega) hm.out).mono ?_
  rintro e w7 ⟨uX, vX, RX, rfl, bX, xw7⟩
  have Lw7 : Ext w6 w7 := Ext.trans qXt xw7
  replace cb0 := Lw7.cell cb0
  replace cb1 := Lw7.cell cb1
  replace cc10 := Lw7.cell cc10
  replace cc11 := Lw7.cell cc11
  replace cc12 := Lw7.cell cc12
  replace r0 := Lw7.cell r0
  replace r1 := Lw7.cell r1
  replace X := X.trans Lw7
  replace EW := EW.trans Lw7
  have z8 : w.heap.size < w7.heap.size := qB cb0
  have z9 : w.heap.size + 1 < w7.heap.size := qB cc10
  have z10 : gW < w7.heap.size := qB r0
  have sw7 : w6.heap.size ≤ w7.heap.size := Lw7.size
  clear Lw7
  clear xw7
  replace bX := bX.lower (lo' := w6.heap.size) qSo
  have lX := bX.below
  obtain ⟨Xa, Xc, rfl⟩ := bX.ints.form
  obtain ⟨Xd, Xf, rfl⟩ := bX.exps.form
  go_wp2_with fail
  refine (toView_c b1 _ _ s1 t1 _ (h1.ext (X.trans qXt)) (k1.ext (X.trans qXt)) (by omega) (by omega)).mono ?_
  rintro e w8 ⟨uX1, vX1, rfl, iuX1, ivX1, ouX1, ovX1, hdX1, xw8⟩
  have Lw8 : Ext w7 w8 := Ext.trans qXt xw8
  replace cb0 := Lw8.cell cb0
  replace cb1 := Lw8.cell cb1
  replace cc10 := Lw8.cell cc10
  replace cc11 := Lw8.cell cc11
  replace cc12 := Lw8.cell cc12
  replace r0 := Lw8.cell r0
  replace r1 := Lw8.cell r1
  have x0 : w8.cell? ⟨w7.heap.size, 0, none⟩ = some (.slice Xa cells.length Xc) := xw8.cell qCl
  have x1 : w8.cell? ⟨w7.heap.size, 1, none⟩ = some (.slice Xd es.length Xf) := xw8.cell qCl
  replace bX := bX.ext Lw8
  replace X := X.trans Lw8
  replace EW := EW.trans Lw8
  have z11 : w.heap.size < w8.heap.size := qB cb0
  have z12 : w.heap.size + 1 < w8.heap.size := qB cc10
  have z13 : gW < w8.heap.size := qB r0
  have z14 : w7.heap.size < w8.heap.size := qB x0
  have sw8 : w7.heap.size ≤ w8.heap.size := Lw8.size
  clear Lw8
  clear xw8
  replace ouX1 := ouX1.lower (base' := w7.heap.size + 1) qSo
  replace ovX1 := ovX1.lower (base' := w7.heap.size + 1) qSo
  have buX1 := ouX1.bound
  have bvX1 := ovX1.bound
  obtain ⟨Xa1, Xc1, rfl⟩ := iuX1.form
  obtain ⟨Xd1, Xf1, rfl⟩ := ivX1.form
  clear iuX1 ivX1
  go_wp2_with fail
  refine (pbx_eq hP.out (implExportView_c cells es _ _ b1 _ _ s1 t1 _ _ _ (bX.ints.ext qXt) (bX.exps.ext qXt) _ _ ((ouX1.ints (by omega)).ext qXt) ((ovX1.ints (by omega)).ext qXt))).mono ?_
  rintro e w9 ⟨G1, G2, RG, rfl, bG, xw9⟩
  have Lw9 : Ext w8 w9 := Ext.trans qXt xw9
  replace cb0 := Lw9.cell cb0
  replace cb1 := Lw9.cell cb1
  replace cc10 := Lw9.cell cc10
  replace cc11 := Lw9.cell cc11
  replace cc12 := Lw9.cell cc12
  replace r0 := Lw9.cell r0
  replace r1 := Lw9.cell r1
  replace x0 := Lw9.cell x0
  replace x1 := Lw9.cell x1
  have xv10 : w9.cell? ⟨w8.heap.size, 0, none⟩ = some (.int .i64 b1) := xw9.cell qCl
  have xv11 : w9.cell? ⟨w8.heap.size, 1, none⟩ = some (.slice Xa1 s1.length Xc1) := xw9.cell qCl
  have xv12 : w9.cell? ⟨w8.heap.size, 2, none⟩ = some (.slice Xd1 t1.length Xf1) := xw9.cell qCl
  replace bX := bX.ext Lw9
  replace ouX1 := ouX1.ext Lw9
  replace ovX1 := ovX1.ext Lw9
  replace X := X.trans Lw9
  replace EW := EW.trans Lw9
  have z15 : w.heap.size < w9.heap.size := qB cb0
  have z16 : w.heap.size + 1 < w9.heap.size := qB cc10
  have z17 : gW < w9.heap.size := qB r0
  have z18 : w7.heap.size < w9.heap.size := qB x0
  have z19 : w8.heap.size < w9.heap.size := qB xv10
  have sw9 : w8.heap.size ≤ w9.heap.size := Lw9.size
  clear Lw9
  clear xw9
  replace bG := bG.lower (lo' := w8.heap.size + 1) qSo
  have lG := bG.below
  obtain ⟨Ga, Gc, rfl⟩ := bG.ints.form
  obtain ⟨Gd, Gf, rfl⟩ := bG.exps.form
  go_wp2_with fail
  refine (eqBuffer_c PC PE _ _ _ _ _ _ _ _ _ (bG.ints.ext qXt) (bG.exps.ext qXt) ((iW.ext EW).ints.ext qXt) ((iW.ext EW).exps.ext qXt)).mono ?_
  rintro e w10 ⟨rfl, xw10⟩
  have Lw10 : Ext w9 w10 := Ext.trans qXt xw10
  replace cb0 := Lw10.cell cb0
  replace cb1 := Lw10.cell cb1
  replace cc10 := Lw10.cell cc10
  replace cc11 := Lw10.cell cc11
  replace cc12 := Lw10.cell cc12
  replace r0 := Lw10.cell r0
  replace r1 := Lw10.cell r1
  replace x0 := Lw10.cell x0
  replace x1 := Lw10.cell x1
  replace xv10 := Lw10.cell xv10
  replace xv11 := Lw10.cell xv11
  replace xv12 := Lw10.cell xv12
  have gg0 : w10.cell? ⟨w9.heap.size, 0, none⟩ = some (.slice Ga PC.length Gc) := xw10.cell qCl
  have gg1 : w10.cell? ⟨w9.heap.size, 1, none⟩ = some (.slice Gd PE.length Gf) := xw10.cell qCl
  replace bX := bX.ext Lw10
  replace ouX1 := ouX1.ext Lw10
  replace ovX1 := ovX1.ext Lw10
  replace bG := bG.ext Lw10
  replace X := X.trans Lw10
  replace EW := EW.trans Lw10
  have z20 : w.heap.size < w10.heap.size := qB cb0
  have z21 : w.heap.size + 1 < w10.heap.size := qB cc10
  have z22 : gW < w10.heap.size := qB r0
  have z23 : w7.heap.size < w10.heap.size := qB x0
  have z24 : w8.heap.size < w10.heap.size := qB xv10
  have z25 : w9.heap.size < w10.heap.size := qB gg0
  have sw10 : w9.heap.size ≤ w10.heap.size := Lw10.size
  clear Lw10
  clear xw10
  go_wp2_with fail
  go_region_held3 (fun w' => w'.cell? ⟨w.heap.size, 0, none⟩ = some (.slice ac cells.length cc) ∧ w'.cell? ⟨w.heap.size, 1, none⟩ = some (.slice ae es.length ce) ∧ w'.cell? ⟨w.heap.size + 1, 0, none⟩ = some (.int .i64 b1) ∧ w'.cell? ⟨w.heap.size + 1, 1, none⟩ = some (.slice a1 s1.length f1) ∧ w'.cell? ⟨w.heap.size + 1, 2, none⟩ = some (.slice d1 t1.length g1) ∧ w'.cell? ⟨gW, 0, none⟩ = some (.slice Wa PC.length Wc) ∧ w'.cell? ⟨gW, 1, none⟩ = some (.slice Wd PE.length Wf) ∧ w'.cell? ⟨w7.heap.size, 0, none⟩ = some (.slice Xa cells.length Xc) ∧ w'.cell? ⟨w7.heap.size, 1, none⟩ = some (.slice Xd es.length Xf) ∧ w'.cell? ⟨w8.heap.size, 0, none⟩ = some (.int .i64 b1) ∧ w'.cell? ⟨w8.heap.size, 1, none⟩ = some (.slice Xa1 s1.length Xc1) ∧ w'.cell? ⟨w8.heap.size, 2, none⟩ = some (.slice Xd1 t1.length Xf1) ∧ w'.cell? ⟨w9.heap.size, 0, none⟩ = some (.slice Ga PC.length Gc) ∧ w'.cell? ⟨w9.heap.size, 1, none⟩ = some (.slice Gd PE.length Gf))
   (first
    | go_keep
    | exact ⟨Yw12.cell cb0, Yw12.cell cb1, Yw12.cell cc10, Yw12.cell cc11, Yw12.cell cc12, Yw12.cell r0, Yw12.cell r1, Yw12.cell x0, Yw12.cell x1, Yw12.cell xv10, Yw12.cell xv11, Yw12.cell xv12, Yw12.cell gg0, Yw12.cell gg1⟩
    | exact ⟨Yw11.cell cb0, Yw11.cell cb1, Yw11.cell cc10, Yw11.cell cc11, Yw11.cell cc12, Yw11.cell r0, Yw11.cell r1, Yw11.cell x0, Yw11.cell x1, Yw11.cell xv10, Yw11.cell xv11, Yw11.cell xv12, Yw11.cell gg0, Yw11.cell gg1⟩)
   (first
    | (go_at_call 19; refine (eqBuffer_c cells es _ _ _ _ _ _ _ _ _ (bX.ints.ext (Yw11.trans qXo)) (bX.exps.ext (Yw11.trans qXo)) (bu.ints.ext qXo) (bu.exps.ext qXo)).mono ?_; rintro e w12 ⟨rfl, xw12⟩; have Yw12 : Ext w10 w12 := Yw11.trans (Ext.trans qXo xw12); replace bu := bu.ext (Ext.trans qXo xw12))
    | (go_at_call 16; refine (toBuffer_c cells es _ _ _ _ _ (hc.ext (X.trans qXo)) (he.ext (X.trans qXo)) (by omega) (by omega) hm.out).mono ?_; rintro e w11 ⟨uu, vu, Ru, rfl, bu, xw11⟩; have Yw11 : Ext w10 w11 := Ext.trans qXo xw11))
  have Lw12 : Ext w10 w12 := Yw12
  replace cb0 := Lw12.cell cb0
  replace cb1 := Lw12.cell cb1
  replace cc10 := Lw12.cell cc10
  replace cc11 := Lw12.cell cc11
  replace cc12 := Lw12.cell cc12
  replace r0 := Lw12.cell r0
  replace r1 := Lw12.cell r1
  replace x0 := Lw12.cell x0
  replace x1 := Lw12.cell x1
  replace xv10 := Lw12.cell xv10
  replace xv11 := Lw12.cell xv11
  replace xv12 := Lw12.cell xv12
  replace gg0 := Lw12.cell gg0
  replace gg1 := Lw12.cell gg1
  replace bX := bX.ext Lw12
  replace ouX1 := ouX1.ext Lw12
  replace ovX1 := ovX1.ext Lw12
  replace bG := bG.ext Lw12
  replace X := X.trans Lw12
  replace EW := EW.trans Lw12
  have z26 : w.heap.size < w12.heap.size := qB cb0
  have z27 : w.heap.size + 1 < w12.heap.size := qB cc10
  have z28 : gW < w12.heap.size := qB r0
  have z29 : w7.heap.size < w12.heap.size := qB x0
  have z30 : w8.heap.size < w12.heap.size := qB xv10
  have z31 : w9.heap.size < w12.heap.size := qB gg0
  have sw12 : w10.heap.size ≤ w12.heap.size := Lw12.size
  clear bu
  go_wp2_with fail
  go_region_held3 (fun w' => w'.cell? ⟨w.heap.size, 0, none⟩ = some (.slice ac cells.length cc) ∧ w'.cell? ⟨w.heap.size, 1, none⟩ = some (.slice ae es.length ce) ∧ w'.cell? ⟨w.heap.size + 1, 0, none⟩ = some (.int .i64 b1) ∧ w'.cell? ⟨w.heap.size + 1, 1, none⟩ = some (.slice a1 s1.length f1) ∧ w'.cell? ⟨w.heap.size + 1, 2, none⟩ = some (.slice d1 t1.length g1) ∧ w'.cell? ⟨gW, 0, none⟩ = some (.slice Wa PC.length Wc) ∧ w'.cell? ⟨gW, 1, none⟩ = some (.slice Wd PE.length Wf) ∧ w'.cell? ⟨w7.heap.size, 0, none⟩ = some (.slice Xa cells.length Xc) ∧ w'.cell? ⟨w7.heap.size, 1, none⟩ = some (.slice Xd es.length Xf) ∧ w'.cell? ⟨w8.heap.size, 0, none⟩ = some (.int .i64 b1) ∧ w'.cell? ⟨w8.heap.size, 1, none⟩ = some (.slice Xa1 s1.length Xc1) ∧ w'.cell? ⟨w8.heap.size, 2, none⟩ = some (.slice Xd1 t1.length Xf1) ∧ w'.cell? ⟨w9.heap.size, 0, none⟩ = some (.slice Ga PC.length Gc) ∧ w'.cell? ⟨w9.heap.size, 1, none⟩ = some (.slice Gd PE.length Gf))
   (first
    | go_keep
    | exact ⟨Yw14.cell cb0, Yw14.cell cb1, Yw14.cell cc10, Yw14.cell cc11, Yw14.cell cc12, Yw14.cell r0, Yw14.cell r1, Yw14.cell x0, Yw14.cell x1, Yw14.cell xv10, Yw14.cell xv11, Yw14.cell xv12, Yw14.cell gg0, Yw14.cell gg1⟩
    | exact ⟨Yw13.cell cb0, Yw13.cell cb1, Yw13.cell cc10, Yw13.cell cc11, Yw13.cell cc12, Yw13.cell r0, Yw13.cell r1, Yw13.cell x0, Yw13.cell x1, Yw13.cell xv10, Yw13.cell xv11, Yw13.cell xv12, Yw13.cell gg0, Yw13.cell gg1⟩)
   (first
    | (go_at_call 20; refine (eqView_c b1 _ _ _ _ s1 t1 _ _ _ _ _ ((ouX1.ints (by omega)).ext (Yw13.trans qXo)) ((ovX1.ints (by omega)).ext (Yw13.trans qXo)) (iu.ext qXo) (iv.ext qXo)).mono ?_; rintro e w14 ⟨rfl, xw14⟩; have Yw14 : Ext w12 w14 := Yw13.trans (Ext.trans qXo xw14); replace iu := iu.ext (Ext.trans qXo xw14); replace iv := iv.ext (Ext.trans qXo xw14))
    | (go_at_call 17; refine (toView_c b1 _ _ s1 t1 _ (h1.ext (X.trans qXo)) (k1.ext (X.trans qXo)) (by omega) (by omega)).mono ?_; rintro e w13 ⟨u, v, rfl, iu, iv, _, _, _, xw13⟩; have Yw13 : Ext w12 w13 := Ext.trans qXo xw13))
  have Lw14 : Ext w12 w14 := Yw14
  replace cb0 := Lw14.cell cb0
  replace cb1 := Lw14.cell cb1
  replace cc10 := Lw14.cell cc10
  replace cc11 := Lw14.cell cc11
  replace cc12 := Lw14.cell cc12
  replace r0 := Lw14.cell r0
  replace r1 := Lw14.cell r1
  replace x0 := Lw14.cell x0
  replace x1 := Lw14.cell x1
  replace xv10 := Lw14.cell xv10
  replace xv11 := Lw14.cell xv11
  replace xv12 := Lw14.cell xv12
  replace gg0 := Lw14.cell gg0
  replace gg1 := Lw14.cell gg1
  replace bX := bX.ext Lw14
  replace ouX1 := ouX1.ext Lw14
  replace ovX1 := ovX1.ext Lw14
  replace bG := bG.ext Lw14
  replace X := X.trans Lw14
  replace EW := EW.trans Lw14
  have z32 : w.heap.size < w14.heap.size := qB cb0
  have z33 : w.heap.size + 1 < w14.heap.size := qB cc10
  have z34 : gW < w14.heap.size := qB r0
  have z35 : w7.heap.size < w14.heap.size := qB x0
  have z36 : w8.heap.size < w14.heap.size := qB xv10
  have z37 : w9.heap.size < w14.heap.size := qB gg0
  have sw14 : w12.heap.size ≤ w14.heap.size := Lw14.size
  clear iu iv
  go_wp2_with fail
  refine (markBuffer_c cells es _ 1 _ _ _ (w6.heap.size) (w7.heap.size) (bX.ext qXt) lX (Nat.le_trans (by omega) (Ext.size (show Ext w14 _ from qXt))) (by omega) (by rw [hK1.out]; omega)).mono ?_
  rintro e w15 ⟨rfl, -, kw15⟩
  have Kw15 : Chg (w6.heap.size) (w7.heap.size) w14 w15 := (Chg.of_ext qXt).trans kw15
  have sw15 : w14.heap.size ≤ w15.heap.size := Kw15.size
  replace X := Ext.chg X Kw15 (by omega)
  replace EW := Ext.chg EW Kw15 (by omega)
  replace cb0 := Kw15.cell (by first | (left; omega) | (right; omega) | omega) cb0
  replace cb1 := Kw15.cell (by first | (left; omega) | (right; omega) | omega) cb1
  replace cc10 := Kw15.cell (by first | (left; omega) | (right; omega) | omega) cc10
  replace cc11 := Kw15.cell (by first | (left; omega) | (right; omega) | omega) cc11
  replace cc12 := Kw15.cell (by first | (left; omega) | (right; omega) | omega) cc12
  replace r0 := Kw15.cell (by first | (left; omega) | (right; omega) | omega) r0
  replace r1 := Kw15.cell (by first | (left; omega) | (right; omega) | omega) r1
  replace x0 := Kw15.cell (by first | (left; omega) | (right; omega) | omega) x0
  replace x1 := Kw15.cell (by first | (left; omega) | (right; omega) | omega) x1
  replace xv10 := Kw15.cell (by first | (left; omega) | (right; omega) | omega) xv10
  replace xv11 := Kw15.cell (by first | (left; omega) | (right; omega) | omega) xv11
  replace xv12 := Kw15.cell (by first | (left; omega) | (right; omega) | omega) xv12
  replace gg0 := Kw15.cell (by first | (left; omega) | (right; omega) | omega) gg0
  replace gg1 := Kw15.cell (by first | (left; omega) | (right; omega) | omega) gg1
  replace ouX1 := ouX1.chg Kw15 (by omega)
  replace ovX1 := ovX1.chg Kw15 (by omega)
  replace bG := bG.chg Kw15 (by omega)
  have z38 : w.heap.size < w15.heap.size := qB cb0
  have z39 : w.heap.size + 1 < w15.heap.size := qB cc10
  have z40 : gW < w15.heap.size := qB r0
  have z41 : w7.heap.size < w15.heap.size := qB x0
  have z42 : w8.heap.size < w15.heap.size := qB xv10
  have z43 : w9.heap.size < w15.heap.size := qB gg0
  clear Kw15 kw15
  clear bX
  rw [hK1.out]
  go_wp2_with fail
  refine (markView_c b1 _ _ s1 t1 K1 _ (w7.heap.size + 1) (w8.heap.size) (ouX1.ext qXt) (ovX1.ext qXt) hdX1 buX1 bvX1 (Nat.le_trans (by omega) (Ext.size (show Ext w15 _ from qXt))) (by omega) (by omega) (by omega) (by omega)).mono ?_
  rintro e w16 ⟨rfl, -, -, kw16⟩
  have Kw16 : Chg (w7.heap.size + 1) (w8.heap.size) w15 w16 := (Chg.of_ext qXt).trans kw16
  have sw16 : w15.heap.size ≤ w16.heap.size := Kw16.size
  replace X := Ext.chg X Kw16 (by omega)
  replace EW := Ext.chg EW Kw16 (by omega)
  replace cb0 := Kw16.cell (by first | (left; omega) | (right; omega) | omega) cb0
  replace cb1 := Kw16.cell (by first | (left; omega) | (right; omega) | omega) cb1
  replace cc10 := Kw16.cell (by first | (left; omega) | (right; omega) | omega) cc10
  replace cc11 := Kw16.cell (by first | (left; omega) | (right; omega) | omega) cc11
  replace cc12 := Kw16.cell (by first | (left; omega) | (right; omega) | omega) cc12
  replace r0 := Kw16.cell (by first | (left; omega) | (right; omega) | omega) r0
  replace r1 := Kw16.cell (by first | (left; omega) | (right; omega) | omega) r1
  replace x0 := Kw16.cell (by first | (left; omega) | (right; omega) | omega) x0
  replace x1 := Kw16.cell (by first | (left; omega) | (right; omega) | omega) x1
  replace xv10 := Kw16.cell (by first | (left; omega) | (right; omega) | omega) xv10
  replace xv11 := Kw16.cell (by first | (left; omega) | (right; omega) | omega) xv11
  replace xv12 := Kw16.cell (by first | (left; omega) | (right; omega) | omega) xv12
  replace gg0 := Kw16.cell (by first | (left; omega) | (right; omega) | omega) gg0
  replace gg1 := Kw16.cell (by first | (left; omega) | (right; omega) | omega) gg1
  replace bG := bG.chg Kw16 (by omega)
  have z44 : w.heap.size < w16.heap.size := qB cb0
  have z45 : w.heap.size + 1 < w16.heap.size := qB cc10
  have z46 : gW < w16.heap.size := qB r0
  have z47 : w7.heap.size < w16.heap.size := qB x0
  have z48 : w8.heap.size < w16.heap.size := qB xv10
  have z49 : w9.heap.size < w16.heap.size := qB gg0
  clear Kw16 kw16
  clear ouX1 ovX1
  go_wp2_with fail
  refine (eqBuffer_c PC PE _ _ _ _ _ _ _ _ _ (bG.ints.ext qXt) (bG.exps.ext qXt) ((iW.ext EW).ints.ext qXt) ((iW.ext EW).exps.ext qXt)).mono ?_
  rintro e w17 ⟨rfl, xw17⟩
  have Lw17 : Ext w16 w17 := Ext.trans qXt xw17
  replace cb0 := Lw17.cell cb0
  replace cb1 := Lw17.cell cb1
  replace cc10 := Lw17.cell cc10
  replace cc11 := Lw17.cell cc11
  replace cc12 := Lw17.cell cc12
  replace r0 := Lw17.cell r0
  replace r1 := Lw17.cell r1
  replace x0 := Lw17.cell x0
  replace x1 := Lw17.cell x1
  replace xv10 := Lw17.cell xv10
  replace xv11 := Lw17.cell xv11
  replace xv12 := Lw17.cell xv12
  replace gg0 := Lw17.cell gg0
  replace gg1 := Lw17.cell gg1
  replace bG := bG.ext Lw17
  replace X := X.trans Lw17
  replace EW := EW.trans Lw17
  have z50 : w.heap.size < w17.heap.size := qB cb0
  have z51 : w.heap.size + 1 < w17.heap.size := qB cc10
  have z52 : gW < w17.heap.size := qB r0
  have z53 : w7.heap.size < w17.heap.size := qB x0
  have z54 : w8.heap.size < w17.heap.size := qB xv10
  have z55 : w9.heap.size < w17.heap.size := qB gg0
  have sw17 : w16.heap.size ≤ w17.heap.size := Lw17.size
  clear Lw17
  clear xw17
  go_wp2_with fail
  refine (markBuffer_c PC PE _ 1 _ _ _ (w8.heap.size + 1) (w9.heap.size) (bG.ext qXt) lG (Nat.le_trans (by omega) (Ext.size (show Ext w17 _ from qXt))) (by omega) (by rw [hK2.out]; omega)).mono ?_
  rintro e w18 ⟨rfl, bH, kw18⟩
  have Kw18 : Chg (w8.heap.size + 1) (w9.heap.size) w17 w18 := (Chg.of_ext qXt).trans kw18
  have sw18 : w17.heap.size ≤ w18.heap.size := Kw18.size
  replace X := Ext.chg X Kw18 (by omega)
  replace EW := Ext.chg EW Kw18 (by omega)
  replace cb0 := Kw18.cell (by first | (left; omega) | (right; omega) | omega) cb0
  replace cb1 := Kw18.cell (by first | (left; omega) | (right; omega) | omega) cb1
  replace cc10 := Kw18.cell (by first | (left; omega) | (right; omega) | omega) cc10
  replace cc11 := Kw18.cell (by first | (left; omega) | (right; omega) | omega) cc11
  replace cc12 := Kw18.cell (by first | (left; omega) | (right; omega) | omega) cc12
  replace r0 := Kw18.cell (by first | (left; omega) | (right; omega) | omega) r0
  replace r1 := Kw18.cell (by first | (left; omega) | (right; omega) | omega) r1
  replace x0 := Kw18.cell (by first | (left; omega) | (right; omega) | omega) x0
  replace x1 := Kw18.cell (by first | (left; omega) | (right; omega) | omega) x1
  replace xv10 := Kw18.cell (by first | (left; omega) | (right; omega) | omega) xv10
  replace xv11 := Kw18.cell (by first | (left; omega) | (right; omega) | omega) xv11
  replace xv12 := Kw18.cell (by first | (left; omega) | (right; omega) | omega) xv12
  replace gg0 := Kw18.cell (by first | (left; omega) | (right; omega) | omega) gg0
  replace gg1 := Kw18.cell (by first | (left; omega) | (right; omega) | omega) gg1
  have z56 : w.heap.size < w18.heap.size := qB cb0
  have z57 : w.heap.size + 1 < w18.heap.size := qB cc10
  have z58 : gW < w18.heap.size := qB r0
  have z59 : w7.heap.size < w18.heap.size := qB x0
  have z60 : w8.heap.size < w18.heap.size := qB xv10
  have z61 : w9.heap.size < w18.heap.size := qB gg0
  clear Kw18 kw18
  clear bG
  rw [hK2.out]
  go_wp2_with fail
  refine (heldBuffer_c PC.length PE 1 _ _ _ _ _ (bH.ints.ext qXt) (bH.exps.ext qXt) (fun i hi => by have := hSr.out i hi; omega) (by omega) (by rw [hK2.out]; omega)).mono ?_
  rintro e w19 ⟨rfl, xw19⟩
  have Lw19 : Ext w18 w19 := Ext.trans qXt xw19
  replace cb0 := Lw19.cell cb0
  replace cb1 := Lw19.cell cb1
  replace cc10 := Lw19.cell cc10
  replace cc11 := Lw19.cell cc11
  replace cc12 := Lw19.cell cc12
  replace r0 := Lw19.cell r0
  replace r1 := Lw19.cell r1
  replace x0 := Lw19.cell x0
  replace x1 := Lw19.cell x1
  replace xv10 := Lw19.cell xv10
  replace xv11 := Lw19.cell xv11
  replace xv12 := Lw19.cell xv12
  replace gg0 := Lw19.cell gg0
  replace gg1 := Lw19.cell gg1
  replace bH := bH.ext Lw19
  replace X := X.trans Lw19
  replace EW := EW.trans Lw19
  have z62 : w.heap.size < w19.heap.size := qB cb0
  have z63 : w.heap.size + 1 < w19.heap.size := qB cc10
  have z64 : gW < w19.heap.size := qB r0
  have z65 : w7.heap.size < w19.heap.size := qB x0
  have z66 : w8.heap.size < w19.heap.size := qB xv10
  have z67 : w9.heap.size < w19.heap.size := qB gg0
  have sw19 : w18.heap.size ≤ w19.heap.size := Lw19.size
  clear Lw19
  clear xw19
  rw [hK2.out]
  go_wp2_with fail
  go_cut [15, 16] (fun s0 s1 wx => ∃ (gZ : Nat) (Ha : Option Addr) (Hc : Nat) (Hd : Option Addr) (Hf : Nat) (RH : Nat → Value), s0 = .pointer (some ⟨gZ, 0, none⟩) ∧ s1 = .bool true ∧ Ext w19 wx ∧ w19.heap.size ≤ gZ ∧ wx.cell? ⟨gZ, 0, none⟩ = some (.slice Ha PC.length Hc) ∧ wx.cell? ⟨gZ, 1, none⟩ = some (.slice Hd PE.length Hf) ∧ BufR wx 0 (.slice Ha PC.length Hc) (.slice Hd PE.length Hf) PC PE RH)
  case first =>
   refine wp_region_held_drew (S := fun w' => w'.cell? ⟨w.heap.size, 0, none⟩ = some (.slice ac cells.length cc) ∧ w'.cell? ⟨w.heap.size, 1, none⟩ = some (.slice ae es.length ce) ∧ w'.cell? ⟨w.heap.size + 1, 0, none⟩ = some (.int .i64 b1) ∧ w'.cell? ⟨w.heap.size + 1, 1, none⟩ = some (.slice a1 s1.length f1) ∧ w'.cell? ⟨w.heap.size + 1, 2, none⟩ = some (.slice d1 t1.length g1) ∧ w'.cell? ⟨gW, 0, none⟩ = some (.slice Wa PC.length Wc) ∧ w'.cell? ⟨gW, 1, none⟩ = some (.slice Wd PE.length Wf) ∧ w'.cell? ⟨w7.heap.size, 0, none⟩ = some (.slice Xa cells.length Xc) ∧ w'.cell? ⟨w7.heap.size, 1, none⟩ = some (.slice Xd es.length Xf) ∧ w'.cell? ⟨w8.heap.size, 0, none⟩ = some (.int .i64 b1) ∧ w'.cell? ⟨w8.heap.size, 1, none⟩ = some (.slice Xa1 s1.length Xc1) ∧ w'.cell? ⟨w8.heap.size, 2, none⟩ = some (.slice Xd1 t1.length Xf1) ∧ w'.cell? ⟨w9.heap.size, 0, none⟩ = some (.slice Ga PC.length Gc) ∧ w'.cell? ⟨w9.heap.size, 1, none⟩ = some (.slice Gd PE.length Gf)) qKr ⟨cb0, cb1, cc10, cc11, cc12, r0, r1, x0, x1, xv10, xv11, xv12, gg0, gg1⟩ (fun hHeld => ?_)
   refine qHk (v := ?_) 0 rfl (.inl ⟨by rfl, ?_⟩) ?_
   rotate_left
   ·
    (intro w hSw; (try dsimp only at hSw); go_simp; try with_reducible rfl)
   try simp only [Act.put, qa, qb, qc, qD, qE, qF]
   refine qHk (v := ?_) 2 rfl (.inl ⟨by rfl, ?_⟩) ?_
   rotate_left
   ·
    (intro w hSw; (try dsimp only at hSw); go_simp; try with_reducible rfl)
   try simp only [Act.put, qa, qb, qc, qD, qE, qF]
   refine wpAnyH_ready (rs := [1, 8]) qKr (by simp) ?_
   refine AllReadyH.cons rfl (fun K hK => ?_) (AllReadyH.cons rfl (fun K hK => ?_) AllReadyH.nil)
   rotate_left
   try simp only [Act.put, qa, qb, qc, qD, qE, qF]
   go_simp
   refine hK.out _ _ ⟨(show Ext w19 _ from qXt).cell cb0, (show Ext w19 _ from qXt).cell cb1, (show Ext w19 _ from qXt).cell cc10, (show Ext w19 _ from qXt).cell cc11, (show Ext w19 _ from qXt).cell cc12, (show Ext w19 _ from qXt).cell r0, (show Ext w19 _ from qXt).cell r1, (show Ext w19 _ from qXt).cell x0, (show Ext w19 _ from qXt).cell x1, (show Ext w19 _ from qXt).cell xv10, (show Ext w19 _ from qXt).cell xv11, (show Ext w19 _ from qXt).cell xv12, (show Ext w19 _ from qXt).cell gg0, (show Ext w19 _ from qXt).cell gg1⟩ (fun hHeld => ?_)
   clear hK K
   try simp only [Act.put, qa, qb, qc, qD, qE, qF]
   have qa0 : (w19.drew.alloc (.cells #[.slice none 0 0, .slice none 0 0] 32)).cell? ⟨w19.heap.size, 0, none⟩ = some (.slice none 0 0) := qCl
   have qf0 : (w19.drew.alloc (.cells #[.slice none 0 0, .slice none 0 0] 32)).frozen? ⟨w19.heap.size, 0, none⟩ = false := qFz
   have qa1 : (w19.drew.alloc (.cells #[.slice none 0 0, .slice none 0 0] 32)).cell? ⟨w19.heap.size, 1, none⟩ = some (.slice none 0 0) := qCl
   have qf1 : (w19.drew.alloc (.cells #[.slice none 0 0, .slice none 0 0] 32)).frozen? ⟨w19.heap.size, 1, none⟩ = false := qFz
   have zg : w19.heap.size < (w19.drew.alloc (.cells #[.slice none 0 0, .slice none 0 0] 32)).heap.size := qB qa0
   have hg : w19.heap.size ≤ w19.heap.size := Nat.le_refl _
   refine qHr 1 rfl (fun K hK => ?_)
   have zp := zg
   try simp only [Act.put, qa, qb, qc, qD, qE, qF]
   go_simp
   refine (toBuffer_c cells es _ _ _ _ _ (hc.ext (X.trans qXt)) (he.ext (X.trans qXt)) (by omega) (by omega) hm.out).mono ?_
   rintro e w20 ⟨uZ, vZ, RZ, rfl, bZ, xw20⟩
   have Lw20 : Ext w19 w20 := Ext.trans qXt xw20
   replace cb0 := Lw20.cell cb0
   replace cb1 := Lw20.cell cb1
   replace cc10 := Lw20.cell cc10
   replace cc11 := Lw20.cell cc11
   replace cc12 := Lw20.cell cc12
   replace r0 := Lw20.cell r0
   replace r1 := Lw20.cell r1
   replace x0 := Lw20.cell x0
   replace x1 := Lw20.cell x1
   replace xv10 := Lw20.cell xv10
   replace xv11 := Lw20.cell xv11
   replace xv12 := Lw20.cell xv12
   replace gg0 := Lw20.cell gg0
   replace gg1 := Lw20.cell gg1
   have sz_w20 := Lw20.size
   replace qa0 := xw20.cell qa0
   replace qf0 := xw20.frz zg qf0
   replace qa1 := xw20.cell qa1
   replace qf1 := xw20.frz zg qf1
   replace zg := Nat.lt_of_lt_of_le zg xw20.size
   refine hK.out _ _ ⟨cb0, cb1, cc10, cc11, cc12, r0, r1, x0, x1, xv10, xv11, xv12, gg0, gg1⟩ (fun hHeld => ?_)
   clear hK K
   try simp only [Act.put, qa, qb, qc, qD, qE, qF]
   refine qHr 3 rfl (fun K hK => ?_)
   have zp := zg
   try simp only [Act.put, qa, qb, qc, qD, qE, qF]
   go_simp
   refine (toView_c b1 _ _ s1 t1 _ (h1.ext (X.trans (Lw20.trans qXt))) (k1.ext (X.trans (Lw20.trans qXt))) (by omega) (by omega)).mono ?_
   rintro e w21 ⟨uZ1, vZ1, rfl, iuZ1, ivZ1, -, -, -, xw21⟩
   have Lw21 : Ext w20 w21 := Ext.trans qXt xw21
   replace cb0 := Lw21.cell cb0
   replace cb1 := Lw21.cell cb1
   replace cc10 := Lw21.cell cc10
   replace cc11 := Lw21.cell cc11
   replace cc12 := Lw21.cell cc12
   replace r0 := Lw21.cell r0
   replace r1 := Lw21.cell r1
   replace x0 := Lw21.cell x0
   replace x1 := Lw21.cell x1
   replace xv10 := Lw21.cell xv10
   replace xv11 := Lw21.cell xv11
   replace xv12 := Lw21.cell xv12
   replace gg0 := Lw21.cell gg0
   replace gg1 := Lw21.cell gg1
   replace bZ := bZ.ext Lw21
   have sz_w21 := Lw21.size
   replace qa0 := xw21.cell qa0
   replace qf0 := xw21.frz zg qf0
   replace qa1 := xw21.cell qa1
   replace qf1 := xw21.frz zg qf1
   replace zg := Nat.lt_of_lt_of_le zg xw21.size
   refine hK.out _ _ ⟨cb0, cb1, cc10, cc11, cc12, r0, r1, x0, x1, xv10, xv11, xv12, gg0, gg1⟩ (fun hHeld => ?_)
   clear hK K
   try simp only [Act.put, qa, qb, qc, qD, qE, qF]
   refine qHr 4 rfl (fun K hK => ?_)
   have zp := zg
   try simp only [Act.put, qa, qb, qc, qD, qE, qF]
   go_simp
   refine (pbx_eq hP.out (implExportView_c cells es _ _ b1 _ _ s1 t1 _ _ _ (bZ.ints.ext qXt) (bZ.exps.ext qXt) _ _ (iuZ1.ext qXt) (ivZ1.ext qXt))).mono ?_
   rintro e w22 ⟨H1, H2, RH, rfl, iH, xw22⟩
   have Lw22 : Ext w21 w22 := Ext.trans qXt xw22
   replace cb0 := Lw22.cell cb0
   replace cb1 := Lw22.cell cb1
   replace cc10 := Lw22.cell cc10
   replace cc11 := Lw22.cell cc11
   replace cc12 := Lw22.cell cc12
   replace r0 := Lw22.cell r0
   replace r1 := Lw22.cell r1
   replace x0 := Lw22.cell x0
   replace x1 := Lw22.cell x1
   replace xv10 := Lw22.cell xv10
   replace xv11 := Lw22.cell xv11
   replace xv12 := Lw22.cell xv12
   replace gg0 := Lw22.cell gg0
   replace gg1 := Lw22.cell gg1
   replace bZ := bZ.ext Lw22
   replace iuZ1 := iuZ1.ext Lw22
   replace ivZ1 := ivZ1.ext Lw22
   have sz_w22 := Lw22.size
   try simp only [World.size_alloc, World.size_drew] at iH
   obtain ⟨Ha, Hc, rfl⟩ := iH.ints.form
   obtain ⟨Hd, Hf, rfl⟩ := iH.exps.form
   replace qa0 := xw22.cell qa0
   replace qf0 := xw22.frz zg qf0
   replace qa1 := xw22.cell qa1
   replace qf1 := xw22.frz zg qf1
   replace zg := Nat.lt_of_lt_of_le zg xw22.size
   refine hK.out _ _ ⟨cb0, cb1, cc10, cc11, cc12, r0, r1, x0, x1, xv10, xv11, xv12, gg0, gg1⟩ (fun hHeld => ?_)
   clear hK K
   try simp only [Act.put, qa, qb, qc, qD, qE, qF]
   refine qHk (v := ?_) 5 rfl (.inl ⟨by rfl, ?_⟩) ?_
   rotate_left
   ·
    (intro w hSw; (try dsimp only at hSw); go_simp; try with_reducible rfl)
   try simp only [Act.put, qa, qb, qc, qD, qE, qF]
   refine qHk (v := ?_) 6 rfl (.inl ⟨by rfl, ?_⟩) ?_
   rotate_left
   ·
    (intro w hSw; (try dsimp only at hSw); go_simp; try with_reducible rfl)
   try simp only [Act.put, qa, qb, qc, qD, qE, qF]
   refine qHk (v := ?_) 7 rfl (.inl ⟨by rfl, ?_⟩) ?_
   rotate_left
   ·
    (intro w hSw; (try dsimp only at hSw); go_simp; try with_reducible rfl)
   try simp only [Act.put, qa, qb, qc, qD, qE, qF]
   refine qHr 9 rfl (fun K hK => ?_)
   try simp only [Act.put, qa, qb, qc, qD, qE, qF]
   go_simp
   have XE : Ext w19 ((w22.setCell ⟨w19.heap.size, 0, none⟩ (.slice Ha PC.length Hc)).setCell ⟨w19.heap.size, 1, none⟩ (.slice Hd PE.length Hf)) := (Ext.setCell (Ext.setCell ((Lw20.trans Lw21).trans Lw22) hg _) hg _)
   have y0 : ((w22.setCell ⟨w19.heap.size, 0, none⟩ (.slice Ha PC.length Hc)).setCell ⟨w19.heap.size, 1, none⟩ (.slice Hd PE.length Hf)).cell? ⟨w19.heap.size, 0, none⟩ = some (.slice Ha PC.length Hc) := qCl
   have f_y0 : ((w22.setCell ⟨w19.heap.size, 0, none⟩ (.slice Ha PC.length Hc)).setCell ⟨w19.heap.size, 1, none⟩ (.slice Hd PE.length Hf)).frozen? ⟨w19.heap.size, 0, none⟩ = false := qFz
   have y1 : ((w22.setCell ⟨w19.heap.size, 0, none⟩ (.slice Ha PC.length Hc)).setCell ⟨w19.heap.size, 1, none⟩ (.slice Hd PE.length Hf)).cell? ⟨w19.heap.size, 1, none⟩ = some (.slice Hd PE.length Hf) := qCl
   have f_y1 : ((w22.setCell ⟨w19.heap.size, 0, none⟩ (.slice Ha PC.length Hc)).setCell ⟨w19.heap.size, 1, none⟩ (.slice Hd PE.length Hf)).frozen? ⟨w19.heap.size, 1, none⟩ = false := qFz
   have hg1 : w19.heap.size ≤ w19.heap.size := hg
   have KE : Chg w19.heap.size (w19.heap.size + 1) w22 ((w22.setCell ⟨w19.heap.size, 0, none⟩ (.slice Ha PC.length Hc)).setCell ⟨w19.heap.size, 1, none⟩ (.slice Hd PE.length Hf)) := (by repeat (first | (with_reducible exact Chg.refl _ _ _) | (with_reducible refine Chg.setCell ?_ qSo qSo _) | (with_reducible refine Chg.ext ?_ (Ext.alloc (Ext.refl _) _)) | (with_reducible refine Chg.ext ?_ (Ext.drew (Ext.refl _)))))
   replace cb0 := KE.cell (by omega) cb0
   replace cb1 := KE.cell (by omega) cb1
   replace cc10 := KE.cell (by omega) cc10
   replace cc11 := KE.cell (by omega) cc11
   replace cc12 := KE.cell (by omega) cc12
   replace r0 := KE.cell (by omega) r0
   replace r1 := KE.cell (by omega) r1
   replace x0 := KE.cell (by omega) x0
   replace x1 := KE.cell (by omega) x1
   replace xv10 := KE.cell (by omega) xv10
   replace xv11 := KE.cell (by omega) xv11
   replace xv12 := KE.cell (by omega) xv12
   replace gg0 := KE.cell (by omega) gg0
   replace gg1 := KE.cell (by omega) gg1
   clear bZ
   clear iuZ1
   clear ivZ1
   replace iH := iH.chg KE (by omega)
   have ke_ := KE.size
   refine hK.out _ _ ⟨cb0, cb1, cc10, cc11, cc12, r0, r1, x0, x1, xv10, xv11, xv12, gg0, gg1⟩ (fun hHeld => ?_)
   clear hK K KE
   try simp only [Act.put, qa, qb, qc, qD, qE, qF]
   refine qHk (v := ?_) 10 rfl (.inl ⟨by rfl, ?_⟩) ?_
   rotate_left
   ·
    (intro w hSw; (try dsimp only at hSw); go_simp; try with_reducible rfl)
   try simp only [Act.put, qa, qb, qc, qD, qE, qF]
   refine wpAnyH_done qKr ?_ _
   clear hHeld
   generalize ((w22.setCell ⟨w19.heap.size, 0, none⟩ (.slice Ha PC.length Hc)).setCell ⟨w19.heap.size, 1, none⟩ (.slice Hd PE.length Hf)) = WE at *
   go_step
   go_step
   go_meet
   case rel => exact ⟨_, _, _, _, _, _, rfl, rfl, XE, hg1, y0, y1, iH.lower (Nat.zero_le _)⟩
   try simp only [Act.put, qa, qb, qc, qD, qE, qF]
   go_simp
   refine (toBuffer_c cells es _ _ _ _ _ (hc.ext (X.trans qXt)) (he.ext (X.trans qXt)) (by omega) (by omega) hm.out).mono ?_
   rintro e w20 ⟨uZ, vZ, RZ, rfl, bZ, xw20⟩
   have Lw20 : Ext w19 w20 := Ext.trans qXt xw20
   replace cb0 := Lw20.cell cb0
   replace cb1 := Lw20.cell cb1
   replace cc10 := Lw20.cell cc10
   replace cc11 := Lw20.cell cc11
   replace cc12 := Lw20.cell cc12
   replace r0 := Lw20.cell r0
   replace r1 := Lw20.cell r1
   replace x0 := Lw20.cell x0
   replace x1 := Lw20.cell x1
   replace xv10 := Lw20.cell xv10
   replace xv11 := Lw20.cell xv11
   replace xv12 := Lw20.cell xv12
   replace gg0 := Lw20.cell gg0
   replace gg1 := Lw20.cell gg1
   have sz_w20 := Lw20.size
   refine hK.out _ _ ⟨cb0, cb1, cc10, cc11, cc12, r0, r1, x0, x1, xv10, xv11, xv12, gg0, gg1⟩ (fun hHeld => ?_)
   clear hK K
   try simp only [Act.put, qa, qb, qc, qD, qE, qF]
   refine wpAnyH_ready (rs := [3, 8]) qKr (by simp) ?_
   refine AllReadyH.cons rfl (fun K hK => ?_) (AllReadyH.cons rfl (fun K hK => ?_) AllReadyH.nil)
   rotate_left
   try simp only [Act.put, qa, qb, qc, qD, qE, qF]
   go_simp
   refine hK.out _ _ ⟨(show Ext w20 _ from qXt).cell cb0, (show Ext w20 _ from qXt).cell cb1, (show Ext w20 _ from qXt).cell cc10, (show Ext w20 _ from qXt).cell cc11, (show Ext w20 _ from qXt).cell cc12, (show Ext w20 _ from qXt).cell r0, (show Ext w20 _ from qXt).cell r1, (show Ext w20 _ from qXt).cell x0, (show Ext w20 _ from qXt).cell x1, (show Ext w20 _ from qXt).cell xv10, (show Ext w20 _ from qXt).cell xv11, (show Ext w20 _ from qXt).cell xv12, (show Ext w20 _ from qXt).cell gg0, (show Ext w20 _ from qXt).cell gg1⟩ (fun hHeld => ?_)
   clear hK K
   try simp only [Act.put, qa, qb, qc, qD, qE, qF]
   have qa0 : (w20.alloc (.cells #[.slice none 0 0, .slice none 0 0] 32)).cell? ⟨w20.heap.size, 0, none⟩ = some (.slice none 0 0) := qCl
   have qf0 : (w20.alloc (.cells #[.slice none 0 0, .slice none 0 0] 32)).frozen? ⟨w20.heap.size, 0, none⟩ = false := qFz
   have qa1 : (w20.alloc (.cells #[.slice none 0 0, .slice none 0 0] 32)).cell? ⟨w20.heap.size, 1, none⟩ = some (.slice none 0 0) := qCl
   have qf1 : (w20.alloc (.cells #[.slice none 0 0, .slice none 0 0] 32)).frozen? ⟨w20.heap.size, 1, none⟩ = false := qFz
   have zg : w20.heap.size < (w20.alloc (.cells #[.slice none 0 0, .slice none 0 0] 32)).heap.size := qB qa0
   have hg : w19.heap.size ≤ w20.heap.size := (Lw20).size
   refine qHr 3 rfl (fun K hK => ?_)
   have zp := zg
   try simp only [Act.put, qa, qb, qc, qD, qE, qF]
   go_simp
   refine (toView_c b1 _ _ s1 t1 _ (h1.ext (X.trans (Lw20.trans qXt))) (k1.ext (X.trans (Lw20.trans qXt))) (by omega) (by omega)).mono ?_
   rintro e w21 ⟨uZ1, vZ1, rfl, iuZ1, ivZ1, -, -, -, xw21⟩
   have Lw21 : Ext w20 w21 := Ext.trans qXt xw21
   replace cb0 := Lw21.cell cb0
   replace cb1 := Lw21.cell cb1
   replace cc10 := Lw21.cell cc10
   replace cc11 := Lw21.cell cc11
   replace cc12 := Lw21.cell cc12
   replace r0 := Lw21.cell r0
   replace r1 := Lw21.cell r1
   replace x0 := Lw21.cell x0
   replace x1 := Lw21.cell x1
   replace xv10 := Lw21.cell xv10
   replace xv11 := Lw21.cell xv11
   replace xv12 := Lw21.cell xv12
   replace gg0 := Lw21.cell gg0
   replace gg1 := Lw21.cell gg1
   replace bZ := bZ.ext Lw21
   have sz_w21 := Lw21.size
   replace qa0 := xw21.cell qa0
   replace qf0 := xw21.frz zg qf0
   replace qa1 := xw21.cell qa1
   replace qf1 := xw21.frz zg qf1
   replace zg := Nat.lt_of_lt_of_le zg xw21.size
   refine hK.out _ _ ⟨cb0, cb1, cc10, cc11, cc12, r0, r1, x0, x1, xv10, xv11, xv12, gg0, gg1⟩ (fun hHeld => ?_)
   clear hK K
   try simp only [Act.put, qa, qb, qc, qD, qE, qF]
   refine qHr 4 rfl (fun K hK => ?_)
   have zp := zg
   try simp only [Act.put, qa, qb, qc, qD, qE, qF]
   go_simp
   refine (pbx_eq hP.out (implExportView_c cells es _ _ b1 _ _ s1 t1 _ _ _ (bZ.ints.ext qXt) (bZ.exps.ext qXt) _ _ (iuZ1.ext qXt) (ivZ1.ext qXt))).mono ?_
   rintro e w22 ⟨H1, H2, RH, rfl, iH, xw22⟩
   have Lw22 : Ext w21 w22 := Ext.trans qXt xw22
   replace cb0 := Lw22.cell cb0
   replace cb1 := Lw22.cell cb1
   replace cc10 := Lw22.cell cc10
   replace cc11 := Lw22.cell cc11
   replace cc12 := Lw22.cell cc12
   replace r0 := Lw22.cell r0
   replace r1 := Lw22.cell r1
   replace x0 := Lw22.cell x0
   replace x1 := Lw22.cell x1
   replace xv10 := Lw22.cell xv10
   replace xv11 := Lw22.cell xv11
   replace xv12 := Lw22.cell xv12
   replace gg0 := Lw22.cell gg0
   replace gg1 := Lw22.cell gg1
   replace bZ := bZ.ext Lw22
   replace iuZ1 := iuZ1.ext Lw22
   replace ivZ1 := ivZ1.ext Lw22
   have sz_w22 := Lw22.size
   try simp only [World.size_alloc, World.size_drew] at iH
   obtain ⟨Ha, Hc, rfl⟩ := iH.ints.form
   obtain ⟨Hd, Hf, rfl⟩ := iH.exps.form
   replace qa0 := xw22.cell qa0
   replace qf0 := xw22.frz zg qf0
   replace qa1 := xw22.cell qa1
   replace qf1 := xw22.frz zg qf1
   replace zg := Nat.lt_of_lt_of_le zg xw22.size
   refine hK.out _ _ ⟨cb0, cb1, cc10, cc11, cc12, r0, r1, x0, x1, xv10, xv11, xv12, gg0, gg1⟩ (fun hHeld => ?_)
   clear hK K
   try simp only [Act.put, qa, qb, qc, qD, qE, qF]
   refine qHk (v := ?_) 5 rfl (.inl ⟨by rfl, ?_⟩) ?_
   rotate_left
   ·
    (intro w hSw; (try dsimp only at hSw); go_simp; try with_reducible rfl)
   try simp only [Act.put, qa, qb, qc, qD, qE, qF]
   refine qHk (v := ?_) 6 rfl (.inl ⟨by rfl, ?_⟩) ?_
   rotate_left
   ·
    (intro w hSw; (try dsimp only at hSw); go_simp; try with_reducible rfl)
   try simp only [Act.put, qa, qb, qc, qD, qE, qF]
   refine qHk (v := ?_) 7 rfl (.inl ⟨by rfl, ?_⟩) ?_
   rotate_left
   ·
    (intro w hSw; (try dsimp only at hSw); go_simp; try with_reducible rfl)
   try simp only [Act.put, qa, qb, qc, qD, qE, qF]
   refine qHr 9 rfl (fun K hK => ?_)
   try simp only [Act.put, qa, qb, qc, qD, qE, qF]
   go_simp
   have XE : Ext w19 ((w22.setCell ⟨w20.heap.size, 0, none⟩ (.slice Ha PC.length Hc)).setCell ⟨w20.heap.size, 1, none⟩ (.slice Hd PE.length Hf)) := (Ext.setCell (Ext.setCell ((Lw20.trans Lw21).trans Lw22) hg _) hg _)
   have y0 : ((w22.setCell ⟨w20.heap.size, 0, none⟩ (.slice Ha PC.length Hc)).setCell ⟨w20.heap.size, 1, none⟩ (.slice Hd PE.length Hf)).cell? ⟨w20.heap.size, 0, none⟩ = some (.slice Ha PC.length Hc) := qCl
   have f_y0 : ((w22.setCell ⟨w20.heap.size, 0, none⟩ (.slice Ha PC.length Hc)).setCell ⟨w20.heap.size, 1, none⟩ (.slice Hd PE.length Hf)).frozen? ⟨w20.heap.size, 0, none⟩ = false := qFz
   have y1 : ((w22.setCell ⟨w20.heap.size, 0, none⟩ (.slice Ha PC.length Hc)).setCell ⟨w20.heap.size, 1, none⟩ (.slice Hd PE.length Hf)).cell? ⟨w20.heap.size, 1, none⟩ = some (.slice Hd PE.length Hf) := qCl
   have f_y1 : ((w22.setCell ⟨w20.heap.size, 0, none⟩ (.slice Ha PC.length Hc)).setCell ⟨w20.heap.size, 1, none⟩ (.slice Hd PE.length Hf)).frozen? ⟨w20.heap.size, 1, none⟩ = false := qFz
   have hg1 : w19.heap.size ≤ w20.heap.size := hg
   have KE : Chg w20.heap.size (w20.heap.size + 1) w22 ((w22.setCell ⟨w20.heap.size, 0, none⟩ (.slice Ha PC.length Hc)).setCell ⟨w20.heap.size, 1, none⟩ (.slice Hd PE.length Hf)) := (by repeat (first | (with_reducible exact Chg.refl _ _ _) | (with_reducible refine Chg.setCell ?_ qSo qSo _) | (with_reducible refine Chg.ext ?_ (Ext.alloc (Ext.refl _) _)) | (with_reducible refine Chg.ext ?_ (Ext.drew (Ext.refl _)))))
   replace cb0 := KE.cell (by omega) cb0
   replace cb1 := KE.cell (by omega) cb1
   replace cc10 := KE.cell (by omega) cc10
   replace cc11 := KE.cell (by omega) cc11
   replace cc12 := KE.cell (by omega) cc12
   replace r0 := KE.cell (by omega) r0
   replace r1 := KE.cell (by omega) r1
   replace x0 := KE.cell (by omega) x0
   replace x1 := KE.cell (by omega) x1
   replace xv10 := KE.cell (by omega) xv10
   replace xv11 := KE.cell (by omega) xv11
   replace xv12 := KE.cell (by omega) xv12
   replace gg0 := KE.cell (by omega) gg0
   replace gg1 := KE.cell (by omega) gg1
   clear bZ
   clear iuZ1
   clear ivZ1
   replace iH := iH.chg KE (by omega)
   have ke_ := KE.size
   refine hK.out _ _ ⟨cb0, cb1, cc10, cc11, cc12, r0, r1, x0, x1, xv10, xv11, xv12, gg0, gg1⟩ (fun hHeld => ?_)
   clear hK K KE
   try simp only [Act.put, qa, qb, qc, qD, qE, qF]
   refine qHk (v := ?_) 10 rfl (.inl ⟨by rfl, ?_⟩) ?_
   rotate_left
   ·
    (intro w hSw; (try dsimp only at hSw); go_simp; try with_reducible rfl)
   try simp only [Act.put, qa, qb, qc, qD, qE, qF]
   refine wpAnyH_done qKr ?_ _
   clear hHeld
   generalize ((w22.setCell ⟨w20.heap.size, 0, none⟩ (.slice Ha PC.length Hc)).setCell ⟨w20.heap.size, 1, none⟩ (.slice Hd PE.length Hf)) = WE at *
   go_step
   go_step
   go_meet
   case rel => exact ⟨_, _, _, _, _, _, rfl, rfl, XE, hg1, y0, y1, iH.lower (Nat.zero_le _)⟩
   try simp only [Act.put, qa, qb, qc, qD, qE, qF]
   go_simp
   refine (toView_c b1 _ _ s1 t1 _ (h1.ext (X.trans (Lw20.trans qXt))) (k1.ext (X.trans (Lw20.trans qXt))) (by omega) (by omega)).mono ?_
   rintro e w21 ⟨uZ1, vZ1, rfl, iuZ1, ivZ1, -, -, -, xw21⟩
   have Lw21 : Ext w20 w21 := Ext.trans qXt xw21
   replace cb0 := Lw21.cell cb0
   replace cb1 := Lw21.cell cb1
   replace cc10 := Lw21.cell cc10
   replace cc11 := Lw21.cell cc11
   replace cc12 := Lw21.cell cc12
   replace r0 := Lw21.cell r0
   replace r1 := Lw21.cell r1
   replace x0 := Lw21.cell x0
   replace x1 := Lw21.cell x1
   replace xv10 := Lw21.cell xv10
   replace xv11 := Lw21.cell xv11
   replace xv12 := Lw21.cell xv12
   replace gg0 := Lw21.cell gg0
   replace gg1 := Lw21.cell gg1
   replace bZ := bZ.ext Lw21
   have sz_w21 := Lw21.size
   refine hK.out _ _ ⟨cb0, cb1, cc10, cc11, cc12, r0, r1, x0, x1, xv10, xv11, xv12, gg0, gg1⟩ (fun hHeld => ?_)
   clear hK K
   try simp only [Act.put, qa, qb, qc, qD, qE, qF]
   refine wpAnyH_ready (rs := [4, 8]) qKr (by simp) ?_
   refine AllReadyH.cons rfl (fun K hK => ?_) (AllReadyH.cons rfl (fun K hK => ?_) AllReadyH.nil)
   rotate_left
   try simp only [Act.put, qa, qb, qc, qD, qE, qF]
   go_simp
   refine hK.out _ _ ⟨(show Ext w21 _ from qXt).cell cb0, (show Ext w21 _ from qXt).cell cb1, (show Ext w21 _ from qXt).cell cc10, (show Ext w21 _ from qXt).cell cc11, (show Ext w21 _ from qXt).cell cc12, (show Ext w21 _ from qXt).cell r0, (show Ext w21 _ from qXt).cell r1, (show Ext w21 _ from qXt).cell x0, (show Ext w21 _ from qXt).cell x1, (show Ext w21 _ from qXt).cell xv10, (show Ext w21 _ from qXt).cell xv11, (show Ext w21 _ from qXt).cell xv12, (show Ext w21 _ from qXt).cell gg0, (show Ext w21 _ from qXt).cell gg1⟩ (fun hHeld => ?_)
   clear hK K
   try simp only [Act.put, qa, qb, qc, qD, qE, qF]
   have qa0 : (w21.alloc (.cells #[.slice none 0 0, .slice none 0 0] 32)).cell? ⟨w21.heap.size, 0, none⟩ = some (.slice none 0 0) := qCl
   have qf0 : (w21.alloc (.cells #[.slice none 0 0, .slice none 0 0] 32)).frozen? ⟨w21.heap.size, 0, none⟩ = false := qFz
   have qa1 : (w21.alloc (.cells #[.slice none 0 0, .slice none 0 0] 32)).cell? ⟨w21.heap.size, 1, none⟩ = some (.slice none 0 0) := qCl
   have qf1 : (w21.alloc (.cells #[.slice none 0 0, .slice none 0 0] 32)).frozen? ⟨w21.heap.size, 1, none⟩ = false := qFz
   have zg : w21.heap.size < (w21.alloc (.cells #[.slice none 0 0, .slice none 0 0] 32)).heap.size := qB qa0
   have hg : w19.heap.size ≤ w21.heap.size := ((Lw20.trans Lw21)).size
   refine qHr 4 rfl (fun K hK => ?_)
   have zp := zg
   try simp only [Act.put, qa, qb, qc, qD, qE, qF]
   go_simp
   refine (pbx_eq hP.out (implExportView_c cells es _ _ b1 _ _ s1 t1 _ _ _ (bZ.ints.ext qXt) (bZ.exps.ext qXt) _ _ (iuZ1.ext qXt) (ivZ1.ext qXt))).mono ?_
   rintro e w22 ⟨H1, H2, RH, rfl, iH, xw22⟩
   have Lw22 : Ext w21 w22 := Ext.trans qXt xw22
   replace cb0 := Lw22.cell cb0
   replace cb1 := Lw22.cell cb1
   replace cc10 := Lw22.cell cc10
   replace cc11 := Lw22.cell cc11
   replace cc12 := Lw22.cell cc12
   replace r0 := Lw22.cell r0
   replace r1 := Lw22.cell r1
   replace x0 := Lw22.cell x0
   replace x1 := Lw22.cell x1
   replace xv10 := Lw22.cell xv10
   replace xv11 := Lw22.cell xv11
   replace xv12 := Lw22.cell xv12
   replace gg0 := Lw22.cell gg0
   replace gg1 := Lw22.cell gg1
   replace bZ := bZ.ext Lw22
   replace iuZ1 := iuZ1.ext Lw22
   replace ivZ1 := ivZ1.ext Lw22
   have sz_w22 := Lw22.size
   try simp only [World.size_alloc, World.size_drew] at iH
   obtain ⟨Ha, Hc, rfl⟩ := iH.ints.form
   obtain ⟨Hd, Hf, rfl⟩ := iH.exps.form
   replace qa0 := xw22.cell qa0
   replace qf0 := xw22.frz zg qf0
   replace qa1 := xw22.cell qa1
   replace qf1 := xw22.frz zg qf1
   replace zg := Nat.lt_of_lt_of_le zg xw22.size
   refine hK.out _ _ ⟨cb0, cb1, cc10, cc11, cc12, r0, r1, x0, x1, xv10, xv11, xv12, gg0, gg1⟩ (fun hHeld => ?_)
   clear hK K
   try simp only [Act.put, qa, qb, qc, qD, qE, qF]
   refine qHk (v := ?_) 5 rfl (.inl ⟨by rfl, ?_⟩) ?_
   rotate_left
   ·
    (intro w hSw; (try dsimp only at hSw); go_simp; try with_reducible rfl)
   try simp only [Act.put, qa, qb, qc, qD, qE, qF]
   refine qHk (v := ?_) 6 rfl (.inl ⟨by rfl, ?_⟩) ?_
   rotate_left
   ·
    (intro w hSw; (try dsimp only at hSw); go_simp; try with_reducible rfl)
   try simp only [Act.put, qa, qb, qc, qD, qE, qF]
   refine qHk (v := ?_) 7 rfl (.inl ⟨by rfl, ?_⟩) ?_
   rotate_left
   ·
    (intro w hSw; (try dsimp only at hSw); go_simp; try with_reducible rfl)
   try simp only [Act.put, qa, qb, qc, qD, qE, qF]
   refine qHr 9 rfl (fun K hK => ?_)
   try simp only [Act.put, qa, qb, qc, qD, qE, qF]
   go_simp
   have XE : Ext w19 ((w22.setCell ⟨w21.heap.size, 0, none⟩ (.slice Ha PC.length Hc)).setCell ⟨w21.heap.size, 1, none⟩ (.slice Hd PE.length Hf)) := (Ext.setCell (Ext.setCell ((Lw20.trans Lw21).trans Lw22) hg _) hg _)
   have y0 : ((w22.setCell ⟨w21.heap.size, 0, none⟩ (.slice Ha PC.length Hc)).setCell ⟨w21.heap.size, 1, none⟩ (.slice Hd PE.length Hf)).cell? ⟨w21.heap.size, 0, none⟩ = some (.slice Ha PC.length Hc) := qCl
   have f_y0 : ((w22.setCell ⟨w21.heap.size, 0, none⟩ (.slice Ha PC.length Hc)).setCell ⟨w21.heap.size, 1, none⟩ (.slice Hd PE.length Hf)).frozen? ⟨w21.heap.size, 0, none⟩ = false := qFz
   have y1 : ((w22.setCell ⟨w21.heap.size, 0, none⟩ (.slice Ha PC.length Hc)).setCell ⟨w21.heap.size, 1, none⟩ (.slice Hd PE.length Hf)).cell? ⟨w21.heap.size, 1, none⟩ = some (.slice Hd PE.length Hf) := qCl
   have f_y1 : ((w22.setCell ⟨w21.heap.size, 0, none⟩ (.slice Ha PC.length Hc)).setCell ⟨w21.heap.size, 1, none⟩ (.slice Hd PE.length Hf)).frozen? ⟨w21.heap.size, 1, none⟩ = false := qFz
   have hg1 : w19.heap.size ≤ w21.heap.size := hg
   have KE : Chg w21.heap.size (w21.heap.size + 1) w22 ((w22.setCell ⟨w21.heap.size, 0, none⟩ (.slice Ha PC.length Hc)).setCell ⟨w21.heap.size, 1, none⟩ (.slice Hd PE.length Hf)) := (by repeat (first | (with_reducible exact Chg.refl _ _ _) | (with_reducible refine Chg.setCell ?_ qSo qSo _) | (with_reducible refine Chg.ext ?_ (Ext.alloc (Ext.refl _) _)) | (with_reducible refine Chg.ext ?_ (Ext.drew (Ext.refl _)))))
   replace cb0 := KE.cell (by omega) cb0
   replace cb1 := KE.cell (by omega) cb1
   replace cc10 := KE.cell (by omega) cc10
   replace cc11 := KE.cell (by omega) cc11
   replace cc12 := KE.cell (by omega) cc12
   replace r0 := KE.cell (by omega) r0
   replace r1 := KE.cell (by omega) r1
   replace x0 := KE.cell (by omega) x0
   replace x1 := KE.cell (by omega) x1
   replace xv10 := KE.cell (by omega) xv10
   replace xv11 := KE.cell (by omega) xv11
   replace xv12 := KE.cell (by omega) xv12
   replace gg0 := KE.cell (by omega) gg0
   replace gg1 := KE.cell (by omega) gg1
   clear bZ
   clear iuZ1
   clear ivZ1
   replace iH := iH.chg KE (by omega)
   have ke_ := KE.size
   refine hK.out _ _ ⟨cb0, cb1, cc10, cc11, cc12, r0, r1, x0, x1, xv10, xv11, xv12, gg0, gg1⟩ (fun hHeld => ?_)
   clear hK K KE
   try simp only [Act.put, qa, qb, qc, qD, qE, qF]
   refine qHk (v := ?_) 10 rfl (.inl ⟨by rfl, ?_⟩) ?_
   rotate_left
   ·
    (intro w hSw; (try dsimp only at hSw); go_simp; try with_reducible rfl)
   try simp only [Act.put, qa, qb, qc, qD, qE, qF]
   refine wpAnyH_done qKr ?_ _
   clear hHeld
   generalize ((w22.setCell ⟨w21.heap.size, 0, none⟩ (.slice Ha PC.length Hc)).setCell ⟨w21.heap.size, 1, none⟩ (.slice Hd PE.length Hf)) = WE at *
   go_step
   go_step
   go_meet
   case rel => exact ⟨_, _, _, _, _, _, rfl, rfl, XE, hg1, y0, y1, iH.lower (Nat.zero_le _)⟩
   try simp only [Act.put, qa, qb, qc, qD, qE, qF]
   go_simp
   refine (pbx_eq hP.out (implExportView_c cells es _ _ b1 _ _ s1 t1 _ _ _ (bZ.ints.ext qXt) (bZ.exps.ext qXt) _ _ (iuZ1.ext qXt) (ivZ1.ext qXt))).mono ?_
   rintro e w22 ⟨H1, H2, RH, rfl, iH, xw22⟩
   have Lw22 : Ext w21 w22 := Ext.trans qXt xw22
   replace cb0 := Lw22.cell cb0
   replace cb1 := Lw22.cell cb1
   replace cc10 := Lw22.cell cc10
   replace cc11 := Lw22.cell cc11
   replace cc12 := Lw22.cell cc12
   replace r0 := Lw22.cell r0
   replace r1 := Lw22.cell r1
   replace x0 := Lw22.cell x0
   replace x1 := Lw22.cell x1
   replace xv10 := Lw22.cell xv10
   replace xv11 := Lw22.cell xv11
   replace xv12 := Lw22.cell xv12
   replace gg0 := Lw22.cell gg0
   replace gg1 := Lw22.cell gg1
   replace bZ := bZ.ext Lw22
   replace iuZ1 := iuZ1.ext Lw22
   replace ivZ1 := ivZ1.ext Lw22
   have sz_w22 := Lw22.size
   try simp only [World.size_alloc, World.size_drew] at iH
   obtain ⟨Ha, Hc, rfl⟩ := iH.ints.form
   obtain ⟨Hd, Hf, rfl⟩ := iH.exps.form
   refine hK.out _ _ ⟨cb0, cb1, cc10, cc11, cc12, r0, r1, x0, x1, xv10, xv11, xv12, gg0, gg1⟩ (fun hHeld => ?_)
   clear hK K
   try simp only [Act.put, qa, qb, qc, qD, qE, qF]
   refine qHk (v := ?_) 5 rfl (.inl ⟨by rfl, ?_⟩) ?_
   rotate_left
   ·
    (intro w hSw; (try dsimp only at hSw); go_simp; try with_reducible rfl)
   try simp only [Act.put, qa, qb, qc, qD, qE, qF]
   refine qHk (v := ?_) 6 rfl (.inl ⟨by rfl, ?_⟩) ?_
   rotate_left
   ·
    (intro w hSw; (try dsimp only at hSw); go_simp; try with_reducible rfl)
   try simp only [Act.put, qa, qb, qc, qD, qE, qF]
   refine qHk (v := ?_) 7 rfl (.inl ⟨by rfl, ?_⟩) ?_
   rotate_left
   ·
    (intro w hSw; (try dsimp only at hSw); go_simp; try with_reducible rfl)
   try simp only [Act.put, qa, qb, qc, qD, qE, qF]
   refine qHr 8 rfl (fun K hK => ?_)
   try simp only [Act.put, qa, qb, qc, qD, qE, qF]
   go_simp
   refine hK.out _ _ ⟨(show Ext w22 _ from qXt).cell cb0, (show Ext w22 _ from qXt).cell cb1, (show Ext w22 _ from qXt).cell cc10, (show Ext w22 _ from qXt).cell cc11, (show Ext w22 _ from qXt).cell cc12, (show Ext w22 _ from qXt).cell r0, (show Ext w22 _ from qXt).cell r1, (show Ext w22 _ from qXt).cell x0, (show Ext w22 _ from qXt).cell x1, (show Ext w22 _ from qXt).cell xv10, (show Ext w22 _ from qXt).cell xv11, (show Ext w22 _ from qXt).cell xv12, (show Ext w22 _ from qXt).cell gg0, (show Ext w22 _ from qXt).cell gg1⟩ (fun hHeld => ?_)
   clear hK K
   try simp only [Act.put, qa, qb, qc, qD, qE, qF]
   refine qHr 9 rfl (fun K hK => ?_)
   try simp only [Act.put, qa, qb, qc, qD, qE, qF]
   go_simp
   have XE : Ext w19 (w22.alloc (.cells #[.slice Ha PC.length Hc, .slice Hd PE.length Hf] 32)) := ((Lw20.trans Lw21).trans Lw22).trans qXo
   have y0 : (w22.alloc (.cells #[.slice Ha PC.length Hc, .slice Hd PE.length Hf] 32)).cell? ⟨w22.heap.size, 0, none⟩ = some (.slice Ha PC.length Hc) := qCl
   have f_y0 : (w22.alloc (.cells #[.slice Ha PC.length Hc, .slice Hd PE.length Hf] 32)).frozen? ⟨w22.heap.size, 0, none⟩ = false := qFz
   have y1 : (w22.alloc (.cells #[.slice Ha PC.length Hc, .slice Hd PE.length Hf] 32)).cell? ⟨w22.heap.size, 1, none⟩ = some (.slice Hd PE.length Hf) := qCl
   have f_y1 : (w22.alloc (.cells #[.slice Ha PC.length Hc, .slice Hd PE.length Hf] 32)).frozen? ⟨w22.heap.size, 1, none⟩ = false := qFz
   have hg1 : w19.heap.size ≤ w22.heap.size := ((Lw20.trans Lw21).trans Lw22).size
   have KE : Ext w22 (w22.alloc (.cells #[.slice Ha PC.length Hc, .slice Hd PE.length Hf] 32)) := qXo
   replace cb0 := KE.cell cb0
   replace cb1 := KE.cell cb1
   replace cc10 := KE.cell cc10
   replace cc11 := KE.cell cc11
   replace cc12 := KE.cell cc12
   replace r0 := KE.cell r0
   replace r1 := KE.cell r1
   replace x0 := KE.cell x0
   replace x1 := KE.cell x1
   replace xv10 := KE.cell xv10
   replace xv11 := KE.cell xv11
   replace xv12 := KE.cell xv12
   replace gg0 := KE.cell gg0
   replace gg1 := KE.cell gg1
   clear bZ
   clear iuZ1
   clear ivZ1
   replace iH := iH.ext KE
   have ke_ := KE.size
   refine hK.out _ _ ⟨cb0, cb1, cc10, cc11, cc12, r0, r1, x0, x1, xv10, xv11, xv12, gg0, gg1⟩ (fun hHeld => ?_)
   clear hK K KE
   try simp only [Act.put, qa, qb, qc, qD, qE, qF]
   refine qHk (v := ?_) 10 rfl (.inl ⟨by rfl, ?_⟩) ?_
   rotate_left
   ·
    (intro w hSw; (try dsimp only at hSw); go_simp; try with_reducible rfl)
   try simp only [Act.put, qa, qb, qc, qD, qE, qF]
   refine wpAnyH_done qKr ?_ _
   clear hHeld
   generalize (w22.alloc (.cells #[.slice Ha PC.length Hc, .slice Hd PE.length Hf] 32)) = WE at *
   go_step
   go_step
   go_meet
   case rel => exact ⟨_, _, _, _, _, _, rfl, rfl, XE, hg1, y0, y1, iH.lower (Nat.zero_le _)⟩
  case rest =>
   generalize wc = w23 at hcut ⊢
   obtain ⟨gZ, Ha, Hc, Hd, Hf, RH, rfl, rfl, xw23, hg_y, y0, y1, iH⟩ := hcut
   have Lw23 : Ext w19 w23 := xw23
   replace cb0 := Lw23.cell cb0
   replace cb1 := Lw23.cell cb1
   replace cc10 := Lw23.cell cc10
   replace cc11 := Lw23.cell cc11
   replace cc12 := Lw23.cell cc12
   replace r0 := Lw23.cell r0
   replace r1 := Lw23.cell r1
   replace x0 := Lw23.cell x0
   replace x1 := Lw23.cell x1
   replace xv10 := Lw23.cell xv10
   replace xv11 := Lw23.cell xv11
   replace xv12 := Lw23.cell xv12
   replace gg0 := Lw23.cell gg0
   replace gg1 := Lw23.cell gg1
   replace bH := bH.ext Lw23
   replace X := X.trans Lw23
   replace EW := EW.trans Lw23
   have z68 : w.heap.size < w23.heap.size := qB cb0
   have z69 : w.heap.size + 1 < w23.heap.size := qB cc10
   have z70 : gW < w23.heap.size := qB r0
   have z71 : w7.heap.size < w23.heap.size := qB x0
   have z72 : w8.heap.size < w23.heap.size := qB xv10
   have z73 : w9.heap.size < w23.heap.size := qB gg0
   have z74 : gZ < w23.heap.size := qB y0
   have sw23 : w19.heap.size ≤ w23.heap.size := Lw23.size
   clear Lw23 xw23
   go_wp2_with fail
   refine (eqBuffer_c PC PE _ _ _ _ _ _ _ _ _ (iH.ints.ext qXt) (iH.exps.ext qXt) ((iW.ext EW).ints.ext qXt) ((iW.ext EW).exps.ext qXt)).mono ?_
   rintro e w24 ⟨rfl, xw24⟩
   have Lw24 : Ext w23 w24 := Ext.trans qXt xw24
   replace cb0 := Lw24.cell cb0
   replace cb1 := Lw24.cell cb1
   replace cc10 := Lw24.cell cc10
   replace cc11 := Lw24.cell cc11
   replace cc12 := Lw24.cell cc12
   replace r0 := Lw24.cell r0
   replace r1 := Lw24.cell r1
   replace x0 := Lw24.cell x0
   replace x1 := Lw24.cell x1
   replace xv10 := Lw24.cell xv10
   replace xv11 := Lw24.cell xv11
   replace xv12 := Lw24.cell xv12
   replace gg0 := Lw24.cell gg0
   replace gg1 := Lw24.cell gg1
   replace y0 := Lw24.cell y0
   replace y1 := Lw24.cell y1
   replace bH := bH.ext Lw24
   replace iH := iH.ext Lw24
   replace X := X.trans Lw24
   replace EW := EW.trans Lw24
   have z75 : w.heap.size < w24.heap.size := qB cb0
   have z76 : w.heap.size + 1 < w24.heap.size := qB cc10
   have z77 : gW < w24.heap.size := qB r0
   have z78 : w7.heap.size < w24.heap.size := qB x0
   have z79 : w8.heap.size < w24.heap.size := qB xv10
   have z80 : w9.heap.size < w24.heap.size := qB gg0
   have z81 : gZ < w24.heap.size := qB y0
   have sw24 : w23.heap.size ≤ w24.heap.size := Lw24.size
   clear Lw24
   clear xw24
   go_wp2_with fail
   refine (heldBuffer_c PC.length PE 1 _ _ _ _ _ (bH.ints.ext qXt) (bH.exps.ext qXt) (fun i hi => by have := hSr.out i hi; omega) (by omega) (by rw [hK2.out]; omega)).mono ?_
   rintro e w25 ⟨rfl, xw25⟩
   have Lw25 : Ext w24 w25 := Ext.trans qXt xw25
   replace cb0 := Lw25.cell cb0
   replace cb1 := Lw25.cell cb1
   replace cc10 := Lw25.cell cc10
   replace cc11 := Lw25.cell cc11
   replace cc12 := Lw25.cell cc12
   replace r0 := Lw25.cell r0
   replace r1 := Lw25.cell r1
   replace x0 := Lw25.cell x0
   replace x1 := Lw25.cell x1
   replace xv10 := Lw25.cell xv10
   replace xv11 := Lw25.cell xv11
   replace xv12 := Lw25.cell xv12
   replace gg0 := Lw25.cell gg0
   replace gg1 := Lw25.cell gg1
   replace y0 := Lw25.cell y0
   replace y1 := Lw25.cell y1
   replace bH := bH.ext Lw25
   replace iH := iH.ext Lw25
   replace X := X.trans Lw25
   replace EW := EW.trans Lw25
   have z82 : w.heap.size < w25.heap.size := qB cb0
   have z83 : w.heap.size + 1 < w25.heap.size := qB cc10
   have z84 : gW < w25.heap.size := qB r0
   have z85 : w7.heap.size < w25.heap.size := qB x0
   have z86 : w8.heap.size < w25.heap.size := qB xv10
   have z87 : w9.heap.size < w25.heap.size := qB gg0
   have z88 : gZ < w25.heap.size := qB y0
   have sw25 : w24.heap.size ≤ w25.heap.size := Lw25.size
   clear Lw25
   clear xw25
   rw [hK2.out]
   go_wp2_with fail
   go_ret
   exact ⟨rfl, X.trans qXt⟩

set_option maxHeartbeats 6400000 in
theorem lawExportView_c (cells : List Int) (es : List Exp) (ac ae : Option Addr) (cc ce : Nat) (b1 : Int) (a1 d1 : Option Addr) (f1 g1 : Nat) (s1 t1 : List Int) (w : World) (hc : Raw w (.slice ac cells.length cc) cells) (he : RawE w (.slice ae es.length ce) es) (nc : cells.length ≤ maxLen) (ne : es.length ≤ maxLen) (h1 : Raw w (.slice a1 s1.length f1) s1) (k1 : Raw w (.slice d1 t1.length g1) t1) (n1 : s1.length ≤ maxLen) (m1 : t1.length ≤ maxLen) :
  Calls Try.prog 3 #[.agg #[.slice ac cells.length cc, .slice ae es.length ce], .agg #[.int .i64 b1, .slice a1 s1.length f1, .slice d1 t1.length g1]] w fun e w' => e = .returned (.bool true) ∧ Ext w w' := by
 have hS := expA_small cells es b1 s1 t1
 obtain ⟨PC, PE, PO, hP⟩ : ∃ PC PE PO, expA cells es b1 s1 t1 = (PC, PE, PO) := ⟨_, _, _, rfl⟩
 rw [hP] at hS
 cases PO
 ·
  exact lawExportView_false cells es ac ae cc ce b1 a1 d1 f1 g1 s1 t1 w hc he nc ne h1 k1 n1 m1 PC PE (Lib.hid hP) hS
 ·
  exact lawExportView_true cells es ac ae cc ce b1 a1 d1 f1 g1 s1 t1 w hc he nc ne h1 k1 n1 m1 PC PE (Lib.hid hP) hS
end Go.Proofs.Ytfbbnbpobojboaa

/- The law FnExactExportView holds for all arguments: the call returns true, and its arguments read as they did. No condition. -/
namespace Go.Proofs.Ytfbbnbpobojboaa.rowExportView
open Go.ChangeShapes Go.WideShapes Go.ChangeAt Go.RowKit
set_option linter.unusedVariables false

set_option maxHeartbeats 1000000 in
set_option maxRecDepth 100000 in
theorem lifted (os : Os) (started : os.Started) (H : Type) (enc : TypeId × Value → H) :
    ReturnsInHanded {} Try.checked os 3 .any (Rows.fnExactExportViewSpec.pre6 enc Try.prog Try.f3 Rows.fnExactExportViewRow.domain false) (Rows.fnExactExportViewSpec.post enc Try.prog Try.f3 false true false false) := by
  refine returnsInHanded_of_change (C := Try.checked) own started qKr Try.func3
    (ChangeSpec.witness6 (enc := enc) (C := Try.checked) false ⟨#[], #[.agg #[.slice none 0 0, .slice none 0 0], .agg #[.int .i64 0, .slice none 0 0, .slice none 0 0]], []⟩ 8 qKr qKr qKr qKr) ?_
  intro W base args ds gs before hval0 hW hcnd _
  have hval : ∀ (j : Nat) t v, Try.f3.params[j]? = some t → args[j]? = some v → Value.okWide Try.prog W .any base t v := hval0
  have hW' := hW
  obtain ⟨p, q, hA0, hV, rfl, hfz, hnd⟩ := hW
  have hA : DataW.TrodAll enc Try.prog W 0 (fun _ => true) true Try.f3.params.toList args.toList ds p := hA0
  rw [Try.params3] at hA hval
  obtain ⟨v0, vs0, d0, ds0, p0, q0, hargs0, rfl, rfl, h0, r0⟩ := trodAll_cons hA
  obtain ⟨v1, vs1, d1, ds1, p1, q1, hargs1, rfl, rfl, h1, r1⟩ := trodAll_cons r0
  subst hargs1
  obtain ⟨rfl, rfl, rfl⟩ := trodAll_nil r1
  obtain rfl : args = #[v0, v1] := by cases args; simp_all
  obtain ⟨rfl, rfl⟩ := trodVars_none hV
  have k0 := h0
  have lt0 : ∀ x ∈ p0, x.block < W.heap.size := by obtain ⟨m, hm⟩ := k0; exact DataW.trod_lt m _ _ _ hm
  obtain ⟨cells0, es0, ac0, ae0, cc0, ce0, rfl, ⟨hb0, nb0⟩, hE0, ne0⟩ := open_buffer (hval 0 _ v0 rfl rfl) h0
  have k1 := h1
  have lt1 : ∀ x ∈ p1, x.block < W.heap.size := by obtain ⟨m, hm⟩ := k1; exact DataW.trod_lt m _ _ _ hm
  obtain ⟨b1, s1, t1, a1, f1, e1, g1, rfl, ⟨x1, n1⟩, ⟨y1, m1⟩⟩ := open_view (hval 1 _ v1 rfl rfl) h1
  clear hA0 hval0
  refine (lawExportView_c cells0 es0 ac0 ae0 cc0 ce0 b1 a1 e1 f1 g1 s1 t1 W hb0 hE0 nb0 ne0 x1 y1 n1 m1).mono fun e W' ⟨he, bel⟩ => ?_
  subst he
  exact ⟨_, rfl, _, _, _, [], _, [], hW', trodAll_mk1 (shut_bool Try.underlying4 _), (trodAll_cons_mk (Below.trod laidOut qKr (of_decide_eq_true qKr) k0 bel lt0) (trodAll_cons_mk (Below.trod laidOut qKr (of_decide_eq_true qKr) k1 bel lt1) trodAll_mk0)), rfl, Below.frame bel _, fun h => by cases h⟩

set_option maxHeartbeats 2000000 in
theorem closed : joinedFacts Try.checked.prog 3 Try.f3 Rows.fnExactExportViewSpec Rows.fnExactExportViewRow = true :=
  facts.all qKr qKr qKr qKr qKr (by as_aux_lemma => kernel_rfl) (by as_aux_lemma => kernel_rfl) (by as_aux_lemma => kernel_rfl) (by as_aux_lemma => kernel_rfl)
    (by as_aux_lemma => kernel_rfl) (by as_aux_lemma => kernel_rfl) rfl rfl rfl rfl qKr qKr (by as_aux_lemma => kernel_rfl) (by as_aux_lemma => kernel_rfl)

theorem named : Try.pinned.checked.prog.funcNamed Rows.fnExactExportViewRow.func = some 3 := by kernel_rfl

theorem over : Rows.fnExactExportViewRow.holds Try.pinned (OpenSpec.ofChange Rows.fnExactExportViewSpec) :=
  OpenClaim.holds_of_wide 3 Try.f3 rfl rfl rfl rfl rfl rfl rfl ⟨rfl, rfl, rfl, rfl, rfl⟩ rfl rfl rfl rfl rfl named Try.func3 closed
    (of_decide_eq_true qKr) (by unfold Func.isWrapper; exact ⟨rfl, rfl⟩)
    (fun os started H enc _ => lifted os started H enc)

theorem proved : Rows.FnExactExportViewSaid := over

end Go.Proofs.Ytfbbnbpobojboaa.rowExportView
