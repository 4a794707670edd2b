/- Texts of these proofs put together: LawExportPart, RowExportPart. No condition. -/
import Derived.Test.YtfbbnbpobojboaaD4RowExportPart
import Derived.Test.YtfbbnbpobojboaaD2RowExportPart
import Derived.Test.YtfbbnbpobojboaaM1
set_option linter.unusedVariables false
set_option linter.unusedSimpArgs false
/- FnExactExportPart returns true for all arguments: no condition. -/
namespace Go.Proofs.Ytfbbnbpobojboaa
open Go.RowKit
set_option linter.unusedVariables false
set_option maxRecDepth 100000

set_option maxHeartbeats 6400000 in
theorem lawExportPart_false (cells : List Int) (es : List Exp) (ac ae : Option Addr) (cc ce : Nat) (i1 : Int) (i2 : Int) (sa3 sb3 sc3 : Int) (sd3 se3 : Bool) (w : World) (hc : Raw w (.slice ac cells.length cc) cells) (he : RawE w (.slice ae es.length ce) es) (nc : cells.length ≤ maxLen) (ne : es.length ≤ maxLen) (PC : List Int) (PE : List Exp) (hP : Hid (parA cells es i1 i2 sa3 sb3 sc3 sd3 se3 = (PC, PE, false))) (hS : SmallB (PC, PE, false)) :
  Calls Try.prog 10 #[.agg #[.slice ac cells.length cc, .slice ae es.length ce], .int .i64 i1, .int .i64 i2, .agg #[.int .i64 sa3, .int .i64 sb3, .int .i64 sc3, .bool sd3, .bool se3]] w fun e w' => e = .returned (.bool true) ∧ Ext w w' := by
 go_enter Try.func10, Try.ntmps10
 have X : Ext w w := Ext.refl _
 go_wp2_with fail
 refine (szBuffer_c cells es _ _ _ _ 1048576 _ (he.ext qXt) (by omega) (by omega) ne nc).mono ?_
 rintro e w1 ⟨L, rfl, ql1, ql2, ql3, xw1⟩
 have Lw1 : Ext w w1 := Ext.trans qXt xw1
 have cb0 : w1.cell? ⟨w.heap.size, 0, none⟩ = some (.slice ac cells.length cc) := xw1.cell qCl
 have cb1 : w1.cell? ⟨w.heap.size, 1, none⟩ = some (.slice ae es.length ce) := xw1.cell qCl
 have cc30 : w1.cell? ⟨w.heap.size + 1, 0, none⟩ = some (.int .i64 sa3) := xw1.cell qCl
 have cc31 : w1.cell? ⟨w.heap.size + 1, 1, none⟩ = some (.int .i64 sb3) := xw1.cell qCl
 have cc32 : w1.cell? ⟨w.heap.size + 1, 2, none⟩ = some (.int .i64 sc3) := xw1.cell qCl
 have cc33 : w1.cell? ⟨w.heap.size + 1, 3, none⟩ = some (.bool sd3) := xw1.cell qCl
 have cc34 : w1.cell? ⟨w.heap.size + 1, 4, none⟩ = some (.bool se3) := xw1.cell qCl
 replace X := X.trans Lw1
 have z1 : w.heap.size < w1.heap.size := qB cb0
 have z2 : w.heap.size + 1 < w1.heap.size := qB cc30
 have sw1 : w.heap.size ≤ w1.heap.size := Lw1.size
 clear Lw1
 clear xw1
 by_cases q0 : L < 0
 ·
  go_wp2_with fail
  go_ret
  exact ⟨rfl, X.trans qXt⟩
 have ql4 := ql3 (by omega)
 have hm : ∀ i, i < es.length → (expAt es i).s.length ≤ 1048576 ∧ (expAt es i).t.length ≤ 1048576 := fun i hi => by have := sizeE_le es i es.length hi; omega
 replace hm := Lib.hid hm
 have hk1 : kE (1 + cells.length) es es.length ≤ 4194304 := by rw [kE_size]; omega
 have hk0 := kE_mono (1 + cells.length) es 0 es.length (Nat.zero_le _)
 have hk2 : 0 ≤ kE (1 + cells.length) es es.length := by simp only [kE] at hk0; omega
 clear hk0
 obtain ⟨K1, hK1⟩ : ∃ x, kE (1 + cells.length) es es.length = x := ⟨_, rfl⟩
 rw [hK1] at hk1 hk2
 replace hK1 := Lib.hid hK1
 have hG1 := hS.kE
 have hG0 := kE_mono (1 + PC.length) PE 0 PE.length (Nat.zero_le _)
 obtain ⟨hSc, hSe, hSr⟩ := hS
 dsimp only at hG1 hSc hSe hSr
 have hG2 : 0 ≤ kE (1 + PC.length) PE PE.length := by simp only [kE] at hG0; omega
 clear hG0
 obtain ⟨K2, hK2⟩ : ∃ x, kE (1 + PC.length) PE PE.length = x := ⟨_, rfl⟩
 rw [hK2] at hG1 hG2
 replace hK2 := Lib.hid hK2
 replace hSr := Lib.hid hSr
 go_wp2_with fail
 go_cut [10, 11] (fun s0 s1 wx => ∃ (gW : Nat) (Wa : Option Addr) (Wc : Nat) (Wd : Option Addr) (Wf : Nat) (RW : Nat → Value), s0 = .pointer (some ⟨gW, 0, none⟩) ∧ s1 = .bool false ∧ Ext w1 wx ∧ w1.heap.size ≤ gW ∧ wx.cell? ⟨gW, 0, none⟩ = some (.slice Wa PC.length Wc) ∧ wx.cell? ⟨gW, 1, none⟩ = some (.slice Wd PE.length Wf) ∧ BufR wx 0 (.slice Wa PC.length Wc) (.slice Wd PE.length Wf) PC PE RW)
 case first =>
  refine wp_region_held_drew (S := fun w' => w'.cell? ⟨w.heap.size, 0, none⟩ = some (.slice ac cells.length cc) ∧ w'.cell? ⟨w.heap.size, 1, none⟩ = some (.slice ae es.length ce) ∧ w'.cell? ⟨w.heap.size + 1, 0, none⟩ = some (.int .i64 sa3) ∧ w'.cell? ⟨w.heap.size + 1, 1, none⟩ = some (.int .i64 sb3) ∧ w'.cell? ⟨w.heap.size + 1, 2, none⟩ = some (.int .i64 sc3) ∧ w'.cell? ⟨w.heap.size + 1, 3, none⟩ = some (.bool sd3) ∧ w'.cell? ⟨w.heap.size + 1, 4, none⟩ = some (.bool se3)) qKr ⟨cb0, cb1, cc30, cc31, cc32, cc33, cc34⟩ (fun hHeld => ?_)
  refine qHk (v := ?_) 0 rfl (.inl ⟨by rfl, ?_⟩) ?_
  rotate_left
  ·
   (intro w hSw; (try dsimp only at hSw); go_simp; try with_reducible rfl)
  try simp only [Act.put, qa, qb, qc, qD, qE, qF]
  refine qHk (v := ?_) 2 rfl (.inl ⟨by rfl, ?_⟩) ?_
  rotate_left
  ·
   (intro w hSw; (try dsimp only at hSw); go_simp; try with_reducible rfl)
  try simp only [Act.put, qa, qb, qc, qD, qE, qF]
  refine qHk (v := ?_) 3 rfl (.inl ⟨by rfl, ?_⟩) ?_
  rotate_left
  ·
   (intro w hSw; (try dsimp only at hSw); go_simp; try with_reducible rfl)
  try simp only [Act.put, qa, qb, qc, qD, qE, qF]
  refine qHk (v := ?_) 4 rfl (.inl ⟨by rfl, ?_⟩) ?_
  rotate_left
  ·
   (intro w hSw; (try dsimp only at hSw); go_simp; try with_reducible rfl)
  try simp only [Act.put, qa, qb, qc, qD, qE, qF]
  refine wpAnyH_ready (rs := [1, 10]) qKr (by simp) ?_
  refine AllReadyH.cons rfl (fun K hK => ?_) (AllReadyH.cons rfl (fun K hK => ?_) AllReadyH.nil)
  rotate_left
  try simp only [Act.put, qa, qb, qc, qD, qE, qF]
  go_simp
  refine hK.out _ _ ⟨(show Ext w1 _ from qXt).cell cb0, (show Ext w1 _ from qXt).cell cb1, (show Ext w1 _ from qXt).cell cc30, (show Ext w1 _ from qXt).cell cc31, (show Ext w1 _ from qXt).cell cc32, (show Ext w1 _ from qXt).cell cc33, (show Ext w1 _ from qXt).cell cc34⟩ (fun hHeld => ?_)
  clear hK K
  try simp only [Act.put, qa, qb, qc, qD, qE, qF]
  have qa0 : (w1.drew.alloc (.cells #[.slice none 0 0, .slice none 0 0] 32)).cell? ⟨w1.heap.size, 0, none⟩ = some (.slice none 0 0) := qCl
  have qf0 : (w1.drew.alloc (.cells #[.slice none 0 0, .slice none 0 0] 32)).frozen? ⟨w1.heap.size, 0, none⟩ = false := qFz
  have qa1 : (w1.drew.alloc (.cells #[.slice none 0 0, .slice none 0 0] 32)).cell? ⟨w1.heap.size, 1, none⟩ = some (.slice none 0 0) := qCl
  have qf1 : (w1.drew.alloc (.cells #[.slice none 0 0, .slice none 0 0] 32)).frozen? ⟨w1.heap.size, 1, none⟩ = false := qFz
  have zg : w1.heap.size < (w1.drew.alloc (.cells #[.slice none 0 0, .slice none 0 0] 32)).heap.size := qB qa0
  have hg : w1.heap.size ≤ w1.heap.size := Nat.le_refl _
  refine qHr 1 rfl (fun K hK => ?_)
  have zp := zg
  try simp only [Act.put, qa, qb, qc, qD, qE, qF]
  go_simp
  refine (toBuffer_c cells es _ _ _ _ _ (hc.ext (X.trans qXt)) (he.ext (X.trans qXt)) (by omega) (by omega) hm.out).mono ?_
  rintro e w2 ⟨uW, vW, RW, rfl, bW, xw2⟩
  have Lw2 : Ext w1 w2 := Ext.trans qXt xw2
  replace cb0 := Lw2.cell cb0
  replace cb1 := Lw2.cell cb1
  replace cc30 := Lw2.cell cc30
  replace cc31 := Lw2.cell cc31
  replace cc32 := Lw2.cell cc32
  replace cc33 := Lw2.cell cc33
  replace cc34 := Lw2.cell cc34
  have sz_w2 := Lw2.size
  replace qa0 := xw2.cell qa0
  replace qf0 := xw2.frz zg qf0
  replace qa1 := xw2.cell qa1
  replace qf1 := xw2.frz zg qf1
  replace zg := Nat.lt_of_lt_of_le zg xw2.size
  refine hK.out _ _ ⟨cb0, cb1, cc30, cc31, cc32, cc33, cc34⟩ (fun hHeld => ?_)
  clear hK K
  try simp only [Act.put, qa, qb, qc, qD, qE, qF]
  refine qHr 5 rfl (fun K hK => ?_)
  have zp := zg
  try simp only [Act.put, qa, qb, qc, qD, qE, qF]
  go_simp
  refine (toSlice_c sa3 sb3 sc3 sd3 se3 _).mono ?_
  rintro e w3 ⟨rfl, xw3⟩
  have Lw3 : Ext w2 w3 := Ext.trans qXt xw3
  replace cb0 := Lw3.cell cb0
  replace cb1 := Lw3.cell cb1
  replace cc30 := Lw3.cell cc30
  replace cc31 := Lw3.cell cc31
  replace cc32 := Lw3.cell cc32
  replace cc33 := Lw3.cell cc33
  replace cc34 := Lw3.cell cc34
  replace bW := bW.ext Lw3
  have sz_w3 := Lw3.size
  replace qa0 := xw3.cell qa0
  replace qf0 := xw3.frz zg qf0
  replace qa1 := xw3.cell qa1
  replace qf1 := xw3.frz zg qf1
  replace zg := Nat.lt_of_lt_of_le zg xw3.size
  refine hK.out _ _ ⟨cb0, cb1, cc30, cc31, cc32, cc33, cc34⟩ (fun hHeld => ?_)
  clear hK K
  try simp only [Act.put, qa, qb, qc, qD, qE, qF]
  refine qHr 6 rfl (fun K hK => ?_)
  have zp := zg
  try simp only [Act.put, qa, qb, qc, qD, qE, qF]
  go_simp
  refine (pbx_eq hP.out (specExportPart_c cells es _ _ i1 i2 sa3 sb3 sc3 sd3 se3 _ _ _ (bW.ints.ext qXt) (bW.exps.ext qXt))).mono ?_
  rintro e w4 ⟨W1, W2, RW, rfl, iW, xw4⟩
  have Lw4 : Ext w3 w4 := Ext.trans qXt xw4
  replace cb0 := Lw4.cell cb0
  replace cb1 := Lw4.cell cb1
  replace cc30 := Lw4.cell cc30
  replace cc31 := Lw4.cell cc31
  replace cc32 := Lw4.cell cc32
  replace cc33 := Lw4.cell cc33
  replace cc34 := Lw4.cell cc34
  replace bW := bW.ext Lw4
  have sz_w4 := Lw4.size
  try simp only [World.size_alloc, World.size_drew] at iW
  obtain ⟨Wa, Wc, rfl⟩ := iW.ints.form
  obtain ⟨Wd, Wf, rfl⟩ := iW.exps.form
  replace qa0 := xw4.cell qa0
  replace qf0 := xw4.frz zg qf0
  replace qa1 := xw4.cell qa1
  replace qf1 := xw4.frz zg qf1
  replace zg := Nat.lt_of_lt_of_le zg xw4.size
  refine hK.out _ _ ⟨cb0, cb1, cc30, cc31, cc32, cc33, cc34⟩ (fun hHeld => ?_)
  clear hK K
  try simp only [Act.put, qa, qb, qc, qD, qE, qF]
  refine qHk (v := ?_) 7 rfl (.inl ⟨by rfl, ?_⟩) ?_
  rotate_left
  ·
   (intro w hSw; (try dsimp only at hSw); go_simp; try with_reducible rfl)
  try simp only [Act.put, qa, qb, qc, qD, qE, qF]
  refine qHk (v := ?_) 8 rfl (.inl ⟨by rfl, ?_⟩) ?_
  rotate_left
  ·
   (intro w hSw; (try dsimp only at hSw); go_simp; try with_reducible rfl)
  try simp only [Act.put, qa, qb, qc, qD, qE, qF]
  refine qHk (v := ?_) 9 rfl (.inl ⟨by rfl, ?_⟩) ?_
  rotate_left
  ·
   (intro w hSw; (try dsimp only at hSw); go_simp; try with_reducible rfl)
  try simp only [Act.put, qa, qb, qc, qD, qE, qF]
  refine qHr 11 rfl (fun K hK => ?_)
  try simp only [Act.put, qa, qb, qc, qD, qE, qF]
  go_simp
  have XE : Ext w1 ((w4.setCell ⟨w1.heap.size, 0, none⟩ (.slice Wa PC.length Wc)).setCell ⟨w1.heap.size, 1, none⟩ (.slice Wd PE.length Wf)) := (Ext.setCell (Ext.setCell ((Lw2.trans Lw3).trans Lw4) hg _) hg _)
  have r0 : ((w4.setCell ⟨w1.heap.size, 0, none⟩ (.slice Wa PC.length Wc)).setCell ⟨w1.heap.size, 1, none⟩ (.slice Wd PE.length Wf)).cell? ⟨w1.heap.size, 0, none⟩ = some (.slice Wa PC.length Wc) := qCl
  have f_r0 : ((w4.setCell ⟨w1.heap.size, 0, none⟩ (.slice Wa PC.length Wc)).setCell ⟨w1.heap.size, 1, none⟩ (.slice Wd PE.length Wf)).frozen? ⟨w1.heap.size, 0, none⟩ = false := qFz
  have r1 : ((w4.setCell ⟨w1.heap.size, 0, none⟩ (.slice Wa PC.length Wc)).setCell ⟨w1.heap.size, 1, none⟩ (.slice Wd PE.length Wf)).cell? ⟨w1.heap.size, 1, none⟩ = some (.slice Wd PE.length Wf) := qCl
  have f_r1 : ((w4.setCell ⟨w1.heap.size, 0, none⟩ (.slice Wa PC.length Wc)).setCell ⟨w1.heap.size, 1, none⟩ (.slice Wd PE.length Wf)).frozen? ⟨w1.heap.size, 1, none⟩ = false := qFz
  have hg1 : w1.heap.size ≤ w1.heap.size := hg
  have KE : Chg w1.heap.size (w1.heap.size + 1) w4 ((w4.setCell ⟨w1.heap.size, 0, none⟩ (.slice Wa PC.length Wc)).setCell ⟨w1.heap.size, 1, none⟩ (.slice Wd PE.length Wf)) := (by repeat (first | (with_reducible exact Chg.refl _ _ _) | (with_reducible refine Chg.setCell ?_ qSo qSo _) | (with_reducible refine Chg.ext ?_ (Ext.alloc (Ext.refl _) _)) | (with_reducible refine Chg.ext ?_ (Ext.drew (Ext.refl _)))))
  replace cb0 := KE.cell (by omega) cb0
  replace cb1 := KE.cell (by omega) cb1
  replace cc30 := KE.cell (by omega) cc30
  replace cc31 := KE.cell (by omega) cc31
  replace cc32 := KE.cell (by omega) cc32
  replace cc33 := KE.cell (by omega) cc33
  replace cc34 := KE.cell (by omega) cc34
  clear bW
  replace iW := iW.chg KE (by omega)
  have ke_ := KE.size
  refine hK.out _ _ ⟨cb0, cb1, cc30, cc31, cc32, cc33, cc34⟩ (fun hHeld => ?_)
  clear hK K KE
  try simp only [Act.put, qa, qb, qc, qD, qE, qF]
  refine qHk (v := ?_) 12 rfl (.inl ⟨by rfl, ?_⟩) ?_
  rotate_left
  ·
   (intro w hSw; (try dsimp only at hSw); go_simp; try with_reducible rfl)
  try simp only [Act.put, qa, qb, qc, qD, qE, qF]
  refine wpAnyH_done qKr ?_ _
  clear hHeld
  generalize ((w4.setCell ⟨w1.heap.size, 0, none⟩ (.slice Wa PC.length Wc)).setCell ⟨w1.heap.size, 1, none⟩ (.slice Wd PE.length Wf)) = WE at *
  go_step
  go_step
  go_meet
  case rel => exact ⟨_, _, _, _, _, _, rfl, rfl, XE, hg1, r0, r1, iW.lower (Nat.zero_le _)⟩
  try simp only [Act.put, qa, qb, qc, qD, qE, qF]
  go_simp
  refine (toBuffer_c cells es _ _ _ _ _ (hc.ext (X.trans qXt)) (he.ext (X.trans qXt)) (by omega) (by omega) hm.out).mono ?_
  rintro e w2 ⟨uW, vW, RW, rfl, bW, xw2⟩
  have Lw2 : Ext w1 w2 := Ext.trans qXt xw2
  replace cb0 := Lw2.cell cb0
  replace cb1 := Lw2.cell cb1
  replace cc30 := Lw2.cell cc30
  replace cc31 := Lw2.cell cc31
  replace cc32 := Lw2.cell cc32
  replace cc33 := Lw2.cell cc33
  replace cc34 := Lw2.cell cc34
  have sz_w2 := Lw2.size
  refine hK.out _ _ ⟨cb0, cb1, cc30, cc31, cc32, cc33, cc34⟩ (fun hHeld => ?_)
  clear hK K
  try simp only [Act.put, qa, qb, qc, qD, qE, qF]
  refine wpAnyH_ready (rs := [5, 10]) qKr (by simp) ?_
  refine AllReadyH.cons rfl (fun K hK => ?_) (AllReadyH.cons rfl (fun K hK => ?_) AllReadyH.nil)
  rotate_left
  try simp only [Act.put, qa, qb, qc, qD, qE, qF]
  go_simp
  refine hK.out _ _ ⟨(show Ext w2 _ from qXt).cell cb0, (show Ext w2 _ from qXt).cell cb1, (show Ext w2 _ from qXt).cell cc30, (show Ext w2 _ from qXt).cell cc31, (show Ext w2 _ from qXt).cell cc32, (show Ext w2 _ from qXt).cell cc33, (show Ext w2 _ from qXt).cell cc34⟩ (fun hHeld => ?_)
  clear hK K
  try simp only [Act.put, qa, qb, qc, qD, qE, qF]
  have qa0 : (w2.alloc (.cells #[.slice none 0 0, .slice none 0 0] 32)).cell? ⟨w2.heap.size, 0, none⟩ = some (.slice none 0 0) := qCl
  have qf0 : (w2.alloc (.cells #[.slice none 0 0, .slice none 0 0] 32)).frozen? ⟨w2.heap.size, 0, none⟩ = false := qFz
  have qa1 : (w2.alloc (.cells #[.slice none 0 0, .slice none 0 0] 32)).cell? ⟨w2.heap.size, 1, none⟩ = some (.slice none 0 0) := qCl
  have qf1 : (w2.alloc (.cells #[.slice none 0 0, .slice none 0 0] 32)).frozen? ⟨w2.heap.size, 1, none⟩ = false := qFz
  have zg : w2.heap.size < (w2.alloc (.cells #[.slice none 0 0, .slice none 0 0] 32)).heap.size := qB qa0
  have hg : w1.heap.size ≤ w2.heap.size := (Lw2).size
  refine qHr 5 rfl (fun K hK => ?_)
  have zp := zg
  try simp only [Act.put, qa, qb, qc, qD, qE, qF]
  go_simp
  refine (toSlice_c sa3 sb3 sc3 sd3 se3 _).mono ?_
  rintro e w3 ⟨rfl, xw3⟩
  have Lw3 : Ext w2 w3 := Ext.trans qXt xw3
  replace cb0 := Lw3.cell cb0
  replace cb1 := Lw3.cell cb1
  replace cc30 := Lw3.cell cc30
  replace cc31 := Lw3.cell cc31
  replace cc32 := Lw3.cell cc32
  replace cc33 := Lw3.cell cc33
  replace cc34 := Lw3.cell cc34
  replace bW := bW.ext Lw3
  have sz_w3 := Lw3.size
  replace qa0 := xw3.cell qa0
  replace qf0 := xw3.frz zg qf0
  replace qa1 := xw3.cell qa1
  replace qf1 := xw3.frz zg qf1
  replace zg := Nat.lt_of_lt_of_le zg xw3.size
  refine hK.out _ _ ⟨cb0, cb1, cc30, cc31, cc32, cc33, cc34⟩ (fun hHeld => ?_)
  clear hK K
  try simp only [Act.put, qa, qb, qc, qD, qE, qF]
  refine qHr 6 rfl (fun K hK => ?_)
  have zp := zg
  try simp only [Act.put, qa, qb, qc, qD, qE, qF]
  go_simp
  refine (pbx_eq hP.out (specExportPart_c cells es _ _ i1 i2 sa3 sb3 sc3 sd3 se3 _ _ _ (bW.ints.ext qXt) (bW.exps.ext qXt))).mono ?_
  rintro e w4 ⟨W1, W2, RW, rfl, iW, xw4⟩
  have Lw4 : Ext w3 w4 := Ext.trans qXt xw4
  replace cb0 := Lw4.cell cb0
  replace cb1 := Lw4.cell cb1
  replace cc30 := Lw4.cell cc30
  replace cc31 := Lw4.cell cc31
  replace cc32 := Lw4.cell cc32
  replace cc33 := Lw4.cell cc33
  replace cc34 := Lw4.cell cc34
  replace bW := bW.ext Lw4
  have sz_w4 := Lw4.size
  try simp only [World.size_alloc, World.size_drew] at iW
  obtain ⟨Wa, Wc, rfl⟩ := iW.ints.form
  obtain ⟨Wd, Wf, rfl⟩ := iW.exps.form
  replace qa0 := xw4.cell qa0
  replace qf0 := xw4.frz zg qf0
  replace qa1 := xw4.cell qa1
  replace qf1 := xw4.frz zg qf1
  replace zg := Nat.lt_of_lt_of_le zg xw4.size
  refine hK.out _ _ ⟨cb0, cb1, cc30, cc31, cc32, cc33, cc34⟩ (fun hHeld => ?_)
  clear hK K
  try simp only [Act.put, qa, qb, qc, qD, qE, qF]
  refine qHk (v := ?_) 7 rfl (.inl ⟨by rfl, ?_⟩) ?_
  rotate_left
  ·
   (intro w hSw; (try dsimp only at hSw); go_simp; try with_reducible rfl)
  try simp only [Act.put, qa, qb, qc, qD, qE, qF]
  refine qHk (v := ?_) 8 rfl (.inl ⟨by rfl, ?_⟩) ?_
  rotate_left
  ·
   (intro w hSw; (try dsimp only at hSw); go_simp; try with_reducible rfl)
  try simp only [Act.put, qa, qb, qc, qD, qE, qF]
  refine qHk (v := ?_) 9 rfl (.inl ⟨by rfl, ?_⟩) ?_
  rotate_left
  ·
   (intro w hSw; (try dsimp only at hSw); go_simp; try with_reducible rfl)
  try simp only [Act.put, qa, qb, qc, qD, qE, qF]
  refine qHr 11 rfl (fun K hK => ?_)
  try simp only [Act.put, qa, qb, qc, qD, qE, qF]
  go_simp
  have XE : Ext w1 ((w4.setCell ⟨w2.heap.size, 0, none⟩ (.slice Wa PC.length Wc)).setCell ⟨w2.heap.size, 1, none⟩ (.slice Wd PE.length Wf)) := (Ext.setCell (Ext.setCell ((Lw2.trans Lw3).trans Lw4) hg _) hg _)
  have r0 : ((w4.setCell ⟨w2.heap.size, 0, none⟩ (.slice Wa PC.length Wc)).setCell ⟨w2.heap.size, 1, none⟩ (.slice Wd PE.length Wf)).cell? ⟨w2.heap.size, 0, none⟩ = some (.slice Wa PC.length Wc) := qCl
  have f_r0 : ((w4.setCell ⟨w2.heap.size, 0, none⟩ (.slice Wa PC.length Wc)).setCell ⟨w2.heap.size, 1, none⟩ (.slice Wd PE.length Wf)).frozen? ⟨w2.heap.size, 0, none⟩ = false := qFz
  have r1 : ((w4.setCell ⟨w2.heap.size, 0, none⟩ (.slice Wa PC.length Wc)).setCell ⟨w2.heap.size, 1, none⟩ (.slice Wd PE.length Wf)).cell? ⟨w2.heap.size, 1, none⟩ = some (.slice Wd PE.length Wf) := qCl
  have f_r1 : ((w4.setCell ⟨w2.heap.size, 0, none⟩ (.slice Wa PC.length Wc)).setCell ⟨w2.heap.size, 1, none⟩ (.slice Wd PE.length Wf)).frozen? ⟨w2.heap.size, 1, none⟩ = false := qFz
  have hg1 : w1.heap.size ≤ w2.heap.size := hg
  have KE : Chg w2.heap.size (w2.heap.size + 1) w4 ((w4.setCell ⟨w2.heap.size, 0, none⟩ (.slice Wa PC.length Wc)).setCell ⟨w2.heap.size, 1, none⟩ (.slice Wd PE.length Wf)) := (by repeat (first | (with_reducible exact Chg.refl _ _ _) | (with_reducible refine Chg.setCell ?_ qSo qSo _) | (with_reducible refine Chg.ext ?_ (Ext.alloc (Ext.refl _) _)) | (with_reducible refine Chg.ext ?_ (Ext.drew (Ext.refl _)))))
  replace cb0 := KE.cell (by omega) cb0
  replace cb1 := KE.cell (by omega) cb1
  replace cc30 := KE.cell (by omega) cc30
  replace cc31 := KE.cell (by omega) cc31
  replace cc32 := KE.cell (by omega) cc32
  replace cc33 := KE.cell (by omega) cc33
  replace cc34 := KE.cell (by omega) cc34
  clear bW
  replace iW := iW.chg KE (by omega)
  have ke_ := KE.size
  refine hK.out _ _ ⟨cb0, cb1, cc30, cc31, cc32, cc33, cc34⟩ (fun hHeld => ?_)
  clear hK K KE
  try simp only [Act.put, qa, qb, qc, qD, qE, qF]
  refine qHk (v := ?_) 12 rfl (.inl ⟨by rfl, ?_⟩) ?_
  rotate_left
  ·
   (intro w hSw; (try dsimp only at hSw); go_simp; try with_reducible rfl)
  try simp only [Act.put, qa, qb, qc, qD, qE, qF]
  refine wpAnyH_done qKr ?_ _
  clear hHeld
  generalize ((w4.setCell ⟨w2.heap.size, 0, none⟩ (.slice Wa PC.length Wc)).setCell ⟨w2.heap.size, 1, none⟩ (.slice Wd PE.length Wf)) = WE at *
  go_step
  go_step
  go_meet
  case rel => exact ⟨_, _, _, _, _, _, rfl, rfl, XE, hg1, r0, r1, iW.lower (Nat.zero_le _)⟩
  try simp only [Act.put, qa, qb, qc, qD, qE, qF]
  go_simp
  refine (toSlice_c sa3 sb3 sc3 sd3 se3 _).mono ?_
  rintro e w3 ⟨rfl, xw3⟩
  have Lw3 : Ext w2 w3 := Ext.trans qXt xw3
  replace cb0 := Lw3.cell cb0
  replace cb1 := Lw3.cell cb1
  replace cc30 := Lw3.cell cc30
  replace cc31 := Lw3.cell cc31
  replace cc32 := Lw3.cell cc32
  replace cc33 := Lw3.cell cc33
  replace cc34 := Lw3.cell cc34
  replace bW := bW.ext Lw3
  have sz_w3 := Lw3.size
  refine hK.out _ _ ⟨cb0, cb1, cc30, cc31, cc32, cc33, cc34⟩ (fun hHeld => ?_)
  clear hK K
  try simp only [Act.put, qa, qb, qc, qD, qE, qF]
  refine wpAnyH_ready (rs := [6, 10]) qKr (by simp) ?_
  refine AllReadyH.cons rfl (fun K hK => ?_) (AllReadyH.cons rfl (fun K hK => ?_) AllReadyH.nil)
  rotate_left
  try simp only [Act.put, qa, qb, qc, qD, qE, qF]
  go_simp
  refine hK.out _ _ ⟨(show Ext w3 _ from qXt).cell cb0, (show Ext w3 _ from qXt).cell cb1, (show Ext w3 _ from qXt).cell cc30, (show Ext w3 _ from qXt).cell cc31, (show Ext w3 _ from qXt).cell cc32, (show Ext w3 _ from qXt).cell cc33, (show Ext w3 _ from qXt).cell cc34⟩ (fun hHeld => ?_)
  clear hK K
  try simp only [Act.put, qa, qb, qc, qD, qE, qF]
  have qa0 : (w3.alloc (.cells #[.slice none 0 0, .slice none 0 0] 32)).cell? ⟨w3.heap.size, 0, none⟩ = some (.slice none 0 0) := qCl
  have qf0 : (w3.alloc (.cells #[.slice none 0 0, .slice none 0 0] 32)).frozen? ⟨w3.heap.size, 0, none⟩ = false := qFz
  have qa1 : (w3.alloc (.cells #[.slice none 0 0, .slice none 0 0] 32)).cell? ⟨w3.heap.size, 1, none⟩ = some (.slice none 0 0) := qCl
  have qf1 : (w3.alloc (.cells #[.slice none 0 0, .slice none 0 0] 32)).frozen? ⟨w3.heap.size, 1, none⟩ = false := qFz
  have zg : w3.heap.size < (w3.alloc (.cells #[.slice none 0 0, .slice none 0 0] 32)).heap.size := qB qa0
  have hg : w1.heap.size ≤ w3.heap.size := ((Lw2.trans Lw3)).size
  refine qHr 6 rfl (fun K hK => ?_)
  have zp := zg
  try simp only [Act.put, qa, qb, qc, qD, qE, qF]
  go_simp
  refine (pbx_eq hP.out (specExportPart_c cells es _ _ i1 i2 sa3 sb3 sc3 sd3 se3 _ _ _ (bW.ints.ext qXt) (bW.exps.ext qXt))).mono ?_
  rintro e w4 ⟨W1, W2, RW, rfl, iW, xw4⟩
  have Lw4 : Ext w3 w4 := Ext.trans qXt xw4
  replace cb0 := Lw4.cell cb0
  replace cb1 := Lw4.cell cb1
  replace cc30 := Lw4.cell cc30
  replace cc31 := Lw4.cell cc31
  replace cc32 := Lw4.cell cc32
  replace cc33 := Lw4.cell cc33
  replace cc34 := Lw4.cell cc34
  replace bW := bW.ext Lw4
  have sz_w4 := Lw4.size
  try simp only [World.size_alloc, World.size_drew] at iW
  obtain ⟨Wa, Wc, rfl⟩ := iW.ints.form
  obtain ⟨Wd, Wf, rfl⟩ := iW.exps.form
  replace qa0 := xw4.cell qa0
  replace qf0 := xw4.frz zg qf0
  replace qa1 := xw4.cell qa1
  replace qf1 := xw4.frz zg qf1
  replace zg := Nat.lt_of_lt_of_le zg xw4.size
  refine hK.out _ _ ⟨cb0, cb1, cc30, cc31, cc32, cc33, cc34⟩ (fun hHeld => ?_)
  clear hK K
  try simp only [Act.put, qa, qb, qc, qD, qE, qF]
  refine qHk (v := ?_) 7 rfl (.inl ⟨by rfl, ?_⟩) ?_
  rotate_left
  ·
   (intro w hSw; (try dsimp only at hSw); go_simp; try with_reducible rfl)
  try simp only [Act.put, qa, qb, qc, qD, qE, qF]
  refine qHk (v := ?_) 8 rfl (.inl ⟨by rfl, ?_⟩) ?_
  rotate_left
  ·
   (intro w hSw; (try dsimp only at hSw); go_simp; try with_reducible rfl)
  try simp only [Act.put, qa, qb, qc, qD, qE, qF]
  refine qHk (v := ?_) 9 rfl (.inl ⟨by rfl, ?_⟩) ?_
  rotate_left
  ·
   (intro w hSw; (try dsimp only at hSw); go_simp; try with_reducible rfl)
  try simp only [Act.put, qa, qb, qc, qD, qE, qF]
  refine qHr 11 rfl (fun K hK => ?_)
  try simp only [Act.put, qa, qb, qc, qD, qE, qF]
  go_simp
  have XE : Ext w1 ((w4.setCell ⟨w3.heap.size, 0, none⟩ (.slice Wa PC.length Wc)).setCell ⟨w3.heap.size, 1, none⟩ (.slice Wd PE.length Wf)) := (Ext.setCell (Ext.setCell ((Lw2.trans Lw3).trans Lw4) hg _) hg _)
  have r0 : ((w4.setCell ⟨w3.heap.size, 0, none⟩ (.slice Wa PC.length Wc)).setCell ⟨w3.heap.size, 1, none⟩ (.slice Wd PE.length Wf)).cell? ⟨w3.heap.size, 0, none⟩ = some (.slice Wa PC.length Wc) := qCl
  have f_r0 : ((w4.setCell ⟨w3.heap.size, 0, none⟩ (.slice Wa PC.length Wc)).setCell ⟨w3.heap.size, 1, none⟩ (.slice Wd PE.length Wf)).frozen? ⟨w3.heap.size, 0, none⟩ = false := qFz
  have r1 : ((w4.setCell ⟨w3.heap.size, 0, none⟩ (.slice Wa PC.length Wc)).setCell ⟨w3.heap.size, 1, none⟩ (.slice Wd PE.length Wf)).cell? ⟨w3.heap.size, 1, none⟩ = some (.slice Wd PE.length Wf) := qCl
  have f_r1 : ((w4.setCell ⟨w3.heap.size, 0, none⟩ (.slice Wa PC.length Wc)).setCell ⟨w3.heap.size, 1, none⟩ (.slice Wd PE.length Wf)).frozen? ⟨w3.heap.size, 1, none⟩ = false := qFz
  have hg1 : w1.heap.size ≤ w3.heap.size := hg
  have KE : Chg w3.heap.size (w3.heap.size + 1) w4 ((w4.setCell ⟨w3.heap.size, 0, none⟩ (.slice Wa PC.length Wc)).setCell ⟨w3.heap.size, 1, none⟩ (.slice Wd PE.length Wf)) := (by repeat (first | (with_reducible exact Chg.refl _ _ _) | (with_reducible refine Chg.setCell ?_ qSo qSo _) | (with_reducible refine Chg.ext ?_ (Ext.alloc (Ext.refl _) _)) | (with_reducible refine Chg.ext ?_ (Ext.drew (Ext.refl _)))))
  replace cb0 := KE.cell (by omega) cb0
  replace cb1 := KE.cell (by omega) cb1
  replace cc30 := KE.cell (by omega) cc30
  replace cc31 := KE.cell (by omega) cc31
  replace cc32 := KE.cell (by omega) cc32
  replace cc33 := KE.cell (by omega) cc33
  replace cc34 := KE.cell (by omega) cc34
  clear bW
  replace iW := iW.chg KE (by omega)
  have ke_ := KE.size
  refine hK.out _ _ ⟨cb0, cb1, cc30, cc31, cc32, cc33, cc34⟩ (fun hHeld => ?_)
  clear hK K KE
  try simp only [Act.put, qa, qb, qc, qD, qE, qF]
  refine qHk (v := ?_) 12 rfl (.inl ⟨by rfl, ?_⟩) ?_
  rotate_left
  ·
   (intro w hSw; (try dsimp only at hSw); go_simp; try with_reducible rfl)
  try simp only [Act.put, qa, qb, qc, qD, qE, qF]
  refine wpAnyH_done qKr ?_ _
  clear hHeld
  generalize ((w4.setCell ⟨w3.heap.size, 0, none⟩ (.slice Wa PC.length Wc)).setCell ⟨w3.heap.size, 1, none⟩ (.slice Wd PE.length Wf)) = WE at *
  go_step
  go_step
  go_meet
  case rel => exact ⟨_, _, _, _, _, _, rfl, rfl, XE, hg1, r0, r1, iW.lower (Nat.zero_le _)⟩
  try simp only [Act.put, qa, qb, qc, qD, qE, qF]
  go_simp
  refine (pbx_eq hP.out (specExportPart_c cells es _ _ i1 i2 sa3 sb3 sc3 sd3 se3 _ _ _ (bW.ints.ext qXt) (bW.exps.ext qXt))).mono ?_
  rintro e w4 ⟨W1, W2, RW, rfl, iW, xw4⟩
  have Lw4 : Ext w3 w4 := Ext.trans qXt xw4
  replace cb0 := Lw4.cell cb0
  replace cb1 := Lw4.cell cb1
  replace cc30 := Lw4.cell cc30
  replace cc31 := Lw4.cell cc31
  replace cc32 := Lw4.cell cc32
  replace cc33 := Lw4.cell cc33
  replace cc34 := Lw4.cell cc34
  replace bW := bW.ext Lw4
  have sz_w4 := Lw4.size
  try simp only [World.size_alloc, World.size_drew] at iW
  obtain ⟨Wa, Wc, rfl⟩ := iW.ints.form
  obtain ⟨Wd, Wf, rfl⟩ := iW.exps.form
  refine hK.out _ _ ⟨cb0, cb1, cc30, cc31, cc32, cc33, cc34⟩ (fun hHeld => ?_)
  clear hK K
  try simp only [Act.put, qa, qb, qc, qD, qE, qF]
  refine qHk (v := ?_) 7 rfl (.inl ⟨by rfl, ?_⟩) ?_
  rotate_left
  ·
   (intro w hSw; (try dsimp only at hSw); go_simp; try with_reducible rfl)
  try simp only [Act.put, qa, qb, qc, qD, qE, qF]
  refine qHk (v := ?_) 8 rfl (.inl ⟨by rfl, ?_⟩) ?_
  rotate_left
  ·
   (intro w hSw; (try dsimp only at hSw); go_simp; try with_reducible rfl)
  try simp only [Act.put, qa, qb, qc, qD, qE, qF]
  refine qHk (v := ?_) 9 rfl (.inl ⟨by rfl, ?_⟩) ?_
  rotate_left
  ·
   (intro w hSw; (try dsimp only at hSw); go_simp; try with_reducible rfl)
  try simp only [Act.put, qa, qb, qc, qD, qE, qF]
  refine qHr 10 rfl (fun K hK => ?_)
  try simp only [Act.put, qa, qb, qc, qD, qE, qF]
  go_simp
  refine hK.out _ _ ⟨(show Ext w4 _ from qXt).cell cb0, (show Ext w4 _ from qXt).cell cb1, (show Ext w4 _ from qXt).cell cc30, (show Ext w4 _ from qXt).cell cc31, (show Ext w4 _ from qXt).cell cc32, (show Ext w4 _ from qXt).cell cc33, (show Ext w4 _ from qXt).cell cc34⟩ (fun hHeld => ?_)
  clear hK K
  try simp only [Act.put, qa, qb, qc, qD, qE, qF]
  refine qHr 11 rfl (fun K hK => ?_)
  try simp only [Act.put, qa, qb, qc, qD, qE, qF]
  go_simp
  have XE : Ext w1 (w4.alloc (.cells #[.slice Wa PC.length Wc, .slice Wd PE.length Wf] 32)) := ((Lw2.trans Lw3).trans Lw4).trans qXo
  have r0 : (w4.alloc (.cells #[.slice Wa PC.length Wc, .slice Wd PE.length Wf] 32)).cell? ⟨w4.heap.size, 0, none⟩ = some (.slice Wa PC.length Wc) := qCl
  have f_r0 : (w4.alloc (.cells #[.slice Wa PC.length Wc, .slice Wd PE.length Wf] 32)).frozen? ⟨w4.heap.size, 0, none⟩ = false := qFz
  have r1 : (w4.alloc (.cells #[.slice Wa PC.length Wc, .slice Wd PE.length Wf] 32)).cell? ⟨w4.heap.size, 1, none⟩ = some (.slice Wd PE.length Wf) := qCl
  have f_r1 : (w4.alloc (.cells #[.slice Wa PC.length Wc, .slice Wd PE.length Wf] 32)).frozen? ⟨w4.heap.size, 1, none⟩ = false := qFz
  have hg1 : w1.heap.size ≤ w4.heap.size := ((Lw2.trans Lw3).trans Lw4).size
  have KE : Ext w4 (w4.alloc (.cells #[.slice Wa PC.length Wc, .slice Wd PE.length Wf] 32)) := qXo
  replace cb0 := KE.cell cb0
  replace cb1 := KE.cell cb1
  replace cc30 := KE.cell cc30
  replace cc31 := KE.cell cc31
  replace cc32 := KE.cell cc32
  replace cc33 := KE.cell cc33
  replace cc34 := KE.cell cc34
  clear bW
  replace iW := iW.ext KE
  have ke_ := KE.size
  refine hK.out _ _ ⟨cb0, cb1, cc30, cc31, cc32, cc33, cc34⟩ (fun hHeld => ?_)
  clear hK K KE
  try simp only [Act.put, qa, qb, qc, qD, qE, qF]
  refine qHk (v := ?_) 12 rfl (.inl ⟨by rfl, ?_⟩) ?_
  rotate_left
  ·
   (intro w hSw; (try dsimp only at hSw); go_simp; try with_reducible rfl)
  try simp only [Act.put, qa, qb, qc, qD, qE, qF]
  refine wpAnyH_done qKr ?_ _
  clear hHeld
  generalize (w4.alloc (.cells #[.slice Wa PC.length Wc, .slice Wd PE.length Wf] 32)) = WE at *
  go_step
  go_step
  go_meet
  case rel => exact ⟨_, _, _, _, _, _, rfl, rfl, XE, hg1, r0, r1, iW.lower (Nat.zero_le _)⟩
 case rest =>
  generalize wc = w5 at hcut ⊢
  obtain ⟨gW, Wa, Wc, Wd, Wf, RW, rfl, rfl, xw5, hg_r, r0, r1, iW⟩ := hcut
  have Lw5 : Ext w1 w5 := xw5
  replace cb0 := Lw5.cell cb0
  replace cb1 := Lw5.cell cb1
  replace cc30 := Lw5.cell cc30
  replace cc31 := Lw5.cell cc31
  replace cc32 := Lw5.cell cc32
  replace cc33 := Lw5.cell cc33
  replace cc34 := Lw5.cell cc34
  replace X := X.trans Lw5
  have z3 : w.heap.size < w5.heap.size := qB cb0
  have z4 : w.heap.size + 1 < w5.heap.size := qB cc30
  have z5 : gW < w5.heap.size := qB r0
  have sw5 : w1.heap.size ≤ w5.heap.size := Lw5.size
  clear Lw5 xw5
  have EW : Ext w5 w5 := Ext.refl _
  go_wp2_with fail
  refine (toBuffer_c cells es _ _ _ _ _ (hc.ext (X.trans qXt)) (he.ext (X.trans qXt)) (by omega) (by omega) hm.out).mono ?_
  rintro e w6 ⟨uX, vX, RX, rfl, bX, xw6⟩
  have Lw6 : Ext w5 w6 := Ext.trans qXt xw6
  replace cb0 := Lw6.cell cb0
  replace cb1 := Lw6.cell cb1
  replace cc30 := Lw6.cell cc30
  replace cc31 := Lw6.cell cc31
  replace cc32 := Lw6.cell cc32
  replace cc33 := Lw6.cell cc33
  replace cc34 := Lw6.cell cc34
  replace r0 := Lw6.cell r0
  replace r1 := Lw6.cell r1
  replace X := X.trans Lw6
  replace EW := EW.trans Lw6
  have z6 : w.heap.size < w6.heap.size := qB cb0
  have z7 : w.heap.size + 1 < w6.heap.size := qB cc30
  have z8 : gW < w6.heap.size := qB r0
  have sw6 : w5.heap.size ≤ w6.heap.size := Lw6.size
  clear Lw6
  clear xw6
  replace bX := bX.lower (lo' := w5.heap.size) qSo
  have lX := bX.below
  obtain ⟨Xa, Xc, rfl⟩ := bX.ints.form
  obtain ⟨Xd, Xf, rfl⟩ := bX.exps.form
  go_wp2_with fail
  generalize hW1 : w6.alloc (.cells #[.slice Xa cells.length Xc, .slice Xd es.length Xf] 32) = w7 at *
  have Lw7 : Ext w6 w7 := by subst hW1; exact qXt
  replace cb0 := Lw7.cell cb0
  replace cb1 := Lw7.cell cb1
  replace cc30 := Lw7.cell cc30
  replace cc31 := Lw7.cell cc31
  replace cc32 := Lw7.cell cc32
  replace cc33 := Lw7.cell cc33
  replace cc34 := Lw7.cell cc34
  replace r0 := Lw7.cell r0
  replace r1 := Lw7.cell r1
  have x0 : w7.cell? ⟨w6.heap.size, 0, none⟩ = some (.slice Xa cells.length Xc) := by subst hW1; exact qCl
  have x1 : w7.cell? ⟨w6.heap.size, 1, none⟩ = some (.slice Xd es.length Xf) := by subst hW1; exact qCl
  replace bX := bX.ext Lw7
  replace X := X.trans Lw7
  replace EW := EW.trans Lw7
  clear hW1
  have z9 : w.heap.size < w7.heap.size := qB cb0
  have z10 : w.heap.size + 1 < w7.heap.size := qB cc30
  have z11 : gW < w7.heap.size := qB r0
  have z12 : w6.heap.size < w7.heap.size := qB x0
  have sw7 : w6.heap.size ≤ w7.heap.size := Lw7.size
  clear Lw7
  go_cut [13, 14] (fun s0 s1 wx => ∃ (gX : Nat) (Ga : Option Addr) (Gc : Nat) (Gd : Option Addr) (Gf : Nat) (RG : Nat → Value) (gl gh : Nat), s0 = .pointer (some ⟨gX, 0, none⟩) ∧ s1 = .bool false ∧ Ext w7 wx ∧ w7.heap.size ≤ gX ∧ wx.cell? ⟨gX, 0, none⟩ = some (.slice Ga PC.length Gc) ∧ wx.cell? ⟨gX, 1, none⟩ = some (.slice Gd PE.length Gf) ∧ BufR wx gl (.slice Ga PC.length Gc) (.slice Gd PE.length Gf) PC PE RG ∧ BelowB gh (.slice Ga PC.length Gc) (.slice Gd PE.length Gf) PC PE RG ∧ w7.heap.size ≤ gl ∧ gh ≤ wx.heap.size ∧ (gX < gl ∨ gh ≤ gX))
  case first =>
   refine wp_region_held_drew (S := fun w' => w'.cell? ⟨w.heap.size, 0, none⟩ = some (.slice ac cells.length cc) ∧ w'.cell? ⟨w.heap.size, 1, none⟩ = some (.slice ae es.length ce) ∧ w'.cell? ⟨w.heap.size + 1, 0, none⟩ = some (.int .i64 sa3) ∧ w'.cell? ⟨w.heap.size + 1, 1, none⟩ = some (.int .i64 sb3) ∧ w'.cell? ⟨w.heap.size + 1, 2, none⟩ = some (.int .i64 sc3) ∧ w'.cell? ⟨w.heap.size + 1, 3, none⟩ = some (.bool sd3) ∧ w'.cell? ⟨w.heap.size + 1, 4, none⟩ = some (.bool se3) ∧ w'.cell? ⟨gW, 0, none⟩ = some (.slice Wa PC.length Wc) ∧ w'.cell? ⟨gW, 1, none⟩ = some (.slice Wd PE.length Wf) ∧ w'.cell? ⟨w6.heap.size, 0, none⟩ = some (.slice Xa cells.length Xc) ∧ w'.cell? ⟨w6.heap.size, 1, none⟩ = some (.slice Xd es.length Xf)) qKr ⟨cb0, cb1, cc30, cc31, cc32, cc33, cc34, r0, r1, x0, x1⟩ (fun hHeld => ?_)
   refine qHk (v := ?_) 0 rfl (.inl ⟨by rfl, ?_⟩) ?_
   rotate_left
   ·
    (intro w hSw; (try dsimp only at hSw); go_simp; try with_reducible rfl)
   try simp only [Act.put, qa, qb, qc, qD, qE, qF]
   refine qHk (v := ?_) 1 rfl (.inl ⟨by rfl, ?_⟩) ?_
   rotate_left
   ·
    (intro w hSw; (try dsimp only at hSw); go_simp; try with_reducible rfl)
   try simp only [Act.put, qa, qb, qc, qD, qE, qF]
   refine qHk (v := ?_) 2 rfl (.inl ⟨by rfl, ?_⟩) ?_
   rotate_left
   ·
    (intro w hSw; (try dsimp only at hSw); go_simp; try with_reducible rfl)
   try simp only [Act.put, qa, qb, qc, qD, qE, qF]
   refine qHk (v := ?_) 3 rfl (.inl ⟨by rfl, ?_⟩) ?_
   rotate_left
   ·
    (intro w hSw; (try dsimp only at hSw); go_simp; try with_reducible rfl)
   try simp only [Act.put, qa, qb, qc, qD, qE, qF]
   refine wpAnyH_ready (rs := [4, 9]) qKr (by simp) ?_
   refine AllReadyH.cons rfl (fun K hK => ?_) (AllReadyH.cons rfl (fun K hK => ?_) AllReadyH.nil)
   rotate_left
   try simp only [Act.put, qa, qb, qc, qD, qE, qF]
   go_simp
   refine hK.out _ _ ⟨(show Ext w7 _ from qXt).cell cb0, (show Ext w7 _ from qXt).cell cb1, (show Ext w7 _ from qXt).cell cc30, (show Ext w7 _ from qXt).cell cc31, (show Ext w7 _ from qXt).cell cc32, (show Ext w7 _ from qXt).cell cc33, (show Ext w7 _ from qXt).cell cc34, (show Ext w7 _ from qXt).cell r0, (show Ext w7 _ from qXt).cell r1, (show Ext w7 _ from qXt).cell x0, (show Ext w7 _ from qXt).cell x1⟩ (fun hHeld => ?_)
   clear hK K
   try simp only [Act.put, qa, qb, qc, qD, qE, qF]
   have qa0 : (w7.drew.alloc (.cells #[.slice none 0 0, .slice none 0 0] 32)).cell? ⟨w7.heap.size, 0, none⟩ = some (.slice none 0 0) := qCl
   have qf0 : (w7.drew.alloc (.cells #[.slice none 0 0, .slice none 0 0] 32)).frozen? ⟨w7.heap.size, 0, none⟩ = false := qFz
   have qa1 : (w7.drew.alloc (.cells #[.slice none 0 0, .slice none 0 0] 32)).cell? ⟨w7.heap.size, 1, none⟩ = some (.slice none 0 0) := qCl
   have qf1 : (w7.drew.alloc (.cells #[.slice none 0 0, .slice none 0 0] 32)).frozen? ⟨w7.heap.size, 1, none⟩ = false := qFz
   have zg : w7.heap.size < (w7.drew.alloc (.cells #[.slice none 0 0, .slice none 0 0] 32)).heap.size := qB qa0
   have hg : w7.heap.size ≤ w7.heap.size := Nat.le_refl _
   refine qHr 4 rfl (fun K hK => ?_)
   have zp := zg
   try simp only [Act.put, qa, qb, qc, qD, qE, qF]
   go_simp
   refine (toSlice_c sa3 sb3 sc3 sd3 se3 _).mono ?_
   rintro e w8 ⟨rfl, xw8⟩
   have Lw8 : Ext w7 w8 := Ext.trans qXt xw8
   replace cb0 := Lw8.cell cb0
   replace cb1 := Lw8.cell cb1
   replace cc30 := Lw8.cell cc30
   replace cc31 := Lw8.cell cc31
   replace cc32 := Lw8.cell cc32
   replace cc33 := Lw8.cell cc33
   replace cc34 := Lw8.cell cc34
   replace r0 := Lw8.cell r0
   replace r1 := Lw8.cell r1
   replace x0 := Lw8.cell x0
   replace x1 := Lw8.cell x1
   have sz_w8 := Lw8.size
   replace qa0 := xw8.cell qa0
   replace qf0 := xw8.frz zg qf0
   replace qa1 := xw8.cell qa1
   replace qf1 := xw8.frz zg qf1
   replace zg := Nat.lt_of_lt_of_le zg xw8.size
   refine hK.out _ _ ⟨cb0, cb1, cc30, cc31, cc32, cc33, cc34, r0, r1, x0, x1⟩ (fun hHeld => ?_)
   clear hK K
   try simp only [Act.put, qa, qb, qc, qD, qE, qF]
   refine qHr 5 rfl (fun K hK => ?_)
   have zp := zg
   try simp only [Act.put, qa, qb, qc, qD, qE, qF]
   go_simp
   refine (pbx_eq hP.out (implExportPart_c cells es _ _ i1 i2 sa3 sb3 sc3 sd3 se3 _ _ _ (bX.ints.ext (Lw8.trans qXt)) (bX.exps.ext (Lw8.trans qXt)))).mono ?_
   rintro e w9 ⟨G1, G2, RG, rfl, bG, xw9⟩
   have Lw9 : Ext w8 w9 := Ext.trans qXt xw9
   replace cb0 := Lw9.cell cb0
   replace cb1 := Lw9.cell cb1
   replace cc30 := Lw9.cell cc30
   replace cc31 := Lw9.cell cc31
   replace cc32 := Lw9.cell cc32
   replace cc33 := Lw9.cell cc33
   replace cc34 := Lw9.cell cc34
   replace r0 := Lw9.cell r0
   replace r1 := Lw9.cell r1
   replace x0 := Lw9.cell x0
   replace x1 := Lw9.cell x1
   have sz_w9 := Lw9.size
   try simp only [World.size_alloc, World.size_drew] at bG
   obtain ⟨Ga, Gc, rfl⟩ := bG.ints.form
   obtain ⟨Gd, Gf, rfl⟩ := bG.exps.form
   have lG := bG.below
   replace qa0 := xw9.cell qa0
   replace qf0 := xw9.frz zg qf0
   replace qa1 := xw9.cell qa1
   replace qf1 := xw9.frz zg qf1
   replace zg := Nat.lt_of_lt_of_le zg xw9.size
   refine hK.out _ _ ⟨cb0, cb1, cc30, cc31, cc32, cc33, cc34, r0, r1, x0, x1⟩ (fun hHeld => ?_)
   clear hK K
   try simp only [Act.put, qa, qb, qc, qD, qE, qF]
   refine qHk (v := ?_) 6 rfl (.inl ⟨by rfl, ?_⟩) ?_
   rotate_left
   ·
    (intro w hSw; (try dsimp only at hSw); go_simp; try with_reducible rfl)
   try simp only [Act.put, qa, qb, qc, qD, qE, qF]
   refine qHk (v := ?_) 7 rfl (.inl ⟨by rfl, ?_⟩) ?_
   rotate_left
   ·
    (intro w hSw; (try dsimp only at hSw); go_simp; try with_reducible rfl)
   try simp only [Act.put, qa, qb, qc, qD, qE, qF]
   refine qHk (v := ?_) 8 rfl (.inl ⟨by rfl, ?_⟩) ?_
   rotate_left
   ·
    (intro w hSw; (try dsimp only at hSw); go_simp; try with_reducible rfl)
   try simp only [Act.put, qa, qb, qc, qD, qE, qF]
   refine qHr 10 rfl (fun K hK => ?_)
   try simp only [Act.put, qa, qb, qc, qD, qE, qF]
   go_simp
   have XE : Ext w7 ((w9.setCell ⟨w7.heap.size, 0, none⟩ (.slice Ga PC.length Gc)).setCell ⟨w7.heap.size, 1, none⟩ (.slice Gd PE.length Gf)) := (Ext.setCell (Ext.setCell (Lw8.trans Lw9) hg _) hg _)
   have gg0 : ((w9.setCell ⟨w7.heap.size, 0, none⟩ (.slice Ga PC.length Gc)).setCell ⟨w7.heap.size, 1, none⟩ (.slice Gd PE.length Gf)).cell? ⟨w7.heap.size, 0, none⟩ = some (.slice Ga PC.length Gc) := qCl
   have f_gg0 : ((w9.setCell ⟨w7.heap.size, 0, none⟩ (.slice Ga PC.length Gc)).setCell ⟨w7.heap.size, 1, none⟩ (.slice Gd PE.length Gf)).frozen? ⟨w7.heap.size, 0, none⟩ = false := qFz
   have gg1 : ((w9.setCell ⟨w7.heap.size, 0, none⟩ (.slice Ga PC.length Gc)).setCell ⟨w7.heap.size, 1, none⟩ (.slice Gd PE.length Gf)).cell? ⟨w7.heap.size, 1, none⟩ = some (.slice Gd PE.length Gf) := qCl
   have f_gg1 : ((w9.setCell ⟨w7.heap.size, 0, none⟩ (.slice Ga PC.length Gc)).setCell ⟨w7.heap.size, 1, none⟩ (.slice Gd PE.length Gf)).frozen? ⟨w7.heap.size, 1, none⟩ = false := qFz
   have hg1 : w7.heap.size ≤ w7.heap.size := hg
   have KE : Chg w7.heap.size (w7.heap.size + 1) w9 ((w9.setCell ⟨w7.heap.size, 0, none⟩ (.slice Ga PC.length Gc)).setCell ⟨w7.heap.size, 1, none⟩ (.slice Gd PE.length Gf)) := (by repeat (first | (with_reducible exact Chg.refl _ _ _) | (with_reducible refine Chg.setCell ?_ qSo qSo _) | (with_reducible refine Chg.ext ?_ (Ext.alloc (Ext.refl _) _)) | (with_reducible refine Chg.ext ?_ (Ext.drew (Ext.refl _)))))
   replace cb0 := KE.cell (by omega) cb0
   replace cb1 := KE.cell (by omega) cb1
   replace cc30 := KE.cell (by omega) cc30
   replace cc31 := KE.cell (by omega) cc31
   replace cc32 := KE.cell (by omega) cc32
   replace cc33 := KE.cell (by omega) cc33
   replace cc34 := KE.cell (by omega) cc34
   replace r0 := KE.cell (by omega) r0
   replace r1 := KE.cell (by omega) r1
   replace x0 := KE.cell (by omega) x0
   replace x1 := KE.cell (by omega) x1
   replace bG := bG.chg KE (by omega)
   have ke_ := KE.size
   refine hK.out _ _ ⟨cb0, cb1, cc30, cc31, cc32, cc33, cc34, r0, r1, x0, x1⟩ (fun hHeld => ?_)
   clear hK K KE
   try simp only [Act.put, qa, qb, qc, qD, qE, qF]
   refine qHk (v := ?_) 11 rfl (.inl ⟨by rfl, ?_⟩) ?_
   rotate_left
   ·
    (intro w hSw; (try dsimp only at hSw); go_simp; try with_reducible rfl)
   try simp only [Act.put, qa, qb, qc, qD, qE, qF]
   refine wpAnyH_done qKr ?_ _
   clear hHeld
   generalize ((w9.setCell ⟨w7.heap.size, 0, none⟩ (.slice Ga PC.length Gc)).setCell ⟨w7.heap.size, 1, none⟩ (.slice Gd PE.length Gf)) = WE at *
   go_step
   go_step
   go_meet
   case rel => exact ⟨_, _, _, _, _, _, _, _, rfl, rfl, XE, hg1, gg0, gg1, bG, lG, (by omega), (by omega), (by omega)⟩
   try simp only [Act.put, qa, qb, qc, qD, qE, qF]
   go_simp
   refine (toSlice_c sa3 sb3 sc3 sd3 se3 _).mono ?_
   rintro e w8 ⟨rfl, xw8⟩
   have Lw8 : Ext w7 w8 := Ext.trans qXt xw8
   replace cb0 := Lw8.cell cb0
   replace cb1 := Lw8.cell cb1
   replace cc30 := Lw8.cell cc30
   replace cc31 := Lw8.cell cc31
   replace cc32 := Lw8.cell cc32
   replace cc33 := Lw8.cell cc33
   replace cc34 := Lw8.cell cc34
   replace r0 := Lw8.cell r0
   replace r1 := Lw8.cell r1
   replace x0 := Lw8.cell x0
   replace x1 := Lw8.cell x1
   have sz_w8 := Lw8.size
   refine hK.out _ _ ⟨cb0, cb1, cc30, cc31, cc32, cc33, cc34, r0, r1, x0, x1⟩ (fun hHeld => ?_)
   clear hK K
   try simp only [Act.put, qa, qb, qc, qD, qE, qF]
   refine wpAnyH_ready (rs := [5, 9]) qKr (by simp) ?_
   refine AllReadyH.cons rfl (fun K hK => ?_) (AllReadyH.cons rfl (fun K hK => ?_) AllReadyH.nil)
   rotate_left
   try simp only [Act.put, qa, qb, qc, qD, qE, qF]
   go_simp
   refine hK.out _ _ ⟨(show Ext w8 _ from qXt).cell cb0, (show Ext w8 _ from qXt).cell cb1, (show Ext w8 _ from qXt).cell cc30, (show Ext w8 _ from qXt).cell cc31, (show Ext w8 _ from qXt).cell cc32, (show Ext w8 _ from qXt).cell cc33, (show Ext w8 _ from qXt).cell cc34, (show Ext w8 _ from qXt).cell r0, (show Ext w8 _ from qXt).cell r1, (show Ext w8 _ from qXt).cell x0, (show Ext w8 _ from qXt).cell x1⟩ (fun hHeld => ?_)
   clear hK K
   try simp only [Act.put, qa, qb, qc, qD, qE, qF]
   have qa0 : (w8.alloc (.cells #[.slice none 0 0, .slice none 0 0] 32)).cell? ⟨w8.heap.size, 0, none⟩ = some (.slice none 0 0) := qCl
   have qf0 : (w8.alloc (.cells #[.slice none 0 0, .slice none 0 0] 32)).frozen? ⟨w8.heap.size, 0, none⟩ = false := qFz
   have qa1 : (w8.alloc (.cells #[.slice none 0 0, .slice none 0 0] 32)).cell? ⟨w8.heap.size, 1, none⟩ = some (.slice none 0 0) := qCl
   have qf1 : (w8.alloc (.cells #[.slice none 0 0, .slice none 0 0] 32)).frozen? ⟨w8.heap.size, 1, none⟩ = false := qFz
   have zg : w8.heap.size < (w8.alloc (.cells #[.slice none 0 0, .slice none 0 0] 32)).heap.size := qB qa0
   have hg : w7.heap.size ≤ w8.heap.size := (Lw8).size
   refine qHr 5 rfl (fun K hK => ?_)
   have zp := zg
   try simp only [Act.put, qa, qb, qc, qD, qE, qF]
   go_simp
   refine (pbx_eq hP.out (implExportPart_c cells es _ _ i1 i2 sa3 sb3 sc3 sd3 se3 _ _ _ (bX.ints.ext (Lw8.trans qXt)) (bX.exps.ext (Lw8.trans qXt)))).mono ?_
   rintro e w9 ⟨G1, G2, RG, rfl, bG, xw9⟩
   have Lw9 : Ext w8 w9 := Ext.trans qXt xw9
   replace cb0 := Lw9.cell cb0
   replace cb1 := Lw9.cell cb1
   replace cc30 := Lw9.cell cc30
   replace cc31 := Lw9.cell cc31
   replace cc32 := Lw9.cell cc32
   replace cc33 := Lw9.cell cc33
   replace cc34 := Lw9.cell cc34
   replace r0 := Lw9.cell r0
   replace r1 := Lw9.cell r1
   replace x0 := Lw9.cell x0
   replace x1 := Lw9.cell x1
   have sz_w9 := Lw9.size
   try simp only [World.size_alloc, World.size_drew] at bG
   obtain ⟨Ga, Gc, rfl⟩ := bG.ints.form
   obtain ⟨Gd, Gf, rfl⟩ := bG.exps.form
   have lG := bG.below
   replace qa0 := xw9.cell qa0
   replace qf0 := xw9.frz zg qf0
   replace qa1 := xw9.cell qa1
   replace qf1 := xw9.frz zg qf1
   replace zg := Nat.lt_of_lt_of_le zg xw9.size
   refine hK.out _ _ ⟨cb0, cb1, cc30, cc31, cc32, cc33, cc34, r0, r1, x0, x1⟩ (fun hHeld => ?_)
   clear hK K
   try simp only [Act.put, qa, qb, qc, qD, qE, qF]
   refine qHk (v := ?_) 6 rfl (.inl ⟨by rfl, ?_⟩) ?_
   rotate_left
   ·
    (intro w hSw; (try dsimp only at hSw); go_simp; try with_reducible rfl)
   try simp only [Act.put, qa, qb, qc, qD, qE, qF]
   refine qHk (v := ?_) 7 rfl (.inl ⟨by rfl, ?_⟩) ?_
   rotate_left
   ·
    (intro w hSw; (try dsimp only at hSw); go_simp; try with_reducible rfl)
   try simp only [Act.put, qa, qb, qc, qD, qE, qF]
   refine qHk (v := ?_) 8 rfl (.inl ⟨by rfl, ?_⟩) ?_
   rotate_left
   ·
    (intro w hSw; (try dsimp only at hSw); go_simp; try with_reducible rfl)
   try simp only [Act.put, qa, qb, qc, qD, qE, qF]
   refine qHr 10 rfl (fun K hK => ?_)
   try simp only [Act.put, qa, qb, qc, qD, qE, qF]
   go_simp
   have XE : Ext w7 ((w9.setCell ⟨w8.heap.size, 0, none⟩ (.slice Ga PC.length Gc)).setCell ⟨w8.heap.size, 1, none⟩ (.slice Gd PE.length Gf)) := (Ext.setCell (Ext.setCell (Lw8.trans Lw9) hg _) hg _)
   have gg0 : ((w9.setCell ⟨w8.heap.size, 0, none⟩ (.slice Ga PC.length Gc)).setCell ⟨w8.heap.size, 1, none⟩ (.slice Gd PE.length Gf)).cell? ⟨w8.heap.size, 0, none⟩ = some (.slice Ga PC.length Gc) := qCl
   have f_gg0 : ((w9.setCell ⟨w8.heap.size, 0, none⟩ (.slice Ga PC.length Gc)).setCell ⟨w8.heap.size, 1, none⟩ (.slice Gd PE.length Gf)).frozen? ⟨w8.heap.size, 0, none⟩ = false := qFz
   have gg1 : ((w9.setCell ⟨w8.heap.size, 0, none⟩ (.slice Ga PC.length Gc)).setCell ⟨w8.heap.size, 1, none⟩ (.slice Gd PE.length Gf)).cell? ⟨w8.heap.size, 1, none⟩ = some (.slice Gd PE.length Gf) := qCl
   have f_gg1 : ((w9.setCell ⟨w8.heap.size, 0, none⟩ (.slice Ga PC.length Gc)).setCell ⟨w8.heap.size, 1, none⟩ (.slice Gd PE.length Gf)).frozen? ⟨w8.heap.size, 1, none⟩ = false := qFz
   have hg1 : w7.heap.size ≤ w8.heap.size := hg
   have KE : Chg w8.heap.size (w8.heap.size + 1) w9 ((w9.setCell ⟨w8.heap.size, 0, none⟩ (.slice Ga PC.length Gc)).setCell ⟨w8.heap.size, 1, none⟩ (.slice Gd PE.length Gf)) := (by repeat (first | (with_reducible exact Chg.refl _ _ _) | (with_reducible refine Chg.setCell ?_ qSo qSo _) | (with_reducible refine Chg.ext ?_ (Ext.alloc (Ext.refl _) _)) | (with_reducible refine Chg.ext ?_ (Ext.drew (Ext.refl _)))))
   replace cb0 := KE.cell (by omega) cb0
   replace cb1 := KE.cell (by omega) cb1
   replace cc30 := KE.cell (by omega) cc30
   replace cc31 := KE.cell (by omega) cc31
   replace cc32 := KE.cell (by omega) cc32
   replace cc33 := KE.cell (by omega) cc33
   replace cc34 := KE.cell (by omega) cc34
   replace r0 := KE.cell (by omega) r0
   replace r1 := KE.cell (by omega) r1
   replace x0 := KE.cell (by omega) x0
   replace x1 := KE.cell (by omega) x1
   replace bG := bG.chg KE (by omega)
   have ke_ := KE.size
   refine hK.out _ _ ⟨cb0, cb1, cc30, cc31, cc32, cc33, cc34, r0, r1, x0, x1⟩ (fun hHeld => ?_)
   clear hK K KE
   try simp only [Act.put, qa, qb, qc, qD, qE, qF]
   refine qHk (v := ?_) 11 rfl (.inl ⟨by rfl, ?_⟩) ?_
   rotate_left
   ·
    (intro w hSw; (try dsimp only at hSw); go_simp; try with_reducible rfl)
   try simp only [Act.put, qa, qb, qc, qD, qE, qF]
   refine wpAnyH_done qKr ?_ _
   clear hHeld
   generalize ((w9.setCell ⟨w8.heap.size, 0, none⟩ (.slice Ga PC.length Gc)).setCell ⟨w8.heap.size, 1, none⟩ (.slice Gd PE.length Gf)) = WE at *
   go_step
   go_step
   go_meet
   case rel => exact ⟨_, _, _, _, _, _, _, _, rfl, rfl, XE, hg1, gg0, gg1, bG, lG, (by omega), (by omega), (by omega)⟩
   try simp only [Act.put, qa, qb, qc, qD, qE, qF]
   go_simp
   refine (pbx_eq hP.out (implExportPart_c cells es _ _ i1 i2 sa3 sb3 sc3 sd3 se3 _ _ _ (bX.ints.ext (Lw8.trans qXt)) (bX.exps.ext (Lw8.trans qXt)))).mono ?_
   rintro e w9 ⟨G1, G2, RG, rfl, bG, xw9⟩
   have Lw9 : Ext w8 w9 := Ext.trans qXt xw9
   replace cb0 := Lw9.cell cb0
   replace cb1 := Lw9.cell cb1
   replace cc30 := Lw9.cell cc30
   replace cc31 := Lw9.cell cc31
   replace cc32 := Lw9.cell cc32
   replace cc33 := Lw9.cell cc33
   replace cc34 := Lw9.cell cc34
   replace r0 := Lw9.cell r0
   replace r1 := Lw9.cell r1
   replace x0 := Lw9.cell x0
   replace x1 := Lw9.cell x1
   have sz_w9 := Lw9.size
   try simp only [World.size_alloc, World.size_drew] at bG
   obtain ⟨Ga, Gc, rfl⟩ := bG.ints.form
   obtain ⟨Gd, Gf, rfl⟩ := bG.exps.form
   have lG := bG.below
   refine hK.out _ _ ⟨cb0, cb1, cc30, cc31, cc32, cc33, cc34, r0, r1, x0, x1⟩ (fun hHeld => ?_)
   clear hK K
   try simp only [Act.put, qa, qb, qc, qD, qE, qF]
   refine qHk (v := ?_) 6 rfl (.inl ⟨by rfl, ?_⟩) ?_
   rotate_left
   ·
    (intro w hSw; (try dsimp only at hSw); go_simp; try with_reducible rfl)
   try simp only [Act.put, qa, qb, qc, qD, qE, qF]
   refine qHk (v := ?_) 7 rfl (.inl ⟨by rfl, ?_⟩) ?_
   rotate_left
   ·
    (intro w hSw; (try dsimp only at hSw); go_simp; try with_reducible rfl)
   try simp only [Act.put, qa, qb, qc, qD, qE, qF]
   refine qHk (v := ?_) 8 rfl (.inl ⟨by rfl, ?_⟩) ?_
   rotate_left
   ·
    (intro w hSw; (try dsimp only at hSw); go_simp; try with_reducible rfl)
   try simp only [Act.put, qa, qb, qc, qD, qE, qF]
   refine qHr 9 rfl (fun K hK => ?_)
   try simp only [Act.put, qa, qb, qc, qD, qE, qF]
   go_simp
   refine hK.out _ _ ⟨(show Ext w9 _ from qXt).cell cb0, (show Ext w9 _ from qXt).cell cb1, (show Ext w9 _ from qXt).cell cc30, (show Ext w9 _ from qXt).cell cc31, (show Ext w9 _ from qXt).cell cc32, (show Ext w9 _ from qXt).cell cc33, (show Ext w9 _ from qXt).cell cc34, (show Ext w9 _ from qXt).cell r0, (show Ext w9 _ from qXt).cell r1, (show Ext w9 _ from qXt).cell x0, (show Ext w9 _ from qXt).cell x1⟩ (fun hHeld => ?_)
   clear hK K
   try simp only [Act.put, qa, qb, qc, qD, qE, qF]
   refine qHr 10 rfl (fun K hK => ?_)
   try simp only [Act.put, qa, qb, qc, qD, qE, qF]
   go_simp
   have XE : Ext w7 (w9.alloc (.cells #[.slice Ga PC.length Gc, .slice Gd PE.length Gf] 32)) := (Lw8.trans Lw9).trans qXo
   have gg0 : (w9.alloc (.cells #[.slice Ga PC.length Gc, .slice Gd PE.length Gf] 32)).cell? ⟨w9.heap.size, 0, none⟩ = some (.slice Ga PC.length Gc) := qCl
   have f_gg0 : (w9.alloc (.cells #[.slice Ga PC.length Gc, .slice Gd PE.length Gf] 32)).frozen? ⟨w9.heap.size, 0, none⟩ = false := qFz
   have gg1 : (w9.alloc (.cells #[.slice Ga PC.length Gc, .slice Gd PE.length Gf] 32)).cell? ⟨w9.heap.size, 1, none⟩ = some (.slice Gd PE.length Gf) := qCl
   have f_gg1 : (w9.alloc (.cells #[.slice Ga PC.length Gc, .slice Gd PE.length Gf] 32)).frozen? ⟨w9.heap.size, 1, none⟩ = false := qFz
   have hg1 : w7.heap.size ≤ w9.heap.size := (Lw8.trans Lw9).size
   have KE : Ext w9 (w9.alloc (.cells #[.slice Ga PC.length Gc, .slice Gd PE.length Gf] 32)) := qXo
   replace cb0 := KE.cell cb0
   replace cb1 := KE.cell cb1
   replace cc30 := KE.cell cc30
   replace cc31 := KE.cell cc31
   replace cc32 := KE.cell cc32
   replace cc33 := KE.cell cc33
   replace cc34 := KE.cell cc34
   replace r0 := KE.cell r0
   replace r1 := KE.cell r1
   replace x0 := KE.cell x0
   replace x1 := KE.cell x1
   replace bG := bG.ext KE
   have ke_ := KE.size
   refine hK.out _ _ ⟨cb0, cb1, cc30, cc31, cc32, cc33, cc34, r0, r1, x0, x1⟩ (fun hHeld => ?_)
   clear hK K KE
   try simp only [Act.put, qa, qb, qc, qD, qE, qF]
   refine qHk (v := ?_) 11 rfl (.inl ⟨by rfl, ?_⟩) ?_
   rotate_left
   ·
    (intro w hSw; (try dsimp only at hSw); go_simp; try with_reducible rfl)
   try simp only [Act.put, qa, qb, qc, qD, qE, qF]
   refine wpAnyH_done qKr ?_ _
   clear hHeld
   generalize (w9.alloc (.cells #[.slice Ga PC.length Gc, .slice Gd PE.length Gf] 32)) = WE at *
   go_step
   go_step
   go_meet
   case rel => exact ⟨_, _, _, _, _, _, _, _, rfl, rfl, XE, hg1, gg0, gg1, bG, lG, (by omega), (by omega), (by omega)⟩
  case rest =>
   generalize wc = w10 at hcut ⊢
   obtain ⟨gX, Ga, Gc, Gd, Gf, RG, gl, gh, rfl, rfl, xw10, hg_gg, gg0, gg1, bG, lG, hgl1, hgl2, hgl3⟩ := hcut
   have Lw10 : Ext w7 w10 := xw10
   replace cb0 := Lw10.cell cb0
   replace cb1 := Lw10.cell cb1
   replace cc30 := Lw10.cell cc30
   replace cc31 := Lw10.cell cc31
   replace cc32 := Lw10.cell cc32
   replace cc33 := Lw10.cell cc33
   replace cc34 := Lw10.cell cc34
   replace r0 := Lw10.cell r0
   replace r1 := Lw10.cell r1
   replace x0 := Lw10.cell x0
   replace x1 := Lw10.cell x1
   replace bX := bX.ext Lw10
   replace X := X.trans Lw10
   replace EW := EW.trans Lw10
   have z13 : w.heap.size < w10.heap.size := qB cb0
   have z14 : w.heap.size + 1 < w10.heap.size := qB cc30
   have z15 : gW < w10.heap.size := qB r0
   have z16 : w6.heap.size < w10.heap.size := qB x0
   have z17 : gX < w10.heap.size := qB gg0
   have sw10 : w7.heap.size ≤ w10.heap.size := Lw10.size
   clear Lw10 xw10
   go_wp2_with fail
   refine (eqBuffer_c PC PE _ _ _ _ _ _ _ _ _ (bG.ints.ext qXt) (bG.exps.ext qXt) ((iW.ext EW).ints.ext qXt) ((iW.ext EW).exps.ext qXt)).mono ?_
   rintro e w11 ⟨rfl, xw11⟩
   have Lw11 : Ext w10 w11 := Ext.trans qXt xw11
   replace cb0 := Lw11.cell cb0
   replace cb1 := Lw11.cell cb1
   replace cc30 := Lw11.cell cc30
   replace cc31 := Lw11.cell cc31
   replace cc32 := Lw11.cell cc32
   replace cc33 := Lw11.cell cc33
   replace cc34 := Lw11.cell cc34
   replace r0 := Lw11.cell r0
   replace r1 := Lw11.cell r1
   replace x0 := Lw11.cell x0
   replace x1 := Lw11.cell x1
   replace gg0 := Lw11.cell gg0
   replace gg1 := Lw11.cell gg1
   replace bX := bX.ext Lw11
   replace bG := bG.ext Lw11
   replace X := X.trans Lw11
   replace EW := EW.trans Lw11
   have z18 : w.heap.size < w11.heap.size := qB cb0
   have z19 : w.heap.size + 1 < w11.heap.size := qB cc30
   have z20 : gW < w11.heap.size := qB r0
   have z21 : w6.heap.size < w11.heap.size := qB x0
   have z22 : gX < w11.heap.size := qB gg0
   have sw11 : w10.heap.size ≤ w11.heap.size := Lw11.size
   clear Lw11
   clear xw11
   go_wp2_with fail
   go_region_held3 (fun w' => w'.cell? ⟨w.heap.size, 0, none⟩ = some (.slice ac cells.length cc) ∧ w'.cell? ⟨w.heap.size, 1, none⟩ = some (.slice ae es.length ce) ∧ w'.cell? ⟨w.heap.size + 1, 0, none⟩ = some (.int .i64 sa3) ∧ w'.cell? ⟨w.heap.size + 1, 1, none⟩ = some (.int .i64 sb3) ∧ w'.cell? ⟨w.heap.size + 1, 2, none⟩ = some (.int .i64 sc3) ∧ w'.cell? ⟨w.heap.size + 1, 3, none⟩ = some (.bool sd3) ∧ w'.cell? ⟨w.heap.size + 1, 4, none⟩ = some (.bool se3) ∧ w'.cell? ⟨gW, 0, none⟩ = some (.slice Wa PC.length Wc) ∧ w'.cell? ⟨gW, 1, none⟩ = some (.slice Wd PE.length Wf) ∧ w'.cell? ⟨w6.heap.size, 0, none⟩ = some (.slice Xa cells.length Xc) ∧ w'.cell? ⟨w6.heap.size, 1, none⟩ = some (.slice Xd es.length Xf) ∧ w'.cell? ⟨gX, 0, none⟩ = some (.slice Ga PC.length Gc) ∧ w'.cell? ⟨gX, 1, none⟩ = some (.slice Gd PE.length Gf))
    (first
     | go_keep
     | exact ⟨Yw13.cell cb0, Yw13.cell cb1, Yw13.cell cc30, Yw13.cell cc31, Yw13.cell cc32, Yw13.cell cc33, Yw13.cell cc34, Yw13.cell r0, Yw13.cell r1, Yw13.cell x0, Yw13.cell x1, Yw13.cell gg0, Yw13.cell gg1⟩
     | exact ⟨Yw12.cell cb0, Yw12.cell cb1, Yw12.cell cc30, Yw12.cell cc31, Yw12.cell cc32, Yw12.cell cc33, Yw12.cell cc34, Yw12.cell r0, Yw12.cell r1, Yw12.cell x0, Yw12.cell x1, Yw12.cell gg0, Yw12.cell gg1⟩)
    (first
     | (go_at_call 19; refine (eqBuffer_c cells es _ _ _ _ _ _ _ _ _ (bX.ints.ext (Yw12.trans qXo)) (bX.exps.ext (Yw12.trans qXo)) (bu.ints.ext qXo) (bu.exps.ext qXo)).mono ?_; rintro e w13 ⟨rfl, xw13⟩; have Yw13 : Ext w11 w13 := Yw12.trans (Ext.trans qXo xw13); replace bu := bu.ext (Ext.trans qXo xw13))
     | (go_at_call 16; refine (toBuffer_c cells es _ _ _ _ _ (hc.ext (X.trans qXo)) (he.ext (X.trans qXo)) (by omega) (by omega) hm.out).mono ?_; rintro e w12 ⟨uu, vu, Ru, rfl, bu, xw12⟩; have Yw12 : Ext w11 w12 := Ext.trans qXo xw12))
   have Lw13 : Ext w11 w13 := Yw13
   replace cb0 := Lw13.cell cb0
   replace cb1 := Lw13.cell cb1
   replace cc30 := Lw13.cell cc30
   replace cc31 := Lw13.cell cc31
   replace cc32 := Lw13.cell cc32
   replace cc33 := Lw13.cell cc33
   replace cc34 := Lw13.cell cc34
   replace r0 := Lw13.cell r0
   replace r1 := Lw13.cell r1
   replace x0 := Lw13.cell x0
   replace x1 := Lw13.cell x1
   replace gg0 := Lw13.cell gg0
   replace gg1 := Lw13.cell gg1
   replace bX := bX.ext Lw13
   replace bG := bG.ext Lw13
   replace X := X.trans Lw13
   replace EW := EW.trans Lw13
   have z23 : w.heap.size < w13.heap.size := qB cb0
   have z24 : w.heap.size + 1 < w13.heap.size := qB cc30
   have z25 : gW < w13.heap.size := qB r0
   have z26 : w6.heap.size < w13.heap.size := qB x0
   have z27 : gX < w13.heap.size := qB gg0
   have sw13 : w11.heap.size ≤ w13.heap.size := Lw13.size
   clear bu
   go_wp2_with fail
   refine (markBuffer_c cells es _ 1 _ _ _ (w5.heap.size) (w6.heap.size) (bX.ext qXt) lX (Nat.le_trans (by omega) (Ext.size (show Ext w13 _ from qXt))) (by omega) (by rw [hK1.out]; omega)).mono ?_
   rintro e w14 ⟨rfl, -, kw14⟩
   have Kw14 : Chg (w5.heap.size) (w6.heap.size) w13 w14 := (Chg.of_ext qXt).trans kw14
   have sw14 : w13.heap.size ≤ w14.heap.size := Kw14.size
   replace X := Ext.chg X Kw14 (by omega)
   replace EW := Ext.chg EW Kw14 (by omega)
   replace cb0 := Kw14.cell (by first | (left; omega) | (right; omega) | omega) cb0
   replace cb1 := Kw14.cell (by first | (left; omega) | (right; omega) | omega) cb1
   replace cc30 := Kw14.cell (by first | (left; omega) | (right; omega) | omega) cc30
   replace cc31 := Kw14.cell (by first | (left; omega) | (right; omega) | omega) cc31
   replace cc32 := Kw14.cell (by first | (left; omega) | (right; omega) | omega) cc32
   replace cc33 := Kw14.cell (by first | (left; omega) | (right; omega) | omega) cc33
   replace cc34 := Kw14.cell (by first | (left; omega) | (right; omega) | omega) cc34
   replace r0 := Kw14.cell (by first | (left; omega) | (right; omega) | omega) r0
   replace r1 := Kw14.cell (by first | (left; omega) | (right; omega) | omega) r1
   replace x0 := Kw14.cell (by first | (left; omega) | (right; omega) | omega) x0
   replace x1 := Kw14.cell (by first | (left; omega) | (right; omega) | omega) x1
   replace gg0 := Kw14.cell (by first | (left; omega) | (right; omega) | omega) gg0
   replace gg1 := Kw14.cell (by first | (left; omega) | (right; omega) | omega) gg1
   replace bG := bG.chg Kw14 (by omega)
   have z28 : w.heap.size < w14.heap.size := qB cb0
   have z29 : w.heap.size + 1 < w14.heap.size := qB cc30
   have z30 : gW < w14.heap.size := qB r0
   have z31 : w6.heap.size < w14.heap.size := qB x0
   have z32 : gX < w14.heap.size := qB gg0
   clear Kw14 kw14
   clear bX
   rw [hK1.out]
   go_wp2_with fail
   refine (eqBuffer_c PC PE _ _ _ _ _ _ _ _ _ (bG.ints.ext qXt) (bG.exps.ext qXt) ((iW.ext EW).ints.ext qXt) ((iW.ext EW).exps.ext qXt)).mono ?_
   rintro e w15 ⟨rfl, xw15⟩
   have Lw15 : Ext w14 w15 := Ext.trans qXt xw15
   replace cb0 := Lw15.cell cb0
   replace cb1 := Lw15.cell cb1
   replace cc30 := Lw15.cell cc30
   replace cc31 := Lw15.cell cc31
   replace cc32 := Lw15.cell cc32
   replace cc33 := Lw15.cell cc33
   replace cc34 := Lw15.cell cc34
   replace r0 := Lw15.cell r0
   replace r1 := Lw15.cell r1
   replace x0 := Lw15.cell x0
   replace x1 := Lw15.cell x1
   replace gg0 := Lw15.cell gg0
   replace gg1 := Lw15.cell gg1
   replace bG := bG.ext Lw15
   replace X := X.trans Lw15
   replace EW := EW.trans Lw15
   have z33 : w.heap.size < w15.heap.size := qB cb0
   have z34 : w.heap.size + 1 < w15.heap.size := qB cc30
   have z35 : gW < w15.heap.size := qB r0
   have z36 : w6.heap.size < w15.heap.size := qB x0
   have z37 : gX < w15.heap.size := qB gg0
   have sw15 : w14.heap.size ≤ w15.heap.size := Lw15.size
   clear Lw15
   clear xw15
   go_wp2_with fail
   refine (markBuffer_c PC PE _ 1 _ _ _ (gl) (gh) (bG.ext qXt) lG (Nat.le_trans (by omega) (Ext.size (show Ext w15 _ from qXt))) (by omega) (by rw [hK2.out]; omega)).mono ?_
   rintro e w16 ⟨rfl, bH, kw16⟩
   have Kw16 : Chg (gl) (gh) w15 w16 := (Chg.of_ext qXt).trans kw16
   have sw16 : w15.heap.size ≤ w16.heap.size := Kw16.size
   replace X := Ext.chg X Kw16 (by omega)
   replace EW := Ext.chg EW Kw16 (by omega)
   replace cb0 := Kw16.cell (by first | (left; omega) | (right; omega) | omega) cb0
   replace cb1 := Kw16.cell (by first | (left; omega) | (right; omega) | omega) cb1
   replace cc30 := Kw16.cell (by first | (left; omega) | (right; omega) | omega) cc30
   replace cc31 := Kw16.cell (by first | (left; omega) | (right; omega) | omega) cc31
   replace cc32 := Kw16.cell (by first | (left; omega) | (right; omega) | omega) cc32
   replace cc33 := Kw16.cell (by first | (left; omega) | (right; omega) | omega) cc33
   replace cc34 := Kw16.cell (by first | (left; omega) | (right; omega) | omega) cc34
   replace r0 := Kw16.cell (by first | (left; omega) | (right; omega) | omega) r0
   replace r1 := Kw16.cell (by first | (left; omega) | (right; omega) | omega) r1
   replace x0 := Kw16.cell (by first | (left; omega) | (right; omega) | omega) x0
   replace x1 := Kw16.cell (by first | (left; omega) | (right; omega) | omega) x1
   replace gg0 := Kw16.cell (by first | (left; omega) | (right; omega) | omega) gg0
   replace gg1 := Kw16.cell (by first | (left; omega) | (right; omega) | omega) gg1
   have z38 : w.heap.size < w16.heap.size := qB cb0
   have z39 : w.heap.size + 1 < w16.heap.size := qB cc30
   have z40 : gW < w16.heap.size := qB r0
   have z41 : w6.heap.size < w16.heap.size := qB x0
   have z42 : gX < w16.heap.size := qB gg0
   clear Kw16 kw16
   clear bG
   rw [hK2.out]
   go_wp2_with fail
   refine (heldBuffer_c PC.length PE 1 _ _ _ _ _ (bH.ints.ext qXt) (bH.exps.ext qXt) (fun i hi => by have := hSr.out i hi; omega) (by omega) (by rw [hK2.out]; omega)).mono ?_
   rintro e w17 ⟨rfl, xw17⟩
   have Lw17 : Ext w16 w17 := Ext.trans qXt xw17
   replace cb0 := Lw17.cell cb0
   replace cb1 := Lw17.cell cb1
   replace cc30 := Lw17.cell cc30
   replace cc31 := Lw17.cell cc31
   replace cc32 := Lw17.cell cc32
   replace cc33 := Lw17.cell cc33
   replace cc34 := Lw17.cell cc34
   replace r0 := Lw17.cell r0
   replace r1 := Lw17.cell r1
   replace x0 := Lw17.cell x0
   replace x1 := Lw17.cell x1
   replace gg0 := Lw17.cell gg0
   replace gg1 := Lw17.cell gg1
   replace bH := bH.ext Lw17
   replace X := X.trans Lw17
   replace EW := EW.trans Lw17
   have z43 : w.heap.size < w17.heap.size := qB cb0
   have z44 : w.heap.size + 1 < w17.heap.size := qB cc30
   have z45 : gW < w17.heap.size := qB r0
   have z46 : w6.heap.size < w17.heap.size := qB x0
   have z47 : gX < w17.heap.size := qB gg0
   have sw17 : w16.heap.size ≤ w17.heap.size := Lw17.size
   clear Lw17
   clear xw17
   rw [hK2.out]
   go_wp2_with fail
   go_cut [18, 19] (fun s0 s1 wx => ∃ (gZ : Nat) (Ha : Option Addr) (Hc : Nat) (Hd : Option Addr) (Hf : Nat) (RH : Nat → Value), s0 = .pointer (some ⟨gZ, 0, none⟩) ∧ s1 = .bool false ∧ Ext w17 wx ∧ w17.heap.size ≤ gZ ∧ wx.cell? ⟨gZ, 0, none⟩ = some (.slice Ha PC.length Hc) ∧ wx.cell? ⟨gZ, 1, none⟩ = some (.slice Hd PE.length Hf) ∧ BufR wx 0 (.slice Ha PC.length Hc) (.slice Hd PE.length Hf) PC PE RH)
   case first =>
    refine wp_region_held_drew (S := fun w' => w'.cell? ⟨w.heap.size, 0, none⟩ = some (.slice ac cells.length cc) ∧ w'.cell? ⟨w.heap.size, 1, none⟩ = some (.slice ae es.length ce) ∧ w'.cell? ⟨w.heap.size + 1, 0, none⟩ = some (.int .i64 sa3) ∧ w'.cell? ⟨w.heap.size + 1, 1, none⟩ = some (.int .i64 sb3) ∧ w'.cell? ⟨w.heap.size + 1, 2, none⟩ = some (.int .i64 sc3) ∧ w'.cell? ⟨w.heap.size + 1, 3, none⟩ = some (.bool sd3) ∧ w'.cell? ⟨w.heap.size + 1, 4, none⟩ = some (.bool se3) ∧ w'.cell? ⟨gW, 0, none⟩ = some (.slice Wa PC.length Wc) ∧ w'.cell? ⟨gW, 1, none⟩ = some (.slice Wd PE.length Wf) ∧ w'.cell? ⟨w6.heap.size, 0, none⟩ = some (.slice Xa cells.length Xc) ∧ w'.cell? ⟨w6.heap.size, 1, none⟩ = some (.slice Xd es.length Xf) ∧ w'.cell? ⟨gX, 0, none⟩ = some (.slice Ga PC.length Gc) ∧ w'.cell? ⟨gX, 1, none⟩ = some (.slice Gd PE.length Gf)) qKr ⟨cb0, cb1, cc30, cc31, cc32, cc33, cc34, r0, r1, x0, x1, gg0, gg1⟩ (fun hHeld => ?_)
    refine qHk (v := ?_) 0 rfl (.inl ⟨by rfl, ?_⟩) ?_
    rotate_left
    ·
     (intro w hSw; (try dsimp only at hSw); go_simp; try with_reducible rfl)
    try simp only [Act.put, qa, qb, qc, qD, qE, qF]
    refine qHk (v := ?_) 2 rfl (.inl ⟨by rfl, ?_⟩) ?_
    rotate_left
    ·
     (intro w hSw; (try dsimp only at hSw); go_simp; try with_reducible rfl)
    try simp only [Act.put, qa, qb, qc, qD, qE, qF]
    refine qHk (v := ?_) 3 rfl (.inl ⟨by rfl, ?_⟩) ?_
    rotate_left
    ·
     (intro w hSw; (try dsimp only at hSw); go_simp; try with_reducible rfl)
    try simp only [Act.put, qa, qb, qc, qD, qE, qF]
    refine qHk (v := ?_) 4 rfl (.inl ⟨by rfl, ?_⟩) ?_
    rotate_left
    ·
     (intro w hSw; (try dsimp only at hSw); go_simp; try with_reducible rfl)
    try simp only [Act.put, qa, qb, qc, qD, qE, qF]
    refine wpAnyH_ready (rs := [1, 10]) qKr (by simp) ?_
    refine AllReadyH.cons rfl (fun K hK => ?_) (AllReadyH.cons rfl (fun K hK => ?_) AllReadyH.nil)
    rotate_left
    try simp only [Act.put, qa, qb, qc, qD, qE, qF]
    go_simp
    refine hK.out _ _ ⟨(show Ext w17 _ from qXt).cell cb0, (show Ext w17 _ from qXt).cell cb1, (show Ext w17 _ from qXt).cell cc30, (show Ext w17 _ from qXt).cell cc31, (show Ext w17 _ from qXt).cell cc32, (show Ext w17 _ from qXt).cell cc33, (show Ext w17 _ from qXt).cell cc34, (show Ext w17 _ from qXt).cell r0, (show Ext w17 _ from qXt).cell r1, (show Ext w17 _ from qXt).cell x0, (show Ext w17 _ from qXt).cell x1, (show Ext w17 _ from qXt).cell gg0, (show Ext w17 _ from qXt).cell gg1⟩ (fun hHeld => ?_)
    clear hK K
    try simp only [Act.put, qa, qb, qc, qD, qE, qF]
    have qa0 : (w17.drew.alloc (.cells #[.slice none 0 0, .slice none 0 0] 32)).cell? ⟨w17.heap.size, 0, none⟩ = some (.slice none 0 0) := qCl
    have qf0 : (w17.drew.alloc (.cells #[.slice none 0 0, .slice none 0 0] 32)).frozen? ⟨w17.heap.size, 0, none⟩ = false := qFz
    have qa1 : (w17.drew.alloc (.cells #[.slice none 0 0, .slice none 0 0] 32)).cell? ⟨w17.heap.size, 1, none⟩ = some (.slice none 0 0) := qCl
    have qf1 : (w17.drew.alloc (.cells #[.slice none 0 0, .slice none 0 0] 32)).frozen? ⟨w17.heap.size, 1, none⟩ = false := qFz
    have zg : w17.heap.size < (w17.drew.alloc (.cells #[.slice none 0 0, .slice none 0 0] 32)).heap.size := qB qa0
    have hg : w17.heap.size ≤ w17.heap.size := Nat.le_refl _
    refine qHr 1 rfl (fun K hK => ?_)
    have zp := zg
    try simp only [Act.put, qa, qb, qc, qD, qE, qF]
    go_simp
    refine (toBuffer_c cells es _ _ _ _ _ (hc.ext (X.trans qXt)) (he.ext (X.trans qXt)) (by omega) (by omega) hm.out).mono ?_
    rintro e w18 ⟨uZ, vZ, RZ, rfl, bZ, xw18⟩
    have Lw18 : Ext w17 w18 := Ext.trans qXt xw18
    replace cb0 := Lw18.cell cb0
    replace cb1 := Lw18.cell cb1
    replace cc30 := Lw18.cell cc30
    replace cc31 := Lw18.cell cc31
    replace cc32 := Lw18.cell cc32
    replace cc33 := Lw18.cell cc33
    replace cc34 := Lw18.cell cc34
    replace r0 := Lw18.cell r0
    replace r1 := Lw18.cell r1
    replace x0 := Lw18.cell x0
    replace x1 := Lw18.cell x1
    replace gg0 := Lw18.cell gg0
    replace gg1 := Lw18.cell gg1
    have sz_w18 := Lw18.size
    replace qa0 := xw18.cell qa0
    replace qf0 := xw18.frz zg qf0
    replace qa1 := xw18.cell qa1
    replace qf1 := xw18.frz zg qf1
    replace zg := Nat.lt_of_lt_of_le zg xw18.size
    refine hK.out _ _ ⟨cb0, cb1, cc30, cc31, cc32, cc33, cc34, r0, r1, x0, x1, gg0, gg1⟩ (fun hHeld => ?_)
    clear hK K
    try simp only [Act.put, qa, qb, qc, qD, qE, qF]
    refine qHr 5 rfl (fun K hK => ?_)
    have zp := zg
    try simp only [Act.put, qa, qb, qc, qD, qE, qF]
    go_simp
    refine (toSlice_c sa3 sb3 sc3 sd3 se3 _).mono ?_
    rintro e w19 ⟨rfl, xw19⟩
    have Lw19 : Ext w18 w19 := Ext.trans qXt xw19
    replace cb0 := Lw19.cell cb0
    replace cb1 := Lw19.cell cb1
    replace cc30 := Lw19.cell cc30
    replace cc31 := Lw19.cell cc31
    replace cc32 := Lw19.cell cc32
    replace cc33 := Lw19.cell cc33
    replace cc34 := Lw19.cell cc34
    replace r0 := Lw19.cell r0
    replace r1 := Lw19.cell r1
    replace x0 := Lw19.cell x0
    replace x1 := Lw19.cell x1
    replace gg0 := Lw19.cell gg0
    replace gg1 := Lw19.cell gg1
    replace bZ := bZ.ext Lw19
    have sz_w19 := Lw19.size
    replace qa0 := xw19.cell qa0
    replace qf0 := xw19.frz zg qf0
    replace qa1 := xw19.cell qa1
    replace qf1 := xw19.frz zg qf1
    replace zg := Nat.lt_of_lt_of_le zg xw19.size
    refine hK.out _ _ ⟨cb0, cb1, cc30, cc31, cc32, cc33, cc34, r0, r1, x0, x1, gg0, gg1⟩ (fun hHeld => ?_)
    clear hK K
    try simp only [Act.put, qa, qb, qc, qD, qE, qF]
    refine qHr 6 rfl (fun K hK => ?_)
    have zp := zg
    try simp only [Act.put, qa, qb, qc, qD, qE, qF]
    go_simp
    refine (pbx_eq hP.out (implExportPart_c cells es _ _ i1 i2 sa3 sb3 sc3 sd3 se3 _ _ _ (bZ.ints.ext qXt) (bZ.exps.ext qXt))).mono ?_
    rintro e w20 ⟨H1, H2, RH, rfl, iH, xw20⟩
    have Lw20 : Ext w19 w20 := Ext.trans qXt xw20
    replace cb0 := Lw20.cell cb0
    replace cb1 := Lw20.cell cb1
    replace cc30 := Lw20.cell cc30
    replace cc31 := Lw20.cell cc31
    replace cc32 := Lw20.cell cc32
    replace cc33 := Lw20.cell cc33
    replace cc34 := Lw20.cell cc34
    replace r0 := Lw20.cell r0
    replace r1 := Lw20.cell r1
    replace x0 := Lw20.cell x0
    replace x1 := Lw20.cell x1
    replace gg0 := Lw20.cell gg0
    replace gg1 := Lw20.cell gg1
    replace bZ := bZ.ext Lw20
    have sz_w20 := Lw20.size
    try simp only [World.size_alloc, World.size_drew] at iH
    obtain ⟨Ha, Hc, rfl⟩ := iH.ints.form
    obtain ⟨Hd, Hf, rfl⟩ := iH.exps.form
    replace qa0 := xw20.cell qa0
    replace qf0 := xw20.frz zg qf0
    replace qa1 := xw20.cell qa1
    replace qf1 := xw20.frz zg qf1
    replace zg := Nat.lt_of_lt_of_le zg xw20.size
    refine hK.out _ _ ⟨cb0, cb1, cc30, cc31, cc32, cc33, cc34, r0, r1, x0, x1, gg0, gg1⟩ (fun hHeld => ?_)
    clear hK K
    try simp only [Act.put, qa, qb, qc, qD, qE, qF]
    refine qHk (v := ?_) 7 rfl (.inl ⟨by rfl, ?_⟩) ?_
    rotate_left
    ·
     (intro w hSw; (try dsimp only at hSw); go_simp; try with_reducible rfl)
    try simp only [Act.put, qa, qb, qc, qD, qE, qF]
    refine qHk (v := ?_) 8 rfl (.inl ⟨by rfl, ?_⟩) ?_
    rotate_left
    ·
     (intro w hSw; (try dsimp only at hSw); go_simp; try with_reducible rfl)
    try simp only [Act.put, qa, qb, qc, qD, qE, qF]
    refine qHk (v := ?_) 9 rfl (.inl ⟨by rfl, ?_⟩) ?_
    rotate_left
    ·
     (intro w hSw; (try dsimp only at hSw); go_simp; try with_reducible rfl)
    try simp only [Act.put, qa, qb, qc, qD, qE, qF]
    refine qHr 11 rfl (fun K hK => ?_)
    try simp only [Act.put, qa, qb, qc, qD, qE, qF]
    go_simp
    have XE : Ext w17 ((w20.setCell ⟨w17.heap.size, 0, none⟩ (.slice Ha PC.length Hc)).setCell ⟨w17.heap.size, 1, none⟩ (.slice Hd PE.length Hf)) := (Ext.setCell (Ext.setCell ((Lw18.trans Lw19).trans Lw20) hg _) hg _)
    have y0 : ((w20.setCell ⟨w17.heap.size, 0, none⟩ (.slice Ha PC.length Hc)).setCell ⟨w17.heap.size, 1, none⟩ (.slice Hd PE.length Hf)).cell? ⟨w17.heap.size, 0, none⟩ = some (.slice Ha PC.length Hc) := qCl
    have f_y0 : ((w20.setCell ⟨w17.heap.size, 0, none⟩ (.slice Ha PC.length Hc)).setCell ⟨w17.heap.size, 1, none⟩ (.slice Hd PE.length Hf)).frozen? ⟨w17.heap.size, 0, none⟩ = false := qFz
    have y1 : ((w20.setCell ⟨w17.heap.size, 0, none⟩ (.slice Ha PC.length Hc)).setCell ⟨w17.heap.size, 1, none⟩ (.slice Hd PE.length Hf)).cell? ⟨w17.heap.size, 1, none⟩ = some (.slice Hd PE.length Hf) := qCl
    have f_y1 : ((w20.setCell ⟨w17.heap.size, 0, none⟩ (.slice Ha PC.length Hc)).setCell ⟨w17.heap.size, 1, none⟩ (.slice Hd PE.length Hf)).frozen? ⟨w17.heap.size, 1, none⟩ = false := qFz
    have hg1 : w17.heap.size ≤ w17.heap.size := hg
    have KE : Chg w17.heap.size (w17.heap.size + 1) w20 ((w20.setCell ⟨w17.heap.size, 0, none⟩ (.slice Ha PC.length Hc)).setCell ⟨w17.heap.size, 1, none⟩ (.slice Hd PE.length Hf)) := (by repeat (first | (with_reducible exact Chg.refl _ _ _) | (with_reducible refine Chg.setCell ?_ qSo qSo _) | (with_reducible refine Chg.ext ?_ (Ext.alloc (Ext.refl _) _)) | (with_reducible refine Chg.ext ?_ (Ext.drew (Ext.refl _)))))
    replace cb0 := KE.cell (by omega) cb0
    replace cb1 := KE.cell (by omega) cb1
    replace cc30 := KE.cell (by omega) cc30
    replace cc31 := KE.cell (by omega) cc31
    replace cc32 := KE.cell (by omega) cc32
    replace cc33 := KE.cell (by omega) cc33
    replace cc34 := KE.cell (by omega) cc34
    replace r0 := KE.cell (by omega) r0
    replace r1 := KE.cell (by omega) r1
    replace x0 := KE.cell (by omega) x0
    replace x1 := KE.cell (by omega) x1
    replace gg0 := KE.cell (by omega) gg0
    replace gg1 := KE.cell (by omega) gg1
    clear bZ
    replace iH := iH.chg KE (by omega)
    have ke_ := KE.size
    refine hK.out _ _ ⟨cb0, cb1, cc30, cc31, cc32, cc33, cc34, r0, r1, x0, x1, gg0, gg1⟩ (fun hHeld => ?_)
    clear hK K KE
    try simp only [Act.put, qa, qb, qc, qD, qE, qF]
    refine qHk (v := ?_) 12 rfl (.inl ⟨by rfl, ?_⟩) ?_
    rotate_left
    ·
     (intro w hSw; (try dsimp only at hSw); go_simp; try with_reducible rfl)
    try simp only [Act.put, qa, qb, qc, qD, qE, qF]
    refine wpAnyH_done qKr ?_ _
    clear hHeld
    generalize ((w20.setCell ⟨w17.heap.size, 0, none⟩ (.slice Ha PC.length Hc)).setCell ⟨w17.heap.size, 1, none⟩ (.slice Hd PE.length Hf)) = WE at *
    go_step
    go_step
    go_meet
    case rel => exact ⟨_, _, _, _, _, _, rfl, rfl, XE, hg1, y0, y1, iH.lower (Nat.zero_le _)⟩
    try simp only [Act.put, qa, qb, qc, qD, qE, qF]
    go_simp
    refine (toBuffer_c cells es _ _ _ _ _ (hc.ext (X.trans qXt)) (he.ext (X.trans qXt)) (by omega) (by omega) hm.out).mono ?_
    rintro e w18 ⟨uZ, vZ, RZ, rfl, bZ, xw18⟩
    have Lw18 : Ext w17 w18 := Ext.trans qXt xw18
    replace cb0 := Lw18.cell cb0
    replace cb1 := Lw18.cell cb1
    replace cc30 := Lw18.cell cc30
    replace cc31 := Lw18.cell cc31
    replace cc32 := Lw18.cell cc32
    replace cc33 := Lw18.cell cc33
    replace cc34 := Lw18.cell cc34
    replace r0 := Lw18.cell r0
    replace r1 := Lw18.cell r1
    replace x0 := Lw18.cell x0
    replace x1 := Lw18.cell x1
    replace gg0 := Lw18.cell gg0
    replace gg1 := Lw18.cell gg1
    have sz_w18 := Lw18.size
    refine hK.out _ _ ⟨cb0, cb1, cc30, cc31, cc32, cc33, cc34, r0, r1, x0, x1, gg0, gg1⟩ (fun hHeld => ?_)
    clear hK K
    try simp only [Act.put, qa, qb, qc, qD, qE, qF]
    refine wpAnyH_ready (rs := [5, 10]) qKr (by simp) ?_
    refine AllReadyH.cons rfl (fun K hK => ?_) (AllReadyH.cons rfl (fun K hK => ?_) AllReadyH.nil)
    rotate_left
    try simp only [Act.put, qa, qb, qc, qD, qE, qF]
    go_simp
    refine hK.out _ _ ⟨(show Ext w18 _ from qXt).cell cb0, (show Ext w18 _ from qXt).cell cb1, (show Ext w18 _ from qXt).cell cc30, (show Ext w18 _ from qXt).cell cc31, (show Ext w18 _ from qXt).cell cc32, (show Ext w18 _ from qXt).cell cc33, (show Ext w18 _ from qXt).cell cc34, (show Ext w18 _ from qXt).cell r0, (show Ext w18 _ from qXt).cell r1, (show Ext w18 _ from qXt).cell x0, (show Ext w18 _ from qXt).cell x1, (show Ext w18 _ from qXt).cell gg0, (show Ext w18 _ from qXt).cell gg1⟩ (fun hHeld => ?_)
    clear hK K
    try simp only [Act.put, qa, qb, qc, qD, qE, qF]
    have qa0 : (w18.alloc (.cells #[.slice none 0 0, .slice none 0 0] 32)).cell? ⟨w18.heap.size, 0, none⟩ = some (.slice none 0 0) := qCl
    have qf0 : (w18.alloc (.cells #[.slice none 0 0, .slice none 0 0] 32)).frozen? ⟨w18.heap.size, 0, none⟩ = false := qFz
    have qa1 : (w18.alloc (.cells #[.slice none 0 0, .slice none 0 0] 32)).cell? ⟨w18.heap.size, 1, none⟩ = some (.slice none 0 0) := qCl
    have qf1 : (w18.alloc (.cells #[.slice none 0 0, .slice none 0 0] 32)).frozen? ⟨w18.heap.size, 1, none⟩ = false := qFz
    have zg : w18.heap.size < (w18.alloc (.cells #[.slice none 0 0, .slice none 0 0] 32)).heap.size := qB qa0
    have hg : w17.heap.size ≤ w18.heap.size := (Lw18).size
    refine qHr 5 rfl (fun K hK => ?_)
    have zp := zg
    try simp only [Act.put, qa, qb, qc, qD, qE, qF]
    go_simp
    refine (toSlice_c sa3 sb3 sc3 sd3 se3 _).mono ?_
    rintro e w19 ⟨rfl, xw19⟩
    have Lw19 : Ext w18 w19 := Ext.trans qXt xw19
    replace cb0 := Lw19.cell cb0
    replace cb1 := Lw19.cell cb1
    replace cc30 := Lw19.cell cc30
    replace cc31 := Lw19.cell cc31
    replace cc32 := Lw19.cell cc32
    replace cc33 := Lw19.cell cc33
    replace cc34 := Lw19.cell cc34
    replace r0 := Lw19.cell r0
    replace r1 := Lw19.cell r1
    replace x0 := Lw19.cell x0
    replace x1 := Lw19.cell x1
    replace gg0 := Lw19.cell gg0
    replace gg1 := Lw19.cell gg1
    replace bZ := bZ.ext Lw19
    have sz_w19 := Lw19.size
    replace qa0 := xw19.cell qa0
    replace qf0 := xw19.frz zg qf0
    replace qa1 := xw19.cell qa1
    replace qf1 := xw19.frz zg qf1
    replace zg := Nat.lt_of_lt_of_le zg xw19.size
    refine hK.out _ _ ⟨cb0, cb1, cc30, cc31, cc32, cc33, cc34, r0, r1, x0, x1, gg0, gg1⟩ (fun hHeld => ?_)
    clear hK K
    try simp only [Act.put, qa, qb, qc, qD, qE, qF]
    refine qHr 6 rfl (fun K hK => ?_)
    have zp := zg
    try simp only [Act.put, qa, qb, qc, qD, qE, qF]
    go_simp
    refine (pbx_eq hP.out (implExportPart_c cells es _ _ i1 i2 sa3 sb3 sc3 sd3 se3 _ _ _ (bZ.ints.ext qXt) (bZ.exps.ext qXt))).mono ?_
    rintro e w20 ⟨H1, H2, RH, rfl, iH, xw20⟩
    have Lw20 : Ext w19 w20 := Ext.trans qXt xw20
    replace cb0 := Lw20.cell cb0
    replace cb1 := Lw20.cell cb1
    replace cc30 := Lw20.cell cc30
    replace cc31 := Lw20.cell cc31
    replace cc32 := Lw20.cell cc32
    replace cc33 := Lw20.cell cc33
    replace cc34 := Lw20.cell cc34
    replace r0 := Lw20.cell r0
    replace r1 := Lw20.cell r1
    replace x0 := Lw20.cell x0
    replace x1 := Lw20.cell x1
    replace gg0 := Lw20.cell gg0
    replace gg1 := Lw20.cell gg1
    replace bZ := bZ.ext Lw20
    have sz_w20 := Lw20.size
    try simp only [World.size_alloc, World.size_drew] at iH
    obtain ⟨Ha, Hc, rfl⟩ := iH.ints.form
    obtain ⟨Hd, Hf, rfl⟩ := iH.exps.form
    replace qa0 := xw20.cell qa0
    replace qf0 := xw20.frz zg qf0
    replace qa1 := xw20.cell qa1
    replace qf1 := xw20.frz zg qf1
    replace zg := Nat.lt_of_lt_of_le zg xw20.size
    refine hK.out _ _ ⟨cb0, cb1, cc30, cc31, cc32, cc33, cc34, r0, r1, x0, x1, gg0, gg1⟩ (fun hHeld => ?_)
    clear hK K
    try simp only [Act.put, qa, qb, qc, qD, qE, qF]
    refine qHk (v := ?_) 7 rfl (.inl ⟨by rfl, ?_⟩) ?_
    rotate_left
    ·
     (intro w hSw; (try dsimp only at hSw); go_simp; try with_reducible rfl)
    try simp only [Act.put, qa, qb, qc, qD, qE, qF]
    refine qHk (v := ?_) 8 rfl (.inl ⟨by rfl, ?_⟩) ?_
    rotate_left
    ·
     (intro w hSw; (try dsimp only at hSw); go_simp; try with_reducible rfl)
    try simp only [Act.put, qa, qb, qc, qD, qE, qF]
    refine qHk (v := ?_) 9 rfl (.inl ⟨by rfl, ?_⟩) ?_
    rotate_left
    ·
     (intro w hSw; (try dsimp only at hSw); go_simp; try with_reducible rfl)
    try simp only [Act.put, qa, qb, qc, qD, qE, qF]
    refine qHr 11 rfl (fun K hK => ?_)
    try simp only [Act.put, qa, qb, qc, qD, qE, qF]
    go_simp
    have XE : Ext w17 ((w20.setCell ⟨w18.heap.size, 0, none⟩ (.slice Ha PC.length Hc)).setCell ⟨w18.heap.size, 1, none⟩ (.slice Hd PE.length Hf)) := (Ext.setCell (Ext.setCell ((Lw18.trans Lw19).trans Lw20) hg _) hg _)
    have y0 : ((w20.setCell ⟨w18.heap.size, 0, none⟩ (.slice Ha PC.length Hc)).setCell ⟨w18.heap.size, 1, none⟩ (.slice Hd PE.length Hf)).cell? ⟨w18.heap.size, 0, none⟩ = some (.slice Ha PC.length Hc) := qCl
    have f_y0 : ((w20.setCell ⟨w18.heap.size, 0, none⟩ (.slice Ha PC.length Hc)).setCell ⟨w18.heap.size, 1, none⟩ (.slice Hd PE.length Hf)).frozen? ⟨w18.heap.size, 0, none⟩ = false := qFz
    have y1 : ((w20.setCell ⟨w18.heap.size, 0, none⟩ (.slice Ha PC.length Hc)).setCell ⟨w18.heap.size, 1, none⟩ (.slice Hd PE.length Hf)).cell? ⟨w18.heap.size, 1, none⟩ = some (.slice Hd PE.length Hf) := qCl
    have f_y1 : ((w20.setCell ⟨w18.heap.size, 0, none⟩ (.slice Ha PC.length Hc)).setCell ⟨w18.heap.size, 1, none⟩ (.slice Hd PE.length Hf)).frozen? ⟨w18.heap.size, 1, none⟩ = false := qFz
    have hg1 : w17.heap.size ≤ w18.heap.size := hg
    have KE : Chg w18.heap.size (w18.heap.size + 1) w20 ((w20.setCell ⟨w18.heap.size, 0, none⟩ (.slice Ha PC.length Hc)).setCell ⟨w18.heap.size, 1, none⟩ (.slice Hd PE.length Hf)) := (by repeat (first | (with_reducible exact Chg.refl _ _ _) | (with_reducible refine Chg.setCell ?_ qSo qSo _) | (with_reducible refine Chg.ext ?_ (Ext.alloc (Ext.refl _) _)) | (with_reducible refine Chg.ext ?_ (Ext.drew (Ext.refl _)))))
    replace cb0 := KE.cell (by omega) cb0
    replace cb1 := KE.cell (by omega) cb1
    replace cc30 := KE.cell (by omega) cc30
    replace cc31 := KE.cell (by omega) cc31
    replace cc32 := KE.cell (by omega) cc32
    replace cc33 := KE.cell (by omega) cc33
    replace cc34 := KE.cell (by omega) cc34
    replace r0 := KE.cell (by omega) r0
    replace r1 := KE.cell (by omega) r1
    replace x0 := KE.cell (by omega) x0
    replace x1 := KE.cell (by omega) x1
    replace gg0 := KE.cell (by omega) gg0
    replace gg1 := KE.cell (by omega) gg1
    clear bZ
    replace iH := iH.chg KE (by omega)
    have ke_ := KE.size
    refine hK.out _ _ ⟨cb0, cb1, cc30, cc31, cc32, cc33, cc34, r0, r1, x0, x1, gg0, gg1⟩ (fun hHeld => ?_)
    clear hK K KE
    try simp only [Act.put, qa, qb, qc, qD, qE, qF]
    refine qHk (v := ?_) 12 rfl (.inl ⟨by rfl, ?_⟩) ?_
    rotate_left
    ·
     (intro w hSw; (try dsimp only at hSw); go_simp; try with_reducible rfl)
    try simp only [Act.put, qa, qb, qc, qD, qE, qF]
    refine wpAnyH_done qKr ?_ _
    clear hHeld
    generalize ((w20.setCell ⟨w18.heap.size, 0, none⟩ (.slice Ha PC.length Hc)).setCell ⟨w18.heap.size, 1, none⟩ (.slice Hd PE.length Hf)) = WE at *
    go_step
    go_step
    go_meet
    case rel => exact ⟨_, _, _, _, _, _, rfl, rfl, XE, hg1, y0, y1, iH.lower (Nat.zero_le _)⟩
    try simp only [Act.put, qa, qb, qc, qD, qE, qF]
    go_simp
    refine (toSlice_c sa3 sb3 sc3 sd3 se3 _).mono ?_
    rintro e w19 ⟨rfl, xw19⟩
    have Lw19 : Ext w18 w19 := Ext.trans qXt xw19
    replace cb0 := Lw19.cell cb0
    replace cb1 := Lw19.cell cb1
    replace cc30 := Lw19.cell cc30
    replace cc31 := Lw19.cell cc31
    replace cc32 := Lw19.cell cc32
    replace cc33 := Lw19.cell cc33
    replace cc34 := Lw19.cell cc34
    replace r0 := Lw19.cell r0
    replace r1 := Lw19.cell r1
    replace x0 := Lw19.cell x0
    replace x1 := Lw19.cell x1
    replace gg0 := Lw19.cell gg0
    replace gg1 := Lw19.cell gg1
    replace bZ := bZ.ext Lw19
    have sz_w19 := Lw19.size
    refine hK.out _ _ ⟨cb0, cb1, cc30, cc31, cc32, cc33, cc34, r0, r1, x0, x1, gg0, gg1⟩ (fun hHeld => ?_)
    clear hK K
    try simp only [Act.put, qa, qb, qc, qD, qE, qF]
    refine wpAnyH_ready (rs := [6, 10]) qKr (by simp) ?_
    refine AllReadyH.cons rfl (fun K hK => ?_) (AllReadyH.cons rfl (fun K hK => ?_) AllReadyH.nil)
    rotate_left
    try simp only [Act.put, qa, qb, qc, qD, qE, qF]
    go_simp
    refine hK.out _ _ ⟨(show Ext w19 _ from qXt).cell cb0, (show Ext w19 _ from qXt).cell cb1, (show Ext w19 _ from qXt).cell cc30, (show Ext w19 _ from qXt).cell cc31, (show Ext w19 _ from qXt).cell cc32, (show Ext w19 _ from qXt).cell cc33, (show Ext w19 _ from qXt).cell cc34, (show Ext w19 _ from qXt).cell r0, (show Ext w19 _ from qXt).cell r1, (show Ext w19 _ from qXt).cell x0, (show Ext w19 _ from qXt).cell x1, (show Ext w19 _ from qXt).cell gg0, (show Ext w19 _ from qXt).cell gg1⟩ (fun hHeld => ?_)
    clear hK K
    try simp only [Act.put, qa, qb, qc, qD, qE, qF]
    have qa0 : (w19.alloc (.cells #[.slice none 0 0, .slice none 0 0] 32)).cell? ⟨w19.heap.size, 0, none⟩ = some (.slice none 0 0) := qCl
    have qf0 : (w19.alloc (.cells #[.slice none 0 0, .slice none 0 0] 32)).frozen? ⟨w19.heap.size, 0, none⟩ = false := qFz
    have qa1 : (w19.alloc (.cells #[.slice none 0 0, .slice none 0 0] 32)).cell? ⟨w19.heap.size, 1, none⟩ = some (.slice none 0 0) := qCl
    have qf1 : (w19.alloc (.cells #[.slice none 0 0, .slice none 0 0] 32)).frozen? ⟨w19.heap.size, 1, none⟩ = false := qFz
    have zg : w19.heap.size < (w19.alloc (.cells #[.slice none 0 0, .slice none 0 0] 32)).heap.size := qB qa0
    have hg : w17.heap.size ≤ w19.heap.size := ((Lw18.trans Lw19)).size
    refine qHr 6 rfl (fun K hK => ?_)
    have zp := zg
    try simp only [Act.put, qa, qb, qc, qD, qE, qF]
    go_simp
    refine (pbx_eq hP.out (implExportPart_c cells es _ _ i1 i2 sa3 sb3 sc3 sd3 se3 _ _ _ (bZ.ints.ext qXt) (bZ.exps.ext qXt))).mono ?_
    rintro e w20 ⟨H1, H2, RH, rfl, iH, xw20⟩
    have Lw20 : Ext w19 w20 := Ext.trans qXt xw20
    replace cb0 := Lw20.cell cb0
    replace cb1 := Lw20.cell cb1
    replace cc30 := Lw20.cell cc30
    replace cc31 := Lw20.cell cc31
    replace cc32 := Lw20.cell cc32
    replace cc33 := Lw20.cell cc33
    replace cc34 := Lw20.cell cc34
    replace r0 := Lw20.cell r0
    replace r1 := Lw20.cell r1
    replace x0 := Lw20.cell x0
    replace x1 := Lw20.cell x1
    replace gg0 := Lw20.cell gg0
    replace gg1 := Lw20.cell gg1
    replace bZ := bZ.ext Lw20
    have sz_w20 := Lw20.size
    try simp only [World.size_alloc, World.size_drew] at iH
    obtain ⟨Ha, Hc, rfl⟩ := iH.ints.form
    obtain ⟨Hd, Hf, rfl⟩ := iH.exps.form
    replace qa0 := xw20.cell qa0
    replace qf0 := xw20.frz zg qf0
    replace qa1 := xw20.cell qa1
    replace qf1 := xw20.frz zg qf1
    replace zg := Nat.lt_of_lt_of_le zg xw20.size
    refine hK.out _ _ ⟨cb0, cb1, cc30, cc31, cc32, cc33, cc34, r0, r1, x0, x1, gg0, gg1⟩ (fun hHeld => ?_)
    clear hK K
    try simp only [Act.put, qa, qb, qc, qD, qE, qF]
    refine qHk (v := ?_) 7 rfl (.inl ⟨by rfl, ?_⟩) ?_
    rotate_left
    ·
     (intro w hSw; (try dsimp only at hSw); go_simp; try with_reducible rfl)
    try simp only [Act.put, qa, qb, qc, qD, qE, qF]
    refine qHk (v := ?_) 8 rfl (.inl ⟨by rfl, ?_⟩) ?_
    rotate_left
    ·
     (intro w hSw; (try dsimp only at hSw); go_simp; try with_reducible rfl)
    try simp only [Act.put, qa, qb, qc, qD, qE, qF]
    refine qHk (v := ?_) 9 rfl (.inl ⟨by rfl, ?_⟩) ?_
    rotate_left
    ·
     (intro w hSw; (try dsimp only at hSw); go_simp; try with_reducible rfl)
    try simp only [Act.put, qa, qb, qc, qD, qE, qF]
    refine qHr 11 rfl (fun K hK => ?_)
    try simp only [Act.put, qa, qb, qc, qD, qE, qF]
    go_simp
    have XE : Ext w17 ((w20.setCell ⟨w19.heap.size, 0, none⟩ (.slice Ha PC.length Hc)).setCell ⟨w19.heap.size, 1, none⟩ (.slice Hd PE.length Hf)) := (Ext.setCell (Ext.setCell ((Lw18.trans Lw19).trans Lw20) hg _) hg _)
    have y0 : ((w20.setCell ⟨w19.heap.size, 0, none⟩ (.slice Ha PC.length Hc)).setCell ⟨w19.heap.size, 1, none⟩ (.slice Hd PE.length Hf)).cell? ⟨w19.heap.size, 0, none⟩ = some (.slice Ha PC.length Hc) := qCl
    have f_y0 : ((w20.setCell ⟨w19.heap.size, 0, none⟩ (.slice Ha PC.length Hc)).setCell ⟨w19.heap.size, 1, none⟩ (.slice Hd PE.length Hf)).frozen? ⟨w19.heap.size, 0, none⟩ = false := qFz
    have y1 : ((w20.setCell ⟨w19.heap.size, 0, none⟩ (.slice Ha PC.length Hc)).setCell ⟨w19.heap.size, 1, none⟩ (.slice Hd PE.length Hf)).cell? ⟨w19.heap.size, 1, none⟩ = some (.slice Hd PE.length Hf) := qCl
    have f_y1 : ((w20.setCell ⟨w19.heap.size, 0, none⟩ (.slice Ha PC.length Hc)).setCell ⟨w19.heap.size, 1, none⟩ (.slice Hd PE.length Hf)).frozen? ⟨w19.heap.size, 1, none⟩ = false := qFz
    have hg1 : w17.heap.size ≤ w19.heap.size := hg
    have KE : Chg w19.heap.size (w19.heap.size + 1) w20 ((w20.setCell ⟨w19.heap.size, 0, none⟩ (.slice Ha PC.length Hc)).setCell ⟨w19.heap.size, 1, none⟩ (.slice Hd PE.length Hf)) := (by repeat (first | (with_reducible exact Chg.refl _ _ _) | (with_reducible refine Chg.setCell ?_ qSo qSo _) | (with_reducible refine Chg.ext ?_ (Ext.alloc (Ext.refl _) _)) | (with_reducible refine Chg.ext ?_ (Ext.drew (Ext.refl _)))))
    replace cb0 := KE.cell (by omega) cb0
    replace cb1 := KE.cell (by omega) cb1
    replace cc30 := KE.cell (by omega) cc30
    replace cc31 := KE.cell (by omega) cc31
    replace cc32 := KE.cell (by omega) cc32
    replace cc33 := KE.cell (by omega) cc33
    replace cc34 := KE.cell (by omega) cc34
    replace r0 := KE.cell (by omega) r0
    replace r1 := KE.cell (by omega) r1
    replace x0 := KE.cell (by omega) x0
    replace x1 := KE.cell (by omega) x1
    replace gg0 := KE.cell (by omega) gg0
    replace gg1 := KE.cell (by omega) gg1
    clear bZ
    replace iH := iH.chg KE (by omega)
    have ke_ := KE.size
    refine hK.out _ _ ⟨cb0, cb1, cc30, cc31, cc32, cc33, cc34, r0, r1, x0, x1, gg0, gg1⟩ (fun hHeld => ?_)
    clear hK K KE
    try simp only [Act.put, qa, qb, qc, qD, qE, qF]
    refine qHk (v := ?_) 12 rfl (.inl ⟨by rfl, ?_⟩) ?_
    rotate_left
    ·
     (intro w hSw; (try dsimp only at hSw); go_simp; try with_reducible rfl)
    try simp only [Act.put, qa, qb, qc, qD, qE, qF]
    refine wpAnyH_done qKr ?_ _
    clear hHeld
    generalize ((w20.setCell ⟨w19.heap.size, 0, none⟩ (.slice Ha PC.length Hc)).setCell ⟨w19.heap.size, 1, none⟩ (.slice Hd PE.length Hf)) = WE at *
    go_step
    go_step
    go_meet
    case rel => exact ⟨_, _, _, _, _, _, rfl, rfl, XE, hg1, y0, y1, iH.lower (Nat.zero_le _)⟩
    try simp only [Act.put, qa, qb, qc, qD, qE, qF]
    go_simp
    refine (pbx_eq hP.out (implExportPart_c cells es _ _ i1 i2 sa3 sb3 sc3 sd3 se3 _ _ _ (bZ.ints.ext qXt) (bZ.exps.ext qXt))).mono ?_
    rintro e w20 ⟨H1, H2, RH, rfl, iH, xw20⟩
    have Lw20 : Ext w19 w20 := Ext.trans qXt xw20
    replace cb0 := Lw20.cell cb0
    replace cb1 := Lw20.cell cb1
    replace cc30 := Lw20.cell cc30
    replace cc31 := Lw20.cell cc31
    replace cc32 := Lw20.cell cc32
    replace cc33 := Lw20.cell cc33
    replace cc34 := Lw20.cell cc34
    replace r0 := Lw20.cell r0
    replace r1 := Lw20.cell r1
    replace x0 := Lw20.cell x0
    replace x1 := Lw20.cell x1
    replace gg0 := Lw20.cell gg0
    replace gg1 := Lw20.cell gg1
    replace bZ := bZ.ext Lw20
    have sz_w20 := Lw20.size
    try simp only [World.size_alloc, World.size_drew] at iH
    obtain ⟨Ha, Hc, rfl⟩ := iH.ints.form
    obtain ⟨Hd, Hf, rfl⟩ := iH.exps.form
    refine hK.out _ _ ⟨cb0, cb1, cc30, cc31, cc32, cc33, cc34, r0, r1, x0, x1, gg0, gg1⟩ (fun hHeld => ?_)
    clear hK K
    try simp only [Act.put, qa, qb, qc, qD, qE, qF]
    refine qHk (v := ?_) 7 rfl (.inl ⟨by rfl, ?_⟩) ?_
    rotate_left
    ·
     (intro w hSw; (try dsimp only at hSw); go_simp; try with_reducible rfl)
    try simp only [Act.put, qa, qb, qc, qD, qE, qF]
    refine qHk (v := ?_) 8 rfl (.inl ⟨by rfl, ?_⟩) ?_
    rotate_left
    ·
     (intro w hSw; (try dsimp only at hSw); go_simp; try with_reducible rfl)
    try simp only [Act.put, qa, qb, qc, qD, qE, qF]
    refine qHk (v := ?_) 9 rfl (.inl ⟨by rfl, ?_⟩) ?_
    rotate_left
    ·
     (intro w hSw; (try dsimp only at hSw); go_simp; try with_reducible rfl)
    try simp only [Act.put, qa, qb, qc, qD, qE, qF]
    refine qHr 10 rfl (fun K hK => ?_)
    try simp only [Act.put, qa, qb, qc, qD, qE, qF]
    go_simp
    refine hK.out _ _ ⟨(show Ext w20 _ from qXt).cell cb0, (show Ext w20 _ from qXt).cell cb1, (show Ext w20 _ from qXt).cell cc30, (show Ext w20 _ from qXt).cell cc31, (show Ext w20 _ from qXt).cell cc32, (show Ext w20 _ from qXt).cell cc33, (show Ext w20 _ from qXt).cell cc34, (show Ext w20 _ from qXt).cell r0, (show Ext w20 _ from qXt).cell r1, (show Ext w20 _ from qXt).cell x0, (show Ext w20 _ from qXt).cell x1, (show Ext w20 _ from qXt).cell gg0, (show Ext w20 _ from qXt).cell gg1⟩ (fun hHeld => ?_)
    clear hK K
    try simp only [Act.put, qa, qb, qc, qD, qE, qF]
    refine qHr 11 rfl (fun K hK => ?_)
    try simp only [Act.put, qa, qb, qc, qD, qE, qF]
    go_simp
    have XE : Ext w17 (w20.alloc (.cells #[.slice Ha PC.length Hc, .slice Hd PE.length Hf] 32)) := ((Lw18.trans Lw19).trans Lw20).trans qXo
    have y0 : (w20.alloc (.cells #[.slice Ha PC.length Hc, .slice Hd PE.length Hf] 32)).cell? ⟨w20.heap.size, 0, none⟩ = some (.slice Ha PC.length Hc) := qCl
    have f_y0 : (w20.alloc (.cells #[.slice Ha PC.length Hc, .slice Hd PE.length Hf] 32)).frozen? ⟨w20.heap.size, 0, none⟩ = false := qFz
    have y1 : (w20.alloc (.cells #[.slice Ha PC.length Hc, .slice Hd PE.length Hf] 32)).cell? ⟨w20.heap.size, 1, none⟩ = some (.slice Hd PE.length Hf) := qCl
    have f_y1 : (w20.alloc (.cells #[.slice Ha PC.length Hc, .slice Hd PE.length Hf] 32)).frozen? ⟨w20.heap.size, 1, none⟩ = false := qFz
    have hg1 : w17.heap.size ≤ w20.heap.size := ((Lw18.trans Lw19).trans Lw20).size
    have KE : Ext w20 (w20.alloc (.cells #[.slice Ha PC.length Hc, .slice Hd PE.length Hf] 32)) := qXo
    replace cb0 := KE.cell cb0
    replace cb1 := KE.cell cb1
    replace cc30 := KE.cell cc30
    replace cc31 := KE.cell cc31
    replace cc32 := KE.cell cc32
    replace cc33 := KE.cell cc33
    replace cc34 := KE.cell cc34
    replace r0 := KE.cell r0
    replace r1 := KE.cell r1
    replace x0 := KE.cell x0
    replace x1 := KE.cell x1
    replace gg0 := KE.cell gg0
    replace gg1 := KE.cell gg1
    clear bZ
    replace iH := iH.ext KE
    have ke_ := KE.size
    refine hK.out _ _ ⟨cb0, cb1, cc30, cc31, cc32, cc33, cc34, r0, r1, x0, x1, gg0, gg1⟩ (fun hHeld => ?_)
    clear hK K KE
    try simp only [Act.put, qa, qb, qc, qD, qE, qF]
    refine qHk (v := ?_) 12 rfl (.inl ⟨by rfl, ?_⟩) ?_
    rotate_left
    ·
     (intro w hSw; (try dsimp only at hSw); go_simp; try with_reducible rfl)
    try simp only [Act.put, qa, qb, qc, qD, qE, qF]
    refine wpAnyH_done qKr ?_ _
    clear hHeld
    generalize (w20.alloc (.cells #[.slice Ha PC.length Hc, .slice Hd PE.length Hf] 32)) = WE at *
    go_step
    go_step
    go_meet
    case rel => exact ⟨_, _, _, _, _, _, rfl, rfl, XE, hg1, y0, y1, iH.lower (Nat.zero_le _)⟩
   case rest =>
    generalize wc = w21 at hcut ⊢
    obtain ⟨gZ, Ha, Hc, Hd, Hf, RH, rfl, rfl, xw21, hg_y, y0, y1, iH⟩ := hcut
    have Lw21 : Ext w17 w21 := xw21
    replace cb0 := Lw21.cell cb0
    replace cb1 := Lw21.cell cb1
    replace cc30 := Lw21.cell cc30
    replace cc31 := Lw21.cell cc31
    replace cc32 := Lw21.cell cc32
    replace cc33 := Lw21.cell cc33
    replace cc34 := Lw21.cell cc34
    replace r0 := Lw21.cell r0
    replace r1 := Lw21.cell r1
    replace x0 := Lw21.cell x0
    replace x1 := Lw21.cell x1
    replace gg0 := Lw21.cell gg0
    replace gg1 := Lw21.cell gg1
    replace bH := bH.ext Lw21
    replace X := X.trans Lw21
    replace EW := EW.trans Lw21
    have z48 : w.heap.size < w21.heap.size := qB cb0
    have z49 : w.heap.size + 1 < w21.heap.size := qB cc30
    have z50 : gW < w21.heap.size := qB r0
    have z51 : w6.heap.size < w21.heap.size := qB x0
    have z52 : gX < w21.heap.size := qB gg0
    have z53 : gZ < w21.heap.size := qB y0
    have sw21 : w17.heap.size ≤ w21.heap.size := Lw21.size
    clear Lw21 xw21
    go_wp2_with fail
    refine (eqBuffer_c PC PE _ _ _ _ _ _ _ _ _ (iH.ints.ext qXt) (iH.exps.ext qXt) ((iW.ext EW).ints.ext qXt) ((iW.ext EW).exps.ext qXt)).mono ?_
    rintro e w22 ⟨rfl, xw22⟩
    have Lw22 : Ext w21 w22 := Ext.trans qXt xw22
    replace cb0 := Lw22.cell cb0
    replace cb1 := Lw22.cell cb1
    replace cc30 := Lw22.cell cc30
    replace cc31 := Lw22.cell cc31
    replace cc32 := Lw22.cell cc32
    replace cc33 := Lw22.cell cc33
    replace cc34 := Lw22.cell cc34
    replace r0 := Lw22.cell r0
    replace r1 := Lw22.cell r1
    replace x0 := Lw22.cell x0
    replace x1 := Lw22.cell x1
    replace gg0 := Lw22.cell gg0
    replace gg1 := Lw22.cell gg1
    replace y0 := Lw22.cell y0
    replace y1 := Lw22.cell y1
    replace bH := bH.ext Lw22
    replace iH := iH.ext Lw22
    replace X := X.trans Lw22
    replace EW := EW.trans Lw22
    have z54 : w.heap.size < w22.heap.size := qB cb0
    have z55 : w.heap.size + 1 < w22.heap.size := qB cc30
    have z56 : gW < w22.heap.size := qB r0
    have z57 : w6.heap.size < w22.heap.size := qB x0
    have z58 : gX < w22.heap.size := qB gg0
    have z59 : gZ < w22.heap.size := qB y0
    have sw22 : w21.heap.size ≤ w22.heap.size := Lw22.size
    clear Lw22
    clear xw22
    go_wp2_with fail
    refine (heldBuffer_c PC.length PE 1 _ _ _ _ _ (bH.ints.ext qXt) (bH.exps.ext qXt) (fun i hi => by have := hSr.out i hi; omega) (by omega) (by rw [hK2.out]; omega)).mono ?_
    rintro e w23 ⟨rfl, xw23⟩
    have Lw23 : Ext w22 w23 := Ext.trans qXt xw23
    replace cb0 := Lw23.cell cb0
    replace cb1 := Lw23.cell cb1
    replace cc30 := Lw23.cell cc30
    replace cc31 := Lw23.cell cc31
    replace cc32 := Lw23.cell cc32
    replace cc33 := Lw23.cell cc33
    replace cc34 := Lw23.cell cc34
    replace r0 := Lw23.cell r0
    replace r1 := Lw23.cell r1
    replace x0 := Lw23.cell x0
    replace x1 := Lw23.cell x1
    replace gg0 := Lw23.cell gg0
    replace gg1 := Lw23.cell gg1
    replace y0 := Lw23.cell y0
    replace y1 := Lw23.cell y1
    replace bH := bH.ext Lw23
    replace iH := iH.ext Lw23
    replace X := X.trans Lw23
    replace EW := EW.trans Lw23
    have z60 : w.heap.size < w23.heap.size := qB cb0
    have z61 : w.heap.size + 1 < w23.heap.size := qB cc30
    have z62 : gW < w23.heap.size := qB r0
    have z63 : w6.heap.size < w23.heap.size := qB x0
    have z64 : gX < w23.heap.size := qB gg0
    have z65 : gZ < w23.heap.size := qB y0
    have sw23 : w22.heap.size ≤ w23.heap.size := Lw23.size
    clear Lw23
    clear xw23
    rw [hK2.out]
    go_wp2_with fail
    go_ret
    exact ⟨rfl, X.trans qXt⟩

set_option maxHeartbeats 6400000 in
theorem lawExportPart_true (cells : List Int) (es : List Exp) (ac ae : Option Addr) (cc ce : Nat) (i1 : Int) (i2 : Int) (sa3 sb3 sc3 : Int) (sd3 se3 : Bool) (w : World) (hc : Raw w (.slice ac cells.length cc) cells) (he : RawE w (.slice ae es.length ce) es) (nc : cells.length ≤ maxLen) (ne : es.length ≤ maxLen) (PC : List Int) (PE : List Exp) (hP : Hid (parA cells es i1 i2 sa3 sb3 sc3 sd3 se3 = (PC, PE, true))) (hS : SmallB (PC, PE, true)) :
  Calls Try.prog 10 #[.agg #[.slice ac cells.length cc, .slice ae es.length ce], .int .i64 i1, .int .i64 i2, .agg #[.int .i64 sa3, .int .i64 sb3, .int .i64 sc3, .bool sd3, .bool se3]] w fun e w' => e = .returned (.bool true) ∧ Ext w w' := by
 go_enter Try.func10, Try.ntmps10
 have X : Ext w w := Ext.refl _
 go_wp2_with fail
 refine (szBuffer_c cells es _ _ _ _ 1048576 _ (he.ext qXt) (by omega) (by omega) ne nc).mono ?_
 rintro e w1 ⟨L, rfl, ql1, ql2, ql3, xw1⟩
 have Lw1 : Ext w w1 := Ext.trans qXt xw1
 have cb0 : w1.cell? ⟨w.heap.size, 0, none⟩ = some (.slice ac cells.length cc) := xw1.cell qCl
 have cb1 : w1.cell? ⟨w.heap.size, 1, none⟩ = some (.slice ae es.length ce) := xw1.cell qCl
 have cc30 : w1.cell? ⟨w.heap.size + 1, 0, none⟩ = some (.int .i64 sa3) := xw1.cell qCl
 have cc31 : w1.cell? ⟨w.heap.size + 1, 1, none⟩ = some (.int .i64 sb3) := xw1.cell qCl
 have cc32 : w1.cell? ⟨w.heap.size + 1, 2, none⟩ = some (.int .i64 sc3) := xw1.cell qCl
 have cc33 : w1.cell? ⟨w.heap.size + 1, 3, none⟩ = some (.bool sd3) := xw1.cell qCl
 have cc34 : w1.cell? ⟨w.heap.size + 1, 4, none⟩ = some (.bool se3) := xw1.cell qCl
 replace X := X.trans Lw1
 have z1 : w.heap.size < w1.heap.size := qB cb0
 have z2 : w.heap.size + 1 < w1.heap.size := qB cc30
 have sw1 : w.heap.size ≤ w1.heap.size := Lw1.size
 clear Lw1
 clear xw1
 by_cases q0 : L < 0
 ·
  go_wp2_with fail
  go_ret
  exact ⟨rfl, X.trans qXt⟩
 have ql4 := ql3 (by omega)
 have hm : ∀ i, i < es.length → (expAt es i).s.length ≤ 1048576 ∧ (expAt es i).t.length ≤ 1048576 := fun i hi => by have := sizeE_le es i es.length hi; omega
 replace hm := Lib.hid hm
 have hk1 : kE (1 + cells.length) es es.length ≤ 4194304 := by rw [kE_size]; omega
 have hk0 := kE_mono (1 + cells.length) es 0 es.length (Nat.zero_le _)
 have hk2 : 0 ≤ kE (1 + cells.length) es es.length := by simp only [kE] at hk0; omega
 clear hk0
 obtain ⟨K1, hK1⟩ : ∃ x, kE (1 + cells.length) es es.length = x := ⟨_, rfl⟩
 rw [hK1] at hk1 hk2
 replace hK1 := Lib.hid hK1
 have hG1 := hS.kE
 have hG0 := kE_mono (1 + PC.length) PE 0 PE.length (Nat.zero_le _)
 obtain ⟨hSc, hSe, hSr⟩ := hS
 dsimp only at hG1 hSc hSe hSr
 have hG2 : 0 ≤ kE (1 + PC.length) PE PE.length := by simp only [kE] at hG0; omega
 clear hG0
 obtain ⟨K2, hK2⟩ : ∃ x, kE (1 + PC.length) PE PE.length = x := ⟨_, rfl⟩
 rw [hK2] at hG1 hG2
 replace hK2 := Lib.hid hK2
 replace hSr := Lib.hid hSr
 go_wp2_with fail
 go_cut [10, 11] (fun s0 s1 wx => ∃ (gW : Nat) (Wa : Option Addr) (Wc : Nat) (Wd : Option Addr) (Wf : Nat) (RW : Nat → Value), s0 = .pointer (some ⟨gW, 0, none⟩) ∧ s1 = .bool true ∧ Ext w1 wx ∧ w1.heap.size ≤ gW ∧ wx.cell? ⟨gW, 0, none⟩ = some (.slice Wa PC.length Wc) ∧ wx.cell? ⟨gW, 1, none⟩ = some (.slice Wd PE.length Wf) ∧ BufR wx 0 (.slice Wa PC.length Wc) (.slice Wd PE.length Wf) PC PE RW)
 case first =>
  refine wp_region_held_drew (S := fun w' => w'.cell? ⟨w.heap.size, 0, none⟩ = some (.slice ac cells.length cc) ∧ w'.cell? ⟨w.heap.size, 1, none⟩ = some (.slice ae es.length ce) ∧ w'.cell? ⟨w.heap.size + 1, 0, none⟩ = some (.int .i64 sa3) ∧ w'.cell? ⟨w.heap.size + 1, 1, none⟩ = some (.int .i64 sb3) ∧ w'.cell? ⟨w.heap.size + 1, 2, none⟩ = some (.int .i64 sc3) ∧ w'.cell? ⟨w.heap.size + 1, 3, none⟩ = some (.bool sd3) ∧ w'.cell? ⟨w.heap.size + 1, 4, none⟩ = some (.bool se3)) qKr ⟨cb0, cb1, cc30, cc31, cc32, cc33, cc34⟩ (fun hHeld => ?_)
  refine qHk (v := ?_) 0 rfl (.inl ⟨by rfl, ?_⟩) ?_
  rotate_left
  ·
   (intro w hSw; (try dsimp only at hSw); go_simp; try with_reducible rfl)
  try simp only [Act.put, qa, qb, qc, qD, qE, qF]
  refine qHk (v := ?_) 2 rfl (.inl ⟨by rfl, ?_⟩) ?_
  rotate_left
  ·
   (intro w hSw; (try dsimp only at hSw); go_simp; try with_reducible rfl)
  try simp only [Act.put, qa, qb, qc, qD, qE, qF]
  refine qHk (v := ?_) 3 rfl (.inl ⟨by rfl, ?_⟩) ?_
  rotate_left
  ·
   (intro w hSw; (try dsimp only at hSw); go_simp; try with_reducible rfl)
  try simp only [Act.put, qa, qb, qc, qD, qE, qF]
  refine qHk (v := ?_) 4 rfl (.inl ⟨by rfl, ?_⟩) ?_
  rotate_left
  ·
   (intro w hSw; (try dsimp only at hSw); go_simp; try with_reducible rfl)
  try simp only [Act.put, qa, qb, qc, qD, qE, qF]
  refine wpAnyH_ready (rs := [1, 10]) qKr (by simp) ?_
  refine AllReadyH.cons rfl (fun K hK => ?_) (AllReadyH.cons rfl (fun K hK => ?_) AllReadyH.nil)
  rotate_left
  try simp only [Act.put, qa, qb, qc, qD, qE, qF]
  go_simp
  refine hK.out _ _ ⟨(show Ext w1 _ from qXt).cell cb0, (show Ext w1 _ from qXt).cell cb1, (show Ext w1 _ from qXt).cell cc30, (show Ext w1 _ from qXt).cell cc31, (show Ext w1 _ from qXt).cell cc32, (show Ext w1 _ from qXt).cell cc33, (show Ext w1 _ from qXt).cell cc34⟩ (fun hHeld => ?_)
  clear hK K
  try simp only [Act.put, qa, qb, qc, qD, qE, qF]
  have qa0 : (w1.drew.alloc (.cells #[.slice none 0 0, .slice none 0 0] 32)).cell? ⟨w1.heap.size, 0, none⟩ = some (.slice none 0 0) := qCl
  have qf0 : (w1.drew.alloc (.cells #[.slice none 0 0, .slice none 0 0] 32)).frozen? ⟨w1.heap.size, 0, none⟩ = false := qFz
  have qa1 : (w1.drew.alloc (.cells #[.slice none 0 0, .slice none 0 0] 32)).cell? ⟨w1.heap.size, 1, none⟩ = some (.slice none 0 0) := qCl
  have qf1 : (w1.drew.alloc (.cells #[.slice none 0 0, .slice none 0 0] 32)).frozen? ⟨w1.heap.size, 1, none⟩ = false := qFz
  have zg : w1.heap.size < (w1.drew.alloc (.cells #[.slice none 0 0, .slice none 0 0] 32)).heap.size := qB qa0
  have hg : w1.heap.size ≤ w1.heap.size := Nat.le_refl _
  refine qHr 1 rfl (fun K hK => ?_)
  have zp := zg
  try simp only [Act.put, qa, qb, qc, qD, qE, qF]
  go_simp
  refine (toBuffer_c cells es _ _ _ _ _ (hc.ext (X.trans qXt)) (he.ext (X.trans qXt)) (by omega) (by omega) hm.out).mono ?_
  rintro e w2 ⟨uW, vW, RW, rfl, bW, xw2⟩
  have Lw2 : Ext w1 w2 := Ext.trans qXt xw2
  replace cb0 := Lw2.cell cb0
  replace cb1 := Lw2.cell cb1
  replace cc30 := Lw2.cell cc30
  replace cc31 := Lw2.cell cc31
  replace cc32 := Lw2.cell cc32
  replace cc33 := Lw2.cell cc33
  replace cc34 := Lw2.cell cc34
  have sz_w2 := Lw2.size
  replace qa0 := xw2.cell qa0
  replace qf0 := xw2.frz zg qf0
  replace qa1 := xw2.cell qa1
  replace qf1 := xw2.frz zg qf1
  replace zg := Nat.lt_of_lt_of_le zg xw2.size
  refine hK.out _ _ ⟨cb0, cb1, cc30, cc31, cc32, cc33, cc34⟩ (fun hHeld => ?_)
  clear hK K
  try simp only [Act.put, qa, qb, qc, qD, qE, qF]
  refine qHr 5 rfl (fun K hK => ?_)
  have zp := zg
  try simp only [Act.put, qa, qb, qc, qD, qE, qF]
  go_simp
  refine (toSlice_c sa3 sb3 sc3 sd3 se3 _).mono ?_
  rintro e w3 ⟨rfl, xw3⟩
  have Lw3 : Ext w2 w3 := Ext.trans qXt xw3
  replace cb0 := Lw3.cell cb0
  replace cb1 := Lw3.cell cb1
  replace cc30 := Lw3.cell cc30
  replace cc31 := Lw3.cell cc31
  replace cc32 := Lw3.cell cc32
  replace cc33 := Lw3.cell cc33
  replace cc34 := Lw3.cell cc34
  replace bW := bW.ext Lw3
  have sz_w3 := Lw3.size
  replace qa0 := xw3.cell qa0
  replace qf0 := xw3.frz zg qf0
  replace qa1 := xw3.cell qa1
  replace qf1 := xw3.frz zg qf1
  replace zg := Nat.lt_of_lt_of_le zg xw3.size
  refine hK.out _ _ ⟨cb0, cb1, cc30, cc31, cc32, cc33, cc34⟩ (fun hHeld => ?_)
  clear hK K
  try simp only [Act.put, qa, qb, qc, qD, qE, qF]
  refine qHr 6 rfl (fun K hK => ?_)
  have zp := zg
  try simp only [Act.put, qa, qb, qc, qD, qE, qF]
  go_simp
  refine (pbx_eq hP.out (specExportPart_c cells es _ _ i1 i2 sa3 sb3 sc3 sd3 se3 _ _ _ (bW.ints.ext qXt) (bW.exps.ext qXt))).mono ?_
  rintro e w4 ⟨W1, W2, RW, rfl, iW, xw4⟩
  have Lw4 : Ext w3 w4 := Ext.trans qXt xw4
  replace cb0 := Lw4.cell cb0
  replace cb1 := Lw4.cell cb1
  replace cc30 := Lw4.cell cc30
  replace cc31 := Lw4.cell cc31
  replace cc32 := Lw4.cell cc32
  replace cc33 := Lw4.cell cc33
  replace cc34 := Lw4.cell cc34
  replace bW := bW.ext Lw4
  have sz_w4 := Lw4.size
  try simp only [World.size_alloc, World.size_drew] at iW
  obtain ⟨Wa, Wc, rfl⟩ := iW.ints.form
  obtain ⟨Wd, Wf, rfl⟩ := iW.exps.form
  replace qa0 := xw4.cell qa0
  replace qf0 := xw4.frz zg qf0
  replace qa1 := xw4.cell qa1
  replace qf1 := xw4.frz zg qf1
  replace zg := Nat.lt_of_lt_of_le zg xw4.size
  refine hK.out _ _ ⟨cb0, cb1, cc30, cc31, cc32, cc33, cc34⟩ (fun hHeld => ?_)
  clear hK K
  try simp only [Act.put, qa, qb, qc, qD, qE, qF]
  refine qHk (v := ?_) 7 rfl (.inl ⟨by rfl, ?_⟩) ?_
  rotate_left
  ·
   (intro w hSw; (try dsimp only at hSw); go_simp; try with_reducible rfl)
  try simp only [Act.put, qa, qb, qc, qD, qE, qF]
  refine qHk (v := ?_) 8 rfl (.inl ⟨by rfl, ?_⟩) ?_
  rotate_left
  ·
   (intro w hSw; (try dsimp only at hSw); go_simp; try with_reducible rfl)
  try simp only [Act.put, qa, qb, qc, qD, qE, qF]
  refine qHk (v := ?_) 9 rfl (.inl ⟨by rfl, ?_⟩) ?_
  rotate_left
  ·
   (intro w hSw; (try dsimp only at hSw); go_simp; try with_reducible rfl)
  try simp only [Act.put, qa, qb, qc, qD, qE, qF]
  refine qHr 11 rfl (fun K hK => ?_)
  try simp only [Act.put, qa, qb, qc, qD, qE, qF]
  go_simp
  have XE : Ext w1 ((w4.setCell ⟨w1.heap.size, 0, none⟩ (.slice Wa PC.length Wc)).setCell ⟨w1.heap.size, 1, none⟩ (.slice Wd PE.length Wf)) := (Ext.setCell (Ext.setCell ((Lw2.trans Lw3).trans Lw4) hg _) hg _)
  have r0 : ((w4.setCell ⟨w1.heap.size, 0, none⟩ (.slice Wa PC.length Wc)).setCell ⟨w1.heap.size, 1, none⟩ (.slice Wd PE.length Wf)).cell? ⟨w1.heap.size, 0, none⟩ = some (.slice Wa PC.length Wc) := qCl
  have f_r0 : ((w4.setCell ⟨w1.heap.size, 0, none⟩ (.slice Wa PC.length Wc)).setCell ⟨w1.heap.size, 1, none⟩ (.slice Wd PE.length Wf)).frozen? ⟨w1.heap.size, 0, none⟩ = false := qFz
  have r1 : ((w4.setCell ⟨w1.heap.size, 0, none⟩ (.slice Wa PC.length Wc)).setCell ⟨w1.heap.size, 1, none⟩ (.slice Wd PE.length Wf)).cell? ⟨w1.heap.size, 1, none⟩ = some (.slice Wd PE.length Wf) := qCl
  have f_r1 : ((w4.setCell ⟨w1.heap.size, 0, none⟩ (.slice Wa PC.length Wc)).setCell ⟨w1.heap.size, 1, none⟩ (.slice Wd PE.length Wf)).frozen? ⟨w1.heap.size, 1, none⟩ = false := qFz
  have hg1 : w1.heap.size ≤ w1.heap.size := hg
  have KE : Chg w1.heap.size (w1.heap.size + 1) w4 ((w4.setCell ⟨w1.heap.size, 0, none⟩ (.slice Wa PC.length Wc)).setCell ⟨w1.heap.size, 1, none⟩ (.slice Wd PE.length Wf)) := (by repeat (first | (with_reducible exact Chg.refl _ _ _) | (with_reducible refine Chg.setCell ?_ qSo qSo _) | (with_reducible refine Chg.ext ?_ (Ext.alloc (Ext.refl _) _)) | (with_reducible refine Chg.ext ?_ (Ext.drew (Ext.refl _)))))
  replace cb0 := KE.cell (by omega) cb0
  replace cb1 := KE.cell (by omega) cb1
  replace cc30 := KE.cell (by omega) cc30
  replace cc31 := KE.cell (by omega) cc31
  replace cc32 := KE.cell (by omega) cc32
  replace cc33 := KE.cell (by omega) cc33
  replace cc34 := KE.cell (by omega) cc34
  clear bW
  replace iW := iW.chg KE (by omega)
  have ke_ := KE.size
  refine hK.out _ _ ⟨cb0, cb1, cc30, cc31, cc32, cc33, cc34⟩ (fun hHeld => ?_)
  clear hK K KE
  try simp only [Act.put, qa, qb, qc, qD, qE, qF]
  refine qHk (v := ?_) 12 rfl (.inl ⟨by rfl, ?_⟩) ?_
  rotate_left
  ·
   (intro w hSw; (try dsimp only at hSw); go_simp; try with_reducible rfl)
  try simp only [Act.put, qa, qb, qc, qD, qE, qF]
  refine wpAnyH_done qKr ?_ _
  clear hHeld
  generalize ((w4.setCell ⟨w1.heap.size, 0, none⟩ (.slice Wa PC.length Wc)).setCell ⟨w1.heap.size, 1, none⟩ (.slice Wd PE.length Wf)) = WE at *
  go_step
  go_step
  go_meet
  case rel => exact ⟨_, _, _, _, _, _, rfl, rfl, XE, hg1, r0, r1, iW.lower (Nat.zero_le _)⟩
  try simp only [Act.put, qa, qb, qc, qD, qE, qF]
  go_simp
  refine (toBuffer_c cells es _ _ _ _ _ (hc.ext (X.trans qXt)) (he.ext (X.trans qXt)) (by omega) (by omega) hm.out).mono ?_
  rintro e w2 ⟨uW, vW, RW, rfl, bW, xw2⟩
  have Lw2 : Ext w1 w2 := Ext.trans qXt xw2
  replace cb0 := Lw2.cell cb0
  replace cb1 := Lw2.cell cb1
  replace cc30 := Lw2.cell cc30
  replace cc31 := Lw2.cell cc31
  replace cc32 := Lw2.cell cc32
  replace cc33 := Lw2.cell cc33
  replace cc34 := Lw2.cell cc34
  have sz_w2 := Lw2.size
  refine hK.out _ _ ⟨cb0, cb1, cc30, cc31, cc32, cc33, cc34⟩ (fun hHeld => ?_)
  clear hK K
  try simp only [Act.put, qa, qb, qc, qD, qE, qF]
  refine wpAnyH_ready (rs := [5, 10]) qKr (by simp) ?_
  refine AllReadyH.cons rfl (fun K hK => ?_) (AllReadyH.cons rfl (fun K hK => ?_) AllReadyH.nil)
  rotate_left
  try simp only [Act.put, qa, qb, qc, qD, qE, qF]
  go_simp
  refine hK.out _ _ ⟨(show Ext w2 _ from qXt).cell cb0, (show Ext w2 _ from qXt).cell cb1, (show Ext w2 _ from qXt).cell cc30, (show Ext w2 _ from qXt).cell cc31, (show Ext w2 _ from qXt).cell cc32, (show Ext w2 _ from qXt).cell cc33, (show Ext w2 _ from qXt).cell cc34⟩ (fun hHeld => ?_)
  clear hK K
  try simp only [Act.put, qa, qb, qc, qD, qE, qF]
  have qa0 : (w2.alloc (.cells #[.slice none 0 0, .slice none 0 0] 32)).cell? ⟨w2.heap.size, 0, none⟩ = some (.slice none 0 0) := qCl
  have qf0 : (w2.alloc (.cells #[.slice none 0 0, .slice none 0 0] 32)).frozen? ⟨w2.heap.size, 0, none⟩ = false := qFz
  have qa1 : (w2.alloc (.cells #[.slice none 0 0, .slice none 0 0] 32)).cell? ⟨w2.heap.size, 1, none⟩ = some (.slice none 0 0) := qCl
  have qf1 : (w2.alloc (.cells #[.slice none 0 0, .slice none 0 0] 32)).frozen? ⟨w2.heap.size, 1, none⟩ = false := qFz
  have zg : w2.heap.size < (w2.alloc (.cells #[.slice none 0 0, .slice none 0 0] 32)).heap.size := qB qa0
  have hg : w1.heap.size ≤ w2.heap.size := (Lw2).size
  refine qHr 5 rfl (fun K hK => ?_)
  have zp := zg
  try simp only [Act.put, qa, qb, qc, qD, qE, qF]
  go_simp
  refine (toSlice_c sa3 sb3 sc3 sd3 se3 _).mono ?_
  rintro e w3 ⟨rfl, xw3⟩
  have Lw3 : Ext w2 w3 := Ext.trans qXt xw3
  replace cb0 := Lw3.cell cb0
  replace cb1 := Lw3.cell cb1
  replace cc30 := Lw3.cell cc30
  replace cc31 := Lw3.cell cc31
  replace cc32 := Lw3.cell cc32
  replace cc33 := Lw3.cell cc33
  replace cc34 := Lw3.cell cc34
  replace bW := bW.ext Lw3
  have sz_w3 := Lw3.size
  replace qa0 := xw3.cell qa0
  replace qf0 := xw3.frz zg qf0
  replace qa1 := xw3.cell qa1
  replace qf1 := xw3.frz zg qf1
  replace zg := Nat.lt_of_lt_of_le zg xw3.size
  refine hK.out _ _ ⟨cb0, cb1, cc30, cc31, cc32, cc33, cc34⟩ (fun hHeld => ?_)
  clear hK K
  try simp only [Act.put, qa, qb, qc, qD, qE, qF]
  refine qHr 6 rfl (fun K hK => ?_)
  have zp := zg
  try simp only [Act.put, qa, qb, qc, qD, qE, qF]
  go_simp
  refine (pbx_eq hP.out (specExportPart_c cells es _ _ i1 i2 sa3 sb3 sc3 sd3 se3 _ _ _ (bW.ints.ext qXt) (bW.exps.ext qXt))).mono ?_
  rintro e w4 ⟨W1, W2, RW, rfl, iW, xw4⟩
  have Lw4 : Ext w3 w4 := Ext.trans qXt xw4
  replace cb0 := Lw4.cell cb0
  replace cb1 := Lw4.cell cb1
  replace cc30 := Lw4.cell cc30
  replace cc31 := Lw4.cell cc31
  replace cc32 := Lw4.cell cc32
  replace cc33 := Lw4.cell cc33
  replace cc34 := Lw4.cell cc34
  replace bW := bW.ext Lw4
  have sz_w4 := Lw4.size
  try simp only [World.size_alloc, World.size_drew] at iW
  obtain ⟨Wa, Wc, rfl⟩ := iW.ints.form
  obtain ⟨Wd, Wf, rfl⟩ := iW.exps.form
  replace qa0 := xw4.cell qa0
  replace qf0 := xw4.frz zg qf0
  replace qa1 := xw4.cell qa1
  replace qf1 := xw4.frz zg qf1
  replace zg := Nat.lt_of_lt_of_le zg xw4.size
  refine hK.out _ _ ⟨cb0, cb1, cc30, cc31, cc32, cc33, cc34⟩ (fun hHeld => ?_)
  clear hK K
  try simp only [Act.put, qa, qb, qc, qD, qE, qF]
  refine qHk (v := ?_) 7 rfl (.inl ⟨by rfl, ?_⟩) ?_
  rotate_left
  ·
   (intro w hSw; (try dsimp only at hSw); go_simp; try with_reducible rfl)
  try simp only [Act.put, qa, qb, qc, qD, qE, qF]
  refine qHk (v := ?_) 8 rfl (.inl ⟨by rfl, ?_⟩) ?_
  rotate_left
  ·
   (intro w hSw; (try dsimp only at hSw); go_simp; try with_reducible rfl)
  try simp only [Act.put, qa, qb, qc, qD, qE, qF]
  refine qHk (v := ?_) 9 rfl (.inl ⟨by rfl, ?_⟩) ?_
  rotate_left
  ·
   (intro w hSw; (try dsimp only at hSw); go_simp; try with_reducible rfl)
  try simp only [Act.put, qa, qb, qc, qD, qE, qF]
  refine qHr 11 rfl (fun K hK => ?_)
  try simp only [Act.put, qa, qb, qc, qD, qE, qF]
  go_simp
  have XE : Ext w1 ((w4.setCell ⟨w2.heap.size, 0, none⟩ (.slice Wa PC.length Wc)).setCell ⟨w2.heap.size, 1, none⟩ (.slice Wd PE.length Wf)) := (Ext.setCell (Ext.setCell ((Lw2.trans Lw3).trans Lw4) hg _) hg _)
  have r0 : ((w4.setCell ⟨w2.heap.size, 0, none⟩ (.slice Wa PC.length Wc)).setCell ⟨w2.heap.size, 1, none⟩ (.slice Wd PE.length Wf)).cell? ⟨w2.heap.size, 0, none⟩ = some (.slice Wa PC.length Wc) := qCl
  have f_r0 : ((w4.setCell ⟨w2.heap.size, 0, none⟩ (.slice Wa PC.length Wc)).setCell ⟨w2.heap.size, 1, none⟩ (.slice Wd PE.length Wf)).frozen? ⟨w2.heap.size, 0, none⟩ = false := qFz
  have r1 : ((w4.setCell ⟨w2.heap.size, 0, none⟩ (.slice Wa PC.length Wc)).setCell ⟨w2.heap.size, 1, none⟩ (.slice Wd PE.length Wf)).cell? ⟨w2.heap.size, 1, none⟩ = some (.slice Wd PE.length Wf) := qCl
  have f_r1 : ((w4.setCell ⟨w2.heap.size, 0, none⟩ (.slice Wa PC.length Wc)).setCell ⟨w2.heap.size, 1, none⟩ (.slice Wd PE.length Wf)).frozen? ⟨w2.heap.size, 1, none⟩ = false := qFz
  have hg1 : w1.heap.size ≤ w2.heap.size := hg
  have KE : Chg w2.heap.size (w2.heap.size + 1) w4 ((w4.setCell ⟨w2.heap.size, 0, none⟩ (.slice Wa PC.length Wc)).setCell ⟨w2.heap.size, 1, none⟩ (.slice Wd PE.length Wf)) := (by repeat (first | (with_reducible exact Chg.refl _ _ _) | (with_reducible refine Chg.setCell ?_ qSo qSo _) | (with_reducible refine Chg.ext ?_ (Ext.alloc (Ext.refl _) _)) | (with_reducible refine Chg.ext ?_ (Ext.drew (Ext.refl _)))))
  replace cb0 := KE.cell (by omega) cb0
  replace cb1 := KE.cell (by omega) cb1
  replace cc30 := KE.cell (by omega) cc30
  replace cc31 := KE.cell (by omega) cc31
  replace cc32 := KE.cell (by omega) cc32
  replace cc33 := KE.cell (by omega) cc33
  replace cc34 := KE.cell (by omega) cc34
  clear bW
  replace iW := iW.chg KE (by omega)
  have ke_ := KE.size
  refine hK.out _ _ ⟨cb0, cb1, cc30, cc31, cc32, cc33, cc34⟩ (fun hHeld => ?_)
  clear hK K KE
  try simp only [Act.put, qa, qb, qc, qD, qE, qF]
  refine qHk (v := ?_) 12 rfl (.inl ⟨by rfl, ?_⟩) ?_
  rotate_left
  ·
   (intro w hSw; (try dsimp only at hSw); go_simp; try with_reducible rfl)
  try simp only [Act.put, qa, qb, qc, qD, qE, qF]
  refine wpAnyH_done qKr ?_ _
  clear hHeld
  generalize ((w4.setCell ⟨w2.heap.size, 0, none⟩ (.slice Wa PC.length Wc)).setCell ⟨w2.heap.size, 1, none⟩ (.slice Wd PE.length Wf)) = WE at *
  go_step
  go_step
  go_meet
  case rel => exact ⟨_, _, _, _, _, _, rfl, rfl, XE, hg1, r0, r1, iW.lower (Nat.zero_le _)⟩
  try simp only [Act.put, qa, qb, qc, qD, qE, qF]
  go_simp
  refine (toSlice_c sa3 sb3 sc3 sd3 se3 _).mono ?_
  rintro e w3 ⟨rfl, xw3⟩
  have Lw3 : Ext w2 w3 := Ext.trans qXt xw3
  replace cb0 := Lw3.cell cb0
  replace cb1 := Lw3.cell cb1
  replace cc30 := Lw3.cell cc30
  replace cc31 := Lw3.cell cc31
  replace cc32 := Lw3.cell cc32
  replace cc33 := Lw3.cell cc33
  replace cc34 := Lw3.cell cc34
  replace bW := bW.ext Lw3
  have sz_w3 := Lw3.size
  refine hK.out _ _ ⟨cb0, cb1, cc30, cc31, cc32, cc33, cc34⟩ (fun hHeld => ?_)
  clear hK K
  try simp only [Act.put, qa, qb, qc, qD, qE, qF]
  refine wpAnyH_ready (rs := [6, 10]) qKr (by simp) ?_
  refine AllReadyH.cons rfl (fun K hK => ?_) (AllReadyH.cons rfl (fun K hK => ?_) AllReadyH.nil)
  rotate_left
  try simp only [Act.put, qa, qb, qc, qD, qE, qF]
  go_simp
  refine hK.out _ _ ⟨(show Ext w3 _ from qXt).cell cb0, (show Ext w3 _ from qXt).cell cb1, (show Ext w3 _ from qXt).cell cc30, (show Ext w3 _ from qXt).cell cc31, (show Ext w3 _ from qXt).cell cc32, (show Ext w3 _ from qXt).cell cc33, (show Ext w3 _ from qXt).cell cc34⟩ (fun hHeld => ?_)
  clear hK K
  try simp only [Act.put, qa, qb, qc, qD, qE, qF]
  have qa0 : (w3.alloc (.cells #[.slice none 0 0, .slice none 0 0] 32)).cell? ⟨w3.heap.size, 0, none⟩ = some (.slice none 0 0) := qCl
  have qf0 : (w3.alloc (.cells #[.slice none 0 0, .slice none 0 0] 32)).frozen? ⟨w3.heap.size, 0, none⟩ = false := qFz
  have qa1 : (w3.alloc (.cells #[.slice none 0 0, .slice none 0 0] 32)).cell? ⟨w3.heap.size, 1, none⟩ = some (.slice none 0 0) := qCl
  have qf1 : (w3.alloc (.cells #[.slice none 0 0, .slice none 0 0] 32)).frozen? ⟨w3.heap.size, 1, none⟩ = false := qFz
  have zg : w3.heap.size < (w3.alloc (.cells #[.slice none 0 0, .slice none 0 0] 32)).heap.size := qB qa0
  have hg : w1.heap.size ≤ w3.heap.size := ((Lw2.trans Lw3)).size
  refine qHr 6 rfl (fun K hK => ?_)
  have zp := zg
  try simp only [Act.put, qa, qb, qc, qD, qE, qF]
  go_simp
  refine (pbx_eq hP.out (specExportPart_c cells es _ _ i1 i2 sa3 sb3 sc3 sd3 se3 _ _ _ (bW.ints.ext qXt) (bW.exps.ext qXt))).mono ?_
  rintro e w4 ⟨W1, W2, RW, rfl, iW, xw4⟩
  have Lw4 : Ext w3 w4 := Ext.trans qXt xw4
  replace cb0 := Lw4.cell cb0
  replace cb1 := Lw4.cell cb1
  replace cc30 := Lw4.cell cc30
  replace cc31 := Lw4.cell cc31
  replace cc32 := Lw4.cell cc32
  replace cc33 := Lw4.cell cc33
  replace cc34 := Lw4.cell cc34
  replace bW := bW.ext Lw4
  have sz_w4 := Lw4.size
  try simp only [World.size_alloc, World.size_drew] at iW
  obtain ⟨Wa, Wc, rfl⟩ := iW.ints.form
  obtain ⟨Wd, Wf, rfl⟩ := iW.exps.form
  replace qa0 := xw4.cell qa0
  replace qf0 := xw4.frz zg qf0
  replace qa1 := xw4.cell qa1
  replace qf1 := xw4.frz zg qf1
  replace zg := Nat.lt_of_lt_of_le zg xw4.size
  refine hK.out _ _ ⟨cb0, cb1, cc30, cc31, cc32, cc33, cc34⟩ (fun hHeld => ?_)
  clear hK K
  try simp only [Act.put, qa, qb, qc, qD, qE, qF]
  refine qHk (v := ?_) 7 rfl (.inl ⟨by rfl, ?_⟩) ?_
  rotate_left
  ·
   (intro w hSw; (try dsimp only at hSw); go_simp; try with_reducible rfl)
  try simp only [Act.put, qa, qb, qc, qD, qE, qF]
  refine qHk (v := ?_) 8 rfl (.inl ⟨by rfl, ?_⟩) ?_
  rotate_left
  ·
   (intro w hSw; (try dsimp only at hSw); go_simp; try with_reducible rfl)
  try simp only [Act.put, qa, qb, qc, qD, qE, qF]
  refine qHk (v := ?_) 9 rfl (.inl ⟨by rfl, ?_⟩) ?_
  rotate_left
  ·
   (intro w hSw; (try dsimp only at hSw); go_simp; try with_reducible rfl)
  try simp only [Act.put, qa, qb, qc, qD, qE, qF]
  refine qHr 11 rfl (fun K hK => ?_)
  try simp only [Act.put, qa, qb, qc, qD, qE, qF]
  go_simp
  have XE : Ext w1 ((w4.setCell ⟨w3.heap.size, 0, none⟩ (.slice Wa PC.length Wc)).setCell ⟨w3.heap.size, 1, none⟩ (.slice Wd PE.length Wf)) := (Ext.setCell (Ext.setCell ((Lw2.trans Lw3).trans Lw4) hg _) hg _)
  have r0 : ((w4.setCell ⟨w3.heap.size, 0, none⟩ (.slice Wa PC.length Wc)).setCell ⟨w3.heap.size, 1, none⟩ (.slice Wd PE.length Wf)).cell? ⟨w3.heap.size, 0, none⟩ = some (.slice Wa PC.length Wc) := qCl
  have f_r0 : ((w4.setCell ⟨w3.heap.size, 0, none⟩ (.slice Wa PC.length Wc)).setCell ⟨w3.heap.size, 1, none⟩ (.slice Wd PE.length Wf)).frozen? ⟨w3.heap.size, 0, none⟩ = false := qFz
  have r1 : ((w4.setCell ⟨w3.heap.size, 0, none⟩ (.slice Wa PC.length Wc)).setCell ⟨w3.heap.size, 1, none⟩ (.slice Wd PE.length Wf)).cell? ⟨w3.heap.size, 1, none⟩ = some (.slice Wd PE.length Wf) := qCl
  have f_r1 : ((w4.setCell ⟨w3.heap.size, 0, none⟩ (.slice Wa PC.length Wc)).setCell ⟨w3.heap.size, 1, none⟩ (.slice Wd PE.length Wf)).frozen? ⟨w3.heap.size, 1, none⟩ = false := qFz
  have hg1 : w1.heap.size ≤ w3.heap.size := hg
  have KE : Chg w3.heap.size (w3.heap.size + 1) w4 ((w4.setCell ⟨w3.heap.size, 0, none⟩ (.slice Wa PC.length Wc)).setCell ⟨w3.heap.size, 1, none⟩ (.slice Wd PE.length Wf)) := (by repeat (first | (with_reducible exact Chg.refl _ _ _) | (with_reducible refine Chg.setCell ?_ qSo qSo _) | (with_reducible refine Chg.ext ?_ (Ext.alloc (Ext.refl _) _)) | (with_reducible refine Chg.ext ?_ (Ext.drew (Ext.refl _)))))
  replace cb0 := KE.cell (by omega) cb0
  replace cb1 := KE.cell (by omega) cb1
  replace cc30 := KE.cell (by omega) cc30
  replace cc31 := KE.cell (by omega) cc31
  replace cc32 := KE.cell (by omega) cc32
  replace cc33 := KE.cell (by omega) cc33
  replace cc34 := KE.cell (by omega) cc34
  clear bW
  replace iW := iW.chg KE (by omega)
  have ke_ := KE.size
  refine hK.out _ _ ⟨cb0, cb1, cc30, cc31, cc32, cc33, cc34⟩ (fun hHeld => ?_)
  clear hK K KE
  try simp only [Act.put, qa, qb, qc, qD, qE, qF]
  refine qHk (v := ?_) 12 rfl (.inl ⟨by rfl, ?_⟩) ?_
  rotate_left
  ·
   (intro w hSw; (try dsimp only at hSw); go_simp; try with_reducible rfl)
  try simp only [Act.put, qa, qb, qc, qD, qE, qF]
  refine wpAnyH_done qKr ?_ _
  clear hHeld
  generalize ((w4.setCell ⟨w3.heap.size, 0, none⟩ (.slice Wa PC.length Wc)).setCell ⟨w3.heap.size, 1, none⟩ (.slice Wd PE.length Wf)) = WE at *
  go_step
  go_step
  go_meet
  case rel => exact ⟨_, _, _, _, _, _, rfl, rfl, XE, hg1, r0, r1, iW.lower (Nat.zero_le _)⟩
  try simp only [Act.put, qa, qb, qc, qD, qE, qF]
  go_simp
  refine (pbx_eq hP.out (specExportPart_c cells es _ _ i1 i2 sa3 sb3 sc3 sd3 se3 _ _ _ (bW.ints.ext qXt) (bW.exps.ext qXt))).mono ?_
  rintro e w4 ⟨W1, W2, RW, rfl, iW, xw4⟩
  have Lw4 : Ext w3 w4 := Ext.trans qXt xw4
  replace cb0 := Lw4.cell cb0
  replace cb1 := Lw4.cell cb1
  replace cc30 := Lw4.cell cc30
  replace cc31 := Lw4.cell cc31
  replace cc32 := Lw4.cell cc32
  replace cc33 := Lw4.cell cc33
  replace cc34 := Lw4.cell cc34
  replace bW := bW.ext Lw4
  have sz_w4 := Lw4.size
  try simp only [World.size_alloc, World.size_drew] at iW
  obtain ⟨Wa, Wc, rfl⟩ := iW.ints.form
  obtain ⟨Wd, Wf, rfl⟩ := iW.exps.form
  refine hK.out _ _ ⟨cb0, cb1, cc30, cc31, cc32, cc33, cc34⟩ (fun hHeld => ?_)
  clear hK K
  try simp only [Act.put, qa, qb, qc, qD, qE, qF]
  refine qHk (v := ?_) 7 rfl (.inl ⟨by rfl, ?_⟩) ?_
  rotate_left
  ·
   (intro w hSw; (try dsimp only at hSw); go_simp; try with_reducible rfl)
  try simp only [Act.put, qa, qb, qc, qD, qE, qF]
  refine qHk (v := ?_) 8 rfl (.inl ⟨by rfl, ?_⟩) ?_
  rotate_left
  ·
   (intro w hSw; (try dsimp only at hSw); go_simp; try with_reducible rfl)
  try simp only [Act.put, qa, qb, qc, qD, qE, qF]
  refine qHk (v := ?_) 9 rfl (.inl ⟨by rfl, ?_⟩) ?_
  rotate_left
  ·
   (intro w hSw; (try dsimp only at hSw); go_simp; try with_reducible rfl)
  try simp only [Act.put, qa, qb, qc, qD, qE, qF]
  refine qHr 10 rfl (fun K hK => ?_)
  try simp only [Act.put, qa, qb, qc, qD, qE, qF]
  go_simp
  refine hK.out _ _ ⟨(show Ext w4 _ from qXt).cell cb0, (show Ext w4 _ from qXt).cell cb1, (show Ext w4 _ from qXt).cell cc30, (show Ext w4 _ from qXt).cell cc31, (show Ext w4 _ from qXt).cell cc32, (show Ext w4 _ from qXt).cell cc33, (show Ext w4 _ from qXt).cell cc34⟩ (fun hHeld => ?_)
  clear hK K
  try simp only [Act.put, qa, qb, qc, qD, qE, qF]
  refine qHr 11 rfl (fun K hK => ?_)
  try simp only [Act.put, qa, qb, qc, qD, qE, qF]
  go_simp
  have XE : Ext w1 (w4.alloc (.cells #[.slice Wa PC.length Wc, .slice Wd PE.length Wf] 32)) := ((Lw2.trans Lw3).trans Lw4).trans qXo
  have r0 : (w4.alloc (.cells #[.slice Wa PC.length Wc, .slice Wd PE.length Wf] 32)).cell? ⟨w4.heap.size, 0, none⟩ = some (.slice Wa PC.length Wc) := qCl
  have f_r0 : (w4.alloc (.cells #[.slice Wa PC.length Wc, .slice Wd PE.length Wf] 32)).frozen? ⟨w4.heap.size, 0, none⟩ = false := qFz
  have r1 : (w4.alloc (.cells #[.slice Wa PC.length Wc, .slice Wd PE.length Wf] 32)).cell? ⟨w4.heap.size, 1, none⟩ = some (.slice Wd PE.length Wf) := qCl
  have f_r1 : (w4.alloc (.cells #[.slice Wa PC.length Wc, .slice Wd PE.length Wf] 32)).frozen? ⟨w4.heap.size, 1, none⟩ = false := qFz
  have hg1 : w1.heap.size ≤ w4.heap.size := ((Lw2.trans Lw3).trans Lw4).size
  have KE : Ext w4 (w4.alloc (.cells #[.slice Wa PC.length Wc, .slice Wd PE.length Wf] 32)) := qXo
  replace cb0 := KE.cell cb0
  replace cb1 := KE.cell cb1
  replace cc30 := KE.cell cc30
  replace cc31 := KE.cell cc31
  replace cc32 := KE.cell cc32
  replace cc33 := KE.cell cc33
  replace cc34 := KE.cell cc34
  clear bW
  replace iW := iW.ext KE
  have ke_ := KE.size
  refine hK.out _ _ ⟨cb0, cb1, cc30, cc31, cc32, cc33, cc34⟩ (fun hHeld => ?_)
  clear hK K KE
  try simp only [Act.put, qa, qb, qc, qD, qE, qF]
  refine qHk (v := ?_) 12 rfl (.inl ⟨by rfl, ?_⟩) ?_
  rotate_left
  ·
   (intro w hSw; (try dsimp only at hSw); go_simp; try with_reducible rfl)
  try simp only [Act.put, qa, qb, qc, qD, qE, qF]
  refine wpAnyH_done qKr ?_ _
  clear hHeld
  generalize (w4.alloc (.cells #[.slice Wa PC.length Wc, .slice Wd PE.length Wf] 32)) = WE at *
  go_step
  go_step
  go_meet
  case rel => exact ⟨_, _, _, _, _, _, rfl, rfl, XE, hg1, r0, r1, iW.lower (Nat.zero_le _)⟩
 case rest =>
  generalize wc = w5 at hcut ⊢
  obtain ⟨gW, Wa, Wc, Wd, Wf, RW, rfl, rfl, xw5, hg_r, r0, r1, iW⟩ := hcut
  have Lw5 : Ext w1 w5 := xw5
  replace cb0 := Lw5.cell cb0
  replace cb1 := Lw5.cell cb1
  replace cc30 := Lw5.cell cc30
  replace cc31 := Lw5.cell cc31
  replace cc32 := Lw5.cell cc32
  replace cc33 := Lw5.cell cc33
  replace cc34 := Lw5.cell cc34
  replace X := X.trans Lw5
  have z3 : w.heap.size < w5.heap.size := qB cb0
  have z4 : w.heap.size + 1 < w5.heap.size := qB cc30
  have z5 : gW < w5.heap.size := qB r0
  have sw5 : w1.heap.size ≤ w5.heap.size := Lw5.size
  clear Lw5 xw5
  have EW : Ext w5 w5 := Ext.refl _
  go_wp2_with fail
  refine (toBuffer_c cells es _ _ _ _ _ (hc.ext (X.trans qXt)) (he.ext (X.trans qXt)) (by omega) (by omega) hm.out).mono ?_
  rintro e w6 ⟨uX, vX, RX, rfl, bX, xw6⟩
  have Lw6 : Ext w5 w6 := Ext.trans qXt xw6
  replace cb0 := Lw6.cell cb0
  replace cb1 := Lw6.cell cb1
  replace cc30 := Lw6.cell cc30
  replace cc31 := Lw6.cell cc31
  replace cc32 := Lw6.cell cc32
  replace cc33 := Lw6.cell cc33
  replace cc34 := Lw6.cell cc34
  replace r0 := Lw6.cell r0
  replace r1 := Lw6.cell r1
  replace X := X.trans Lw6
  replace EW := EW.trans Lw6
  have z6 : w.heap.size < w6.heap.size := qB cb0
  have z7 : w.heap.size + 1 < w6.heap.size := qB cc30
  have z8 : gW < w6.heap.size := qB r0
  have sw6 : w5.heap.size ≤ w6.heap.size := Lw6.size
  clear Lw6
  clear xw6
  replace bX := bX.lower (lo' := w5.heap.size) qSo
  have lX := bX.below
  obtain ⟨Xa, Xc, rfl⟩ := bX.ints.form
  obtain ⟨Xd, Xf, rfl⟩ := bX.exps.form
  go_wp2_with fail
  generalize hW2 : w6.alloc (.cells #[.slice Xa cells.length Xc, .slice Xd es.length Xf] 32) = w7 at *
  have Lw7 : Ext w6 w7 := by subst hW2; exact qXt
  replace cb0 := Lw7.cell cb0
  replace cb1 := Lw7.cell cb1
  replace cc30 := Lw7.cell cc30
  replace cc31 := Lw7.cell cc31
  replace cc32 := Lw7.cell cc32
  replace cc33 := Lw7.cell cc33
  replace cc34 := Lw7.cell cc34
  replace r0 := Lw7.cell r0
  replace r1 := Lw7.cell r1
  have x0 : w7.cell? ⟨w6.heap.size, 0, none⟩ = some (.slice Xa cells.length Xc) := by subst hW2; exact qCl
  have x1 : w7.cell? ⟨w6.heap.size, 1, none⟩ = some (.slice Xd es.length Xf) := by subst hW2; exact qCl
  replace bX := bX.ext Lw7
  replace X := X.trans Lw7
  replace EW := EW.trans Lw7
  clear hW2
  have z9 : w.heap.size < w7.heap.size := qB cb0
  have z10 : w.heap.size + 1 < w7.heap.size := qB cc30
  have z11 : gW < w7.heap.size := qB r0
  have z12 : w6.heap.size < w7.heap.size := qB x0
  have sw7 : w6.heap.size ≤ w7.heap.size := Lw7.size
  clear Lw7
  go_cut [13, 14] (fun s0 s1 wx => ∃ (gX : Nat) (Ga : Option Addr) (Gc : Nat) (Gd : Option Addr) (Gf : Nat) (RG : Nat → Value) (gl gh : Nat), s0 = .pointer (some ⟨gX, 0, none⟩) ∧ s1 = .bool true ∧ Ext w7 wx ∧ w7.heap.size ≤ gX ∧ wx.cell? ⟨gX, 0, none⟩ = some (.slice Ga PC.length Gc) ∧ wx.cell? ⟨gX, 1, none⟩ = some (.slice Gd PE.length Gf) ∧ BufR wx gl (.slice Ga PC.length Gc) (.slice Gd PE.length Gf) PC PE RG ∧ BelowB gh (.slice Ga PC.length Gc) (.slice Gd PE.length Gf) PC PE RG ∧ w7.heap.size ≤ gl ∧ gh ≤ wx.heap.size ∧ (gX < gl ∨ gh ≤ gX))
  case first =>
   refine wp_region_held_drew (S := fun w' => w'.cell? ⟨w.heap.size, 0, none⟩ = some (.slice ac cells.length cc) ∧ w'.cell? ⟨w.heap.size, 1, none⟩ = some (.slice ae es.length ce) ∧ w'.cell? ⟨w.heap.size + 1, 0, none⟩ = some (.int .i64 sa3) ∧ w'.cell? ⟨w.heap.size + 1, 1, none⟩ = some (.int .i64 sb3) ∧ w'.cell? ⟨w.heap.size + 1, 2, none⟩ = some (.int .i64 sc3) ∧ w'.cell? ⟨w.heap.size + 1, 3, none⟩ = some (.bool sd3) ∧ w'.cell? ⟨w.heap.size + 1, 4, none⟩ = some (.bool se3) ∧ w'.cell? ⟨gW, 0, none⟩ = some (.slice Wa PC.length Wc) ∧ w'.cell? ⟨gW, 1, none⟩ = some (.slice Wd PE.length Wf) ∧ w'.cell? ⟨w6.heap.size, 0, none⟩ = some (.slice Xa cells.length Xc) ∧ w'.cell? ⟨w6.heap.size, 1, none⟩ = some (.slice Xd es.length Xf)) qKr ⟨cb0, cb1, cc30, cc31, cc32, cc33, cc34, r0, r1, x0, x1⟩ (fun hHeld => ?_)
   refine qHk (v := ?_) 0 rfl (.inl ⟨by rfl, ?_⟩) ?_
   rotate_left
   ·
    (intro w hSw; (try dsimp only at hSw); go_simp; try with_reducible rfl)
   try simp only [Act.put, qa, qb, qc, qD, qE, qF]
   refine qHk (v := ?_) 1 rfl (.inl ⟨by rfl, ?_⟩) ?_
   rotate_left
   ·
    (intro w hSw; (try dsimp only at hSw); go_simp; try with_reducible rfl)
   try simp only [Act.put, qa, qb, qc, qD, qE, qF]
   refine qHk (v := ?_) 2 rfl (.inl ⟨by rfl, ?_⟩) ?_
   rotate_left
   ·
    (intro w hSw; (try dsimp only at hSw); go_simp; try with_reducible rfl)
   try simp only [Act.put, qa, qb, qc, qD, qE, qF]
   refine qHk (v := ?_) 3 rfl (.inl ⟨by rfl, ?_⟩) ?_
   rotate_left
   ·
    (intro w hSw; (try dsimp only at hSw); go_simp; try with_reducible rfl)
   try simp only [Act.put, qa, qb, qc, qD, qE, qF]
   refine wpAnyH_ready (rs := [4, 9]) qKr (by simp) ?_
   refine AllReadyH.cons rfl (fun K hK => ?_) (AllReadyH.cons rfl (fun K hK => ?_) AllReadyH.nil)
   rotate_left
   try simp only [Act.put, qa, qb, qc, qD, qE, qF]
   go_simp
   refine hK.out _ _ ⟨(show Ext w7 _ from qXt).cell cb0, (show Ext w7 _ from qXt).cell cb1, (show Ext w7 _ from qXt).cell cc30, (show Ext w7 _ from qXt).cell cc31, (show Ext w7 _ from qXt).cell cc32, (show Ext w7 _ from qXt).cell cc33, (show Ext w7 _ from qXt).cell cc34, (show Ext w7 _ from qXt).cell r0, (show Ext w7 _ from qXt).cell r1, (show Ext w7 _ from qXt).cell x0, (show Ext w7 _ from qXt).cell x1⟩ (fun hHeld => ?_)
   clear hK K
   try simp only [Act.put, qa, qb, qc, qD, qE, qF]
   have qa0 : (w7.drew.alloc (.cells #[.slice none 0 0, .slice none 0 0] 32)).cell? ⟨w7.heap.size, 0, none⟩ = some (.slice none 0 0) := qCl
   have qf0 : (w7.drew.alloc (.cells #[.slice none 0 0, .slice none 0 0] 32)).frozen? ⟨w7.heap.size, 0, none⟩ = false := qFz
   have qa1 : (w7.drew.alloc (.cells #[.slice none 0 0, .slice none 0 0] 32)).cell? ⟨w7.heap.size, 1, none⟩ = some (.slice none 0 0) := qCl
   have qf1 : (w7.drew.alloc (.cells #[.slice none 0 0, .slice none 0 0] 32)).frozen? ⟨w7.heap.size, 1, none⟩ = false := qFz
   have zg : w7.heap.size < (w7.drew.alloc (.cells #[.slice none 0 0, .slice none 0 0] 32)).heap.size := qB qa0
   have hg : w7.heap.size ≤ w7.heap.size := Nat.le_refl _
   refine qHr 4 rfl (fun K hK => ?_)
   have zp := zg
   try simp only [Act.put, qa, qb, qc, qD, qE, qF]
   go_simp
   refine (toSlice_c sa3 sb3 sc3 sd3 se3 _).mono ?_
   rintro e w8 ⟨rfl, xw8⟩
   have Lw8 : Ext w7 w8 := Ext.trans qXt xw8
   replace cb0 := Lw8.cell cb0
   replace cb1 := Lw8.cell cb1
   replace cc30 := Lw8.cell cc30
   replace cc31 := Lw8.cell cc31
   replace cc32 := Lw8.cell cc32
   replace cc33 := Lw8.cell cc33
   replace cc34 := Lw8.cell cc34
   replace r0 := Lw8.cell r0
   replace r1 := Lw8.cell r1
   replace x0 := Lw8.cell x0
   replace x1 := Lw8.cell x1
   have sz_w8 := Lw8.size
   replace qa0 := xw8.cell qa0
   replace qf0 := xw8.frz zg qf0
   replace qa1 := xw8.cell qa1
   replace qf1 := xw8.frz zg qf1
   replace zg := Nat.lt_of_lt_of_le zg xw8.size
   refine hK.out _ _ ⟨cb0, cb1, cc30, cc31, cc32, cc33, cc34, r0, r1, x0, x1⟩ (fun hHeld => ?_)
   clear hK K
   try simp only [Act.put, qa, qb, qc, qD, qE, qF]
   refine qHr 5 rfl (fun K hK => ?_)
   have zp := zg
   try simp only [Act.put, qa, qb, qc, qD, qE, qF]
   go_simp
   refine (pbx_eq hP.out (implExportPart_c cells es _ _ i1 i2 sa3 sb3 sc3 sd3 se3 _ _ _ (bX.ints.ext (Lw8.trans qXt)) (bX.exps.ext (Lw8.trans qXt)))).mono ?_
   rintro e w9 ⟨G1, G2, RG, rfl, bG, xw9⟩
   have Lw9 : Ext w8 w9 := Ext.trans qXt xw9
   replace cb0 := Lw9.cell cb0
   replace cb1 := Lw9.cell cb1
   replace cc30 := Lw9.cell cc30
   replace cc31 := Lw9.cell cc31
   replace cc32 := Lw9.cell cc32
   replace cc33 := Lw9.cell cc33
   replace cc34 := Lw9.cell cc34
   replace r0 := Lw9.cell r0
   replace r1 := Lw9.cell r1
   replace x0 := Lw9.cell x0
   replace x1 := Lw9.cell x1
   have sz_w9 := Lw9.size
   try simp only [World.size_alloc, World.size_drew] at bG
   obtain ⟨Ga, Gc, rfl⟩ := bG.ints.form
   obtain ⟨Gd, Gf, rfl⟩ := bG.exps.form
   have lG := bG.below
   replace qa0 := xw9.cell qa0
   replace qf0 := xw9.frz zg qf0
   replace qa1 := xw9.cell qa1
   replace qf1 := xw9.frz zg qf1
   replace zg := Nat.lt_of_lt_of_le zg xw9.size
   refine hK.out _ _ ⟨cb0, cb1, cc30, cc31, cc32, cc33, cc34, r0, r1, x0, x1⟩ (fun hHeld => ?_)
   clear hK K
   try simp only [Act.put, qa, qb, qc, qD, qE, qF]
   refine qHk (v := ?_) 6 rfl (.inl ⟨by rfl, ?_⟩) ?_
   rotate_left
   ·
    (intro w hSw; (try dsimp only at hSw); go_simp; try with_reducible rfl)
   try simp only [Act.put, qa, qb, qc, qD, qE, qF]
   refine qHk (v := ?_) 7 rfl (.inl ⟨by rfl, ?_⟩) ?_
   rotate_left
   ·
    (intro w hSw; (try dsimp only at hSw); go_simp; try with_reducible rfl)
   try simp only [Act.put, qa, qb, qc, qD, qE, qF]
   refine qHk (v := ?_) 8 rfl (.inl ⟨by rfl, ?_⟩) ?_
   rotate_left
   ·
    (intro w hSw; (try dsimp only at hSw); go_simp; try with_reducible rfl)
   try simp only [Act.put, qa, qb, qc, qD, qE, qF]
   refine qHr 10 rfl (fun K hK => ?_)
   try simp only [Act.put, qa, qb, qc, qD, qE, qF]
   go_simp
   have XE : Ext w7 ((w9.setCell ⟨w7.heap.size, 0, none⟩ (.slice Ga PC.length Gc)).setCell ⟨w7.heap.size, 1, none⟩ (.slice Gd PE.length Gf)) := (Ext.setCell (Ext.setCell (Lw8.trans Lw9) hg _) hg _)
   have gg0 : ((w9.setCell ⟨w7.heap.size, 0, none⟩ (.slice Ga PC.length Gc)).setCell ⟨w7.heap.size, 1, none⟩ (.slice Gd PE.length Gf)).cell? ⟨w7.heap.size, 0, none⟩ = some (.slice Ga PC.length Gc) := qCl
   have f_gg0 : ((w9.setCell ⟨w7.heap.size, 0, none⟩ (.slice Ga PC.length Gc)).setCell ⟨w7.heap.size, 1, none⟩ (.slice Gd PE.length Gf)).frozen? ⟨w7.heap.size, 0, none⟩ = false := qFz
   have gg1 : ((w9.setCell ⟨w7.heap.size, 0, none⟩ (.slice Ga PC.length Gc)).setCell ⟨w7.heap.size, 1, none⟩ (.slice Gd PE.length Gf)).cell? ⟨w7.heap.size, 1, none⟩ = some (.slice Gd PE.length Gf) := qCl
   have f_gg1 : ((w9.setCell ⟨w7.heap.size, 0, none⟩ (.slice Ga PC.length Gc)).setCell ⟨w7.heap.size, 1, none⟩ (.slice Gd PE.length Gf)).frozen? ⟨w7.heap.size, 1, none⟩ = false := qFz
   have hg1 : w7.heap.size ≤ w7.heap.size := hg
   have KE : Chg w7.heap.size (w7.heap.size + 1) w9 ((w9.setCell ⟨w7.heap.size, 0, none⟩ (.slice Ga PC.length Gc)).setCell ⟨w7.heap.size, 1, none⟩ (.slice Gd PE.length Gf)) := (by repeat (first | (with_reducible exact Chg.refl _ _ _) | (with_reducible refine Chg.setCell ?_ qSo qSo _) | (with_reducible refine Chg.ext ?_ (Ext.alloc (Ext.refl _) _)) | (with_reducible refine Chg.ext ?_ (Ext.drew (Ext.refl _)))))
   replace cb0 := KE.cell (by omega) cb0
   replace cb1 := KE.cell (by omega) cb1
   replace cc30 := KE.cell (by omega) cc30
   replace cc31 := KE.cell (by omega) cc31
   replace cc32 := KE.cell (by omega) cc32
   replace cc33 := KE.cell (by omega) cc33
   replace cc34 := KE.cell (by omega) cc34
   replace r0 := KE.cell (by omega) r0
   replace r1 := KE.cell (by omega) r1
   replace x0 := KE.cell (by omega) x0
   replace x1 := KE.cell (by omega) x1
   replace bG := bG.chg KE (by omega)
   have ke_ := KE.size
   refine hK.out _ _ ⟨cb0, cb1, cc30, cc31, cc32, cc33, cc34, r0, r1, x0, x1⟩ (fun hHeld => ?_)
   clear hK K KE
   try simp only [Act.put, qa, qb, qc, qD, qE, qF]
   refine qHk (v := ?_) 11 rfl (.inl ⟨by rfl, ?_⟩) ?_
   rotate_left
   ·
    (intro w hSw; (try dsimp only at hSw); go_simp; try with_reducible rfl)
   try simp only [Act.put, qa, qb, qc, qD, qE, qF]
   refine wpAnyH_done qKr ?_ _
   clear hHeld
   generalize ((w9.setCell ⟨w7.heap.size, 0, none⟩ (.slice Ga PC.length Gc)).setCell ⟨w7.heap.size, 1, none⟩ (.slice Gd PE.length Gf)) = WE at *
   go_step
   go_step
   go_meet
   case rel => exact ⟨_, _, _, _, _, _, _, _, rfl, rfl, XE, hg1, gg0, gg1, bG, lG, (by omega), (by omega), (by omega)⟩
   try simp only [Act.put, qa, qb, qc, qD, qE, qF]
   go_simp
   refine (toSlice_c sa3 sb3 sc3 sd3 se3 _).mono ?_
   rintro e w8 ⟨rfl, xw8⟩
   have Lw8 : Ext w7 w8 := Ext.trans qXt xw8
   replace cb0 := Lw8.cell cb0
   replace cb1 := Lw8.cell cb1
   replace cc30 := Lw8.cell cc30
   replace cc31 := Lw8.cell cc31
   replace cc32 := Lw8.cell cc32
   replace cc33 := Lw8.cell cc33
   replace cc34 := Lw8.cell cc34
   replace r0 := Lw8.cell r0
   replace r1 := Lw8.cell r1
   replace x0 := Lw8.cell x0
   replace x1 := Lw8.cell x1
   have sz_w8 := Lw8.size
   refine hK.out _ _ ⟨cb0, cb1, cc30, cc31, cc32, cc33, cc34, r0, r1, x0, x1⟩ (fun hHeld => ?_)
   clear hK K
   try simp only [Act.put, qa, qb, qc, qD, qE, qF]
   refine wpAnyH_ready (rs := [5, 9]) qKr (by simp) ?_
   refine AllReadyH.cons rfl (fun K hK => ?_) (AllReadyH.cons rfl (fun K hK => ?_) AllReadyH.nil)
   rotate_left
   try simp only [Act.put, qa, qb, qc, qD, qE, qF]
   go_simp
   refine hK.out _ _ ⟨(show Ext w8 _ from qXt).cell cb0, (show Ext w8 _ from qXt).cell cb1, (show Ext w8 _ from qXt).cell cc30, (show Ext w8 _ from qXt).cell cc31, (show Ext w8 _ from qXt).cell cc32, (show Ext w8 _ from qXt).cell cc33, (show Ext w8 _ from qXt).cell cc34, (show Ext w8 _ from qXt).cell r0, (show Ext w8 _ from qXt).cell r1, (show Ext w8 _ from qXt).cell x0, (show Ext w8 _ from qXt).cell x1⟩ (fun hHeld => ?_)
   clear hK K
   try simp only [Act.put, qa, qb, qc, qD, qE, qF]
   have qa0 : (w8.alloc (.cells #[.slice none 0 0, .slice none 0 0] 32)).cell? ⟨w8.heap.size, 0, none⟩ = some (.slice none 0 0) := qCl
   have qf0 : (w8.alloc (.cells #[.slice none 0 0, .slice none 0 0] 32)).frozen? ⟨w8.heap.size, 0, none⟩ = false := qFz
   have qa1 : (w8.alloc (.cells #[.slice none 0 0, .slice none 0 0] 32)).cell? ⟨w8.heap.size, 1, none⟩ = some (.slice none 0 0) := qCl
   have qf1 : (w8.alloc (.cells #[.slice none 0 0, .slice none 0 0] 32)).frozen? ⟨w8.heap.size, 1, none⟩ = false := qFz
   have zg : w8.heap.size < (w8.alloc (.cells #[.slice none 0 0, .slice none 0 0] 32)).heap.size := qB qa0
   have hg : w7.heap.size ≤ w8.heap.size := (Lw8).size
   refine qHr 5 rfl (fun K hK => ?_)
   have zp := zg
   try simp only [Act.put, qa, qb, qc, qD, qE, qF]
   go_simp
   refine (pbx_eq hP.out (implExportPart_c cells es _ _ i1 i2 sa3 sb3 sc3 sd3 se3 _ _ _ (bX.ints.ext (Lw8.trans qXt)) (bX.exps.ext (Lw8.trans qXt)))).mono ?_
   rintro e w9 ⟨G1, G2, RG, rfl, bG, xw9⟩
   have Lw9 : Ext w8 w9 := Ext.trans qXt xw9
   replace cb0 := Lw9.cell cb0
   replace cb1 := Lw9.cell cb1
   replace cc30 := Lw9.cell cc30
   replace cc31 := Lw9.cell cc31
   replace cc32 := Lw9.cell cc32
   replace cc33 := Lw9.cell cc33
   replace cc34 := Lw9.cell cc34
   replace r0 := Lw9.cell r0
   replace r1 := Lw9.cell r1
   replace x0 := Lw9.cell x0
   replace x1 := Lw9.cell x1
   have sz_w9 := Lw9.size
   try simp only [World.size_alloc, World.size_drew] at bG
   obtain ⟨Ga, Gc, rfl⟩ := bG.ints.form
   obtain ⟨Gd, Gf, rfl⟩ := bG.exps.form
   have lG := bG.below
   replace qa0 := xw9.cell qa0
   replace qf0 := xw9.frz zg qf0
   replace qa1 := xw9.cell qa1
   replace qf1 := xw9.frz zg qf1
   replace zg := Nat.lt_of_lt_of_le zg xw9.size
   refine hK.out _ _ ⟨cb0, cb1, cc30, cc31, cc32, cc33, cc34, r0, r1, x0, x1⟩ (fun hHeld => ?_)
   clear hK K
   try simp only [Act.put, qa, qb, qc, qD, qE, qF]
   refine qHk (v := ?_) 6 rfl (.inl ⟨by rfl, ?_⟩) ?_
   rotate_left
   ·
    (intro w hSw; (try dsimp only at hSw); go_simp; try with_reducible rfl)
   try simp only [Act.put, qa, qb, qc, qD, qE, qF]
   refine qHk (v := ?_) 7 rfl (.inl ⟨by rfl, ?_⟩) ?_
   rotate_left
   ·
    (intro w hSw; (try dsimp only at hSw); go_simp; try with_reducible rfl)
   try simp only [Act.put, qa, qb, qc, qD, qE, qF]
   refine qHk (v := ?_) 8 rfl (.inl ⟨by rfl, ?_⟩) ?_
   rotate_left
   ·
    (intro w hSw; (try dsimp only at hSw); go_simp; try with_reducible rfl)
   try simp only [Act.put, qa, qb, qc, qD, qE, qF]
   refine qHr 10 rfl (fun K hK => ?_)
   try simp only [Act.put, qa, qb, qc, qD, qE, qF]
   go_simp
   have XE : Ext w7 ((w9.setCell ⟨w8.heap.size, 0, none⟩ (.slice Ga PC.length Gc)).setCell ⟨w8.heap.size, 1, none⟩ (.slice Gd PE.length Gf)) := (Ext.setCell (Ext.setCell (Lw8.trans Lw9) hg _) hg _)
   have gg0 : ((w9.setCell ⟨w8.heap.size, 0, none⟩ (.slice Ga PC.length Gc)).setCell ⟨w8.heap.size, 1, none⟩ (.slice Gd PE.length Gf)).cell? ⟨w8.heap.size, 0, none⟩ = some (.slice Ga PC.length Gc) := qCl
   have f_gg0 : ((w9.setCell ⟨w8.heap.size, 0, none⟩ (.slice Ga PC.length Gc)).setCell ⟨w8.heap.size, 1, none⟩ (.slice Gd PE.length Gf)).frozen? ⟨w8.heap.size, 0, none⟩ = false := qFz
   have gg1 : ((w9.setCell ⟨w8.heap.size, 0, none⟩ (.slice Ga PC.length Gc)).setCell ⟨w8.heap.size, 1, none⟩ (.slice Gd PE.length Gf)).cell? ⟨w8.heap.size, 1, none⟩ = some (.slice Gd PE.length Gf) := qCl
   have f_gg1 : ((w9.setCell ⟨w8.heap.size, 0, none⟩ (.slice Ga PC.length Gc)).setCell ⟨w8.heap.size, 1, none⟩ (.slice Gd PE.length Gf)).frozen? ⟨w8.heap.size, 1, none⟩ = false := qFz
   have hg1 : w7.heap.size ≤ w8.heap.size := hg
   have KE : Chg w8.heap.size (w8.heap.size + 1) w9 ((w9.setCell ⟨w8.heap.size, 0, none⟩ (.slice Ga PC.length Gc)).setCell ⟨w8.heap.size, 1, none⟩ (.slice Gd PE.length Gf)) := (by repeat (first | (with_reducible exact Chg.refl _ _ _) | (with_reducible refine Chg.setCell ?_ qSo qSo _) | (with_reducible refine Chg.ext ?_ (Ext.alloc (Ext.refl _) _)) | (with_reducible refine Chg.ext ?_ (Ext.drew (Ext.refl _)))))
   replace cb0 := KE.cell (by omega) cb0
   replace cb1 := KE.cell (by omega) cb1
   replace cc30 := KE.cell (by omega) cc30
   replace cc31 := KE.cell (by omega) cc31
   replace cc32 := KE.cell (by omega) cc32
   replace cc33 := KE.cell (by omega) cc33
   replace cc34 := KE.cell (by omega) cc34
   replace r0 := KE.cell (by omega) r0
   replace r1 := KE.cell (by omega) r1
   replace x0 := KE.cell (by omega) x0
   replace x1 := KE.cell (by omega) x1
   replace bG := bG.chg KE (by omega)
   have ke_ := KE.size
   refine hK.out _ _ ⟨cb0, cb1, cc30, cc31, cc32, cc33, cc34, r0, r1, x0, x1⟩ (fun hHeld => ?_)
   clear hK K KE
   try simp only [Act.put, qa, qb, qc, qD, qE, qF]
   refine qHk (v := ?_) 11 rfl (.inl ⟨by rfl, ?_⟩) ?_
   rotate_left
   ·
    (intro w hSw; (try dsimp only at hSw); go_simp; try with_reducible rfl)
   try simp only [Act.put, qa, qb, qc, qD, qE, qF]
   refine wpAnyH_done qKr ?_ _
   clear hHeld
   generalize ((w9.setCell ⟨w8.heap.size, 0, none⟩ (.slice Ga PC.length Gc)).setCell ⟨w8.heap.size, 1, none⟩ (.slice Gd PE.length Gf)) = WE at *
   go_step
   go_step
   go_meet
   case rel => exact ⟨_, _, _, _, _, _, _, _, rfl, rfl, XE, hg1, gg0, gg1, bG, lG, (by omega), (by omega), (by omega)⟩
   try simp only [Act.put, qa, qb, qc, qD, qE, qF]
   go_simp
   refine (pbx_eq hP.out (implExportPart_c cells es _ _ i1 i2 sa3 sb3 sc3 sd3 se3 _ _ _ (bX.ints.ext (Lw8.trans qXt)) (bX.exps.ext (Lw8.trans qXt)))).mono ?_
   rintro e w9 ⟨G1, G2, RG, rfl, bG, xw9⟩
   have Lw9 : Ext w8 w9 := Ext.trans qXt xw9
   replace cb0 := Lw9.cell cb0
   replace cb1 := Lw9.cell cb1
   replace cc30 := Lw9.cell cc30
   replace cc31 := Lw9.cell cc31
   replace cc32 := Lw9.cell cc32
   replace cc33 := Lw9.cell cc33
   replace cc34 := Lw9.cell cc34
   replace r0 := Lw9.cell r0
   replace r1 := Lw9.cell r1
   replace x0 := Lw9.cell x0
   replace x1 := Lw9.cell x1
   have sz_w9 := Lw9.size
   try simp only [World.size_alloc, World.size_drew] at bG
   obtain ⟨Ga, Gc, rfl⟩ := bG.ints.form
   obtain ⟨Gd, Gf, rfl⟩ := bG.exps.form
   have lG := bG.below
   refine hK.out _ _ ⟨cb0, cb1, cc30, cc31, cc32, cc33, cc34, r0, r1, x0, x1⟩ (fun hHeld => ?_)
   clear hK K
   try simp only [Act.put, qa, qb, qc, qD, qE, qF]
   refine qHk (v := ?_) 6 rfl (.inl ⟨by rfl, ?_⟩) ?_
   rotate_left
   ·
    (intro w hSw; (try dsimp only at hSw); go_simp; try with_reducible rfl)
   try simp only [Act.put, qa, qb, qc, qD, qE, qF]
   refine qHk (v := ?_) 7 rfl (.inl ⟨by rfl, ?_⟩) ?_
   rotate_left
   ·
    (intro w hSw; (try dsimp only at hSw); go_simp; try with_reducible rfl)
   try simp only [Act.put, qa, qb, qc, qD, qE, qF]
   refine qHk (v := ?_) 8 rfl (.inl ⟨by rfl, ?_⟩) ?_
   rotate_left
   ·
    (intro w hSw; (try dsimp only at hSw); go_simp; try with_reducible rfl)
   try simp only [Act.put, qa, qb, qc, qD, qE, qF]
   refine qHr 9 rfl (fun K hK => ?_)
   try simp only [Act.put, qa, qb, qc, qD, qE, qF]
   go_simp
   refine hK.out _ _ ⟨(show Ext w9 _ from qXt).cell cb0, (show Ext w9 _ from qXt).cell cb1, (show Ext w9 _ from qXt).cell cc30, (show Ext w9 _ from qXt).cell cc31, (show Ext w9 _ from qXt).cell cc32, (show Ext w9 _ from qXt).cell cc33, (show Ext w9 _ from qXt).cell cc34, (show Ext w9 _ from qXt).cell r0, (show Ext w9 _ from qXt).cell r1, (show Ext w9 _ from qXt).cell x0, (show Ext w9 _ from qXt).cell x1⟩ (fun hHeld => ?_)
   clear hK K
   try simp only [Act.put, qa, qb, qc, qD, qE, qF]
   refine qHr 10 rfl (fun K hK => ?_)
   try simp only [Act.put, qa, qb, qc, qD, qE, qF]
   go_simp
   have XE : Ext w7 (w9.alloc (.cells #[.slice Ga PC.length Gc, .slice Gd PE.length Gf] 32)) := (Lw8.trans Lw9).trans qXo
   have gg0 : (w9.alloc (.cells #[.slice Ga PC.length Gc, .slice Gd PE.length Gf] 32)).cell? ⟨w9.heap.size, 0, none⟩ = some (.slice Ga PC.length Gc) := qCl
   have f_gg0 : (w9.alloc (.cells #[.slice Ga PC.length Gc, .slice Gd PE.length Gf] 32)).frozen? ⟨w9.heap.size, 0, none⟩ = false := qFz
   have gg1 : (w9.alloc (.cells #[.slice Ga PC.length Gc, .slice Gd PE.length Gf] 32)).cell? ⟨w9.heap.size, 1, none⟩ = some (.slice Gd PE.length Gf) := qCl
   have f_gg1 : (w9.alloc (.cells #[.slice Ga PC.length Gc, .slice Gd PE.length Gf] 32)).frozen? ⟨w9.heap.size, 1, none⟩ = false := qFz
   have hg1 : w7.heap.size ≤ w9.heap.size := (Lw8.trans Lw9).size
   have KE : Ext w9 (w9.alloc (.cells #[.slice Ga PC.length Gc, .slice Gd PE.length Gf] 32)) := qXo
   replace cb0 := KE.cell cb0
   replace cb1 := KE.cell cb1
   replace cc30 := KE.cell cc30
   replace cc31 := KE.cell cc31
   replace cc32 := KE.cell cc32
   replace cc33 := KE.cell cc33
   replace cc34 := KE.cell cc34
   replace r0 := KE.cell r0
   replace r1 := KE.cell r1
   replace x0 := KE.cell x0
   replace x1 := KE.cell x1
   replace bG := bG.ext KE
   have ke_ := KE.size
   refine hK.out _ _ ⟨cb0, cb1, cc30, cc31, cc32, cc33, cc34, r0, r1, x0, x1⟩ (fun hHeld => ?_)
   clear hK K KE
   try simp only [Act.put, qa, qb, qc, qD, qE, qF]
   refine qHk (v := ?_) 11 rfl (.inl ⟨by rfl, ?_⟩) ?_
   rotate_left
   ·
    (intro w hSw; (try dsimp only at hSw); go_simp; try with_reducible rfl)
   try simp only [Act.put, qa, qb, qc, qD, qE, qF]
   refine wpAnyH_done qKr ?_ _
   clear hHeld
   generalize (w9.alloc (.cells #[.slice Ga PC.length Gc, .slice Gd PE.length Gf] 32)) = WE at *
   go_step
   go_step
   go_meet
   case rel => exact ⟨_, _, _, _, _, _, _, _, rfl, rfl, XE, hg1, gg0, gg1, bG, lG, (by omega), (by omega), (by omega)⟩
  case rest =>
   generalize wc = w10 at hcut ⊢
   obtain ⟨gX, Ga, Gc, Gd, Gf, RG, gl, gh, rfl, rfl, xw10, hg_gg, gg0, gg1, bG, lG, hgl1, hgl2, hgl3⟩ := hcut
   have Lw10 : Ext w7 w10 := xw10
   replace cb0 := Lw10.cell cb0
   replace cb1 := Lw10.cell cb1
   replace cc30 := Lw10.cell cc30
   replace cc31 := Lw10.cell cc31
   replace cc32 := Lw10.cell cc32
   replace cc33 := Lw10.cell cc33
   replace cc34 := Lw10.cell cc34
   replace r0 := Lw10.cell r0
   replace r1 := Lw10.cell r1
   replace x0 := Lw10.cell x0
   replace x1 := Lw10.cell x1
   replace bX := bX.ext Lw10
   replace X := X.trans Lw10
   replace EW := EW.trans Lw10
   have z13 : w.heap.size < w10.heap.size := qB cb0
   have z14 : w.heap.size + 1 < w10.heap.size := qB cc30
   have z15 : gW < w10.heap.size := qB r0
   have z16 : w6.heap.size < w10.heap.size := qB x0
   have z17 : gX < w10.heap.size := qB gg0
   have sw10 : w7.heap.size ≤ w10.heap.size := Lw10.size
   clear Lw10 xw10
   go_wp2_with fail
   refine (eqBuffer_c PC PE _ _ _ _ _ _ _ _ _ (bG.ints.ext qXt) (bG.exps.ext qXt) ((iW.ext EW).ints.ext qXt) ((iW.ext EW).exps.ext qXt)).mono ?_
   rintro e w11 ⟨rfl, xw11⟩
   have Lw11 : Ext w10 w11 := Ext.trans qXt xw11
   replace cb0 := Lw11.cell cb0
   replace cb1 := Lw11.cell cb1
   replace cc30 := Lw11.cell cc30
   replace cc31 := Lw11.cell cc31
   replace cc32 := Lw11.cell cc32
   replace cc33 := Lw11.cell cc33
   replace cc34 := Lw11.cell cc34
   replace r0 := Lw11.cell r0
   replace r1 := Lw11.cell r1
   replace x0 := Lw11.cell x0
   replace x1 := Lw11.cell x1
   replace gg0 := Lw11.cell gg0
   replace gg1 := Lw11.cell gg1
   replace bX := bX.ext Lw11
   replace bG := bG.ext Lw11
   replace X := X.trans Lw11
   replace EW := EW.trans Lw11
   have z18 : w.heap.size < w11.heap.size := qB cb0
   have z19 : w.heap.size + 1 < w11.heap.size := qB cc30
   have z20 : gW < w11.heap.size := qB r0
   have z21 : w6.heap.size < w11.heap.size := qB x0
   have z22 : gX < w11.heap.size := qB gg0
   have sw11 : w10.heap.size ≤ w11.heap.size := Lw11.size
   clear Lw11
   clear xw11
   go_wp2_with fail
   go_region_held3 (fun w' => w'.cell? ⟨w.heap.size, 0, none⟩ = some (.slice ac cells.length cc) ∧ w'.cell? ⟨w.heap.size, 1, none⟩ = some (.slice ae es.length ce) ∧ w'.cell? ⟨w.heap.size + 1, 0, none⟩ = some (.int .i64 sa3) ∧ w'.cell? ⟨w.heap.size + 1, 1, none⟩ = some (.int .i64 sb3) ∧ w'.cell? ⟨w.heap.size + 1, 2, none⟩ = some (.int .i64 sc3) ∧ w'.cell? ⟨w.heap.size + 1, 3, none⟩ = some (.bool sd3) ∧ w'.cell? ⟨w.heap.size + 1, 4, none⟩ = some (.bool se3) ∧ w'.cell? ⟨gW, 0, none⟩ = some (.slice Wa PC.length Wc) ∧ w'.cell? ⟨gW, 1, none⟩ = some (.slice Wd PE.length Wf) ∧ w'.cell? ⟨w6.heap.size, 0, none⟩ = some (.slice Xa cells.length Xc) ∧ w'.cell? ⟨w6.heap.size, 1, none⟩ = some (.slice Xd es.length Xf) ∧ w'.cell? ⟨gX, 0, none⟩ = some (.slice Ga PC.length Gc) ∧ w'.cell? ⟨gX, 1, none⟩ = some (.slice Gd PE.length Gf))
    (first
     | go_keep
     | exact ⟨Yw13.cell cb0, Yw13.cell cb1, Yw13.cell cc30, Yw13.cell cc31, Yw13.cell cc32, Yw13.cell cc33, Yw13.cell cc34, Yw13.cell r0, Yw13.cell r1, Yw13.cell x0, Yw13.cell x1, Yw13.cell gg0, Yw13.cell gg1⟩
     | exact ⟨Yw12.cell cb0, Yw12.cell cb1, Yw12.cell cc30, Yw12.cell cc31, Yw12.cell cc32, Yw12.cell cc33, Yw12.cell cc34, Yw12.cell r0, Yw12.cell r1, Yw12.cell x0, Yw12.cell x1, Yw12.cell gg0, Yw12.cell gg1⟩)
    (first
     | (go_at_call 19; refine (eqBuffer_c cells es _ _ _ _ _ _ _ _ _ (bX.ints.ext (Yw12.trans qXo)) (bX.exps.ext (Yw12.trans qXo)) (bu.ints.ext qXo) (bu.exps.ext qXo)).mono ?_; rintro e w13 ⟨rfl, xw13⟩; have Yw13 : Ext w11 w13 := Yw12.trans (Ext.trans qXo xw13); replace bu := bu.ext (Ext.trans qXo xw13))
     | (go_at_call 16; refine (toBuffer_c cells es _ _ _ _ _ (hc.ext (X.trans qXo)) (he.ext (X.trans qXo)) (by omega) (by omega) hm.out).mono ?_; rintro e w12 ⟨uu, vu, Ru, rfl, bu, xw12⟩; have Yw12 : Ext w11 w12 := Ext.trans qXo xw12))
   have Lw13 : Ext w11 w13 := Yw13
   replace cb0 := Lw13.cell cb0
   replace cb1 := Lw13.cell cb1
   replace cc30 := Lw13.cell cc30
   replace cc31 := Lw13.cell cc31
   replace cc32 := Lw13.cell cc32
   replace cc33 := Lw13.cell cc33
   replace cc34 := Lw13.cell cc34
   replace r0 := Lw13.cell r0
   replace r1 := Lw13.cell r1
   replace x0 := Lw13.cell x0
   replace x1 := Lw13.cell x1
   replace gg0 := Lw13.cell gg0
   replace gg1 := Lw13.cell gg1
   replace bX := bX.ext Lw13
   replace bG := bG.ext Lw13
   replace X := X.trans Lw13
   replace EW := EW.trans Lw13
   have z23 : w.heap.size < w13.heap.size := qB cb0
   have z24 : w.heap.size + 1 < w13.heap.size := qB cc30
   have z25 : gW < w13.heap.size := qB r0
   have z26 : w6.heap.size < w13.heap.size := qB x0
   have z27 : gX < w13.heap.size := qB gg0
   have sw13 : w11.heap.size ≤ w13.heap.size := Lw13.size
   clear bu
   go_wp2_with fail
   refine (markBuffer_c cells es _ 1 _ _ _ (w5.heap.size) (w6.heap.size) (bX.ext qXt) lX (Nat.le_trans (by omega) (Ext.size (show Ext w13 _ from qXt))) (by omega) (by rw [hK1.out]; omega)).mono ?_
   rintro e w14 ⟨rfl, -, kw14⟩
   have Kw14 : Chg (w5.heap.size) (w6.heap.size) w13 w14 := (Chg.of_ext qXt).trans kw14
   have sw14 : w13.heap.size ≤ w14.heap.size := Kw14.size
   replace X := Ext.chg X Kw14 (by omega)
   replace EW := Ext.chg EW Kw14 (by omega)
   replace cb0 := Kw14.cell (by first | (left; omega) | (right; omega) | omega) cb0
   replace cb1 := Kw14.cell (by first | (left; omega) | (right; omega) | omega) cb1
   replace cc30 := Kw14.cell (by first | (left; omega) | (right; omega) | omega) cc30
   replace cc31 := Kw14.cell (by first | (left; omega) | (right; omega) | omega) cc31
   replace cc32 := Kw14.cell (by first | (left; omega) | (right; omega) | omega) cc32
   replace cc33 := Kw14.cell (by first | (left; omega) | (right; omega) | omega) cc33
   replace cc34 := Kw14.cell (by first | (left; omega) | (right; omega) | omega) cc34
   replace r0 := Kw14.cell (by first | (left; omega) | (right; omega) | omega) r0
   replace r1 := Kw14.cell (by first | (left; omega) | (right; omega) | omega) r1
   replace x0 := Kw14.cell (by first | (left; omega) | (right; omega) | omega) x0
   replace x1 := Kw14.cell (by first | (left; omega) | (right; omega) | omega) x1
   replace gg0 := Kw14.cell (by first | (left; omega) | (right; omega) | omega) gg0
   replace gg1 := Kw14.cell (by first | (left; omega) | (right; omega) | omega) gg1
   replace bG := bG.chg Kw14 (by omega)
   have z28 : w.heap.size < w14.heap.size := qB cb0
   have z29 : w.heap.size + 1 < w14.heap.size := qB cc30
   have z30 : gW < w14.heap.size := qB r0
   have z31 : w6.heap.size < w14.heap.size := qB x0
   have z32 : gX < w14.heap.size := qB gg0
   clear Kw14 kw14
   clear bX
   rw [hK1.out]
   go_wp2_with fail
   refine (eqBuffer_c PC PE _ _ _ _ _ _ _ _ _ (bG.ints.ext qXt) (bG.exps.ext qXt) ((iW.ext EW).ints.ext qXt) ((iW.ext EW).exps.ext qXt)).mono ?_
   rintro e w15 ⟨rfl, xw15⟩
   have Lw15 : Ext w14 w15 := Ext.trans qXt xw15
   replace cb0 := Lw15.cell cb0
   replace cb1 := Lw15.cell cb1
   replace cc30 := Lw15.cell cc30
   replace cc31 := Lw15.cell cc31
   replace cc32 := Lw15.cell cc32
   replace cc33 := Lw15.cell cc33
   replace cc34 := Lw15.cell cc34
   replace r0 := Lw15.cell r0
   replace r1 := Lw15.cell r1
   replace x0 := Lw15.cell x0
   replace x1 := Lw15.cell x1
   replace gg0 := Lw15.cell gg0
   replace gg1 := Lw15.cell gg1
   replace bG := bG.ext Lw15
   replace X := X.trans Lw15
   replace EW := EW.trans Lw15
   have z33 : w.heap.size < w15.heap.size := qB cb0
   have z34 : w.heap.size + 1 < w15.heap.size := qB cc30
   have z35 : gW < w15.heap.size := qB r0
   have z36 : w6.heap.size < w15.heap.size := qB x0
   have z37 : gX < w15.heap.size := qB gg0
   have sw15 : w14.heap.size ≤ w15.heap.size := Lw15.size
   clear Lw15
   clear xw15
   go_wp2_with fail
   refine (markBuffer_c PC PE _ 1 _ _ _ (gl) (gh) (bG.ext qXt) lG (Nat.le_trans (by omega) (Ext.size (show Ext w15 _ from qXt))) (by omega) (by rw [hK2.out]; omega)).mono ?_
   rintro e w16 ⟨rfl, bH, kw16⟩
   have Kw16 : Chg (gl) (gh) w15 w16 := (Chg.of_ext qXt).trans kw16
   have sw16 : w15.heap.size ≤ w16.heap.size := Kw16.size
   replace X := Ext.chg X Kw16 (by omega)
   replace EW := Ext.chg EW Kw16 (by omega)
   replace cb0 := Kw16.cell (by first | (left; omega) | (right; omega) | omega) cb0
   replace cb1 := Kw16.cell (by first | (left; omega) | (right; omega) | omega) cb1
   replace cc30 := Kw16.cell (by first | (left; omega) | (right; omega) | omega) cc30
   replace cc31 := Kw16.cell (by first | (left; omega) | (right; omega) | omega) cc31
   replace cc32 := Kw16.cell (by first | (left; omega) | (right; omega) | omega) cc32
   replace cc33 := Kw16.cell (by first | (left; omega) | (right; omega) | omega) cc33
   replace cc34 := Kw16.cell (by first | (left; omega) | (right; omega) | omega) cc34
   replace r0 := Kw16.cell (by first | (left; omega) | (right; omega) | omega) r0
   replace r1 := Kw16.cell (by first | (left; omega) | (right; omega) | omega) r1
   replace x0 := Kw16.cell (by first | (left; omega) | (right; omega) | omega) x0
   replace x1 := Kw16.cell (by first | (left; omega) | (right; omega) | omega) x1
   replace gg0 := Kw16.cell (by first | (left; omega) | (right; omega) | omega) gg0
   replace gg1 := Kw16.cell (by first | (left; omega) | (right; omega) | omega) gg1
   have z38 : w.heap.size < w16.heap.size := qB cb0
   have z39 : w.heap.size + 1 < w16.heap.size := qB cc30
   have z40 : gW < w16.heap.size := qB r0
   have z41 : w6.heap.size < w16.heap.size := qB x0
   have z42 : gX < w16.heap.size := qB gg0
   clear Kw16 kw16
   clear bG
   rw [hK2.out]
   go_wp2_with fail
   refine (heldBuffer_c PC.length PE 1 _ _ _ _ _ (bH.ints.ext qXt) (bH.exps.ext qXt) (fun i hi => by have := hSr.out i hi; omega) (by omega) (by rw [hK2.out]; omega)).mono ?_
   rintro e w17 ⟨rfl, xw17⟩
   have Lw17 : Ext w16 w17 := Ext.trans qXt xw17
   replace cb0 := Lw17.cell cb0
   replace cb1 := Lw17.cell cb1
   replace cc30 := Lw17.cell cc30
   replace cc31 := Lw17.cell cc31
   replace cc32 := Lw17.cell cc32
   replace cc33 := Lw17.cell cc33
   replace cc34 := Lw17.cell cc34
   replace r0 := Lw17.cell r0
   replace r1 := Lw17.cell r1
   replace x0 := Lw17.cell x0
   replace x1 := Lw17.cell x1
   replace gg0 := Lw17.cell gg0
   replace gg1 := Lw17.cell gg1
   replace bH := bH.ext Lw17
   replace X := X.trans Lw17
   replace EW := EW.trans Lw17
   have z43 : w.heap.size < w17.heap.size := qB cb0
   have z44 : w.heap.size + 1 < w17.heap.size := qB cc30
   have z45 : gW < w17.heap.size := qB r0
   have z46 : w6.heap.size < w17.heap.size := qB x0
   have z47 : gX < w17.heap.size := qB gg0
   have sw17 : w16.heap.size ≤ w17.heap.size := Lw17.size
   clear Lw17
   clear xw17
   rw [hK2.out]
   go_wp2_with fail
   go_cut [18, 19] (fun s0 s1 wx => ∃ (gZ : Nat) (Ha : Option Addr) (Hc : Nat) (Hd : Option Addr) (Hf : Nat) (RH : Nat → Value), s0 = .pointer (some ⟨gZ, 0, none⟩) ∧ s1 = .bool true ∧ Ext w17 wx ∧ w17.heap.size ≤ gZ ∧ wx.cell? ⟨gZ, 0, none⟩ = some (.slice Ha PC.length Hc) ∧ wx.cell? ⟨gZ, 1, none⟩ = some (.slice Hd PE.length Hf) ∧ BufR wx 0 (.slice Ha PC.length Hc) (.slice Hd PE.length Hf) PC PE RH)
   case first =>
    refine wp_region_held_drew (S := fun w' => w'.cell? ⟨w.heap.size, 0, none⟩ = some (.slice ac cells.length cc) ∧ w'.cell? ⟨w.heap.size, 1, none⟩ = some (.slice ae es.length ce) ∧ w'.cell? ⟨w.heap.size + 1, 0, none⟩ = some (.int .i64 sa3) ∧ w'.cell? ⟨w.heap.size + 1, 1, none⟩ = some (.int .i64 sb3) ∧ w'.cell? ⟨w.heap.size + 1, 2, none⟩ = some (.int .i64 sc3) ∧ w'.cell? ⟨w.heap.size + 1, 3, none⟩ = some (.bool sd3) ∧ w'.cell? ⟨w.heap.size + 1, 4, none⟩ = some (.bool se3) ∧ w'.cell? ⟨gW, 0, none⟩ = some (.slice Wa PC.length Wc) ∧ w'.cell? ⟨gW, 1, none⟩ = some (.slice Wd PE.length Wf) ∧ w'.cell? ⟨w6.heap.size, 0, none⟩ = some (.slice Xa cells.length Xc) ∧ w'.cell? ⟨w6.heap.size, 1, none⟩ = some (.slice Xd es.length Xf) ∧ w'.cell? ⟨gX, 0, none⟩ = some (.slice Ga PC.length Gc) ∧ w'.cell? ⟨gX, 1, none⟩ = some (.slice Gd PE.length Gf)) qKr ⟨cb0, cb1, cc30, cc31, cc32, cc33, cc34, r0, r1, x0, x1, gg0, gg1⟩ (fun hHeld => ?_)
    refine qHk (v := ?_) 0 rfl (.inl ⟨by rfl, ?_⟩) ?_
    rotate_left
    ·
     (intro w hSw; (try dsimp only at hSw); go_simp; try with_reducible rfl)
    try simp only [Act.put, qa, qb, qc, qD, qE, qF]
    refine qHk (v := ?_) 2 rfl (.inl ⟨by rfl, ?_⟩) ?_
    rotate_left
    ·
     (intro w hSw; (try dsimp only at hSw); go_simp; try with_reducible rfl)
    try simp only [Act.put, qa, qb, qc, qD, qE, qF]
    refine qHk (v := ?_) 3 rfl (.inl ⟨by rfl, ?_⟩) ?_
    rotate_left
    ·
     (intro w hSw; (try dsimp only at hSw); go_simp; try with_reducible rfl)
    try simp only [Act.put, qa, qb, qc, qD, qE, qF]
    refine qHk (v := ?_) 4 rfl (.inl ⟨by rfl, ?_⟩) ?_
    rotate_left
    ·
     (intro w hSw; (try dsimp only at hSw); go_simp; try with_reducible rfl)
    try simp only [Act.put, qa, qb, qc, qD, qE, qF]
    refine wpAnyH_ready (rs := [1, 10]) qKr (by simp) ?_
    refine AllReadyH.cons rfl (fun K hK => ?_) (AllReadyH.cons rfl (fun K hK => ?_) AllReadyH.nil)
    rotate_left
    try simp only [Act.put, qa, qb, qc, qD, qE, qF]
    go_simp
    refine hK.out _ _ ⟨(show Ext w17 _ from qXt).cell cb0, (show Ext w17 _ from qXt).cell cb1, (show Ext w17 _ from qXt).cell cc30, (show Ext w17 _ from qXt).cell cc31, (show Ext w17 _ from qXt).cell cc32, (show Ext w17 _ from qXt).cell cc33, (show Ext w17 _ from qXt).cell cc34, (show Ext w17 _ from qXt).cell r0, (show Ext w17 _ from qXt).cell r1, (show Ext w17 _ from qXt).cell x0, (show Ext w17 _ from qXt).cell x1, (show Ext w17 _ from qXt).cell gg0, (show Ext w17 _ from qXt).cell gg1⟩ (fun hHeld => ?_)
    clear hK K
    try simp only [Act.put, qa, qb, qc, qD, qE, qF]
    have qa0 : (w17.drew.alloc (.cells #[.slice none 0 0, .slice none 0 0] 32)).cell? ⟨w17.heap.size, 0, none⟩ = some (.slice none 0 0) := qCl
    have qf0 : (w17.drew.alloc (.cells #[.slice none 0 0, .slice none 0 0] 32)).frozen? ⟨w17.heap.size, 0, none⟩ = false := qFz
    have qa1 : (w17.drew.alloc (.cells #[.slice none 0 0, .slice none 0 0] 32)).cell? ⟨w17.heap.size, 1, none⟩ = some (.slice none 0 0) := qCl
    have qf1 : (w17.drew.alloc (.cells #[.slice none 0 0, .slice none 0 0] 32)).frozen? ⟨w17.heap.size, 1, none⟩ = false := qFz
    have zg : w17.heap.size < (w17.drew.alloc (.cells #[.slice none 0 0, .slice none 0 0] 32)).heap.size := qB qa0
    have hg : w17.heap.size ≤ w17.heap.size := Nat.le_refl _
    refine qHr 1 rfl (fun K hK => ?_)
    have zp := zg
    try simp only [Act.put, qa, qb, qc, qD, qE, qF]
    go_simp
    refine (toBuffer_c cells es _ _ _ _ _ (hc.ext (X.trans qXt)) (he.ext (X.trans qXt)) (by omega) (by omega) hm.out).mono ?_
    rintro e w18 ⟨uZ, vZ, RZ, rfl, bZ, xw18⟩
    have Lw18 : Ext w17 w18 := Ext.trans qXt xw18
    replace cb0 := Lw18.cell cb0
    replace cb1 := Lw18.cell cb1
    replace cc30 := Lw18.cell cc30
    replace cc31 := Lw18.cell cc31
    replace cc32 := Lw18.cell cc32
    replace cc33 := Lw18.cell cc33
    replace cc34 := Lw18.cell cc34
    replace r0 := Lw18.cell r0
    replace r1 := Lw18.cell r1
    replace x0 := Lw18.cell x0
    replace x1 := Lw18.cell x1
    replace gg0 := Lw18.cell gg0
    replace gg1 := Lw18.cell gg1
    have sz_w18 := Lw18.size
    replace qa0 := xw18.cell qa0
    replace qf0 := xw18.frz zg qf0
    replace qa1 := xw18.cell qa1
    replace qf1 := xw18.frz zg qf1
    replace zg := Nat.lt_of_lt_of_le zg xw18.size
    refine hK.out _ _ ⟨cb0, cb1, cc30, cc31, cc32, cc33, cc34, r0, r1, x0, x1, gg0, gg1⟩ (fun hHeld => ?_)
    clear hK K
    try simp only [Act.put, qa, qb, qc, qD, qE, qF]
    refine qHr 5 rfl (fun K hK => ?_)
    have zp := zg
    try simp only [Act.put, qa, qb, qc, qD, qE, qF]
    go_simp
    refine (toSlice_c sa3 sb3 sc3 sd3 se3 _).mono ?_
    rintro e w19 ⟨rfl, xw19⟩
    have Lw19 : Ext w18 w19 := Ext.trans qXt xw19
    replace cb0 := Lw19.cell cb0
    replace cb1 := Lw19.cell cb1
    replace cc30 := Lw19.cell cc30
    replace cc31 := Lw19.cell cc31
    replace cc32 := Lw19.cell cc32
    replace cc33 := Lw19.cell cc33
    replace cc34 := Lw19.cell cc34
    replace r0 := Lw19.cell r0
    replace r1 := Lw19.cell r1
    replace x0 := Lw19.cell x0
    replace x1 := Lw19.cell x1
    replace gg0 := Lw19.cell gg0
    replace gg1 := Lw19.cell gg1
    replace bZ := bZ.ext Lw19
    have sz_w19 := Lw19.size
    replace qa0 := xw19.cell qa0
    replace qf0 := xw19.frz zg qf0
    replace qa1 := xw19.cell qa1
    replace qf1 := xw19.frz zg qf1
    replace zg := Nat.lt_of_lt_of_le zg xw19.size
    refine hK.out _ _ ⟨cb0, cb1, cc30, cc31, cc32, cc33, cc34, r0, r1, x0, x1, gg0, gg1⟩ (fun hHeld => ?_)
    clear hK K
    try simp only [Act.put, qa, qb, qc, qD, qE, qF]
    refine qHr 6 rfl (fun K hK => ?_)
    have zp := zg
    try simp only [Act.put, qa, qb, qc, qD, qE, qF]
    go_simp
    refine (pbx_eq hP.out (implExportPart_c cells es _ _ i1 i2 sa3 sb3 sc3 sd3 se3 _ _ _ (bZ.ints.ext qXt) (bZ.exps.ext qXt))).mono ?_
    rintro e w20 ⟨H1, H2, RH, rfl, iH, xw20⟩
    have Lw20 : Ext w19 w20 := Ext.trans qXt xw20
    replace cb0 := Lw20.cell cb0
    replace cb1 := Lw20.cell cb1
    replace cc30 := Lw20.cell cc30
    replace cc31 := Lw20.cell cc31
    replace cc32 := Lw20.cell cc32
    replace cc33 := Lw20.cell cc33
    replace cc34 := Lw20.cell cc34
    replace r0 := Lw20.cell r0
    replace r1 := Lw20.cell r1
    replace x0 := Lw20.cell x0
    replace x1 := Lw20.cell x1
    replace gg0 := Lw20.cell gg0
    replace gg1 := Lw20.cell gg1
    replace bZ := bZ.ext Lw20
    have sz_w20 := Lw20.size
    try simp only [World.size_alloc, World.size_drew] at iH
    obtain ⟨Ha, Hc, rfl⟩ := iH.ints.form
    obtain ⟨Hd, Hf, rfl⟩ := iH.exps.form
    replace qa0 := xw20.cell qa0
    replace qf0 := xw20.frz zg qf0
    replace qa1 := xw20.cell qa1
    replace qf1 := xw20.frz zg qf1
    replace zg := Nat.lt_of_lt_of_le zg xw20.size
    refine hK.out _ _ ⟨cb0, cb1, cc30, cc31, cc32, cc33, cc34, r0, r1, x0, x1, gg0, gg1⟩ (fun hHeld => ?_)
    clear hK K
    try simp only [Act.put, qa, qb, qc, qD, qE, qF]
    refine qHk (v := ?_) 7 rfl (.inl ⟨by rfl, ?_⟩) ?_
    rotate_left
    ·
     (intro w hSw; (try dsimp only at hSw); go_simp; try with_reducible rfl)
    try simp only [Act.put, qa, qb, qc, qD, qE, qF]
    refine qHk (v := ?_) 8 rfl (.inl ⟨by rfl, ?_⟩) ?_
    rotate_left
    ·
     (intro w hSw; (try dsimp only at hSw); go_simp; try with_reducible rfl)
    try simp only [Act.put, qa, qb, qc, qD, qE, qF]
    refine qHk (v := ?_) 9 rfl (.inl ⟨by rfl, ?_⟩) ?_
    rotate_left
    ·
     (intro w hSw; (try dsimp only at hSw); go_simp; try with_reducible rfl)
    try simp only [Act.put, qa, qb, qc, qD, qE, qF]
    refine qHr 11 rfl (fun K hK => ?_)
    try simp only [Act.put, qa, qb, qc, qD, qE, qF]
    go_simp
    have XE : Ext w17 ((w20.setCell ⟨w17.heap.size, 0, none⟩ (.slice Ha PC.length Hc)).setCell ⟨w17.heap.size, 1, none⟩ (.slice Hd PE.length Hf)) := (Ext.setCell (Ext.setCell ((Lw18.trans Lw19).trans Lw20) hg _) hg _)
    have y0 : ((w20.setCell ⟨w17.heap.size, 0, none⟩ (.slice Ha PC.length Hc)).setCell ⟨w17.heap.size, 1, none⟩ (.slice Hd PE.length Hf)).cell? ⟨w17.heap.size, 0, none⟩ = some (.slice Ha PC.length Hc) := qCl
    have f_y0 : ((w20.setCell ⟨w17.heap.size, 0, none⟩ (.slice Ha PC.length Hc)).setCell ⟨w17.heap.size, 1, none⟩ (.slice Hd PE.length Hf)).frozen? ⟨w17.heap.size, 0, none⟩ = false := qFz
    have y1 : ((w20.setCell ⟨w17.heap.size, 0, none⟩ (.slice Ha PC.length Hc)).setCell ⟨w17.heap.size, 1, none⟩ (.slice Hd PE.length Hf)).cell? ⟨w17.heap.size, 1, none⟩ = some (.slice Hd PE.length Hf) := qCl
    have f_y1 : ((w20.setCell ⟨w17.heap.size, 0, none⟩ (.slice Ha PC.length Hc)).setCell ⟨w17.heap.size, 1, none⟩ (.slice Hd PE.length Hf)).frozen? ⟨w17.heap.size, 1, none⟩ = false := qFz
    have hg1 : w17.heap.size ≤ w17.heap.size := hg
    have KE : Chg w17.heap.size (w17.heap.size + 1) w20 ((w20.setCell ⟨w17.heap.size, 0, none⟩ (.slice Ha PC.length Hc)).setCell ⟨w17.heap.size, 1, none⟩ (.slice Hd PE.length Hf)) := (by repeat (first | (with_reducible exact Chg.refl _ _ _) | (with_reducible refine Chg.setCell ?_ qSo qSo _) | (with_reducible refine Chg.ext ?_ (Ext.alloc (Ext.refl _) _)) | (with_reducible refine Chg.ext ?_ (Ext.drew (Ext.refl _)))))
    replace cb0 := KE.cell (by omega) cb0
    replace cb1 := KE.cell (by omega) cb1
    replace cc30 := KE.cell (by omega) cc30
    replace cc31 := KE.cell (by omega) cc31
    replace cc32 := KE.cell (by omega) cc32
    replace cc33 := KE.cell (by omega) cc33
    replace cc34 := KE.cell (by omega) cc34
    replace r0 := KE.cell (by omega) r0
    replace r1 := KE.cell (by omega) r1
    replace x0 := KE.cell (by omega) x0
    replace x1 := KE.cell (by omega) x1
    replace gg0 := KE.cell (by omega) gg0
    replace gg1 := KE.cell (by omega) gg1
    clear bZ
    replace iH := iH.chg KE (by omega)
    have ke_ := KE.size
    refine hK.out _ _ ⟨cb0, cb1, cc30, cc31, cc32, cc33, cc34, r0, r1, x0, x1, gg0, gg1⟩ (fun hHeld => ?_)
    clear hK K KE
    try simp only [Act.put, qa, qb, qc, qD, qE, qF]
    refine qHk (v := ?_) 12 rfl (.inl ⟨by rfl, ?_⟩) ?_
    rotate_left
    ·
     (intro w hSw; (try dsimp only at hSw); go_simp; try with_reducible rfl)
    try simp only [Act.put, qa, qb, qc, qD, qE, qF]
    refine wpAnyH_done qKr ?_ _
    clear hHeld
    generalize ((w20.setCell ⟨w17.heap.size, 0, none⟩ (.slice Ha PC.length Hc)).setCell ⟨w17.heap.size, 1, none⟩ (.slice Hd PE.length Hf)) = WE at *
    go_step
    go_step
    go_meet
    case rel => exact ⟨_, _, _, _, _, _, rfl, rfl, XE, hg1, y0, y1, iH.lower (Nat.zero_le _)⟩
    try simp only [Act.put, qa, qb, qc, qD, qE, qF]
    go_simp
    refine (toBuffer_c cells es _ _ _ _ _ (hc.ext (X.trans qXt)) (he.ext (X.trans qXt)) (by omega) (by omega) hm.out).mono ?_
    rintro e w18 ⟨uZ, vZ, RZ, rfl, bZ, xw18⟩
    have Lw18 : Ext w17 w18 := Ext.trans qXt xw18
    replace cb0 := Lw18.cell cb0
    replace cb1 := Lw18.cell cb1
    replace cc30 := Lw18.cell cc30
    replace cc31 := Lw18.cell cc31
    replace cc32 := Lw18.cell cc32
    replace cc33 := Lw18.cell cc33
    replace cc34 := Lw18.cell cc34
    replace r0 := Lw18.cell r0
    replace r1 := Lw18.cell r1
    replace x0 := Lw18.cell x0
    replace x1 := Lw18.cell x1
    replace gg0 := Lw18.cell gg0
    replace gg1 := Lw18.cell gg1
    have sz_w18 := Lw18.size
    refine hK.out _ _ ⟨cb0, cb1, cc30, cc31, cc32, cc33, cc34, r0, r1, x0, x1, gg0, gg1⟩ (fun hHeld => ?_)
    clear hK K
    try simp only [Act.put, qa, qb, qc, qD, qE, qF]
    refine wpAnyH_ready (rs := [5, 10]) qKr (by simp) ?_
    refine AllReadyH.cons rfl (fun K hK => ?_) (AllReadyH.cons rfl (fun K hK => ?_) AllReadyH.nil)
    rotate_left
    try simp only [Act.put, qa, qb, qc, qD, qE, qF]
    go_simp
    refine hK.out _ _ ⟨(show Ext w18 _ from qXt).cell cb0, (show Ext w18 _ from qXt).cell cb1, (show Ext w18 _ from qXt).cell cc30, (show Ext w18 _ from qXt).cell cc31, (show Ext w18 _ from qXt).cell cc32, (show Ext w18 _ from qXt).cell cc33, (show Ext w18 _ from qXt).cell cc34, (show Ext w18 _ from qXt).cell r0, (show Ext w18 _ from qXt).cell r1, (show Ext w18 _ from qXt).cell x0, (show Ext w18 _ from qXt).cell x1, (show Ext w18 _ from qXt).cell gg0, (show Ext w18 _ from qXt).cell gg1⟩ (fun hHeld => ?_)
    clear hK K
    try simp only [Act.put, qa, qb, qc, qD, qE, qF]
    have qa0 : (w18.alloc (.cells #[.slice none 0 0, .slice none 0 0] 32)).cell? ⟨w18.heap.size, 0, none⟩ = some (.slice none 0 0) := qCl
    have qf0 : (w18.alloc (.cells #[.slice none 0 0, .slice none 0 0] 32)).frozen? ⟨w18.heap.size, 0, none⟩ = false := qFz
    have qa1 : (w18.alloc (.cells #[.slice none 0 0, .slice none 0 0] 32)).cell? ⟨w18.heap.size, 1, none⟩ = some (.slice none 0 0) := qCl
    have qf1 : (w18.alloc (.cells #[.slice none 0 0, .slice none 0 0] 32)).frozen? ⟨w18.heap.size, 1, none⟩ = false := qFz
    have zg : w18.heap.size < (w18.alloc (.cells #[.slice none 0 0, .slice none 0 0] 32)).heap.size := qB qa0
    have hg : w17.heap.size ≤ w18.heap.size := (Lw18).size
    refine qHr 5 rfl (fun K hK => ?_)
    have zp := zg
    try simp only [Act.put, qa, qb, qc, qD, qE, qF]
    go_simp
    refine (toSlice_c sa3 sb3 sc3 sd3 se3 _).mono ?_
    rintro e w19 ⟨rfl, xw19⟩
    have Lw19 : Ext w18 w19 := Ext.trans qXt xw19
    replace cb0 := Lw19.cell cb0
    replace cb1 := Lw19.cell cb1
    replace cc30 := Lw19.cell cc30
    replace cc31 := Lw19.cell cc31
    replace cc32 := Lw19.cell cc32
    replace cc33 := Lw19.cell cc33
    replace cc34 := Lw19.cell cc34
    replace r0 := Lw19.cell r0
    replace r1 := Lw19.cell r1
    replace x0 := Lw19.cell x0
    replace x1 := Lw19.cell x1
    replace gg0 := Lw19.cell gg0
    replace gg1 := Lw19.cell gg1
    replace bZ := bZ.ext Lw19
    have sz_w19 := Lw19.size
    replace qa0 := xw19.cell qa0
    replace qf0 := xw19.frz zg qf0
    replace qa1 := xw19.cell qa1
    replace qf1 := xw19.frz zg qf1
    replace zg := Nat.lt_of_lt_of_le zg xw19.size
    refine hK.out _ _ ⟨cb0, cb1, cc30, cc31, cc32, cc33, cc34, r0, r1, x0, x1, gg0, gg1⟩ (fun hHeld => ?_)
    clear hK K
    try simp only [Act.put, qa, qb, qc, qD, qE, qF]
    refine qHr 6 rfl (fun K hK => ?_)
    have zp := zg
    try simp only [Act.put, qa, qb, qc, qD, qE, qF]
    go_simp
    refine (pbx_eq hP.out (implExportPart_c cells es _ _ i1 i2 sa3 sb3 sc3 sd3 se3 _ _ _ (bZ.ints.ext qXt) (bZ.exps.ext qXt))).mono ?_
    rintro e w20 ⟨H1, H2, RH, rfl, iH, xw20⟩
    have Lw20 : Ext w19 w20 := Ext.trans qXt xw20
    replace cb0 := Lw20.cell cb0
    replace cb1 := Lw20.cell cb1
    replace cc30 := Lw20.cell cc30
    replace cc31 := Lw20.cell cc31
    replace cc32 := Lw20.cell cc32
    replace cc33 := Lw20.cell cc33
    replace cc34 := Lw20.cell cc34
    replace r0 := Lw20.cell r0
    replace r1 := Lw20.cell r1
    replace x0 := Lw20.cell x0
    replace x1 := Lw20.cell x1
    replace gg0 := Lw20.cell gg0
    replace gg1 := Lw20.cell gg1
    replace bZ := bZ.ext Lw20
    have sz_w20 := Lw20.size
    try simp only [World.size_alloc, World.size_drew] at iH
    obtain ⟨Ha, Hc, rfl⟩ := iH.ints.form
    obtain ⟨Hd, Hf, rfl⟩ := iH.exps.form
    replace qa0 := xw20.cell qa0
    replace qf0 := xw20.frz zg qf0
    replace qa1 := xw20.cell qa1
    replace qf1 := xw20.frz zg qf1
    replace zg := Nat.lt_of_lt_of_le zg xw20.size
    refine hK.out _ _ ⟨cb0, cb1, cc30, cc31, cc32, cc33, cc34, r0, r1, x0, x1, gg0, gg1⟩ (fun hHeld => ?_)
    clear hK K
    try simp only [Act.put, qa, qb, qc, qD, qE, qF]
    refine qHk (v := ?_) 7 rfl (.inl ⟨by rfl, ?_⟩) ?_
    rotate_left
    ·
     (intro w hSw; (try dsimp only at hSw); go_simp; try with_reducible rfl)
    try simp only [Act.put, qa, qb, qc, qD, qE, qF]
    refine qHk (v := ?_) 8 rfl (.inl ⟨by rfl, ?_⟩) ?_
    rotate_left
    ·
     (intro w hSw; (try dsimp only at hSw); go_simp; try with_reducible rfl)
    try simp only [Act.put, qa, qb, qc, qD, qE, qF]
    refine qHk (v := ?_) 9 rfl (.inl ⟨by rfl, ?_⟩) ?_
    rotate_left
    ·
     (intro w hSw; (try dsimp only at hSw); go_simp; try with_reducible rfl)
    try simp only [Act.put, qa, qb, qc, qD, qE, qF]
    refine qHr 11 rfl (fun K hK => ?_)
    try simp only [Act.put, qa, qb, qc, qD, qE, qF]
    go_simp
    have XE : Ext w17 ((w20.setCell ⟨w18.heap.size, 0, none⟩ (.slice Ha PC.length Hc)).setCell ⟨w18.heap.size, 1, none⟩ (.slice Hd PE.length Hf)) := (Ext.setCell (Ext.setCell ((Lw18.trans Lw19).trans Lw20) hg _) hg _)
    have y0 : ((w20.setCell ⟨w18.heap.size, 0, none⟩ (.slice Ha PC.length Hc)).setCell ⟨w18.heap.size, 1, none⟩ (.slice Hd PE.length Hf)).cell? ⟨w18.heap.size, 0, none⟩ = some (.slice Ha PC.length Hc) := qCl
    have f_y0 : ((w20.setCell ⟨w18.heap.size, 0, none⟩ (.slice Ha PC.length Hc)).setCell ⟨w18.heap.size, 1, none⟩ (.slice Hd PE.length Hf)).frozen? ⟨w18.heap.size, 0, none⟩ = false := qFz
    have y1 : ((w20.setCell ⟨w18.heap.size, 0, none⟩ (.slice Ha PC.length Hc)).setCell ⟨w18.heap.size, 1, none⟩ (.slice Hd PE.length Hf)).cell? ⟨w18.heap.size, 1, none⟩ = some (.slice Hd PE.length Hf) := qCl
    have f_y1 : ((w20.setCell ⟨w18.heap.size, 0, none⟩ (.slice Ha PC.length Hc)).setCell ⟨w18.heap.size, 1, none⟩ (.slice Hd PE.length Hf)).frozen? ⟨w18.heap.size, 1, none⟩ = false := qFz
    have hg1 : w17.heap.size ≤ w18.heap.size := hg
    have KE : Chg w18.heap.size (w18.heap.size + 1) w20 ((w20.setCell ⟨w18.heap.size, 0, none⟩ (.slice Ha PC.length Hc)).setCell ⟨w18.heap.size, 1, none⟩ (.slice Hd PE.length Hf)) := (by repeat (first | (with_reducible exact Chg.refl _ _ _) | (with_reducible refine Chg.setCell ?_ qSo qSo _) | (with_reducible refine Chg.ext ?_ (Ext.alloc (Ext.refl _) _)) | (with_reducible refine Chg.ext ?_ (Ext.drew (Ext.refl _)))))
    replace cb0 := KE.cell (by omega) cb0
    replace cb1 := KE.cell (by omega) cb1
    replace cc30 := KE.cell (by omega) cc30
    replace cc31 := KE.cell (by omega) cc31
    replace cc32 := KE.cell (by omega) cc32
    replace cc33 := KE.cell (by omega) cc33
    replace cc34 := KE.cell (by omega) cc34
    replace r0 := KE.cell (by omega) r0
    replace r1 := KE.cell (by omega) r1
    replace x0 := KE.cell (by omega) x0
    replace x1 := KE.cell (by omega) x1
    replace gg0 := KE.cell (by omega) gg0
    replace gg1 := KE.cell (by omega) gg1
    clear bZ
    replace iH := iH.chg KE (by omega)
    have ke_ := KE.size
    refine hK.out _ _ ⟨cb0, cb1, cc30, cc31, cc32, cc33, cc34, r0, r1, x0, x1, gg0, gg1⟩ (fun hHeld => ?_)
    clear hK K KE
    try simp only [Act.put, qa, qb, qc, qD, qE, qF]
    refine qHk (v := ?_) 12 rfl (.inl ⟨by rfl, ?_⟩) ?_
    rotate_left
    ·
     (intro w hSw; (try dsimp only at hSw); go_simp; try with_reducible rfl)
    try simp only [Act.put, qa, qb, qc, qD, qE, qF]
    refine wpAnyH_done qKr ?_ _
    clear hHeld
    generalize ((w20.setCell ⟨w18.heap.size, 0, none⟩ (.slice Ha PC.length Hc)).setCell ⟨w18.heap.size, 1, none⟩ (.slice Hd PE.length Hf)) = WE at *
    go_step
    go_step
    go_meet
    case rel => exact ⟨_, _, _, _, _, _, rfl, rfl, XE, hg1, y0, y1, iH.lower (Nat.zero_le _)⟩
    try simp only [Act.put, qa, qb, qc, qD, qE, qF]
    go_simp
    refine (toSlice_c sa3 sb3 sc3 sd3 se3 _).mono ?_
    rintro e w19 ⟨rfl, xw19⟩
    have Lw19 : Ext w18 w19 := Ext.trans qXt xw19
    replace cb0 := Lw19.cell cb0
    replace cb1 := Lw19.cell cb1
    replace cc30 := Lw19.cell cc30
    replace cc31 := Lw19.cell cc31
    replace cc32 := Lw19.cell cc32
    replace cc33 := Lw19.cell cc33
    replace cc34 := Lw19.cell cc34
    replace r0 := Lw19.cell r0
    replace r1 := Lw19.cell r1
    replace x0 := Lw19.cell x0
    replace x1 := Lw19.cell x1
    replace gg0 := Lw19.cell gg0
    replace gg1 := Lw19.cell gg1
    replace bZ := bZ.ext Lw19
    have sz_w19 := Lw19.size
    refine hK.out _ _ ⟨cb0, cb1, cc30, cc31, cc32, cc33, cc34, r0, r1, x0, x1, gg0, gg1⟩ (fun hHeld => ?_)
    clear hK K
    try simp only [Act.put, qa, qb, qc, qD, qE, qF]
    refine wpAnyH_ready (rs := [6, 10]) qKr (by simp) ?_
    refine AllReadyH.cons rfl (fun K hK => ?_) (AllReadyH.cons rfl (fun K hK => ?_) AllReadyH.nil)
    rotate_left
    try simp only [Act.put, qa, qb, qc, qD, qE, qF]
    go_simp
    refine hK.out _ _ ⟨(show Ext w19 _ from qXt).cell cb0, (show Ext w19 _ from qXt).cell cb1, (show Ext w19 _ from qXt).cell cc30, (show Ext w19 _ from qXt).cell cc31, (show Ext w19 _ from qXt).cell cc32, (show Ext w19 _ from qXt).cell cc33, (show Ext w19 _ from qXt).cell cc34, (show Ext w19 _ from qXt).cell r0, (show Ext w19 _ from qXt).cell r1, (show Ext w19 _ from qXt).cell x0, (show Ext w19 _ from qXt).cell x1, (show Ext w19 _ from qXt).cell gg0, (show Ext w19 _ from qXt).cell gg1⟩ (fun hHeld => ?_)
    clear hK K
    try simp only [Act.put, qa, qb, qc, qD, qE, qF]
    have qa0 : (w19.alloc (.cells #[.slice none 0 0, .slice none 0 0] 32)).cell? ⟨w19.heap.size, 0, none⟩ = some (.slice none 0 0) := qCl
    have qf0 : (w19.alloc (.cells #[.slice none 0 0, .slice none 0 0] 32)).frozen? ⟨w19.heap.size, 0, none⟩ = false := qFz
    have qa1 : (w19.alloc (.cells #[.slice none 0 0, .slice none 0 0] 32)).cell? ⟨w19.heap.size, 1, none⟩ = some (.slice none 0 0) := qCl
    have qf1 : (w19.alloc (.cells #[.slice none 0 0, .slice none 0 0] 32)).frozen? ⟨w19.heap.size, 1, none⟩ = false := qFz
    have zg : w19.heap.size < (w19.alloc (.cells #[.slice none 0 0, .slice none 0 0] 32)).heap.size := qB qa0
    have hg : w17.heap.size ≤ w19.heap.size := ((Lw18.trans Lw19)).size
    refine qHr 6 rfl (fun K hK => ?_)
    have zp := zg
    try simp only [Act.put, qa, qb, qc, qD, qE, qF]
    go_simp
    refine (pbx_eq hP.out (implExportPart_c cells es _ _ i1 i2 sa3 sb3 sc3 sd3 se3 _ _ _ (bZ.ints.ext qXt) (bZ.exps.ext qXt))).mono ?_
    rintro e w20 ⟨H1, H2, RH, rfl, iH, xw20⟩
    have Lw20 : Ext w19 w20 := Ext.trans qXt xw20
    replace cb0 := Lw20.cell cb0
    replace cb1 := Lw20.cell cb1
    replace cc30 := Lw20.cell cc30
    replace cc31 := Lw20.cell cc31
    replace cc32 := Lw20.cell cc32
    replace cc33 := Lw20.cell cc33
    replace cc34 := Lw20.cell cc34
    replace r0 := Lw20.cell r0
    replace r1 := Lw20.cell r1
    replace x0 := Lw20.cell x0
    replace x1 := Lw20.cell x1
    replace gg0 := Lw20.cell gg0
    replace gg1 := Lw20.cell gg1
    replace bZ := bZ.ext Lw20
    have sz_w20 := Lw20.size
    try simp only [World.size_alloc, World.size_drew] at iH
    obtain ⟨Ha, Hc, rfl⟩ := iH.ints.form
    obtain ⟨Hd, Hf, rfl⟩ := iH.exps.form
    replace qa0 := xw20.cell qa0
    replace qf0 := xw20.frz zg qf0
    replace qa1 := xw20.cell qa1
    replace qf1 := xw20.frz zg qf1
    replace zg := Nat.lt_of_lt_of_le zg xw20.size
    refine hK.out _ _ ⟨cb0, cb1, cc30, cc31, cc32, cc33, cc34, r0, r1, x0, x1, gg0, gg1⟩ (fun hHeld => ?_)
    clear hK K
    try simp only [Act.put, qa, qb, qc, qD, qE, qF]
    refine qHk (v := ?_) 7 rfl (.inl ⟨by rfl, ?_⟩) ?_
    rotate_left
    ·
     (intro w hSw; (try dsimp only at hSw); go_simp; try with_reducible rfl)
    try simp only [Act.put, qa, qb, qc, qD, qE, qF]
    refine qHk (v := ?_) 8 rfl (.inl ⟨by rfl, ?_⟩) ?_
    rotate_left
    ·
     (intro w hSw; (try dsimp only at hSw); go_simp; try with_reducible rfl)
    try simp only [Act.put, qa, qb, qc, qD, qE, qF]
    refine qHk (v := ?_) 9 rfl (.inl ⟨by rfl, ?_⟩) ?_
    rotate_left
    ·
     (intro w hSw; (try dsimp only at hSw); go_simp; try with_reducible rfl)
    try simp only [Act.put, qa, qb, qc, qD, qE, qF]
    refine qHr 11 rfl (fun K hK => ?_)
    try simp only [Act.put, qa, qb, qc, qD, qE, qF]
    go_simp
    have XE : Ext w17 ((w20.setCell ⟨w19.heap.size, 0, none⟩ (.slice Ha PC.length Hc)).setCell ⟨w19.heap.size, 1, none⟩ (.slice Hd PE.length Hf)) := (Ext.setCell (Ext.setCell ((Lw18.trans Lw19).trans Lw20) hg _) hg _)
    have y0 : ((w20.setCell ⟨w19.heap.size, 0, none⟩ (.slice Ha PC.length Hc)).setCell ⟨w19.heap.size, 1, none⟩ (.slice Hd PE.length Hf)).cell? ⟨w19.heap.size, 0, none⟩ = some (.slice Ha PC.length Hc) := qCl
    have f_y0 : ((w20.setCell ⟨w19.heap.size, 0, none⟩ (.slice Ha PC.length Hc)).setCell ⟨w19.heap.size, 1, none⟩ (.slice Hd PE.length Hf)).frozen? ⟨w19.heap.size, 0, none⟩ = false := qFz
    have y1 : ((w20.setCell ⟨w19.heap.size, 0, none⟩ (.slice Ha PC.length Hc)).setCell ⟨w19.heap.size, 1, none⟩ (.slice Hd PE.length Hf)).cell? ⟨w19.heap.size, 1, none⟩ = some (.slice Hd PE.length Hf) := qCl
    have f_y1 : ((w20.setCell ⟨w19.heap.size, 0, none⟩ (.slice Ha PC.length Hc)).setCell ⟨w19.heap.size, 1, none⟩ (.slice Hd PE.length Hf)).frozen? ⟨w19.heap.size, 1, none⟩ = false := qFz
    have hg1 : w17.heap.size ≤ w19.heap.size := hg
    have KE : Chg w19.heap.size (w19.heap.size + 1) w20 ((w20.setCell ⟨w19.heap.size, 0, none⟩ (.slice Ha PC.length Hc)).setCell ⟨w19.heap.size, 1, none⟩ (.slice Hd PE.length Hf)) := (by repeat (first | (with_reducible exact Chg.refl _ _ _) | (with_reducible refine Chg.setCell ?_ qSo qSo _) | (with_reducible refine Chg.ext ?_ (Ext.alloc (Ext.refl _) _)) | (with_reducible refine Chg.ext ?_ (Ext.drew (Ext.refl _)))))
    replace cb0 := KE.cell (by omega) cb0
    replace cb1 := KE.cell (by omega) cb1
    replace cc30 := KE.cell (by omega) cc30
    replace cc31 := KE.cell (by omega) cc31
    replace cc32 := KE.cell (by omega) cc32
    replace cc33 := KE.cell (by omega) cc33
    replace cc34 := KE.cell (by omega) cc34
    replace r0 := KE.cell (by omega) r0
    replace r1 := KE.cell (by omega) r1
    replace x0 := KE.cell (by omega) x0
    replace x1 := KE.cell (by omega) x1
    replace gg0 := KE.cell (by omega) gg0
    replace gg1 := KE.cell (by omega) gg1
    clear bZ
    replace iH := iH.chg KE (by omega)
    have ke_ := KE.size
    refine hK.out _ _ ⟨cb0, cb1, cc30, cc31, cc32, cc33, cc34, r0, r1, x0, x1, gg0, gg1⟩ (fun hHeld => ?_)
    clear hK K KE
    try simp only [Act.put, qa, qb, qc, qD, qE, qF]
    refine qHk (v := ?_) 12 rfl (.inl ⟨by rfl, ?_⟩) ?_
    rotate_left
    ·
     (intro w hSw; (try dsimp only at hSw); go_simp; try with_reducible rfl)
    try simp only [Act.put, qa, qb, qc, qD, qE, qF]
    refine wpAnyH_done qKr ?_ _
    clear hHeld
    generalize ((w20.setCell ⟨w19.heap.size, 0, none⟩ (.slice Ha PC.length Hc)).setCell ⟨w19.heap.size, 1, none⟩ (.slice Hd PE.length Hf)) = WE at *
    go_step
    go_step
    go_meet
    case rel => exact ⟨_, _, _, _, _, _, rfl, rfl, XE, hg1, y0, y1, iH.lower (Nat.zero_le _)⟩
    try simp only [Act.put, qa, qb, qc, qD, qE, qF]
    go_simp
    refine (pbx_eq hP.out (implExportPart_c cells es _ _ i1 i2 sa3 sb3 sc3 sd3 se3 _ _ _ (bZ.ints.ext qXt) (bZ.exps.ext qXt))).mono ?_
    rintro e w20 ⟨H1, H2, RH, rfl, iH, xw20⟩
    have Lw20 : Ext w19 w20 := Ext.trans qXt xw20
    replace cb0 := Lw20.cell cb0
    replace cb1 := Lw20.cell cb1
    replace cc30 := Lw20.cell cc30
    replace cc31 := Lw20.cell cc31
    replace cc32 := Lw20.cell cc32
    replace cc33 := Lw20.cell cc33
    replace cc34 := Lw20.cell cc34
    replace r0 := Lw20.cell r0
    replace r1 := Lw20.cell r1
    replace x0 := Lw20.cell x0
    replace x1 := Lw20.cell x1
    replace gg0 := Lw20.cell gg0
    replace gg1 := Lw20.cell gg1
    replace bZ := bZ.ext Lw20
    have sz_w20 := Lw20.size
    try simp only [World.size_alloc, World.size_drew] at iH
    obtain ⟨Ha, Hc, rfl⟩ := iH.ints.form
    obtain ⟨Hd, Hf, rfl⟩ := iH.exps.form
    refine hK.out _ _ ⟨cb0, cb1, cc30, cc31, cc32, cc33, cc34, r0, r1, x0, x1, gg0, gg1⟩ (fun hHeld => ?_)
    clear hK K
    try simp only [Act.put, qa, qb, qc, qD, qE, qF]
    refine qHk (v := ?_) 7 rfl (.inl ⟨by rfl, ?_⟩) ?_
    rotate_left
    ·
     (intro w hSw; (try dsimp only at hSw); go_simp; try with_reducible rfl)
    try simp only [Act.put, qa, qb, qc, qD, qE, qF]
    refine qHk (v := ?_) 8 rfl (.inl ⟨by rfl, ?_⟩) ?_
    rotate_left
    ·
     (intro w hSw; (try dsimp only at hSw); go_simp; try with_reducible rfl)
    try simp only [Act.put, qa, qb, qc, qD, qE, qF]
    refine qHk (v := ?_) 9 rfl (.inl ⟨by rfl, ?_⟩) ?_
    rotate_left
    ·
     (intro w hSw; (try dsimp only at hSw); go_simp; try with_reducible rfl)
    try simp only [Act.put, qa, qb, qc, qD, qE, qF]
    refine qHr 10 rfl (fun K hK => ?_)
    try simp only [Act.put, qa, qb, qc, qD, qE, qF]
    go_simp
    refine hK.out _ _ ⟨(show Ext w20 _ from qXt).cell cb0, (show Ext w20 _ from qXt).cell cb1, (show Ext w20 _ from qXt).cell cc30, (show Ext w20 _ from qXt).cell cc31, (show Ext w20 _ from qXt).cell cc32, (show Ext w20 _ from qXt).cell cc33, (show Ext w20 _ from qXt).cell cc34, (show Ext w20 _ from qXt).cell r0, (show Ext w20 _ from qXt).cell r1, (show Ext w20 _ from qXt).cell x0, (show Ext w20 _ from qXt).cell x1, (show Ext w20 _ from qXt).cell gg0, (show Ext w20 _ from qXt).cell gg1⟩ (fun hHeld => ?_)
    clear hK K
    try simp only [Act.put, qa, qb, qc, qD, qE, qF]
    refine qHr 11 rfl (fun K hK => ?_)
    try simp only [Act.put, qa, qb, qc, qD, qE, qF]
    go_simp
    have XE : Ext w17 (w20.alloc (.cells #[.slice Ha PC.length Hc, .slice Hd PE.length Hf] 32)) := ((Lw18.trans Lw19).trans Lw20).trans qXo
    have y0 : (w20.alloc (.cells #[.slice Ha PC.length Hc, .slice Hd PE.length Hf] 32)).cell? ⟨w20.heap.size, 0, none⟩ = some (.slice Ha PC.length Hc) := qCl
    have f_y0 : (w20.alloc (.cells #[.slice Ha PC.length Hc, .slice Hd PE.length Hf] 32)).frozen? ⟨w20.heap.size, 0, none⟩ = false := qFz
    have y1 : (w20.alloc (.cells #[.slice Ha PC.length Hc, .slice Hd PE.length Hf] 32)).cell? ⟨w20.heap.size, 1, none⟩ = some (.slice Hd PE.length Hf) := qCl
    have f_y1 : (w20.alloc (.cells #[.slice Ha PC.length Hc, .slice Hd PE.length Hf] 32)).frozen? ⟨w20.heap.size, 1, none⟩ = false := qFz
    have hg1 : w17.heap.size ≤ w20.heap.size := ((Lw18.trans Lw19).trans Lw20).size
    have KE : Ext w20 (w20.alloc (.cells #[.slice Ha PC.length Hc, .slice Hd PE.length Hf] 32)) := qXo
    replace cb0 := KE.cell cb0
    replace cb1 := KE.cell cb1
    replace cc30 := KE.cell cc30
    replace cc31 := KE.cell cc31
    replace cc32 := KE.cell cc32
    replace cc33 := KE.cell cc33
    replace cc34 := KE.cell cc34
    replace r0 := KE.cell r0
    replace r1 := KE.cell r1
    replace x0 := KE.cell x0
    replace x1 := KE.cell x1
    replace gg0 := KE.cell gg0
    replace gg1 := KE.cell gg1
    clear bZ
    replace iH := iH.ext KE
    have ke_ := KE.size
    refine hK.out _ _ ⟨cb0, cb1, cc30, cc31, cc32, cc33, cc34, r0, r1, x0, x1, gg0, gg1⟩ (fun hHeld => ?_)
    clear hK K KE
    try simp only [Act.put, qa, qb, qc, qD, qE, qF]
    refine qHk (v := ?_) 12 rfl (.inl ⟨by rfl, ?_⟩) ?_
    rotate_left
    ·
     (intro w hSw; (try dsimp only at hSw); go_simp; try with_reducible rfl)
    try simp only [Act.put, qa, qb, qc, qD, qE, qF]
    refine wpAnyH_done qKr ?_ _
    clear hHeld
    generalize (w20.alloc (.cells #[.slice Ha PC.length Hc, .slice Hd PE.length Hf] 32)) = WE at *
    go_step
    go_step
    go_meet
    case rel => exact ⟨_, _, _, _, _, _, rfl, rfl, XE, hg1, y0, y1, iH.lower (Nat.zero_le _)⟩
   case rest =>
    generalize wc = w21 at hcut ⊢
    obtain ⟨gZ, Ha, Hc, Hd, Hf, RH, rfl, rfl, xw21, hg_y, y0, y1, iH⟩ := hcut
    have Lw21 : Ext w17 w21 := xw21
    replace cb0 := Lw21.cell cb0
    replace cb1 := Lw21.cell cb1
    replace cc30 := Lw21.cell cc30
    replace cc31 := Lw21.cell cc31
    replace cc32 := Lw21.cell cc32
    replace cc33 := Lw21.cell cc33
    replace cc34 := Lw21.cell cc34
    replace r0 := Lw21.cell r0
    replace r1 := Lw21.cell r1
    replace x0 := Lw21.cell x0
    replace x1 := Lw21.cell x1
    replace gg0 := Lw21.cell gg0
    replace gg1 := Lw21.cell gg1
    replace bH := bH.ext Lw21
    replace X := X.trans Lw21
    replace EW := EW.trans Lw21
    have z48 : w.heap.size < w21.heap.size := qB cb0
    have z49 : w.heap.size + 1 < w21.heap.size := qB cc30
    have z50 : gW < w21.heap.size := qB r0
    have z51 : w6.heap.size < w21.heap.size := qB x0
    have z52 : gX < w21.heap.size := qB gg0
    have z53 : gZ < w21.heap.size := qB y0
    have sw21 : w17.heap.size ≤ w21.heap.size := Lw21.size
    clear Lw21 xw21
    go_wp2_with fail
    refine (eqBuffer_c PC PE _ _ _ _ _ _ _ _ _ (iH.ints.ext qXt) (iH.exps.ext qXt) ((iW.ext EW).ints.ext qXt) ((iW.ext EW).exps.ext qXt)).mono ?_
    rintro e w22 ⟨rfl, xw22⟩
    have Lw22 : Ext w21 w22 := Ext.trans qXt xw22
    replace cb0 := Lw22.cell cb0
    replace cb1 := Lw22.cell cb1
    replace cc30 := Lw22.cell cc30
    replace cc31 := Lw22.cell cc31
    replace cc32 := Lw22.cell cc32
    replace cc33 := Lw22.cell cc33
    replace cc34 := Lw22.cell cc34
    replace r0 := Lw22.cell r0
    replace r1 := Lw22.cell r1
    replace x0 := Lw22.cell x0
    replace x1 := Lw22.cell x1
    replace gg0 := Lw22.cell gg0
    replace gg1 := Lw22.cell gg1
    replace y0 := Lw22.cell y0
    replace y1 := Lw22.cell y1
    replace bH := bH.ext Lw22
    replace iH := iH.ext Lw22
    replace X := X.trans Lw22
    replace EW := EW.trans Lw22
    have z54 : w.heap.size < w22.heap.size := qB cb0
    have z55 : w.heap.size + 1 < w22.heap.size := qB cc30
    have z56 : gW < w22.heap.size := qB r0
    have z57 : w6.heap.size < w22.heap.size := qB x0
    have z58 : gX < w22.heap.size := qB gg0
    have z59 : gZ < w22.heap.size := qB y0
    have sw22 : w21.heap.size ≤ w22.heap.size := Lw22.size
    clear Lw22
    clear xw22
    go_wp2_with fail
    refine (heldBuffer_c PC.length PE 1 _ _ _ _ _ (bH.ints.ext qXt) (bH.exps.ext qXt) (fun i hi => by have := hSr.out i hi; omega) (by omega) (by rw [hK2.out]; omega)).mono ?_
    rintro e w23 ⟨rfl, xw23⟩
    have Lw23 : Ext w22 w23 := Ext.trans qXt xw23
    replace cb0 := Lw23.cell cb0
    replace cb1 := Lw23.cell cb1
    replace cc30 := Lw23.cell cc30
    replace cc31 := Lw23.cell cc31
    replace cc32 := Lw23.cell cc32
    replace cc33 := Lw23.cell cc33
    replace cc34 := Lw23.cell cc34
    replace r0 := Lw23.cell r0
    replace r1 := Lw23.cell r1
    replace x0 := Lw23.cell x0
    replace x1 := Lw23.cell x1
    replace gg0 := Lw23.cell gg0
    replace gg1 := Lw23.cell gg1
    replace y0 := Lw23.cell y0
    replace y1 := Lw23.cell y1
    replace bH := bH.ext Lw23
    replace iH := iH.ext Lw23
    replace X := X.trans Lw23
    replace EW := EW.trans Lw23
    have z60 : w.heap.size < w23.heap.size := qB cb0
    have z61 : w.heap.size + 1 < w23.heap.size := qB cc30
    have z62 : gW < w23.heap.size := qB r0
    have z63 : w6.heap.size < w23.heap.size := qB x0
    have z64 : gX < w23.heap.size := qB gg0
    have z65 : gZ < w23.heap.size := qB y0
    have sw23 : w22.heap.size ≤ w23.heap.size := Lw23.size
    clear Lw23
    clear xw23
    rw [hK2.out]
    go_wp2_with fail
    go_ret
    exact ⟨rfl, X.trans qXt⟩

set_option maxHeartbeats 6400000 in
theorem lawExportPart_c (cells : List Int) (es : List Exp) (ac ae : Option Addr) (cc ce : Nat) (i1 : Int) (i2 : Int) (sa3 sb3 sc3 : Int) (sd3 se3 : Bool) (w : World) (hc : Raw w (.slice ac cells.length cc) cells) (he : RawE w (.slice ae es.length ce) es) (nc : cells.length ≤ maxLen) (ne : es.length ≤ maxLen) (wf1 : (Lit.int .i64 i1).wf = true) (wf2 : (Lit.int .i64 i2).wf = true) :
  Calls Try.prog 10 #[.agg #[.slice ac cells.length cc, .slice ae es.length ce], .int .i64 i1, .int .i64 i2, .agg #[.int .i64 sa3, .int .i64 sb3, .int .i64 sc3, .bool sd3, .bool se3]] w fun e w' => e = .returned (.bool true) ∧ Ext w w' := by
 have hS := parA_small cells es i1 i2 sa3 sb3 sc3 sd3 se3
 obtain ⟨PC, PE, PO, hP⟩ : ∃ PC PE PO, parA cells es i1 i2 sa3 sb3 sc3 sd3 se3 = (PC, PE, PO) := ⟨_, _, _, rfl⟩
 rw [hP] at hS
 cases PO
 ·
  exact lawExportPart_false cells es ac ae cc ce i1 i2 sa3 sb3 sc3 sd3 se3 w hc he nc ne PC PE (Lib.hid hP) hS
 ·
  exact lawExportPart_true cells es ac ae cc ce i1 i2 sa3 sb3 sc3 sd3 se3 w hc he nc ne PC PE (Lib.hid hP) hS
end Go.Proofs.Ytfbbnbpobojboaa

/- The law FnExactExportPart holds for all arguments: the call returns true, and its arguments read as they did. No condition. -/
namespace Go.Proofs.Ytfbbnbpobojboaa.rowExportPart
open Go.ChangeShapes Go.WideShapes Go.ChangeAt Go.RowKit
set_option linter.unusedVariables false

set_option maxHeartbeats 1000000 in
set_option maxRecDepth 100000 in
theorem lifted (os : Os) (started : os.Started) (H : Type) (enc : TypeId × Value → H) :
    ReturnsInHanded {} Try.checked os 10 .any (Rows.fnExactExportPartSpec.pre6 enc Try.prog Try.f10 Rows.fnExactExportPartRow.domain false) (Rows.fnExactExportPartSpec.post enc Try.prog Try.f10 false true false false) := by
  refine returnsInHanded_of_change (C := Try.checked) own started qKr Try.func10
    (ChangeSpec.witness6 (enc := enc) (C := Try.checked) false ⟨#[], #[.agg #[.slice none 0 0, .slice none 0 0], .int .i64 0, .int .i64 0, .agg #[.int .i64 0, .int .i64 0, .int .i64 0, .bool false, .bool false]], []⟩ 8 qKr qKr qKr qKr) ?_
  intro W base args ds gs before hval0 hW hcnd _
  have hval : ∀ (j : Nat) t v, Try.f10.params[j]? = some t → args[j]? = some v → Value.okWide Try.prog W .any base t v := hval0
  have hW' := hW
  obtain ⟨p, q, hA0, hV, rfl, hfz, hnd⟩ := hW
  have hA : DataW.TrodAll enc Try.prog W 0 (fun _ => true) true Try.f10.params.toList args.toList ds p := hA0
  rw [Try.params10] at hA hval
  obtain ⟨v0, vs0, d0, ds0, p0, q0, hargs0, rfl, rfl, h0, r0⟩ := trodAll_cons hA
  obtain ⟨v1, vs1, d1, ds1, p1, q1, hargs1, rfl, rfl, h1, r1⟩ := trodAll_cons r0
  subst hargs1
  obtain ⟨v2, vs2, d2, ds2, p2, q2, hargs2, rfl, rfl, h2, r2⟩ := trodAll_cons r1
  subst hargs2
  obtain ⟨v3, vs3, d3, ds3, p3, q3, hargs3, rfl, rfl, h3, r3⟩ := trodAll_cons r2
  subst hargs3
  obtain ⟨rfl, rfl, rfl⟩ := trodAll_nil r3
  obtain rfl : args = #[v0, v1, v2, v3] := by cases args; simp_all
  obtain ⟨rfl, rfl⟩ := trodVars_none hV
  have k0 := h0
  have lt0 : ∀ x ∈ p0, x.block < W.heap.size := by obtain ⟨m, hm⟩ := k0; exact DataW.trod_lt m _ _ _ hm
  obtain ⟨cells0, es0, ac0, ae0, cc0, ce0, rfl, ⟨hb0, nb0⟩, hE0, ne0⟩ := open_buffer (hval 0 _ v0 rfl rfl) h0
  have k1 := h1
  have lt1 : ∀ x ∈ p1, x.block < W.heap.size := by obtain ⟨m, hm⟩ := k1; exact DataW.trod_lt m _ _ _ hm
  obtain ⟨i1, rfl, -, -, wf1⟩ := open_int Try.underlying3 (hval 1 _ v1 rfl rfl) h1
  have k2 := h2
  have lt2 : ∀ x ∈ p2, x.block < W.heap.size := by obtain ⟨m, hm⟩ := k2; exact DataW.trod_lt m _ _ _ hm
  obtain ⟨i2, rfl, -, -, wf2⟩ := open_int Try.underlying3 (hval 2 _ v2 rfl rfl) h2
  have k3 := h3
  have lt3 : ∀ x ∈ p3, x.block < W.heap.size := by obtain ⟨m, hm⟩ := k3; exact DataW.trod_lt m _ _ _ hm
  obtain ⟨x3, y3, z3, p'3, q'3, rfl⟩ := open_sliceS (hval 3 _ v3 rfl rfl) h3
  clear hA0 hval0
  refine (lawExportPart_c cells0 es0 ac0 ae0 cc0 ce0 i1 i2 x3 y3 z3 p'3 q'3 W hb0 hE0 nb0 ne0 wf1 wf2).mono fun e W' ⟨he, bel⟩ => ?_
  subst he
  exact ⟨_, rfl, _, _, _, [], _, [], hW', trodAll_mk1 (shut_bool Try.underlying4 _), (trodAll_cons_mk (Below.trod laidOut qKr (of_decide_eq_true qKr) k0 bel lt0) (trodAll_cons_mk (Below.trod laidOut qKr (of_decide_eq_true qKr) k1 bel lt1) (trodAll_cons_mk (Below.trod laidOut qKr (of_decide_eq_true qKr) k2 bel lt2) (trodAll_cons_mk (Below.trod laidOut qKr (of_decide_eq_true qKr) k3 bel lt3) trodAll_mk0)))), rfl, Below.frame bel _, fun h => by cases h⟩

set_option maxHeartbeats 2000000 in
theorem closed : joinedFacts Try.checked.prog 10 Try.f10 Rows.fnExactExportPartSpec Rows.fnExactExportPartRow = true :=
  facts.all qKr qKr qKr qKr qKr (by as_aux_lemma => kernel_rfl) (by as_aux_lemma => kernel_rfl) (by as_aux_lemma => kernel_rfl) (by as_aux_lemma => kernel_rfl)
    (by as_aux_lemma => kernel_rfl) (by as_aux_lemma => kernel_rfl) rfl rfl rfl rfl qKr qKr (by as_aux_lemma => kernel_rfl) (by as_aux_lemma => kernel_rfl)

theorem named : Try.pinned.checked.prog.funcNamed Rows.fnExactExportPartRow.func = some 10 := by kernel_rfl

theorem over : Rows.fnExactExportPartRow.holds Try.pinned (OpenSpec.ofChange Rows.fnExactExportPartSpec) :=
  OpenClaim.holds_of_wide 10 Try.f10 rfl rfl rfl rfl rfl rfl rfl ⟨rfl, rfl, rfl, rfl, rfl⟩ rfl rfl rfl rfl rfl named Try.func10 closed
    (of_decide_eq_true qKr) (by unfold Func.isWrapper; exact ⟨rfl, rfl⟩)
    (fun os started H enc _ => lifted os started H enc)

theorem proved : Rows.FnExactExportPartSaid := over

end Go.Proofs.Ytfbbnbpobojboaa.rowExportPart
