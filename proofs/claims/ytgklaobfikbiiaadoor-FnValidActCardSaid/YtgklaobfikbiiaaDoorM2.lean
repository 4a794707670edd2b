/- Texts of these proofs put together: SvE, SvF, SvG, SvD, SvH, KitB, SvI, GenB, GenC, GenD, SvJ, LvA, BufA, BufB, BufC, BufD, LvB, LvF, LvE, LvH, LvG, PureM, LvI, LvJ, BufE, KitC, KitD, KitF, BufO, KitE, KitG, BufF, BufP, BufQ, BufU, BufV, BufW, BufG, SvL, SvK, SvM. No condition. -/
import Derived.Test.YtgklaobfikbiiaaDoorM1
set_option linter.unusedVariables false
set_option linter.unusedSimpArgs false
/- Walks: cutDim of the reference. -/
namespace Go.Proofs.YtgklaobfikbiiaaDoor
open Go.RowKit
set_option linter.unusedVariables false
set_option maxRecDepth 100000


theorem PView.own {w w' : World} {base : Int} {shape strides : List Int} {v1 v2 : Value} (o1 : OwnZ w' w.heap.size v1 shape) (o2 : OwnZ w' w.heap.size v2 strides) (hd : shape ≠ [] → strides ≠ [] → v1.ownBlock ≠ v2.ownBlock) (l1 : shape.length ≤ 4194304) (l2 : strides.length ≤ 4194304) (hx : Ext w w') :
  PView w base shape strides (.returned (.agg #[.int .i64 base, v1, v2])) w' := ⟨v1, v2, rfl, o1.ints l1, o2.ints l2, o1, o2, hd, hx⟩

set_option maxHeartbeats 6400000 in
theorem cutDim_c (b1 : Int) (u1 v1 : Value) (s1 t1 : List Int) (d : Nat) (F T B : Int) (hf ht : Bool) (L : List Int) (w : World) (l1 m1 : Nat) (h1 : Ints w l1 u1 s1) (k1 : Ints w m1 v1 t1) (ha : viewB b1 s1 t1 = true) (hd : d < s1.length) (hs : sliceB F T B hf ht = true) (hL : idxS (s1.getD d 0) F T B hf ht = L) :
  Calls Tryd.prog 56 #[.agg #[.int .i64 b1, u1, v1], .int .i64 (d : Int), .agg #[.int .i64 F, .int .i64 T, .int .i64 B, .bool hf, .bool ht]] w (PView w (cutB b1 s1 t1 d L) (cutS s1 d L) (cutT s1 t1 d L)) := by
 have hlen1 := ints_len h1
 have hlen2 := ints_len k1
 obtain ⟨j1, j2, j3, j4, -⟩ := viewB_in ha
 have hd2 : d < t1.length := by omega
 have hin := Lib.hid j1
 have hst := Lib.hid j4
 have hsl := Lib.hid hs
 have hj2 := Lib.hid j2
 have hdI : (d : Int) < s1.length := by omega
 have hdI2 : (d : Int) < t1.length := by omega
 have hd0 : (0 : Int) ≤ d := by omega
 have hn60 : 0 ≤ s1.getD d 0 ∧ s1.getD d 0 ≤ 60 := (shapeB_in j1).2.1 _ (getD_mem hd)
 have hx60 : -60 ≤ t1.getD d 0 ∧ t1.getD d 0 ≤ 60 := j4 _ (getD_mem hd2)
 have hLI := Lib.hid hL
 have hLm : ∀ x ∈ L, 0 ≤ x ∧ x ≤ 60 := fun x hx => by rw [← hL] at hx; have := idxS_in hn60.1 (sliceB_in hs).2.2.2 x hx; omega
 have hLb : Hid (∀ x ∈ L, -1000000 ≤ x ∧ x ≤ 1000000) := Lib.hid (fun x hx => by have := hLm x hx; omega)
 obtain ⟨q1, q2, q3, q4⟩ := normL_bd (L := L) (fun x hx => by have := hLm x hx; omega)
 have q5 := q4 (by rw [← hL]; exact numL_nodup (sliceB_in hs).2.2.2)
 have hN : Hid (numL (normL L).1 (normL L).2.1 (normL L).2.2 = L) := Lib.hid (by rw [← hL]; exact norm_numL (sliceB_in hs).2.2.2)
 have hnum : Hid (∀ W, Calls Tryd.prog 62 #[.agg #[.int .i64 (normL L).1, .int .i64 (normL L).2.1, .int .i64 (normL L).2.2]] W (PInts W L)) := Lib.hid (fun W => by have := numbers_c (normL L).1 (normL L).2.1 (normL L).2.2 W q1 q2 q3 q5; rwa [hN.out] at this)
 have hAx : -60000 ≤ (normL L).1 * t1.getD d 0 ∧ (normL L).1 * t1.getD d 0 ≤ 60000 := mul_bdS q1 hx60
 have hCx : -60000 ≤ (normL L).2.2 * t1.getD d 0 ∧ (normL L).2.2 * t1.getD d 0 ≤ 60000 := mul_bdS q3 hx60
 have hne1 : s1 ≠ [] := fun h => by rw [h] at hd; simp at hd
 have hne2 : t1 ≠ [] := fun h => by rw [h] at hd2; simp at hd2
 have hLl : L.length ≤ 60 := by
  rcases num_len_le (sliceB_in hs).2.2.2 (idxS_in hn60.1 (sliceB_in hs).2.2.2) with h | h <;> (rw [← idxS, hL] at h; omega)
 clear ha j1 j2 j4 hs hL hLm q4 q5 hN
 obtain ⟨a1, cp1, rfl⟩ := h1.form
 obtain ⟨a2, cp2, rfl⟩ := k1.form
 obtain ⟨b1s, o1s, rfl, hc1⟩ := h1.at d hd
 obtain ⟨b2s, o2s, rfl, hc2⟩ := k1.at d hd2
 generalize hg : s1.getD d 0 = n at *
 replace hg := Lib.hid hg
 generalize hg2 : t1.getD d 0 = x at *
 replace hg2 := Lib.hid hg2
 have hnorm : ∀ (v : Value) (W : World) (lo : Nat), Ints W lo v L → Calls Tryd.prog 60 #[v] W (fun e w' => e = .returned (.agg #[.int .i64 (normL L).1, .int .i64 (normL L).2.1, .int .i64 (normL L).2.2]) ∧ Ext W w') := fun v W lo h => normal_c L v W lo h hLb.out
 generalize hN1 : (normL L).1 = A at *
 generalize hN2 : (normL L).2.1 = A2 at *
 generalize hN3 : (normL L).2.2 = A3 at *
 replace hnorm := Lib.hid hnorm
 replace hN1 := Lib.hid hN1
 replace hN2 := Lib.hid hN2
 replace hN3 := Lib.hid hN3
 have z_ea : b1s < w.heap.size := qB hc1
 have ea0 := hc1
 have y_ea := z_ea
 have z_eb : b2s < w.heap.size := qB hc2
 have eb0 := hc2
 have y_eb := z_eb
 clear hc1 hc2
 go_enter Tryd.func56, Tryd.ntmps56
 go_wp2_with fail
 refine (scopyView_c b1 _ _ s1 t1 _ l1 m1 (h1.ext qXo) (k1.ext qXo)).mono ?_
 rintro e w1 ⟨x1, x2, rfl, -, -, o1, o2, od, xw1⟩
 have Lw1 : Ext w w1 := Ext.trans qXt xw1
 have Xw1 : Ext w w1 := Lw1
 replace ea0 := Lw1.cell ea0
 replace eb0 := Lw1.cell eb0
 have va0 : w1.cell? ⟨w.heap.size, 0, none⟩ = some (.int .i64 b1) := xw1.cell qCl
 have va1 : w1.cell? ⟨w.heap.size, 1, none⟩ = some (.slice (some ⟨b1s, o1s, none⟩) s1.length cp1) := xw1.cell qCl
 have va2 : w1.cell? ⟨w.heap.size, 2, none⟩ = some (.slice (some ⟨b2s, o2s, none⟩) t1.length cp2) := xw1.cell qCl
 have sl0 : w1.cell? ⟨w.heap.size + 1, 0, none⟩ = some (.int .i64 F) := xw1.cell qCl
 have sl1 : w1.cell? ⟨w.heap.size + 1, 1, none⟩ = some (.int .i64 T) := xw1.cell qCl
 have sl2 : w1.cell? ⟨w.heap.size + 1, 2, none⟩ = some (.int .i64 B) := xw1.cell qCl
 have sl3 : w1.cell? ⟨w.heap.size + 1, 3, none⟩ = some (.bool hf) := xw1.cell qCl
 have sl4 : w1.cell? ⟨w.heap.size + 1, 4, none⟩ = some (.bool ht) := xw1.cell qCl
 have q0 : w1.cell? ⟨w.heap.size + 1 + 1, 0, none⟩ = some (.int .i64 0) := xw1.cell qCl
 have q1 : w1.cell? ⟨w.heap.size + 1 + 1, 1, none⟩ = some (.slice none 0 0) := xw1.cell qCl
 have q2 : w1.cell? ⟨w.heap.size + 1 + 1, 2, none⟩ = some (.slice none 0 0) := xw1.cell qCl
 have f_q0 : w1.frozen? ⟨w.heap.size + 1 + 1, 0, none⟩ = false := xw1.frz (by simp <;> omega) qFz
 have f_q1 : w1.frozen? ⟨w.heap.size + 1 + 1, 1, none⟩ = false := xw1.frz (by simp <;> omega) qFz
 have f_q2 : w1.frozen? ⟨w.heap.size + 1 + 1, 2, none⟩ = false := xw1.frz (by simp <;> omega) qFz
 have z_ea : b1s < w1.heap.size := qB ea0
 have z_eb : b2s < w1.heap.size := qB eb0
 have z_va : w.heap.size < w1.heap.size := qB va0
 have z_sl : w.heap.size + 1 < w1.heap.size := qB sl0
 have z_q : w.heap.size + 1 + 1 < w1.heap.size := qB q0
 have s_w1 : w.heap.size ≤ w1.heap.size := Xw1.size
 clear xw1
 have O1 := (o1.ofNe hne1).lower (show w.heap.size + 3 ≤ _ by simp)
 have O2 := (o2.ofNe hne2).lower (show w.heap.size + 3 ≤ _ by simp)
 clear o1 o2
 obtain ⟨g1, r1, rfl, G1, G1'⟩ := O1.row hne1
 obtain ⟨g2, r2, rfl, G2, G2'⟩ := O2.row hne2
 have hgg : g1 ≠ g2 := fun h => od hne1 hne2 (by rw [h]; rfl)
 clear od
 go_wp2_with fail
 generalize hW1 : w1.alloc (.cells #[.int .i64 b1, .slice (some ⟨g1, 0, none⟩) s1.length r1, .slice (some ⟨g2, 0, none⟩) t1.length r2] 54) = w2 at *
 have Lw2 : Ext w1 w2 := by subst hW1; exact qXt
 have Xw2 : Ext w w2 := Xw1.trans Lw2
 replace ea0 := Lw2.cell ea0
 replace eb0 := Lw2.cell eb0
 replace va0 := Lw2.cell va0
 replace va1 := Lw2.cell va1
 replace va2 := Lw2.cell va2
 replace sl0 := Lw2.cell sl0
 replace sl1 := Lw2.cell sl1
 replace sl2 := Lw2.cell sl2
 replace sl3 := Lw2.cell sl3
 replace sl4 := Lw2.cell sl4
 replace q0 := Lw2.cell q0
 replace q1 := Lw2.cell q1
 replace q2 := Lw2.cell q2
 replace f_q0 := Lw2.frz z_q f_q0
 replace f_q1 := Lw2.frz z_q f_q1
 replace f_q2 := Lw2.frz z_q f_q2
 have y0 : w2.cell? ⟨w1.heap.size, 0, none⟩ = some (.int .i64 b1) := by subst hW1; exact qCl
 have y1 : w2.cell? ⟨w1.heap.size, 1, none⟩ = some (.slice (some ⟨g1, 0, none⟩) s1.length r1) := by subst hW1; exact qCl
 have y2 : w2.cell? ⟨w1.heap.size, 2, none⟩ = some (.slice (some ⟨g2, 0, none⟩) t1.length r2) := by subst hW1; exact qCl
 have f_y0 : w2.frozen? ⟨w1.heap.size, 0, none⟩ = false := by subst hW1; exact qFz
 have f_y1 : w2.frozen? ⟨w1.heap.size, 1, none⟩ = false := by subst hW1; exact qFz
 have f_y2 : w2.frozen? ⟨w1.heap.size, 2, none⟩ = false := by subst hW1; exact qFz
 have z_ea : b1s < w2.heap.size := qB ea0
 have z_eb : b2s < w2.heap.size := qB eb0
 have z_va : w.heap.size < w2.heap.size := qB va0
 have z_sl : w.heap.size + 1 < w2.heap.size := qB sl0
 have z_q : w.heap.size + 1 + 1 < w2.heap.size := qB q0
 have z_y : w1.heap.size < w2.heap.size := qB y0
 replace O1 := O1.ext Lw2
 replace O2 := O2.ext Lw2
 have s_w2 : w.heap.size ≤ w2.heap.size := Xw2.size
 clear hW1
 go_cut [8] (fun s8 wx => ∃ g : Nat, s8 = .pointer (some ⟨g, 0, none⟩) ∧ Ext w2 wx ∧ w2.heap.size ≤ g ∧ wx.cell? ⟨g, 0, none⟩ = some (.int .i64 A) ∧ wx.cell? ⟨g, 1, none⟩ = some (.int .i64 A2) ∧ wx.cell? ⟨g, 2, none⟩ = some (.int .i64 A3))
 case first =>
  refine wp_region_held_drew (S := fun w' => w'.cell? ⟨b1s, o1s + d, none⟩ = some (.int .i64 n) ∧ w'.cell? ⟨w.heap.size, 1, none⟩ = some (.slice (some ⟨b1s, o1s, none⟩) s1.length cp1) ∧ w'.cell? ⟨w.heap.size + 1, 0, none⟩ = some (.int .i64 F) ∧ w'.cell? ⟨w.heap.size + 1, 1, none⟩ = some (.int .i64 T) ∧ w'.cell? ⟨w.heap.size + 1, 2, none⟩ = some (.int .i64 B) ∧ w'.cell? ⟨w.heap.size + 1, 3, none⟩ = some (.bool hf) ∧ w'.cell? ⟨w.heap.size + 1, 4, none⟩ = some (.bool ht)) qKr ⟨ea0, va1, sl0, sl1, sl2, sl3, sl4⟩ (fun hHeld => ?_)
  refine qHk (v := ?_) 0 rfl (.inl ⟨by rfl, ?_⟩) ?_
  rotate_left
  ·
   (intro w hSw; (try dsimp only at hSw); go_simp; try with_reducible rfl)
  try simp only [Act.put, qa, qb, qc, qD, qE, qF]
  refine qHk (v := ?_) 1 rfl (.inl ⟨by rfl, ?_⟩) ?_
  rotate_left
  ·
   (intro w hSw; (try dsimp only at hSw); go_simp; try with_reducible rfl)
  try simp only [Act.put, qa, qb, qc, qD, qE, qF]
  refine qHk (v := ?_) 2 rfl (.inl ⟨by rfl, ?_⟩) ?_
  rotate_left
  ·
   (intro w hSw; (try dsimp only at hSw); go_simp; try with_reducible rfl)
  try simp only [Act.put, qa, qb, qc, qD, qE, qF]
  refine qHk (v := ?_) 3 rfl (.inl ⟨by rfl, ?_⟩) ?_
  rotate_left
  ·
   (intro w hSw; (try dsimp only at hSw); go_simp; try with_reducible rfl)
  try simp only [Act.put, qa, qb, qc, qD, qE, qF]
  refine qHk (v := ?_) 4 rfl (.inl ⟨by rfl, ?_⟩) ?_
  rotate_left
  ·
   (intro w hSw; (try dsimp only at hSw); go_simp; try with_reducible rfl)
  try simp only [Act.put, qa, qb, qc, qD, qE, qF]
  refine qHk (v := ?_) 5 rfl (.inl ⟨by rfl, ?_⟩) ?_
  rotate_left
  ·
   (intro w hSw; (try dsimp only at hSw); go_simp; try with_reducible rfl)
  try simp only [Act.put, qa, qb, qc, qD, qE, qF]
  refine wpAnyH_ready (rs := [6, 8]) qKr (by simp) ?_
  refine AllReadyH.cons rfl (fun K hK => ?_) (AllReadyH.cons rfl (fun K hK => ?_) AllReadyH.nil)
  rotate_left
  try simp only [Act.put, qa, qb, qc, qD, qE, qF]
  go_simp
  refine hK.out _ _ ⟨(show Ext w2 _ from qXt).cell ea0, (show Ext w2 _ from qXt).cell va1, (show Ext w2 _ from qXt).cell sl0, (show Ext w2 _ from qXt).cell sl1, (show Ext w2 _ from qXt).cell sl2, (show Ext w2 _ from qXt).cell sl3, (show Ext w2 _ from qXt).cell sl4⟩ (fun hHeld => ?_)
  clear hK K
  try simp only [Act.put, qa, qb, qc, qD, qE, qF]
  have qa0 : (w2.drew.alloc (.cells #[.int .i64 0, .int .i64 0, .int .i64 0] 90)).cell? ⟨w2.heap.size, 0, none⟩ = some (.int .i64 0) := qCl
  have qf0 : (w2.drew.alloc (.cells #[.int .i64 0, .int .i64 0, .int .i64 0] 90)).frozen? ⟨w2.heap.size, 0, none⟩ = false := qFz
  have qa1 : (w2.drew.alloc (.cells #[.int .i64 0, .int .i64 0, .int .i64 0] 90)).cell? ⟨w2.heap.size, 1, none⟩ = some (.int .i64 0) := qCl
  have qf1 : (w2.drew.alloc (.cells #[.int .i64 0, .int .i64 0, .int .i64 0] 90)).frozen? ⟨w2.heap.size, 1, none⟩ = false := qFz
  have qa2 : (w2.drew.alloc (.cells #[.int .i64 0, .int .i64 0, .int .i64 0] 90)).cell? ⟨w2.heap.size, 2, none⟩ = some (.int .i64 0) := qCl
  have qf2 : (w2.drew.alloc (.cells #[.int .i64 0, .int .i64 0, .int .i64 0] 90)).frozen? ⟨w2.heap.size, 2, none⟩ = false := qFz
  have zg : w2.heap.size < (w2.drew.alloc (.cells #[.int .i64 0, .int .i64 0, .int .i64 0] 90)).heap.size := qB qa0
  have hg : w2.heap.size ≤ w2.heap.size := Nat.le_refl _
  refine qHr 6 rfl (fun K hK => ?_)
  try simp only [Act.put, qa, qb, qc, qD, qE, qF]
  go_simp
  refine (indices_c n F T B hf ht _ (by omega) hsl.out).mono ?_
  rintro e w3 ⟨r3, rfl, i3, -, xw3⟩
  have Lw3 : Ext w2 w3 := Ext.trans qXt xw3
  replace ea0 := Lw3.cell ea0
  replace va1 := Lw3.cell va1
  replace sl0 := Lw3.cell sl0
  replace sl1 := Lw3.cell sl1
  replace sl2 := Lw3.cell sl2
  replace sl3 := Lw3.cell sl3
  replace sl4 := Lw3.cell sl4
  rw [hLI.out] at i3
  replace qa0 := xw3.cell qa0
  replace qf0 := xw3.frz zg qf0
  replace qa1 := xw3.cell qa1
  replace qf1 := xw3.frz zg qf1
  replace qa2 := xw3.cell qa2
  replace qf2 := xw3.frz zg qf2
  replace zg := Nat.lt_of_lt_of_le zg xw3.size
  refine hK.out _ _ ⟨ea0, va1, sl0, sl1, sl2, sl3, sl4⟩ (fun hHeld => ?_)
  clear hK K
  try simp only [Act.put, qa, qb, qc, qD, qE, qF]
  refine qHr 7 rfl (fun K hK => ?_)
  try simp only [Act.put, qa, qb, qc, qD, qE, qF]
  go_simp
  refine (hnorm.out _ _ _ (i3.ext qXt)).mono ?_
  rintro e w4 ⟨rfl, xw4⟩
  have Lw4 : Ext w3 w4 := Ext.trans qXt xw4
  replace ea0 := Lw4.cell ea0
  replace va1 := Lw4.cell va1
  replace sl0 := Lw4.cell sl0
  replace sl1 := Lw4.cell sl1
  replace sl2 := Lw4.cell sl2
  replace sl3 := Lw4.cell sl3
  replace sl4 := Lw4.cell sl4
  replace qa0 := xw4.cell qa0
  replace qf0 := xw4.frz zg qf0
  replace qa1 := xw4.cell qa1
  replace qf1 := xw4.frz zg qf1
  replace qa2 := xw4.cell qa2
  replace qf2 := xw4.frz zg qf2
  replace zg := Nat.lt_of_lt_of_le zg xw4.size
  refine hK.out _ _ ⟨ea0, va1, sl0, sl1, sl2, sl3, sl4⟩ (fun hHeld => ?_)
  clear hK K
  try simp only [Act.put, qa, qb, qc, qD, qE, qF]
  refine qHr 9 rfl (fun K hK => ?_)
  try simp only [Act.put, qa, qb, qc, qD, qE, qF]
  go_simp
  have XE : Ext w2 (((w4.setCell ⟨w2.heap.size, 0, none⟩ (.int .i64 A)).setCell ⟨w2.heap.size, 1, none⟩ (.int .i64 A2)).setCell ⟨w2.heap.size, 2, none⟩ (.int .i64 A3)) := (Ext.setCell (Ext.setCell (Ext.setCell (Lw3.trans Lw4) hg _) hg _) hg _)
  have nr0 : (((w4.setCell ⟨w2.heap.size, 0, none⟩ (.int .i64 A)).setCell ⟨w2.heap.size, 1, none⟩ (.int .i64 A2)).setCell ⟨w2.heap.size, 2, none⟩ (.int .i64 A3)).cell? ⟨w2.heap.size, 0, none⟩ = some (.int .i64 A) := qCl
  have f_nr0 : (((w4.setCell ⟨w2.heap.size, 0, none⟩ (.int .i64 A)).setCell ⟨w2.heap.size, 1, none⟩ (.int .i64 A2)).setCell ⟨w2.heap.size, 2, none⟩ (.int .i64 A3)).frozen? ⟨w2.heap.size, 0, none⟩ = false := qFz
  have nr1 : (((w4.setCell ⟨w2.heap.size, 0, none⟩ (.int .i64 A)).setCell ⟨w2.heap.size, 1, none⟩ (.int .i64 A2)).setCell ⟨w2.heap.size, 2, none⟩ (.int .i64 A3)).cell? ⟨w2.heap.size, 1, none⟩ = some (.int .i64 A2) := qCl
  have f_nr1 : (((w4.setCell ⟨w2.heap.size, 0, none⟩ (.int .i64 A)).setCell ⟨w2.heap.size, 1, none⟩ (.int .i64 A2)).setCell ⟨w2.heap.size, 2, none⟩ (.int .i64 A3)).frozen? ⟨w2.heap.size, 1, none⟩ = false := qFz
  have nr2 : (((w4.setCell ⟨w2.heap.size, 0, none⟩ (.int .i64 A)).setCell ⟨w2.heap.size, 1, none⟩ (.int .i64 A2)).setCell ⟨w2.heap.size, 2, none⟩ (.int .i64 A3)).cell? ⟨w2.heap.size, 2, none⟩ = some (.int .i64 A3) := qCl
  have f_nr2 : (((w4.setCell ⟨w2.heap.size, 0, none⟩ (.int .i64 A)).setCell ⟨w2.heap.size, 1, none⟩ (.int .i64 A2)).setCell ⟨w2.heap.size, 2, none⟩ (.int .i64 A3)).frozen? ⟨w2.heap.size, 2, none⟩ = false := qFz
  have hg1 : w2.heap.size ≤ w2.heap.size := hg
  have KE : Chg w2.heap.size (w2.heap.size + 1) w4 (((w4.setCell ⟨w2.heap.size, 0, none⟩ (.int .i64 A)).setCell ⟨w2.heap.size, 1, none⟩ (.int .i64 A2)).setCell ⟨w2.heap.size, 2, none⟩ (.int .i64 A3)) := (by repeat (first | (with_reducible exact Chg.refl _ _ _) | (with_reducible refine Chg.setCell ?_ qSo qSo _) | (with_reducible refine Chg.ext ?_ (Ext.alloc (Ext.refl _) _)) | (with_reducible refine Chg.ext ?_ (Ext.drew (Ext.refl _)))))
  replace ea0 := KE.cell (by omega) ea0
  replace va1 := KE.cell (by omega) va1
  replace sl0 := KE.cell (by omega) sl0
  replace sl1 := KE.cell (by omega) sl1
  replace sl2 := KE.cell (by omega) sl2
  replace sl3 := KE.cell (by omega) sl3
  replace sl4 := KE.cell (by omega) sl4
  refine hK.out _ _ ⟨ea0, va1, sl0, sl1, sl2, sl3, sl4⟩ (fun hHeld => ?_)
  clear hK K KE
  try simp only [Act.put, qa, qb, qc, qD, qE, qF]
  refine wpAnyH_done qKr ?_ _
  clear hHeld
  generalize (((w4.setCell ⟨w2.heap.size, 0, none⟩ (.int .i64 A)).setCell ⟨w2.heap.size, 1, none⟩ (.int .i64 A2)).setCell ⟨w2.heap.size, 2, none⟩ (.int .i64 A3)) = WE at *
  go_step
  go_step
  go_meet
  case rel => exact ⟨_, rfl, XE, hg1, nr0, nr1, nr2⟩
  try simp only [Act.put, qa, qb, qc, qD, qE, qF]
  go_simp
  refine (indices_c n F T B hf ht _ (by omega) hsl.out).mono ?_
  rintro e w3 ⟨r3, rfl, i3, -, xw3⟩
  have Lw3 : Ext w2 w3 := Ext.trans qXt xw3
  replace ea0 := Lw3.cell ea0
  replace va1 := Lw3.cell va1
  replace sl0 := Lw3.cell sl0
  replace sl1 := Lw3.cell sl1
  replace sl2 := Lw3.cell sl2
  replace sl3 := Lw3.cell sl3
  replace sl4 := Lw3.cell sl4
  rw [hLI.out] at i3
  refine hK.out _ _ ⟨ea0, va1, sl0, sl1, sl2, sl3, sl4⟩ (fun hHeld => ?_)
  clear hK K
  try simp only [Act.put, qa, qb, qc, qD, qE, qF]
  refine wpAnyH_ready (rs := [7, 8]) qKr (by simp) ?_
  refine AllReadyH.cons rfl (fun K hK => ?_) (AllReadyH.cons rfl (fun K hK => ?_) AllReadyH.nil)
  rotate_left
  try simp only [Act.put, qa, qb, qc, qD, qE, qF]
  go_simp
  refine hK.out _ _ ⟨(show Ext w3 _ from qXt).cell ea0, (show Ext w3 _ from qXt).cell va1, (show Ext w3 _ from qXt).cell sl0, (show Ext w3 _ from qXt).cell sl1, (show Ext w3 _ from qXt).cell sl2, (show Ext w3 _ from qXt).cell sl3, (show Ext w3 _ from qXt).cell sl4⟩ (fun hHeld => ?_)
  clear hK K
  try simp only [Act.put, qa, qb, qc, qD, qE, qF]
  have qa0 : (w3.alloc (.cells #[.int .i64 0, .int .i64 0, .int .i64 0] 90)).cell? ⟨w3.heap.size, 0, none⟩ = some (.int .i64 0) := qCl
  have qf0 : (w3.alloc (.cells #[.int .i64 0, .int .i64 0, .int .i64 0] 90)).frozen? ⟨w3.heap.size, 0, none⟩ = false := qFz
  have qa1 : (w3.alloc (.cells #[.int .i64 0, .int .i64 0, .int .i64 0] 90)).cell? ⟨w3.heap.size, 1, none⟩ = some (.int .i64 0) := qCl
  have qf1 : (w3.alloc (.cells #[.int .i64 0, .int .i64 0, .int .i64 0] 90)).frozen? ⟨w3.heap.size, 1, none⟩ = false := qFz
  have qa2 : (w3.alloc (.cells #[.int .i64 0, .int .i64 0, .int .i64 0] 90)).cell? ⟨w3.heap.size, 2, none⟩ = some (.int .i64 0) := qCl
  have qf2 : (w3.alloc (.cells #[.int .i64 0, .int .i64 0, .int .i64 0] 90)).frozen? ⟨w3.heap.size, 2, none⟩ = false := qFz
  have zg : w3.heap.size < (w3.alloc (.cells #[.int .i64 0, .int .i64 0, .int .i64 0] 90)).heap.size := qB qa0
  have hg : w2.heap.size ≤ w3.heap.size := (Lw3).size
  refine qHr 7 rfl (fun K hK => ?_)
  try simp only [Act.put, qa, qb, qc, qD, qE, qF]
  go_simp
  refine (hnorm.out _ _ _ (i3.ext qXt)).mono ?_
  rintro e w4 ⟨rfl, xw4⟩
  have Lw4 : Ext w3 w4 := Ext.trans qXt xw4
  replace ea0 := Lw4.cell ea0
  replace va1 := Lw4.cell va1
  replace sl0 := Lw4.cell sl0
  replace sl1 := Lw4.cell sl1
  replace sl2 := Lw4.cell sl2
  replace sl3 := Lw4.cell sl3
  replace sl4 := Lw4.cell sl4
  replace qa0 := xw4.cell qa0
  replace qf0 := xw4.frz zg qf0
  replace qa1 := xw4.cell qa1
  replace qf1 := xw4.frz zg qf1
  replace qa2 := xw4.cell qa2
  replace qf2 := xw4.frz zg qf2
  replace zg := Nat.lt_of_lt_of_le zg xw4.size
  refine hK.out _ _ ⟨ea0, va1, sl0, sl1, sl2, sl3, sl4⟩ (fun hHeld => ?_)
  clear hK K
  try simp only [Act.put, qa, qb, qc, qD, qE, qF]
  refine qHr 9 rfl (fun K hK => ?_)
  try simp only [Act.put, qa, qb, qc, qD, qE, qF]
  go_simp
  have XE : Ext w2 (((w4.setCell ⟨w3.heap.size, 0, none⟩ (.int .i64 A)).setCell ⟨w3.heap.size, 1, none⟩ (.int .i64 A2)).setCell ⟨w3.heap.size, 2, none⟩ (.int .i64 A3)) := (Ext.setCell (Ext.setCell (Ext.setCell (Lw3.trans Lw4) hg _) hg _) hg _)
  have nr0 : (((w4.setCell ⟨w3.heap.size, 0, none⟩ (.int .i64 A)).setCell ⟨w3.heap.size, 1, none⟩ (.int .i64 A2)).setCell ⟨w3.heap.size, 2, none⟩ (.int .i64 A3)).cell? ⟨w3.heap.size, 0, none⟩ = some (.int .i64 A) := qCl
  have f_nr0 : (((w4.setCell ⟨w3.heap.size, 0, none⟩ (.int .i64 A)).setCell ⟨w3.heap.size, 1, none⟩ (.int .i64 A2)).setCell ⟨w3.heap.size, 2, none⟩ (.int .i64 A3)).frozen? ⟨w3.heap.size, 0, none⟩ = false := qFz
  have nr1 : (((w4.setCell ⟨w3.heap.size, 0, none⟩ (.int .i64 A)).setCell ⟨w3.heap.size, 1, none⟩ (.int .i64 A2)).setCell ⟨w3.heap.size, 2, none⟩ (.int .i64 A3)).cell? ⟨w3.heap.size, 1, none⟩ = some (.int .i64 A2) := qCl
  have f_nr1 : (((w4.setCell ⟨w3.heap.size, 0, none⟩ (.int .i64 A)).setCell ⟨w3.heap.size, 1, none⟩ (.int .i64 A2)).setCell ⟨w3.heap.size, 2, none⟩ (.int .i64 A3)).frozen? ⟨w3.heap.size, 1, none⟩ = false := qFz
  have nr2 : (((w4.setCell ⟨w3.heap.size, 0, none⟩ (.int .i64 A)).setCell ⟨w3.heap.size, 1, none⟩ (.int .i64 A2)).setCell ⟨w3.heap.size, 2, none⟩ (.int .i64 A3)).cell? ⟨w3.heap.size, 2, none⟩ = some (.int .i64 A3) := qCl
  have f_nr2 : (((w4.setCell ⟨w3.heap.size, 0, none⟩ (.int .i64 A)).setCell ⟨w3.heap.size, 1, none⟩ (.int .i64 A2)).setCell ⟨w3.heap.size, 2, none⟩ (.int .i64 A3)).frozen? ⟨w3.heap.size, 2, none⟩ = false := qFz
  have hg1 : w2.heap.size ≤ w3.heap.size := hg
  have KE : Chg w3.heap.size (w3.heap.size + 1) w4 (((w4.setCell ⟨w3.heap.size, 0, none⟩ (.int .i64 A)).setCell ⟨w3.heap.size, 1, none⟩ (.int .i64 A2)).setCell ⟨w3.heap.size, 2, none⟩ (.int .i64 A3)) := (by repeat (first | (with_reducible exact Chg.refl _ _ _) | (with_reducible refine Chg.setCell ?_ qSo qSo _) | (with_reducible refine Chg.ext ?_ (Ext.alloc (Ext.refl _) _)) | (with_reducible refine Chg.ext ?_ (Ext.drew (Ext.refl _)))))
  replace ea0 := KE.cell (by omega) ea0
  replace va1 := KE.cell (by omega) va1
  replace sl0 := KE.cell (by omega) sl0
  replace sl1 := KE.cell (by omega) sl1
  replace sl2 := KE.cell (by omega) sl2
  replace sl3 := KE.cell (by omega) sl3
  replace sl4 := KE.cell (by omega) sl4
  refine hK.out _ _ ⟨ea0, va1, sl0, sl1, sl2, sl3, sl4⟩ (fun hHeld => ?_)
  clear hK K KE
  try simp only [Act.put, qa, qb, qc, qD, qE, qF]
  refine wpAnyH_done qKr ?_ _
  clear hHeld
  generalize (((w4.setCell ⟨w3.heap.size, 0, none⟩ (.int .i64 A)).setCell ⟨w3.heap.size, 1, none⟩ (.int .i64 A2)).setCell ⟨w3.heap.size, 2, none⟩ (.int .i64 A3)) = WE at *
  go_step
  go_step
  go_meet
  case rel => exact ⟨_, rfl, XE, hg1, nr0, nr1, nr2⟩
  try simp only [Act.put, qa, qb, qc, qD, qE, qF]
  go_simp
  refine (hnorm.out _ _ _ (i3.ext qXt)).mono ?_
  rintro e w4 ⟨rfl, xw4⟩
  have Lw4 : Ext w3 w4 := Ext.trans qXt xw4
  replace ea0 := Lw4.cell ea0
  replace va1 := Lw4.cell va1
  replace sl0 := Lw4.cell sl0
  replace sl1 := Lw4.cell sl1
  replace sl2 := Lw4.cell sl2
  replace sl3 := Lw4.cell sl3
  replace sl4 := Lw4.cell sl4
  refine hK.out _ _ ⟨ea0, va1, sl0, sl1, sl2, sl3, sl4⟩ (fun hHeld => ?_)
  clear hK K
  try simp only [Act.put, qa, qb, qc, qD, qE, qF]
  refine qHr 8 rfl (fun K hK => ?_)
  try simp only [Act.put, qa, qb, qc, qD, qE, qF]
  go_simp
  refine hK.out _ _ ⟨(show Ext w4 _ from qXt).cell ea0, (show Ext w4 _ from qXt).cell va1, (show Ext w4 _ from qXt).cell sl0, (show Ext w4 _ from qXt).cell sl1, (show Ext w4 _ from qXt).cell sl2, (show Ext w4 _ from qXt).cell sl3, (show Ext w4 _ from qXt).cell sl4⟩ (fun hHeld => ?_)
  clear hK K
  try simp only [Act.put, qa, qb, qc, qD, qE, qF]
  refine qHr 9 rfl (fun K hK => ?_)
  try simp only [Act.put, qa, qb, qc, qD, qE, qF]
  go_simp
  have XE : Ext w2 (w4.alloc (.cells #[.int .i64 A, .int .i64 A2, .int .i64 A3] 90)) := (Lw3.trans Lw4).trans qXo
  have nr0 : (w4.alloc (.cells #[.int .i64 A, .int .i64 A2, .int .i64 A3] 90)).cell? ⟨w4.heap.size, 0, none⟩ = some (.int .i64 A) := qCl
  have f_nr0 : (w4.alloc (.cells #[.int .i64 A, .int .i64 A2, .int .i64 A3] 90)).frozen? ⟨w4.heap.size, 0, none⟩ = false := qFz
  have nr1 : (w4.alloc (.cells #[.int .i64 A, .int .i64 A2, .int .i64 A3] 90)).cell? ⟨w4.heap.size, 1, none⟩ = some (.int .i64 A2) := qCl
  have f_nr1 : (w4.alloc (.cells #[.int .i64 A, .int .i64 A2, .int .i64 A3] 90)).frozen? ⟨w4.heap.size, 1, none⟩ = false := qFz
  have nr2 : (w4.alloc (.cells #[.int .i64 A, .int .i64 A2, .int .i64 A3] 90)).cell? ⟨w4.heap.size, 2, none⟩ = some (.int .i64 A3) := qCl
  have f_nr2 : (w4.alloc (.cells #[.int .i64 A, .int .i64 A2, .int .i64 A3] 90)).frozen? ⟨w4.heap.size, 2, none⟩ = false := qFz
  have hg1 : w2.heap.size ≤ w4.heap.size := (Lw3.trans Lw4).size
  have KE : Ext w4 (w4.alloc (.cells #[.int .i64 A, .int .i64 A2, .int .i64 A3] 90)) := qXo
  replace ea0 := KE.cell ea0
  replace va1 := KE.cell va1
  replace sl0 := KE.cell sl0
  replace sl1 := KE.cell sl1
  replace sl2 := KE.cell sl2
  replace sl3 := KE.cell sl3
  replace sl4 := KE.cell sl4
  refine hK.out _ _ ⟨ea0, va1, sl0, sl1, sl2, sl3, sl4⟩ (fun hHeld => ?_)
  clear hK K KE
  try simp only [Act.put, qa, qb, qc, qD, qE, qF]
  refine wpAnyH_done qKr ?_ _
  clear hHeld
  generalize (w4.alloc (.cells #[.int .i64 A, .int .i64 A2, .int .i64 A3] 90)) = WE at *
  go_step
  go_step
  go_meet
  case rel => exact ⟨_, rfl, XE, hg1, nr0, nr1, nr2⟩
 case rest =>
  obtain ⟨g, rfl, xx, hgs, e0, e1, e2⟩ := hcut
  have hge : w1.heap.size < g := by omega
  have Lwc : Ext w2 wc := Ext.trans qXt xx
  have Xwc : Ext w wc := Xw2.trans Lwc
  replace ea0 := Lwc.cell ea0
  replace eb0 := Lwc.cell eb0
  replace va0 := Lwc.cell va0
  replace va1 := Lwc.cell va1
  replace va2 := Lwc.cell va2
  replace sl0 := Lwc.cell sl0
  replace sl1 := Lwc.cell sl1
  replace sl2 := Lwc.cell sl2
  replace sl3 := Lwc.cell sl3
  replace sl4 := Lwc.cell sl4
  replace q0 := Lwc.cell q0
  replace q1 := Lwc.cell q1
  replace q2 := Lwc.cell q2
  replace f_q0 := Lwc.frz z_q f_q0
  replace f_q1 := Lwc.frz z_q f_q1
  replace f_q2 := Lwc.frz z_q f_q2
  replace y0 := Lwc.cell y0
  replace y1 := Lwc.cell y1
  replace y2 := Lwc.cell y2
  replace f_y0 := Lwc.frz z_y f_y0
  replace f_y1 := Lwc.frz z_y f_y1
  replace f_y2 := Lwc.frz z_y f_y2
  have z_ea : b1s < wc.heap.size := qB ea0
  have z_eb : b2s < wc.heap.size := qB eb0
  have z_va : w.heap.size < wc.heap.size := qB va0
  have z_sl : w.heap.size + 1 < wc.heap.size := qB sl0
  have z_q : w.heap.size + 1 + 1 < wc.heap.size := qB q0
  have z_y : w1.heap.size < wc.heap.size := qB y0
  replace O1 := O1.ext Lwc
  replace O2 := O2.ext Lwc
  have s_wc : w.heap.size ≤ wc.heap.size := Xwc.size
  have z_e : g < wc.heap.size := qB e0
  clear xx hnorm
  go_wp2_with fail
  refine (hnum.out _).mono ?_
  rintro e w6 ⟨v9, rfl, i9, -, xw6⟩
  have Lw6 : Ext wc w6 := Ext.trans qXt xw6
  have Xw6 : Ext w w6 := Xwc.trans Lw6
  replace ea0 := Lw6.cell ea0
  replace eb0 := Lw6.cell eb0
  replace va0 := Lw6.cell va0
  replace va1 := Lw6.cell va1
  replace va2 := Lw6.cell va2
  replace sl0 := Lw6.cell sl0
  replace sl1 := Lw6.cell sl1
  replace sl2 := Lw6.cell sl2
  replace sl3 := Lw6.cell sl3
  replace sl4 := Lw6.cell sl4
  replace q0 := Lw6.cell q0
  replace q1 := Lw6.cell q1
  replace q2 := Lw6.cell q2
  replace f_q0 := Lw6.frz z_q f_q0
  replace f_q1 := Lw6.frz z_q f_q1
  replace f_q2 := Lw6.frz z_q f_q2
  replace y0 := Lw6.cell y0
  replace y1 := Lw6.cell y1
  replace y2 := Lw6.cell y2
  replace f_y0 := Lw6.frz z_y f_y0
  replace f_y1 := Lw6.frz z_y f_y1
  replace f_y2 := Lw6.frz z_y f_y2
  replace e0 := Lw6.cell e0
  replace e1 := Lw6.cell e1
  replace e2 := Lw6.cell e2
  have z_ea : b1s < w6.heap.size := qB ea0
  have z_eb : b2s < w6.heap.size := qB eb0
  have z_va : w.heap.size < w6.heap.size := qB va0
  have z_sl : w.heap.size + 1 < w6.heap.size := qB sl0
  have z_q : w.heap.size + 1 + 1 < w6.heap.size := qB q0
  have z_y : w1.heap.size < w6.heap.size := qB y0
  have z_e : g < w6.heap.size := qB e0
  replace O1 := O1.ext Lw6
  replace O2 := O2.ext Lw6
  have s_w6 : w.heap.size ≤ w6.heap.size := Xw6.size
  clear xw6
  obtain ⟨p9, n9, rfl⟩ := i9.form
  have A1 := O1.cell d hd
  obtain ⟨A1a, A1b⟩ := A1
  go_wp2_with fail
  generalize hW2 : (w6.setCell ⟨g1, d, none⟩ (.int .i64 (L.length : Int))) = w7 at *
  have Kw7 : Chg (g1) (g1 + 1) w6 w7 := by subst hW2; exact qCh
  have Xw7 : Ext w w7 := by subst hW2; exact qXt
  replace ea0 := Kw7.cell (by omega) ea0
  replace eb0 := Kw7.cell (by omega) eb0
  replace va0 := Kw7.cell (by omega) va0
  replace va1 := Kw7.cell (by omega) va1
  replace va2 := Kw7.cell (by omega) va2
  replace sl0 := Kw7.cell (by omega) sl0
  replace sl1 := Kw7.cell (by omega) sl1
  replace sl2 := Kw7.cell (by omega) sl2
  replace sl3 := Kw7.cell (by omega) sl3
  replace sl4 := Kw7.cell (by omega) sl4
  replace q0 := Kw7.cell (by omega) q0
  replace f_q0 := Kw7.frzO (by omega) z_q f_q0
  replace q1 := Kw7.cell (by omega) q1
  replace f_q1 := Kw7.frzO (by omega) z_q f_q1
  replace q2 := Kw7.cell (by omega) q2
  replace f_q2 := Kw7.frzO (by omega) z_q f_q2
  replace y0 := Kw7.cell (by omega) y0
  replace f_y0 := Kw7.frzO (by omega) z_y f_y0
  replace y1 := Kw7.cell (by omega) y1
  replace f_y1 := Kw7.frzO (by omega) z_y f_y1
  replace y2 := Kw7.cell (by omega) y2
  replace f_y2 := Kw7.frzO (by omega) z_y f_y2
  replace e0 := Kw7.cell (by omega) e0
  replace e1 := Kw7.cell (by omega) e1
  replace e2 := Kw7.cell (by omega) e2
  have n_O1 := O1.set d (L.length) (by first | omega | (simp; omega))
  rw [hW2] at n_O1
  replace O1 := n_O1
  clear n_O1
  replace O2 := O2.chgN Kw7 (by omega)
  clear Kw7
  have z_ea : b1s < w7.heap.size := qB ea0
  have z_eb : b2s < w7.heap.size := qB eb0
  have z_va : w.heap.size < w7.heap.size := qB va0
  have z_sl : w.heap.size + 1 < w7.heap.size := qB sl0
  have z_q : w.heap.size + 1 + 1 < w7.heap.size := qB q0
  have z_y : w1.heap.size < w7.heap.size := qB y0
  have z_e : g < w7.heap.size := qB e0
  have s_w7 : w.heap.size ≤ w7.heap.size := Xw7.size
  clear hW2
  go_wp2_with fail
  have hw0 : IntKind.i64.wrap (A * x) = A * x := IntWalk.i64_in _ (by omega)
  have hw1 : IntKind.i64.wrap (b1 + A * x) = b1 + A * x := IntWalk.i64_in _ (by omega)
  refine wp_region_tail (S := fun w' => w'.cell? ⟨b2s, o2s + d, none⟩ = some (.int .i64 x) ∧ w'.cell? ⟨w.heap.size, 0, none⟩ = some (.int .i64 b1) ∧ w'.cell? ⟨w.heap.size, 2, none⟩ = some (.slice (some ⟨b2s, o2s, none⟩) t1.length cp2) ∧ w'.cell? ⟨g, 0, none⟩ = some (.int .i64 A)) (fun i => decide (12 ≤ i)) qKr ⟨eb0, va0, va2, e0⟩ (fun hHeld => ?_)
  refine qTk (v := ?_) 0 rfl (.inl ⟨by rfl, ?_⟩) ?_
  rotate_left
  ·
   (intro w hSw; (try dsimp only at hSw); go_simp; try with_reducible rfl)
  try simp only [Act.put, qa, qb, qc, qD, qE, qF]
  refine qTk (v := ?_) 1 rfl (.inl ⟨by rfl, ?_⟩) ?_
  rotate_left
  ·
   (intro w hSw; (try dsimp only at hSw); go_simp; try with_reducible rfl)
  try simp only [Act.put, qa, qb, qc, qD, qE, qF]
  refine qTk (v := ?_) 2 rfl (.inl ⟨by rfl, ?_⟩) ?_
  rotate_left
  ·
   (intro w hSw; (try dsimp only at hSw); go_simp; try with_reducible rfl)
  try simp only [Act.put, qa, qb, qc, qD, qE, qF]
  refine qTk (v := ?_) 3 rfl (.inl ⟨by rfl, ?_⟩) ?_
  rotate_left
  ·
   (intro w hSw; (try dsimp only at hSw); go_simp; try with_reducible rfl)
  try simp only [Act.put, qa, qb, qc, qD, qE, qF]
  refine qTk (v := ?_) 4 rfl (.inl ⟨by rfl, ?_⟩) ?_
  rotate_left
  ·
   (intro w hSw; (try dsimp only at hSw); go_simp; try with_reducible rfl)
  try simp only [Act.put, qa, qb, qc, qD, qE, qF]
  refine qTk (v := ?_) 5 rfl (.inl ⟨by rfl, ?_⟩) ?_
  rotate_left
  ·
   (intro w hSw; (try dsimp only at hSw); go_simp; try with_reducible rfl)
  try simp only [Act.put, qa, qb, qc, qD, qE, qF]
  refine qTk (v := ?_) 6 rfl (.inl ⟨by rfl, ?_⟩) ?_
  rotate_left
  ·
   (intro w hSw; (try dsimp only at hSw); go_simp; try with_reducible rfl)
  try simp only [Act.put, qa, qb, qc, qD, qE, qF]
  refine qTk (v := ?_) 7 rfl (.inl ⟨by rfl, ?_⟩) ?_
  rotate_left
  ·
   (intro w hSw; (try dsimp only at hSw); go_simp; try with_reducible rfl)
  try simp only [Act.put, qa, qb, qc, qD, qE, qF]
  refine qTk (v := ?_) 8 rfl (.inl ⟨by rfl, ?_⟩) ?_
  rotate_left
  ·
   (intro w hSw; (try dsimp only at hSw); go_simp; try with_reducible rfl)
  try simp only [Act.put, qa, qb, qc, qD, qE, qF]
  refine qTk (v := ?_) 9 rfl (.inl ⟨by rfl, ?_⟩) ?_
  rotate_left
  ·
   (intro w hSw; (try dsimp only at hSw); go_simp; try with_reducible rfl)
  try simp only [Act.put, qa, qb, qc, qD, qE, qF]
  refine qTk (v := ?_) 10 rfl (.inl ⟨by rfl, ?_⟩) ?_
  rotate_left
  ·
   (intro w hSw; (try dsimp only at hSw); go_simp; try with_reducible rfl)
  try simp only [Act.put, qa, qb, qc, qD, qE, qF]
  refine qTk (v := ?_) 11 rfl (.inl ⟨by rfl, ?_⟩) ?_
  rotate_left
  ·
   (intro w hSw; (try dsimp only at hSw); go_simp; try with_reducible rfl)
  try simp only [Act.put, qa, qb, qc, qD, qE, qF]
  refine wpTail_last (i := 12) qKr rfl rfl (fun K hK => ?_)
  try simp only [Act.put, qa, qb, qc, qD, qE, qF]
  go_simp
  refine hK.out _ _ ?_
  clear hK K
  try simp only [Act.put, qa, qb, qc, qD, qE, qF]
  refine wpTail_done qKr ?_ _
  clear hHeld hw0 hw1
  generalize hW3 : ((w7.setCell ⟨w1.heap.size, 0, none⟩ (.int .i64 (b1 + A * x))).drew) = w8 at *
  have Kw8 : Chg (w1.heap.size) (w1.heap.size + 1) w7 w8 := by subst hW3; exact qCh
  have Xw8 : Ext w w8 := by subst hW3; exact qXt
  replace ea0 := Kw8.cell (by omega) ea0
  replace eb0 := Kw8.cell (by omega) eb0
  replace va0 := Kw8.cell (by omega) va0
  replace va1 := Kw8.cell (by omega) va1
  replace va2 := Kw8.cell (by omega) va2
  replace sl0 := Kw8.cell (by omega) sl0
  replace sl1 := Kw8.cell (by omega) sl1
  replace sl2 := Kw8.cell (by omega) sl2
  replace sl3 := Kw8.cell (by omega) sl3
  replace sl4 := Kw8.cell (by omega) sl4
  replace q0 := Kw8.cell (by omega) q0
  replace f_q0 := Kw8.frzO (by omega) z_q f_q0
  replace q1 := Kw8.cell (by omega) q1
  replace f_q1 := Kw8.frzO (by omega) z_q f_q1
  replace q2 := Kw8.cell (by omega) q2
  replace f_q2 := Kw8.frzO (by omega) z_q f_q2
  replace y0 : w8.cell? ⟨w1.heap.size, 0, none⟩ = some (.int .i64 (b1 + A * x)) := by subst hW3; go_simp
  replace f_y0 : w8.frozen? ⟨w1.heap.size, 0, none⟩ = false := by subst hW3; go_simp
  replace y1 : w8.cell? ⟨w1.heap.size, 1, none⟩ = some (.slice (some ⟨g1, 0, none⟩) s1.length r1) := by subst hW3; go_simp
  replace f_y1 : w8.frozen? ⟨w1.heap.size, 1, none⟩ = false := by subst hW3; go_simp
  replace y2 : w8.cell? ⟨w1.heap.size, 2, none⟩ = some (.slice (some ⟨g2, 0, none⟩) t1.length r2) := by subst hW3; go_simp
  replace f_y2 : w8.frozen? ⟨w1.heap.size, 2, none⟩ = false := by subst hW3; go_simp
  replace e0 := Kw8.cell (by omega) e0
  replace e1 := Kw8.cell (by omega) e1
  replace e2 := Kw8.cell (by omega) e2
  replace O1 := O1.chgN Kw8 (by omega)
  replace O2 := O2.chgN Kw8 (by omega)
  clear Kw8
  have z_ea : b1s < w8.heap.size := qB ea0
  have z_eb : b2s < w8.heap.size := qB eb0
  have z_va : w.heap.size < w8.heap.size := qB va0
  have z_sl : w.heap.size + 1 < w8.heap.size := qB sl0
  have z_q : w.heap.size + 1 + 1 < w8.heap.size := qB q0
  have z_y : w1.heap.size < w8.heap.size := qB y0
  have z_e : g < w8.heap.size := qB e0
  have s_w8 : w.heap.size ≤ w8.heap.size := Xw8.size
  clear hW3
  have B1 := O2.cell d hd2
  obtain ⟨B1a, B1b⟩ := B1
  go_wp2_with fail
  have hw0 : IntKind.i64.wrap (A3 * x) = A3 * x := IntWalk.i64_in _ (by omega)
  refine wp_region_tail (S := fun w' => w'.cell? ⟨b2s, o2s + d, none⟩ = some (.int .i64 x) ∧ w'.cell? ⟨w.heap.size, 2, none⟩ = some (.slice (some ⟨b2s, o2s, none⟩) t1.length cp2) ∧ w'.cell? ⟨w1.heap.size, 2, none⟩ = some (.slice (some ⟨g2, 0, none⟩) t1.length r2) ∧ w'.cell? ⟨g, 2, none⟩ = some (.int .i64 A3)) (fun i => decide (12 ≤ i)) qKr ⟨eb0, va2, y2, e2⟩ (fun hHeld => ?_)
  refine qTk (v := ?_) 0 rfl (.inl ⟨by rfl, ?_⟩) ?_
  rotate_left
  ·
   (intro w hSw; (try dsimp only at hSw); go_simp; try with_reducible rfl)
  try simp only [Act.put, qa, qb, qc, qD, qE, qF]
  refine qTk (v := ?_) 1 rfl (.inl ⟨by rfl, ?_⟩) ?_
  rotate_left
  ·
   (intro w hSw; (try dsimp only at hSw); go_simp; try with_reducible rfl)
  try simp only [Act.put, qa, qb, qc, qD, qE, qF]
  refine qTk (v := ?_) 2 rfl (.inl ⟨by rfl, ?_⟩) ?_
  rotate_left
  ·
   (intro w hSw; (try dsimp only at hSw); go_simp; try with_reducible rfl)
  try simp only [Act.put, qa, qb, qc, qD, qE, qF]
  refine qTk (v := ?_) 3 rfl (.inl ⟨by rfl, ?_⟩) ?_
  rotate_left
  ·
   (intro w hSw; (try dsimp only at hSw); go_simp; try with_reducible rfl)
  try simp only [Act.put, qa, qb, qc, qD, qE, qF]
  refine qTk (v := ?_) 4 rfl (.inl ⟨by rfl, ?_⟩) ?_
  rotate_left
  ·
   (intro w hSw; (try dsimp only at hSw); go_simp; try with_reducible rfl)
  try simp only [Act.put, qa, qb, qc, qD, qE, qF]
  refine qTk (v := ?_) 5 rfl (.inl ⟨by rfl, ?_⟩) ?_
  rotate_left
  ·
   (intro w hSw; (try dsimp only at hSw); go_simp; try with_reducible rfl)
  try simp only [Act.put, qa, qb, qc, qD, qE, qF]
  refine qTk (v := ?_) 6 rfl (.inl ⟨by rfl, ?_⟩) ?_
  rotate_left
  ·
   (intro w hSw; (try dsimp only at hSw); go_simp; try with_reducible rfl)
  try simp only [Act.put, qa, qb, qc, qD, qE, qF]
  refine qTk (v := ?_) 7 rfl (.inl ⟨by rfl, ?_⟩) ?_
  rotate_left
  ·
   (intro w hSw; (try dsimp only at hSw); go_simp; try with_reducible rfl)
  try simp only [Act.put, qa, qb, qc, qD, qE, qF]
  refine qTk (v := ?_) 8 rfl (.inl ⟨by rfl, ?_⟩) ?_
  rotate_left
  ·
   (intro w hSw; (try dsimp only at hSw); go_simp; try with_reducible rfl)
  try simp only [Act.put, qa, qb, qc, qD, qE, qF]
  refine qTk (v := ?_) 9 rfl (.inl ⟨by rfl, ?_⟩) ?_
  rotate_left
  ·
   (intro w hSw; (try dsimp only at hSw); go_simp; try with_reducible rfl)
  try simp only [Act.put, qa, qb, qc, qD, qE, qF]
  refine qTk (v := ?_) 10 rfl (.inl ⟨by rfl, ?_⟩) ?_
  rotate_left
  ·
   (intro w hSw; (try dsimp only at hSw); go_simp; try with_reducible rfl)
  try simp only [Act.put, qa, qb, qc, qD, qE, qF]
  refine qTk (v := ?_) 11 rfl (.inl ⟨by rfl, ?_⟩) ?_
  rotate_left
  ·
   (intro w hSw; (try dsimp only at hSw); go_simp; try with_reducible rfl)
  try simp only [Act.put, qa, qb, qc, qD, qE, qF]
  refine wpTail_last (i := 12) qKr rfl rfl (fun K hK => ?_)
  try simp only [Act.put, qa, qb, qc, qD, qE, qF]
  go_simp
  refine hK.out _ _ ?_
  clear hK K
  try simp only [Act.put, qa, qb, qc, qD, qE, qF]
  refine wpTail_done qKr ?_ _
  clear hHeld hw0
  generalize hW4 : ((w8.setCell ⟨g2, d, none⟩ (.int .i64 (A3 * x))).drew) = w9 at *
  have Kw9 : Chg (g2) (g2 + 1) w8 w9 := by subst hW4; exact qCh
  have Xw9 : Ext w w9 := by subst hW4; exact qXt
  replace ea0 := Kw9.cell (by omega) ea0
  replace eb0 := Kw9.cell (by omega) eb0
  replace va0 := Kw9.cell (by omega) va0
  replace va1 := Kw9.cell (by omega) va1
  replace va2 := Kw9.cell (by omega) va2
  replace sl0 := Kw9.cell (by omega) sl0
  replace sl1 := Kw9.cell (by omega) sl1
  replace sl2 := Kw9.cell (by omega) sl2
  replace sl3 := Kw9.cell (by omega) sl3
  replace sl4 := Kw9.cell (by omega) sl4
  replace q0 := Kw9.cell (by omega) q0
  replace f_q0 := Kw9.frzO (by omega) z_q f_q0
  replace q1 := Kw9.cell (by omega) q1
  replace f_q1 := Kw9.frzO (by omega) z_q f_q1
  replace q2 := Kw9.cell (by omega) q2
  replace f_q2 := Kw9.frzO (by omega) z_q f_q2
  replace y0 := Kw9.cell (by omega) y0
  replace f_y0 := Kw9.frzO (by omega) z_y f_y0
  replace y1 := Kw9.cell (by omega) y1
  replace f_y1 := Kw9.frzO (by omega) z_y f_y1
  replace y2 := Kw9.cell (by omega) y2
  replace f_y2 := Kw9.frzO (by omega) z_y f_y2
  replace e0 := Kw9.cell (by omega) e0
  replace e1 := Kw9.cell (by omega) e1
  replace e2 := Kw9.cell (by omega) e2
  replace O1 := O1.chgN Kw9 (by omega)
  have n_O2 := O2.setD d (A3 * x) (by first | omega | (simp; omega))
  rw [hW4] at n_O2
  replace O2 := n_O2
  clear n_O2
  clear Kw9
  have z_ea : b1s < w9.heap.size := qB ea0
  have z_eb : b2s < w9.heap.size := qB eb0
  have z_va : w.heap.size < w9.heap.size := qB va0
  have z_sl : w.heap.size + 1 < w9.heap.size := qB sl0
  have z_q : w.heap.size + 1 + 1 < w9.heap.size := qB q0
  have z_y : w1.heap.size < w9.heap.size := qB y0
  have z_e : g < w9.heap.size := qB e0
  have s_w9 : w.heap.size ≤ w9.heap.size := Xw9.size
  clear hW4
  clear ea0
  clear eb0
  clear e0 e1 e2
  clear sl0 sl1 sl2 sl3 sl4
  clear va0 va1 va2
  clear hLb hnum hsl hst hin hAx hCx
  have hz1 := O1.len
  have hz2 := O2.len
  by_cases hle : L.length ≤ 1
  ·
   have hleI : (L.length : Int) ≤ 1 := by omega
   have B1 := O2.cell d (by simpa using hd2)
   obtain ⟨B1a, B1b⟩ := B1
   go_wp2_with fail
   generalize hW5 : (w9.setCell ⟨g2, d, none⟩ (.int .i64 0)) = w10 at *
   have Kw10 : Chg (g2) (g2 + 1) w9 w10 := by subst hW5; exact qCh
   have Xw10 : Ext w w10 := by subst hW5; exact qXt
   replace q0 := Kw10.cell (by omega) q0
   replace f_q0 := Kw10.frzO (by omega) z_q f_q0
   replace q1 := Kw10.cell (by omega) q1
   replace f_q1 := Kw10.frzO (by omega) z_q f_q1
   replace q2 := Kw10.cell (by omega) q2
   replace f_q2 := Kw10.frzO (by omega) z_q f_q2
   replace y0 := Kw10.cell (by omega) y0
   replace f_y0 := Kw10.frzO (by omega) z_y f_y0
   replace y1 := Kw10.cell (by omega) y1
   replace f_y1 := Kw10.frzO (by omega) z_y f_y1
   replace y2 := Kw10.cell (by omega) y2
   replace f_y2 := Kw10.frzO (by omega) z_y f_y2
   replace O1 := O1.chgN Kw10 (by omega)
   have n_O2 := O2.set d (0) (by first | omega | (simp; omega))
   rw [hW5] at n_O2
   replace O2 := n_O2
   clear n_O2
   clear Kw10
   have z_q : w.heap.size + 1 + 1 < w10.heap.size := qB q0
   have z_y : w1.heap.size < w10.heap.size := qB y0
   have s_w10 : w.heap.size ≤ w10.heap.size := Xw10.size
   clear hW5
   rw [List.set_set] at O2
   by_cases hz : countL (s1.set d (L.length : Int)) = 0
   ·
    have hT : Hid (cutT s1 t1 d L = List.replicate s1.length 0) := Lib.hid (by unfold cutT tidyT; rw [if_pos hz, List.length_set])
    have hB : Hid (cutB b1 s1 t1 d L = 0) := Lib.hid (by unfold cutB tidyB; rw [if_pos hz])
    have hi1 := O1.ints hz1
    have hi2 := O2.ints (by simpa using hz2)
    have hzH := Lib.hid hz
    clear hz hle
    have zq0 := z_q
    have zy0 := z_y
    go_wp2_with fail
    refine (tidy_0 (b1 + A * x) _ _ (s1.set d (L.length : Int)) _ _ (hi1.ext qXt) hzH.out).mono ?_
    rintro e w11 ⟨st, rfl, O3, xw11⟩
    have Lw11 : Ext w10 w11 := Ext.trans qXt xw11
    have Xw11 : Ext w w11 := Xw10.trans Lw11
    replace q0 := Lw11.cell q0
    replace q1 := Lw11.cell q1
    replace q2 := Lw11.cell q2
    replace f_q0 := Lw11.frz z_q f_q0
    replace f_q1 := Lw11.frz z_q f_q1
    replace f_q2 := Lw11.frz z_q f_q2
    replace y0 := Lw11.cell y0
    replace y1 := Lw11.cell y1
    replace y2 := Lw11.cell y2
    replace f_y0 := Lw11.frz z_y f_y0
    replace f_y1 := Lw11.frz z_y f_y1
    replace f_y2 := Lw11.frz z_y f_y2
    have z_q : w.heap.size + 1 + 1 < w11.heap.size := qB q0
    have z_y : w1.heap.size < w11.heap.size := qB y0
    replace O1 := O1.ext Lw11
    replace O2 := O2.ext Lw11
    have s_w11 : w.heap.size ≤ w11.heap.size := Xw11.size
    clear xw11
    have hne3 : List.replicate (s1.set d (L.length : Int)).length (0 : Int) ≠ [] := by simp; exact hne1
    obtain ⟨g3, r3, rfl, G3, G3'⟩ := O3.row hne3
    simp only [List.length_replicate, List.length_set] at O3 ⊢
    have G3b : w.heap.size + 3 ≤ g3 := by omega
    clear hi1 hi2

    go_wp2_with fail
    generalize hW6 : (((w11.setCell ⟨w.heap.size + 1 + 1, 0, none⟩ (.int .i64 0)).setCell ⟨w.heap.size + 1 + 1, 1, none⟩ (.slice (some ⟨g1, 0, none⟩) s1.length r1)).setCell ⟨w.heap.size + 1 + 1, 2, none⟩ (.slice (some ⟨g3, 0, none⟩) s1.length r3)) = w12 at *
    have Kw12 : Chg (w.heap.size + 1 + 1) (w.heap.size + 1 + 1 + 1) w11 w12 := by subst hW6; exact qCh
    have Xw12 : Ext w w12 := by subst hW6; exact qXt
    replace q0 : w12.cell? ⟨w.heap.size + 1 + 1, 0, none⟩ = some (.int .i64 0) := by subst hW6; go_simp
    replace f_q0 : w12.frozen? ⟨w.heap.size + 1 + 1, 0, none⟩ = false := by subst hW6; go_simp
    replace q1 : w12.cell? ⟨w.heap.size + 1 + 1, 1, none⟩ = some (.slice (some ⟨g1, 0, none⟩) s1.length r1) := by subst hW6; go_simp
    replace f_q1 : w12.frozen? ⟨w.heap.size + 1 + 1, 1, none⟩ = false := by subst hW6; go_simp
    replace q2 : w12.cell? ⟨w.heap.size + 1 + 1, 2, none⟩ = some (.slice (some ⟨g3, 0, none⟩) s1.length r3) := by subst hW6; go_simp
    replace f_q2 : w12.frozen? ⟨w.heap.size + 1 + 1, 2, none⟩ = false := by subst hW6; go_simp
    replace y0 := Kw12.cell (by omega) y0
    replace f_y0 := Kw12.frzO (by omega) z_y f_y0
    replace y1 := Kw12.cell (by omega) y1
    replace f_y1 := Kw12.frzO (by omega) z_y f_y1
    replace y2 := Kw12.cell (by omega) y2
    replace f_y2 := Kw12.frzO (by omega) z_y f_y2
    replace O1 := O1.chgN Kw12 (by omega)
    replace O2 := O2.chgN Kw12 (by omega)
    replace O3 := O3.chgN Kw12 (by omega)
    clear Kw12
    have z_q : w.heap.size + 1 + 1 < w12.heap.size := qB q0
    have z_y : w1.heap.size < w12.heap.size := qB y0
    have s_w12 : w.heap.size ≤ w12.heap.size := Xw12.size
    clear hW6
    refine bodyPost_ret (v := .agg #[.int .i64 0, .slice (some ⟨g1, 0, none⟩) s1.length r1, .slice (some ⟨g3, 0, none⟩) s1.length r3]) (by simp only [results, Tryd.results56]; go_simp) rfl ?_
    rw [hT.out, hB.out]
    exact PView.own (O1.lower (by omega)).z (O3.lower (by omega)).z (fun _ _ => by simp [Value.ownBlock]; omega) (by unfold cutS; simpa using hlen1) (by simp <;> omega) Xw12
   ·
    have hT : Hid (cutT s1 t1 d L = t1.set d 0) := Lib.hid (by unfold cutT tidyT; rw [if_neg hz, if_pos hle])
    have hB : Hid (cutB b1 s1 t1 d L = b1 + A * x) := Lib.hid (by unfold cutB tidyB; rw [if_neg hz, hN1.out, hg2.out])
    have hi1 := O1.ints hz1
    have hi2 := O2.ints (by simpa using hz2)
    have hzH := Lib.hid hz
    clear hz hle
    have zq0 := z_q
    have zy0 := z_y
    go_wp2_with fail
    refine (tidy_1 (b1 + A * x) _ _ (s1.set d (L.length : Int)) (t1.set d 0) _ _ _ (hi1.ext qXt) (hi2.ext qXt) hzH.out).mono ?_
    rintro e w11 ⟨rfl, xw11⟩
    have Lw11 : Ext w10 w11 := Ext.trans qXt xw11
    have Xw11 : Ext w w11 := Xw10.trans Lw11
    replace q0 := Lw11.cell q0
    replace q1 := Lw11.cell q1
    replace q2 := Lw11.cell q2
    replace f_q0 := Lw11.frz z_q f_q0
    replace f_q1 := Lw11.frz z_q f_q1
    replace f_q2 := Lw11.frz z_q f_q2
    replace y0 := Lw11.cell y0
    replace y1 := Lw11.cell y1
    replace y2 := Lw11.cell y2
    replace f_y0 := Lw11.frz z_y f_y0
    replace f_y1 := Lw11.frz z_y f_y1
    replace f_y2 := Lw11.frz z_y f_y2
    have z_q : w.heap.size + 1 + 1 < w11.heap.size := qB q0
    have z_y : w1.heap.size < w11.heap.size := qB y0
    replace O1 := O1.ext Lw11
    replace O2 := O2.ext Lw11
    have s_w11 : w.heap.size ≤ w11.heap.size := Xw11.size
    clear xw11
    clear hi1 hi2

    go_wp2_with fail
    generalize hW7 : (((w11.setCell ⟨w.heap.size + 1 + 1, 0, none⟩ (.int .i64 (b1 + A * x))).setCell ⟨w.heap.size + 1 + 1, 1, none⟩ (.slice (some ⟨g1, 0, none⟩) s1.length r1)).setCell ⟨w.heap.size + 1 + 1, 2, none⟩ (.slice (some ⟨g2, 0, none⟩) t1.length r2)) = w12 at *
    have Kw12 : Chg (w.heap.size + 1 + 1) (w.heap.size + 1 + 1 + 1) w11 w12 := by subst hW7; exact qCh
    have Xw12 : Ext w w12 := by subst hW7; exact qXt
    replace q0 : w12.cell? ⟨w.heap.size + 1 + 1, 0, none⟩ = some (.int .i64 (b1 + A * x)) := by subst hW7; go_simp
    replace f_q0 : w12.frozen? ⟨w.heap.size + 1 + 1, 0, none⟩ = false := by subst hW7; go_simp
    replace q1 : w12.cell? ⟨w.heap.size + 1 + 1, 1, none⟩ = some (.slice (some ⟨g1, 0, none⟩) s1.length r1) := by subst hW7; go_simp
    replace f_q1 : w12.frozen? ⟨w.heap.size + 1 + 1, 1, none⟩ = false := by subst hW7; go_simp
    replace q2 : w12.cell? ⟨w.heap.size + 1 + 1, 2, none⟩ = some (.slice (some ⟨g2, 0, none⟩) t1.length r2) := by subst hW7; go_simp
    replace f_q2 : w12.frozen? ⟨w.heap.size + 1 + 1, 2, none⟩ = false := by subst hW7; go_simp
    replace y0 := Kw12.cell (by omega) y0
    replace f_y0 := Kw12.frzO (by omega) z_y f_y0
    replace y1 := Kw12.cell (by omega) y1
    replace f_y1 := Kw12.frzO (by omega) z_y f_y1
    replace y2 := Kw12.cell (by omega) y2
    replace f_y2 := Kw12.frzO (by omega) z_y f_y2
    replace O1 := O1.chgN Kw12 (by omega)
    replace O2 := O2.chgN Kw12 (by omega)
    clear Kw12
    have z_q : w.heap.size + 1 + 1 < w12.heap.size := qB q0
    have z_y : w1.heap.size < w12.heap.size := qB y0
    have s_w12 : w.heap.size ≤ w12.heap.size := Xw12.size
    clear hW7
    refine bodyPost_ret (v := .agg #[.int .i64 (b1 + A * x), .slice (some ⟨g1, 0, none⟩) s1.length r1, .slice (some ⟨g2, 0, none⟩) t1.length r2]) (by simp only [results, Tryd.results56]; go_simp) rfl ?_
    rw [hT.out, hB.out]
    exact PView.own (O1.lower (by omega)).z (O2.lower (by omega)).z (fun _ _ => by simp [Value.ownBlock]; omega) (by unfold cutS; simpa using hlen1) (by simp <;> omega) Xw12
  ·
   have hleI : ¬ (L.length : Int) ≤ 1 := by omega
   by_cases hz : countL (s1.set d (L.length : Int)) = 0
   ·
    have hT : Hid (cutT s1 t1 d L = List.replicate s1.length 0) := Lib.hid (by unfold cutT tidyT; rw [if_pos hz, List.length_set])
    have hB : Hid (cutB b1 s1 t1 d L = 0) := Lib.hid (by unfold cutB tidyB; rw [if_pos hz])
    have hi1 := O1.ints hz1
    have hi2 := O2.ints (by simpa using hz2)
    have hzH := Lib.hid hz
    clear hz hle
    have zq0 := z_q
    have zy0 := z_y
    go_wp2_with fail
    refine (tidy_0 (b1 + A * x) _ _ (s1.set d (L.length : Int)) _ _ (hi1.ext qXt) hzH.out).mono ?_
    rintro e w10 ⟨st, rfl, O3, xw10⟩
    have Lw10 : Ext w9 w10 := Ext.trans qXt xw10
    have Xw10 : Ext w w10 := Xw9.trans Lw10
    replace q0 := Lw10.cell q0
    replace q1 := Lw10.cell q1
    replace q2 := Lw10.cell q2
    replace f_q0 := Lw10.frz z_q f_q0
    replace f_q1 := Lw10.frz z_q f_q1
    replace f_q2 := Lw10.frz z_q f_q2
    replace y0 := Lw10.cell y0
    replace y1 := Lw10.cell y1
    replace y2 := Lw10.cell y2
    replace f_y0 := Lw10.frz z_y f_y0
    replace f_y1 := Lw10.frz z_y f_y1
    replace f_y2 := Lw10.frz z_y f_y2
    have z_q : w.heap.size + 1 + 1 < w10.heap.size := qB q0
    have z_y : w1.heap.size < w10.heap.size := qB y0
    replace O1 := O1.ext Lw10
    replace O2 := O2.ext Lw10
    have s_w10 : w.heap.size ≤ w10.heap.size := Xw10.size
    clear xw10
    have hne3 : List.replicate (s1.set d (L.length : Int)).length (0 : Int) ≠ [] := by simp; exact hne1
    obtain ⟨g3, r3, rfl, G3, G3'⟩ := O3.row hne3
    simp only [List.length_replicate, List.length_set] at O3 ⊢
    have G3b : w.heap.size + 3 ≤ g3 := by omega
    clear hi1 hi2

    go_wp2_with fail
    generalize hW8 : (((w10.setCell ⟨w.heap.size + 1 + 1, 0, none⟩ (.int .i64 0)).setCell ⟨w.heap.size + 1 + 1, 1, none⟩ (.slice (some ⟨g1, 0, none⟩) s1.length r1)).setCell ⟨w.heap.size + 1 + 1, 2, none⟩ (.slice (some ⟨g3, 0, none⟩) s1.length r3)) = w11 at *
    have Kw11 : Chg (w.heap.size + 1 + 1) (w.heap.size + 1 + 1 + 1) w10 w11 := by subst hW8; exact qCh
    have Xw11 : Ext w w11 := by subst hW8; exact qXt
    replace q0 : w11.cell? ⟨w.heap.size + 1 + 1, 0, none⟩ = some (.int .i64 0) := by subst hW8; go_simp
    replace f_q0 : w11.frozen? ⟨w.heap.size + 1 + 1, 0, none⟩ = false := by subst hW8; go_simp
    replace q1 : w11.cell? ⟨w.heap.size + 1 + 1, 1, none⟩ = some (.slice (some ⟨g1, 0, none⟩) s1.length r1) := by subst hW8; go_simp
    replace f_q1 : w11.frozen? ⟨w.heap.size + 1 + 1, 1, none⟩ = false := by subst hW8; go_simp
    replace q2 : w11.cell? ⟨w.heap.size + 1 + 1, 2, none⟩ = some (.slice (some ⟨g3, 0, none⟩) s1.length r3) := by subst hW8; go_simp
    replace f_q2 : w11.frozen? ⟨w.heap.size + 1 + 1, 2, none⟩ = false := by subst hW8; go_simp
    replace y0 := Kw11.cell (by omega) y0
    replace f_y0 := Kw11.frzO (by omega) z_y f_y0
    replace y1 := Kw11.cell (by omega) y1
    replace f_y1 := Kw11.frzO (by omega) z_y f_y1
    replace y2 := Kw11.cell (by omega) y2
    replace f_y2 := Kw11.frzO (by omega) z_y f_y2
    replace O1 := O1.chgN Kw11 (by omega)
    replace O2 := O2.chgN Kw11 (by omega)
    replace O3 := O3.chgN Kw11 (by omega)
    clear Kw11
    have z_q : w.heap.size + 1 + 1 < w11.heap.size := qB q0
    have z_y : w1.heap.size < w11.heap.size := qB y0
    have s_w11 : w.heap.size ≤ w11.heap.size := Xw11.size
    clear hW8
    refine bodyPost_ret (v := .agg #[.int .i64 0, .slice (some ⟨g1, 0, none⟩) s1.length r1, .slice (some ⟨g3, 0, none⟩) s1.length r3]) (by simp only [results, Tryd.results56]; go_simp) rfl ?_
    rw [hT.out, hB.out]
    exact PView.own (O1.lower (by omega)).z (O3.lower (by omega)).z (fun _ _ => by simp [Value.ownBlock]; omega) (by unfold cutS; simpa using hlen1) (by simp <;> omega) Xw11
   ·
    have hT : Hid (cutT s1 t1 d L = t1.set d (A3 * x)) := Lib.hid (by unfold cutT tidyT; rw [if_neg hz, if_neg hle, hN3.out, hg2.out])
    have hB : Hid (cutB b1 s1 t1 d L = b1 + A * x) := Lib.hid (by unfold cutB tidyB; rw [if_neg hz, hN1.out, hg2.out])
    have hi1 := O1.ints hz1
    have hi2 := O2.ints (by simpa using hz2)
    have hzH := Lib.hid hz
    clear hz hle
    have zq0 := z_q
    have zy0 := z_y
    go_wp2_with fail
    refine (tidy_1 (b1 + A * x) _ _ (s1.set d (L.length : Int)) (t1.set d (A3 * x)) _ _ _ (hi1.ext qXt) (hi2.ext qXt) hzH.out).mono ?_
    rintro e w10 ⟨rfl, xw10⟩
    have Lw10 : Ext w9 w10 := Ext.trans qXt xw10
    have Xw10 : Ext w w10 := Xw9.trans Lw10
    replace q0 := Lw10.cell q0
    replace q1 := Lw10.cell q1
    replace q2 := Lw10.cell q2
    replace f_q0 := Lw10.frz z_q f_q0
    replace f_q1 := Lw10.frz z_q f_q1
    replace f_q2 := Lw10.frz z_q f_q2
    replace y0 := Lw10.cell y0
    replace y1 := Lw10.cell y1
    replace y2 := Lw10.cell y2
    replace f_y0 := Lw10.frz z_y f_y0
    replace f_y1 := Lw10.frz z_y f_y1
    replace f_y2 := Lw10.frz z_y f_y2
    have z_q : w.heap.size + 1 + 1 < w10.heap.size := qB q0
    have z_y : w1.heap.size < w10.heap.size := qB y0
    replace O1 := O1.ext Lw10
    replace O2 := O2.ext Lw10
    have s_w10 : w.heap.size ≤ w10.heap.size := Xw10.size
    clear xw10
    clear hi1 hi2

    go_wp2_with fail
    generalize hW9 : (((w10.setCell ⟨w.heap.size + 1 + 1, 0, none⟩ (.int .i64 (b1 + A * x))).setCell ⟨w.heap.size + 1 + 1, 1, none⟩ (.slice (some ⟨g1, 0, none⟩) s1.length r1)).setCell ⟨w.heap.size + 1 + 1, 2, none⟩ (.slice (some ⟨g2, 0, none⟩) t1.length r2)) = w11 at *
    have Kw11 : Chg (w.heap.size + 1 + 1) (w.heap.size + 1 + 1 + 1) w10 w11 := by subst hW9; exact qCh
    have Xw11 : Ext w w11 := by subst hW9; exact qXt
    replace q0 : w11.cell? ⟨w.heap.size + 1 + 1, 0, none⟩ = some (.int .i64 (b1 + A * x)) := by subst hW9; go_simp
    replace f_q0 : w11.frozen? ⟨w.heap.size + 1 + 1, 0, none⟩ = false := by subst hW9; go_simp
    replace q1 : w11.cell? ⟨w.heap.size + 1 + 1, 1, none⟩ = some (.slice (some ⟨g1, 0, none⟩) s1.length r1) := by subst hW9; go_simp
    replace f_q1 : w11.frozen? ⟨w.heap.size + 1 + 1, 1, none⟩ = false := by subst hW9; go_simp
    replace q2 : w11.cell? ⟨w.heap.size + 1 + 1, 2, none⟩ = some (.slice (some ⟨g2, 0, none⟩) t1.length r2) := by subst hW9; go_simp
    replace f_q2 : w11.frozen? ⟨w.heap.size + 1 + 1, 2, none⟩ = false := by subst hW9; go_simp
    replace y0 := Kw11.cell (by omega) y0
    replace f_y0 := Kw11.frzO (by omega) z_y f_y0
    replace y1 := Kw11.cell (by omega) y1
    replace f_y1 := Kw11.frzO (by omega) z_y f_y1
    replace y2 := Kw11.cell (by omega) y2
    replace f_y2 := Kw11.frzO (by omega) z_y f_y2
    replace O1 := O1.chgN Kw11 (by omega)
    replace O2 := O2.chgN Kw11 (by omega)
    clear Kw11
    have z_q : w.heap.size + 1 + 1 < w11.heap.size := qB q0
    have z_y : w1.heap.size < w11.heap.size := qB y0
    have s_w11 : w.heap.size ≤ w11.heap.size := Xw11.size
    clear hW9
    refine bodyPost_ret (v := .agg #[.int .i64 (b1 + A * x), .slice (some ⟨g1, 0, none⟩) s1.length r1, .slice (some ⟨g2, 0, none⟩) t1.length r2]) (by simp only [results, Tryd.results56]; go_simp) rfl ?_
    rw [hT.out, hB.out]
    exact PView.own (O1.lower (by omega)).z (O2.lower (by omega)).z (fun _ _ => by simp [Value.ownBlock]; omega) (by unfold cutS; simpa using hlen1) (by simp <;> omega) Xw11

end Go.Proofs.YtgklaobfikbiiaaDoor

/- Walks: SliceDim and FlipDim of the reference. -/
namespace Go.Proofs.YtgklaobfikbiiaaDoor
open Go.RowKit
set_option linter.unusedVariables false
set_option maxRecDepth 100000


/-- a view with a bool -/
abbrev VBool := Int × List Int × List Int × Bool
def PVB (w : World) (x : VBool) : Ending → World → Prop := PViewB w x.1 x.2.1 x.2.2.1 x.2.2.2
def noV : VBool := (0, [], [], false)
theorem PVB.no {w w' : World} {x : VBool} (h : x = noV) (hx : Ext w w') : PVB w x (.returned (.tuple #[.agg #[.int .i64 0, .slice none 0 0, .slice none 0 0], .bool false])) w' := by
 subst h; exact PViewB.no hx
theorem PVB.yes {w w' : World} {x : VBool} {b : Int} {s t : List Int} {v1 v2 : Value} (h : x = (b, s, t, true)) (o1 : OwnZ w' w.heap.size v1 s) (o2 : OwnZ w' w.heap.size v2 t) (hd : s ≠ [] → t ≠ [] → v1.ownBlock ≠ v2.ownBlock) (l1 : s.length ≤ 4194304) (l2 : t.length ≤ 4194304) (hx : Ext w w') :
  PVB w x (.returned (.tuple #[.agg #[.int .i64 b, v1, v2], .bool true])) w' := by
 subst h; exact ⟨v1, v2, rfl, o1.ints l1, o2.ints l2, o1, o2, hd, hx⟩

def sliceV (b : Int) (s t : List Int) (d F T B : Int) (hf ht : Bool) : VBool :=
 if viewB b s t && (inB 0 ((s.length : Int) - 1) d && sliceB F T B hf ht) then
  (cutB b s t d.toNat (idxS (s.getD d.toNat 0) F T B hf ht), cutS s d.toNat (idxS (s.getD d.toNat 0) F T B hf ht), cutT s t d.toNat (idxS (s.getD d.toNat 0) F T B hf ht), true)
 else noV
theorem sliceV_view {b : Int} {s t : List Int} {d F T B : Int} {hf ht : Bool} (h : viewB b s t = true) (hd : 0 ≤ d ∧ d < s.length) (hs : sliceB F T B hf ht = true) :
  viewB (cutB b s t d.toNat (idxS (s.getD d.toNat 0) F T B hf ht)) (cutS s d.toNat (idxS (s.getD d.toNat 0) F T B hf ht)) (cutT s t d.toNat (idxS (s.getD d.toNat 0) F T B hf ht)) = true := by
 have hn := (shapeB_in (viewB_in h).1).2.1 _ (getD_mem (s := s) (d := d.toNat) (by omega))
 exact (cut_view h (by omega) (sliceB_in hs).2.2.2 (idxS_in hn.1 (sliceB_in hs).2.2.2)).1
theorem sliceV_yes {b : Int} {s t : List Int} {d F T B : Int} {hf ht : Bool} {L : List Int} (h : viewB b s t = true) (hb : inB 0 ((s.length : Int) - 1) d = true) (hs : sliceB F T B hf ht = true) (hL : idxS (s.getD d.toNat 0) F T B hf ht = L) :
  sliceV b s t d F T B hf ht = (cutB b s t d.toNat L, cutS s d.toNat L, cutT s t d.toNat L, true) := by
 unfold sliceV; rw [h, hb, hs, ← hL]; rfl

set_option maxHeartbeats 3200000 in
theorem specSliceDim_c (b1 : Int) (u1 v1 : Value) (s1 t1 : List Int) (d F T B : Int) (hf ht : Bool) (w : World) (l1 m1 : Nat) (h1 : Ints w l1 u1 s1) (k1 : Ints w m1 v1 t1) :
  Calls Tryd.prog 43 #[.agg #[.int .i64 b1, u1, v1], .int .i64 d, .agg #[.int .i64 F, .int .i64 T, .int .i64 B, .bool hf, .bool ht]] w (PVB w (sliceV b1 s1 t1 d F T B hf ht)) := by
 have hlen1 := ints_len h1
 have hlen2 := ints_len k1
 obtain ⟨a1, cp1, rfl⟩ := h1.form
 obtain ⟨a2, cp2, rfl⟩ := k1.form
 cases ha : viewB b1 s1 t1
 ·
  have hr : Hid (sliceV b1 s1 t1 d F T B hf ht = noV) := Lib.hid (by unfold sliceV; rw [ha]; rfl)
  replace ha := Lib.hid ha
  go_enter Tryd.func43, Tryd.ntmps43
  go_wp2_with fail
  refine (validView_c b1 _ _ s1 t1 _ l1 m1 (h1.ext qXt) (k1.ext qXt)).mono ?_
  rintro e w1 ⟨rfl, xw1⟩
  have Lw1 : Ext w w1 := Ext.trans qXt xw1
  have Xw1 : Ext w w1 := Lw1
  have va0 : w1.cell? ⟨w.heap.size, 0, none⟩ = some (.int .i64 b1) := xw1.cell qCl
  have va1 : w1.cell? ⟨w.heap.size, 1, none⟩ = some (.slice a1 s1.length cp1) := xw1.cell qCl
  have va2 : w1.cell? ⟨w.heap.size, 2, none⟩ = some (.slice a2 t1.length cp2) := xw1.cell qCl
  have sl0 : w1.cell? ⟨w.heap.size + 1, 0, none⟩ = some (.int .i64 F) := xw1.cell qCl
  have sl1 : w1.cell? ⟨w.heap.size + 1, 1, none⟩ = some (.int .i64 T) := xw1.cell qCl
  have sl2 : w1.cell? ⟨w.heap.size + 1, 2, none⟩ = some (.int .i64 B) := xw1.cell qCl
  have sl3 : w1.cell? ⟨w.heap.size + 1, 3, none⟩ = some (.bool hf) := xw1.cell qCl
  have sl4 : w1.cell? ⟨w.heap.size + 1, 4, none⟩ = some (.bool ht) := xw1.cell qCl
  have q0 : w1.cell? ⟨w.heap.size + 1 + 1, 0, none⟩ = some (.int .i64 0) := xw1.cell qCl
  have q1 : w1.cell? ⟨w.heap.size + 1 + 1, 1, none⟩ = some (.slice none 0 0) := xw1.cell qCl
  have q2 : w1.cell? ⟨w.heap.size + 1 + 1, 2, none⟩ = some (.slice none 0 0) := xw1.cell qCl
  have f_q0 : w1.frozen? ⟨w.heap.size + 1 + 1, 0, none⟩ = false := xw1.frz (by simp <;> omega) qFz
  have f_q1 : w1.frozen? ⟨w.heap.size + 1 + 1, 1, none⟩ = false := xw1.frz (by simp <;> omega) qFz
  have f_q2 : w1.frozen? ⟨w.heap.size + 1 + 1, 2, none⟩ = false := xw1.frz (by simp <;> omega) qFz
  have z_va : w.heap.size < w1.heap.size := qB va0
  have z_sl : w.heap.size + 1 < w1.heap.size := qB sl0
  have z_q : w.heap.size + 1 + 1 < w1.heap.size := qB q0
  have s_w1 : w.heap.size ≤ w1.heap.size := Xw1.size
  clear xw1
  rw [ha.out]
  go_wp2_with fail
  refine bodyPost_ret (v := .tuple #[.agg #[.int .i64 0, .slice none 0 0, .slice none 0 0], .bool false]) (by simp only [results, Tryd.results43]; go_simp) rfl ?_
  exact PVB.no hr.out qXt
 ·
  cases hb : inB 0 ((s1.length : Int) - 1) d
  ·
   have hr : Hid (sliceV b1 s1 t1 d F T B hf ht = noV) := Lib.hid (by unfold sliceV; rw [ha, hb]; rfl)
   obtain ⟨j1, -⟩ := viewB_in ha
   have j4 := (shapeB_in j1).1
   replace ha := Lib.hid ha
   replace hb := Lib.hid hb
   clear j1
   go_enter Tryd.func43, Tryd.ntmps43
   go_wp2_with fail
   refine (validView_c b1 _ _ s1 t1 _ l1 m1 (h1.ext qXt) (k1.ext qXt)).mono ?_
   rintro e w1 ⟨rfl, xw1⟩
   have Lw1 : Ext w w1 := Ext.trans qXt xw1
   have Xw1 : Ext w w1 := Lw1
   have va0 : w1.cell? ⟨w.heap.size, 0, none⟩ = some (.int .i64 b1) := xw1.cell qCl
   have va1 : w1.cell? ⟨w.heap.size, 1, none⟩ = some (.slice a1 s1.length cp1) := xw1.cell qCl
   have va2 : w1.cell? ⟨w.heap.size, 2, none⟩ = some (.slice a2 t1.length cp2) := xw1.cell qCl
   have sl0 : w1.cell? ⟨w.heap.size + 1, 0, none⟩ = some (.int .i64 F) := xw1.cell qCl
   have sl1 : w1.cell? ⟨w.heap.size + 1, 1, none⟩ = some (.int .i64 T) := xw1.cell qCl
   have sl2 : w1.cell? ⟨w.heap.size + 1, 2, none⟩ = some (.int .i64 B) := xw1.cell qCl
   have sl3 : w1.cell? ⟨w.heap.size + 1, 3, none⟩ = some (.bool hf) := xw1.cell qCl
   have sl4 : w1.cell? ⟨w.heap.size + 1, 4, none⟩ = some (.bool ht) := xw1.cell qCl
   have q0 : w1.cell? ⟨w.heap.size + 1 + 1, 0, none⟩ = some (.int .i64 0) := xw1.cell qCl
   have q1 : w1.cell? ⟨w.heap.size + 1 + 1, 1, none⟩ = some (.slice none 0 0) := xw1.cell qCl
   have q2 : w1.cell? ⟨w.heap.size + 1 + 1, 2, none⟩ = some (.slice none 0 0) := xw1.cell qCl
   have f_q0 : w1.frozen? ⟨w.heap.size + 1 + 1, 0, none⟩ = false := xw1.frz (by simp <;> omega) qFz
   have f_q1 : w1.frozen? ⟨w.heap.size + 1 + 1, 1, none⟩ = false := xw1.frz (by simp <;> omega) qFz
   have f_q2 : w1.frozen? ⟨w.heap.size + 1 + 1, 2, none⟩ = false := xw1.frz (by simp <;> omega) qFz
   have z_va : w.heap.size < w1.heap.size := qB va0
   have z_sl : w.heap.size + 1 < w1.heap.size := qB sl0
   have z_q : w.heap.size + 1 + 1 < w1.heap.size := qB q0
   have s_w1 : w.heap.size ≤ w1.heap.size := Xw1.size
   clear xw1
   rw [ha.out]
   go_wp2_with fail
   refine (isDim_c b1 _ _ s1 t1 d _ l1 m1 (h1.ext (Xw1.trans qXt)) (k1.ext (Xw1.trans qXt)) (by omega)).mono ?_
   rintro e w2 ⟨rfl, xw2⟩
   have Lw2 : Ext w1 w2 := Ext.trans qXt xw2
   have Xw2 : Ext w w2 := Xw1.trans Lw2
   replace va0 := Lw2.cell va0
   replace va1 := Lw2.cell va1
   replace va2 := Lw2.cell va2
   replace sl0 := Lw2.cell sl0
   replace sl1 := Lw2.cell sl1
   replace sl2 := Lw2.cell sl2
   replace sl3 := Lw2.cell sl3
   replace sl4 := Lw2.cell sl4
   replace q0 := Lw2.cell q0
   replace q1 := Lw2.cell q1
   replace q2 := Lw2.cell q2
   replace f_q0 := Lw2.frz z_q f_q0
   replace f_q1 := Lw2.frz z_q f_q1
   replace f_q2 := Lw2.frz z_q f_q2
   have z_va : w.heap.size < w2.heap.size := qB va0
   have z_sl : w.heap.size + 1 < w2.heap.size := qB sl0
   have z_q : w.heap.size + 1 + 1 < w2.heap.size := qB q0
   have s_w2 : w.heap.size ≤ w2.heap.size := Xw2.size
   clear xw2
   rw [hb.out]
   go_wp2_with fail
   refine bodyPost_ret (v := .tuple #[.agg #[.int .i64 0, .slice none 0 0, .slice none 0 0], .bool false]) (by simp only [results, Tryd.results43]; go_simp) rfl ?_
   exact PVB.no hr.out qXt
  ·
   obtain ⟨j1, -⟩ := viewB_in ha
   have j4 := (shapeB_in j1).1
   clear j1
   cases hc : sliceB F T B hf ht
   ·
    have hr : Hid (sliceV b1 s1 t1 d F T B hf ht = noV) := Lib.hid (by unfold sliceV; rw [ha, hb, hc]; rfl)
    replace ha := Lib.hid ha
    replace hb := Lib.hid hb
    replace hc := Lib.hid hc
    go_enter Tryd.func43, Tryd.ntmps43
    go_wp2_with fail
    refine (validView_c b1 _ _ s1 t1 _ l1 m1 (h1.ext qXt) (k1.ext qXt)).mono ?_
    rintro e w1 ⟨rfl, xw1⟩
    have Lw1 : Ext w w1 := Ext.trans qXt xw1
    have Xw1 : Ext w w1 := Lw1
    have va0 : w1.cell? ⟨w.heap.size, 0, none⟩ = some (.int .i64 b1) := xw1.cell qCl
    have va1 : w1.cell? ⟨w.heap.size, 1, none⟩ = some (.slice a1 s1.length cp1) := xw1.cell qCl
    have va2 : w1.cell? ⟨w.heap.size, 2, none⟩ = some (.slice a2 t1.length cp2) := xw1.cell qCl
    have sl0 : w1.cell? ⟨w.heap.size + 1, 0, none⟩ = some (.int .i64 F) := xw1.cell qCl
    have sl1 : w1.cell? ⟨w.heap.size + 1, 1, none⟩ = some (.int .i64 T) := xw1.cell qCl
    have sl2 : w1.cell? ⟨w.heap.size + 1, 2, none⟩ = some (.int .i64 B) := xw1.cell qCl
    have sl3 : w1.cell? ⟨w.heap.size + 1, 3, none⟩ = some (.bool hf) := xw1.cell qCl
    have sl4 : w1.cell? ⟨w.heap.size + 1, 4, none⟩ = some (.bool ht) := xw1.cell qCl
    have q0 : w1.cell? ⟨w.heap.size + 1 + 1, 0, none⟩ = some (.int .i64 0) := xw1.cell qCl
    have q1 : w1.cell? ⟨w.heap.size + 1 + 1, 1, none⟩ = some (.slice none 0 0) := xw1.cell qCl
    have q2 : w1.cell? ⟨w.heap.size + 1 + 1, 2, none⟩ = some (.slice none 0 0) := xw1.cell qCl
    have f_q0 : w1.frozen? ⟨w.heap.size + 1 + 1, 0, none⟩ = false := xw1.frz (by simp <;> omega) qFz
    have f_q1 : w1.frozen? ⟨w.heap.size + 1 + 1, 1, none⟩ = false := xw1.frz (by simp <;> omega) qFz
    have f_q2 : w1.frozen? ⟨w.heap.size + 1 + 1, 2, none⟩ = false := xw1.frz (by simp <;> omega) qFz
    have z_va : w.heap.size < w1.heap.size := qB va0
    have z_sl : w.heap.size + 1 < w1.heap.size := qB sl0
    have z_q : w.heap.size + 1 + 1 < w1.heap.size := qB q0
    have s_w1 : w.heap.size ≤ w1.heap.size := Xw1.size
    clear xw1
    rw [ha.out]
    go_wp2_with fail
    refine (isDim_c b1 _ _ s1 t1 d _ l1 m1 (h1.ext (Xw1.trans qXt)) (k1.ext (Xw1.trans qXt)) (by omega)).mono ?_
    rintro e w2 ⟨rfl, xw2⟩
    have Lw2 : Ext w1 w2 := Ext.trans qXt xw2
    have Xw2 : Ext w w2 := Xw1.trans Lw2
    replace va0 := Lw2.cell va0
    replace va1 := Lw2.cell va1
    replace va2 := Lw2.cell va2
    replace sl0 := Lw2.cell sl0
    replace sl1 := Lw2.cell sl1
    replace sl2 := Lw2.cell sl2
    replace sl3 := Lw2.cell sl3
    replace sl4 := Lw2.cell sl4
    replace q0 := Lw2.cell q0
    replace q1 := Lw2.cell q1
    replace q2 := Lw2.cell q2
    replace f_q0 := Lw2.frz z_q f_q0
    replace f_q1 := Lw2.frz z_q f_q1
    replace f_q2 := Lw2.frz z_q f_q2
    have z_va : w.heap.size < w2.heap.size := qB va0
    have z_sl : w.heap.size + 1 < w2.heap.size := qB sl0
    have z_q : w.heap.size + 1 + 1 < w2.heap.size := qB q0
    have s_w2 : w.heap.size ≤ w2.heap.size := Xw2.size
    clear xw2
    rw [hb.out]
    go_wp2_with fail
    refine (validSlice_c F T B hf ht _).mono ?_
    rintro e w3 ⟨rfl, xw3⟩
    have Lw3 : Ext w2 w3 := Ext.trans qXt xw3
    have Xw3 : Ext w w3 := Xw2.trans Lw3
    replace va0 := Lw3.cell va0
    replace va1 := Lw3.cell va1
    replace va2 := Lw3.cell va2
    replace sl0 := Lw3.cell sl0
    replace sl1 := Lw3.cell sl1
    replace sl2 := Lw3.cell sl2
    replace sl3 := Lw3.cell sl3
    replace sl4 := Lw3.cell sl4
    replace q0 := Lw3.cell q0
    replace q1 := Lw3.cell q1
    replace q2 := Lw3.cell q2
    replace f_q0 := Lw3.frz z_q f_q0
    replace f_q1 := Lw3.frz z_q f_q1
    replace f_q2 := Lw3.frz z_q f_q2
    have z_va : w.heap.size < w3.heap.size := qB va0
    have z_sl : w.heap.size + 1 < w3.heap.size := qB sl0
    have z_q : w.heap.size + 1 + 1 < w3.heap.size := qB q0
    have s_w3 : w.heap.size ≤ w3.heap.size := Xw3.size
    clear xw3
    rw [hc.out]
    go_wp2_with fail
    refine bodyPost_ret (v := .tuple #[.agg #[.int .i64 0, .slice none 0 0, .slice none 0 0], .bool false]) (by simp only [results, Tryd.results43]; go_simp) rfl ?_
    exact PVB.no hr.out qXt
   ·
    have hd : 0 ≤ d ∧ d < s1.length := by simp [inB] at hb; omega
    obtain ⟨L, hL⟩ : ∃ L, Hid (idxS (s1.getD d.toNat 0) F T B hf ht = L) := ⟨_, Lib.hid rfl⟩
    have hv := sliceV_view ha hd hc
    have hr := sliceV_yes ha hb hc hL.out
    rw [hL.out] at hv
    have hcut : ∀ W, Ext w W → Calls Tryd.prog 56 #[.agg #[.int .i64 b1, .slice a1 s1.length cp1, .slice a2 t1.length cp2], .int .i64 (d.toNat : Int), .agg #[.int .i64 F, .int .i64 T, .int .i64 B, .bool hf, .bool ht]] W (PView W (cutB b1 s1 t1 d.toNat L) (cutS s1 d.toNat L) (cutT s1 t1 d.toNat L)) :=
     fun W hW => cutDim_c b1 _ _ s1 t1 d.toNat F T B hf ht L W l1 m1 (h1.ext hW) (k1.ext hW) ha (by omega) hc hL.out
    rw [Int.toNat_of_nonneg hd.1] at hcut
    replace hv := Lib.hid hv
    generalize cutB b1 s1 t1 d.toNat L = cb at *
    generalize cutS s1 d.toNat L = cs at *
    generalize cutT s1 t1 d.toNat L = ct at *
    replace hcut := Lib.hid hcut
    replace hr := Lib.hid hr
    replace ha := Lib.hid ha
    replace hb := Lib.hid hb
    replace hc := Lib.hid hc
    go_enter Tryd.func43, Tryd.ntmps43
    go_wp2_with fail
    refine (validView_c b1 _ _ s1 t1 _ l1 m1 (h1.ext qXt) (k1.ext qXt)).mono ?_
    rintro e w1 ⟨rfl, xw1⟩
    have Lw1 : Ext w w1 := Ext.trans qXt xw1
    have Xw1 : Ext w w1 := Lw1
    have va0 : w1.cell? ⟨w.heap.size, 0, none⟩ = some (.int .i64 b1) := xw1.cell qCl
    have va1 : w1.cell? ⟨w.heap.size, 1, none⟩ = some (.slice a1 s1.length cp1) := xw1.cell qCl
    have va2 : w1.cell? ⟨w.heap.size, 2, none⟩ = some (.slice a2 t1.length cp2) := xw1.cell qCl
    have sl0 : w1.cell? ⟨w.heap.size + 1, 0, none⟩ = some (.int .i64 F) := xw1.cell qCl
    have sl1 : w1.cell? ⟨w.heap.size + 1, 1, none⟩ = some (.int .i64 T) := xw1.cell qCl
    have sl2 : w1.cell? ⟨w.heap.size + 1, 2, none⟩ = some (.int .i64 B) := xw1.cell qCl
    have sl3 : w1.cell? ⟨w.heap.size + 1, 3, none⟩ = some (.bool hf) := xw1.cell qCl
    have sl4 : w1.cell? ⟨w.heap.size + 1, 4, none⟩ = some (.bool ht) := xw1.cell qCl
    have q0 : w1.cell? ⟨w.heap.size + 1 + 1, 0, none⟩ = some (.int .i64 0) := xw1.cell qCl
    have q1 : w1.cell? ⟨w.heap.size + 1 + 1, 1, none⟩ = some (.slice none 0 0) := xw1.cell qCl
    have q2 : w1.cell? ⟨w.heap.size + 1 + 1, 2, none⟩ = some (.slice none 0 0) := xw1.cell qCl
    have f_q0 : w1.frozen? ⟨w.heap.size + 1 + 1, 0, none⟩ = false := xw1.frz (by simp <;> omega) qFz
    have f_q1 : w1.frozen? ⟨w.heap.size + 1 + 1, 1, none⟩ = false := xw1.frz (by simp <;> omega) qFz
    have f_q2 : w1.frozen? ⟨w.heap.size + 1 + 1, 2, none⟩ = false := xw1.frz (by simp <;> omega) qFz
    have z_va : w.heap.size < w1.heap.size := qB va0
    have z_sl : w.heap.size + 1 < w1.heap.size := qB sl0
    have z_q : w.heap.size + 1 + 1 < w1.heap.size := qB q0
    have s_w1 : w.heap.size ≤ w1.heap.size := Xw1.size
    clear xw1
    rw [ha.out]
    go_wp2_with fail
    refine (isDim_c b1 _ _ s1 t1 d _ l1 m1 (h1.ext (Xw1.trans qXt)) (k1.ext (Xw1.trans qXt)) (by omega)).mono ?_
    rintro e w2 ⟨rfl, xw2⟩
    have Lw2 : Ext w1 w2 := Ext.trans qXt xw2
    have Xw2 : Ext w w2 := Xw1.trans Lw2
    replace va0 := Lw2.cell va0
    replace va1 := Lw2.cell va1
    replace va2 := Lw2.cell va2
    replace sl0 := Lw2.cell sl0
    replace sl1 := Lw2.cell sl1
    replace sl2 := Lw2.cell sl2
    replace sl3 := Lw2.cell sl3
    replace sl4 := Lw2.cell sl4
    replace q0 := Lw2.cell q0
    replace q1 := Lw2.cell q1
    replace q2 := Lw2.cell q2
    replace f_q0 := Lw2.frz z_q f_q0
    replace f_q1 := Lw2.frz z_q f_q1
    replace f_q2 := Lw2.frz z_q f_q2
    have z_va : w.heap.size < w2.heap.size := qB va0
    have z_sl : w.heap.size + 1 < w2.heap.size := qB sl0
    have z_q : w.heap.size + 1 + 1 < w2.heap.size := qB q0
    have s_w2 : w.heap.size ≤ w2.heap.size := Xw2.size
    clear xw2
    rw [hb.out]
    go_wp2_with fail
    refine (validSlice_c F T B hf ht _).mono ?_
    rintro e w3 ⟨rfl, xw3⟩
    have Lw3 : Ext w2 w3 := Ext.trans qXt xw3
    have Xw3 : Ext w w3 := Xw2.trans Lw3
    replace va0 := Lw3.cell va0
    replace va1 := Lw3.cell va1
    replace va2 := Lw3.cell va2
    replace sl0 := Lw3.cell sl0
    replace sl1 := Lw3.cell sl1
    replace sl2 := Lw3.cell sl2
    replace sl3 := Lw3.cell sl3
    replace sl4 := Lw3.cell sl4
    replace q0 := Lw3.cell q0
    replace q1 := Lw3.cell q1
    replace q2 := Lw3.cell q2
    replace f_q0 := Lw3.frz z_q f_q0
    replace f_q1 := Lw3.frz z_q f_q1
    replace f_q2 := Lw3.frz z_q f_q2
    have z_va : w.heap.size < w3.heap.size := qB va0
    have z_sl : w.heap.size + 1 < w3.heap.size := qB sl0
    have z_q : w.heap.size + 1 + 1 < w3.heap.size := qB q0
    have s_w3 : w.heap.size ≤ w3.heap.size := Xw3.size
    clear xw3
    rw [hc.out]
    go_wp2_with fail
    refine (hcut.out _ (Xw3.trans qXt)).mono ?_
    rintro e w4 ⟨x1, x2, rfl, i1, i2, -, -, -, xw4⟩
    have Lw4 : Ext w3 w4 := Ext.trans qXt xw4
    have Xw4 : Ext w w4 := Xw3.trans Lw4
    replace va0 := Lw4.cell va0
    replace va1 := Lw4.cell va1
    replace va2 := Lw4.cell va2
    replace sl0 := Lw4.cell sl0
    replace sl1 := Lw4.cell sl1
    replace sl2 := Lw4.cell sl2
    replace sl3 := Lw4.cell sl3
    replace sl4 := Lw4.cell sl4
    replace q0 := Lw4.cell q0
    replace q1 := Lw4.cell q1
    replace q2 := Lw4.cell q2
    replace f_q0 := Lw4.frz z_q f_q0
    replace f_q1 := Lw4.frz z_q f_q1
    replace f_q2 := Lw4.frz z_q f_q2
    have z_va : w.heap.size < w4.heap.size := qB va0
    have z_sl : w.heap.size + 1 < w4.heap.size := qB sl0
    have z_q : w.heap.size + 1 + 1 < w4.heap.size := qB q0
    have s_w4 : w.heap.size ≤ w4.heap.size := Xw4.size
    clear xw4
    go_wp2_with fail
    refine (made_1 _ _ _ _ _ _ _ _ (i1.ext qXt) (i2.ext qXt) hv.out).mono ?_
    rintro e w5 ⟨y1, y2, rfl, j1, j2, o1, o2, od, xw5⟩
    have Lw5 : Ext w4 w5 := Ext.trans qXt xw5
    have Xw5 : Ext w w5 := Xw4.trans Lw5
    replace va0 := Lw5.cell va0
    replace va1 := Lw5.cell va1
    replace va2 := Lw5.cell va2
    replace sl0 := Lw5.cell sl0
    replace sl1 := Lw5.cell sl1
    replace sl2 := Lw5.cell sl2
    replace sl3 := Lw5.cell sl3
    replace sl4 := Lw5.cell sl4
    replace q0 := Lw5.cell q0
    replace q1 := Lw5.cell q1
    replace q2 := Lw5.cell q2
    replace f_q0 := Lw5.frz z_q f_q0
    replace f_q1 := Lw5.frz z_q f_q1
    replace f_q2 := Lw5.frz z_q f_q2
    have z_va : w.heap.size < w5.heap.size := qB va0
    have z_sl : w.heap.size + 1 < w5.heap.size := qB sl0
    have z_q : w.heap.size + 1 + 1 < w5.heap.size := qB q0
    replace i1 := i1.ext Lw5
    replace i2 := i2.ext Lw5
    have s_w5 : w.heap.size ≤ w5.heap.size := Xw5.size
    clear xw5
    have hl1 := ints_len j1
    have hl2 := ints_len j2
    clear i1 i2
    obtain ⟨p1, n1, r1, rfl⟩ := o1.form
    obtain ⟨p2, n2, r2, rfl⟩ := o2.form
    go_wp2_with fail
    generalize hW1 : (((w5.setCell ⟨w.heap.size + 1 + 1, 0, none⟩ (.int .i64 cb)).setCell ⟨w.heap.size + 1 + 1, 1, none⟩ (.slice p1 n1 r1)).setCell ⟨w.heap.size + 1 + 1, 2, none⟩ (.slice p2 n2 r2)) = w6 at *
    have Kw6 : Chg (w.heap.size + 1 + 1) (w.heap.size + 1 + 1 + 1) w5 w6 := by subst hW1; exact qCh
    have Xw6 : Ext w w6 := by subst hW1; exact qXt
    replace va0 := Kw6.cell (by omega) va0
    replace va1 := Kw6.cell (by omega) va1
    replace va2 := Kw6.cell (by omega) va2
    replace sl0 := Kw6.cell (by omega) sl0
    replace sl1 := Kw6.cell (by omega) sl1
    replace sl2 := Kw6.cell (by omega) sl2
    replace sl3 := Kw6.cell (by omega) sl3
    replace sl4 := Kw6.cell (by omega) sl4
    replace q0 : w6.cell? ⟨w.heap.size + 1 + 1, 0, none⟩ = some (.int .i64 cb) := by subst hW1; go_simp
    replace f_q0 : w6.frozen? ⟨w.heap.size + 1 + 1, 0, none⟩ = false := by subst hW1; go_simp
    replace q1 : w6.cell? ⟨w.heap.size + 1 + 1, 1, none⟩ = some (.slice p1 n1 r1) := by subst hW1; go_simp
    replace f_q1 : w6.frozen? ⟨w.heap.size + 1 + 1, 1, none⟩ = false := by subst hW1; go_simp
    replace q2 : w6.cell? ⟨w.heap.size + 1 + 1, 2, none⟩ = some (.slice p2 n2 r2) := by subst hW1; go_simp
    replace f_q2 : w6.frozen? ⟨w.heap.size + 1 + 1, 2, none⟩ = false := by subst hW1; go_simp
    replace o1 := o1.chg Kw6 (by omega)
    replace o2 := o2.chg Kw6 (by omega)
    clear Kw6
    have z_va : w.heap.size < w6.heap.size := qB va0
    have z_sl : w.heap.size + 1 < w6.heap.size := qB sl0
    have z_q : w.heap.size + 1 + 1 < w6.heap.size := qB q0
    have s_w6 : w.heap.size ≤ w6.heap.size := Xw6.size
    clear hW1
    refine bodyPost_ret (v := .tuple #[.agg #[.int .i64 cb, .slice p1 n1 r1, .slice p2 n2 r2], .bool true]) (by simp only [results, Tryd.results43]; go_simp) rfl ?_
    clear hL hcut hv
    exact PVB.yes hr.out (o1.lower (by omega)) (o2.lower (by omega)) od hl1 hl2 Xw6

end Go.Proofs.YtgklaobfikbiiaaDoor

/- Walks: permuted of the reference. -/
namespace Go.Proofs.YtgklaobfikbiiaaDoor
open Go.RowKit
set_option linter.unusedVariables false
set_option maxRecDepth 100000

end Go.Proofs.YtgklaobfikbiiaaDoor

/- Walks: insert of the reference. -/
namespace Go.Proofs.YtgklaobfikbiiaaDoor
open Go.RowKit
set_option linter.unusedVariables false
set_option maxRecDepth 100000

end Go.Proofs.YtgklaobfikbiiaaDoor

/- Walks: made, PermuteDims, FlipDim, AddDim and WindowsOf of the reference. -/
namespace Go.Proofs.YtgklaobfikbiiaaDoor
open Go.RowKit
set_option linter.unusedVariables false
set_option maxRecDepth 100000


theorem PVB.any {w w' : World} {x : VBool} {b : Int} {s t : List Int} {ok : Bool} {v1 v2 : Value} (h : x = (b, s, t, ok)) (o1 : OwnZ w' w.heap.size v1 s) (o2 : OwnZ w' w.heap.size v2 t) (hd : s ≠ [] → t ≠ [] → v1.ownBlock ≠ v2.ownBlock) (l1 : s.length ≤ 4194304) (l2 : t.length ≤ 4194304) (hx : Ext w w') :
    PVB w x (.returned (.tuple #[.agg #[.int .i64 b, v1, v2], .bool ok])) w' := by
  subst h; exact ⟨v1, v2, rfl, o1.ints l1, o2.ints l2, o1, o2, hd, hx⟩
/-- the view of a VBool: as many strides as extents, no more than four -/
def VBool.fit (x : VBool) : Prop := x.2.2.1.length = x.2.1.length ∧ x.2.1.length ≤ 4
theorem noV_fit : VBool.fit noV := ⟨rfl, Nat.zero_le _⟩
theorem view_fit {b : Int} {s t : List Int} {ok : Bool} (h : viewB b s t = true) : VBool.fit (b, s, t, ok) := ⟨(viewB_in h).2.1, (shapeB_in (viewB_in h).1).1⟩
theorem sliceV_fit (b : Int) (s t : List Int) (d F T B : Int) (hf ht : Bool) : VBool.fit (sliceV b s t d F T B hf ht) := by
  unfold sliceV
  split
  · rename_i h
    simp only [Bool.and_eq_true] at h
    obtain ⟨h1, h2, h3⟩ := h
    exact view_fit (sliceV_view h1 (by simp [inB] at h2; omega) h3)
  · exact noV_fit

end Go.Proofs.YtgklaobfikbiiaaDoor

/- Words for walks: an owned row with one element more. No condition. -/
namespace Go.Proofs.YtgklaobfikbiiaaDoor
open Go.RowKit
set_option linter.unusedVariables false
set_option maxRecDepth 100000

theorem OwnI.row2 {w : World} {base : Nat} {v : Value} {xs : List Int} (h : OwnI w base v xs) (hn : xs ≠ []) : ∃ g n c, v = .slice (some ⟨g, 0, none⟩) n c ∧ Hid (n = xs.length) ∧ base ≤ g ∧ g < w.heap.size := by
  obtain ⟨g, c, rfl, h1, h2⟩ := h.row hn
  exact ⟨g, _, c, rfl, Lib.hid rfl, h1, h2⟩
theorem own_or {g n c g0 n0 c0 z : Nat} (h : (Value.slice (some ⟨g, 0, none⟩) n c).ownBlock = (Value.slice (some ⟨g0, 0, none⟩) n0 c0).ownBlock ∨ (Value.slice (some ⟨g, 0, none⟩) n c).ownBlock = some z) : g = g0 ∨ g = z := by
  rcases h with h | h
  · left; have : some g = some g0 := h; cases this; rfl
  · right; have : some g = some z := h; cases this; rfl

end Go.Proofs.YtgklaobfikbiiaaDoor

/- Walks: WindowsOf of the reference. -/
namespace Go.Proofs.YtgklaobfikbiiaaDoor
open Go.RowKit
set_option linter.unusedVariables false
set_option maxRecDepth 100000

end Go.Proofs.YtgklaobfikbiiaaDoor

/- Walks: drawn ranges and slices. -/
namespace Go.Proofs.YtgklaobfikbiiaaDoor
open Go.RowKit
set_option linter.unusedVariables false
set_option maxRecDepth 100000

end Go.Proofs.YtgklaobfikbiiaaDoor

/- Walks: drawn slices. -/
namespace Go.Proofs.YtgklaobfikbiiaaDoor
open Go.RowKit
set_option linter.unusedVariables false
set_option maxRecDepth 100000

/-- a slice at a block -/
def SlAt (w : World) (g : Nat) : Prop := ∃ (F T B : Int) (hf ht : Bool), w.cell? ⟨g, 0, none⟩ = some (.int .i64 F) ∧ w.cell? ⟨g, 1, none⟩ = some (.int .i64 T) ∧ w.cell? ⟨g, 2, none⟩ = some (.int .i64 B) ∧ w.cell? ⟨g, 3, none⟩ = some (.bool hf) ∧ w.cell? ⟨g, 4, none⟩ = some (.bool ht) ∧
  w.frozen? ⟨g, 0, none⟩ = false ∧ w.frozen? ⟨g, 1, none⟩ = false ∧ w.frozen? ⟨g, 2, none⟩ = false ∧ w.frozen? ⟨g, 3, none⟩ = false ∧ w.frozen? ⟨g, 4, none⟩ = false
theorem SlAt.lt {w : World} {g : Nat} (h : SlAt w g) : g < w.heap.size := by obtain ⟨F, T, B, hf, ht, h, _⟩ := h; exact qB h

end Go.Proofs.YtgklaobfikbiiaaDoor

/- Walks: drawn shapes. -/
namespace Go.Proofs.YtgklaobfikbiiaaDoor
open Go.RowKit
set_option linter.unusedVariables false
set_option maxRecDepth 100000

theorem Below.chg {B : Nat} {a b : World} (h : Below B a b) : Chg B a.heap.size a b :=
  ⟨h.os, h.tape, h.output, h.size, fun k hk hd => by
    rcases hd with hd | hd
    · exact h.block k hd
    · omega⟩
theorem Rd.below {B : Nat} {a b : World} {rb k : Nat} (h : Rd a rb k) (hb : Below B a b) (hl : rb < B) : Rd b rb k := h.chgO (Below.chg hb) hl
theorem Rch.below {rb : Nat} {w a b : World} (h : Chg rb (rb + 1) w a) (hb : Below w.heap.size a b) : Chg rb (rb + 1) w b :=
  ⟨hb.os.trans h.os, hb.tape.trans h.tape, hb.output.trans h.output, Nat.le_trans h.size hb.size, fun k hk hd => (hb.block k hk).trans (h.block k hk hd)⟩

end Go.Proofs.YtgklaobfikbiiaaDoor

/- Words for drawn views: a view in a block, with rows of its own. No condition. -/
namespace Go.Proofs.YtgklaobfikbiiaaDoor
open Go.RowKit
set_option linter.unusedVariables false
set_option maxRecDepth 100000

/-- a view lies in block g; its rows are the call's own, from block B on, not g -/
structure VAt (B g : Nat) (w : World) (b : Int) (u v : Value) (s t : List Int) : Prop where
  c0 : w.cell? ⟨g, 0, none⟩ = some (.int .i64 b)
  c1 : w.cell? ⟨g, 1, none⟩ = some u
  c2 : w.cell? ⟨g, 2, none⟩ = some v
  f0 : w.frozen? ⟨g, 0, none⟩ = false
  f1 : w.frozen? ⟨g, 1, none⟩ = false
  f2 : w.frozen? ⟨g, 2, none⟩ = false
  o1 : OwnZ w B u s
  o2 : OwnZ w B v t
  sep : s ≠ [] → t ≠ [] → u.ownBlock ≠ v.ownBlock
  n1 : s ≠ [] → u.ownBlock ≠ some g
  n2 : t ≠ [] → v.ownBlock ≠ some g
  fit : t.length = s.length
  le : s.length ≤ 4
section
variable {B g rb lo hi : Nat} {w w' : World} {b : Int} {u v : Value} {s t : List Int}
theorem VAt.lt (h : VAt B g w b u v s t) : g < w.heap.size := qB h.c0
theorem VAt.ext (h : VAt B g w b u v s t) (x : Ext w w') : VAt B g w' b u v s t :=
  ⟨x.cell h.c0, x.cell h.c1, x.cell h.c2, x.frz h.lt h.f0, x.frz h.lt h.f1, x.frz h.lt h.f2, h.o1.ext x, h.o2.ext x, h.sep, h.n1, h.n2, h.fit, h.le⟩
/-- another block has turned, behind the rows and the view -/
theorem VAt.chgB (h : VAt B g w b u v s t) (k : Chg lo hi w w') (hg : g < lo) (h1 : s ≠ [] → ∀ q, u.ownBlock = some q → q < lo) (h2 : t ≠ [] → ∀ q, v.ownBlock = some q → q < lo) : VAt B g w' b u v s t :=
  ⟨k.cell (by omega) h.c0, k.cell (by omega) h.c1, k.cell (by omega) h.c2, k.frzO (by omega) h.lt h.f0, k.frzO (by omega) h.lt h.f1, k.frzO (by omega) h.lt h.f2, h.o1.chgB k h1, h.o2.chgB k h2, h.sep, h.n1, h.n2, h.fit, h.le⟩
/-- another block has turned, ahead of the rows, not the view's -/
theorem VAt.chg (h : VAt B g w b u v s t) (k : Chg lo hi w w') (hg : g < lo ∨ hi ≤ g) (hb : hi ≤ B) : VAt B g w' b u v s t :=
  ⟨k.cell hg h.c0, k.cell hg h.c1, k.cell hg h.c2, k.frzO hg h.lt h.f0, k.frzO hg h.lt h.f1, k.frzO hg h.lt h.f2, h.o1.chg k hb, h.o2.chg k hb, h.sep, h.n1, h.n2, h.fit, h.le⟩
theorem VAt.lower (h : VAt B g w b u v s t) {B' : Nat} (hb : B' ≤ B) : VAt B' g w b u v s t := ⟨h.c0, h.c1, h.c2, h.f0, h.f1, h.f2, h.o1.lower hb, h.o2.lower hb, h.sep, h.n1, h.n2, h.fit, h.le⟩
theorem VAt.new (b : Int) (o1 : OwnZ w B u s) (o2 : OwnZ w B v t) (hs : s ≠ [] → t ≠ [] → u.ownBlock ≠ v.ownBlock) (hf : t.length = s.length) (hl : s.length ≤ 4) : VAt B w.heap.size (w.alloc (.cells #[.int .i64 b, u, v] 54)) b u v s t :=
  ⟨by simp, by simp, by simp, by simp, by simp, by simp, o1.ext ((Ext.refl w).alloc _), o2.ext ((Ext.refl w).alloc _), hs, (fun h e => by have := o1.bound h _ e; omega), (fun h e => by have := o2.bound h _ e; omega), hf, hl⟩
end
/-- a view is stored into a block that lies ahead of its rows -/
theorem VAt.put {B g : Nat} {w : World} {b b0 : Int} {u v u0 v0 : Value} {s t : List Int} (c0 : w.cell? ⟨g, 0, none⟩ = some (.int .i64 b0)) (c1 : w.cell? ⟨g, 1, none⟩ = some u0) (c2 : w.cell? ⟨g, 2, none⟩ = some v0)
    (f0 : w.frozen? ⟨g, 0, none⟩ = false) (f1 : w.frozen? ⟨g, 1, none⟩ = false) (f2 : w.frozen? ⟨g, 2, none⟩ = false) (o1 : OwnZ w B u s) (o2 : OwnZ w B v t) (hs : s ≠ [] → t ≠ [] → u.ownBlock ≠ v.ownBlock) (hf : t.length = s.length) (hl : s.length ≤ 4) (hg : g < B) :
    VAt B g (((w.setCell ⟨g, 0, none⟩ (.int .i64 b)).setCell ⟨g, 1, none⟩ u).setCell ⟨g, 2, none⟩ v) b u v s t := by
  have k := Chg.three (lo := g) w (.int .i64 b) u v
  have m1 : s ≠ [] → u.ownBlock ≠ some g := fun h e => by obtain ⟨q, e2, h2, _⟩ := o1.lt h; rw [e2] at e; cases e; omega
  have m2 : t ≠ [] → v.ownBlock ≠ some g := fun h e => by obtain ⟨q, e2, h2, _⟩ := o2.lt h; rw [e2] at e; cases e; omega
  exact ⟨by go_simp, by go_simp, by go_simp, by go_simp, by go_simp, by go_simp, o1.chg k (by omega), o2.chg k (by omega), hs, m1, m2, hf, hl⟩

/-- a view that is told to be one has a dimension -/
def VBool.live (x : VBool) : Prop := x.2.2.2 = true → x.2.1 ≠ []
/-- a call hands back a view with a bool: as many strides as extents, no more than four -/
def PFit (w : World) (e : Ending) (w' : World) : Prop :=
  ∃ (b : Int) (s t : List Int) (ok : Bool) (p1 p2 : Option Addr) (n1 r1 n2 r2 : Nat), e = .returned (.tuple #[.agg #[.int .i64 b, .slice p1 n1 r1, .slice p2 n2 r2], .bool ok]) ∧ OwnZ w' w.heap.size (.slice p1 n1 r1) s ∧ OwnZ w' w.heap.size (.slice p2 n2 r2) t ∧
    (s ≠ [] → t ≠ [] → (Value.slice p1 n1 r1).ownBlock ≠ (Value.slice p2 n2 r2).ownBlock) ∧ t.length = s.length ∧ (s.length ≤ 4 ∧ (ok = true → s ≠ [])) ∧ Ext w w'
theorem PFit.of {w w' : World} {e : Ending} {x : VBool} (h : PVB w x e w') (hf : x.fit) (hv : x.live) : PFit w e w' := by
  obtain ⟨b, s, t, ok⟩ := x
  obtain ⟨sh, st, rfl, -, -, o1, o2, od, xx⟩ := h
  obtain ⟨p1, n1, r1, rfl⟩ := o1.form
  obtain ⟨p2, n2, r2, rfl⟩ := o2.form
  exact ⟨b, s, t, ok, p1, p2, n1, r1, n2, r2, rfl, o1, o2, od, hf.1, ⟨hf.2, hv⟩, xx⟩
/-- the state behind the choice of the next view -/
def NextAt (rb q gn gv : Nat) (w : World) (b : Int) (u v : Value) (s t : List Int) (ok : Value) (wx : World) : Prop :=
  ∃ (o : Bool) (b' : Int) (s' t' : List Int) (p1 p2 : Option Addr) (m1 r1 m2 r2 : Nat), ok = .bool o ∧ (o = true → s' ≠ []) ∧ VAt (gn + 1) gn wx b' (.slice p1 m1 r1) (.slice p2 m2 r2) s' t' ∧ VAt (w.heap.size + 1) gv wx b u v s t ∧
    VAt (w.heap.size + 1) w.heap.size wx 0 (.slice none 0 0) (.slice none 0 0) [] [] ∧ Rd wx rb (q + 20) ∧ Rch rb w wx
theorem NextAt.put {rb q gn gv B0 B m1 r1 m2 r2 : Nat} {w w12 : World} {b bn b' : Int} {u v un vn : Value} {p1 p2 : Option Addr} {s t sn tn s' t' : List Int} (o : Bool) (VN : VAt B0 gn w12 bn un vn sn tn) (V : VAt (w.heap.size + 1) gv w12 b u v s t)
    (Q : VAt (w.heap.size + 1) w.heap.size w12 0 (.slice none 0 0) (.slice none 0 0) [] []) (hr : Rd w12 rb (q + 20)) (X : Rch rb w w12) (h1 : rb < w.heap.size) (h2 : w.heap.size < gv) (h3 : gv < gn)
    (hb1 : s ≠ [] → ∀ g, u.ownBlock = some g → g < gn) (hb2 : t ≠ [] → ∀ g, v.ownBlock = some g → g < gn) (o1 : OwnZ w12 B (.slice p1 m1 r1) s') (o2 : OwnZ w12 B (.slice p2 m2 r2) t') (hs : s' ≠ [] → t' ≠ [] → (Value.slice p1 m1 r1).ownBlock ≠ (Value.slice p2 m2 r2).ownBlock) (hf : t'.length = s'.length) (hl : s'.length ≤ 4 ∧ (o = true → s' ≠ [])) (hB : gn < B) :
    NextAt rb q gn gv w b u v s t (.bool o) (((w12.setCell ⟨gn, 0, none⟩ (.int .i64 b')).setCell ⟨gn, 1, none⟩ (.slice p1 m1 r1)).setCell ⟨gn, 2, none⟩ (.slice p2 m2 r2)) :=
  ⟨o, b', s', t', p1, p2, m1, r1, m2, r2, rfl, hl.2, VAt.put VN.c0 VN.c1 VN.c2 VN.f0 VN.f1 VN.f2 (o1.lower hB) (o2.lower hB) hs hf hl.1 (Nat.lt_succ_self _), V.chgB (Chg.three w12 _ _ _) h3 hb1 hb2,
    Q.chgB (Chg.three w12 _ _ _) (by omega) (fun h => absurd rfl h) (fun h => absurd rfl h),
    Rd.set2 (show rb < gn by omega) (Rd.set2 (show rb < gn by omega) (Rd.set2 (show rb < gn by omega) hr)),
    ((X.set (show w.heap.size ≤ gn by omega) _).set (show w.heap.size ≤ gn by omega) _).set (show w.heap.size ≤ gn by omega) _⟩

end Go.Proofs.YtgklaobfikbiiaaDoor

/- Walks: ValidView, FitsIn, BoundsOf. -/
namespace Go.Proofs.YtgklaobfikbiiaaDoor
open Go.RowKit
set_option linter.unusedVariables false
set_option maxRecDepth 100000


end Go.Proofs.YtgklaobfikbiiaaDoor

/- Words for memory: slices of exports that read as lists. No condition. -/
namespace Go.Proofs.YtgklaobfikbiiaaDoor
open Go.RowKit
set_option linter.unusedVariables false
set_option maxRecDepth 100000

/-- an export: its parent, the base, the shape and the strides of its view, and whether it is open -/
structure Exp where
  par : Int
  b : Int
  s : List Int
  t : List Int
  op : Bool
def noE : Exp := ⟨0, 0, [], [], false⟩
/-- the export number i -/
def expAt (es : List Exp) (i : Nat) : Exp := es.getD i noE
theorem expAt_get {es : List Exp} {i : Nat} (h : i < es.length) : expAt es i = es[i] := by unfold expAt; simp [h]

/-- the slice value v reads as the exports es; its cells, and those of their views, lie in blocks from lo on -/
def Exps (w : World) (lo : Nat) (v : Value) (es : List Exp) : Prop :=
  ∃ a cap, v = .slice a es.length cap ∧ es.length ≤ cap ∧ cap ≤ maxLen ∧ (es.length ≤ 1048576 ∧ (a = none → cap = 0)) ∧
    ∀ i, i < es.length → ∃ bl off u1 c1 u2 c2, a = some ⟨bl, off, none⟩ ∧ lo ≤ bl ∧
      w.cell? ⟨bl, off + i * 5, none⟩ = some (.int .i64 (expAt es i).par) ∧ w.cell? ⟨bl, off + i * 5 + 1, none⟩ = some (.int .i64 (expAt es i).b) ∧
      w.cell? ⟨bl, off + i * 5 + 2, none⟩ = some (.slice u1 (expAt es i).s.length c1) ∧ w.cell? ⟨bl, off + i * 5 + 3, none⟩ = some (.slice u2 (expAt es i).t.length c2) ∧
      w.cell? ⟨bl, off + i * 5 + 4, none⟩ = some (.bool (expAt es i).op) ∧ Ints w lo (.slice u1 (expAt es i).s.length c1) (expAt es i).s ∧ Ints w lo (.slice u2 (expAt es i).t.length c2) (expAt es i).t
section
variable {w w' : World} {lo lo' : Nat} {v : Value} {es : List Exp}
theorem Exps.ext (h : Exps w lo v es) (hx : Ext w w') : Exps w' lo v es := by
  obtain ⟨a, cap, hv, h1, h2, h3, h4⟩ := h
  refine ⟨a, cap, hv, h1, h2, h3, fun i hi => ?_⟩
  obtain ⟨bl, off, u1, c1, u2, c2, ha, hl, k0, k1, k2, k3, k4, i1, i2⟩ := h4 i hi
  exact ⟨bl, off, u1, c1, u2, c2, ha, hl, hx.cell k0, hx.cell k1, hx.cell k2, hx.cell k3, hx.cell k4, i1.ext hx, i2.ext hx⟩
theorem Exps.lower (h : Exps w lo v es) (hl : lo' ≤ lo) : Exps w lo' v es := by
  obtain ⟨a, cap, hv, h1, h2, h3, h4⟩ := h
  refine ⟨a, cap, hv, h1, h2, h3, fun i hi => ?_⟩
  obtain ⟨bl, off, u1, c1, u2, c2, ha, hb, k0, k1, k2, k3, k4, i1, i2⟩ := h4 i hi
  exact ⟨bl, off, u1, c1, u2, c2, ha, by omega, k0, k1, k2, k3, k4, i1.lower hl, i2.lower hl⟩
theorem Exps.chg {l h' : Nat} (h : Exps w lo v es) (k : Chg l h' w w') (hb : h' ≤ lo) : Exps w' lo v es := by
  obtain ⟨a, cap, hv, h1, h2, h3, h4⟩ := h
  refine ⟨a, cap, hv, h1, h2, h3, fun i hi => ?_⟩
  obtain ⟨bl, off, u1, c1, u2, c2, ha, hb', k0, k1, k2, k3, k4, i1, i2⟩ := h4 i hi
  exact ⟨bl, off, u1, c1, u2, c2, ha, hb', k.cell (.inr (by omega)) k0, k.cell (.inr (by omega)) k1, k.cell (.inr (by omega)) k2, k.cell (.inr (by omega)) k3, k.cell (.inr (by omega)) k4, i1.chg k hb, i2.chg k hb⟩
theorem Exps.form (h : Exps w lo v es) : ∃ a c, v = .slice a es.length c := by obtain ⟨a, cap, rfl, _⟩ := h; exact ⟨_, _, rfl⟩
theorem Exps.len (h : Exps w lo v es) : es.length ≤ 1048576 := by obtain ⟨_, _, _, _, _, ⟨h, _⟩, _⟩ := h; exact h
theorem Exps.nil (w : World) (lo : Nat) : Exps w lo (.slice none 0 0) [] := ⟨none, 0, rfl, by simp, by simp, ⟨by simp, fun _ => rfl⟩, fun i hi => absurd hi (by simp)⟩
/-- the cells of one export -/
theorem Exps.at {a : Option Addr} {n c : Nat} (h : Exps w lo (.slice a n c) es) (i : Nat) (hi : i < es.length) : ∃ bl off u1 c1 u2 c2, a = some ⟨bl, off, none⟩ ∧
      w.cell? ⟨bl, off + i * 5, none⟩ = some (.int .i64 (expAt es i).par) ∧ w.cell? ⟨bl, off + i * 5 + 1, none⟩ = some (.int .i64 (expAt es i).b) ∧
      w.cell? ⟨bl, off + i * 5 + 2, none⟩ = some (.slice u1 (expAt es i).s.length c1) ∧ w.cell? ⟨bl, off + i * 5 + 3, none⟩ = some (.slice u2 (expAt es i).t.length c2) ∧
      w.cell? ⟨bl, off + i * 5 + 4, none⟩ = some (.bool (expAt es i).op) ∧ Ints w lo (.slice u1 (expAt es i).s.length c1) (expAt es i).s ∧ Ints w lo (.slice u2 (expAt es i).t.length c2) (expAt es i).t := by
  obtain ⟨a', cap, hv, h1, h2, h3, h4⟩ := h
  cases hv
  obtain ⟨bl, off, u1, c1, u2, c2, ha, hb, k⟩ := h4 i hi
  exact ⟨bl, off, u1, c1, u2, c2, ha, k⟩
end
/-- is the export number i valid? -/
def expB (cells : List Int) (es : List Exp) (i : Nat) : Bool :=
  (inB (-1) ((i : Int) - 1) (expAt es i).par && viewB (expAt es i).b (expAt es i).s (expAt es i).t) &&
    (!(expAt es i).op || (fitB (expAt es i).b (expAt es i).s (expAt es i).t cells.length && (decide ((expAt es i).par < 0) || (expAt es (expAt es i).par.toNat).op)))
/-- are the first k exports valid? -/
def expsB (cells : List Int) (es : List Exp) (k : Nat) : Bool := (List.range k).all fun i => expB cells es i
theorem expsB_succ (cells : List Int) (es : List Exp) (k : Nat) : expsB cells es (k+1) = (expsB cells es k && expB cells es k) := by unfold expsB; rw [List.range_succ, List.all_append]; simp
theorem expsB_no {cells : List Int} {es : List Exp} {k n : Nat} (h : k < n) (hk : expB cells es k = false) : expsB cells es n = false := by
  unfold expsB
  rw [Bool.eq_false_iff]
  intro h2
  rw [List.all_eq_true] at h2
  have := h2 k (List.mem_range.2 h)
  rw [hk] at this; cases this
/-- is a buffer valid? -/
def bufB (cells : List Int) (es : List Exp) : Bool := (memB cells && decide (es.length ≤ 8)) && expsB cells es es.length
end Go.Proofs.YtgklaobfikbiiaaDoor

/- Walks: valid buffers. -/
namespace Go.Proofs.YtgklaobfikbiiaaDoor
open Go.RowKit
set_option linter.unusedVariables false
set_option maxRecDepth 100000

end Go.Proofs.YtgklaobfikbiiaaDoor

/- Walks: valid buffers of the reference. -/
namespace Go.Proofs.YtgklaobfikbiiaaDoor
open Go.RowKit
set_option linter.unusedVariables false
set_option maxRecDepth 100000

set_option maxHeartbeats 3200000 in
theorem vexp_0 (cells : List Int) (es : List Exp) (cv ev : Value) (k : Nat) (w : World) (l1 l2 : Nat) (h1 : Ints w l1 cv cells) (h2 : Exps w l2 ev es) (hlt : k < es.length) (hpar : 0 ≤ (expAt es k).par) :
  Calls Tryd.prog 37 #[.agg #[cv, ev], .int .i64 (k : Int)] w (fun e w' => e = .returned (.bool (expB cells es k)) ∧ Ext w w') := by
 obtain ⟨p0, c0, rfl⟩ := h1.form
 obtain ⟨p1, c1, rfl⟩ := h2.form
 have he1 := h2.len
 have hc1 := h1.len
 go_enter Tryd.func37, Tryd.ntmps37
 have hN_x2 : k < es.length := (by omega)
 have hI_x2 : (k : Int) < (es.length : Int) := by omega
 obtain ⟨bl15, ol16, u9, c10, u11, c12, rfl, x20, x21, x22, x23, x24, i13, i14⟩ := h2.at k hN_x2
 obtain ⟨X8, hX8⟩ : ∃ x, expAt es k = x := ⟨_, rfl⟩
 rw [hX8] at x20 x21 x22 x23 x24 i13 i14
 have hpq_x2 := hpar
 rw [hX8] at hpq_x2
 obtain ⟨P3, B4, S5, T6, O7⟩ := X8
 dsimp only at x20 x21 x22 x23 x24 i13 i14 hpq_x2
 obtain ⟨q, rfl⟩ : ∃ q : Nat, P3 = (q : Int) := ⟨P3.toNat, by omega⟩
 clear hpq_x2
 replace hX8 := Lib.hid hX8
 have z_x2 : bl15 < w.heap.size := qB x20
 cases O7
 ·
  go_wp2_with fail
  refine (inRange_c (q : Int) (-1) ((k : Int) - 1) _).mono ?_
  rintro e w' ⟨rfl, rfl⟩
  cases hB18 : inB (-1) ((k : Int) - 1) (q : Int)
  ·
   replace hB18 := Lib.hid hB18
   go_wp2_with fail
   go_ret
   exact ⟨by rw [show expB cells es k = false from (by unfold expB; rw [hX8.out]; dsimp only; rw [hB18.out]; simp <;> omega)] <;> rfl, qXt⟩
  ·
   replace hB18 := Lib.hid hB18
   have hin7 : -1 ≤ (q : Int) ∧ (q : Int) ≤ (k : Int) - 1 := by have h7 := hB18.out; unfold inB at h7; simpa using h7
   go_wp2_with fail
   refine (validView_c B4 (.slice u9 S5.length c10) (.slice u11 T6.length c12) S5 T6 _ _ _ (i13.ext qXt) (i14.ext qXt)).mono ?_
   rintro e w1 ⟨rfl, xw1⟩
   have Lw1 : Ext w w1 := Ext.trans qXt xw1
   have Xw1 : Ext w w1 := Lw1
   have b10 : w1.cell? ⟨w.heap.size, 0, none⟩ = some (.slice p0 cells.length c0) := xw1.cell qCl
   have b11 : w1.cell? ⟨w.heap.size, 1, none⟩ = some (.slice (some ⟨bl15, ol16, none⟩) es.length c1) := xw1.cell qCl
   replace x20 := Lw1.cell x20
   replace x21 := Lw1.cell x21
   replace x22 := Lw1.cell x22
   replace x23 := Lw1.cell x23
   replace x24 := Lw1.cell x24
   have b170 : w1.cell? ⟨w.heap.size + 1, 0, none⟩ = some (.int .i64 (q : Int)) := xw1.cell qCl
   have b171 : w1.cell? ⟨w.heap.size + 1, 1, none⟩ = some (.int .i64 B4) := xw1.cell qCl
   have b172 : w1.cell? ⟨w.heap.size + 1, 2, none⟩ = some (.slice u9 S5.length c10) := xw1.cell qCl
   have b173 : w1.cell? ⟨w.heap.size + 1, 3, none⟩ = some (.slice u11 T6.length c12) := xw1.cell qCl
   have b174 : w1.cell? ⟨w.heap.size + 1, 4, none⟩ = some (.bool false) := xw1.cell qCl
   have z_b1 : w.heap.size < w1.heap.size := qB b10
   have z_x2 : bl15 < w1.heap.size := qB x20
   have z_b17 : w.heap.size + 1 < w1.heap.size := qB b170
   replace i13 := i13.ext Lw1
   replace i14 := i14.ext Lw1
   have s_w1 : w.heap.size ≤ w1.heap.size := Xw1.size
   clear xw1
   cases hB19 : viewB B4 S5 T6
   ·
    replace hB19 := Lib.hid hB19
    go_wp2_with fail
    go_ret
    exact ⟨by rw [show expB cells es k = false from (by unfold expB; rw [hX8.out]; dsimp only; rw [hB18.out]; rw [hB19.out]; simp <;> omega)] <;> rfl, (Xw1.trans qXt)⟩
   ·
    replace hB19 := Lib.hid hB19
    go_wp2_with fail
    go_ret
    exact ⟨by rw [show expB cells es k = true from (by unfold expB; rw [hX8.out]; dsimp only; rw [hB18.out]; rw [hB19.out]; simp <;> omega)] <;> rfl, (Xw1.trans qXt)⟩
 ·
  go_wp2_with fail
  refine (inRange_c (q : Int) (-1) ((k : Int) - 1) _).mono ?_
  rintro e w' ⟨rfl, rfl⟩
  cases hB21 : inB (-1) ((k : Int) - 1) (q : Int)
  ·
   replace hB21 := Lib.hid hB21
   go_wp2_with fail
   go_ret
   exact ⟨by rw [show expB cells es k = false from (by unfold expB; rw [hX8.out]; dsimp only; rw [hB21.out]; simp <;> omega)] <;> rfl, qXt⟩
  ·
   replace hB21 := Lib.hid hB21
   have hin7 : -1 ≤ (q : Int) ∧ (q : Int) ≤ (k : Int) - 1 := by have h7 := hB21.out; unfold inB at h7; simpa using h7
   go_wp2_with fail
   refine (validView_c B4 (.slice u9 S5.length c10) (.slice u11 T6.length c12) S5 T6 _ _ _ (i13.ext qXt) (i14.ext qXt)).mono ?_
   rintro e w1 ⟨rfl, xw1⟩
   have Lw1 : Ext w w1 := Ext.trans qXt xw1
   have Xw1 : Ext w w1 := Lw1
   have b10 : w1.cell? ⟨w.heap.size, 0, none⟩ = some (.slice p0 cells.length c0) := xw1.cell qCl
   have b11 : w1.cell? ⟨w.heap.size, 1, none⟩ = some (.slice (some ⟨bl15, ol16, none⟩) es.length c1) := xw1.cell qCl
   replace x20 := Lw1.cell x20
   replace x21 := Lw1.cell x21
   replace x22 := Lw1.cell x22
   replace x23 := Lw1.cell x23
   replace x24 := Lw1.cell x24
   have b200 : w1.cell? ⟨w.heap.size + 1, 0, none⟩ = some (.int .i64 (q : Int)) := xw1.cell qCl
   have b201 : w1.cell? ⟨w.heap.size + 1, 1, none⟩ = some (.int .i64 B4) := xw1.cell qCl
   have b202 : w1.cell? ⟨w.heap.size + 1, 2, none⟩ = some (.slice u9 S5.length c10) := xw1.cell qCl
   have b203 : w1.cell? ⟨w.heap.size + 1, 3, none⟩ = some (.slice u11 T6.length c12) := xw1.cell qCl
   have b204 : w1.cell? ⟨w.heap.size + 1, 4, none⟩ = some (.bool true) := xw1.cell qCl
   have z_b1 : w.heap.size < w1.heap.size := qB b10
   have z_x2 : bl15 < w1.heap.size := qB x20
   have z_b20 : w.heap.size + 1 < w1.heap.size := qB b200
   replace i13 := i13.ext Lw1
   replace i14 := i14.ext Lw1
   have s_w1 : w.heap.size ≤ w1.heap.size := Xw1.size
   clear xw1
   cases hB22 : viewB B4 S5 T6
   ·
    replace hB22 := Lib.hid hB22
    go_wp2_with fail
    go_ret
    exact ⟨by rw [show expB cells es k = false from (by unfold expB; rw [hX8.out]; dsimp only; rw [hB21.out]; rw [hB22.out]; simp <;> omega)] <;> rfl, (Xw1.trans qXt)⟩
   ·
    replace hB22 := Lib.hid hB22
    go_wp2_with fail
    refine (fits_c B4 (.slice u9 S5.length c10) (.slice u11 T6.length c12) S5 T6 (cells.length : Int) _ _ _ (i13.ext qXt) (i14.ext qXt) hB22.out (by first | omega | exact (vw hB22.out).1 | exact (vw hB22.out).2.1 | exact (vw hB22.out).2.2.1 | exact (vw hB22.out).2.2.2) (by first | omega | exact (vw hB22.out).1 | exact (vw hB22.out).2.1 | exact (vw hB22.out).2.2.1 | exact (vw hB22.out).2.2.2)).mono ?_
    rintro e w2 ⟨rfl, xw2⟩
    have Lw2 : Ext w1 w2 := Ext.trans qXt xw2
    have Xw2 : Ext w w2 := Xw1.trans Lw2
    replace b10 := Lw2.cell b10
    replace b11 := Lw2.cell b11
    replace x20 := Lw2.cell x20
    replace x21 := Lw2.cell x21
    replace x22 := Lw2.cell x22
    replace x23 := Lw2.cell x23
    replace x24 := Lw2.cell x24
    replace b200 := Lw2.cell b200
    replace b201 := Lw2.cell b201
    replace b202 := Lw2.cell b202
    replace b203 := Lw2.cell b203
    replace b204 := Lw2.cell b204
    have z_b1 : w.heap.size < w2.heap.size := qB b10
    have z_x2 : bl15 < w2.heap.size := qB x20
    have z_b20 : w.heap.size + 1 < w2.heap.size := qB b200
    replace i13 := i13.ext Lw2
    replace i14 := i14.ext Lw2
    have s_w2 : w.heap.size ≤ w2.heap.size := Xw2.size
    clear xw2
    cases hB23 : fitB B4 S5 T6 (cells.length : Int)
    ·
     replace hB23 := Lib.hid hB23
     go_wp2_with fail
     go_ret
     exact ⟨by rw [show expB cells es k = false from (by unfold expB; rw [hX8.out]; dsimp only; rw [hB21.out]; rw [hB22.out]; rw [hB23.out]; simp <;> omega)] <;> rfl, (Xw2.trans qXt)⟩
    ·
     replace hB23 := Lib.hid hB23
     have hq24 : ¬ ((q : Int) < (0 : Int)) := (by omega)
     have hN_x25 : q < es.length := (by omega)
     have hI_x25 : (q : Int) < (es.length : Int) := by omega
     obtain ⟨b_x25, o_x25, u32, c33, u34, c35, h_x25, x250, x251, x252, x253, x254, i36, i37⟩ := (h2.ext Xw2).at q hN_x25
     cases h_x25
     obtain ⟨X31, hX31⟩ : ∃ x, expAt es q = x := ⟨_, rfl⟩
     rw [hX31] at x250 x251 x252 x253 x254 i36 i37
     obtain ⟨P26, B27, S28, T29, O30⟩ := X31
     dsimp only at x250 x251 x252 x253 x254 i36 i37
     replace hX31 := Lib.hid hX31
     have z_x25 : bl15 < w2.heap.size := qB x250
     cases O30
     ·
      go_wp2_with fail
      go_ret
      exact ⟨by rw [show expB cells es k = false from (by unfold expB; rw [hX8.out]; dsimp only; rw [hB21.out]; rw [hB22.out]; rw [hB23.out]; simp [hX31.out] <;> omega)] <;> rfl, (Xw2.trans qXt)⟩
     ·
      go_wp2_with fail
      go_ret
      exact ⟨by rw [show expB cells es k = true from (by unfold expB; rw [hX8.out]; dsimp only; rw [hB21.out]; rw [hB22.out]; rw [hB23.out]; simp [hX31.out] <;> omega)] <;> rfl, (Xw2.trans qXt)⟩

set_option maxHeartbeats 3200000 in
theorem vexp_1 (cells : List Int) (es : List Exp) (cv ev : Value) (k : Nat) (w : World) (l1 l2 : Nat) (h1 : Ints w l1 cv cells) (h2 : Exps w l2 ev es) (hlt : k < es.length) (hpar : ¬ 0 ≤ (expAt es k).par) :
  Calls Tryd.prog 37 #[.agg #[cv, ev], .int .i64 (k : Int)] w (fun e w' => e = .returned (.bool (expB cells es k)) ∧ Ext w w') := by
 obtain ⟨p0, c0, rfl⟩ := h1.form
 obtain ⟨p1, c1, rfl⟩ := h2.form
 have he1 := h2.len
 have hc1 := h1.len
 go_enter Tryd.func37, Tryd.ntmps37
 have hN_x2 : k < es.length := (by omega)
 have hI_x2 : (k : Int) < (es.length : Int) := by omega
 obtain ⟨bl15, ol16, u9, c10, u11, c12, rfl, x20, x21, x22, x23, x24, i13, i14⟩ := h2.at k hN_x2
 obtain ⟨X8, hX8⟩ : ∃ x, expAt es k = x := ⟨_, rfl⟩
 rw [hX8] at x20 x21 x22 x23 x24 i13 i14
 obtain ⟨P3, B4, S5, T6, O7⟩ := X8
 dsimp only at x20 x21 x22 x23 x24 i13 i14
 replace hX8 := Lib.hid hX8
 have z_x2 : bl15 < w.heap.size := qB x20
 cases O7
 ·
  go_wp2_with fail
  refine (inRange_c P3 (-1) ((k : Int) - 1) _).mono ?_
  rintro e w' ⟨rfl, rfl⟩
  cases hB18 : inB (-1) ((k : Int) - 1) P3
  ·
   replace hB18 := Lib.hid hB18
   go_wp2_with fail
   go_ret
   exact ⟨by rw [show expB cells es k = false from (by unfold expB; rw [hX8.out]; dsimp only; rw [hB18.out]; simp <;> omega)] <;> rfl, qXt⟩
  ·
   replace hB18 := Lib.hid hB18
   have hin7 : -1 ≤ P3 ∧ P3 ≤ (k : Int) - 1 := by have h7 := hB18.out; unfold inB at h7; simpa using h7
   go_wp2_with fail
   refine (validView_c B4 (.slice u9 S5.length c10) (.slice u11 T6.length c12) S5 T6 _ _ _ (i13.ext qXt) (i14.ext qXt)).mono ?_
   rintro e w1 ⟨rfl, xw1⟩
   have Lw1 : Ext w w1 := Ext.trans qXt xw1
   have Xw1 : Ext w w1 := Lw1
   have b10 : w1.cell? ⟨w.heap.size, 0, none⟩ = some (.slice p0 cells.length c0) := xw1.cell qCl
   have b11 : w1.cell? ⟨w.heap.size, 1, none⟩ = some (.slice (some ⟨bl15, ol16, none⟩) es.length c1) := xw1.cell qCl
   replace x20 := Lw1.cell x20
   replace x21 := Lw1.cell x21
   replace x22 := Lw1.cell x22
   replace x23 := Lw1.cell x23
   replace x24 := Lw1.cell x24
   have b170 : w1.cell? ⟨w.heap.size + 1, 0, none⟩ = some (.int .i64 P3) := xw1.cell qCl
   have b171 : w1.cell? ⟨w.heap.size + 1, 1, none⟩ = some (.int .i64 B4) := xw1.cell qCl
   have b172 : w1.cell? ⟨w.heap.size + 1, 2, none⟩ = some (.slice u9 S5.length c10) := xw1.cell qCl
   have b173 : w1.cell? ⟨w.heap.size + 1, 3, none⟩ = some (.slice u11 T6.length c12) := xw1.cell qCl
   have b174 : w1.cell? ⟨w.heap.size + 1, 4, none⟩ = some (.bool false) := xw1.cell qCl
   have z_b1 : w.heap.size < w1.heap.size := qB b10
   have z_x2 : bl15 < w1.heap.size := qB x20
   have z_b17 : w.heap.size + 1 < w1.heap.size := qB b170
   replace i13 := i13.ext Lw1
   replace i14 := i14.ext Lw1
   have s_w1 : w.heap.size ≤ w1.heap.size := Xw1.size
   clear xw1
   cases hB19 : viewB B4 S5 T6
   ·
    replace hB19 := Lib.hid hB19
    go_wp2_with fail
    go_ret
    exact ⟨by rw [show expB cells es k = false from (by unfold expB; rw [hX8.out]; dsimp only; rw [hB18.out]; rw [hB19.out]; simp <;> omega)] <;> rfl, (Xw1.trans qXt)⟩
   ·
    replace hB19 := Lib.hid hB19
    go_wp2_with fail
    go_ret
    exact ⟨by rw [show expB cells es k = true from (by unfold expB; rw [hX8.out]; dsimp only; rw [hB18.out]; rw [hB19.out]; simp <;> omega)] <;> rfl, (Xw1.trans qXt)⟩
 ·
  go_wp2_with fail
  refine (inRange_c P3 (-1) ((k : Int) - 1) _).mono ?_
  rintro e w' ⟨rfl, rfl⟩
  cases hB21 : inB (-1) ((k : Int) - 1) P3
  ·
   replace hB21 := Lib.hid hB21
   go_wp2_with fail
   go_ret
   exact ⟨by rw [show expB cells es k = false from (by unfold expB; rw [hX8.out]; dsimp only; rw [hB21.out]; simp <;> omega)] <;> rfl, qXt⟩
  ·
   replace hB21 := Lib.hid hB21
   have hin7 : -1 ≤ P3 ∧ P3 ≤ (k : Int) - 1 := by have h7 := hB21.out; unfold inB at h7; simpa using h7
   go_wp2_with fail
   refine (validView_c B4 (.slice u9 S5.length c10) (.slice u11 T6.length c12) S5 T6 _ _ _ (i13.ext qXt) (i14.ext qXt)).mono ?_
   rintro e w1 ⟨rfl, xw1⟩
   have Lw1 : Ext w w1 := Ext.trans qXt xw1
   have Xw1 : Ext w w1 := Lw1
   have b10 : w1.cell? ⟨w.heap.size, 0, none⟩ = some (.slice p0 cells.length c0) := xw1.cell qCl
   have b11 : w1.cell? ⟨w.heap.size, 1, none⟩ = some (.slice (some ⟨bl15, ol16, none⟩) es.length c1) := xw1.cell qCl
   replace x20 := Lw1.cell x20
   replace x21 := Lw1.cell x21
   replace x22 := Lw1.cell x22
   replace x23 := Lw1.cell x23
   replace x24 := Lw1.cell x24
   have b200 : w1.cell? ⟨w.heap.size + 1, 0, none⟩ = some (.int .i64 P3) := xw1.cell qCl
   have b201 : w1.cell? ⟨w.heap.size + 1, 1, none⟩ = some (.int .i64 B4) := xw1.cell qCl
   have b202 : w1.cell? ⟨w.heap.size + 1, 2, none⟩ = some (.slice u9 S5.length c10) := xw1.cell qCl
   have b203 : w1.cell? ⟨w.heap.size + 1, 3, none⟩ = some (.slice u11 T6.length c12) := xw1.cell qCl
   have b204 : w1.cell? ⟨w.heap.size + 1, 4, none⟩ = some (.bool true) := xw1.cell qCl
   have z_b1 : w.heap.size < w1.heap.size := qB b10
   have z_x2 : bl15 < w1.heap.size := qB x20
   have z_b20 : w.heap.size + 1 < w1.heap.size := qB b200
   replace i13 := i13.ext Lw1
   replace i14 := i14.ext Lw1
   have s_w1 : w.heap.size ≤ w1.heap.size := Xw1.size
   clear xw1
   cases hB22 : viewB B4 S5 T6
   ·
    replace hB22 := Lib.hid hB22
    go_wp2_with fail
    go_ret
    exact ⟨by rw [show expB cells es k = false from (by unfold expB; rw [hX8.out]; dsimp only; rw [hB21.out]; rw [hB22.out]; simp <;> omega)] <;> rfl, (Xw1.trans qXt)⟩
   ·
    replace hB22 := Lib.hid hB22
    go_wp2_with fail
    refine (fits_c B4 (.slice u9 S5.length c10) (.slice u11 T6.length c12) S5 T6 (cells.length : Int) _ _ _ (i13.ext qXt) (i14.ext qXt) hB22.out (by first | omega | exact (vw hB22.out).1 | exact (vw hB22.out).2.1 | exact (vw hB22.out).2.2.1 | exact (vw hB22.out).2.2.2) (by first | omega | exact (vw hB22.out).1 | exact (vw hB22.out).2.1 | exact (vw hB22.out).2.2.1 | exact (vw hB22.out).2.2.2)).mono ?_
    rintro e w2 ⟨rfl, xw2⟩
    have Lw2 : Ext w1 w2 := Ext.trans qXt xw2
    have Xw2 : Ext w w2 := Xw1.trans Lw2
    replace b10 := Lw2.cell b10
    replace b11 := Lw2.cell b11
    replace x20 := Lw2.cell x20
    replace x21 := Lw2.cell x21
    replace x22 := Lw2.cell x22
    replace x23 := Lw2.cell x23
    replace x24 := Lw2.cell x24
    replace b200 := Lw2.cell b200
    replace b201 := Lw2.cell b201
    replace b202 := Lw2.cell b202
    replace b203 := Lw2.cell b203
    replace b204 := Lw2.cell b204
    have z_b1 : w.heap.size < w2.heap.size := qB b10
    have z_x2 : bl15 < w2.heap.size := qB x20
    have z_b20 : w.heap.size + 1 < w2.heap.size := qB b200
    replace i13 := i13.ext Lw2
    replace i14 := i14.ext Lw2
    have s_w2 : w.heap.size ≤ w2.heap.size := Xw2.size
    clear xw2
    cases hB23 : fitB B4 S5 T6 (cells.length : Int)
    ·
     replace hB23 := Lib.hid hB23
     go_wp2_with fail
     go_ret
     exact ⟨by rw [show expB cells es k = false from (by unfold expB; rw [hX8.out]; dsimp only; rw [hB21.out]; rw [hB22.out]; rw [hB23.out]; simp <;> omega)] <;> rfl, (Xw2.trans qXt)⟩
    ·
     replace hB23 := Lib.hid hB23
     have hq24 : (P3 : Int) < (0 : Int) := (by have h7 := hpar; rw [hX8.out] at h7; dsimp only at h7; omega)
     go_wp2_with fail
     go_ret
     exact ⟨by rw [show expB cells es k = true from (by unfold expB; rw [hX8.out]; dsimp only; rw [hB21.out]; rw [hB22.out]; rw [hB23.out]; simp <;> omega)] <;> rfl, (Xw2.trans qXt)⟩

set_option maxHeartbeats 1600000 in
theorem validExport_c (cells : List Int) (es : List Exp) (cv ev : Value) (k : Nat) (w : World) (l1 l2 : Nat) (h1 : Ints w l1 cv cells) (h2 : Exps w l2 ev es) (hlt : k < es.length) :
  Calls Tryd.prog 37 #[.agg #[cv, ev], .int .i64 (k : Int)] w (fun e w' => e = .returned (.bool (expB cells es k)) ∧ Ext w w') := by
 by_cases hpar : 0 ≤ (expAt es k).par
 ·
  exact vexp_0 cells es cv ev k w l1 l2 h1 h2 hlt hpar
 ·
  exact vexp_1 cells es cv ev k w l1 l2 h1 h2 hlt hpar

set_option maxHeartbeats 3200000 in
theorem validBuffer_c (cells : List Int) (es : List Exp) (cv ev : Value) (w : World) (l1 l2 : Nat) (h1 : Ints w l1 cv cells) (h2 : Exps w l2 ev es) :
  Calls Tryd.prog 28 #[.agg #[cv, ev]] w (fun e w' => e = .returned (.bool (bufB cells es)) ∧ Ext w w') := by
 obtain ⟨p0, c0, rfl⟩ := h1.form
 obtain ⟨p1, c1, rfl⟩ := h2.form
 have he1 := h2.len
 have hc1 := h1.len
 go_enter Tryd.func28, Tryd.ntmps28
 go_wp2_with fail
 generalize hW1 : w.alloc (.cells #[.slice p0 cells.length c0, .slice p1 es.length c1] 34) = w1 at *
 have Lw1 : Ext w w1 := by subst hW1; exact qXt
 have Xw1 : Ext w w1 := by subst hW1; exact Lw1
 have b10 : w1.cell? ⟨w.heap.size, 0, none⟩ = some (.slice p0 cells.length c0) := by subst hW1; exact qCl
 have b11 : w1.cell? ⟨w.heap.size, 1, none⟩ = some (.slice p1 es.length c1) := by subst hW1; exact qCl
 have z_b1 : w.heap.size < w1.heap.size := qB b10
 have s_w1 : w.heap.size ≤ w1.heap.size := Xw1.size
 clear hW1
 go_loopw [3] (fun i wr => ∃ (k : Nat), k ≤ es.length ∧ i = .int .i64 k ∧ Hid (expsB cells es k = true) ∧ Ext w1 wr) (fun i _ => es.length - (intOf i).toNat)
 case atStart => exact ⟨0, Nat.zero_le _, rfl, Lib.hid rfl, qXt⟩
 case round =>
  obtain ⟨k, hk, rfl, ht, Lwr⟩ := hrel
  have Xwr : Ext w wr := Xw1.trans Lwr
  have s_wr : w.heap.size ≤ wr.heap.size := Xwr.size
  have t_wr : w1.heap.size ≤ wr.heap.size := Lwr.size
  replace b10 := Lwr.cell b10
  replace b11 := Lwr.cell b11
  have z_b1 : w.heap.size < wr.heap.size := qB b10
  have Bwr : Ext w1 wr := Lwr
  by_cases hlt : k < es.length
  ·
   have hkI : (k : Int) < es.length := by omega
   go_wp2_with fail
   refine (validExport_c cells es (.slice p0 cells.length c0) (.slice p1 es.length c1) k _ _ _ (h1.ext (Xwr.trans qXt)) (h2.ext (Xwr.trans qXt)) hlt).mono ?_
   rintro e w2 ⟨rfl, xw2⟩
   have Lw2 : Ext wr w2 := Ext.trans qXt xw2
   have Xw2 : Ext w w2 := Xwr.trans Lw2
   replace b10 := Lw2.cell b10
   replace b11 := Lw2.cell b11
   have z_b1 : w.heap.size < w2.heap.size := qB b10
   have s_w2 : w.heap.size ≤ w2.heap.size := Xw2.size
   have Bwr_w2 : Ext w1 w2 := Bwr.trans Lw2
   clear xw2
   cases hB2 : expB cells es k
   ·
    replace hB2 := Lib.hid hB2
    go_wp2_with fail
    go_ret
    exact ⟨by rw [show bufB cells es = false from by unfold bufB; rw [expsB_no hlt hB2.out]; simp] <;> rfl, (Xw2.trans qXt)⟩
   ·
    replace hB2 := Lib.hid hB2
    go_wp2_with fail
    go_roundw
    case rel => exact ⟨k + 1, by omega, by go_num, Lib.hid (by rw [expsB_succ, ht.out, hB2.out]; rfl), (Bwr_w2.trans qXt)⟩
    case measure => simp [intOf]; omega
  ·
   obtain rfl : k = es.length := by omega
   have hkI : ¬ (es.length : Int) < es.length := by omega
   go_wp2_with fail
   refine (validMemory_c cells (.slice p0 cells.length c0) _ _ (h1.ext (Xwr.trans qXt))).mono ?_
   rintro e w' ⟨rfl, rfl⟩
   cases hB3 : memB cells
   ·
    replace hB3 := Lib.hid hB3
    go_wp2_with fail
    go_ret
    exact ⟨by rw [show bufB cells es = false from by unfold bufB; rw [hB3.out]; rfl] <;> rfl, (Xwr.trans qXt)⟩
   ·
    replace hB3 := Lib.hid hB3
    by_cases hc4 : (es.length : Int) ≤ (8 : Int)
    ·
     go_wp2_with fail
     go_ret
     exact ⟨by rw [show bufB cells es = true from by unfold bufB; rw [hB3.out, ht.out, decide_eq_true (by omega)]; rfl] <;> rfl, (Xwr.trans qXt)⟩
    ·
     go_wp2_with fail
     go_ret
     exact ⟨by rw [show bufB cells es = decide ((es.length : Int) ≤ 8) from by unfold bufB; rw [hB3.out, ht.out, Bool.and_true, Bool.true_and]; exact decide_eq_decide.2 (by omega)] <;> rfl, (Xwr.trans qXt)⟩


end Go.Proofs.YtgklaobfikbiiaaDoor

/- Walks: open exports. -/
namespace Go.Proofs.YtgklaobfikbiiaaDoor
open Go.RowKit
set_option linter.unusedVariables false
set_option maxRecDepth 100000


/-- is there an open export of the number i? -/
def opB (es : List Exp) (i : Int) : Bool := inB 0 ((es.length : Int) - 1) i && (expAt es i.toNat).op
theorem opB_out {es : List Exp} {i : Int} (h : ¬ (0 ≤ i ∧ i < es.length)) : opB es i = false := by unfold opB inB; rw [decide_eq_false (by omega)]; rfl
theorem opB_nat {es : List Exp} {k : Nat} (h : k < es.length) : opB es (k : Int) = (expAt es k).op := by unfold opB inB; rw [decide_eq_true (by omega), Int.toNat_natCast]; rfl

set_option maxHeartbeats 3200000 in
theorem specIsOpen_0 (cells : List Int) (es : List Exp) (cv ev : Value) (i : Int) (w : World) (l1 l2 : Nat) (h1 : Ints w l1 cv cells) (h2 : Exps w l2 ev es) (hio : ¬ (0 ≤ i ∧ i < es.length)) :
    Calls Tryd.prog 35 #[.agg #[cv, ev], .int .i64 i] w (fun e w' => e = .returned (.bool (opB es i)) ∧ Ext w w') := by
  obtain ⟨p0, c0, rfl⟩ := h1.form
  obtain ⟨p1, c1, rfl⟩ := h2.form
  have he1 := h2.len
  have hc1 := h1.len
  have hin : Hid (inB 0 ((es.length : Int) - 1) i = false) := Lib.hid (by unfold inB; simp; omega)
  go_enter Tryd.func35, Tryd.ntmps35
  go_wp2_with fail
  refine (inRange_c i 0 ((es.length : Int) - 1) _).mono ?_
  rintro e w' ⟨rfl, rfl⟩
  rw [hin.out]
  go_wp2_with fail
  go_ret
  exact ⟨by rw [show opB es i = false from opB_out hio] <;> rfl, qXt⟩

set_option maxHeartbeats 3200000 in
theorem specIsOpen_1 (cells : List Int) (es : List Exp) (cv ev : Value) (k : Nat) (w : World) (l1 l2 : Nat) (h1 : Ints w l1 cv cells) (h2 : Exps w l2 ev es) (hlt : k < es.length) :
    Calls Tryd.prog 35 #[.agg #[cv, ev], .int .i64 (k : Int)] w (fun e w' => e = .returned (.bool (opB es (k : Int))) ∧ Ext w w') := by
  obtain ⟨p0, c0, rfl⟩ := h1.form
  obtain ⟨p1, c1, rfl⟩ := h2.form
  have he1 := h2.len
  have hc1 := h1.len
  have hin : Hid (inB 0 ((es.length : Int) - 1) (k : Int) = true) := Lib.hid (by unfold inB; simp; omega)
  go_enter Tryd.func35, Tryd.ntmps35
  go_wp2_with fail
  refine (inRange_c (k : Int) 0 ((es.length : Int) - 1) _).mono ?_
  rintro e w' ⟨rfl, rfl⟩
  rw [hin.out]
  have hN_x2 : k < es.length := hlt
  have hI_x2 : (k : Int) < (es.length : Int) := by omega
  obtain ⟨bl15, ol16, u9, c10, u11, c12, rfl, x20, x21, x22, x23, x24, i13, i14⟩ := h2.at k hN_x2
  obtain ⟨X8, hX8⟩ : ∃ x, expAt es k = x := ⟨_, rfl⟩
  rw [hX8] at x20 x21 x22 x23 x24 i13 i14
  obtain ⟨P3, B4, S5, T6, O7⟩ := X8
  dsimp only at x20 x21 x22 x23 x24 i13 i14
  replace hX8 := Lib.hid hX8
  have z_x2 : bl15 < w.heap.size := qB x20
  cases O7
  · go_wp2_with fail
    go_ret
    exact ⟨by rw [show opB es (k : Int) = false from by rw [opB_nat hlt, hX8.out]] <;> rfl, qXt⟩
  · go_wp2_with fail
    go_ret
    exact ⟨by rw [show opB es (k : Int) = true from by rw [opB_nat hlt, hX8.out]] <;> rfl, qXt⟩

set_option maxHeartbeats 1600000 in
theorem specIsOpen_c (cells : List Int) (es : List Exp) (cv ev : Value) (i : Int) (w : World) (l1 l2 : Nat) (h1 : Ints w l1 cv cells) (h2 : Exps w l2 ev es) :
    Calls Tryd.prog 35 #[.agg #[cv, ev], .int .i64 i] w (fun e w' => e = .returned (.bool (opB es i)) ∧ Ext w w') := by
  by_cases h : 0 ≤ i ∧ i < es.length
  · obtain ⟨k, rfl⟩ : ∃ k : Nat, i = k := ⟨i.toNat, by omega⟩
    exact specIsOpen_1 cells es cv ev k w l1 l2 h1 h2 (by omega)
  · exact specIsOpen_0 cells es cv ev i w l1 l2 h1 h2 h


end Go.Proofs.YtgklaobfikbiiaaDoor

/- Walks: OffsetsOf and IsRow of the program and of the reference. -/
namespace Go.Proofs.YtgklaobfikbiiaaDoor
open Go.RowKit
set_option linter.unusedVariables false
set_option maxRecDepth 100000


end Go.Proofs.YtgklaobfikbiiaaDoor

/- Walks: rowStrides of the program. -/
namespace Go.Proofs.YtgklaobfikbiiaaDoor
open Go.RowKit
set_option linter.unusedVariables false
set_option maxRecDepth 100000

end Go.Proofs.YtgklaobfikbiiaaDoor

/- Helpers of the laws: equal lists, equal views, a number in a list. -/
namespace Go.Proofs.YtgklaobfikbiiaaDoor
open Go.RowKit
set_option linter.unusedVariables false
set_option maxRecDepth 100000



end Go.Proofs.YtgklaobfikbiiaaDoor

/- Walks: helpers of the laws. -/
namespace Go.Proofs.YtgklaobfikbiiaaDoor
open Go.RowKit
set_option linter.unusedVariables false
set_option maxRecDepth 100000

end Go.Proofs.YtgklaobfikbiiaaDoor

/- Walks: LoadView of the program and of the reference. -/
namespace Go.Proofs.YtgklaobfikbiiaaDoor
open Go.RowKit
set_option linter.unusedVariables false
set_option maxRecDepth 100000


theorem PInts.no {w w' : World} (h : Ext w w') : PInts w [] (.returned (.slice none 0 0)) w' :=
  ⟨_, rfl, Ints.nil _ _ _ _ (by simp) (fun _ => rfl), .inl ⟨rfl, none, 0, rfl, by simp, fun _ => rfl⟩, h⟩

end Go.Proofs.YtgklaobfikbiiaaDoor

/- Plain laws on memories: what is stored last stays, what is added, sums. -/
namespace Go.Proofs.YtgklaobfikbiiaaDoor
open Go.RowKit
set_option linter.unusedVariables false
set_option maxRecDepth 100000

/-- additions one by one -/
def addUp (mem ix vs : List Int) (k : Nat) : List Int := (List.range k).foldl (fun m i => m.set (ix.getD i 0).toNat ((m.getD (ix.getD i 0).toNat 0 + vs.getD i 0) % 256)) mem
theorem addUp_succ (mem ix vs : List Int) (k : Nat) : addUp mem ix vs (k+1) = (addUp mem ix vs k).set (ix.getD k 0).toNat (((addUp mem ix vs k).getD (ix.getD k 0).toNat 0 + vs.getD k 0) % 256) := by
  unfold addUp; rw [List.range_succ, List.foldl_append]; rfl
theorem addUp_len (mem ix vs : List Int) (k : Nat) : (addUp mem ix vs k).length = mem.length := by
  induction k with
  | zero => rfl
  | succ k ih => rw [addUp_succ, List.length_set, ih]
end Go.Proofs.YtgklaobfikbiiaaDoor

/- Walks: indices, ranks, rows, sums. -/
namespace Go.Proofs.YtgklaobfikbiiaaDoor
open Go.RowKit
set_option linter.unusedVariables false
set_option maxRecDepth 100000


theorem vw {b : Int} {s t : List Int} (h : viewB b s t = true) : s.length ≤ t.length ∧ (0 < countL s → ∀ e ∈ s, 1 ≤ e) ∧ countL s ≤ 1000000 ∧ Small s := by
  obtain ⟨h1, h2, h3, h4, h5⟩ := viewB_in h
  have h6 := shapeB_in h1
  exact ⟨by omega, h6.2.2.2.2, by omega, Small.of h1⟩
theorem sh {s : List Int} (h : shapeB s = true) : Small s ∧ (0 < countL s → ∀ e ∈ s, 1 ≤ e) ∧ countL s ≤ 1000000 := by
  have h6 := shapeB_in h
  exact ⟨Small.of h, h6.2.2.2.2, by omega⟩
/-- the first k numbers are within the extents -/
def OkTo (s r : List Int) (k : Nat) : Prop := ∀ j, j < k → 0 ≤ r.getD j 0 ∧ r.getD j 0 < s.getD j 0
theorem OkTo.zero (s r : List Int) : OkTo s r 0 := fun j h => absurd h (by omega)
theorem OkTo.succ {s r : List Int} {k : Nat} (h : OkTo s r k) {x e : Int} (hx : r.getD k 0 = x) (he : s.getD k 0 = e) (h1 : 0 ≤ x) (h2 : x < e) : OkTo s r (k+1) := fun j hj => by
  by_cases hjk : j = k
  · subst hjk; rw [hx, he]; exact ⟨h1, h2⟩
  · exact h j (by omega)
end Go.Proofs.YtgklaobfikbiiaaDoor

/- Walks: ranks, indices, rows, sums. -/
namespace Go.Proofs.YtgklaobfikbiiaaDoor
open Go.RowKit
set_option linter.unusedVariables false
set_option maxRecDepth 100000


end Go.Proofs.YtgklaobfikbiiaaDoor

/- Walks: open exports, kids. -/
namespace Go.Proofs.YtgklaobfikbiiaaDoor
open Go.RowKit
set_option linter.unusedVariables false
set_option maxRecDepth 100000


/-- the numbers, below k, of the exports of a kind -/
def selL (p : Exp → Bool) (es : List Exp) (k : Nat) : List Int := ((List.range k).filter fun i => p (expAt es i)).map fun i : Nat => (i : Int)
theorem selL_yes {p : Exp → Bool} {es : List Exp} {k : Nat} (h : p (expAt es k) = true) : selL p es (k+1) = selL p es k ++ [(k : Int)] := by
  unfold selL; rw [List.range_succ, List.filter_append, List.map_append, List.filter_cons_of_pos (by simpa using h)]; rfl
theorem selL_no {p : Exp → Bool} {es : List Exp} {k : Nat} (h : p (expAt es k) = false) : selL p es (k+1) = selL p es k := by
  unfold selL; rw [List.range_succ, List.filter_append, List.map_append, List.filter_cons_of_neg (by simp [h])]; simp
theorem selL_len (p : Exp → Bool) (es : List Exp) (k : Nat) : (selL p es k).length ≤ k := by
  unfold selL; rw [List.length_map]; exact Nat.le_trans (List.length_filter_le _ _) (by simp)
def opP (e : Exp) : Bool := e.op
def kidP (d : Int) (e : Exp) : Bool := e.op && decide (e.par = d)
/-- OpenOf -/
def openA (cells : List Int) (es : List Exp) : List Int := if bufB cells es then selL opP es es.length else []
/-- KidsOf -/
def kidsA (cells : List Int) (es : List Exp) (d : Int) : List Int := if bufB cells es && (decide (-1 ≤ d) && decide (d < es.length)) then selL (kidP d) es es.length else []
set_option maxHeartbeats 3200000 in
theorem specOpenOf_c (cells : List Int) (es : List Exp) (cv ev : Value) (w : World) (l1 l2 : Nat) (h1 : Ints w l1 cv cells) (h2 : Exps w l2 ev es) :
    Calls Tryd.prog 22 #[.agg #[cv, ev]] w (PInts w (openA cells es)) := by
  obtain ⟨p0, c0, rfl⟩ := h1.form
  obtain ⟨p1, c1, rfl⟩ := h2.form
  have he1 := h2.len
  have hc1 := h1.len
  go_enter Tryd.func22, Tryd.ntmps22
  go_wp2_with fail
  refine (validBuffer_c cells es (.slice p0 cells.length c0) (.slice p1 es.length c1) _ _ _ (h1.ext qXt) (h2.ext qXt)).mono ?_
  rintro e w1 ⟨rfl, xw1⟩
  have Lw1 : Ext w w1 := Ext.trans qXt xw1
  have Xw1 : Ext w w1 := Lw1
  have b10 : w1.cell? ⟨w.heap.size, 0, none⟩ = some (.slice p0 cells.length c0) := xw1.cell qCl
  have b11 : w1.cell? ⟨w.heap.size, 1, none⟩ = some (.slice p1 es.length c1) := xw1.cell qCl
  have z_b1 : w.heap.size < w1.heap.size := qB b10
  have s_w1 : w.heap.size ≤ w1.heap.size := Xw1.size
  clear xw1
  cases hB2 : bufB cells es
  · replace hB2 := Lib.hid hB2
    go_wp2_with fail
    go_ret
    rw [show openA cells es = [] by unfold openA; rw [hB2.out]; rfl]
    exact PInts.no (Xw1.trans qXt)
  · replace hB2 := Lib.hid hB2
    go_wp2_with fail
    have Q3_b10 := Lib.hid b10
    have Q3_b11 := Lib.hid b11
    have Q3_zb1 := z_b1
    have BL4 : Ext w1 w1 := Ext.refl _
    have zG_BL4 := (BL4).size
    skip
    go_loopw [3, 4] (fun gv i wr => ∃ (k : Nat), k ≤ es.length ∧ i = .int .i64 k ∧ OwnI wr w1.heap.size gv (selL (opP) es k) ∧ Ext w1 wr) (fun _ i _ => es.length - (intOf i).toNat)
    case atStart => exact ⟨0, Nat.zero_le _, rfl, (by rw [show selL (opP) es 0 = [] from rfl]; exact (OwnI.lit0 w1 w1.heap.size (Nat.le_refl _))), qXt⟩
    case round =>
      obtain ⟨k, hk, rfl, OG, Lwr⟩ := hrel
      have Xwr : Ext w wr := Xw1.trans Lwr
      have s_wr : w.heap.size ≤ wr.heap.size := Xwr.size
      have t_wr : w1.heap.size ≤ wr.heap.size := Lwr.size
      replace b10 := Lwr.cell b10
      replace b11 := Lwr.cell b11
      have z_b1 : w.heap.size < wr.heap.size := qB b10
      have BL4_wr : Ext w1 wr := BL4.trans Lwr
      have Bwr : Ext w1 wr := Lwr
      obtain ⟨ga6, gc7, rfl⟩ := (OG.ints (by have := (show (selL (opP) es k).length ≤ 1048576 by have := selL_len (opP) es k; omega); omega)).form
      have OG5 := OG
      clear OG
      by_cases hlt : k < es.length
      · have hkI : (k : Int) < es.length := by omega
        have hN_x8 : k < es.length := (by omega)
        have hI_x8 : (k : Int) < (es.length : Int) := by omega
        obtain ⟨bl21, ol22, u15, c16, u17, c18, rfl, x80, x81, x82, x83, x84, i19, i20⟩ := (h2.ext Xwr).at k hN_x8
        obtain ⟨X14, hX14⟩ : ∃ x, expAt es k = x := ⟨_, rfl⟩
        rw [hX14] at x80 x81 x82 x83 x84 i19 i20
        obtain ⟨P9, B10, S11, T12, O13⟩ := X14
        dsimp only at x80 x81 x82 x83 x84 i19 i20
        replace hX14 := Lib.hid hX14
        have z_x8 : bl21 < wr.heap.size := qB x80
        cases O13
        · go_wp2_with fail
          go_roundw
          case rel => exact ⟨k + 1, by omega, by go_num, (by rw [selL_no (by rw [hX14.out]; rfl)]; exact OG5.ext qXt), (Bwr.trans qXt)⟩
          case measure => simp [intOf]; omega
        · have zGB := (Bwr).size
          have EE : Ext wr ((wr).alloc (.cells #[.int .i64 (k : Int)] 3)) := qXt
          have SS : Ints ((wr).alloc (.cells #[.int .i64 (k : Int)] 3)) 0 (.slice (some ⟨wr.heap.size, 0, none⟩) 1 1) [(k : Int)] := by simpa using Ints.one (wr) 0 (k : Int) (Nat.zero_le _)
          go_wp2_with (
            at_builtin
            refine wpList_app rfl (.tmp 22) (.tmp 24) rfl rfl rfl (by exact OG5.ext EE) (by exact SS) (by have := (show (selL (opP) es k).length ≤ 1048576 by have := selL_len (opP) es k; omega); simp only [List.length_append, List.length_cons, List.length_nil]; omega) (by simp <;> omega) ?_
            intro vw2 w2 ho hg7 hbl hv7
            clear hg7 hv7
            obtain ⟨ga23, rr24, rfl⟩ : ∃ a c, vw2 = .slice a ((selL (opP) es k).length + 1) c := by obtain ⟨a, c, h⟩ := (ho.ints (by simp only [List.length_append, List.length_cons, List.length_nil]; have := (show (selL (opP) es k).length ≤ 1048576 by have := selL_len (opP) es k; omega); omega)).form; exact ⟨a, c, by rw [h, List.length_append]; rfl⟩
            have Xw2 : Ext w w2 := Ext.below (Xwr.trans EE) hbl (by omega)
            have BL4_w2 : Ext w1 w2 := Ext.below (Ext.trans BL4_wr EE) hbl (by omega)
            have Bwr_w2 : Ext w1 w2 := Ext.below (Ext.trans Bwr EE) hbl (by omega)
            clear b10 b11
            clear x80 x81 x82 x83 x84
            clear i19
            clear i20
            clear OG5
            have OG5 := ho
            clear ho hbl EE SS zGB
            have s_w2 : w.heap.size ≤ w2.heap.size := Xw2.size)
          go_wp2_with fail
          go_roundw
          case rel => exact ⟨k + 1, by omega, by go_num, (by rw [selL_yes (by rw [hX14.out]; rfl)]; exact OG5.ext qXt), (Bwr_w2.trans qXt)⟩
          case measure => simp [intOf]; omega
      · obtain rfl : k = es.length := by omega
        have hkI : ¬ (es.length : Int) < es.length := by omega
        go_wp2_with fail
        go_ret
        rw [show openA cells es = selL (opP) es es.length by unfold openA; rw [hB2.out]; rfl]
        exact PInts.mk OG5 (by omega) (by have := selL_len (opP) es es.length; omega) (Xwr.trans qXt)

set_option maxHeartbeats 3200000 in
theorem kids_c (cells : List Int) (es : List Exp) (cv ev : Value) (d : Int) (w : World) (l1 l2 : Nat) (h1 : Ints w l1 cv cells) (h2 : Exps w l2 ev es) :
    Calls Tryd.prog 46 #[.agg #[cv, ev], .int .i64 d] w (PInts w (selL (kidP d) es es.length)) := by
  obtain ⟨p0, c0, rfl⟩ := h1.form
  obtain ⟨p1, c1, rfl⟩ := h2.form
  have he1 := h2.len
  have hc1 := h1.len
  go_enter Tryd.func46, Tryd.ntmps46
  go_upto_region 1 with fail
  generalize hW3 : w.alloc (.cells #[.slice p0 cells.length c0, .slice p1 es.length c1] 34) = w1 at *
  have Lw1 : Ext w w1 := by subst hW3; exact qXt
  have Xw1 : Ext w w1 := by subst hW3; exact Lw1
  have b10 : w1.cell? ⟨w.heap.size, 0, none⟩ = some (.slice p0 cells.length c0) := by subst hW3; exact qCl
  have b11 : w1.cell? ⟨w.heap.size, 1, none⟩ = some (.slice p1 es.length c1) := by subst hW3; exact qCl
  have z_b1 : w.heap.size < w1.heap.size := qB b10
  have s_w1 : w.heap.size ≤ w1.heap.size := Xw1.size
  clear hW3
  go_wp2_with fail
  have Q2_b10 := Lib.hid b10
  have Q2_b11 := Lib.hid b11
  have Q2_zb1 := z_b1
  have BL3 : Ext w1 w1 := Ext.refl _
  have zG_BL3 := (BL3).size
  skip
  go_loopw [5, 6] (fun gv i wr => ∃ (k : Nat), k ≤ es.length ∧ i = .int .i64 k ∧ OwnI wr w1.heap.size gv (selL (kidP d) es k) ∧ Ext w1 wr) (fun _ i _ => es.length - (intOf i).toNat)
  case atStart => exact ⟨0, Nat.zero_le _, rfl, (by rw [show selL (kidP d) es 0 = [] from rfl]; exact (OwnI.lit0 w1 w1.heap.size (Nat.le_refl _))), qXt⟩
  case round =>
    obtain ⟨k, hk, rfl, OG, Lwr⟩ := hrel
    have Xwr : Ext w wr := Xw1.trans Lwr
    have s_wr : w.heap.size ≤ wr.heap.size := Xwr.size
    have t_wr : w1.heap.size ≤ wr.heap.size := Lwr.size
    replace b10 := Lwr.cell b10
    replace b11 := Lwr.cell b11
    have z_b1 : w.heap.size < wr.heap.size := qB b10
    have BL3_wr : Ext w1 wr := BL3.trans Lwr
    have Bwr : Ext w1 wr := Lwr
    obtain ⟨ga5, gc6, rfl⟩ := (OG.ints (by have := (show (selL (kidP d) es k).length ≤ 1048576 by have := selL_len (kidP d) es k; omega); omega)).form
    have OG4 := OG
    clear OG
    by_cases hlt : k < es.length
    · have hkI : (k : Int) < es.length := by omega
      have hN_x7 : k < es.length := (by omega)
      have hI_x7 : (k : Int) < (es.length : Int) := by omega
      obtain ⟨bl20, ol21, u14, c15, u16, c17, rfl, x70, x71, x72, x73, x74, i18, i19⟩ := (h2.ext Xwr).at k hN_x7
      obtain ⟨X13, hX13⟩ : ∃ x, expAt es k = x := ⟨_, rfl⟩
      rw [hX13] at x70 x71 x72 x73 x74 i18 i19
      obtain ⟨P8, B9, S10, T11, O12⟩ := X13
      dsimp only at x70 x71 x72 x73 x74 i18 i19
      replace hX13 := Lib.hid hX13
      have z_x7 : bl20 < wr.heap.size := qB x70
      cases O12
      · go_wp2_with fail
        go_roundw
        case rel => exact ⟨k + 1, by omega, by go_num, (by rw [selL_no (by rw [hX13.out]; rfl)]; exact OG4.ext qXt), (Bwr.trans qXt)⟩
        case measure => simp [intOf]; omega
      · by_cases hc22 : (P8 : Int) = (d : Int)
        · have hc22e : ((P8 : Int) == (d : Int)) = true := by simpa using hc22
          have hc22n : ((P8 : Int) != (d : Int)) = false := by simpa using hc22
          replace hc22 := Lib.hid hc22
          have zGB := (Bwr).size
          have EE : Ext wr ((wr).alloc (.cells #[.int .i64 (k : Int)] 3)) := qXt
          have SS : Ints ((wr).alloc (.cells #[.int .i64 (k : Int)] 3)) 0 (.slice (some ⟨wr.heap.size, 0, none⟩) 1 1) [(k : Int)] := by simpa using Ints.one (wr) 0 (k : Int) (Nat.zero_le _)
          go_wp2_with (
            at_builtin
            refine wpList_app rfl (.tmp 31) (.tmp 33) rfl rfl rfl (by exact OG4.ext EE) (by exact SS) (by have := (show (selL (kidP d) es k).length ≤ 1048576 by have := selL_len (kidP d) es k; omega); simp only [List.length_append, List.length_cons, List.length_nil]; omega) (by simp <;> omega) ?_
            intro vw2 w2 ho hg7 hbl hv7
            clear hg7 hv7
            obtain ⟨ga23, rr24, rfl⟩ : ∃ a c, vw2 = .slice a ((selL (kidP d) es k).length + 1) c := by obtain ⟨a, c, h⟩ := (ho.ints (by simp only [List.length_append, List.length_cons, List.length_nil]; have := (show (selL (kidP d) es k).length ≤ 1048576 by have := selL_len (kidP d) es k; omega); omega)).form; exact ⟨a, c, by rw [h, List.length_append]; rfl⟩
            have Xw2 : Ext w w2 := Ext.below (Xwr.trans EE) hbl (by omega)
            have BL3_w2 : Ext w1 w2 := Ext.below (Ext.trans BL3_wr EE) hbl (by omega)
            have Bwr_w2 : Ext w1 w2 := Ext.below (Ext.trans Bwr EE) hbl (by omega)
            clear b10 b11
            clear x70 x71 x72 x73 x74
            clear i18
            clear i19
            clear OG4
            have OG4 := ho
            clear ho hbl EE SS zGB
            have s_w2 : w.heap.size ≤ w2.heap.size := Xw2.size)
          go_wp2_with fail
          go_roundw
          case rel => exact ⟨k + 1, by omega, by go_num, (by rw [selL_yes (by rw [hX13.out]; simp [kidP, hc22.out])]; exact OG4.ext qXt), (Bwr_w2.trans qXt)⟩
          case measure => simp [intOf]; omega
        · have hc22e : ((P8 : Int) == (d : Int)) = false := by simpa using hc22
          have hc22n : ((P8 : Int) != (d : Int)) = true := by simpa using hc22
          replace hc22 := Lib.hid hc22
          go_wp2_with fail
          go_roundw
          case rel => exact ⟨k + 1, by omega, by go_num, (by rw [selL_no (by rw [hX13.out]; simp [kidP, hc22.out])]; exact OG4.ext qXt), (Bwr.trans qXt)⟩
          case measure => simp [intOf]; omega
    · obtain rfl : k = es.length := by omega
      have hkI : ¬ (es.length : Int) < es.length := by omega
      go_wp2_with fail
      go_ret
      exact PInts.mk OG4 (by omega) (by have := selL_len (kidP d) es es.length; omega) (Xwr.trans qXt)


end Go.Proofs.YtgklaobfikbiiaaDoor

/- Helpers of walks: capacities, two rows that grow. -/
namespace Go.Proofs.YtgklaobfikbiiaaDoor
open Go.RowKit
set_option linter.unusedVariables false

theorem PViewB.two {w w' : World} {B : Nat} {b : Int} {s t : List Int} {v1 v2 : Value} (T : Two B w' v1 v2 s t) (hB : w.heap.size ≤ B) (hs : s.length ≤ 1000) (ht : t.length ≤ 1000) (hx : Ext w w') :
    PViewB w b s t true (.returned (.tuple #[.agg #[.int .i64 b, v1, v2], .bool true])) w' :=
  ⟨_, _, rfl, (T.o1.ints (by omega)).lower hB, (T.o2.ints (by omega)).lower hB, (T.o1.lower hB).z, (T.o2.lower hB).z,
    (fun n1 n2 h => by obtain ⟨g, _, h1, _⟩ := (T.o1).row n1; rw [h1] at h; exact T.sep g (by rw [h1]; rfl) (h ▸ rfl)), hx⟩
theorem pi_eq {w w0 : World} {xs ys : List Int} {f : Nat} {args : Array Value} (he : xs = ys) (h : Calls Tryd.prog f args w (PInts w0 xs)) : Calls Tryd.prog f args w (PInts w0 ys) := he ▸ h
theorem pv_eq {w w0 : World} {x : VBool} {B : Int} {S T : List Int} {o : Bool} {f : Nat} {args : Array Value} (he : x = (B, S, T, o)) (h : Calls Tryd.prog f args w (PVB w0 x)) : Calls Tryd.prog f args w (PViewB w0 B S T o) := by subst he; exact h
end Go.Proofs.YtgklaobfikbiiaaDoor

/- Helpers of walks: appends to a literal without room, whatever is appended. -/
namespace Go.Proofs.YtgklaobfikbiiaaDoor
open Go.RowKit
set_option linter.unusedVariables false
section
variable {w : World} {src : Value} {ys : List Int} {lo B l : Nat}
theorem run_app0O (ty : TypeId) (O : OwnI w B (.slice (some ⟨l, 0, none⟩) 0 0) []) (hB : B ≤ w.heap.size) (hs : Ints w lo src ys) :
    ∃ g r w', (Builtin.append_ #[23, 23] ty #[.slice (some ⟨l, 0, none⟩) 0 0, src]).run Tryd.prog w = .ok (.slice (some ⟨g, 0, none⟩) ys.length r) w' ∧ OwnI w' B (.slice (some ⟨g, 0, none⟩) ys.length r) ys ∧ Ext w w' ∧ (g = l ∨ w.heap.size ≤ g) ∧ g < w'.heap.size ∧ (ys = [] → r = 0) := by
  obtain ⟨v', w', hr, h1, h2, h3⟩ := run_app0 ⟨l, 0, none⟩ ty hs
  by_cases he : ys = []
  · subst he
    have hs' := hs
    obtain ⟨i0, hi, hz0, hz1, hz2⟩ := info_parts infoInt
    obtain ⟨a, cap, rfl, h1, h2, ⟨h3', h3⟩, h4⟩ := hs
    refine ⟨l, 0, w, ?_, O, Ext.refl _, .inl rfl, (own_lt O rfl).2, fun _ => rfl⟩
    cases a with
    | none => simp [Builtin.append_, run_underlying Tryd.underlying23, sizeOf, typeInfo, hi, Builtin.lenOf, Builtin.firstCells, storeCells]
    | some x => simp [Builtin.append_, run_underlying Tryd.underlying23, sizeOf, typeInfo, hi, Builtin.lenOf, Builtin.firstCells, storeCells, loadCells, loadCellsFrom]
  · have O' := (h1.ofNe he)
    obtain ⟨g, r, rfl, hg, hg'⟩ := O'.row he
    exact ⟨g, r, w', hr, O'.lower hB, h2, .inr hg, hg', fun h => absurd h he⟩

theorem wpList_app0C {ops : Array Oper} {rest : List Oper} {o : Oper} {a : Act} {Q : Exit → Act → World → Prop} (hgd : o.guard = none) (s x : Operand)
    (ho : o.op = .call { callee := .builtin .append, args := #[s, x], argTypes := #[23, 23] })
    (hs : a.eval s = .slice (some ⟨l, 0, none⟩) 0 0) (hx : a.eval x = src) (O : OwnI w B (.slice (some ⟨l, 0, none⟩) 0 0) []) (hB : B ≤ w.heap.size) (hsrc : Ints w lo src ys)
    (hK : ∀ g r w', OwnI w' B (.slice (some ⟨g, 0, none⟩) ys.length r) ys → Ext w w' → (g = l ∨ w.heap.size ≤ g) → g < w'.heap.size → Hid (ys = [] → r = 0) → wpList Tryd.prog ops Q rest (a.put o.dst (.slice (some ⟨g, 0, none⟩) ys.length r)) w') : wpList Tryd.prog ops Q (o :: rest) a w := by
  refine wpList_plain hgd fun K hK' => ?_
  obtain ⟨g, r, w', hr, h1, h2, h3, h4, h5⟩ := run_app0O o.type O hB hsrc
  unfold Oper.wp execOp
  simp only [ho, resolve, invoke, builtin, Sem.run_bind, Sem.run_pure, Result.andThen_ok, List.map_toArray, List.map_cons, List.map_nil, hs, hx, hr]
  exact hK' _ _ (hK g r w' h1 h2 h3 h4 (Lib.hid h5))
end
/-- a call hands back a row of its own -/
def PIntsO (w : World) (xs : List Int) (e : Ending) (w' : World) : Prop := ∃ g r, e = .returned (.slice (some ⟨g, 0, none⟩) xs.length r) ∧ OwnI w' w.heap.size (.slice (some ⟨g, 0, none⟩) xs.length r) xs ∧ w.heap.size ≤ g ∧ g < w'.heap.size ∧ Ext w w'
/-- a call hands back a row of its own, without room where it is empty -/
def PIntsC (w : World) (xs : List Int) (e : Ending) (w' : World) : Prop := ∃ g r, e = .returned (.slice (some ⟨g, 0, none⟩) xs.length r) ∧ OwnI w' w.heap.size (.slice (some ⟨g, 0, none⟩) xs.length r) xs ∧ w.heap.size ≤ g ∧ g < w'.heap.size ∧ Hid (xs = [] → r = 0) ∧ Ext w w'
theorem PIntsC.o {w w' : World} {xs : List Int} {e : Ending} (h : PIntsC w xs e w') : PIntsO w xs e w' := by obtain ⟨g, r, h1, h2, h3, h4, -, h5⟩ := h; exact ⟨g, r, h1, h2, h3, h4, h5⟩
/-- an empty slice has no room -/
def CapZ (v : Value) (xs : List Int) : Prop := Hid (xs = [] → ∃ a, v = .slice a 0 0)
theorem CapZ.row {g r n : Nat} {ys xs : List Int} (hz : Hid (ys = [] → r = 0)) (hl : xs.length = ys.length) (hn : n = ys.length) : CapZ (.slice (some ⟨g, 0, none⟩) n r) xs :=
  Lib.hid fun h => by
    subst h
    have hy : ys = [] := List.eq_nil_of_length_eq_zero hl.symm
    rw [hn, hz.out hy, hy]
    exact ⟨_, rfl⟩
theorem CapZ.nil (xs : List Int) : CapZ (.slice none 0 0) xs := Lib.hid fun _ => ⟨_, rfl⟩
theorem CapZ.same {g n : Nat} {xs : List Int} (hn : n = xs.length) : CapZ (.slice (some ⟨g, 0, none⟩) n n) xs := Lib.hid fun h => by subst h; subst hn; exact ⟨_, rfl⟩
/-- a call hands back a new slice, without room where it is empty -/
def PIntsZ (w : World) (xs : List Int) (e : Ending) (w' : World) : Prop := ∃ v, e = .returned v ∧ Ints w' w.heap.size v xs ∧ OwnZ w' w.heap.size v xs ∧ CapZ v xs ∧ Ext w w'
/-- a call hands back a new slice, without room where it is empty, and whether that is possible -/
def PIntsBC (w : World) (xs : List Int) (b : Bool) (e : Ending) (w' : World) : Prop := ∃ v, e = .returned (.tuple #[v, .bool b]) ∧ Ints w' w.heap.size v xs ∧ OwnZ w' w.heap.size v xs ∧ CapZ v xs ∧ Ext w w'
theorem PIntsBC.nil {w w' : World} (h : Ext w w') : PIntsBC w [] false (.returned (.tuple #[.slice none 0 0, .bool false])) w' :=
  ⟨_, rfl, Ints.nil _ _ _ _ (by simp) (fun _ => rfl), .inl ⟨rfl, none, 0, rfl, by simp, fun _ => rfl⟩, CapZ.nil _, h⟩
end Go.Proofs.YtgklaobfikbiiaaDoor

/- Walks: copies of views that are rows. -/
namespace Go.Proofs.YtgklaobfikbiiaaDoor
open Go.RowKit
set_option linter.unusedVariables false
set_option maxRecDepth 100000

def PViewO (w : World) (b : Int) (s t : List Int) (e : Ending) (w' : World) : Prop := ∃ g1 g2 r1 r2, e = .returned (.agg #[.int .i64 b, .slice (some ⟨g1, 0, none⟩) s.length r1, .slice (some ⟨g2, 0, none⟩) t.length r2]) ∧ OwnI w' w.heap.size (.slice (some ⟨g1, 0, none⟩) s.length r1) s ∧ OwnI w' w.heap.size (.slice (some ⟨g2, 0, none⟩) t.length r2) t ∧ w.heap.size ≤ g1 ∧ g1 < w'.heap.size ∧ w.heap.size ≤ g2 ∧ g2 < w'.heap.size ∧ g1 ≠ g2 ∧ Ext w w'
end Go.Proofs.YtgklaobfikbiiaaDoor

/- Words for memory: exports in rows of their own. No condition. -/
namespace Go.Proofs.YtgklaobfikbiiaaDoor
open Go.RowKit
set_option linter.unusedVariables false
set_option maxRecDepth 100000

/-- the rows of exports: shapes at even places, strides at odd ones -/
def rowAt (es : List Exp) (p : Nat) : List Int := if p % 2 = 0 then (expAt es (p / 2)).s else (expAt es (p / 2)).t
theorem rowAt_even (es : List Exp) (i : Nat) : rowAt es (2 * i) = (expAt es i).s := by unfold rowAt; rw [if_pos (by omega)]; congr 2; omega
theorem rowAt_odd (es : List Exp) (i : Nat) : rowAt es (2 * i + 1) = (expAt es i).t := by unfold rowAt; rw [if_neg (by omega)]; congr 2; omega
theorem expAt_app1 {es : List Exp} {e : Exp} {i : Nat} (h : i < es.length) : expAt (es ++ [e]) i = expAt es i := by unfold expAt; rw [List.getD_eq_getElem?_getD, List.getElem?_append_left h, ← List.getD_eq_getElem?_getD]
theorem expAt_app2 (es : List Exp) (e : Exp) : expAt (es ++ [e]) es.length = e := by unfold expAt; simp
theorem rowAt_app {es : List Exp} {e : Exp} {p : Nat} (h : p < 2 * es.length) : rowAt (es ++ [e]) p = rowAt es p := by unfold rowAt; rw [expAt_app1 (by omega)]
theorem expAt_set (es : List Exp) (i : Nat) (e : Exp) (j : Nat) (hi : i < es.length) : expAt (es.set i e) j = if j = i then e else expAt es j := by
 unfold expAt
 by_cases h : j = i
 ·
  subst h; simp [hi]
 ·
  rw [if_neg h, List.getD_eq_getElem?_getD, List.getElem?_set_ne (by omega), ← List.getD_eq_getElem?_getD]
theorem take_expAt {es : List Exp} {k : Nat} (h : k < es.length) : es.take (k+1) = es.take k ++ [expAt es k] := by rw [List.take_succ_eq_append_getElem h, expAt_get h]
/-- the cells of an export -/
def eCells (e : Exp) (u v : Value) : List Value := [.int .i64 e.par, .int .i64 e.b, u, v, .bool e.op]
def cellsE (es : List Exp) (R : Nat → Value) : List (List Value) := (List.range es.length).map fun i => eCells (expAt es i) (R (2 * i)) (R (2 * i + 1))
theorem cellsE_len (es : List Exp) (R : Nat → Value) : (cellsE es R).length = es.length := by simp [cellsE]
theorem cellsE_get (es : List Exp) (R : Nat → Value) (i : Nat) (h : i < (cellsE es R).length) : (cellsE es R)[i] = eCells (expAt es i) (R (2 * i)) (R (2 * i + 1)) := by simp [cellsE]
abbrev TEXPORT : TypeId := 56
/-- exports in rows of their own -/
structure ExpR (w : World) (lo : Nat) (ev : Value) (es : List Exp) (R : Nat → Value) : Prop where
 row : OwnC w lo TEXPORT 5 ev (cellsE es R)
 nest : ∀ p, p < 2 * es.length → OwnZ w lo (R p) (rowAt es p)
 lens : ∀ p, p < 2 * es.length → (rowAt es p).length ≤ 4194304
 apart : ∀ p q, p < q → q < 2 * es.length → rowAt es p ≠ [] → rowAt es q ≠ [] → (R p).ownBlock ≠ (R q).ownBlock
 off : ∀ p, p < 2 * es.length → rowAt es p ≠ [] → (R p).ownBlock ≠ ev.ownBlock
section
variable {w w' W : World} {lo lo' : Nat} {ev : Value} {es : List Exp} {R : Nat → Value}
theorem ExpR.nil (w : World) (lo : Nat) (R : Nat → Value) : ExpR w lo (.slice none 0 0) [] R :=
 ⟨OwnC.nil, fun p h => by simp at h, fun p h => by simp at h, fun p q _ h => by simp at h, fun p h => by simp at h⟩
theorem ExpR.ext (h : ExpR w lo ev es R) (hx : Ext w w') : ExpR w' lo ev es R := ⟨h.row.ext hx, fun p hp => (h.nest p hp).ext hx, h.lens, h.apart, h.off⟩
theorem ExpR.lower (h : ExpR w lo ev es R) (hl : lo' ≤ lo) : ExpR w lo' ev es R := ⟨h.row.lower hl, fun p hp => (h.nest p hp).lower hl, h.lens, h.apart, h.off⟩
theorem ExpR.chg {l hi : Nat} (h : ExpR w lo ev es R) (k : Chg l hi w w') (hb : hi ≤ lo) : ExpR w' lo ev es R := ⟨h.row.chg k hb, fun p hp => (h.nest p hp).chg k hb, h.lens, h.apart, h.off⟩
theorem ExpR.len (h : ExpR w lo ev es R) : ∃ a c, ev = .slice a es.length c := by have := h.row.form; rw [cellsE_len] at this; exact this
/-- where the row lies -/
theorem own_block_lt {base E sz n : Nat} {v : Value} {xs : List Value} (h : w.ownsRow base E sz v n xs) (g : Nat) (hg : v.ownBlock = some g) : base ≤ g ∧ g < w.heap.size := World.ownsRow.lt h g hg
theorem ExpR.blk (h : ExpR w lo ev es R) (g : Nat) (hg : ev.ownBlock = some g) : lo ≤ g ∧ g < w.heap.size := own_block_lt h.row.1 g hg
theorem ExpR.nblk (h : ExpR w lo ev es R) (p : Nat) (hp : p < 2 * es.length) (hn : rowAt es p ≠ []) : ∃ g, (R p).ownBlock = some g ∧ lo ≤ g ∧ g < w.heap.size := (h.nest p hp).lt hn
theorem ExpR.big (h : ExpR w lo ev es R) (hn : es ≠ []) : ∃ g c, ev = .slice (some ⟨g, 0, none⟩) es.length c ∧ ev.ownBlock = some g ∧ lo ≤ g ∧ g < w.heap.size ∧ es.length ≤ c ∧ c ≤ maxLen := by
 have := h.row.lt (by intro h0; have := cellsE_len es R; rw [h0] at this; exact hn (List.eq_nil_of_length_eq_zero this.symm))
 rw [cellsE_len] at this
 exact this
/-- such exports can be read -/
theorem ExpR.exps (h : ExpR w lo ev es R) (hl : es.length ≤ 1048576) : Exps w lo ev es := by
 by_cases hn : es = []
 ·
  subst hn
  obtain ⟨hr, -⟩ := h.row
  rcases hr.2 with ⟨rfl, _⟩ | ⟨g, cap, cur, rfl, hb, hh, h1, h2, _⟩
  ·
   exact Exps.nil _ _
  ·
   exact ⟨_, cap, rfl, by simp, h2, ⟨by simp, fun h => by cases h⟩, fun i hi => absurd hi (by simp)⟩
 ·
  obtain ⟨g, c, rfl, hg, hb, hlt, hc, hm⟩ := h.big hn
  refine ⟨_, c, rfl, hc, hm, ⟨hl, fun h => by cases h⟩, fun i hi => ?_⟩
  have hr := h.row
  have e1 : (.slice (some ⟨g, 0, none⟩) es.length c : Value) = .slice (some ⟨g, 0, none⟩) (cellsE es R).length c := by rw [cellsE_len]
  rw [e1] at hr
  have hi' : i < (cellsE es R).length := by rw [cellsE_len]; exact hi
  have k := fun j (hj : j < 5) => (hr.cell i j hi' hj).1
  rw [cellsE_get] at k
  have i1 := (h.nest (2 * i) (by omega)).ints (h.lens _ (by omega))
  have i2 := (h.nest (2 * i + 1) (by omega)).ints (h.lens _ (by omega))
  rw [rowAt_even] at i1
  rw [rowAt_odd] at i2
  obtain ⟨u1, c1, e2⟩ := i1.form
  obtain ⟨u2, c2, e3⟩ := i2.form
  rw [e2] at i1
  rw [e3] at i2
  refine ⟨g, 0, u1, c1, u2, c2, rfl, hb, ?_, ?_, ?_, ?_, ?_, i1, i2⟩
  ·
   have := k 0 (by omega); rw [Nat.zero_add]; exact this
  ·
   have := k 1 (by omega); rw [Nat.zero_add]; exact this
  ·
   have := k 2 (by omega); rw [Nat.zero_add, ← e2]; exact this
  ·
   have := k 3 (by omega); rw [Nat.zero_add, ← e3]; exact this
  ·
   have := k 4 (by omega); rw [Nat.zero_add]; exact this
end
def extR (R : Nat → Value) (n : Nat) (u1 u2 : Value) (p : Nat) : Value := if p < 2 * n then R p else if p = 2 * n then u1 else u2
theorem extR_old {R : Nat → Value} {n : Nat} {u1 u2 : Value} {p : Nat} (h : p < 2 * n) : extR R n u1 u2 p = R p := by unfold extR; rw [if_pos h]
theorem extR_a {R : Nat → Value} {n : Nat} {u1 u2 : Value} : extR R n u1 u2 (2 * n) = u1 := by unfold extR; rw [if_neg (by omega), if_pos rfl]
theorem extR_b {R : Nat → Value} {n : Nat} {u1 u2 : Value} : extR R n u1 u2 (2 * n + 1) = u2 := by unfold extR; rw [if_neg (by omega), if_neg (by omega)]
section
variable {w w' W : World} {lo lo' : Nat} {ev : Value} {es : List Exp} {R : Nat → Value}
/-- one export more, with rows apart from the others -/
theorem ExpR.snocG {lo2 : Nat} {v' : Value} {e : Exp} {u1 u2 : Value} (h : ExpR W lo ev es R) (hl : lo2 ≤ lo) (o1 : OwnZ W lo2 u1 e.s) (o2 : OwnZ W lo2 u2 e.t) (l1 : e.s.length ≤ 4194304) (l2 : e.t.length ≤ 4194304)
  (hd : e.s ≠ [] → e.t ≠ [] → u1.ownBlock ≠ u2.ownBlock) (a1 : e.s ≠ [] → ∀ p, p < 2 * es.length → rowAt es p ≠ [] → (R p).ownBlock ≠ u1.ownBlock) (a2 : e.t ≠ [] → ∀ p, p < 2 * es.length → rowAt es p ≠ [] → (R p).ownBlock ≠ u2.ownBlock)
  (n1 : e.s ≠ [] → u1.ownBlock ≠ ev.ownBlock) (n2 : e.t ≠ [] → u2.ownBlock ≠ ev.ownBlock)
  (h1 : OwnC w' lo TEXPORT 5 v' (cellsE es R ++ [eCells e u1 u2])) (hg : W.grownBy w' ev.ownBlock) (hv : v'.ownBlock = ev.ownBlock ∨ v'.ownBlock = some W.heap.size) :
  ExpR w' lo2 v' (es ++ [e]) (extR R es.length u1 u2) := by
 have hpl : ∀ p, p < 2 * (es ++ [e]).length → p < 2 * es.length ∨ p = 2 * es.length ∨ p = 2 * es.length + 1 := fun p hp => by
  rw [List.length_append, List.length_singleton] at hp; omega
 have r1 : rowAt (es ++ [e]) (2 * es.length) = e.s := by rw [rowAt_even, expAt_app2]
 have r2 : rowAt (es ++ [e]) (2 * es.length + 1) = e.t := by rw [rowAt_odd, expAt_app2]
 have nv : ∀ (x : Value) (xs : List Int), OwnZ W lo2 x xs → xs ≠ [] → x.ownBlock ≠ ev.ownBlock → x.ownBlock ≠ v'.ownBlock := fun x xs ho hs hne he => by
  rcases hv with hv | hv
  ·
   exact hne (he.trans hv)
  ·
   obtain ⟨g, hg1, -, hlt⟩ := ho.lt hs
   rw [hg1, hv] at he
   have := Option.some.inj he
   omega
 refine ⟨?_, ?_, ?_, ?_, ?_⟩
 ·
  have : cellsE (es ++ [e]) (extR R es.length u1 u2) = cellsE es R ++ [eCells e u1 u2] := by
   unfold cellsE
   rw [List.length_append, List.length_singleton, List.range_succ, List.map_append]
   congr 1
   ·
    refine List.map_congr_left fun i hi => ?_
    have hi := List.mem_range.1 hi
    rw [expAt_app1 hi, extR_old (by omega), extR_old (by omega)]
   ·
    simp only [List.map_cons, List.map_nil]
    rw [expAt_app2, extR_a, extR_b]
  rw [this]; exact h1.lower hl
 ·
  intro p hp
  rcases hpl p hp with hp | rfl | rfl
  ·
   rw [extR_old hp, rowAt_app hp]
   exact ((h.nest p hp).lower hl).keptG (h.lens p hp) hg (fun hs => h.off p hp hs)
  ·
   rw [extR_a, r1]
   exact o1.keptG l1 hg n1
  ·
   rw [extR_b, r2]
   exact o2.keptG l2 hg n2
 ·
  intro p hp
  rcases hpl p hp with hp | rfl | rfl
  ·
   rw [rowAt_app hp]; exact h.lens p hp
  ·
   rw [r1]; exact l1
  ·
   rw [r2]; exact l2
 ·
  intro p q hpq hq
  have old : ∀ p, p < 2 * es.length → rowAt es p ≠ [] → (e.s ≠ [] → (R p).ownBlock ≠ u1.ownBlock) ∧ (e.t ≠ [] → (R p).ownBlock ≠ u2.ownBlock) := fun p hp hs => ⟨fun he => a1 he p hp hs, fun he => a2 he p hp hs⟩
  rcases hpl q hq with hq' | rfl | rfl
  ·
   rw [extR_old (by omega), extR_old hq', rowAt_app (by omega), rowAt_app hq']
   exact h.apart p q hpq hq'
  ·
   rw [extR_old hpq, extR_a, rowAt_app hpq, r1]
   exact fun hs he => (old p hpq hs).1 he
  ·
   rcases Nat.lt_or_ge p (2 * es.length) with hp | hp
   ·
    rw [extR_old hp, extR_b, rowAt_app hp, r2]
    exact fun hs he => (old p hp hs).2 he
   ·
    obtain rfl : p = 2 * es.length := by omega
    rw [extR_a, extR_b, r1, r2]
    exact hd
 ·
  intro p hp
  rcases hpl p hp with hp | rfl | rfl
  ·
   rw [extR_old hp, rowAt_app hp]
   exact fun hs => nv _ _ ((h.nest p hp).lower hl) hs (h.off p hp hs)
  ·
   rw [extR_a, r1]
   exact fun hs => nv _ _ o1 hs (n1 hs)
  ·
   rw [extR_b, r2]
   exact fun hs => nv _ _ o2 hs (n2 hs)
/-- one export more, with rows that came up later than all the others -/
theorem ExpR.snoc {w0 : World} {v' : Value} {e : Exp} {u1 u2 : Value} (h0 : ExpR w0 lo ev es R) (hx : Ext w0 W) (o1 : OwnZ W lo u1 e.s) (o2 : OwnZ W lo u2 e.t) (l1 : e.s.length ≤ 4194304) (l2 : e.t.length ≤ 4194304)
  (hd : e.s ≠ [] → e.t ≠ [] → u1.ownBlock ≠ u2.ownBlock) (m1 : e.s ≠ [] → ∀ g, u1.ownBlock = some g → w0.heap.size ≤ g) (m2 : e.t ≠ [] → ∀ g, u2.ownBlock = some g → w0.heap.size ≤ g)
  (h1 : OwnC w' lo TEXPORT 5 v' (cellsE es R ++ [eCells e u1 u2])) (hg : W.grownBy w' ev.ownBlock) (hv : v'.ownBlock = ev.ownBlock ∨ v'.ownBlock = some W.heap.size) :
  ExpR w' lo v' (es ++ [e]) (extR R es.length u1 u2) := by
 refine (h0.ext hx).snocG (Nat.le_refl _) o1 o2 l1 l2 hd ?_ ?_ ?_ ?_ h1 hg hv
 ·
  intro he p hp hs h2
  obtain ⟨g, hg1, -, hlt⟩ := h0.nblk p hp hs
  have := m1 he g (by rw [← h2]; exact hg1); omega
 ·
  intro he p hp hs h2
  obtain ⟨g, hg1, -, hlt⟩ := h0.nblk p hp hs
  have := m2 he g (by rw [← h2]; exact hg1); omega
 ·
  intro hs he
  obtain ⟨g, hg1, -, -⟩ := o1.lt hs
  rw [hg1] at he
  have := (h0.blk g he.symm).2
  have := m1 hs g hg1
  omega
 ·
  intro hs he
  obtain ⟨g, hg1, -, -⟩ := o2.lt hs
  rw [hg1] at he
  have := (h0.blk g he.symm).2
  have := m2 hs g hg1
  omega
/-- one export more, with rows that came up before all the others -/
theorem ExpR.snocB {lo2 : Nat} {v' : Value} {e : Exp} {u1 u2 : Value} (h : ExpR W lo ev es R) (hl : lo2 ≤ lo) (o1 : OwnZ W lo2 u1 e.s) (o2 : OwnZ W lo2 u2 e.t) (l1 : e.s.length ≤ 4194304) (l2 : e.t.length ≤ 4194304)
  (hd : e.s ≠ [] → e.t ≠ [] → u1.ownBlock ≠ u2.ownBlock) (m1 : e.s ≠ [] → ∀ g, u1.ownBlock = some g → g < lo) (m2 : e.t ≠ [] → ∀ g, u2.ownBlock = some g → g < lo)
  (h1 : OwnC w' lo TEXPORT 5 v' (cellsE es R ++ [eCells e u1 u2])) (hg : W.grownBy w' ev.ownBlock) (hv : v'.ownBlock = ev.ownBlock ∨ v'.ownBlock = some W.heap.size) :
  ExpR w' lo2 v' (es ++ [e]) (extR R es.length u1 u2) := by
 refine h.snocG hl o1 o2 l1 l2 hd ?_ ?_ ?_ ?_ h1 hg hv
 ·
  intro he p hp hs h2
  obtain ⟨g, hg1, hb, -⟩ := h.nblk p hp hs
  have := m1 he g (by rw [← h2]; exact hg1); omega
 ·
  intro he p hp hs h2
  obtain ⟨g, hg1, hb, -⟩ := h.nblk p hp hs
  have := m2 he g (by rw [← h2]; exact hg1); omega
 ·
  intro hs he
  obtain ⟨g, hg1, -, -⟩ := o1.lt hs
  rw [hg1] at he
  have := (h.blk g he.symm).1
  have := m1 hs g hg1
  omega
 ·
  intro hs he
  obtain ⟨g, hg1, -, -⟩ := o2.lt hs
  rw [hg1] at he
  have := (h.blk g he.symm).1
  have := m2 hs g hg1
  omega
theorem cellsE_set (es : List Exp) (R : Nat → Value) (i : Nat) (hi : i < es.length) (e : Exp) : cellsE (es.set i e) R = (cellsE es R).set i (eCells e (R (2 * i)) (R (2 * i + 1))) := by
 refine List.ext_getElem (by rw [List.length_set, cellsE_len, cellsE_len, List.length_set]) fun j h1 h2 => ?_
 rw [cellsE_get, List.getElem_set, expAt_set es i e j hi]
 by_cases h : i = j
 ·
  subst h; rw [if_pos rfl, if_pos rfl]
 ·
  rw [if_neg (by omega), if_neg h, cellsE_get]
/-- a cell of an export (but its rows') is written -/
theorem ExpR.store {a c : Nat} (h : ExpR w lo (.slice (some ⟨a, 0, none⟩) es.length c) es R) (i j : Nat) (hi : i < es.length) (hj : j < 5) (x : Value) (e : Exp) (hs : e.s = (expAt es i).s) (ht : e.t = (expAt es i).t)
  (he : (eCells (expAt es i) (R (2 * i)) (R (2 * i + 1))).set j x = eCells e (R (2 * i)) (R (2 * i + 1))) : ExpR (w.setCell ⟨a, i * 5 + j, none⟩ x) lo (.slice (some ⟨a, 0, none⟩) es.length c) (es.set i e) R := by
 have hr := h.row
 have e1 : (.slice (some ⟨a, 0, none⟩) es.length c : Value) = .slice (some ⟨a, 0, none⟩) (cellsE es R).length c := by rw [cellsE_len]
 rw [e1] at hr
 have hi' : i < (cellsE es R).length := by rw [cellsE_len]; exact hi
 have h2 := hr.set i j hi' hj x
 rw [cellsE_get, he, ← cellsE_set es R i hi e] at h2
 rw [cellsE_len] at h2
 have hra : ∀ p, rowAt (es.set i e) p = rowAt es p := fun p => by
  unfold rowAt
  rw [expAt_set es i e _ hi]
  by_cases h : p / 2 = i
  ·
   rw [if_pos h, hs, ht, h]
  ·
   rw [if_neg h]
 have hk : Chg a (a + 1) w (w.setCell ⟨a, i * 5 + j, none⟩ x) := Chg.setCell (p := ⟨a, i * 5 + j, none⟩) (Chg.refl _ _ _) (Nat.le_refl _) (Nat.lt_succ_self _) x
 have hgr : w.grownBy (w.setCell ⟨a, i * 5 + j, none⟩ x) (some a) := ⟨hk.os, hk.tape, hk.output, hk.size, fun b hb hne => hk.block b hb (by
  rcases Nat.lt_or_ge b a with h | h
  ·
   exact .inl h
  ·
   exact .inr (by have : b ≠ a := fun h0 => hne (by rw [h0]); omega))⟩
 refine ⟨h2, ?_, ?_, ?_, ?_⟩
 ·
  intro p hp
  rw [List.length_set] at hp
  rw [hra]
  exact (h.nest p hp).keptG (h.lens p hp) hgr (fun hs => h.off p hp hs)
 ·
  intro p hp; rw [List.length_set] at hp; rw [hra]; exact h.lens p hp
 ·
  intro p q hpq hq; rw [List.length_set] at hq; rw [hra, hra]; exact h.apart p q hpq hq
 ·
  intro p hp; rw [List.length_set] at hp; rw [hra]; exact h.off p hp
end
/-- a buffer in rows of its own -/
structure BufR (w : World) (lo : Nat) (cv ev : Value) (cells : List Int) (es : List Exp) (R : Nat → Value) : Prop where
 cel : OwnZ w lo cv cells
 ex : ExpR w lo ev es R
 cl : cells.length ≤ 4194304
 el : es.length ≤ 1048576
 offc : cells ≠ [] → cv.ownBlock ≠ ev.ownBlock
 offr : ∀ p, p < 2 * es.length → rowAt es p ≠ [] → cells ≠ [] → (R p).ownBlock ≠ cv.ownBlock
 cz : CapZ cv cells
section
variable {w w' : World} {lo lo' : Nat} {cv ev : Value} {cells : List Int} {es : List Exp} {R : Nat → Value}
theorem BufR.ext (h : BufR w lo cv ev cells es R) (hx : Ext w w') : BufR w' lo cv ev cells es R := ⟨h.cel.ext hx, h.ex.ext hx, h.cl, h.el, h.offc, h.offr, h.cz⟩
theorem BufR.lower (h : BufR w lo cv ev cells es R) (hl : lo' ≤ lo) : BufR w lo' cv ev cells es R := ⟨h.cel.lower hl, h.ex.lower hl, h.cl, h.el, h.offc, h.offr, h.cz⟩
theorem BufR.chg {l hi : Nat} (h : BufR w lo cv ev cells es R) (k : Chg l hi w w') (hb : hi ≤ lo) : BufR w' lo cv ev cells es R := ⟨h.cel.chg k hb, h.ex.chg k hb, h.cl, h.el, h.offc, h.offr, h.cz⟩
theorem BufR.ints (h : BufR w lo cv ev cells es R) : Ints w lo cv cells := h.cel.ints h.cl
theorem BufR.exps (h : BufR w lo cv ev cells es R) : Exps w lo ev es := h.ex.exps h.el
end
/-- a call hands back a new buffer -/
def PBuf (w : World) (cells : List Int) (es : List Exp) (e : Ending) (w' : World) : Prop := ∃ cv ev R, e = .returned (.agg #[cv, ev]) ∧ BufR w' w.heap.size cv ev cells es R ∧ Ext w w'
/-- a call hands back a new buffer and whether there is one -/
def PBufB (w : World) (cells : List Int) (es : List Exp) (o : Bool) (e : Ending) (w' : World) : Prop := ∃ cv ev R, e = .returned (.tuple #[.agg #[cv, ev], .bool o]) ∧ BufR w' w.heap.size cv ev cells es R ∧ Ext w w'
theorem BufR.nil (w : World) (lo : Nat) : BufR w lo (.slice none 0 0) (.slice none 0 0) [] [] (fun _ => .slice none 0 0) :=
 ⟨.inl ⟨rfl, none, 0, rfl, by simp, fun _ => rfl⟩, ExpR.nil _ _ _, by simp, by simp, fun h => absurd rfl h, fun p h => (by simp at h), CapZ.nil _⟩
theorem PBufB.no {w w' : World} (h : Ext w w') : PBufB w [] [] false (.returned (.tuple #[.agg #[.slice none 0 0, .slice none 0 0], .bool false])) w' := ⟨_, _, _, rfl, BufR.nil _ _, h⟩
theorem infoExp : (Tryd.prog.info? TEXPORT).map (fun i => (i.zero, i.size, i.bytes)) = some (some (.agg #[.int .i64 0, .int .i64 0, .slice none 0 0, .slice none 0 0, .bool false]), 5, 72) := by kernel_rfl
end Go.Proofs.YtgklaobfikbiiaaDoor

/- Walks: copies that are rows. -/
namespace Go.Proofs.YtgklaobfikbiiaaDoor
open Go.RowKit
set_option linter.unusedVariables false
set_option maxRecDepth 100000

set_option maxHeartbeats 1600000 in
theorem copyIntsC_c (v3 : Value) (u : List Int) (w : World) (l3 : Nat) (h3 : Ints w l3 v3 u) :
    Calls Tryd.prog 50 #[v3] w (PIntsC w u) := by
  obtain ⟨p2, c2, rfl⟩ := h3.form
  go_enter Tryd.func50, Tryd.ntmps50
  have BL6 : Ext w w := Ext.refl _
  have hln1 : u.length ≤ 4194304 := (h3).len
  go_wp2_with (at_builtin; refine wpList_app0C rfl (.tmp 3) (.tmp 4) rfl rfl rfl (OwnI.lit0 (w) w.heap.size (by simp)) (by simp) (h3.ext qXt) ?_)
  intro gr3 rr4 w1 O2 xw1 hg7 Ggr3' czgr3
  replace xw1 : Ext w w1 := Ext.trans qXt xw1
  have Ggr3 : w.heap.size ≤ gr3 := by (try simp only [World.size_alloc, World.size_drew] at hg7); omega
  clear hg7
  have Lw1 : Ext w w1 := Ext.trans qXt xw1
  have Xw1 : Ext w w1 := Lw1
  have s_w1 : w.heap.size ≤ w1.heap.size := Xw1.size
  have BL6_w1 : Ext w w1 := BL6.trans Lw1
  clear xw1
  go_wp2_with fail
  go_ret
  exact ⟨_, _, rfl, O2.lower (by omega), by omega, Ggr3', czgr3, Xw1⟩

set_option maxHeartbeats 1600000 in
theorem copyIntsO_c (v3 : Value) (u : List Int) (w : World) (l3 : Nat) (h3 : Ints w l3 v3 u) :
    Calls Tryd.prog 50 #[v3] w (PIntsO w u) :=
  (copyIntsC_c v3 u w l3 h3).mono fun _ _ h => h.o


end Go.Proofs.YtgklaobfikbiiaaDoor

/- Walks: copies of views of the reference that are rows. -/
namespace Go.Proofs.YtgklaobfikbiiaaDoor
open Go.RowKit
set_option linter.unusedVariables false
set_option maxRecDepth 100000

set_option maxHeartbeats 1600000 in
theorem scopyViewO_c (b1 : Int) (u1 v1 : Value) (s1 t1 : List Int) (w : World) (l1 m1 : Nat) (h1 : Ints w l1 u1 s1) (k1 : Ints w m1 v1 t1) :
    Calls Tryd.prog 51 #[.agg #[.int .i64 b1, u1, v1]] w (PViewO w b1 s1 t1) := by
  obtain ⟨p0, c0, rfl⟩ := h1.form
  obtain ⟨p1, c1, rfl⟩ := k1.form
  go_enter Tryd.func51, Tryd.ntmps51
  go_wp2_with fail
  generalize hW1 : (w.alloc (.cells #[.int .i64 b1, .slice p0 s1.length c0, .slice p1 t1.length c1] 54)).alloc (.cells #[.int .i64 0, .slice none 0 0, .slice none 0 0] 54) = w1 at *
  have Lw1 : Ext w w1 := by subst hW1; exact qXt
  have Xw1 : Ext w w1 := by subst hW1; exact Lw1
  have b10 : w1.cell? ⟨w.heap.size, 0, none⟩ = some (.int .i64 b1) := by subst hW1; exact qCl
  have b11 : w1.cell? ⟨w.heap.size, 1, none⟩ = some (.slice p0 s1.length c0) := by subst hW1; exact qCl
  have b12 : w1.cell? ⟨w.heap.size, 2, none⟩ = some (.slice p1 t1.length c1) := by subst hW1; exact qCl
  have b20 : w1.cell? ⟨w.heap.size + 1, 0, none⟩ = some (.int .i64 0) := by subst hW1; exact qCl
  have b21 : w1.cell? ⟨w.heap.size + 1, 1, none⟩ = some (.slice none 0 0) := by subst hW1; exact qCl
  have b22 : w1.cell? ⟨w.heap.size + 1, 2, none⟩ = some (.slice none 0 0) := by subst hW1; exact qCl
  have f_b20 : w1.frozen? ⟨w.heap.size + 1, 0, none⟩ = false := by subst hW1; exact qFz
  have f_b21 : w1.frozen? ⟨w.heap.size + 1, 1, none⟩ = false := by subst hW1; exact qFz
  have f_b22 : w1.frozen? ⟨w.heap.size + 1, 2, none⟩ = false := by subst hW1; exact qFz
  have z_b1 : w.heap.size < w1.heap.size := qB b10
  have z_b2 : w.heap.size + 1 < w1.heap.size := qB b20
  have s_w1 : w.heap.size ≤ w1.heap.size := Xw1.size
  clear hW1
  have Q3_b10 := Lib.hid b10
  have Q3_b11 := Lib.hid b11
  have Q3_b12 := Lib.hid b12
  have Q3_zb1 := z_b1
  have Q3_b20 := Lib.hid b20
  have Q3_f_b20 := Lib.hid f_b20
  have Q3_b21 := Lib.hid b21
  have Q3_f_b21 := Lib.hid f_b21
  have Q3_b22 := Lib.hid b22
  have Q3_f_b22 := Lib.hid f_b22
  have Q3_zb2 := z_b2
  have BL4 : Ext w1 w1 := Ext.refl _
  go_cut [] (fun  wx => ∃ (g4 : Nat) (r4 : Nat) (g7 : Nat) (r7 : Nat), Chg (w.heap.size + 1) (w.heap.size + 1 + 1) w1 wx ∧ w1.heap.size ≤ g4 ∧ g4 < wx.heap.size ∧ w1.heap.size ≤ g7 ∧ g7 < wx.heap.size ∧ g4 ≠ g7 ∧ OwnI wx w1.heap.size (.slice (some ⟨g4, 0, none⟩) s1.length r4) s1 ∧ OwnI wx w1.heap.size (.slice (some ⟨g7, 0, none⟩) t1.length r7) t1 ∧ wx.cell? ⟨w.heap.size + 1, 0, none⟩ = some (.int .i64 b1) ∧ wx.frozen? ⟨w.heap.size + 1, 0, none⟩ = false ∧ wx.cell? ⟨w.heap.size + 1, 1, none⟩ = some (.slice (some ⟨g4, 0, none⟩) s1.length r4) ∧ wx.frozen? ⟨w.heap.size + 1, 1, none⟩ = false ∧ wx.cell? ⟨w.heap.size + 1, 2, none⟩ = some (.slice (some ⟨g7, 0, none⟩) t1.length r7) ∧ wx.frozen? ⟨w.heap.size + 1, 2, none⟩ = false)
  case first =>
    have X1 : Ext w1 w1 := Ext.refl _
    refine wp_region_held_drew (S := fun w' => w'.cell? ⟨w.heap.size, 0, none⟩ = some (.int .i64 b1) ∧ w'.cell? ⟨w.heap.size, 1, none⟩ = some (.slice p0 s1.length c0) ∧ w'.cell? ⟨w.heap.size, 2, none⟩ = some (.slice p1 t1.length c1)) qKr ⟨b10, b11, b12⟩ (fun hHeld => ?_)
    refine qHk (v := ?_) 0 rfl (.inl ⟨by rfl, ?_⟩) ?_
    rotate_left
    · (intro w hSw; (try dsimp only at hSw); go_simp; try with_reducible rfl)
    try simp only [Act.put, qa, qb, qc, qD, qE, qF]
    refine qHk (v := ?_) 1 rfl (.inl ⟨by rfl, ?_⟩) ?_
    rotate_left
    · (intro w hSw; (try dsimp only at hSw); go_simp; try with_reducible rfl)
    try simp only [Act.put, qa, qb, qc, qD, qE, qF]
    refine qHk (v := ?_) 2 rfl (.inl ⟨by rfl, ?_⟩) ?_
    rotate_left
    · (intro w hSw; (try dsimp only at hSw); go_simp; try with_reducible rfl)
    try simp only [Act.put, qa, qb, qc, qD, qE, qF]
    refine qHk (v := ?_) 3 rfl (.inl ⟨by rfl, ?_⟩) ?_
    rotate_left
    · (intro w hSw; (try dsimp only at hSw); go_simp; try with_reducible rfl)
    try simp only [Act.put, qa, qb, qc, qD, qE, qF]
    refine qHk (v := ?_) 5 rfl (.inl ⟨by rfl, ?_⟩) ?_
    rotate_left
    · (intro w hSw; (try dsimp only at hSw); go_simp; try with_reducible rfl)
    try simp only [Act.put, qa, qb, qc, qD, qE, qF]
    refine qHk (v := ?_) 6 rfl (.inl ⟨by rfl, ?_⟩) ?_
    rotate_left
    · (intro w hSw; (try dsimp only at hSw); go_simp; try with_reducible rfl)
    try simp only [Act.put, qa, qb, qc, qD, qE, qF]
    refine qHr 4 rfl (fun K hK => ?_)
    try simp only [Act.put, qa, qb, qc, qD, qE, qF]
    go_simp
    refine (copyIntsO_c (.slice p0 s1.length c0) s1 _ _ (h1.ext (Xw1.trans qXt))).mono ?_
    rintro e w1_1 ⟨g1_4, r1_5, rfl, O1_3, Gg1_4, Hg1_4, x1_2⟩
    simp only [World.size_drew] at Gg1_4 O1_3
    replace x1_2 : Ext w1 w1_1 := Ext.trans qXt x1_2
    have S_w1_1 : w1.heap.size ≤ w1_1.heap.size := x1_2.size
    replace X1 := X1.trans x1_2
    have Yw1_1 := Ext.refl w1_1
    clear x1_2
    refine hK.out _ w1_1 ⟨(show Ext w1 w1_1 from qXt).cell b10, (show Ext w1 w1_1 from qXt).cell b11, (show Ext w1 w1_1 from qXt).cell b12⟩ (fun hHeld => ?_)
    clear hK K
    try simp only [Act.put, qa, qb, qc, qD, qE, qF]
    refine qHr 7 rfl (fun K hK => ?_)
    try simp only [Act.put, qa, qb, qc, qD, qE, qF]
    go_simp
    refine (copyIntsO_c (.slice p1 t1.length c1) t1 _ _ (k1.ext (Xw1.trans qXt))).mono ?_
    rintro e w1_6 ⟨g1_9, r1_10, rfl, O1_8, Gg1_9, Hg1_9, x1_7⟩
    replace x1_7 : Ext w1_1 w1_6 := Ext.trans qXt x1_7
    have S_w1_6 : w1_1.heap.size ≤ w1_6.heap.size := x1_7.size
    replace Yw1_1 := Yw1_1.trans x1_7
    replace X1 := X1.trans x1_7
    have Yw1_6 := Ext.refl w1_6
    clear x1_7
    refine hK.out _ w1_6 ⟨(show Ext w1 w1_6 from qXt).cell b10, (show Ext w1 w1_6 from qXt).cell b11, (show Ext w1 w1_6 from qXt).cell b12⟩ (fun hHeld => ?_)
    clear hK K
    try simp only [Act.put, qa, qb, qc, qD, qE, qF]
    refine qHk (v := ?_) 8 rfl (.inl ⟨by rfl, ?_⟩) ?_
    rotate_left
    · (intro w hSw; (try dsimp only at hSw); go_simp; try with_reducible rfl)
    try simp only [Act.put, qa, qb, qc, qD, qE, qF]
    refine qHr 9 rfl (fun K hK => ?_)
    try simp only [Act.put, qa, qb, qc, qD, qE, qF]
    replace b20 := X1.cell b20
    replace f_b20 := X1.frz z_b2 f_b20
    replace b21 := X1.cell b21
    replace f_b21 := X1.frz z_b2 f_b21
    replace b22 := X1.cell b22
    replace f_b22 := X1.frz z_b2 f_b22
    go_simp
    have zz := X1.size
    have K1 : Chg (w.heap.size + 1) (w.heap.size + 1 + 1) w1_6 (((w1_6.setCell ⟨w.heap.size + 1, 0, none⟩ (.int .i64 b1)).setCell ⟨w.heap.size + 1, 1, none⟩ (.slice (some ⟨g1_4, 0, none⟩) s1.length r1_5)).setCell ⟨w.heap.size + 1, 2, none⟩ (.slice (some ⟨g1_9, 0, none⟩) t1.length r1_10)) := (Chg.setCell (p := ⟨w.heap.size + 1, 2, none⟩) (Chg.setCell (p := ⟨w.heap.size + 1, 1, none⟩) (Chg.setCell (p := ⟨w.heap.size + 1, 0, none⟩) (Chg.refl (w.heap.size + 1) ((w.heap.size + 1) + 1) w1_6) (Nat.le_refl _) (Nat.lt_succ_self _) _) (Nat.le_refl _) (Nat.lt_succ_self _) _) (Nat.le_refl _) (Nat.lt_succ_self _) _)
    have n_b20 : (((w1_6.setCell ⟨w.heap.size + 1, 0, none⟩ (.int .i64 b1)).setCell ⟨w.heap.size + 1, 1, none⟩ (.slice (some ⟨g1_4, 0, none⟩) s1.length r1_5)).setCell ⟨w.heap.size + 1, 2, none⟩ (.slice (some ⟨g1_9, 0, none⟩) t1.length r1_10)).cell? ⟨w.heap.size + 1, 0, none⟩ = some (.int .i64 b1) := by go_simp
    replace f_b20 : (((w1_6.setCell ⟨w.heap.size + 1, 0, none⟩ (.int .i64 b1)).setCell ⟨w.heap.size + 1, 1, none⟩ (.slice (some ⟨g1_4, 0, none⟩) s1.length r1_5)).setCell ⟨w.heap.size + 1, 2, none⟩ (.slice (some ⟨g1_9, 0, none⟩) t1.length r1_10)).frozen? ⟨w.heap.size + 1, 0, none⟩ = false := by go_simp
    have n_b21 : (((w1_6.setCell ⟨w.heap.size + 1, 0, none⟩ (.int .i64 b1)).setCell ⟨w.heap.size + 1, 1, none⟩ (.slice (some ⟨g1_4, 0, none⟩) s1.length r1_5)).setCell ⟨w.heap.size + 1, 2, none⟩ (.slice (some ⟨g1_9, 0, none⟩) t1.length r1_10)).cell? ⟨w.heap.size + 1, 1, none⟩ = some (.slice (some ⟨g1_4, 0, none⟩) s1.length r1_5) := by go_simp
    replace f_b21 : (((w1_6.setCell ⟨w.heap.size + 1, 0, none⟩ (.int .i64 b1)).setCell ⟨w.heap.size + 1, 1, none⟩ (.slice (some ⟨g1_4, 0, none⟩) s1.length r1_5)).setCell ⟨w.heap.size + 1, 2, none⟩ (.slice (some ⟨g1_9, 0, none⟩) t1.length r1_10)).frozen? ⟨w.heap.size + 1, 1, none⟩ = false := by go_simp
    have n_b22 : (((w1_6.setCell ⟨w.heap.size + 1, 0, none⟩ (.int .i64 b1)).setCell ⟨w.heap.size + 1, 1, none⟩ (.slice (some ⟨g1_4, 0, none⟩) s1.length r1_5)).setCell ⟨w.heap.size + 1, 2, none⟩ (.slice (some ⟨g1_9, 0, none⟩) t1.length r1_10)).cell? ⟨w.heap.size + 1, 2, none⟩ = some (.slice (some ⟨g1_9, 0, none⟩) t1.length r1_10) := by go_simp
    replace f_b22 : (((w1_6.setCell ⟨w.heap.size + 1, 0, none⟩ (.int .i64 b1)).setCell ⟨w.heap.size + 1, 1, none⟩ (.slice (some ⟨g1_4, 0, none⟩) s1.length r1_5)).setCell ⟨w.heap.size + 1, 2, none⟩ (.slice (some ⟨g1_9, 0, none⟩) t1.length r1_10)).frozen? ⟨w.heap.size + 1, 2, none⟩ = false := by go_simp
    replace O1_3 := (O1_3.ext Yw1_1).chgN K1 (by omega)
    replace O1_8 := (O1_8.ext Yw1_6).chgN K1 (by omega)
    have C1 : Chg (w.heap.size + 1) (w.heap.size + 1 + 1) w1 (((w1_6.setCell ⟨w.heap.size + 1, 0, none⟩ (.int .i64 b1)).setCell ⟨w.heap.size + 1, 1, none⟩ (.slice (some ⟨g1_4, 0, none⟩) s1.length r1_5)).setCell ⟨w.heap.size + 1, 2, none⟩ (.slice (some ⟨g1_9, 0, none⟩) t1.length r1_10)) := (Chg.of_ext X1).trans K1
    clear zz K1
    have S_st : w1_6.heap.size ≤ (((w1_6.setCell ⟨w.heap.size + 1, 0, none⟩ (.int .i64 b1)).setCell ⟨w.heap.size + 1, 1, none⟩ (.slice (some ⟨g1_4, 0, none⟩) s1.length r1_5)).setCell ⟨w.heap.size + 1, 2, none⟩ (.slice (some ⟨g1_9, 0, none⟩) t1.length r1_10)).heap.size := by simp
    refine hK.out _ ((((w1_6.setCell ⟨w.heap.size + 1, 0, none⟩ (.int .i64 b1)).setCell ⟨w.heap.size + 1, 1, none⟩ (.slice (some ⟨g1_4, 0, none⟩) s1.length r1_5)).setCell ⟨w.heap.size + 1, 2, none⟩ (.slice (some ⟨g1_9, 0, none⟩) t1.length r1_10))) ⟨C1.cell (by omega) b10, C1.cell (by omega) b11, C1.cell (by omega) b12⟩ (fun hHeld => ?_)
    clear hK K
    try simp only [Act.put, qa, qb, qc, qD, qE, qF]
    refine wpAnyH_done qKr ?_ _
    clear hHeld
    have zz := X1.size
    go_step
    go_step
    go_meet
    case rel => exact ⟨g1_4, r1_5, g1_9, r1_10, C1, (by omega), (by omega), (by omega), (by omega), (by omega), (O1_3).lower (by omega), (O1_8).lower (by omega), n_b20, f_b20, n_b21, f_b21, n_b22, f_b22⟩
  case rest =>
    generalize wc = wc5 at hcut ⊢
    obtain ⟨g7, r8, g9, r10, xx6, Gg7, Hg7, Gg9, Hg9, Dg7g9, O11, O12, N_b20, M_b20, N_b21, M_b21, N_b22, M_b22⟩ := hcut
    have zc_wc5 := xx6.size
    have Xwc5 : Ext w wc5 := Ext.chg Xw1 xx6 (by omega)
    replace b10 := xx6.cell (by omega) b10
    replace b11 := xx6.cell (by omega) b11
    replace b12 := xx6.cell (by omega) b12
    replace b20 := N_b20
    clear N_b20
    replace f_b20 := M_b20
    clear M_b20
    replace b21 := N_b21
    clear N_b21
    replace f_b21 := M_b21
    clear M_b21
    replace b22 := N_b22
    clear N_b22
    replace f_b22 := M_b22
    clear M_b22
    have z_b1 : w.heap.size < wc5.heap.size := qB b10
    have z_b2 : w.heap.size + 1 < wc5.heap.size := qB b20
    have s_wc5 : w.heap.size ≤ wc5.heap.size := Xwc5.size
    clear xx6
    go_wp2_with fail
    refine bodyPost_ret (v := .agg #[.int .i64 b1, .slice (some ⟨g7, 0, none⟩) s1.length r8, .slice (some ⟨g9, 0, none⟩) t1.length r10]) (by simp only [results, Tryd.results51]; go_simp) rfl ?_
    exact ⟨g7, g9, _, _, rfl, O11.lower (by omega), O12.lower (by omega), by omega, by omega, by omega, by omega, by omega, (Xwc5.trans qXt)⟩


end Go.Proofs.YtgklaobfikbiiaaDoor

/- Walks: copies of buffers. -/
namespace Go.Proofs.YtgklaobfikbiiaaDoor
open Go.RowKit
set_option linter.unusedVariables false
set_option maxRecDepth 100000

set_option maxHeartbeats 3200000 in
theorem specCopyBuffer_c (cells : List Int) (es : List Exp) (cv ev : Value) (w : World) (l1 l2 : Nat) (h1 : Ints w l1 cv cells) (h2 : Exps w l2 ev es) :
  Calls Tryd.prog 39 #[.agg #[cv, ev]] w (PBuf w cells es) := by
 obtain ⟨p0, c0, rfl⟩ := h1.form
 obtain ⟨p1, c1, rfl⟩ := h2.form
 have he1 := h2.len
 have hc1 := h1.len
 go_enter Tryd.func39, Tryd.ntmps39
 go_upto_region 1 with fail
 generalize hW7 : (w.alloc (.cells #[.slice p0 cells.length c0, .slice p1 es.length c1] 34)).alloc (.cells #[.slice none 0 0, .slice none 0 0] 34) = w1 at *
 have Lw1 : Ext w w1 := by subst hW7; exact qXt
 have Xw1 : Ext w w1 := by subst hW7; exact Lw1
 have b10 : w1.cell? ⟨w.heap.size, 0, none⟩ = some (.slice p0 cells.length c0) := by subst hW7; exact qCl
 have b11 : w1.cell? ⟨w.heap.size, 1, none⟩ = some (.slice p1 es.length c1) := by subst hW7; exact qCl
 have b20 : w1.cell? ⟨w.heap.size + 1, 0, none⟩ = some (.slice none 0 0) := by subst hW7; exact qCl
 have b21 : w1.cell? ⟨w.heap.size + 1, 1, none⟩ = some (.slice none 0 0) := by subst hW7; exact qCl
 have f_b20 : w1.frozen? ⟨w.heap.size + 1, 0, none⟩ = false := by subst hW7; exact qFz
 have f_b21 : w1.frozen? ⟨w.heap.size + 1, 1, none⟩ = false := by subst hW7; exact qFz
 have z_b1 : w.heap.size < w1.heap.size := qB b10
 have z_b2 : w.heap.size + 1 < w1.heap.size := qB b20
 have s_w1 : w.heap.size ≤ w1.heap.size := Xw1.size
 clear hW7
 go_wp2_with fail
 have Q6_b10 := Lib.hid b10
 have Q6_b11 := Lib.hid b11
 have Q6_zb1 := z_b1
 have Q6_b20 := Lib.hid b20
 have Q6_f_b20 := Lib.hid f_b20
 have Q6_b21 := Lib.hid b21
 have Q6_f_b21 := Lib.hid f_b21
 have Q6_zb2 := z_b2
 have BL7 : Ext w1 w1 := Ext.refl _
 refine (copyIntsC_c (.slice p0 cells.length c0) cells _ _ (h1.ext (Xw1.trans qXt))).mono ?_
 rintro e w2 ⟨gr4, rr5, rfl, O3, Ggr4, Ggr4', czgr4, xw2⟩
 have Lw2 : Ext w1 w2 := Ext.trans qXt xw2
 have Xw2 : Ext w w2 := Xw1.trans Lw2
 replace b10 := Lw2.cell b10
 replace b11 := Lw2.cell b11
 replace b20 := Lw2.cell b20
 replace b21 := Lw2.cell b21
 replace f_b20 := Lw2.frz z_b2 f_b20
 replace f_b21 := Lw2.frz z_b2 f_b21
 have z_b1 : w.heap.size < w2.heap.size := qB b10
 have z_b2 : w.heap.size + 1 < w2.heap.size := qB b20
 have s_w2 : w.heap.size ≤ w2.heap.size := Xw2.size
 have BL7_w2 : Ext w1 w2 := BL7.trans Lw2
 clear xw2
 have Q8_b10 := Lib.hid b10
 have Q8_b11 := Lib.hid b11
 have Q8_zb1 := z_b1
 have Q8_b20 := Lib.hid b20
 have Q8_f_b20 := Lib.hid f_b20
 have Q8_b21 := Lib.hid b21
 have Q8_f_b21 := Lib.hid f_b21
 have Q8_zb2 := z_b2
 have Q8_O3 := Lib.hid O3
 have BL9 : Ext w2 w2 := Ext.refl _
 go_wp2_with fail
 generalize hW8 : w2.alloc (.cells #[.slice (some ⟨gr4, 0, none⟩) cells.length rr5, .slice none 0 0] 34) = w3 at *
 have Lw3 : Ext w2 w3 := by subst hW8; exact qXt
 have Xw3 : Ext w w3 := Xw2.trans Lw3
 replace b10 := Lw3.cell b10
 replace b11 := Lw3.cell b11
 replace b20 := Lw3.cell b20
 replace b21 := Lw3.cell b21
 replace f_b20 := Lw3.frz z_b2 f_b20
 replace f_b21 := Lw3.frz z_b2 f_b21
 have b100 : w3.cell? ⟨w2.heap.size, 0, none⟩ = some (.slice (some ⟨gr4, 0, none⟩) cells.length rr5) := by subst hW8; exact qCl
 have b101 : w3.cell? ⟨w2.heap.size, 1, none⟩ = some (.slice none 0 0) := by subst hW8; exact qCl
 have f_b100 : w3.frozen? ⟨w2.heap.size, 0, none⟩ = false := by subst hW8; exact qFz
 have f_b101 : w3.frozen? ⟨w2.heap.size, 1, none⟩ = false := by subst hW8; exact qFz
 have z_b1 : w.heap.size < w3.heap.size := qB b10
 have z_b2 : w.heap.size + 1 < w3.heap.size := qB b20
 have z_b10 : w2.heap.size < w3.heap.size := qB b100
 replace O3 := O3.ext Lw3
 have s_w3 : w.heap.size ≤ w3.heap.size := Xw3.size
 have BL7_w3 : Ext w1 w3 := BL7_w2.trans Lw3
 have BL9_w3 : Ext w2 w3 := BL9.trans Lw3
 have q_w3 : w3.heap.size ≤ w2.heap.size + 1 := by subst hW8; simp
 clear hW8
 have yE_b1 := z_b1
 have yE_b2 := z_b2
 have yE_b10 := z_b10
 go_loopw [4] (fun i wr => ∃ (k : Nat) (gv : Value) (R : Nat → Value), k ≤ es.length ∧ i = .int .i64 k ∧ ExpR wr w3.heap.size gv (es.take k) R ∧ Ext w wr ∧ OwnI wr w.heap.size (.slice (some ⟨gr4, 0, none⟩) cells.length rr5) cells ∧ wr.cell? ⟨w.heap.size, 0, none⟩ = some (.slice p0 cells.length c0) ∧ wr.cell? ⟨w.heap.size, 1, none⟩ = some (.slice p1 es.length c1) ∧ wr.cell? ⟨w.heap.size + 1, 0, none⟩ = some (.slice none 0 0) ∧ wr.cell? ⟨w.heap.size + 1, 1, none⟩ = some (.slice none 0 0) ∧ wr.frozen? ⟨w.heap.size + 1, 0, none⟩ = false ∧ wr.frozen? ⟨w.heap.size + 1, 1, none⟩ = false ∧ wr.cell? ⟨w2.heap.size, 0, none⟩ = some (.slice (some ⟨gr4, 0, none⟩) cells.length rr5) ∧ wr.cell? ⟨w2.heap.size, 1, none⟩ = some (gv) ∧ wr.frozen? ⟨w2.heap.size, 0, none⟩ = false ∧ wr.frozen? ⟨w2.heap.size, 1, none⟩ = false) (fun i _ => es.length - (intOf i).toNat)
 case atStart => exact ⟨0, _, fun _ => .slice none 0 0, Nat.zero_le _, rfl, ExpR.nil _ _ _, (Xw3.trans qXt), O3.lower (by omega), b10, b11, b20, b21, f_b20, f_b21, b100, b101, f_b100, f_b101⟩
 case round =>
  clear O3
  obtain ⟨k, gv, R, hk, rfl, hE, Xr, O3, b10, b11, b20, b21, f_b20, f_b21, b100, b101, f_b100, f_b101⟩ := hrel
  have z_b1 : w.heap.size < wr.heap.size := qB b10
  have z_b2 : w.heap.size + 1 < wr.heap.size := qB b20
  have z_b10 : w2.heap.size < wr.heap.size := qB b100
  obtain ⟨ga, gc, hgv⟩ := hE.len
  rw [List.length_take, Nat.min_eq_left hk] at hgv
  subst hgv
  have s_wr : w.heap.size ≤ wr.heap.size := Xr.size
  have hBr : w3.heap.size ≤ wr.heap.size := by omega
  by_cases hlt : k < es.length
  ·
   have hkI : (k : Int) < es.length := by omega
   have hN_x11 : k < es.length := (by omega)
   have hI_x11 : (k : Int) < (es.length : Int) := by omega
   obtain ⟨bl24, ol25, u18, c19, u20, c21, rfl, x110, x111, x112, x113, x114, i22, i23⟩ := (h2.ext Xr).at k hN_x11
   obtain ⟨X17, hX17⟩ : ∃ x, expAt es k = x := ⟨_, rfl⟩
   rw [hX17] at x110 x111 x112 x113 x114 i22 i23
   obtain ⟨P12, B13, S14, T15, O16⟩ := X17
   dsimp only at x110 x111 x112 x113 x114 i22 i23
   replace hX17 := Lib.hid hX17
   have hLS14 := i22.len
   have hLT15 := i23.len
   have z_x11 : bl24 < wr.heap.size := qB x110
   have Q26_b10 := Lib.hid b10
   have Q26_b11 := Lib.hid b11
   have Q26_zb1 := z_b1
   have Q26_b20 := Lib.hid b20
   have Q26_f_b20 := Lib.hid f_b20
   have Q26_b21 := Lib.hid b21
   have Q26_f_b21 := Lib.hid f_b21
   have Q26_zb2 := z_b2
   have Q26_b100 := Lib.hid b100
   have Q26_f_b100 := Lib.hid f_b100
   have Q26_b101 := Lib.hid b101
   have Q26_f_b101 := Lib.hid f_b101
   have Q26_zb10 := z_b10
   have Q26_x110 := Lib.hid x110
   have Q26_x111 := Lib.hid x111
   have Q26_x112 := Lib.hid x112
   have Q26_x113 := Lib.hid x113
   have Q26_x114 := Lib.hid x114
   have Q26_zx11 := z_x11
   have Q26_hE := Lib.hid hE
   have Q26_O3 := Lib.hid O3
   have Q26_i22 := Lib.hid i22
   have Q26_i23 := Lib.hid i23
   have BL27 : Ext wr wr := Ext.refl _
   go_upto_region 6 with fail
   generalize hW9 : wr.alloc (.cells #[.int .i64 P12, .int .i64 B13, .slice u18 S14.length c19, .slice u20 T15.length c21, .bool O16] 56) = w4 at *
   have Lw4 : Ext wr w4 := by subst hW9; exact qXt
   have Xw4 : Ext w w4 := Xr.trans Lw4
   replace b10 := Lw4.cell b10
   replace b11 := Lw4.cell b11
   replace b20 := Lw4.cell b20
   replace b21 := Lw4.cell b21
   replace f_b20 := Lw4.frz z_b2 f_b20
   replace f_b21 := Lw4.frz z_b2 f_b21
   replace b100 := Lw4.cell b100
   replace b101 := Lw4.cell b101
   replace f_b100 := Lw4.frz z_b10 f_b100
   replace f_b101 := Lw4.frz z_b10 f_b101
   replace x110 := Lw4.cell x110
   replace x111 := Lw4.cell x111
   replace x112 := Lw4.cell x112
   replace x113 := Lw4.cell x113
   replace x114 := Lw4.cell x114
   have b280 : w4.cell? ⟨wr.heap.size, 0, none⟩ = some (.int .i64 P12) := by subst hW9; exact qCl
   have b281 : w4.cell? ⟨wr.heap.size, 1, none⟩ = some (.int .i64 B13) := by subst hW9; exact qCl
   have b282 : w4.cell? ⟨wr.heap.size, 2, none⟩ = some (.slice u18 S14.length c19) := by subst hW9; exact qCl
   have b283 : w4.cell? ⟨wr.heap.size, 3, none⟩ = some (.slice u20 T15.length c21) := by subst hW9; exact qCl
   have b284 : w4.cell? ⟨wr.heap.size, 4, none⟩ = some (.bool O16) := by subst hW9; exact qCl
   have f_b280 : w4.frozen? ⟨wr.heap.size, 0, none⟩ = false := by subst hW9; exact qFz
   have f_b281 : w4.frozen? ⟨wr.heap.size, 1, none⟩ = false := by subst hW9; exact qFz
   have f_b282 : w4.frozen? ⟨wr.heap.size, 2, none⟩ = false := by subst hW9; exact qFz
   have f_b283 : w4.frozen? ⟨wr.heap.size, 3, none⟩ = false := by subst hW9; exact qFz
   have f_b284 : w4.frozen? ⟨wr.heap.size, 4, none⟩ = false := by subst hW9; exact qFz
   have z_b1 : w.heap.size < w4.heap.size := qB b10
   have z_b2 : w.heap.size + 1 < w4.heap.size := qB b20
   have z_b10 : w2.heap.size < w4.heap.size := qB b100
   have z_x11 : bl24 < w4.heap.size := qB x110
   have z_b28 : wr.heap.size < w4.heap.size := qB b280
   replace hE := hE.ext Lw4
   replace O3 := O3.ext Lw4
   replace i22 := i22.ext Lw4
   replace i23 := i23.ext Lw4
   have s_w4 : w.heap.size ≤ w4.heap.size := Xw4.size
   have BL27_w4 : Ext wr w4 := BL27.trans Lw4
   clear hW9
   go_wp2_with fail
   have Q35_b10 := Lib.hid b10
   have Q35_b11 := Lib.hid b11
   have Q35_zb1 := z_b1
   have Q35_b20 := Lib.hid b20
   have Q35_f_b20 := Lib.hid f_b20
   have Q35_b21 := Lib.hid b21
   have Q35_f_b21 := Lib.hid f_b21
   have Q35_zb2 := z_b2
   have Q35_b100 := Lib.hid b100
   have Q35_f_b100 := Lib.hid f_b100
   have Q35_b101 := Lib.hid b101
   have Q35_f_b101 := Lib.hid f_b101
   have Q35_zb10 := z_b10
   have Q35_x110 := Lib.hid x110
   have Q35_x111 := Lib.hid x111
   have Q35_x112 := Lib.hid x112
   have Q35_x113 := Lib.hid x113
   have Q35_x114 := Lib.hid x114
   have Q35_zx11 := z_x11
   have Q35_b280 := Lib.hid b280
   have Q35_f_b280 := Lib.hid f_b280
   have Q35_b281 := Lib.hid b281
   have Q35_f_b281 := Lib.hid f_b281
   have Q35_b282 := Lib.hid b282
   have Q35_f_b282 := Lib.hid f_b282
   have Q35_b283 := Lib.hid b283
   have Q35_f_b283 := Lib.hid f_b283
   have Q35_b284 := Lib.hid b284
   have Q35_f_b284 := Lib.hid f_b284
   have Q35_zb28 := z_b28
   have Q35_hE := Lib.hid hE
   have Q35_O3 := Lib.hid O3
   have Q35_i22 := Lib.hid i22
   have Q35_i23 := Lib.hid i23
   have BL36 : Ext w4 w4 := Ext.refl _
   refine (scopyViewO_c B13 (.slice u18 S14.length c19) (.slice u20 T15.length c21) S14 T15 _ _ _ (i22.ext qXt) (i23.ext qXt)).mono ?_
   rintro e w5 ⟨gr29, gr30, rr31, rr32, rfl, O33, O34, Ggr29, Ggr29', Ggr30, Ggr30', hggr29, xw5⟩
   have Lw5 : Ext w4 w5 := Ext.trans qXt xw5
   have Xw5 : Ext w w5 := Xw4.trans Lw5
   replace b10 := Lw5.cell b10
   replace b11 := Lw5.cell b11
   replace b20 := Lw5.cell b20
   replace b21 := Lw5.cell b21
   replace f_b20 := Lw5.frz z_b2 f_b20
   replace f_b21 := Lw5.frz z_b2 f_b21
   replace b100 := Lw5.cell b100
   replace b101 := Lw5.cell b101
   replace f_b100 := Lw5.frz z_b10 f_b100
   replace f_b101 := Lw5.frz z_b10 f_b101
   replace x110 := Lw5.cell x110
   replace x111 := Lw5.cell x111
   replace x112 := Lw5.cell x112
   replace x113 := Lw5.cell x113
   replace x114 := Lw5.cell x114
   replace b280 := Lw5.cell b280
   replace b281 := Lw5.cell b281
   replace b282 := Lw5.cell b282
   replace b283 := Lw5.cell b283
   replace b284 := Lw5.cell b284
   replace f_b280 := Lw5.frz z_b28 f_b280
   replace f_b281 := Lw5.frz z_b28 f_b281
   replace f_b282 := Lw5.frz z_b28 f_b282
   replace f_b283 := Lw5.frz z_b28 f_b283
   replace f_b284 := Lw5.frz z_b28 f_b284
   have z_b1 : w.heap.size < w5.heap.size := qB b10
   have z_b2 : w.heap.size + 1 < w5.heap.size := qB b20
   have z_b10 : w2.heap.size < w5.heap.size := qB b100
   have z_x11 : bl24 < w5.heap.size := qB x110
   have z_b28 : wr.heap.size < w5.heap.size := qB b280
   replace hE := hE.ext Lw5
   replace O3 := O3.ext Lw5
   replace i22 := i22.ext Lw5
   replace i23 := i23.ext Lw5
   have s_w5 : w.heap.size ≤ w5.heap.size := Xw5.size
   have BL27_w5 : Ext wr w5 := BL27_w4.trans Lw5
   have BL36_w5 : Ext w4 w5 := BL36.trans Lw5
   clear xw5
   go_upto_region 7 with fail
   generalize hW10 : (((w5.setCell ⟨wr.heap.size, 1, none⟩ (.int .i64 B13)).setCell ⟨wr.heap.size, 2, none⟩ (.slice (some ⟨gr29, 0, none⟩) S14.length rr31)).setCell ⟨wr.heap.size, 3, none⟩ (.slice (some ⟨gr30, 0, none⟩) T15.length rr32)) = w6 at *
   have Kw6 : Chg (wr.heap.size) (wr.heap.size + 1) w5 w6 := by subst hW10; exact qCh
   have Xw6 : Ext w w6 := by subst hW10; exact qXt
   have BL27_w6 : Ext wr w6 := by subst hW10; exact qXt
   replace b10 := BL27_w6.cell Q26_b10.out
   replace b11 := BL27_w6.cell Q26_b11.out
   replace b20 := BL27_w6.cell Q26_b20.out
   replace f_b20 := BL27_w6.frz Q26_zb2 Q26_f_b20.out
   replace b21 := BL27_w6.cell Q26_b21.out
   replace f_b21 := BL27_w6.frz Q26_zb2 Q26_f_b21.out
   replace b100 := BL27_w6.cell Q26_b100.out
   replace f_b100 := BL27_w6.frz Q26_zb10 Q26_f_b100.out
   replace b101 := BL27_w6.cell Q26_b101.out
   replace f_b101 := BL27_w6.frz Q26_zb10 Q26_f_b101.out
   replace x110 := BL27_w6.cell Q26_x110.out
   replace x111 := BL27_w6.cell Q26_x111.out
   replace x112 := BL27_w6.cell Q26_x112.out
   replace x113 := BL27_w6.cell Q26_x113.out
   replace x114 := BL27_w6.cell Q26_x114.out
   replace b280 : w6.cell? ⟨wr.heap.size, 0, none⟩ = some (.int .i64 P12) := by subst hW10; go_simp
   replace f_b280 : w6.frozen? ⟨wr.heap.size, 0, none⟩ = false := by subst hW10; first | (simp only [World.frozen?_setCell]; with_reducible assumption) | go_simp
   replace b281 : w6.cell? ⟨wr.heap.size, 1, none⟩ = some (.int .i64 B13) := by subst hW10; go_simp
   replace f_b281 : w6.frozen? ⟨wr.heap.size, 1, none⟩ = false := by subst hW10; first | (simp only [World.frozen?_setCell]; with_reducible assumption) | go_simp
   replace b282 : w6.cell? ⟨wr.heap.size, 2, none⟩ = some (.slice (some ⟨gr29, 0, none⟩) S14.length rr31) := by subst hW10; go_simp
   replace f_b282 : w6.frozen? ⟨wr.heap.size, 2, none⟩ = false := by subst hW10; first | (simp only [World.frozen?_setCell]; with_reducible assumption) | go_simp
   replace b283 : w6.cell? ⟨wr.heap.size, 3, none⟩ = some (.slice (some ⟨gr30, 0, none⟩) T15.length rr32) := by subst hW10; go_simp
   replace f_b283 : w6.frozen? ⟨wr.heap.size, 3, none⟩ = false := by subst hW10; first | (simp only [World.frozen?_setCell]; with_reducible assumption) | go_simp
   replace b284 : w6.cell? ⟨wr.heap.size, 4, none⟩ = some (.bool O16) := by subst hW10; go_simp
   replace f_b284 : w6.frozen? ⟨wr.heap.size, 4, none⟩ = false := by subst hW10; first | (simp only [World.frozen?_setCell]; with_reducible assumption) | go_simp
   replace hE := (Q26_hE.out).ext BL27_w6
   replace O3 := O3.chgN Kw6 (by omega)
   replace i22 := (Q26_i22.out).ext BL27_w6
   replace i23 := (Q26_i23.out).ext BL27_w6
   replace O33 := O33.chgN Kw6 (by omega)
   replace O34 := O34.chgN Kw6 (by omega)
   clear Kw6
   have z_b1 : w.heap.size < w6.heap.size := qB b10
   have z_b2 : w.heap.size + 1 < w6.heap.size := qB b20
   have z_b10 : w2.heap.size < w6.heap.size := qB b100
   have z_x11 : bl24 < w6.heap.size := qB x110
   have z_b28 : wr.heap.size < w6.heap.size := qB b280
   have s_w6 : w.heap.size ≤ w6.heap.size := Xw6.size
   clear hW10
   have zBL := (BL27_w6).size
   have EE : Ext w6 (w6.alloc (.cells #[.int .i64 P12, .int .i64 B13, .slice (some ⟨gr29, 0, none⟩) S14.length rr31, .slice (some ⟨gr30, 0, none⟩) T15.length rr32, .bool O16] TEXPORT)) := qXt
   have SS : SrcR (w6.alloc (.cells #[.int .i64 P12, .int .i64 B13, .slice (some ⟨gr29, 0, none⟩) S14.length rr31, .slice (some ⟨gr30, 0, none⟩) T15.length rr32, .bool O16] TEXPORT)) 5 (.slice (some ⟨w6.heap.size, 0, none⟩) 1 1) 1 [.int .i64 P12, .int .i64 B13, .slice (some ⟨gr29, 0, none⟩) S14.length rr31, .slice (some ⟨gr30, 0, none⟩) T15.length rr32, .bool O16] := src_one w6 _ rfl (by intro u hu; simp only [List.mem_cons, List.not_mem_nil, or_false] at hu; rcases hu with rfl | rfl | rfl | rfl | rfl <;> rfl)
   go_wp2_with (
    at_builtin
    refine wpList_appC Tryd.underlying32 infoExp rfl (by decide) rfl (.tmp 27) (.tmp 29) rfl rfl rfl (hE.row.ext EE) SS (by rw [cellsE_len]; simp; omega) (by rw [cellsE_len]; simp; omega) (by simp <;> omega) ?_
    intro vw7 w7 ho hgr hbl hv
    have hS : ExpR w7 (w3.heap.size) vw7 ((es.take k) ++ [⟨P12, B13, S14, T15, O16⟩]) (extR R (es.take k).length (.slice (some ⟨gr29, 0, none⟩) S14.length rr31) (.slice (some ⟨gr30, 0, none⟩) T15.length rr32)) := ExpR.snoc Q26_hE.out (Ext.trans BL27_w6 EE) ((O33.ext EE).lower (by omega)).z ((O34.ext EE).lower (by omega)).z (by dsimp only; omega) (by dsimp only; omega) (fun _ _ h => by have h9 : gr29 = gr30 := Option.some.inj h; omega) (fun _ g h => by have h9 : gr29 = g := Option.some.inj h; omega) (fun _ g h => by have h9 : gr30 = g := Option.some.inj h; omega) ho hgr hv
    obtain ⟨pa37, pc38, hpv⟩ := hS.len
    rw [List.length_append, List.length_singleton, List.length_take, Nat.min_eq_left hk] at hpv
    subst hpv
    have Xw7 : Ext w w7 := Ext.below (Xw6.trans EE) hbl (by omega)
    clear x110 x111 x112 x113 x114
    clear b280 b281 b282 b283 b284 f_b280 f_b281 f_b282 f_b283 f_b284
    replace b10 := below_cell hbl (by omega) (EE.cell b10)
    replace b11 := below_cell hbl (by omega) (EE.cell b11)
    replace b20 := below_cell hbl (by omega) (EE.cell b20)
    replace f_b20 := below_frz hbl (by omega) (EE.frz z_b2 f_b20)
    replace b21 := below_cell hbl (by omega) (EE.cell b21)
    replace f_b21 := below_frz hbl (by omega) (EE.frz z_b2 f_b21)
    replace b100 := below_cell hbl (by omega) (EE.cell b100)
    replace f_b100 := below_frz hbl (by omega) (EE.frz z_b10 f_b100)
    replace b101 := below_cell hbl (by omega) (EE.cell b101)
    replace f_b101 := below_frz hbl (by omega) (EE.frz z_b10 f_b101)
    have z_b1 : w.heap.size < w7.heap.size := qB b10
    have z_b2 : w.heap.size + 1 < w7.heap.size := qB b20
    have z_b10 : w2.heap.size < w7.heap.size := qB b100
    replace O3 := (O3.ext EE).chgN (Below.chg hbl) (.inl (by omega))
    clear i22
    clear i23
    clear O33
    clear O34
    clear hE
    have hE := hS
    have hzb := hbl.size
    simp only [World.size_alloc] at hzb
    clear ho hbl EE SS hgr hv hS zBL
    have s_w7 : w.heap.size ≤ w7.heap.size := Xw7.size)
   go_wp2_with fail
   generalize hW11 : (w7.setCell ⟨w2.heap.size, 1, none⟩ (.slice pa37 (k + 1) pc38)) = w8 at *
   have Kw8 : Chg (w2.heap.size) (w2.heap.size + 1) w7 w8 := by subst hW11; exact qCh
   have Xw8 : Ext w w8 := by subst hW11; exact qXt
   replace b10 := Kw8.cell (by omega) b10
   replace b11 := Kw8.cell (by omega) b11
   replace b20 := Kw8.cell (by omega) b20
   replace f_b20 := Kw8.frzO (by omega) z_b2 f_b20
   replace b21 := Kw8.cell (by omega) b21
   replace f_b21 := Kw8.frzO (by omega) z_b2 f_b21
   replace b100 : w8.cell? ⟨w2.heap.size, 0, none⟩ = some (.slice (some ⟨gr4, 0, none⟩) cells.length rr5) := by subst hW11; go_simp
   replace f_b100 : w8.frozen? ⟨w2.heap.size, 0, none⟩ = false := by subst hW11; first | (simp only [World.frozen?_setCell]; with_reducible assumption) | go_simp
   replace b101 : w8.cell? ⟨w2.heap.size, 1, none⟩ = some (.slice pa37 (k + 1) pc38) := by subst hW11; go_simp
   replace f_b101 : w8.frozen? ⟨w2.heap.size, 1, none⟩ = false := by subst hW11; first | (simp only [World.frozen?_setCell]; with_reducible assumption) | go_simp
   replace hE := hE.chg Kw8 (by omega)
   replace O3 := O3.chgN Kw8 (by omega)
   clear Kw8
   have z_b1 : w.heap.size < w8.heap.size := qB b10
   have z_b2 : w.heap.size + 1 < w8.heap.size := qB b20
   have z_b10 : w2.heap.size < w8.heap.size := qB b100
   have s_w8 : w.heap.size ≤ w8.heap.size := Xw8.size
   clear hW11
   go_roundw
   case rel => exact ⟨k + 1, _, _, by omega, by go_num, (by rw [take_expAt hlt, hX17.out]; exact hE), Xw8, O3, b10, b11, b20, b21, f_b20, f_b21, b100, b101, f_b100, f_b101⟩
   case measure => simp [intOf]; omega
  ·
   obtain rfl : k = es.length := by omega
   have hkI : ¬ (es.length : Int) < es.length := by omega
   go_wp2_with fail
   generalize hW12 : ((wr.setCell ⟨w.heap.size + 1, 0, none⟩ (.slice (some ⟨gr4, 0, none⟩) cells.length rr5)).setCell ⟨w.heap.size + 1, 1, none⟩ (.slice ga es.length gc)) = w4 at *
   have Kw4 : Chg (w.heap.size + 1) (w.heap.size + 1 + 1) wr w4 := by subst hW12; exact qCh
   have Xw4 : Ext w w4 := by subst hW12; exact qXt
   replace b10 := Kw4.cell (by omega) b10
   replace b11 := Kw4.cell (by omega) b11
   replace b20 : w4.cell? ⟨w.heap.size + 1, 0, none⟩ = some (.slice (some ⟨gr4, 0, none⟩) cells.length rr5) := by subst hW12; go_simp
   replace f_b20 : w4.frozen? ⟨w.heap.size + 1, 0, none⟩ = false := by subst hW12; first | (simp only [World.frozen?_setCell]; with_reducible assumption) | go_simp
   replace b21 : w4.cell? ⟨w.heap.size + 1, 1, none⟩ = some (.slice ga es.length gc) := by subst hW12; go_simp
   replace f_b21 : w4.frozen? ⟨w.heap.size + 1, 1, none⟩ = false := by subst hW12; first | (simp only [World.frozen?_setCell]; with_reducible assumption) | go_simp
   replace b100 := Kw4.cell (by omega) b100
   replace f_b100 := Kw4.frzO (by omega) z_b10 f_b100
   replace b101 := Kw4.cell (by omega) b101
   replace f_b101 := Kw4.frzO (by omega) z_b10 f_b101
   replace hE := hE.chg Kw4 (by omega)
   replace O3 := O3.chgN Kw4 (by omega)
   clear Kw4
   have z_b1 : w.heap.size < w4.heap.size := qB b10
   have z_b2 : w.heap.size + 1 < w4.heap.size := qB b20
   have z_b10 : w2.heap.size < w4.heap.size := qB b100
   have s_w4 : w.heap.size ≤ w4.heap.size := Xw4.size
   clear hW12
   refine bodyPost_ret (v := .agg #[.slice (some ⟨gr4, 0, none⟩) cells.length rr5, .slice ga es.length gc]) (by simp only [results, Tryd.results39]; go_simp) rfl ?_
   rw [List.take_of_length_le (Nat.le_refl _)] at hE
   refine ⟨.slice (some ⟨gr4, 0, none⟩) cells.length rr5, .slice ga es.length gc, R, rfl, ⟨(O3.lower (by omega)).z, hE.lower (by omega), hc1, he1, fun _ h => ?_, fun p hp hs _ h => ?_, CapZ.row czgr4 rfl rfl⟩, (Xw4.trans qXt)⟩
   ·
    have h8 := (hE.blk gr4 h.symm).1
    omega
   ·
    obtain ⟨g, hg, hg1, -⟩ := hE.nblk p hp hs
    rw [hg] at h
    have h9 : g = gr4 := Option.some.inj h
    omega


end Go.Proofs.YtgklaobfikbiiaaDoor

/- Walks of the laws' own helpers on buffers: sizes, conversions. -/
namespace Go.Proofs.YtgklaobfikbiiaaDoor
open Go.RowKit
set_option linter.unusedVariables false
set_option maxRecDepth 100000

/-- a slice of exports that came in -/
def RawE (w : World) (v : Value) (es : List Exp) : Prop :=
  ∃ a cap, v = .slice a es.length cap ∧ (a = none → cap = 0) ∧
    ∀ i, i < es.length → ∃ bl off u1 c1 u2 c2, a = some ⟨bl, off, none⟩ ∧
      w.cell? ⟨bl, off + i * 5, none⟩ = some (.int .i64 (expAt es i).par) ∧ w.cell? ⟨bl, off + i * 5 + 1, none⟩ = some (.int .i64 (expAt es i).b) ∧
      w.cell? ⟨bl, off + i * 5 + 2, none⟩ = some (.slice u1 (expAt es i).s.length c1) ∧ w.cell? ⟨bl, off + i * 5 + 3, none⟩ = some (.slice u2 (expAt es i).t.length c2) ∧
      w.cell? ⟨bl, off + i * 5 + 4, none⟩ = some (.bool (expAt es i).op) ∧ Raw w (.slice u1 (expAt es i).s.length c1) (expAt es i).s ∧ Raw w (.slice u2 (expAt es i).t.length c2) (expAt es i).t ∧
      (expAt es i).s.length ≤ maxLen ∧ (expAt es i).t.length ≤ maxLen
theorem RawE.ext {w w' : World} {v : Value} {es : List Exp} (h : RawE w v es) (hx : Ext w w') : RawE w' v es := by
  obtain ⟨a, cap, hv, h3, h4⟩ := h
  refine ⟨a, cap, hv, h3, fun i hi => ?_⟩
  obtain ⟨bl, off, u1, c1, u2, c2, ha, k0, k1, k2, k3, k4, i1, i2, m⟩ := h4 i hi
  exact ⟨bl, off, u1, c1, u2, c2, ha, hx.cell k0, hx.cell k1, hx.cell k2, hx.cell k3, hx.cell k4, i1.ext hx, i2.ext hx, m⟩
end Go.Proofs.YtgklaobfikbiiaaDoor

/- Walks of the laws' own helpers on buffers: conversions. -/
namespace Go.Proofs.YtgklaobfikbiiaaDoor
open Go.RowKit
set_option linter.unusedVariables false
set_option maxRecDepth 100000

theorem made_flat (zs : List Value) (sz : Nat) (hz : zs.length = sz) (hsz : 0 < sz) (n : Nat) : (madeCells zs.toArray (n * sz)).toList = (List.replicate n zs).flatten := by
  have hall : ∀ c ∈ List.replicate n zs, c.length = sz := fun c hc => by rw [List.eq_of_mem_replicate hc]; exact hz
  refine List.ext_getElem (by rw [flat_len hall]; simp [size_madeCells]) fun i h1 h2 => ?_
  have h : i < n * sz := by simpa [size_madeCells] using h1
  have e : i / sz * sz + i % sz = i := by rw [Nat.mul_comm]; exact Nat.div_add_mod i sz
  have h3 : i / sz < n := Nat.div_lt_of_lt_mul (by rw [Nat.mul_comm]; exact h)
  have h4 : i % sz < sz := Nat.mod_lt _ hsz
  have k := flat_get hall (i / sz) (i % sz) (by simpa using h3) h4
  rw [e, List.getElem?_eq_getElem h2, List.getElem_replicate, List.getElem?_eq_getElem (by omega)] at k
  rw [Option.some.inj k]
  simp [madeCells, hz]
  rw [List.getElem?_eq_getElem (by omega)]; rfl
theorem expAt_rep (n i : Nat) : expAt (List.replicate n noE) i = noE := by
  unfold expAt
  rw [List.getD_eq_getElem?_getD, List.getElem?_replicate]
  split <;> rfl
theorem rowAt_rep (n p : Nat) : rowAt (List.replicate n noE) p = [] := by unfold rowAt; rw [expAt_rep]; split <;> rfl
theorem cellsE_rep (n : Nat) : cellsE (List.replicate n noE) (fun _ => .slice none 0 0) = List.replicate n [.int .i64 0, .int .i64 0, .slice none 0 0, .slice none 0 0, .bool false] := by
  refine List.ext_getElem (by rw [cellsE_len]; simp) fun i h1 h2 => ?_
  rw [cellsE_get, List.getElem_replicate, expAt_rep]; rfl
theorem own_nil (w : World) (lo : Nat) : OwnZ w lo (.slice none 0 0) [] := .inl ⟨rfl, none, 0, rfl, by simp, fun _ => rfl⟩
/-- n exports of zeros -/
theorem ExpR.made {w : World} {lo g n c : Nat} (h : w.ownsRow lo TEXPORT 5 (.slice (some ⟨g, 0, none⟩) n c) n (madeCells #[.int .i64 0, .int .i64 0, .slice none 0 0, .slice none 0 0, .bool false] (n * 5)).toList) :
    ExpR w lo (.slice (some ⟨g, 0, none⟩) n c) (List.replicate n noE) (fun _ => .slice none 0 0) := by
  have e := made_flat [.int .i64 0, .int .i64 0, .slice none 0 0, .slice none 0 0, .bool false] 5 rfl (by omega) n
  change (madeCells #[.int .i64 0, .int .i64 0, .slice none 0 0, .slice none 0 0, .bool false] (n * 5)).toList = _ at e
  rw [e] at h
  refine ⟨⟨?_, fun c hc => ?_⟩, fun p _ => by rw [rowAt_rep]; exact own_nil _ _, fun p _ => by rw [rowAt_rep]; simp, fun p q _ _ hs => absurd (rowAt_rep n p) hs, fun p _ hs => absurd (rowAt_rep n p) hs⟩
  · rw [cellsE_rep, List.length_replicate]; exact h
  · rw [cellsE_rep] at hc; rw [List.eq_of_mem_replicate hc]; rfl
def putR (R : Nat → Value) (k : Nat) (u1 u2 : Value) (p : Nat) : Value := if p = 2 * k then u1 else if p = 2 * k + 1 then u2 else R p
theorem putR_a {R : Nat → Value} {k : Nat} {u1 u2 : Value} : putR R k u1 u2 (2 * k) = u1 := by unfold putR; rw [if_pos rfl]
theorem putR_b {R : Nat → Value} {k : Nat} {u1 u2 : Value} : putR R k u1 u2 (2 * k + 1) = u2 := by unfold putR; rw [if_neg (by omega), if_pos rfl]
theorem putR_o {R : Nat → Value} {k : Nat} {u1 u2 : Value} {p : Nat} (h : p / 2 ≠ k) : putR R k u1 u2 p = R p := by unfold putR; rw [if_neg (by omega), if_neg (by omega)]
section
variable {w w' W : World} {lo : Nat} {es : List Exp} {R : Nat → Value}
/-- the cells of an export in a row of one's own -/
theorem ExpR.cells {g n c : Nat} (h : ExpR w lo (.slice (some ⟨g, 0, none⟩) n c) es R) (hn : n = es.length) (i j : Nat) (hi : i < es.length) (hj : j < 5) :
    w.cell? ⟨g, i * 5 + j, none⟩ = (eCells (expAt es i) (R (2 * i)) (R (2 * i + 1)))[j]? ∧ w.frozen? ⟨g, i * 5 + j, none⟩ = false := by
  subst hn
  have hr := h.row
  have e1 : (.slice (some ⟨g, 0, none⟩) es.length c : Value) = .slice (some ⟨g, 0, none⟩) (cellsE es R).length c := by rw [cellsE_len]
  rw [e1] at hr
  have := hr.cell i j (by rw [cellsE_len]; exact hi) hj
  rw [cellsE_get] at this
  exact this
theorem OwnC.setN {base E sz g n c : Nat} {L : List (List Value)} (h : OwnC w base E sz (.slice (some ⟨g, 0, none⟩) n c) L) (hn : n = L.length) (i j : Nat) (hi : i < L.length) (hj : j < sz) (x : Value) :
    OwnC (w.setCell ⟨g, i * sz + j, none⟩ x) base E sz (.slice (some ⟨g, 0, none⟩) n c) (L.set i ((L[i]).set j x)) := by subst hn; exact h.set i j hi hj x
theorem OwnC.put5 {base E g n c : Nat} {L : List (List Value)} (h : OwnC w base E 5 (.slice (some ⟨g, 0, none⟩) n c) L) (hn : n = L.length) (i : Nat) (hi : i < L.length) (x0 x1 x2 x3 x4 : Value) :
    OwnC (((((w.setCell ⟨g, i * 5, none⟩ x0).setCell ⟨g, i * 5 + 1, none⟩ x1).setCell ⟨g, i * 5 + 2, none⟩ x2).setCell ⟨g, i * 5 + 3, none⟩ x3).setCell ⟨g, i * 5 + 4, none⟩ x4) base E 5 (.slice (some ⟨g, 0, none⟩) n c) (L.set i [x0, x1, x2, x3, x4]) := by
  have hl : L[i].length = 5 := h.2 _ (List.getElem_mem hi)
  obtain ⟨y0, y1, y2, y3, y4, hy⟩ : ∃ y0 y1 y2 y3 y4, L[i] = [y0, y1, y2, y3, y4] := by
    match hL : L[i], hl with
    | [a, b, c, d, e], _ => exact ⟨a, b, c, d, e, rfl⟩
  have r1 := h.setN hn i 0 hi (by omega) x0
  have r2 := r1.setN (by simpa using hn) i 1 (by simpa using hi) (by omega) x1
  have r3 := r2.setN (by simpa using hn) i 2 (by simpa using hi) (by omega) x2
  have r4 := r3.setN (by simpa using hn) i 3 (by simpa using hi) (by omega) x3
  have r5 := r4.setN (by simpa using hn) i 4 (by simpa using hi) (by omega) x4
  simp only [List.getElem_set_self, List.set_set, hy] at r5
  exact r5
/-- an export is written, with rows that came up later than all others -/
theorem ExpR.put {w0 : World} {g c : Nat} {e : Exp} {u1 u2 : Value} (h0 : ExpR w0 lo (.slice (some ⟨g, 0, none⟩) es.length c) es R) (hx : Ext w0 W) (k : Nat) (hk : k < es.length) (o1 : OwnZ W lo u1 e.s) (o2 : OwnZ W lo u2 e.t)
    (l1 : e.s.length ≤ 4194304) (l2 : e.t.length ≤ 4194304) (hd : e.s ≠ [] → e.t ≠ [] → u1.ownBlock ≠ u2.ownBlock) (m1 : e.s ≠ [] → ∀ b, u1.ownBlock = some b → w0.heap.size ≤ b) (m2 : e.t ≠ [] → ∀ b, u2.ownBlock = some b → w0.heap.size ≤ b) :
    ExpR (((((W.setCell ⟨g, k * 5, none⟩ (.int .i64 e.par)).setCell ⟨g, k * 5 + 1, none⟩ (.int .i64 e.b)).setCell ⟨g, k * 5 + 2, none⟩ u1).setCell ⟨g, k * 5 + 3, none⟩ u2).setCell ⟨g, k * 5 + 4, none⟩ (.bool e.op)) lo
      (.slice (some ⟨g, 0, none⟩) es.length c) (es.set k e) (putR R k u1 u2) := by
  have h := h0.ext hx
  have hgl := (h0.blk g rfl).2
  have hk' : k < (cellsE es R).length := by rw [cellsE_len]; exact hk
  have hr := h.row.put5 (cellsE_len es R).symm k hk' (.int .i64 e.par) (.int .i64 e.b) u1 u2 (.bool e.op)
  have hC : Chg g (g + 1) W (((((W.setCell ⟨g, k * 5, none⟩ (.int .i64 e.par)).setCell ⟨g, k * 5 + 1, none⟩ (.int .i64 e.b)).setCell ⟨g, k * 5 + 2, none⟩ u1).setCell ⟨g, k * 5 + 3, none⟩ u2).setCell ⟨g, k * 5 + 4, none⟩ (.bool e.op)) := qCh
  generalize (((((W.setCell ⟨g, k * 5, none⟩ (.int .i64 e.par)).setCell ⟨g, k * 5 + 1, none⟩ (.int .i64 e.b)).setCell ⟨g, k * 5 + 2, none⟩ u1).setCell ⟨g, k * 5 + 3, none⟩ u2).setCell ⟨g, k * 5 + 4, none⟩ (.bool e.op)) = W2 at *
  have hgr : W.grownBy W2 (some g) := ⟨hC.os, hC.tape, hC.output, hC.size, fun b hb hne => hC.block b hb (by
    rcases Nat.lt_or_ge b g with h | h
    · exact .inl h
    · exact .inr (by have : b ≠ g := fun h0 => hne (by rw [h0]); omega))⟩
  have n1 : e.s ≠ [] → u1.ownBlock ≠ some g := fun hs he => by have := m1 hs g he; omega
  have n2 : e.t ≠ [] → u2.ownBlock ≠ some g := fun hs he => by have := m2 hs g he; omega
  have hrow : ∀ p, p / 2 ≠ k → rowAt (es.set k e) p = rowAt es p := fun p hp => by unfold rowAt; simp only [expAt_set es k e _ hk, if_neg hp]
  have hra : rowAt (es.set k e) (2 * k) = e.s := by rw [rowAt_even, expAt_set es k e k hk, if_pos rfl]
  have hrb : rowAt (es.set k e) (2 * k + 1) = e.t := by rw [rowAt_odd, expAt_set es k e k hk, if_pos rfl]
  have old : ∀ p, p < 2 * es.length → rowAt es p ≠ [] → (e.s ≠ [] → (R p).ownBlock ≠ u1.ownBlock) ∧ (e.t ≠ [] → (R p).ownBlock ≠ u2.ownBlock) := fun p hp hs => by
    obtain ⟨b, hb1, -, hlt⟩ := h0.nblk p hp hs
    refine ⟨fun he h2 => ?_, fun he h2 => ?_⟩
    · have := m1 he b (by rw [← h2]; exact hb1); omega
    · have := m2 he b (by rw [← h2]; exact hb1); omega
  have three : ∀ p, p = 2 * k ∨ p = 2 * k + 1 ∨ p / 2 ≠ k := fun p => by omega
  refine ⟨?_, ?_, ?_, ?_, ?_⟩
  · have e2 : cellsE (es.set k e) (putR R k u1 u2) = (cellsE es R).set k [.int .i64 e.par, .int .i64 e.b, u1, u2, .bool e.op] := by
      refine List.ext_getElem (by rw [List.length_set, cellsE_len, cellsE_len, List.length_set]) fun j h1 h2 => ?_
      rw [cellsE_get, List.getElem_set, expAt_set es k e j hk]
      by_cases hj : k = j
      · subst hj; rw [if_pos rfl, if_pos rfl, putR_a, putR_b]; rfl
      · rw [if_neg (by omega), if_neg hj, cellsE_get, putR_o (by omega), putR_o (by omega)]
    rw [e2]; exact hr
  · intro p hp
    rw [List.length_set] at hp
    rcases three p with rfl | rfl | h3
    · rw [putR_a, hra]; exact o1.keptG l1 hgr n1
    · rw [putR_b, hrb]; exact o2.keptG l2 hgr n2
    · rw [putR_o h3, hrow p h3]; exact (h.nest p hp).keptG (h.lens p hp) hgr (fun hs => h.off p hp hs)
  · intro p hp
    rw [List.length_set] at hp
    rcases three p with rfl | rfl | h3
    · rw [hra]; exact l1
    · rw [hrb]; exact l2
    · rw [hrow p h3]; exact h.lens p hp
  · intro p q hpq hq
    rw [List.length_set] at hq
    rcases three p with rfl | rfl | h3
    · rcases three q with rfl | rfl | h4
      · omega
      · rw [putR_a, putR_b, hra, hrb]; exact hd
      · rw [putR_a, hra, putR_o h4, hrow q h4]
        exact fun he hs h2 => (old q hq hs).1 he h2.symm
    · rcases three q with rfl | rfl | h4
      · omega
      · omega
      · rw [putR_b, hrb, putR_o h4, hrow q h4]
        exact fun he hs h2 => (old q hq hs).2 he h2.symm
    · rcases three q with rfl | rfl | h4
      · rw [putR_a, hra, putR_o h3, hrow p h3]
        exact fun hs he => (old p (by omega) hs).1 he
      · rw [putR_b, hrb, putR_o h3, hrow p h3]
        exact fun hs he => (old p (by omega) hs).2 he
      · rw [putR_o h3, hrow p h3, putR_o h4, hrow q h4]
        exact h.apart p q hpq hq
  · intro p hp
    rw [List.length_set] at hp
    rcases three p with rfl | rfl | h3
    · rw [putR_a, hra]; exact n1
    · rw [putR_b, hrb]; exact n2
    · rw [putR_o h3, hrow p h3]; exact h.off p hp
end

end Go.Proofs.YtgklaobfikbiiaaDoor

/- Walks of the laws' own helpers on buffers: equal buffers. -/
namespace Go.Proofs.YtgklaobfikbiiaaDoor
open Go.RowKit
set_option linter.unusedVariables false
set_option maxRecDepth 100000

end Go.Proofs.YtgklaobfikbiiaaDoor

/- Walks of the laws' own helpers on buffers: marks. -/
namespace Go.Proofs.YtgklaobfikbiiaaDoor
open Go.RowKit
set_option linter.unusedVariables false
set_option maxRecDepth 100000

end Go.Proofs.YtgklaobfikbiiaaDoor

/- Walks of the laws' own helpers on buffers: marks are written. -/
namespace Go.Proofs.YtgklaobfikbiiaaDoor
open Go.RowKit
set_option linter.unusedVariables false
set_option maxRecDepth 100000

section
variable {w w' : World} {lo : Nat} {ev : Value} {es : List Exp} {R : Nat → Value}
theorem expAt_setS (es : List Exp) (i : Nat) (e : Exp) (hi : i < es.length) : expAt (es.set i e) i = e := by rw [expAt_set es i e i hi, if_pos rfl]
theorem ExpR.storeN {a n c : Nat} (h : ExpR w lo (.slice (some ⟨a, 0, none⟩) n c) es R) (hn : n = es.length) (i j : Nat) (hi : i < es.length) (hj : j < 5) (x : Value) (e : Exp) (hs : e.s = (expAt es i).s) (ht : e.t = (expAt es i).t)
    (he : (eCells (expAt es i) (R (2 * i)) (R (2 * i + 1))).set j x = eCells e (R (2 * i)) (R (2 * i + 1))) : ExpR (w.setCell ⟨a, i * 5 + j, none⟩ x) lo (.slice (some ⟨a, 0, none⟩) n c) (es.set i e) R := by
  subst hn; exact h.store i j hi hj x e hs ht he
/-- whether it is open is written -/
theorem ExpR.markO {a n c : Nat} (h : ExpR w lo (.slice (some ⟨a, 0, none⟩) n c) es R) (hn : n = es.length) (i : Nat) (hi : i < es.length) (o : Bool) :
    ExpR (w.setCell ⟨a, i * 5 + 4, none⟩ (.bool o)) lo (.slice (some ⟨a, 0, none⟩) n c) (es.set i ⟨(expAt es i).par, (expAt es i).b, (expAt es i).s, (expAt es i).t, o⟩) R :=
  h.storeN hn i 4 hi (by omega) (.bool o) _ rfl rfl rfl
end
theorem grown_set (w : World) (a o : Nat) (x : Value) : w.grownBy (w.setCell ⟨a, o, none⟩ x) (some a) := by
  have hk : Chg a (a + 1) w (w.setCell ⟨a, o, none⟩ x) := Chg.setCell (p := ⟨a, o, none⟩) (Chg.refl _ _ _) (Nat.le_refl _) (Nat.lt_succ_self _) x
  exact ⟨hk.os, hk.tape, hk.output, hk.size, fun b hb hne => hk.block b hb (by
    rcases Nat.lt_or_ge b a with h | h
    · exact .inl h
    · exact .inr (by have : b ≠ a := fun h0 => hne (by rw [h0]); omega))⟩
/-- ints that lie elsewhere than exports -/
structure Aside (w : World) (lo : Nat) (ev : Value) (es : List Exp) (R : Nat → Value) (cv : Value) (xs : List Int) : Prop where
  own : OwnZ w lo cv xs
  len : xs.length ≤ 4194304
  row : xs ≠ [] → cv.ownBlock ≠ ev.ownBlock
  nest : ∀ p, p < 2 * es.length → rowAt es p ≠ [] → xs ≠ [] → (R p).ownBlock ≠ cv.ownBlock
theorem Aside.set {w : World} {lo a n c : Nat} {es : List Exp} {R : Nat → Value} {cv : Value} {xs : List Int} (h : Aside w lo (.slice (some ⟨a, 0, none⟩) n c) es R cv xs) (o : Nat) (x : Value) : Aside (w.setCell ⟨a, o, none⟩ x) lo (.slice (some ⟨a, 0, none⟩) n c) es R cv xs :=
  ⟨h.own.keptG h.len (grown_set w a o x) h.row, h.len, h.row, h.nest⟩
theorem Aside.kept {w w' : World} {lo : Nat} {ev : Value} {es : List Exp} {R : Nat → Value} {cv : Value} {xs : List Int} (h : Aside w lo ev es R cv xs) (p : Nat) (hp : p < 2 * es.length) (hg : w.grownBy w' (R p).ownBlock) (he : rowAt es p = [] → w = w') : Aside w' lo ev es R cv xs := by
  by_cases hr : rowAt es p = []
  · obtain rfl := he hr; exact h
  · exact ⟨h.own.keptG h.len hg (fun hx hh => h.nest p hp hr hx hh.symm), h.len, h.row, h.nest⟩
theorem Aside.ext {w w' : World} {lo : Nat} {ev : Value} {es : List Exp} {R : Nat → Value} {cv : Value} {xs : List Int} (h : Aside w lo ev es R cv xs) (hx : Ext w w') : Aside w' lo ev es R cv xs := ⟨h.own.ext hx, h.len, h.row, h.nest⟩
/-- all blocks of exports lie below hi -/
structure BelowE (hi : Nat) (ev : Value) (es : List Exp) (R : Nat → Value) : Prop where
  row : ∀ g, ev.ownBlock = some g → g < hi
  nest : ∀ p, p < 2 * es.length → rowAt es p ≠ [] → ∀ g, (R p).ownBlock = some g → g < hi
theorem ExpR.below {w : World} {lo : Nat} {ev : Value} {es : List Exp} {R : Nat → Value} (h : ExpR w lo ev es R) : BelowE w.heap.size ev es R :=
  ⟨fun g hg => (h.blk g hg).2, fun p hp hn g hg => (h.nest p hp).bound hn g hg⟩
/-- all blocks of a buffer lie below hi -/
structure BelowB (hi : Nat) (cv ev : Value) (cells : List Int) (es : List Exp) (R : Nat → Value) : Prop where
  cel : cells ≠ [] → ∀ g, cv.ownBlock = some g → g < hi
  ex : BelowE hi ev es R
theorem BufR.below {w : World} {lo : Nat} {cv ev : Value} {cells : List Int} {es : List Exp} {R : Nat → Value} (h : BufR w lo cv ev cells es R) : BelowB w.heap.size cv ev cells es R := ⟨h.cel.bound, h.ex.below⟩
theorem ExpR.keptG {w w' : World} {lo : Nat} {ev : Value} {es : List Exp} {R : Nat → Value} {row : Option Nat} (h : ExpR w lo ev es R) (hg : w.grownBy w' row) (h1 : ev.ownBlock = none ∨ ev.ownBlock ≠ row) (h2 : ∀ p, p < 2 * es.length → rowAt es p ≠ [] → (R p).ownBlock ≠ row) : ExpR w' lo ev es R :=
  ⟨h.row.kept hg h1, fun p hp => (h.nest p hp).keptG (h.lens p hp) hg (h2 p hp), h.lens, h.apart, h.off⟩
end Go.Proofs.YtgklaobfikbiiaaDoor

/- Answers that are buffers: plain words and laws. No condition. -/
namespace Go.Proofs.YtgklaobfikbiiaaDoor
open Go.RowKit
set_option linter.unusedVariables false
set_option maxRecDepth 100000

/-- a buffer with a bool -/
abbrev BBool := List Int × List Exp × Bool
def noBuf : BBool := ([], [], false)
def PBX (w : World) (x : BBool) : Ending → World → Prop := PBufB w x.1 x.2.1 x.2.2
theorem PBX.no {w w' : World} {x : BBool} (h : x = noBuf) (hx : Ext w w') : PBX w x (.returned (.tuple #[.agg #[.slice none 0 0, .slice none 0 0], .bool false])) w' := by
  subst h; exact PBufB.no hx
theorem PBX.yes {w w' : World} {x : BBool} {cells : List Int} {es : List Exp} {cv ev : Value} {R : Nat → Value} (h : x = (cells, es, true)) (hb : BufR w' w.heap.size cv ev cells es R) (hx : Ext w w') :
    PBX w x (.returned (.tuple #[.agg #[cv, ev], .bool true])) w' := by
  subst h; exact ⟨cv, ev, R, rfl, hb, hx⟩
theorem pbx_eq {w w0 : World} {x : BBool} {B : List Int} {S : List Exp} {o : Bool} {f : Nat} {args : Array Value} (he : x = (B, S, o)) (h : Calls Tryd.prog f args w (PBX w0 x)) : Calls Tryd.prog f args w (PBufB w0 B S o) := by subst he; exact h
/-- a buffer of few numbers -/
structure SmallB (x : BBool) : Prop where
  cl : x.1.length ≤ 60
  el : x.2.1.length ≤ 9
  rows : ∀ i, i < x.2.1.length → (expAt x.2.1 i).s.length ≤ 4 ∧ (expAt x.2.1 i).t.length ≤ 4
theorem SmallB.no {x : BBool} (h : x = noBuf) : SmallB x := by subst h; exact ⟨by simp [noBuf], by simp [noBuf], fun i hi => absurd hi (by simp [noBuf])⟩
theorem expsB_at {cells : List Int} {es : List Exp} {n : Nat} (h : expsB cells es n = true) (i : Nat) (hi : i < n) : expB cells es i = true := by
  unfold expsB at h
  rw [List.all_eq_true] at h
  exact h i (List.mem_range.2 hi)
theorem bufB_in {cells : List Int} {es : List Exp} (h : bufB cells es = true) : memB cells = true ∧ cells.length ≤ 60 ∧ es.length ≤ 8 ∧ ∀ i, i < es.length → expB cells es i = true := by
  unfold bufB at h
  simp only [Bool.and_eq_true, decide_eq_true_eq] at h
  have hm := h.1.1
  unfold memB at hm
  simp only [Bool.and_eq_true, decide_eq_true_eq] at hm
  exact ⟨h.1.1, hm.1, h.1.2, fun i hi => expsB_at h.2 i hi⟩
theorem expB_view {cells : List Int} {es : List Exp} {i : Nat} (h : expB cells es i = true) : viewB (expAt es i).b (expAt es i).s (expAt es i).t = true := by
  unfold expB at h
  simp only [Bool.and_eq_true] at h
  exact h.1.2
theorem expB_fit {cells : List Int} {es : List Exp} {i : Nat} (h : expB cells es i = true) (ho : (expAt es i).op = true) : fitB (expAt es i).b (expAt es i).s (expAt es i).t cells.length = true := by
  unfold expB at h
  simp only [Bool.and_eq_true, ho, Bool.not_true, Bool.false_or] at h
  exact h.2.1
theorem opB_in {es : List Exp} {i : Int} (h : opB es i = true) : 0 ≤ i ∧ i.toNat < es.length ∧ (expAt es i.toNat).op = true := by
  unfold opB inB at h
  simp only [Bool.and_eq_true, decide_eq_true_eq] at h
  exact ⟨h.1.1, by omega, h.2⟩
/-- an open export of a valid buffer can be seen -/
theorem open_holds {cells : List Int} {es : List Exp} {i : Int} (h : bufB cells es = true) (ho : opB es i = true) : holdB cells (expAt es i.toNat).b (expAt es i.toNat).s (expAt es i.toNat).t = true := by
  obtain ⟨h1, -, -, h2⟩ := bufB_in h
  obtain ⟨-, o1, o2⟩ := opB_in ho
  have h3 := h2 _ o1
  unfold holdB
  rw [h1, expB_view h3, expB_fit h3 o2]; rfl
/-- ExportView -/
def expA (cells : List Int) (es : List Exp) (b : Int) (s t : List Int) : BBool :=
  if bufB cells es && (viewB b s t && (fitB b s t cells.length && decide (es.length < 8))) then (cells, es ++ [⟨-1, b, s, t, true⟩], true) else noBuf
/-- ReleaseExport -/
def relA (cells : List Int) (es : List Exp) (i : Int) : BBool :=
  if (bufB cells es && opB es i) && decide ((selL (kidP i) es es.length).length = 0) then (cells, es.set i.toNat { expAt es i.toNat with op := false }, true) else noBuf
/-- the first n numbers of a list, and 0 where there are none -/
def fitL (xs : List Int) (n : Nat) : List Int := xs.take n ++ List.replicate (n - xs.length) 0
theorem fitL_len (xs : List Int) (n : Nat) : (fitL xs n).length = n := by unfold fitL; simp; omega
/-- ResizeBuffer -/
def resA (cells : List Int) (es : List Exp) (n : Int) : BBool :=
  if bufB cells es && (inB 0 60 n && decide ((selL opP es es.length).length = 0)) then (fitL cells n.toNat, es, true) else noBuf
end Go.Proofs.YtgklaobfikbiiaaDoor

/- Walks: NewView of the reference: an empty row of strides has no capacity. -/
namespace Go.Proofs.YtgklaobfikbiiaaDoor
open Go.RowKit
set_option linter.unusedVariables false
set_option maxRecDepth 100000

def PViewE (w : World) (b : Int) (s t : List Int) (e : Ending) (w' : World) : Prop := PView w b s t e w' ∧ (t = [] → ∃ b' u a, e = .returned (.agg #[b', u, .slice a 0 0]))
/-- strides of an empty shape: none, and no capacity -/
theorem PViewE.open {w w' : World} {b : Int} {s t : List Int} {e : Ending} (h : PViewE w b s t e w') : ∃ (p1 p2 : Option Addr) (n1 r1 n2 r2 : Nat), e = .returned (.agg #[.int .i64 b, .slice p1 n1 r1, .slice p2 n2 r2]) ∧ OwnZ w' w.heap.size (.slice p1 n1 r1) s ∧ OwnZ w' w.heap.size (.slice p2 n2 r2) t ∧
    (s ≠ [] → t ≠ [] → (Value.slice p1 n1 r1).ownBlock ≠ (Value.slice p2 n2 r2).ownBlock) ∧ (t = [] → n2 = 0 ∧ r2 = 0) ∧ Ext w w' := by
  obtain ⟨⟨sh, st, rfl, -, -, o1, o2, od, x⟩, hE⟩ := h
  obtain ⟨p1, n1, r1, rfl⟩ := o1.form
  obtain ⟨p2, n2, r2, rfl⟩ := o2.form
  refine ⟨p1, p2, n1, r1, n2, r2, rfl, o1, o2, od, fun ht => ?_, x⟩
  obtain ⟨b', u, a, h⟩ := hE ht
  simp at h
  exact ⟨h.2.2.2.1, h.2.2.2.2⟩

end Go.Proofs.YtgklaobfikbiiaaDoor

/- Walks: a drawn view. -/
namespace Go.Proofs.YtgklaobfikbiiaaDoor
open Go.RowKit
set_option linter.unusedVariables false
set_option maxRecDepth 100000


theorem VAt.open {B g : Nat} {w : World} {b : Int} {u v : Value} {s t : List Int} (h : VAt B g w b u v s t) : ∃ a1 c1 a2 c2, u = .slice a1 s.length c1 ∧ v = .slice a2 t.length c2 := by
  obtain ⟨a1, c1, h1⟩ := (h.o1.ints (by have := h.le; omega)).form
  obtain ⟨a2, c2, h2⟩ := (h.o2.ints (by have := h.le; have := h.fit; omega)).form
  exact ⟨a1, c1, a2, c2, h1, h2⟩

end Go.Proofs.YtgklaobfikbiiaaDoor

/- Walks: a drawn view that may be no view. -/
namespace Go.Proofs.YtgklaobfikbiiaaDoor
open Go.RowKit
set_option linter.unusedVariables false
set_option maxRecDepth 100000


theorem OwnZ.chgI {lo hi B : Nat} {w w' : World} {y : Value} {xs : List Int} (h : OwnZ w B y xs) (k : Chg lo hi w w') (hne : xs ≠ [] → ∀ g, y.ownBlock = some g → g < lo ∨ hi ≤ g) : OwnZ w' B y xs := by
  rcases h with ho | ho
  · exact .inl ho
  · by_cases hx : xs = []
    · subst hx
      rcases ho.2 with ⟨h2, _⟩ | ⟨g', cap, cur, rfl, hb, hh, r⟩
      · subst h2; exact .inl ⟨rfl, none, 0, rfl, by simp, fun _ => rfl⟩
      · exact .inl ⟨rfl, some ⟨g', 0, none⟩, cap, rfl, r.2.1, fun h => by cases h⟩
    · obtain ⟨g', cap, e, _⟩ := ho.row hx
      subst e
      exact .inr (ho.chgN k (hne hx g' rfl))
theorem Rch.below' {rb lo hi : Nat} {w a b : World} (h : Chg rb (rb + 1) w a) (k : Chg lo hi a b) (hl : w.heap.size ≤ lo) : Chg rb (rb + 1) w b :=
  ⟨k.os.trans h.os, k.tape.trans h.tape, k.output.trans h.output, Nat.le_trans h.size k.size, fun i hi2 hd => (k.block i (Nat.lt_of_lt_of_le hi2 h.size) (.inl (by omega))).trans (h.block i hi2 hd)⟩
/-- a view that need be none lies in block gv -/
def SAt (rb q gv : Nat) (w wx : World) : Prop := ∃ (b : Int) (s t : List Int) (p1 p2 : Option Addr) (n1 r1 n2 r2 : Nat), wx.cell? ⟨gv, 0, none⟩ = some (.int .i64 b) ∧ wx.cell? ⟨gv, 1, none⟩ = some (.slice p1 n1 r1) ∧ wx.cell? ⟨gv, 2, none⟩ = some (.slice p2 n2 r2) ∧
  OwnZ wx (w.heap.size + 1) (.slice p1 n1 r1) s ∧ OwnZ wx (w.heap.size + 1) (.slice p2 n2 r2) t ∧ (s.length ≤ 4 ∧ t.length ≤ 5) ∧ VAt (w.heap.size + 1) w.heap.size wx 0 (.slice none 0 0) (.slice none 0 0) [] [] ∧ Rd wx rb q ∧ Rch rb w wx
theorem SAt.of {rb q gv : Nat} {w wx : World} {b : Int} {p1 p2 : Option Addr} {n1 r1 n2 r2 : Nat} {s t : List Int} (V : VAt (w.heap.size + 1) gv wx b (.slice p1 n1 r1) (.slice p2 n2 r2) s t) (Q : VAt (w.heap.size + 1) w.heap.size wx 0 (.slice none 0 0) (.slice none 0 0) [] []) (hr : Rd wx rb q) (X : Rch rb w wx) : SAt rb q gv w wx :=
  ⟨b, s, t, p1, p2, n1, r1, n2, r2, V.c0, V.c1, V.c2, V.o1, V.o2, ⟨V.le, by have := V.fit; have := V.le; omega⟩, Q, hr, X⟩
theorem SAt.put {rb q gv : Nat} {w w9 : World} {b : Int} {p1 p2 : Option Addr} {n1 r1 n2 r2 : Nat} {v2 : Value} {s t : List Int} (c0 : w9.cell? ⟨gv, 0, none⟩ = some (.int .i64 b)) (c1 : w9.cell? ⟨gv, 1, none⟩ = some (.slice p1 n1 r1)) (c2 : w9.cell? ⟨gv, 2, none⟩ = some v2) (f2 : w9.frozen? ⟨gv, 2, none⟩ = false)
    (o1 : OwnZ w9 (w.heap.size + 1) (.slice p1 n1 r1) s) (o2 : OwnZ w9 (w.heap.size + 1) (.slice p2 n2 r2) t) (m1 : s ≠ [] → ∀ g, (Value.slice p1 n1 r1).ownBlock = some g → g ≠ gv) (m2 : ∀ g, (Value.slice p2 n2 r2).ownBlock = some g → g ≠ gv) (hl : s.length ≤ 4 ∧ t.length ≤ 5)
    (Q : VAt (w.heap.size + 1) w.heap.size w9 0 (.slice none 0 0) (.slice none 0 0) [] []) (hr : Rd w9 rb q) (X : Rch rb w w9) (hg : w.heap.size < gv) (hrb : rb < w.heap.size) : SAt rb q gv w (w9.setCell ⟨gv, 2, none⟩ (.slice p2 n2 r2)) := by
  have k : Chg gv (gv + 1) w9 (w9.setCell ⟨gv, 2, none⟩ (.slice p2 n2 r2)) := (Chg.refl gv (gv + 1) w9).setCell (p := ⟨gv, 2, none⟩) (Nat.le_refl _) (Nat.lt_succ_self _) _
  exact ⟨b, s, t, p1, p2, n1, r1, n2, r2, by go_simp, by go_simp, by go_simp, o1.chgI k (fun h g hg' => by have := m1 h g hg'; omega), o2.chgI k (fun _ g hg' => by have := m2 g hg'; omega), hl,
    Q.chgB k (by omega) (fun h => absurd rfl h) (fun h => absurd rfl h), Rd.set2 (show rb < gv by omega) hr, X.set (show w.heap.size ≤ gv by omega) _⟩

end Go.Proofs.YtgklaobfikbiiaaDoor
