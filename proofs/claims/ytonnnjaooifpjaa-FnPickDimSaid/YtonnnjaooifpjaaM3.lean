/- Texts of these proofs put together: SvE, SvF, SvG, SvD. No condition. -/
import Derived.Test.YtonnnjaooifpjaaM2
import Derived.Test.YtonnnjaooifpjaaM1
set_option linter.unusedVariables false
set_option linter.unusedSimpArgs false
/- Walks: cutDim of the reference. -/
namespace Go.Proofs.Ytonnnjaooifpjaa
open Go.RowKit
set_option linter.unusedVariables false
set_option maxRecDepth 100000


theorem PView.own {w w' : World} {base : Int} {shape strides : List Int} {v1 v2 : Value} (o1 : OwnZ w' w.heap.size v1 shape) (o2 : OwnZ w' w.heap.size v2 strides) (hd : shape ≠ [] → strides ≠ [] → v1.ownBlock ≠ v2.ownBlock) (l1 : shape.length ≤ 4194304) (l2 : strides.length ≤ 4194304) (hx : Ext w w') :
  PView w base shape strides (.returned (.agg #[.int .i64 base, v1, v2])) w' := ⟨v1, v2, rfl, o1.ints l1, o2.ints l2, o1, o2, hd, hx⟩

set_option maxHeartbeats 6400000 in
theorem cutDim_c (b1 : Int) (u1 v1 : Value) (s1 t1 : List Int) (d : Nat) (F T B : Int) (hf ht : Bool) (L : List Int) (w : World) (l1 m1 : Nat) (h1 : Ints w l1 u1 s1) (k1 : Ints w m1 v1 t1) (ha : viewB b1 s1 t1 = true) (hd : d < s1.length) (hs : sliceB F T B hf ht = true) (hL : idxS (s1.getD d 0) F T B hf ht = L) :
  Calls Try.prog 108 #[.agg #[.int .i64 b1, u1, v1], .int .i64 (d : Int), .agg #[.int .i64 F, .int .i64 T, .int .i64 B, .bool hf, .bool ht]] w (PView w (cutB b1 s1 t1 d L) (cutS s1 d L) (cutT s1 t1 d L)) := by
 have hlen1 := ints_len h1
 have hlen2 := ints_len k1
 obtain ⟨j1, j2, j3, j4, -⟩ := viewB_in ha
 have hd2 : d < t1.length := by omega
 have hin := Lib.hid j1
 have hst := Lib.hid j4
 have hsl := Lib.hid hs
 have hj2 := Lib.hid j2
 have hdI : (d : Int) < s1.length := by omega
 have hdI2 : (d : Int) < t1.length := by omega
 have hd0 : (0 : Int) ≤ d := by omega
 have hn60 : 0 ≤ s1.getD d 0 ∧ s1.getD d 0 ≤ 60 := (shapeB_in j1).2.1 _ (getD_mem hd)
 have hx60 : -60 ≤ t1.getD d 0 ∧ t1.getD d 0 ≤ 60 := j4 _ (getD_mem hd2)
 have hLI := Lib.hid hL
 have hLm : ∀ x ∈ L, 0 ≤ x ∧ x ≤ 60 := fun x hx => by rw [← hL] at hx; have := idxS_in hn60.1 (sliceB_in hs).2.2.2 x hx; omega
 have hLb : Hid (∀ x ∈ L, -1000000 ≤ x ∧ x ≤ 1000000) := Lib.hid (fun x hx => by have := hLm x hx; omega)
 obtain ⟨q1, q2, q3, q4⟩ := normL_bd (L := L) (fun x hx => by have := hLm x hx; omega)
 have q5 := q4 (by rw [← hL]; exact numL_nodup (sliceB_in hs).2.2.2)
 have hN : Hid (numL (normL L).1 (normL L).2.1 (normL L).2.2 = L) := Lib.hid (by rw [← hL]; exact norm_numL (sliceB_in hs).2.2.2)
 have hnum : Hid (∀ W, Calls Try.prog 142 #[.agg #[.int .i64 (normL L).1, .int .i64 (normL L).2.1, .int .i64 (normL L).2.2]] W (PInts W L)) := Lib.hid (fun W => by have := numbers_c (normL L).1 (normL L).2.1 (normL L).2.2 W q1 q2 q3 q5; rwa [hN.out] at this)
 have hAx : -60000 ≤ (normL L).1 * t1.getD d 0 ∧ (normL L).1 * t1.getD d 0 ≤ 60000 := mul_bdS q1 hx60
 have hCx : -60000 ≤ (normL L).2.2 * t1.getD d 0 ∧ (normL L).2.2 * t1.getD d 0 ≤ 60000 := mul_bdS q3 hx60
 have hne1 : s1 ≠ [] := fun h => by rw [h] at hd; simp at hd
 have hne2 : t1 ≠ [] := fun h => by rw [h] at hd2; simp at hd2
 have hLl : L.length ≤ 60 := by
  rcases num_len_le (sliceB_in hs).2.2.2 (idxS_in hn60.1 (sliceB_in hs).2.2.2) with h | h <;> (rw [← idxS, hL] at h; omega)
 clear ha j1 j2 j4 hs hL hLm q4 q5 hN
 obtain ⟨a1, cp1, rfl⟩ := h1.form
 obtain ⟨a2, cp2, rfl⟩ := k1.form
 obtain ⟨b1s, o1s, rfl, hc1⟩ := h1.at d hd
 obtain ⟨b2s, o2s, rfl, hc2⟩ := k1.at d hd2
 generalize hg : s1.getD d 0 = n at *
 replace hg := Lib.hid hg
 generalize hg2 : t1.getD d 0 = x at *
 replace hg2 := Lib.hid hg2
 have hnorm : ∀ (v : Value) (W : World) (lo : Nat), Ints W lo v L → Calls Try.prog 140 #[v] W (fun e w' => e = .returned (.agg #[.int .i64 (normL L).1, .int .i64 (normL L).2.1, .int .i64 (normL L).2.2]) ∧ Ext W w') := fun v W lo h => normal_c L v W lo h hLb.out
 generalize hN1 : (normL L).1 = A at *
 generalize hN2 : (normL L).2.1 = A2 at *
 generalize hN3 : (normL L).2.2 = A3 at *
 replace hnorm := Lib.hid hnorm
 replace hN1 := Lib.hid hN1
 replace hN2 := Lib.hid hN2
 replace hN3 := Lib.hid hN3
 have z_ea : b1s < w.heap.size := qB hc1
 have ea0 := hc1
 have y_ea := z_ea
 have z_eb : b2s < w.heap.size := qB hc2
 have eb0 := hc2
 have y_eb := z_eb
 clear hc1 hc2
 go_enter Try.func108, Try.ntmps108
 go_wp2_with fail
 refine (scopyView_c b1 _ _ s1 t1 _ l1 m1 (h1.ext qXo) (k1.ext qXo)).mono ?_
 rintro e w1 ⟨x1, x2, rfl, -, -, o1, o2, od, xw1⟩
 have Lw1 : Ext w w1 := Ext.trans qXt xw1
 have Xw1 : Ext w w1 := Lw1
 replace ea0 := Lw1.cell ea0
 replace eb0 := Lw1.cell eb0
 have va0 : w1.cell? ⟨w.heap.size, 0, none⟩ = some (.int .i64 b1) := xw1.cell qCl
 have va1 : w1.cell? ⟨w.heap.size, 1, none⟩ = some (.slice (some ⟨b1s, o1s, none⟩) s1.length cp1) := xw1.cell qCl
 have va2 : w1.cell? ⟨w.heap.size, 2, none⟩ = some (.slice (some ⟨b2s, o2s, none⟩) t1.length cp2) := xw1.cell qCl
 have sl0 : w1.cell? ⟨w.heap.size + 1, 0, none⟩ = some (.int .i64 F) := xw1.cell qCl
 have sl1 : w1.cell? ⟨w.heap.size + 1, 1, none⟩ = some (.int .i64 T) := xw1.cell qCl
 have sl2 : w1.cell? ⟨w.heap.size + 1, 2, none⟩ = some (.int .i64 B) := xw1.cell qCl
 have sl3 : w1.cell? ⟨w.heap.size + 1, 3, none⟩ = some (.bool hf) := xw1.cell qCl
 have sl4 : w1.cell? ⟨w.heap.size + 1, 4, none⟩ = some (.bool ht) := xw1.cell qCl
 have q0 : w1.cell? ⟨w.heap.size + 1 + 1, 0, none⟩ = some (.int .i64 0) := xw1.cell qCl
 have q1 : w1.cell? ⟨w.heap.size + 1 + 1, 1, none⟩ = some (.slice none 0 0) := xw1.cell qCl
 have q2 : w1.cell? ⟨w.heap.size + 1 + 1, 2, none⟩ = some (.slice none 0 0) := xw1.cell qCl
 have f_q0 : w1.frozen? ⟨w.heap.size + 1 + 1, 0, none⟩ = false := xw1.frz (by simp <;> omega) qFz
 have f_q1 : w1.frozen? ⟨w.heap.size + 1 + 1, 1, none⟩ = false := xw1.frz (by simp <;> omega) qFz
 have f_q2 : w1.frozen? ⟨w.heap.size + 1 + 1, 2, none⟩ = false := xw1.frz (by simp <;> omega) qFz
 have z_ea : b1s < w1.heap.size := qB ea0
 have z_eb : b2s < w1.heap.size := qB eb0
 have z_va : w.heap.size < w1.heap.size := qB va0
 have z_sl : w.heap.size + 1 < w1.heap.size := qB sl0
 have z_q : w.heap.size + 1 + 1 < w1.heap.size := qB q0
 have s_w1 : w.heap.size ≤ w1.heap.size := Xw1.size
 clear xw1
 have O1 := (o1.ofNe hne1).lower (show w.heap.size + 3 ≤ _ by simp)
 have O2 := (o2.ofNe hne2).lower (show w.heap.size + 3 ≤ _ by simp)
 clear o1 o2
 obtain ⟨g1, r1, rfl, G1, G1'⟩ := O1.row hne1
 obtain ⟨g2, r2, rfl, G2, G2'⟩ := O2.row hne2
 have hgg : g1 ≠ g2 := fun h => od hne1 hne2 (by rw [h]; rfl)
 clear od
 go_wp2_with fail
 have Lw2 : Ext w1 (w1.alloc (.cells #[.int .i64 b1, .slice (some ⟨g1, 0, none⟩) s1.length r1, .slice (some ⟨g2, 0, none⟩) t1.length r2] 25)) := qXt
 have Xw2 : Ext w (w1.alloc (.cells #[.int .i64 b1, .slice (some ⟨g1, 0, none⟩) s1.length r1, .slice (some ⟨g2, 0, none⟩) t1.length r2] 25)) := Xw1.trans Lw2
 replace ea0 := Lw2.cell ea0
 replace eb0 := Lw2.cell eb0
 replace va0 := Lw2.cell va0
 replace va1 := Lw2.cell va1
 replace va2 := Lw2.cell va2
 replace sl0 := Lw2.cell sl0
 replace sl1 := Lw2.cell sl1
 replace sl2 := Lw2.cell sl2
 replace sl3 := Lw2.cell sl3
 replace sl4 := Lw2.cell sl4
 replace q0 := Lw2.cell q0
 replace q1 := Lw2.cell q1
 replace q2 := Lw2.cell q2
 replace f_q0 := Lw2.frz z_q f_q0
 replace f_q1 := Lw2.frz z_q f_q1
 replace f_q2 := Lw2.frz z_q f_q2
 have y0 : (w1.alloc (.cells #[.int .i64 b1, .slice (some ⟨g1, 0, none⟩) s1.length r1, .slice (some ⟨g2, 0, none⟩) t1.length r2] 25)).cell? ⟨w1.heap.size, 0, none⟩ = some (.int .i64 b1) := qCl
 have y1 : (w1.alloc (.cells #[.int .i64 b1, .slice (some ⟨g1, 0, none⟩) s1.length r1, .slice (some ⟨g2, 0, none⟩) t1.length r2] 25)).cell? ⟨w1.heap.size, 1, none⟩ = some (.slice (some ⟨g1, 0, none⟩) s1.length r1) := qCl
 have y2 : (w1.alloc (.cells #[.int .i64 b1, .slice (some ⟨g1, 0, none⟩) s1.length r1, .slice (some ⟨g2, 0, none⟩) t1.length r2] 25)).cell? ⟨w1.heap.size, 2, none⟩ = some (.slice (some ⟨g2, 0, none⟩) t1.length r2) := qCl
 have f_y0 : (w1.alloc (.cells #[.int .i64 b1, .slice (some ⟨g1, 0, none⟩) s1.length r1, .slice (some ⟨g2, 0, none⟩) t1.length r2] 25)).frozen? ⟨w1.heap.size, 0, none⟩ = false := qFz
 have f_y1 : (w1.alloc (.cells #[.int .i64 b1, .slice (some ⟨g1, 0, none⟩) s1.length r1, .slice (some ⟨g2, 0, none⟩) t1.length r2] 25)).frozen? ⟨w1.heap.size, 1, none⟩ = false := qFz
 have f_y2 : (w1.alloc (.cells #[.int .i64 b1, .slice (some ⟨g1, 0, none⟩) s1.length r1, .slice (some ⟨g2, 0, none⟩) t1.length r2] 25)).frozen? ⟨w1.heap.size, 2, none⟩ = false := qFz
 have z_ea : b1s < (w1.alloc (.cells #[.int .i64 b1, .slice (some ⟨g1, 0, none⟩) s1.length r1, .slice (some ⟨g2, 0, none⟩) t1.length r2] 25)).heap.size := qB ea0
 have z_eb : b2s < (w1.alloc (.cells #[.int .i64 b1, .slice (some ⟨g1, 0, none⟩) s1.length r1, .slice (some ⟨g2, 0, none⟩) t1.length r2] 25)).heap.size := qB eb0
 have z_va : w.heap.size < (w1.alloc (.cells #[.int .i64 b1, .slice (some ⟨g1, 0, none⟩) s1.length r1, .slice (some ⟨g2, 0, none⟩) t1.length r2] 25)).heap.size := qB va0
 have z_sl : w.heap.size + 1 < (w1.alloc (.cells #[.int .i64 b1, .slice (some ⟨g1, 0, none⟩) s1.length r1, .slice (some ⟨g2, 0, none⟩) t1.length r2] 25)).heap.size := qB sl0
 have z_q : w.heap.size + 1 + 1 < (w1.alloc (.cells #[.int .i64 b1, .slice (some ⟨g1, 0, none⟩) s1.length r1, .slice (some ⟨g2, 0, none⟩) t1.length r2] 25)).heap.size := qB q0
 have z_y : w1.heap.size < (w1.alloc (.cells #[.int .i64 b1, .slice (some ⟨g1, 0, none⟩) s1.length r1, .slice (some ⟨g2, 0, none⟩) t1.length r2] 25)).heap.size := qB y0
 replace O1 := O1.ext Lw2
 replace O2 := O2.ext Lw2
 have s_w2 : w.heap.size ≤ (w1.alloc (.cells #[.int .i64 b1, .slice (some ⟨g1, 0, none⟩) s1.length r1, .slice (some ⟨g2, 0, none⟩) t1.length r2] 25)).heap.size := Xw2.size
 generalize w1.alloc (.cells #[.int .i64 b1, .slice (some ⟨g1, 0, none⟩) s1.length r1, .slice (some ⟨g2, 0, none⟩) t1.length r2] 25) = w2 at *
 go_cut [8] (fun s8 wx => ∃ g : Nat, s8 = .pointer (some ⟨g, 0, none⟩) ∧ Ext w2 wx ∧ w2.heap.size ≤ g ∧ wx.cell? ⟨g, 0, none⟩ = some (.int .i64 A) ∧ wx.cell? ⟨g, 1, none⟩ = some (.int .i64 A2) ∧ wx.cell? ⟨g, 2, none⟩ = some (.int .i64 A3))
 case first =>
  refine wp_region_held_drew (S := fun w' => w'.cell? ⟨b1s, o1s + d, none⟩ = some (.int .i64 n) ∧ w'.cell? ⟨w.heap.size, 1, none⟩ = some (.slice (some ⟨b1s, o1s, none⟩) s1.length cp1) ∧ w'.cell? ⟨w.heap.size + 1, 0, none⟩ = some (.int .i64 F) ∧ w'.cell? ⟨w.heap.size + 1, 1, none⟩ = some (.int .i64 T) ∧ w'.cell? ⟨w.heap.size + 1, 2, none⟩ = some (.int .i64 B) ∧ w'.cell? ⟨w.heap.size + 1, 3, none⟩ = some (.bool hf) ∧ w'.cell? ⟨w.heap.size + 1, 4, none⟩ = some (.bool ht)) qKr ⟨ea0, va1, sl0, sl1, sl2, sl3, sl4⟩ (fun hHeld => ?_)
  refine wpAnyH_take (i := 0) (v := ?_) rfl qKr qKr qKr (fun _ _ _ h => h) (Or.inl ⟨by rfl, ?_⟩) (by assumption) ?_
  rotate_left
  ·
   (intro w hSw; (try dsimp only at hSw); go_simp; try with_reducible rfl)
  try simp only [Act.put, qA1, qA2, qA3, qA4, qA5, qA6]
  refine wpAnyH_take (i := 1) (v := ?_) rfl qKr qKr qKr (fun _ _ _ h => h) (Or.inl ⟨by rfl, ?_⟩) (by assumption) ?_
  rotate_left
  ·
   (intro w hSw; (try dsimp only at hSw); go_simp; try with_reducible rfl)
  try simp only [Act.put, qA1, qA2, qA3, qA4, qA5, qA6]
  refine wpAnyH_take (i := 2) (v := ?_) rfl qKr qKr qKr (fun _ _ _ h => h) (Or.inl ⟨by rfl, ?_⟩) (by assumption) ?_
  rotate_left
  ·
   (intro w hSw; (try dsimp only at hSw); go_simp; try with_reducible rfl)
  try simp only [Act.put, qA1, qA2, qA3, qA4, qA5, qA6]
  refine wpAnyH_take (i := 3) (v := ?_) rfl qKr qKr qKr (fun _ _ _ h => h) (Or.inl ⟨by rfl, ?_⟩) (by assumption) ?_
  rotate_left
  ·
   (intro w hSw; (try dsimp only at hSw); go_simp; try with_reducible rfl)
  try simp only [Act.put, qA1, qA2, qA3, qA4, qA5, qA6]
  refine wpAnyH_take (i := 4) (v := ?_) rfl qKr qKr qKr (fun _ _ _ h => h) (Or.inl ⟨by rfl, ?_⟩) (by assumption) ?_
  rotate_left
  ·
   (intro w hSw; (try dsimp only at hSw); go_simp; try with_reducible rfl)
  try simp only [Act.put, qA1, qA2, qA3, qA4, qA5, qA6]
  refine wpAnyH_take (i := 5) (v := ?_) rfl qKr qKr qKr (fun _ _ _ h => h) (Or.inl ⟨by rfl, ?_⟩) (by assumption) ?_
  rotate_left
  ·
   (intro w hSw; (try dsimp only at hSw); go_simp; try with_reducible rfl)
  try simp only [Act.put, qA1, qA2, qA3, qA4, qA5, qA6]
  refine wpAnyH_ready (rs := [6, 8]) qKr (by simp) ?_
  refine AllReadyH.cons rfl (fun K hK => ?_) (AllReadyH.cons rfl (fun K hK => ?_) AllReadyH.nil)
  rotate_left
  try simp only [Act.put, qA1, qA2, qA3, qA4, qA5, qA6]
  go_simp
  refine hK.out _ _ ⟨(show Ext w2 _ from qXt).cell ea0, (show Ext w2 _ from qXt).cell va1, (show Ext w2 _ from qXt).cell sl0, (show Ext w2 _ from qXt).cell sl1, (show Ext w2 _ from qXt).cell sl2, (show Ext w2 _ from qXt).cell sl3, (show Ext w2 _ from qXt).cell sl4⟩ (fun hHeld => ?_)
  clear hK K
  try simp only [Act.put, qA1, qA2, qA3, qA4, qA5, qA6]
  have qa0 : (w2.drew.alloc (.cells #[.int .i64 0, .int .i64 0, .int .i64 0] 88)).cell? ⟨w2.heap.size, 0, none⟩ = some (.int .i64 0) := qCl
  have qf0 : (w2.drew.alloc (.cells #[.int .i64 0, .int .i64 0, .int .i64 0] 88)).frozen? ⟨w2.heap.size, 0, none⟩ = false := qFz
  have qa1 : (w2.drew.alloc (.cells #[.int .i64 0, .int .i64 0, .int .i64 0] 88)).cell? ⟨w2.heap.size, 1, none⟩ = some (.int .i64 0) := qCl
  have qf1 : (w2.drew.alloc (.cells #[.int .i64 0, .int .i64 0, .int .i64 0] 88)).frozen? ⟨w2.heap.size, 1, none⟩ = false := qFz
  have qa2 : (w2.drew.alloc (.cells #[.int .i64 0, .int .i64 0, .int .i64 0] 88)).cell? ⟨w2.heap.size, 2, none⟩ = some (.int .i64 0) := qCl
  have qf2 : (w2.drew.alloc (.cells #[.int .i64 0, .int .i64 0, .int .i64 0] 88)).frozen? ⟨w2.heap.size, 2, none⟩ = false := qFz
  have zg : w2.heap.size < (w2.drew.alloc (.cells #[.int .i64 0, .int .i64 0, .int .i64 0] 88)).heap.size := qB qa0
  have hg : w2.heap.size ≤ w2.heap.size := Nat.le_refl _
  refine wpAnyH_ready (rs := [6]) qKr (by simp) ?_
  refine AllReadyH.cons rfl (fun K hK => ?_) AllReadyH.nil
  try simp only [Act.put, qA1, qA2, qA3, qA4, qA5, qA6]
  go_simp
  refine (indices_c n F T B hf ht _ (by omega) hsl.out).mono ?_
  rintro e w3 ⟨r3, rfl, i3, -, xw3⟩
  have Lw3 : Ext w2 w3 := Ext.trans qXt xw3
  replace ea0 := Lw3.cell ea0
  replace va1 := Lw3.cell va1
  replace sl0 := Lw3.cell sl0
  replace sl1 := Lw3.cell sl1
  replace sl2 := Lw3.cell sl2
  replace sl3 := Lw3.cell sl3
  replace sl4 := Lw3.cell sl4
  rw [hLI.out] at i3
  replace qa0 := xw3.cell qa0
  replace qf0 := xw3.frz zg qf0
  replace qa1 := xw3.cell qa1
  replace qf1 := xw3.frz zg qf1
  replace qa2 := xw3.cell qa2
  replace qf2 := xw3.frz zg qf2
  replace zg := Nat.lt_of_lt_of_le zg xw3.size
  refine hK.out _ _ ⟨ea0, va1, sl0, sl1, sl2, sl3, sl4⟩ (fun hHeld => ?_)
  clear hK K
  try simp only [Act.put, qA1, qA2, qA3, qA4, qA5, qA6]
  refine wpAnyH_ready (rs := [7]) qKr (by simp) ?_
  refine AllReadyH.cons rfl (fun K hK => ?_) AllReadyH.nil
  try simp only [Act.put, qA1, qA2, qA3, qA4, qA5, qA6]
  go_simp
  refine (hnorm.out _ _ _ (i3.ext qXt)).mono ?_
  rintro e w4 ⟨rfl, xw4⟩
  have Lw4 : Ext w3 w4 := Ext.trans qXt xw4
  replace ea0 := Lw4.cell ea0
  replace va1 := Lw4.cell va1
  replace sl0 := Lw4.cell sl0
  replace sl1 := Lw4.cell sl1
  replace sl2 := Lw4.cell sl2
  replace sl3 := Lw4.cell sl3
  replace sl4 := Lw4.cell sl4
  replace qa0 := xw4.cell qa0
  replace qf0 := xw4.frz zg qf0
  replace qa1 := xw4.cell qa1
  replace qf1 := xw4.frz zg qf1
  replace qa2 := xw4.cell qa2
  replace qf2 := xw4.frz zg qf2
  replace zg := Nat.lt_of_lt_of_le zg xw4.size
  refine hK.out _ _ ⟨ea0, va1, sl0, sl1, sl2, sl3, sl4⟩ (fun hHeld => ?_)
  clear hK K
  try simp only [Act.put, qA1, qA2, qA3, qA4, qA5, qA6]
  refine wpAnyH_ready (rs := [9]) qKr (by simp) ?_
  refine AllReadyH.cons rfl (fun K hK => ?_) AllReadyH.nil
  try simp only [Act.put, qA1, qA2, qA3, qA4, qA5, qA6]
  go_simp
  have XE : Ext w2 (((w4.setCell ⟨w2.heap.size, 0, none⟩ (.int .i64 A)).setCell ⟨w2.heap.size, 1, none⟩ (.int .i64 A2)).setCell ⟨w2.heap.size, 2, none⟩ (.int .i64 A3)) := (Ext.setCell (Ext.setCell (Ext.setCell (Lw3.trans Lw4) hg _) hg _) hg _)
  have nr0 : (((w4.setCell ⟨w2.heap.size, 0, none⟩ (.int .i64 A)).setCell ⟨w2.heap.size, 1, none⟩ (.int .i64 A2)).setCell ⟨w2.heap.size, 2, none⟩ (.int .i64 A3)).cell? ⟨w2.heap.size, 0, none⟩ = some (.int .i64 A) := qCl
  have f_nr0 : (((w4.setCell ⟨w2.heap.size, 0, none⟩ (.int .i64 A)).setCell ⟨w2.heap.size, 1, none⟩ (.int .i64 A2)).setCell ⟨w2.heap.size, 2, none⟩ (.int .i64 A3)).frozen? ⟨w2.heap.size, 0, none⟩ = false := qFz
  have nr1 : (((w4.setCell ⟨w2.heap.size, 0, none⟩ (.int .i64 A)).setCell ⟨w2.heap.size, 1, none⟩ (.int .i64 A2)).setCell ⟨w2.heap.size, 2, none⟩ (.int .i64 A3)).cell? ⟨w2.heap.size, 1, none⟩ = some (.int .i64 A2) := qCl
  have f_nr1 : (((w4.setCell ⟨w2.heap.size, 0, none⟩ (.int .i64 A)).setCell ⟨w2.heap.size, 1, none⟩ (.int .i64 A2)).setCell ⟨w2.heap.size, 2, none⟩ (.int .i64 A3)).frozen? ⟨w2.heap.size, 1, none⟩ = false := qFz
  have nr2 : (((w4.setCell ⟨w2.heap.size, 0, none⟩ (.int .i64 A)).setCell ⟨w2.heap.size, 1, none⟩ (.int .i64 A2)).setCell ⟨w2.heap.size, 2, none⟩ (.int .i64 A3)).cell? ⟨w2.heap.size, 2, none⟩ = some (.int .i64 A3) := qCl
  have f_nr2 : (((w4.setCell ⟨w2.heap.size, 0, none⟩ (.int .i64 A)).setCell ⟨w2.heap.size, 1, none⟩ (.int .i64 A2)).setCell ⟨w2.heap.size, 2, none⟩ (.int .i64 A3)).frozen? ⟨w2.heap.size, 2, none⟩ = false := qFz
  have hg1 : w2.heap.size ≤ w2.heap.size := hg
  have KE : Chg w2.heap.size (w2.heap.size + 1) w4 (((w4.setCell ⟨w2.heap.size, 0, none⟩ (.int .i64 A)).setCell ⟨w2.heap.size, 1, none⟩ (.int .i64 A2)).setCell ⟨w2.heap.size, 2, none⟩ (.int .i64 A3)) := (by repeat (first | (with_reducible exact Chg.refl _ _ _) | (with_reducible refine Chg.setCell ?_ qSo qSo _) | (with_reducible refine Chg.ext ?_ (Ext.alloc (Ext.refl _) _)) | (with_reducible refine Chg.ext ?_ (Ext.drew (Ext.refl _)))))
  replace ea0 := KE.cell (by omega) ea0
  replace va1 := KE.cell (by omega) va1
  replace sl0 := KE.cell (by omega) sl0
  replace sl1 := KE.cell (by omega) sl1
  replace sl2 := KE.cell (by omega) sl2
  replace sl3 := KE.cell (by omega) sl3
  replace sl4 := KE.cell (by omega) sl4
  refine hK.out _ _ ⟨ea0, va1, sl0, sl1, sl2, sl3, sl4⟩ (fun hHeld => ?_)
  clear hK K KE
  try simp only [Act.put, qA1, qA2, qA3, qA4, qA5, qA6]
  refine wpAnyH_done qKr ?_ _
  clear hHeld
  generalize (((w4.setCell ⟨w2.heap.size, 0, none⟩ (.int .i64 A)).setCell ⟨w2.heap.size, 1, none⟩ (.int .i64 A2)).setCell ⟨w2.heap.size, 2, none⟩ (.int .i64 A3)) = WE at *
  go_step
  go_step
  go_meet
  case rel => exact ⟨_, rfl, XE, hg1, nr0, nr1, nr2⟩
  try simp only [Act.put, qA1, qA2, qA3, qA4, qA5, qA6]
  go_simp
  refine (indices_c n F T B hf ht _ (by omega) hsl.out).mono ?_
  rintro e w3 ⟨r3, rfl, i3, -, xw3⟩
  have Lw3 : Ext w2 w3 := Ext.trans qXt xw3
  replace ea0 := Lw3.cell ea0
  replace va1 := Lw3.cell va1
  replace sl0 := Lw3.cell sl0
  replace sl1 := Lw3.cell sl1
  replace sl2 := Lw3.cell sl2
  replace sl3 := Lw3.cell sl3
  replace sl4 := Lw3.cell sl4
  rw [hLI.out] at i3
  refine hK.out _ _ ⟨ea0, va1, sl0, sl1, sl2, sl3, sl4⟩ (fun hHeld => ?_)
  clear hK K
  try simp only [Act.put, qA1, qA2, qA3, qA4, qA5, qA6]
  refine wpAnyH_ready (rs := [7, 8]) qKr (by simp) ?_
  refine AllReadyH.cons rfl (fun K hK => ?_) (AllReadyH.cons rfl (fun K hK => ?_) AllReadyH.nil)
  rotate_left
  try simp only [Act.put, qA1, qA2, qA3, qA4, qA5, qA6]
  go_simp
  refine hK.out _ _ ⟨(show Ext w3 _ from qXt).cell ea0, (show Ext w3 _ from qXt).cell va1, (show Ext w3 _ from qXt).cell sl0, (show Ext w3 _ from qXt).cell sl1, (show Ext w3 _ from qXt).cell sl2, (show Ext w3 _ from qXt).cell sl3, (show Ext w3 _ from qXt).cell sl4⟩ (fun hHeld => ?_)
  clear hK K
  try simp only [Act.put, qA1, qA2, qA3, qA4, qA5, qA6]
  have qa0 : (w3.alloc (.cells #[.int .i64 0, .int .i64 0, .int .i64 0] 88)).cell? ⟨w3.heap.size, 0, none⟩ = some (.int .i64 0) := qCl
  have qf0 : (w3.alloc (.cells #[.int .i64 0, .int .i64 0, .int .i64 0] 88)).frozen? ⟨w3.heap.size, 0, none⟩ = false := qFz
  have qa1 : (w3.alloc (.cells #[.int .i64 0, .int .i64 0, .int .i64 0] 88)).cell? ⟨w3.heap.size, 1, none⟩ = some (.int .i64 0) := qCl
  have qf1 : (w3.alloc (.cells #[.int .i64 0, .int .i64 0, .int .i64 0] 88)).frozen? ⟨w3.heap.size, 1, none⟩ = false := qFz
  have qa2 : (w3.alloc (.cells #[.int .i64 0, .int .i64 0, .int .i64 0] 88)).cell? ⟨w3.heap.size, 2, none⟩ = some (.int .i64 0) := qCl
  have qf2 : (w3.alloc (.cells #[.int .i64 0, .int .i64 0, .int .i64 0] 88)).frozen? ⟨w3.heap.size, 2, none⟩ = false := qFz
  have zg : w3.heap.size < (w3.alloc (.cells #[.int .i64 0, .int .i64 0, .int .i64 0] 88)).heap.size := qB qa0
  have hg : w2.heap.size ≤ w3.heap.size := (Lw3).size
  refine wpAnyH_ready (rs := [7]) qKr (by simp) ?_
  refine AllReadyH.cons rfl (fun K hK => ?_) AllReadyH.nil
  try simp only [Act.put, qA1, qA2, qA3, qA4, qA5, qA6]
  go_simp
  refine (hnorm.out _ _ _ (i3.ext qXt)).mono ?_
  rintro e w4 ⟨rfl, xw4⟩
  have Lw4 : Ext w3 w4 := Ext.trans qXt xw4
  replace ea0 := Lw4.cell ea0
  replace va1 := Lw4.cell va1
  replace sl0 := Lw4.cell sl0
  replace sl1 := Lw4.cell sl1
  replace sl2 := Lw4.cell sl2
  replace sl3 := Lw4.cell sl3
  replace sl4 := Lw4.cell sl4
  replace qa0 := xw4.cell qa0
  replace qf0 := xw4.frz zg qf0
  replace qa1 := xw4.cell qa1
  replace qf1 := xw4.frz zg qf1
  replace qa2 := xw4.cell qa2
  replace qf2 := xw4.frz zg qf2
  replace zg := Nat.lt_of_lt_of_le zg xw4.size
  refine hK.out _ _ ⟨ea0, va1, sl0, sl1, sl2, sl3, sl4⟩ (fun hHeld => ?_)
  clear hK K
  try simp only [Act.put, qA1, qA2, qA3, qA4, qA5, qA6]
  refine wpAnyH_ready (rs := [9]) qKr (by simp) ?_
  refine AllReadyH.cons rfl (fun K hK => ?_) AllReadyH.nil
  try simp only [Act.put, qA1, qA2, qA3, qA4, qA5, qA6]
  go_simp
  have XE : Ext w2 (((w4.setCell ⟨w3.heap.size, 0, none⟩ (.int .i64 A)).setCell ⟨w3.heap.size, 1, none⟩ (.int .i64 A2)).setCell ⟨w3.heap.size, 2, none⟩ (.int .i64 A3)) := (Ext.setCell (Ext.setCell (Ext.setCell (Lw3.trans Lw4) hg _) hg _) hg _)
  have nr0 : (((w4.setCell ⟨w3.heap.size, 0, none⟩ (.int .i64 A)).setCell ⟨w3.heap.size, 1, none⟩ (.int .i64 A2)).setCell ⟨w3.heap.size, 2, none⟩ (.int .i64 A3)).cell? ⟨w3.heap.size, 0, none⟩ = some (.int .i64 A) := qCl
  have f_nr0 : (((w4.setCell ⟨w3.heap.size, 0, none⟩ (.int .i64 A)).setCell ⟨w3.heap.size, 1, none⟩ (.int .i64 A2)).setCell ⟨w3.heap.size, 2, none⟩ (.int .i64 A3)).frozen? ⟨w3.heap.size, 0, none⟩ = false := qFz
  have nr1 : (((w4.setCell ⟨w3.heap.size, 0, none⟩ (.int .i64 A)).setCell ⟨w3.heap.size, 1, none⟩ (.int .i64 A2)).setCell ⟨w3.heap.size, 2, none⟩ (.int .i64 A3)).cell? ⟨w3.heap.size, 1, none⟩ = some (.int .i64 A2) := qCl
  have f_nr1 : (((w4.setCell ⟨w3.heap.size, 0, none⟩ (.int .i64 A)).setCell ⟨w3.heap.size, 1, none⟩ (.int .i64 A2)).setCell ⟨w3.heap.size, 2, none⟩ (.int .i64 A3)).frozen? ⟨w3.heap.size, 1, none⟩ = false := qFz
  have nr2 : (((w4.setCell ⟨w3.heap.size, 0, none⟩ (.int .i64 A)).setCell ⟨w3.heap.size, 1, none⟩ (.int .i64 A2)).setCell ⟨w3.heap.size, 2, none⟩ (.int .i64 A3)).cell? ⟨w3.heap.size, 2, none⟩ = some (.int .i64 A3) := qCl
  have f_nr2 : (((w4.setCell ⟨w3.heap.size, 0, none⟩ (.int .i64 A)).setCell ⟨w3.heap.size, 1, none⟩ (.int .i64 A2)).setCell ⟨w3.heap.size, 2, none⟩ (.int .i64 A3)).frozen? ⟨w3.heap.size, 2, none⟩ = false := qFz
  have hg1 : w2.heap.size ≤ w3.heap.size := hg
  have KE : Chg w3.heap.size (w3.heap.size + 1) w4 (((w4.setCell ⟨w3.heap.size, 0, none⟩ (.int .i64 A)).setCell ⟨w3.heap.size, 1, none⟩ (.int .i64 A2)).setCell ⟨w3.heap.size, 2, none⟩ (.int .i64 A3)) := (by repeat (first | (with_reducible exact Chg.refl _ _ _) | (with_reducible refine Chg.setCell ?_ qSo qSo _) | (with_reducible refine Chg.ext ?_ (Ext.alloc (Ext.refl _) _)) | (with_reducible refine Chg.ext ?_ (Ext.drew (Ext.refl _)))))
  replace ea0 := KE.cell (by omega) ea0
  replace va1 := KE.cell (by omega) va1
  replace sl0 := KE.cell (by omega) sl0
  replace sl1 := KE.cell (by omega) sl1
  replace sl2 := KE.cell (by omega) sl2
  replace sl3 := KE.cell (by omega) sl3
  replace sl4 := KE.cell (by omega) sl4
  refine hK.out _ _ ⟨ea0, va1, sl0, sl1, sl2, sl3, sl4⟩ (fun hHeld => ?_)
  clear hK K KE
  try simp only [Act.put, qA1, qA2, qA3, qA4, qA5, qA6]
  refine wpAnyH_done qKr ?_ _
  clear hHeld
  generalize (((w4.setCell ⟨w3.heap.size, 0, none⟩ (.int .i64 A)).setCell ⟨w3.heap.size, 1, none⟩ (.int .i64 A2)).setCell ⟨w3.heap.size, 2, none⟩ (.int .i64 A3)) = WE at *
  go_step
  go_step
  go_meet
  case rel => exact ⟨_, rfl, XE, hg1, nr0, nr1, nr2⟩
  try simp only [Act.put, qA1, qA2, qA3, qA4, qA5, qA6]
  go_simp
  refine (hnorm.out _ _ _ (i3.ext qXt)).mono ?_
  rintro e w4 ⟨rfl, xw4⟩
  have Lw4 : Ext w3 w4 := Ext.trans qXt xw4
  replace ea0 := Lw4.cell ea0
  replace va1 := Lw4.cell va1
  replace sl0 := Lw4.cell sl0
  replace sl1 := Lw4.cell sl1
  replace sl2 := Lw4.cell sl2
  replace sl3 := Lw4.cell sl3
  replace sl4 := Lw4.cell sl4
  refine hK.out _ _ ⟨ea0, va1, sl0, sl1, sl2, sl3, sl4⟩ (fun hHeld => ?_)
  clear hK K
  try simp only [Act.put, qA1, qA2, qA3, qA4, qA5, qA6]
  refine wpAnyH_ready (rs := [8]) qKr (by simp) ?_
  refine AllReadyH.cons rfl (fun K hK => ?_) AllReadyH.nil
  try simp only [Act.put, qA1, qA2, qA3, qA4, qA5, qA6]
  go_simp
  refine hK.out _ _ ⟨(show Ext w4 _ from qXt).cell ea0, (show Ext w4 _ from qXt).cell va1, (show Ext w4 _ from qXt).cell sl0, (show Ext w4 _ from qXt).cell sl1, (show Ext w4 _ from qXt).cell sl2, (show Ext w4 _ from qXt).cell sl3, (show Ext w4 _ from qXt).cell sl4⟩ (fun hHeld => ?_)
  clear hK K
  try simp only [Act.put, qA1, qA2, qA3, qA4, qA5, qA6]
  refine wpAnyH_ready (rs := [9]) qKr (by simp) ?_
  refine AllReadyH.cons rfl (fun K hK => ?_) AllReadyH.nil
  try simp only [Act.put, qA1, qA2, qA3, qA4, qA5, qA6]
  go_simp
  have XE : Ext w2 (w4.alloc (.cells #[.int .i64 A, .int .i64 A2, .int .i64 A3] 88)) := (Lw3.trans Lw4).trans qXo
  have nr0 : (w4.alloc (.cells #[.int .i64 A, .int .i64 A2, .int .i64 A3] 88)).cell? ⟨w4.heap.size, 0, none⟩ = some (.int .i64 A) := qCl
  have f_nr0 : (w4.alloc (.cells #[.int .i64 A, .int .i64 A2, .int .i64 A3] 88)).frozen? ⟨w4.heap.size, 0, none⟩ = false := qFz
  have nr1 : (w4.alloc (.cells #[.int .i64 A, .int .i64 A2, .int .i64 A3] 88)).cell? ⟨w4.heap.size, 1, none⟩ = some (.int .i64 A2) := qCl
  have f_nr1 : (w4.alloc (.cells #[.int .i64 A, .int .i64 A2, .int .i64 A3] 88)).frozen? ⟨w4.heap.size, 1, none⟩ = false := qFz
  have nr2 : (w4.alloc (.cells #[.int .i64 A, .int .i64 A2, .int .i64 A3] 88)).cell? ⟨w4.heap.size, 2, none⟩ = some (.int .i64 A3) := qCl
  have f_nr2 : (w4.alloc (.cells #[.int .i64 A, .int .i64 A2, .int .i64 A3] 88)).frozen? ⟨w4.heap.size, 2, none⟩ = false := qFz
  have hg1 : w2.heap.size ≤ w4.heap.size := (Lw3.trans Lw4).size
  have KE : Ext w4 (w4.alloc (.cells #[.int .i64 A, .int .i64 A2, .int .i64 A3] 88)) := qXo
  replace ea0 := KE.cell ea0
  replace va1 := KE.cell va1
  replace sl0 := KE.cell sl0
  replace sl1 := KE.cell sl1
  replace sl2 := KE.cell sl2
  replace sl3 := KE.cell sl3
  replace sl4 := KE.cell sl4
  refine hK.out _ _ ⟨ea0, va1, sl0, sl1, sl2, sl3, sl4⟩ (fun hHeld => ?_)
  clear hK K KE
  try simp only [Act.put, qA1, qA2, qA3, qA4, qA5, qA6]
  refine wpAnyH_done qKr ?_ _
  clear hHeld
  generalize (w4.alloc (.cells #[.int .i64 A, .int .i64 A2, .int .i64 A3] 88)) = WE at *
  go_step
  go_step
  go_meet
  case rel => exact ⟨_, rfl, XE, hg1, nr0, nr1, nr2⟩
 case rest =>
  obtain ⟨g, rfl, xx, hgs, e0, e1, e2⟩ := hcut
  have hge : w1.heap.size < g := by omega
  have Lwc : Ext w2 wc := Ext.trans qXt xx
  have Xwc : Ext w wc := Xw2.trans Lwc
  replace ea0 := Lwc.cell ea0
  replace eb0 := Lwc.cell eb0
  replace va0 := Lwc.cell va0
  replace va1 := Lwc.cell va1
  replace va2 := Lwc.cell va2
  replace sl0 := Lwc.cell sl0
  replace sl1 := Lwc.cell sl1
  replace sl2 := Lwc.cell sl2
  replace sl3 := Lwc.cell sl3
  replace sl4 := Lwc.cell sl4
  replace q0 := Lwc.cell q0
  replace q1 := Lwc.cell q1
  replace q2 := Lwc.cell q2
  replace f_q0 := Lwc.frz z_q f_q0
  replace f_q1 := Lwc.frz z_q f_q1
  replace f_q2 := Lwc.frz z_q f_q2
  replace y0 := Lwc.cell y0
  replace y1 := Lwc.cell y1
  replace y2 := Lwc.cell y2
  replace f_y0 := Lwc.frz z_y f_y0
  replace f_y1 := Lwc.frz z_y f_y1
  replace f_y2 := Lwc.frz z_y f_y2
  have z_ea : b1s < wc.heap.size := qB ea0
  have z_eb : b2s < wc.heap.size := qB eb0
  have z_va : w.heap.size < wc.heap.size := qB va0
  have z_sl : w.heap.size + 1 < wc.heap.size := qB sl0
  have z_q : w.heap.size + 1 + 1 < wc.heap.size := qB q0
  have z_y : w1.heap.size < wc.heap.size := qB y0
  replace O1 := O1.ext Lwc
  replace O2 := O2.ext Lwc
  have s_wc : w.heap.size ≤ wc.heap.size := Xwc.size
  have z_e : g < wc.heap.size := qB e0
  clear xx hnorm
  go_wp2_with fail
  refine (hnum.out _).mono ?_
  rintro e w6 ⟨v9, rfl, i9, -, xw6⟩
  have Lw6 : Ext wc w6 := Ext.trans qXt xw6
  have Xw6 : Ext w w6 := Xwc.trans Lw6
  replace ea0 := Lw6.cell ea0
  replace eb0 := Lw6.cell eb0
  replace va0 := Lw6.cell va0
  replace va1 := Lw6.cell va1
  replace va2 := Lw6.cell va2
  replace sl0 := Lw6.cell sl0
  replace sl1 := Lw6.cell sl1
  replace sl2 := Lw6.cell sl2
  replace sl3 := Lw6.cell sl3
  replace sl4 := Lw6.cell sl4
  replace q0 := Lw6.cell q0
  replace q1 := Lw6.cell q1
  replace q2 := Lw6.cell q2
  replace f_q0 := Lw6.frz z_q f_q0
  replace f_q1 := Lw6.frz z_q f_q1
  replace f_q2 := Lw6.frz z_q f_q2
  replace y0 := Lw6.cell y0
  replace y1 := Lw6.cell y1
  replace y2 := Lw6.cell y2
  replace f_y0 := Lw6.frz z_y f_y0
  replace f_y1 := Lw6.frz z_y f_y1
  replace f_y2 := Lw6.frz z_y f_y2
  replace e0 := Lw6.cell e0
  replace e1 := Lw6.cell e1
  replace e2 := Lw6.cell e2
  have z_ea : b1s < w6.heap.size := qB ea0
  have z_eb : b2s < w6.heap.size := qB eb0
  have z_va : w.heap.size < w6.heap.size := qB va0
  have z_sl : w.heap.size + 1 < w6.heap.size := qB sl0
  have z_q : w.heap.size + 1 + 1 < w6.heap.size := qB q0
  have z_y : w1.heap.size < w6.heap.size := qB y0
  have z_e : g < w6.heap.size := qB e0
  replace O1 := O1.ext Lw6
  replace O2 := O2.ext Lw6
  have s_w6 : w.heap.size ≤ w6.heap.size := Xw6.size
  clear xw6
  obtain ⟨p9, n9, rfl⟩ := i9.form
  have A1 := O1.cell d hd
  obtain ⟨A1a, A1b⟩ := A1
  go_wp2_with fail
  have Kw7 : Chg (g1) (g1 + 1) w6 (w6.setCell ⟨g1, d, none⟩ (.int .i64 (L.length : Int))) := (Chg.setCell (p := ⟨g1, d, none⟩) (Chg.refl (g1) (g1 + 1) _) (Nat.le_refl _) (Nat.lt_succ_self _) (.int .i64 (L.length : Int)))
  have Xw7 : Ext w (w6.setCell ⟨g1, d, none⟩ (.int .i64 (L.length : Int))) := (Ext.setCell (p := ⟨g1, d, none⟩) Xw6 qSo (.int .i64 (L.length : Int)))
  replace ea0 := Kw7.cell (by omega) ea0
  replace eb0 := Kw7.cell (by omega) eb0
  replace va0 := Kw7.cell (by omega) va0
  replace va1 := Kw7.cell (by omega) va1
  replace va2 := Kw7.cell (by omega) va2
  replace sl0 := Kw7.cell (by omega) sl0
  replace sl1 := Kw7.cell (by omega) sl1
  replace sl2 := Kw7.cell (by omega) sl2
  replace sl3 := Kw7.cell (by omega) sl3
  replace sl4 := Kw7.cell (by omega) sl4
  replace q0 := Kw7.cell (by omega) q0
  replace f_q0 := Kw7.frzO (by omega) z_q f_q0
  replace q1 := Kw7.cell (by omega) q1
  replace f_q1 := Kw7.frzO (by omega) z_q f_q1
  replace q2 := Kw7.cell (by omega) q2
  replace f_q2 := Kw7.frzO (by omega) z_q f_q2
  replace y0 := Kw7.cell (by omega) y0
  replace f_y0 := Kw7.frzO (by omega) z_y f_y0
  replace y1 := Kw7.cell (by omega) y1
  replace f_y1 := Kw7.frzO (by omega) z_y f_y1
  replace y2 := Kw7.cell (by omega) y2
  replace f_y2 := Kw7.frzO (by omega) z_y f_y2
  replace e0 := Kw7.cell (by omega) e0
  replace e1 := Kw7.cell (by omega) e1
  replace e2 := Kw7.cell (by omega) e2
  have n_O1 := O1.set d (L.length) (by first | omega | (simp; omega))
  replace O1 := n_O1
  clear n_O1
  replace O2 := O2.chgN Kw7 (by omega)
  clear Kw7
  have z_ea : b1s < (w6.setCell ⟨g1, d, none⟩ (.int .i64 (L.length : Int))).heap.size := qB ea0
  have z_eb : b2s < (w6.setCell ⟨g1, d, none⟩ (.int .i64 (L.length : Int))).heap.size := qB eb0
  have z_va : w.heap.size < (w6.setCell ⟨g1, d, none⟩ (.int .i64 (L.length : Int))).heap.size := qB va0
  have z_sl : w.heap.size + 1 < (w6.setCell ⟨g1, d, none⟩ (.int .i64 (L.length : Int))).heap.size := qB sl0
  have z_q : w.heap.size + 1 + 1 < (w6.setCell ⟨g1, d, none⟩ (.int .i64 (L.length : Int))).heap.size := qB q0
  have z_y : w1.heap.size < (w6.setCell ⟨g1, d, none⟩ (.int .i64 (L.length : Int))).heap.size := qB y0
  have z_e : g < (w6.setCell ⟨g1, d, none⟩ (.int .i64 (L.length : Int))).heap.size := qB e0
  have s_w7 : w.heap.size ≤ (w6.setCell ⟨g1, d, none⟩ (.int .i64 (L.length : Int))).heap.size := Xw7.size
  generalize (w6.setCell ⟨g1, d, none⟩ (.int .i64 (L.length : Int))) = w7 at *
  go_wp2_with fail
  have hw0 : IntKind.i64.wrap (A * x) = A * x := IntWalk.i64_in _ (by omega)
  have hw1 : IntKind.i64.wrap (b1 + A * x) = b1 + A * x := IntWalk.i64_in _ (by omega)
  refine wp_region_tail (S := fun w' => w'.cell? ⟨b2s, o2s + d, none⟩ = some (.int .i64 x) ∧ w'.cell? ⟨w.heap.size, 0, none⟩ = some (.int .i64 b1) ∧ w'.cell? ⟨w.heap.size, 2, none⟩ = some (.slice (some ⟨b2s, o2s, none⟩) t1.length cp2) ∧ w'.cell? ⟨g, 0, none⟩ = some (.int .i64 A)) (fun i => decide (12 ≤ i)) qKr ⟨eb0, va0, va2, e0⟩ (fun hHeld => ?_)
  refine wpTail_take (i := 0) (v := ?_) rfl qKr qKr qKr rfl qKr (fun _ _ _ h => h) (Or.inl ⟨by rfl, ?_⟩) (by assumption) ?_
  rotate_left
  ·
   (intro w hSw; (try dsimp only at hSw); go_simp; try with_reducible rfl)
  try simp only [Act.put, qA1, qA2, qA3, qA4, qA5, qA6]
  refine wpTail_take (i := 1) (v := ?_) rfl qKr qKr qKr rfl qKr (fun _ _ _ h => h) (Or.inl ⟨by rfl, ?_⟩) (by assumption) ?_
  rotate_left
  ·
   (intro w hSw; (try dsimp only at hSw); go_simp; try with_reducible rfl)
  try simp only [Act.put, qA1, qA2, qA3, qA4, qA5, qA6]
  refine wpTail_take (i := 2) (v := ?_) rfl qKr qKr qKr rfl qKr (fun _ _ _ h => h) (Or.inl ⟨by rfl, ?_⟩) (by assumption) ?_
  rotate_left
  ·
   (intro w hSw; (try dsimp only at hSw); go_simp; try with_reducible rfl)
  try simp only [Act.put, qA1, qA2, qA3, qA4, qA5, qA6]
  refine wpTail_take (i := 3) (v := ?_) rfl qKr qKr qKr rfl qKr (fun _ _ _ h => h) (Or.inl ⟨by rfl, ?_⟩) (by assumption) ?_
  rotate_left
  ·
   (intro w hSw; (try dsimp only at hSw); go_simp; try with_reducible rfl)
  try simp only [Act.put, qA1, qA2, qA3, qA4, qA5, qA6]
  refine wpTail_take (i := 4) (v := ?_) rfl qKr qKr qKr rfl qKr (fun _ _ _ h => h) (Or.inl ⟨by rfl, ?_⟩) (by assumption) ?_
  rotate_left
  ·
   (intro w hSw; (try dsimp only at hSw); go_simp; try with_reducible rfl)
  try simp only [Act.put, qA1, qA2, qA3, qA4, qA5, qA6]
  refine wpTail_take (i := 5) (v := ?_) rfl qKr qKr qKr rfl qKr (fun _ _ _ h => h) (Or.inl ⟨by rfl, ?_⟩) (by assumption) ?_
  rotate_left
  ·
   (intro w hSw; (try dsimp only at hSw); go_simp; try with_reducible rfl)
  try simp only [Act.put, qA1, qA2, qA3, qA4, qA5, qA6]
  refine wpTail_take (i := 6) (v := ?_) rfl qKr qKr qKr rfl qKr (fun _ _ _ h => h) (Or.inl ⟨by rfl, ?_⟩) (by assumption) ?_
  rotate_left
  ·
   (intro w hSw; (try dsimp only at hSw); go_simp; try with_reducible rfl)
  try simp only [Act.put, qA1, qA2, qA3, qA4, qA5, qA6]
  refine wpTail_take (i := 7) (v := ?_) rfl qKr qKr qKr rfl qKr (fun _ _ _ h => h) (Or.inl ⟨by rfl, ?_⟩) (by assumption) ?_
  rotate_left
  ·
   (intro w hSw; (try dsimp only at hSw); go_simp; try with_reducible rfl)
  try simp only [Act.put, qA1, qA2, qA3, qA4, qA5, qA6]
  refine wpTail_take (i := 8) (v := ?_) rfl qKr qKr qKr rfl qKr (fun _ _ _ h => h) (Or.inl ⟨by rfl, ?_⟩) (by assumption) ?_
  rotate_left
  ·
   (intro w hSw; (try dsimp only at hSw); go_simp; try with_reducible rfl)
  try simp only [Act.put, qA1, qA2, qA3, qA4, qA5, qA6]
  refine wpTail_take (i := 9) (v := ?_) rfl qKr qKr qKr rfl qKr (fun _ _ _ h => h) (Or.inl ⟨by rfl, ?_⟩) (by assumption) ?_
  rotate_left
  ·
   (intro w hSw; (try dsimp only at hSw); go_simp; try with_reducible rfl)
  try simp only [Act.put, qA1, qA2, qA3, qA4, qA5, qA6]
  refine wpTail_take (i := 10) (v := ?_) rfl qKr qKr qKr rfl qKr (fun _ _ _ h => h) (Or.inl ⟨by rfl, ?_⟩) (by assumption) ?_
  rotate_left
  ·
   (intro w hSw; (try dsimp only at hSw); go_simp; try with_reducible rfl)
  try simp only [Act.put, qA1, qA2, qA3, qA4, qA5, qA6]
  refine wpTail_take (i := 11) (v := ?_) rfl qKr qKr qKr rfl qKr (fun _ _ _ h => h) (Or.inl ⟨by rfl, ?_⟩) (by assumption) ?_
  rotate_left
  ·
   (intro w hSw; (try dsimp only at hSw); go_simp; try with_reducible rfl)
  try simp only [Act.put, qA1, qA2, qA3, qA4, qA5, qA6]
  refine wpTail_last (i := 12) qKr rfl rfl (fun K hK => ?_)
  try simp only [Act.put, qA1, qA2, qA3, qA4, qA5, qA6]
  go_simp
  refine hK.out _ _ ?_
  clear hK K
  try simp only [Act.put, qA1, qA2, qA3, qA4, qA5, qA6]
  refine wpTail_done qKr ?_ _
  clear hHeld hw0 hw1
  have Kw8 : Chg (w1.heap.size) (w1.heap.size + 1) w7 ((w7.setCell ⟨w1.heap.size, 0, none⟩ (.int .i64 (b1 + A * x))).drew) := ((Chg.setCell (p := ⟨w1.heap.size, 0, none⟩) (Chg.refl (w1.heap.size) (w1.heap.size + 1) _) (Nat.le_refl _) (Nat.lt_succ_self _) (.int .i64 (b1 + A * x))).ext (Ext.drew (Ext.refl _)))
  have Xw8 : Ext w ((w7.setCell ⟨w1.heap.size, 0, none⟩ (.int .i64 (b1 + A * x))).drew) := (Ext.drew (Ext.setCell (p := ⟨w1.heap.size, 0, none⟩) Xw7 qSo (.int .i64 (b1 + A * x))))
  replace ea0 := Kw8.cell (by omega) ea0
  replace eb0 := Kw8.cell (by omega) eb0
  replace va0 := Kw8.cell (by omega) va0
  replace va1 := Kw8.cell (by omega) va1
  replace va2 := Kw8.cell (by omega) va2
  replace sl0 := Kw8.cell (by omega) sl0
  replace sl1 := Kw8.cell (by omega) sl1
  replace sl2 := Kw8.cell (by omega) sl2
  replace sl3 := Kw8.cell (by omega) sl3
  replace sl4 := Kw8.cell (by omega) sl4
  replace q0 := Kw8.cell (by omega) q0
  replace f_q0 := Kw8.frzO (by omega) z_q f_q0
  replace q1 := Kw8.cell (by omega) q1
  replace f_q1 := Kw8.frzO (by omega) z_q f_q1
  replace q2 := Kw8.cell (by omega) q2
  replace f_q2 := Kw8.frzO (by omega) z_q f_q2
  have n_y0 : ((w7.setCell ⟨w1.heap.size, 0, none⟩ (.int .i64 (b1 + A * x))).drew).cell? ⟨w1.heap.size, 0, none⟩ = some (.int .i64 (b1 + A * x)) := by go_simp
  have n_f_y0 : ((w7.setCell ⟨w1.heap.size, 0, none⟩ (.int .i64 (b1 + A * x))).drew).frozen? ⟨w1.heap.size, 0, none⟩ = false := by go_simp
  have n_y1 : ((w7.setCell ⟨w1.heap.size, 0, none⟩ (.int .i64 (b1 + A * x))).drew).cell? ⟨w1.heap.size, 1, none⟩ = some (.slice (some ⟨g1, 0, none⟩) s1.length r1) := by go_simp
  have n_f_y1 : ((w7.setCell ⟨w1.heap.size, 0, none⟩ (.int .i64 (b1 + A * x))).drew).frozen? ⟨w1.heap.size, 1, none⟩ = false := by go_simp
  have n_y2 : ((w7.setCell ⟨w1.heap.size, 0, none⟩ (.int .i64 (b1 + A * x))).drew).cell? ⟨w1.heap.size, 2, none⟩ = some (.slice (some ⟨g2, 0, none⟩) t1.length r2) := by go_simp
  have n_f_y2 : ((w7.setCell ⟨w1.heap.size, 0, none⟩ (.int .i64 (b1 + A * x))).drew).frozen? ⟨w1.heap.size, 2, none⟩ = false := by go_simp
  replace y0 := n_y0
  clear n_y0
  replace f_y0 := n_f_y0
  clear n_f_y0
  replace y1 := n_y1
  clear n_y1
  replace f_y1 := n_f_y1
  clear n_f_y1
  replace y2 := n_y2
  clear n_y2
  replace f_y2 := n_f_y2
  clear n_f_y2
  replace e0 := Kw8.cell (by omega) e0
  replace e1 := Kw8.cell (by omega) e1
  replace e2 := Kw8.cell (by omega) e2
  replace O1 := O1.chgN Kw8 (by omega)
  replace O2 := O2.chgN Kw8 (by omega)
  clear Kw8
  have z_ea : b1s < ((w7.setCell ⟨w1.heap.size, 0, none⟩ (.int .i64 (b1 + A * x))).drew).heap.size := qB ea0
  have z_eb : b2s < ((w7.setCell ⟨w1.heap.size, 0, none⟩ (.int .i64 (b1 + A * x))).drew).heap.size := qB eb0
  have z_va : w.heap.size < ((w7.setCell ⟨w1.heap.size, 0, none⟩ (.int .i64 (b1 + A * x))).drew).heap.size := qB va0
  have z_sl : w.heap.size + 1 < ((w7.setCell ⟨w1.heap.size, 0, none⟩ (.int .i64 (b1 + A * x))).drew).heap.size := qB sl0
  have z_q : w.heap.size + 1 + 1 < ((w7.setCell ⟨w1.heap.size, 0, none⟩ (.int .i64 (b1 + A * x))).drew).heap.size := qB q0
  have z_y : w1.heap.size < ((w7.setCell ⟨w1.heap.size, 0, none⟩ (.int .i64 (b1 + A * x))).drew).heap.size := qB y0
  have z_e : g < ((w7.setCell ⟨w1.heap.size, 0, none⟩ (.int .i64 (b1 + A * x))).drew).heap.size := qB e0
  have s_w8 : w.heap.size ≤ ((w7.setCell ⟨w1.heap.size, 0, none⟩ (.int .i64 (b1 + A * x))).drew).heap.size := Xw8.size
  generalize ((w7.setCell ⟨w1.heap.size, 0, none⟩ (.int .i64 (b1 + A * x))).drew) = w8 at *
  have B1 := O2.cell d hd2
  obtain ⟨B1a, B1b⟩ := B1
  go_wp2_with fail
  have hw0 : IntKind.i64.wrap (A3 * x) = A3 * x := IntWalk.i64_in _ (by omega)
  refine wp_region_tail (S := fun w' => w'.cell? ⟨b2s, o2s + d, none⟩ = some (.int .i64 x) ∧ w'.cell? ⟨w.heap.size, 2, none⟩ = some (.slice (some ⟨b2s, o2s, none⟩) t1.length cp2) ∧ w'.cell? ⟨w1.heap.size, 2, none⟩ = some (.slice (some ⟨g2, 0, none⟩) t1.length r2) ∧ w'.cell? ⟨g, 2, none⟩ = some (.int .i64 A3)) (fun i => decide (12 ≤ i)) qKr ⟨eb0, va2, y2, e2⟩ (fun hHeld => ?_)
  refine wpTail_take (i := 0) (v := ?_) rfl qKr qKr qKr rfl qKr (fun _ _ _ h => h) (Or.inl ⟨by rfl, ?_⟩) (by assumption) ?_
  rotate_left
  ·
   (intro w hSw; (try dsimp only at hSw); go_simp; try with_reducible rfl)
  try simp only [Act.put, qA1, qA2, qA3, qA4, qA5, qA6]
  refine wpTail_take (i := 1) (v := ?_) rfl qKr qKr qKr rfl qKr (fun _ _ _ h => h) (Or.inl ⟨by rfl, ?_⟩) (by assumption) ?_
  rotate_left
  ·
   (intro w hSw; (try dsimp only at hSw); go_simp; try with_reducible rfl)
  try simp only [Act.put, qA1, qA2, qA3, qA4, qA5, qA6]
  refine wpTail_take (i := 2) (v := ?_) rfl qKr qKr qKr rfl qKr (fun _ _ _ h => h) (Or.inl ⟨by rfl, ?_⟩) (by assumption) ?_
  rotate_left
  ·
   (intro w hSw; (try dsimp only at hSw); go_simp; try with_reducible rfl)
  try simp only [Act.put, qA1, qA2, qA3, qA4, qA5, qA6]
  refine wpTail_take (i := 3) (v := ?_) rfl qKr qKr qKr rfl qKr (fun _ _ _ h => h) (Or.inl ⟨by rfl, ?_⟩) (by assumption) ?_
  rotate_left
  ·
   (intro w hSw; (try dsimp only at hSw); go_simp; try with_reducible rfl)
  try simp only [Act.put, qA1, qA2, qA3, qA4, qA5, qA6]
  refine wpTail_take (i := 4) (v := ?_) rfl qKr qKr qKr rfl qKr (fun _ _ _ h => h) (Or.inl ⟨by rfl, ?_⟩) (by assumption) ?_
  rotate_left
  ·
   (intro w hSw; (try dsimp only at hSw); go_simp; try with_reducible rfl)
  try simp only [Act.put, qA1, qA2, qA3, qA4, qA5, qA6]
  refine wpTail_take (i := 5) (v := ?_) rfl qKr qKr qKr rfl qKr (fun _ _ _ h => h) (Or.inl ⟨by rfl, ?_⟩) (by assumption) ?_
  rotate_left
  ·
   (intro w hSw; (try dsimp only at hSw); go_simp; try with_reducible rfl)
  try simp only [Act.put, qA1, qA2, qA3, qA4, qA5, qA6]
  refine wpTail_take (i := 6) (v := ?_) rfl qKr qKr qKr rfl qKr (fun _ _ _ h => h) (Or.inl ⟨by rfl, ?_⟩) (by assumption) ?_
  rotate_left
  ·
   (intro w hSw; (try dsimp only at hSw); go_simp; try with_reducible rfl)
  try simp only [Act.put, qA1, qA2, qA3, qA4, qA5, qA6]
  refine wpTail_take (i := 7) (v := ?_) rfl qKr qKr qKr rfl qKr (fun _ _ _ h => h) (Or.inl ⟨by rfl, ?_⟩) (by assumption) ?_
  rotate_left
  ·
   (intro w hSw; (try dsimp only at hSw); go_simp; try with_reducible rfl)
  try simp only [Act.put, qA1, qA2, qA3, qA4, qA5, qA6]
  refine wpTail_take (i := 8) (v := ?_) rfl qKr qKr qKr rfl qKr (fun _ _ _ h => h) (Or.inl ⟨by rfl, ?_⟩) (by assumption) ?_
  rotate_left
  ·
   (intro w hSw; (try dsimp only at hSw); go_simp; try with_reducible rfl)
  try simp only [Act.put, qA1, qA2, qA3, qA4, qA5, qA6]
  refine wpTail_take (i := 9) (v := ?_) rfl qKr qKr qKr rfl qKr (fun _ _ _ h => h) (Or.inl ⟨by rfl, ?_⟩) (by assumption) ?_
  rotate_left
  ·
   (intro w hSw; (try dsimp only at hSw); go_simp; try with_reducible rfl)
  try simp only [Act.put, qA1, qA2, qA3, qA4, qA5, qA6]
  refine wpTail_take (i := 10) (v := ?_) rfl qKr qKr qKr rfl qKr (fun _ _ _ h => h) (Or.inl ⟨by rfl, ?_⟩) (by assumption) ?_
  rotate_left
  ·
   (intro w hSw; (try dsimp only at hSw); go_simp; try with_reducible rfl)
  try simp only [Act.put, qA1, qA2, qA3, qA4, qA5, qA6]
  refine wpTail_take (i := 11) (v := ?_) rfl qKr qKr qKr rfl qKr (fun _ _ _ h => h) (Or.inl ⟨by rfl, ?_⟩) (by assumption) ?_
  rotate_left
  ·
   (intro w hSw; (try dsimp only at hSw); go_simp; try with_reducible rfl)
  try simp only [Act.put, qA1, qA2, qA3, qA4, qA5, qA6]
  refine wpTail_last (i := 12) qKr rfl rfl (fun K hK => ?_)
  try simp only [Act.put, qA1, qA2, qA3, qA4, qA5, qA6]
  go_simp
  refine hK.out _ _ ?_
  clear hK K
  try simp only [Act.put, qA1, qA2, qA3, qA4, qA5, qA6]
  refine wpTail_done qKr ?_ _
  clear hHeld hw0
  have Kw9 : Chg (g2) (g2 + 1) w8 ((w8.setCell ⟨g2, d, none⟩ (.int .i64 (A3 * x))).drew) := ((Chg.setCell (p := ⟨g2, d, none⟩) (Chg.refl (g2) (g2 + 1) _) (Nat.le_refl _) (Nat.lt_succ_self _) (.int .i64 (A3 * x))).ext (Ext.drew (Ext.refl _)))
  have Xw9 : Ext w ((w8.setCell ⟨g2, d, none⟩ (.int .i64 (A3 * x))).drew) := (Ext.drew (Ext.setCell (p := ⟨g2, d, none⟩) Xw8 qSo (.int .i64 (A3 * x))))
  replace ea0 := Kw9.cell (by omega) ea0
  replace eb0 := Kw9.cell (by omega) eb0
  replace va0 := Kw9.cell (by omega) va0
  replace va1 := Kw9.cell (by omega) va1
  replace va2 := Kw9.cell (by omega) va2
  replace sl0 := Kw9.cell (by omega) sl0
  replace sl1 := Kw9.cell (by omega) sl1
  replace sl2 := Kw9.cell (by omega) sl2
  replace sl3 := Kw9.cell (by omega) sl3
  replace sl4 := Kw9.cell (by omega) sl4
  replace q0 := Kw9.cell (by omega) q0
  replace f_q0 := Kw9.frzO (by omega) z_q f_q0
  replace q1 := Kw9.cell (by omega) q1
  replace f_q1 := Kw9.frzO (by omega) z_q f_q1
  replace q2 := Kw9.cell (by omega) q2
  replace f_q2 := Kw9.frzO (by omega) z_q f_q2
  replace y0 := Kw9.cell (by omega) y0
  replace f_y0 := Kw9.frzO (by omega) z_y f_y0
  replace y1 := Kw9.cell (by omega) y1
  replace f_y1 := Kw9.frzO (by omega) z_y f_y1
  replace y2 := Kw9.cell (by omega) y2
  replace f_y2 := Kw9.frzO (by omega) z_y f_y2
  replace e0 := Kw9.cell (by omega) e0
  replace e1 := Kw9.cell (by omega) e1
  replace e2 := Kw9.cell (by omega) e2
  replace O1 := O1.chgN Kw9 (by omega)
  have n_O2 := O2.setD d (A3 * x) (by first | omega | (simp; omega))
  replace O2 := n_O2
  clear n_O2
  clear Kw9
  have z_ea : b1s < ((w8.setCell ⟨g2, d, none⟩ (.int .i64 (A3 * x))).drew).heap.size := qB ea0
  have z_eb : b2s < ((w8.setCell ⟨g2, d, none⟩ (.int .i64 (A3 * x))).drew).heap.size := qB eb0
  have z_va : w.heap.size < ((w8.setCell ⟨g2, d, none⟩ (.int .i64 (A3 * x))).drew).heap.size := qB va0
  have z_sl : w.heap.size + 1 < ((w8.setCell ⟨g2, d, none⟩ (.int .i64 (A3 * x))).drew).heap.size := qB sl0
  have z_q : w.heap.size + 1 + 1 < ((w8.setCell ⟨g2, d, none⟩ (.int .i64 (A3 * x))).drew).heap.size := qB q0
  have z_y : w1.heap.size < ((w8.setCell ⟨g2, d, none⟩ (.int .i64 (A3 * x))).drew).heap.size := qB y0
  have z_e : g < ((w8.setCell ⟨g2, d, none⟩ (.int .i64 (A3 * x))).drew).heap.size := qB e0
  have s_w9 : w.heap.size ≤ ((w8.setCell ⟨g2, d, none⟩ (.int .i64 (A3 * x))).drew).heap.size := Xw9.size
  generalize ((w8.setCell ⟨g2, d, none⟩ (.int .i64 (A3 * x))).drew) = w9 at *
  clear ea0
  clear eb0
  clear e0 e1 e2
  clear sl0 sl1 sl2 sl3 sl4
  clear va0 va1 va2
  clear hLb hnum hsl hst hin hAx hCx
  have hz1 := O1.len
  have hz2 := O2.len
  by_cases hle : L.length ≤ 1
  ·
   have hleI : (L.length : Int) ≤ 1 := by omega
   have B1 := O2.cell d (by simpa using hd2)
   obtain ⟨B1a, B1b⟩ := B1
   go_wp2_with fail
   have Kw10 : Chg (g2) (g2 + 1) w9 (w9.setCell ⟨g2, d, none⟩ (.int .i64 0)) := (Chg.setCell (p := ⟨g2, d, none⟩) (Chg.refl (g2) (g2 + 1) _) (Nat.le_refl _) (Nat.lt_succ_self _) (.int .i64 0))
   have Xw10 : Ext w (w9.setCell ⟨g2, d, none⟩ (.int .i64 0)) := (Ext.setCell (p := ⟨g2, d, none⟩) Xw9 qSo (.int .i64 0))
   replace q0 := Kw10.cell (by omega) q0
   replace f_q0 := Kw10.frzO (by omega) z_q f_q0
   replace q1 := Kw10.cell (by omega) q1
   replace f_q1 := Kw10.frzO (by omega) z_q f_q1
   replace q2 := Kw10.cell (by omega) q2
   replace f_q2 := Kw10.frzO (by omega) z_q f_q2
   replace y0 := Kw10.cell (by omega) y0
   replace f_y0 := Kw10.frzO (by omega) z_y f_y0
   replace y1 := Kw10.cell (by omega) y1
   replace f_y1 := Kw10.frzO (by omega) z_y f_y1
   replace y2 := Kw10.cell (by omega) y2
   replace f_y2 := Kw10.frzO (by omega) z_y f_y2
   replace O1 := O1.chgN Kw10 (by omega)
   have n_O2 := O2.set d (0) (by first | omega | (simp; omega))
   replace O2 := n_O2
   clear n_O2
   clear Kw10
   have z_q : w.heap.size + 1 + 1 < (w9.setCell ⟨g2, d, none⟩ (.int .i64 0)).heap.size := qB q0
   have z_y : w1.heap.size < (w9.setCell ⟨g2, d, none⟩ (.int .i64 0)).heap.size := qB y0
   have s_w10 : w.heap.size ≤ (w9.setCell ⟨g2, d, none⟩ (.int .i64 0)).heap.size := Xw10.size
   generalize (w9.setCell ⟨g2, d, none⟩ (.int .i64 0)) = w10 at *
   rw [List.set_set] at O2
   by_cases hz : countL (s1.set d (L.length : Int)) = 0
   ·
    have hT : Hid (cutT s1 t1 d L = List.replicate s1.length 0) := Lib.hid (by unfold cutT tidyT; rw [if_pos hz, List.length_set])
    have hB : Hid (cutB b1 s1 t1 d L = 0) := Lib.hid (by unfold cutB tidyB; rw [if_pos hz])
    have hi1 := O1.ints hz1
    have hi2 := O2.ints (by simpa using hz2)
    have hzH := Lib.hid hz
    clear hz hle
    have zq0 := z_q
    have zy0 := z_y
    go_wp2_with fail
    refine (tidy_0 (b1 + A * x) _ _ (s1.set d (L.length : Int)) _ _ (hi1.ext qXt) hzH.out).mono ?_
    rintro e w11 ⟨st, rfl, O3, xw11⟩
    have Lw11 : Ext w10 w11 := Ext.trans qXt xw11
    have Xw11 : Ext w w11 := Xw10.trans Lw11
    replace q0 := Lw11.cell q0
    replace q1 := Lw11.cell q1
    replace q2 := Lw11.cell q2
    replace f_q0 := Lw11.frz z_q f_q0
    replace f_q1 := Lw11.frz z_q f_q1
    replace f_q2 := Lw11.frz z_q f_q2
    replace y0 := Lw11.cell y0
    replace y1 := Lw11.cell y1
    replace y2 := Lw11.cell y2
    replace f_y0 := Lw11.frz z_y f_y0
    replace f_y1 := Lw11.frz z_y f_y1
    replace f_y2 := Lw11.frz z_y f_y2
    have z_q : w.heap.size + 1 + 1 < w11.heap.size := qB q0
    have z_y : w1.heap.size < w11.heap.size := qB y0
    replace O1 := O1.ext Lw11
    replace O2 := O2.ext Lw11
    have s_w11 : w.heap.size ≤ w11.heap.size := Xw11.size
    clear xw11
    have hne3 : List.replicate (s1.set d (L.length : Int)).length (0 : Int) ≠ [] := by simp; exact hne1
    obtain ⟨g3, r3, rfl, G3, G3'⟩ := O3.row hne3
    simp only [List.length_replicate, List.length_set] at O3 ⊢
    have G3b : w.heap.size + 3 ≤ g3 := by omega
    clear hi1 hi2

    go_wp2_with fail
    have Kw12 : Chg (w.heap.size + 1 + 1) (w.heap.size + 1 + 1 + 1) w11 (((w11.setCell ⟨w.heap.size + 1 + 1, 0, none⟩ (.int .i64 0)).setCell ⟨w.heap.size + 1 + 1, 1, none⟩ (.slice (some ⟨g1, 0, none⟩) s1.length r1)).setCell ⟨w.heap.size + 1 + 1, 2, none⟩ (.slice (some ⟨g3, 0, none⟩) s1.length r3)) := (Chg.setCell (p := ⟨w.heap.size + 1 + 1, 2, none⟩) (Chg.setCell (p := ⟨w.heap.size + 1 + 1, 1, none⟩) (Chg.setCell (p := ⟨w.heap.size + 1 + 1, 0, none⟩) (Chg.refl (w.heap.size + 1 + 1) (w.heap.size + 1 + 1 + 1) _) (Nat.le_refl _) (Nat.lt_succ_self _) (.int .i64 0)) (Nat.le_refl _) (Nat.lt_succ_self _) (.slice (some ⟨g1, 0, none⟩) s1.length r1)) (Nat.le_refl _) (Nat.lt_succ_self _) (.slice (some ⟨g3, 0, none⟩) s1.length r3))
    have Xw12 : Ext w (((w11.setCell ⟨w.heap.size + 1 + 1, 0, none⟩ (.int .i64 0)).setCell ⟨w.heap.size + 1 + 1, 1, none⟩ (.slice (some ⟨g1, 0, none⟩) s1.length r1)).setCell ⟨w.heap.size + 1 + 1, 2, none⟩ (.slice (some ⟨g3, 0, none⟩) s1.length r3)) := (Ext.setCell (p := ⟨w.heap.size + 1 + 1, 2, none⟩) (Ext.setCell (p := ⟨w.heap.size + 1 + 1, 1, none⟩) (Ext.setCell (p := ⟨w.heap.size + 1 + 1, 0, none⟩) Xw11 qSo (.int .i64 0)) qSo (.slice (some ⟨g1, 0, none⟩) s1.length r1)) qSo (.slice (some ⟨g3, 0, none⟩) s1.length r3))
    have n_q0 : (((w11.setCell ⟨w.heap.size + 1 + 1, 0, none⟩ (.int .i64 0)).setCell ⟨w.heap.size + 1 + 1, 1, none⟩ (.slice (some ⟨g1, 0, none⟩) s1.length r1)).setCell ⟨w.heap.size + 1 + 1, 2, none⟩ (.slice (some ⟨g3, 0, none⟩) s1.length r3)).cell? ⟨w.heap.size + 1 + 1, 0, none⟩ = some (.int .i64 0) := by go_simp
    have n_f_q0 : (((w11.setCell ⟨w.heap.size + 1 + 1, 0, none⟩ (.int .i64 0)).setCell ⟨w.heap.size + 1 + 1, 1, none⟩ (.slice (some ⟨g1, 0, none⟩) s1.length r1)).setCell ⟨w.heap.size + 1 + 1, 2, none⟩ (.slice (some ⟨g3, 0, none⟩) s1.length r3)).frozen? ⟨w.heap.size + 1 + 1, 0, none⟩ = false := by go_simp
    have n_q1 : (((w11.setCell ⟨w.heap.size + 1 + 1, 0, none⟩ (.int .i64 0)).setCell ⟨w.heap.size + 1 + 1, 1, none⟩ (.slice (some ⟨g1, 0, none⟩) s1.length r1)).setCell ⟨w.heap.size + 1 + 1, 2, none⟩ (.slice (some ⟨g3, 0, none⟩) s1.length r3)).cell? ⟨w.heap.size + 1 + 1, 1, none⟩ = some (.slice (some ⟨g1, 0, none⟩) s1.length r1) := by go_simp
    have n_f_q1 : (((w11.setCell ⟨w.heap.size + 1 + 1, 0, none⟩ (.int .i64 0)).setCell ⟨w.heap.size + 1 + 1, 1, none⟩ (.slice (some ⟨g1, 0, none⟩) s1.length r1)).setCell ⟨w.heap.size + 1 + 1, 2, none⟩ (.slice (some ⟨g3, 0, none⟩) s1.length r3)).frozen? ⟨w.heap.size + 1 + 1, 1, none⟩ = false := by go_simp
    have n_q2 : (((w11.setCell ⟨w.heap.size + 1 + 1, 0, none⟩ (.int .i64 0)).setCell ⟨w.heap.size + 1 + 1, 1, none⟩ (.slice (some ⟨g1, 0, none⟩) s1.length r1)).setCell ⟨w.heap.size + 1 + 1, 2, none⟩ (.slice (some ⟨g3, 0, none⟩) s1.length r3)).cell? ⟨w.heap.size + 1 + 1, 2, none⟩ = some (.slice (some ⟨g3, 0, none⟩) s1.length r3) := by go_simp
    have n_f_q2 : (((w11.setCell ⟨w.heap.size + 1 + 1, 0, none⟩ (.int .i64 0)).setCell ⟨w.heap.size + 1 + 1, 1, none⟩ (.slice (some ⟨g1, 0, none⟩) s1.length r1)).setCell ⟨w.heap.size + 1 + 1, 2, none⟩ (.slice (some ⟨g3, 0, none⟩) s1.length r3)).frozen? ⟨w.heap.size + 1 + 1, 2, none⟩ = false := by go_simp
    replace q0 := n_q0
    clear n_q0
    replace f_q0 := n_f_q0
    clear n_f_q0
    replace q1 := n_q1
    clear n_q1
    replace f_q1 := n_f_q1
    clear n_f_q1
    replace q2 := n_q2
    clear n_q2
    replace f_q2 := n_f_q2
    clear n_f_q2
    replace y0 := Kw12.cell (by omega) y0
    replace f_y0 := Kw12.frzO (by omega) z_y f_y0
    replace y1 := Kw12.cell (by omega) y1
    replace f_y1 := Kw12.frzO (by omega) z_y f_y1
    replace y2 := Kw12.cell (by omega) y2
    replace f_y2 := Kw12.frzO (by omega) z_y f_y2
    replace O1 := O1.chgN Kw12 (by omega)
    replace O2 := O2.chgN Kw12 (by omega)
    replace O3 := O3.chgN Kw12 (by omega)
    clear Kw12
    have z_q : w.heap.size + 1 + 1 < (((w11.setCell ⟨w.heap.size + 1 + 1, 0, none⟩ (.int .i64 0)).setCell ⟨w.heap.size + 1 + 1, 1, none⟩ (.slice (some ⟨g1, 0, none⟩) s1.length r1)).setCell ⟨w.heap.size + 1 + 1, 2, none⟩ (.slice (some ⟨g3, 0, none⟩) s1.length r3)).heap.size := qB q0
    have z_y : w1.heap.size < (((w11.setCell ⟨w.heap.size + 1 + 1, 0, none⟩ (.int .i64 0)).setCell ⟨w.heap.size + 1 + 1, 1, none⟩ (.slice (some ⟨g1, 0, none⟩) s1.length r1)).setCell ⟨w.heap.size + 1 + 1, 2, none⟩ (.slice (some ⟨g3, 0, none⟩) s1.length r3)).heap.size := qB y0
    have s_w12 : w.heap.size ≤ (((w11.setCell ⟨w.heap.size + 1 + 1, 0, none⟩ (.int .i64 0)).setCell ⟨w.heap.size + 1 + 1, 1, none⟩ (.slice (some ⟨g1, 0, none⟩) s1.length r1)).setCell ⟨w.heap.size + 1 + 1, 2, none⟩ (.slice (some ⟨g3, 0, none⟩) s1.length r3)).heap.size := Xw12.size
    generalize (((w11.setCell ⟨w.heap.size + 1 + 1, 0, none⟩ (.int .i64 0)).setCell ⟨w.heap.size + 1 + 1, 1, none⟩ (.slice (some ⟨g1, 0, none⟩) s1.length r1)).setCell ⟨w.heap.size + 1 + 1, 2, none⟩ (.slice (some ⟨g3, 0, none⟩) s1.length r3)) = w12 at *
    refine bodyPost_ret (v := .agg #[.int .i64 0, .slice (some ⟨g1, 0, none⟩) s1.length r1, .slice (some ⟨g3, 0, none⟩) s1.length r3]) (by simp only [results, Try.results108]; go_simp) rfl ?_
    rw [hT.out, hB.out]
    exact PView.own (O1.lower (by omega)).z (O3.lower (by omega)).z (fun _ _ => by simp [Value.ownBlock]; omega) (by unfold cutS; simpa using hlen1) (by simp <;> omega) Xw12
   ·
    have hT : Hid (cutT s1 t1 d L = t1.set d 0) := Lib.hid (by unfold cutT tidyT; rw [if_neg hz, if_pos hle])
    have hB : Hid (cutB b1 s1 t1 d L = b1 + A * x) := Lib.hid (by unfold cutB tidyB; rw [if_neg hz, hN1.out, hg2.out])
    have hi1 := O1.ints hz1
    have hi2 := O2.ints (by simpa using hz2)
    have hzH := Lib.hid hz
    clear hz hle
    have zq0 := z_q
    have zy0 := z_y
    go_wp2_with fail
    refine (tidy_1 (b1 + A * x) _ _ (s1.set d (L.length : Int)) (t1.set d 0) _ _ _ (hi1.ext qXt) (hi2.ext qXt) hzH.out).mono ?_
    rintro e w11 ⟨rfl, xw11⟩
    have Lw11 : Ext w10 w11 := Ext.trans qXt xw11
    have Xw11 : Ext w w11 := Xw10.trans Lw11
    replace q0 := Lw11.cell q0
    replace q1 := Lw11.cell q1
    replace q2 := Lw11.cell q2
    replace f_q0 := Lw11.frz z_q f_q0
    replace f_q1 := Lw11.frz z_q f_q1
    replace f_q2 := Lw11.frz z_q f_q2
    replace y0 := Lw11.cell y0
    replace y1 := Lw11.cell y1
    replace y2 := Lw11.cell y2
    replace f_y0 := Lw11.frz z_y f_y0
    replace f_y1 := Lw11.frz z_y f_y1
    replace f_y2 := Lw11.frz z_y f_y2
    have z_q : w.heap.size + 1 + 1 < w11.heap.size := qB q0
    have z_y : w1.heap.size < w11.heap.size := qB y0
    replace O1 := O1.ext Lw11
    replace O2 := O2.ext Lw11
    have s_w11 : w.heap.size ≤ w11.heap.size := Xw11.size
    clear xw11
    clear hi1 hi2

    go_wp2_with fail
    have Kw12 : Chg (w.heap.size + 1 + 1) (w.heap.size + 1 + 1 + 1) w11 (((w11.setCell ⟨w.heap.size + 1 + 1, 0, none⟩ (.int .i64 (b1 + A * x))).setCell ⟨w.heap.size + 1 + 1, 1, none⟩ (.slice (some ⟨g1, 0, none⟩) s1.length r1)).setCell ⟨w.heap.size + 1 + 1, 2, none⟩ (.slice (some ⟨g2, 0, none⟩) t1.length r2)) := (Chg.setCell (p := ⟨w.heap.size + 1 + 1, 2, none⟩) (Chg.setCell (p := ⟨w.heap.size + 1 + 1, 1, none⟩) (Chg.setCell (p := ⟨w.heap.size + 1 + 1, 0, none⟩) (Chg.refl (w.heap.size + 1 + 1) (w.heap.size + 1 + 1 + 1) _) (Nat.le_refl _) (Nat.lt_succ_self _) (.int .i64 (b1 + A * x))) (Nat.le_refl _) (Nat.lt_succ_self _) (.slice (some ⟨g1, 0, none⟩) s1.length r1)) (Nat.le_refl _) (Nat.lt_succ_self _) (.slice (some ⟨g2, 0, none⟩) t1.length r2))
    have Xw12 : Ext w (((w11.setCell ⟨w.heap.size + 1 + 1, 0, none⟩ (.int .i64 (b1 + A * x))).setCell ⟨w.heap.size + 1 + 1, 1, none⟩ (.slice (some ⟨g1, 0, none⟩) s1.length r1)).setCell ⟨w.heap.size + 1 + 1, 2, none⟩ (.slice (some ⟨g2, 0, none⟩) t1.length r2)) := (Ext.setCell (p := ⟨w.heap.size + 1 + 1, 2, none⟩) (Ext.setCell (p := ⟨w.heap.size + 1 + 1, 1, none⟩) (Ext.setCell (p := ⟨w.heap.size + 1 + 1, 0, none⟩) Xw11 qSo (.int .i64 (b1 + A * x))) qSo (.slice (some ⟨g1, 0, none⟩) s1.length r1)) qSo (.slice (some ⟨g2, 0, none⟩) t1.length r2))
    have n_q0 : (((w11.setCell ⟨w.heap.size + 1 + 1, 0, none⟩ (.int .i64 (b1 + A * x))).setCell ⟨w.heap.size + 1 + 1, 1, none⟩ (.slice (some ⟨g1, 0, none⟩) s1.length r1)).setCell ⟨w.heap.size + 1 + 1, 2, none⟩ (.slice (some ⟨g2, 0, none⟩) t1.length r2)).cell? ⟨w.heap.size + 1 + 1, 0, none⟩ = some (.int .i64 (b1 + A * x)) := by go_simp
    have n_f_q0 : (((w11.setCell ⟨w.heap.size + 1 + 1, 0, none⟩ (.int .i64 (b1 + A * x))).setCell ⟨w.heap.size + 1 + 1, 1, none⟩ (.slice (some ⟨g1, 0, none⟩) s1.length r1)).setCell ⟨w.heap.size + 1 + 1, 2, none⟩ (.slice (some ⟨g2, 0, none⟩) t1.length r2)).frozen? ⟨w.heap.size + 1 + 1, 0, none⟩ = false := by go_simp
    have n_q1 : (((w11.setCell ⟨w.heap.size + 1 + 1, 0, none⟩ (.int .i64 (b1 + A * x))).setCell ⟨w.heap.size + 1 + 1, 1, none⟩ (.slice (some ⟨g1, 0, none⟩) s1.length r1)).setCell ⟨w.heap.size + 1 + 1, 2, none⟩ (.slice (some ⟨g2, 0, none⟩) t1.length r2)).cell? ⟨w.heap.size + 1 + 1, 1, none⟩ = some (.slice (some ⟨g1, 0, none⟩) s1.length r1) := by go_simp
    have n_f_q1 : (((w11.setCell ⟨w.heap.size + 1 + 1, 0, none⟩ (.int .i64 (b1 + A * x))).setCell ⟨w.heap.size + 1 + 1, 1, none⟩ (.slice (some ⟨g1, 0, none⟩) s1.length r1)).setCell ⟨w.heap.size + 1 + 1, 2, none⟩ (.slice (some ⟨g2, 0, none⟩) t1.length r2)).frozen? ⟨w.heap.size + 1 + 1, 1, none⟩ = false := by go_simp
    have n_q2 : (((w11.setCell ⟨w.heap.size + 1 + 1, 0, none⟩ (.int .i64 (b1 + A * x))).setCell ⟨w.heap.size + 1 + 1, 1, none⟩ (.slice (some ⟨g1, 0, none⟩) s1.length r1)).setCell ⟨w.heap.size + 1 + 1, 2, none⟩ (.slice (some ⟨g2, 0, none⟩) t1.length r2)).cell? ⟨w.heap.size + 1 + 1, 2, none⟩ = some (.slice (some ⟨g2, 0, none⟩) t1.length r2) := by go_simp
    have n_f_q2 : (((w11.setCell ⟨w.heap.size + 1 + 1, 0, none⟩ (.int .i64 (b1 + A * x))).setCell ⟨w.heap.size + 1 + 1, 1, none⟩ (.slice (some ⟨g1, 0, none⟩) s1.length r1)).setCell ⟨w.heap.size + 1 + 1, 2, none⟩ (.slice (some ⟨g2, 0, none⟩) t1.length r2)).frozen? ⟨w.heap.size + 1 + 1, 2, none⟩ = false := by go_simp
    replace q0 := n_q0
    clear n_q0
    replace f_q0 := n_f_q0
    clear n_f_q0
    replace q1 := n_q1
    clear n_q1
    replace f_q1 := n_f_q1
    clear n_f_q1
    replace q2 := n_q2
    clear n_q2
    replace f_q2 := n_f_q2
    clear n_f_q2
    replace y0 := Kw12.cell (by omega) y0
    replace f_y0 := Kw12.frzO (by omega) z_y f_y0
    replace y1 := Kw12.cell (by omega) y1
    replace f_y1 := Kw12.frzO (by omega) z_y f_y1
    replace y2 := Kw12.cell (by omega) y2
    replace f_y2 := Kw12.frzO (by omega) z_y f_y2
    replace O1 := O1.chgN Kw12 (by omega)
    replace O2 := O2.chgN Kw12 (by omega)
    clear Kw12
    have z_q : w.heap.size + 1 + 1 < (((w11.setCell ⟨w.heap.size + 1 + 1, 0, none⟩ (.int .i64 (b1 + A * x))).setCell ⟨w.heap.size + 1 + 1, 1, none⟩ (.slice (some ⟨g1, 0, none⟩) s1.length r1)).setCell ⟨w.heap.size + 1 + 1, 2, none⟩ (.slice (some ⟨g2, 0, none⟩) t1.length r2)).heap.size := qB q0
    have z_y : w1.heap.size < (((w11.setCell ⟨w.heap.size + 1 + 1, 0, none⟩ (.int .i64 (b1 + A * x))).setCell ⟨w.heap.size + 1 + 1, 1, none⟩ (.slice (some ⟨g1, 0, none⟩) s1.length r1)).setCell ⟨w.heap.size + 1 + 1, 2, none⟩ (.slice (some ⟨g2, 0, none⟩) t1.length r2)).heap.size := qB y0
    have s_w12 : w.heap.size ≤ (((w11.setCell ⟨w.heap.size + 1 + 1, 0, none⟩ (.int .i64 (b1 + A * x))).setCell ⟨w.heap.size + 1 + 1, 1, none⟩ (.slice (some ⟨g1, 0, none⟩) s1.length r1)).setCell ⟨w.heap.size + 1 + 1, 2, none⟩ (.slice (some ⟨g2, 0, none⟩) t1.length r2)).heap.size := Xw12.size
    generalize (((w11.setCell ⟨w.heap.size + 1 + 1, 0, none⟩ (.int .i64 (b1 + A * x))).setCell ⟨w.heap.size + 1 + 1, 1, none⟩ (.slice (some ⟨g1, 0, none⟩) s1.length r1)).setCell ⟨w.heap.size + 1 + 1, 2, none⟩ (.slice (some ⟨g2, 0, none⟩) t1.length r2)) = w12 at *
    refine bodyPost_ret (v := .agg #[.int .i64 (b1 + A * x), .slice (some ⟨g1, 0, none⟩) s1.length r1, .slice (some ⟨g2, 0, none⟩) t1.length r2]) (by simp only [results, Try.results108]; go_simp) rfl ?_
    rw [hT.out, hB.out]
    exact PView.own (O1.lower (by omega)).z (O2.lower (by omega)).z (fun _ _ => by simp [Value.ownBlock]; omega) (by unfold cutS; simpa using hlen1) (by simp <;> omega) Xw12
  ·
   have hleI : ¬ (L.length : Int) ≤ 1 := by omega
   by_cases hz : countL (s1.set d (L.length : Int)) = 0
   ·
    have hT : Hid (cutT s1 t1 d L = List.replicate s1.length 0) := Lib.hid (by unfold cutT tidyT; rw [if_pos hz, List.length_set])
    have hB : Hid (cutB b1 s1 t1 d L = 0) := Lib.hid (by unfold cutB tidyB; rw [if_pos hz])
    have hi1 := O1.ints hz1
    have hi2 := O2.ints (by simpa using hz2)
    have hzH := Lib.hid hz
    clear hz hle
    have zq0 := z_q
    have zy0 := z_y
    go_wp2_with fail
    refine (tidy_0 (b1 + A * x) _ _ (s1.set d (L.length : Int)) _ _ (hi1.ext qXt) hzH.out).mono ?_
    rintro e w10 ⟨st, rfl, O3, xw10⟩
    have Lw10 : Ext w9 w10 := Ext.trans qXt xw10
    have Xw10 : Ext w w10 := Xw9.trans Lw10
    replace q0 := Lw10.cell q0
    replace q1 := Lw10.cell q1
    replace q2 := Lw10.cell q2
    replace f_q0 := Lw10.frz z_q f_q0
    replace f_q1 := Lw10.frz z_q f_q1
    replace f_q2 := Lw10.frz z_q f_q2
    replace y0 := Lw10.cell y0
    replace y1 := Lw10.cell y1
    replace y2 := Lw10.cell y2
    replace f_y0 := Lw10.frz z_y f_y0
    replace f_y1 := Lw10.frz z_y f_y1
    replace f_y2 := Lw10.frz z_y f_y2
    have z_q : w.heap.size + 1 + 1 < w10.heap.size := qB q0
    have z_y : w1.heap.size < w10.heap.size := qB y0
    replace O1 := O1.ext Lw10
    replace O2 := O2.ext Lw10
    have s_w10 : w.heap.size ≤ w10.heap.size := Xw10.size
    clear xw10
    have hne3 : List.replicate (s1.set d (L.length : Int)).length (0 : Int) ≠ [] := by simp; exact hne1
    obtain ⟨g3, r3, rfl, G3, G3'⟩ := O3.row hne3
    simp only [List.length_replicate, List.length_set] at O3 ⊢
    have G3b : w.heap.size + 3 ≤ g3 := by omega
    clear hi1 hi2

    go_wp2_with fail
    have Kw11 : Chg (w.heap.size + 1 + 1) (w.heap.size + 1 + 1 + 1) w10 (((w10.setCell ⟨w.heap.size + 1 + 1, 0, none⟩ (.int .i64 0)).setCell ⟨w.heap.size + 1 + 1, 1, none⟩ (.slice (some ⟨g1, 0, none⟩) s1.length r1)).setCell ⟨w.heap.size + 1 + 1, 2, none⟩ (.slice (some ⟨g3, 0, none⟩) s1.length r3)) := (Chg.setCell (p := ⟨w.heap.size + 1 + 1, 2, none⟩) (Chg.setCell (p := ⟨w.heap.size + 1 + 1, 1, none⟩) (Chg.setCell (p := ⟨w.heap.size + 1 + 1, 0, none⟩) (Chg.refl (w.heap.size + 1 + 1) (w.heap.size + 1 + 1 + 1) _) (Nat.le_refl _) (Nat.lt_succ_self _) (.int .i64 0)) (Nat.le_refl _) (Nat.lt_succ_self _) (.slice (some ⟨g1, 0, none⟩) s1.length r1)) (Nat.le_refl _) (Nat.lt_succ_self _) (.slice (some ⟨g3, 0, none⟩) s1.length r3))
    have Xw11 : Ext w (((w10.setCell ⟨w.heap.size + 1 + 1, 0, none⟩ (.int .i64 0)).setCell ⟨w.heap.size + 1 + 1, 1, none⟩ (.slice (some ⟨g1, 0, none⟩) s1.length r1)).setCell ⟨w.heap.size + 1 + 1, 2, none⟩ (.slice (some ⟨g3, 0, none⟩) s1.length r3)) := (Ext.setCell (p := ⟨w.heap.size + 1 + 1, 2, none⟩) (Ext.setCell (p := ⟨w.heap.size + 1 + 1, 1, none⟩) (Ext.setCell (p := ⟨w.heap.size + 1 + 1, 0, none⟩) Xw10 qSo (.int .i64 0)) qSo (.slice (some ⟨g1, 0, none⟩) s1.length r1)) qSo (.slice (some ⟨g3, 0, none⟩) s1.length r3))
    have n_q0 : (((w10.setCell ⟨w.heap.size + 1 + 1, 0, none⟩ (.int .i64 0)).setCell ⟨w.heap.size + 1 + 1, 1, none⟩ (.slice (some ⟨g1, 0, none⟩) s1.length r1)).setCell ⟨w.heap.size + 1 + 1, 2, none⟩ (.slice (some ⟨g3, 0, none⟩) s1.length r3)).cell? ⟨w.heap.size + 1 + 1, 0, none⟩ = some (.int .i64 0) := by go_simp
    have n_f_q0 : (((w10.setCell ⟨w.heap.size + 1 + 1, 0, none⟩ (.int .i64 0)).setCell ⟨w.heap.size + 1 + 1, 1, none⟩ (.slice (some ⟨g1, 0, none⟩) s1.length r1)).setCell ⟨w.heap.size + 1 + 1, 2, none⟩ (.slice (some ⟨g3, 0, none⟩) s1.length r3)).frozen? ⟨w.heap.size + 1 + 1, 0, none⟩ = false := by go_simp
    have n_q1 : (((w10.setCell ⟨w.heap.size + 1 + 1, 0, none⟩ (.int .i64 0)).setCell ⟨w.heap.size + 1 + 1, 1, none⟩ (.slice (some ⟨g1, 0, none⟩) s1.length r1)).setCell ⟨w.heap.size + 1 + 1, 2, none⟩ (.slice (some ⟨g3, 0, none⟩) s1.length r3)).cell? ⟨w.heap.size + 1 + 1, 1, none⟩ = some (.slice (some ⟨g1, 0, none⟩) s1.length r1) := by go_simp
    have n_f_q1 : (((w10.setCell ⟨w.heap.size + 1 + 1, 0, none⟩ (.int .i64 0)).setCell ⟨w.heap.size + 1 + 1, 1, none⟩ (.slice (some ⟨g1, 0, none⟩) s1.length r1)).setCell ⟨w.heap.size + 1 + 1, 2, none⟩ (.slice (some ⟨g3, 0, none⟩) s1.length r3)).frozen? ⟨w.heap.size + 1 + 1, 1, none⟩ = false := by go_simp
    have n_q2 : (((w10.setCell ⟨w.heap.size + 1 + 1, 0, none⟩ (.int .i64 0)).setCell ⟨w.heap.size + 1 + 1, 1, none⟩ (.slice (some ⟨g1, 0, none⟩) s1.length r1)).setCell ⟨w.heap.size + 1 + 1, 2, none⟩ (.slice (some ⟨g3, 0, none⟩) s1.length r3)).cell? ⟨w.heap.size + 1 + 1, 2, none⟩ = some (.slice (some ⟨g3, 0, none⟩) s1.length r3) := by go_simp
    have n_f_q2 : (((w10.setCell ⟨w.heap.size + 1 + 1, 0, none⟩ (.int .i64 0)).setCell ⟨w.heap.size + 1 + 1, 1, none⟩ (.slice (some ⟨g1, 0, none⟩) s1.length r1)).setCell ⟨w.heap.size + 1 + 1, 2, none⟩ (.slice (some ⟨g3, 0, none⟩) s1.length r3)).frozen? ⟨w.heap.size + 1 + 1, 2, none⟩ = false := by go_simp
    replace q0 := n_q0
    clear n_q0
    replace f_q0 := n_f_q0
    clear n_f_q0
    replace q1 := n_q1
    clear n_q1
    replace f_q1 := n_f_q1
    clear n_f_q1
    replace q2 := n_q2
    clear n_q2
    replace f_q2 := n_f_q2
    clear n_f_q2
    replace y0 := Kw11.cell (by omega) y0
    replace f_y0 := Kw11.frzO (by omega) z_y f_y0
    replace y1 := Kw11.cell (by omega) y1
    replace f_y1 := Kw11.frzO (by omega) z_y f_y1
    replace y2 := Kw11.cell (by omega) y2
    replace f_y2 := Kw11.frzO (by omega) z_y f_y2
    replace O1 := O1.chgN Kw11 (by omega)
    replace O2 := O2.chgN Kw11 (by omega)
    replace O3 := O3.chgN Kw11 (by omega)
    clear Kw11
    have z_q : w.heap.size + 1 + 1 < (((w10.setCell ⟨w.heap.size + 1 + 1, 0, none⟩ (.int .i64 0)).setCell ⟨w.heap.size + 1 + 1, 1, none⟩ (.slice (some ⟨g1, 0, none⟩) s1.length r1)).setCell ⟨w.heap.size + 1 + 1, 2, none⟩ (.slice (some ⟨g3, 0, none⟩) s1.length r3)).heap.size := qB q0
    have z_y : w1.heap.size < (((w10.setCell ⟨w.heap.size + 1 + 1, 0, none⟩ (.int .i64 0)).setCell ⟨w.heap.size + 1 + 1, 1, none⟩ (.slice (some ⟨g1, 0, none⟩) s1.length r1)).setCell ⟨w.heap.size + 1 + 1, 2, none⟩ (.slice (some ⟨g3, 0, none⟩) s1.length r3)).heap.size := qB y0
    have s_w11 : w.heap.size ≤ (((w10.setCell ⟨w.heap.size + 1 + 1, 0, none⟩ (.int .i64 0)).setCell ⟨w.heap.size + 1 + 1, 1, none⟩ (.slice (some ⟨g1, 0, none⟩) s1.length r1)).setCell ⟨w.heap.size + 1 + 1, 2, none⟩ (.slice (some ⟨g3, 0, none⟩) s1.length r3)).heap.size := Xw11.size
    generalize (((w10.setCell ⟨w.heap.size + 1 + 1, 0, none⟩ (.int .i64 0)).setCell ⟨w.heap.size + 1 + 1, 1, none⟩ (.slice (some ⟨g1, 0, none⟩) s1.length r1)).setCell ⟨w.heap.size + 1 + 1, 2, none⟩ (.slice (some ⟨g3, 0, none⟩) s1.length r3)) = w11 at *
    refine bodyPost_ret (v := .agg #[.int .i64 0, .slice (some ⟨g1, 0, none⟩) s1.length r1, .slice (some ⟨g3, 0, none⟩) s1.length r3]) (by simp only [results, Try.results108]; go_simp) rfl ?_
    rw [hT.out, hB.out]
    exact PView.own (O1.lower (by omega)).z (O3.lower (by omega)).z (fun _ _ => by simp [Value.ownBlock]; omega) (by unfold cutS; simpa using hlen1) (by simp <;> omega) Xw11
   ·
    have hT : Hid (cutT s1 t1 d L = t1.set d (A3 * x)) := Lib.hid (by unfold cutT tidyT; rw [if_neg hz, if_neg hle, hN3.out, hg2.out])
    have hB : Hid (cutB b1 s1 t1 d L = b1 + A * x) := Lib.hid (by unfold cutB tidyB; rw [if_neg hz, hN1.out, hg2.out])
    have hi1 := O1.ints hz1
    have hi2 := O2.ints (by simpa using hz2)
    have hzH := Lib.hid hz
    clear hz hle
    have zq0 := z_q
    have zy0 := z_y
    go_wp2_with fail
    refine (tidy_1 (b1 + A * x) _ _ (s1.set d (L.length : Int)) (t1.set d (A3 * x)) _ _ _ (hi1.ext qXt) (hi2.ext qXt) hzH.out).mono ?_
    rintro e w10 ⟨rfl, xw10⟩
    have Lw10 : Ext w9 w10 := Ext.trans qXt xw10
    have Xw10 : Ext w w10 := Xw9.trans Lw10
    replace q0 := Lw10.cell q0
    replace q1 := Lw10.cell q1
    replace q2 := Lw10.cell q2
    replace f_q0 := Lw10.frz z_q f_q0
    replace f_q1 := Lw10.frz z_q f_q1
    replace f_q2 := Lw10.frz z_q f_q2
    replace y0 := Lw10.cell y0
    replace y1 := Lw10.cell y1
    replace y2 := Lw10.cell y2
    replace f_y0 := Lw10.frz z_y f_y0
    replace f_y1 := Lw10.frz z_y f_y1
    replace f_y2 := Lw10.frz z_y f_y2
    have z_q : w.heap.size + 1 + 1 < w10.heap.size := qB q0
    have z_y : w1.heap.size < w10.heap.size := qB y0
    replace O1 := O1.ext Lw10
    replace O2 := O2.ext Lw10
    have s_w10 : w.heap.size ≤ w10.heap.size := Xw10.size
    clear xw10
    clear hi1 hi2

    go_wp2_with fail
    have Kw11 : Chg (w.heap.size + 1 + 1) (w.heap.size + 1 + 1 + 1) w10 (((w10.setCell ⟨w.heap.size + 1 + 1, 0, none⟩ (.int .i64 (b1 + A * x))).setCell ⟨w.heap.size + 1 + 1, 1, none⟩ (.slice (some ⟨g1, 0, none⟩) s1.length r1)).setCell ⟨w.heap.size + 1 + 1, 2, none⟩ (.slice (some ⟨g2, 0, none⟩) t1.length r2)) := (Chg.setCell (p := ⟨w.heap.size + 1 + 1, 2, none⟩) (Chg.setCell (p := ⟨w.heap.size + 1 + 1, 1, none⟩) (Chg.setCell (p := ⟨w.heap.size + 1 + 1, 0, none⟩) (Chg.refl (w.heap.size + 1 + 1) (w.heap.size + 1 + 1 + 1) _) (Nat.le_refl _) (Nat.lt_succ_self _) (.int .i64 (b1 + A * x))) (Nat.le_refl _) (Nat.lt_succ_self _) (.slice (some ⟨g1, 0, none⟩) s1.length r1)) (Nat.le_refl _) (Nat.lt_succ_self _) (.slice (some ⟨g2, 0, none⟩) t1.length r2))
    have Xw11 : Ext w (((w10.setCell ⟨w.heap.size + 1 + 1, 0, none⟩ (.int .i64 (b1 + A * x))).setCell ⟨w.heap.size + 1 + 1, 1, none⟩ (.slice (some ⟨g1, 0, none⟩) s1.length r1)).setCell ⟨w.heap.size + 1 + 1, 2, none⟩ (.slice (some ⟨g2, 0, none⟩) t1.length r2)) := (Ext.setCell (p := ⟨w.heap.size + 1 + 1, 2, none⟩) (Ext.setCell (p := ⟨w.heap.size + 1 + 1, 1, none⟩) (Ext.setCell (p := ⟨w.heap.size + 1 + 1, 0, none⟩) Xw10 qSo (.int .i64 (b1 + A * x))) qSo (.slice (some ⟨g1, 0, none⟩) s1.length r1)) qSo (.slice (some ⟨g2, 0, none⟩) t1.length r2))
    have n_q0 : (((w10.setCell ⟨w.heap.size + 1 + 1, 0, none⟩ (.int .i64 (b1 + A * x))).setCell ⟨w.heap.size + 1 + 1, 1, none⟩ (.slice (some ⟨g1, 0, none⟩) s1.length r1)).setCell ⟨w.heap.size + 1 + 1, 2, none⟩ (.slice (some ⟨g2, 0, none⟩) t1.length r2)).cell? ⟨w.heap.size + 1 + 1, 0, none⟩ = some (.int .i64 (b1 + A * x)) := by go_simp
    have n_f_q0 : (((w10.setCell ⟨w.heap.size + 1 + 1, 0, none⟩ (.int .i64 (b1 + A * x))).setCell ⟨w.heap.size + 1 + 1, 1, none⟩ (.slice (some ⟨g1, 0, none⟩) s1.length r1)).setCell ⟨w.heap.size + 1 + 1, 2, none⟩ (.slice (some ⟨g2, 0, none⟩) t1.length r2)).frozen? ⟨w.heap.size + 1 + 1, 0, none⟩ = false := by go_simp
    have n_q1 : (((w10.setCell ⟨w.heap.size + 1 + 1, 0, none⟩ (.int .i64 (b1 + A * x))).setCell ⟨w.heap.size + 1 + 1, 1, none⟩ (.slice (some ⟨g1, 0, none⟩) s1.length r1)).setCell ⟨w.heap.size + 1 + 1, 2, none⟩ (.slice (some ⟨g2, 0, none⟩) t1.length r2)).cell? ⟨w.heap.size + 1 + 1, 1, none⟩ = some (.slice (some ⟨g1, 0, none⟩) s1.length r1) := by go_simp
    have n_f_q1 : (((w10.setCell ⟨w.heap.size + 1 + 1, 0, none⟩ (.int .i64 (b1 + A * x))).setCell ⟨w.heap.size + 1 + 1, 1, none⟩ (.slice (some ⟨g1, 0, none⟩) s1.length r1)).setCell ⟨w.heap.size + 1 + 1, 2, none⟩ (.slice (some ⟨g2, 0, none⟩) t1.length r2)).frozen? ⟨w.heap.size + 1 + 1, 1, none⟩ = false := by go_simp
    have n_q2 : (((w10.setCell ⟨w.heap.size + 1 + 1, 0, none⟩ (.int .i64 (b1 + A * x))).setCell ⟨w.heap.size + 1 + 1, 1, none⟩ (.slice (some ⟨g1, 0, none⟩) s1.length r1)).setCell ⟨w.heap.size + 1 + 1, 2, none⟩ (.slice (some ⟨g2, 0, none⟩) t1.length r2)).cell? ⟨w.heap.size + 1 + 1, 2, none⟩ = some (.slice (some ⟨g2, 0, none⟩) t1.length r2) := by go_simp
    have n_f_q2 : (((w10.setCell ⟨w.heap.size + 1 + 1, 0, none⟩ (.int .i64 (b1 + A * x))).setCell ⟨w.heap.size + 1 + 1, 1, none⟩ (.slice (some ⟨g1, 0, none⟩) s1.length r1)).setCell ⟨w.heap.size + 1 + 1, 2, none⟩ (.slice (some ⟨g2, 0, none⟩) t1.length r2)).frozen? ⟨w.heap.size + 1 + 1, 2, none⟩ = false := by go_simp
    replace q0 := n_q0
    clear n_q0
    replace f_q0 := n_f_q0
    clear n_f_q0
    replace q1 := n_q1
    clear n_q1
    replace f_q1 := n_f_q1
    clear n_f_q1
    replace q2 := n_q2
    clear n_q2
    replace f_q2 := n_f_q2
    clear n_f_q2
    replace y0 := Kw11.cell (by omega) y0
    replace f_y0 := Kw11.frzO (by omega) z_y f_y0
    replace y1 := Kw11.cell (by omega) y1
    replace f_y1 := Kw11.frzO (by omega) z_y f_y1
    replace y2 := Kw11.cell (by omega) y2
    replace f_y2 := Kw11.frzO (by omega) z_y f_y2
    replace O1 := O1.chgN Kw11 (by omega)
    replace O2 := O2.chgN Kw11 (by omega)
    clear Kw11
    have z_q : w.heap.size + 1 + 1 < (((w10.setCell ⟨w.heap.size + 1 + 1, 0, none⟩ (.int .i64 (b1 + A * x))).setCell ⟨w.heap.size + 1 + 1, 1, none⟩ (.slice (some ⟨g1, 0, none⟩) s1.length r1)).setCell ⟨w.heap.size + 1 + 1, 2, none⟩ (.slice (some ⟨g2, 0, none⟩) t1.length r2)).heap.size := qB q0
    have z_y : w1.heap.size < (((w10.setCell ⟨w.heap.size + 1 + 1, 0, none⟩ (.int .i64 (b1 + A * x))).setCell ⟨w.heap.size + 1 + 1, 1, none⟩ (.slice (some ⟨g1, 0, none⟩) s1.length r1)).setCell ⟨w.heap.size + 1 + 1, 2, none⟩ (.slice (some ⟨g2, 0, none⟩) t1.length r2)).heap.size := qB y0
    have s_w11 : w.heap.size ≤ (((w10.setCell ⟨w.heap.size + 1 + 1, 0, none⟩ (.int .i64 (b1 + A * x))).setCell ⟨w.heap.size + 1 + 1, 1, none⟩ (.slice (some ⟨g1, 0, none⟩) s1.length r1)).setCell ⟨w.heap.size + 1 + 1, 2, none⟩ (.slice (some ⟨g2, 0, none⟩) t1.length r2)).heap.size := Xw11.size
    generalize (((w10.setCell ⟨w.heap.size + 1 + 1, 0, none⟩ (.int .i64 (b1 + A * x))).setCell ⟨w.heap.size + 1 + 1, 1, none⟩ (.slice (some ⟨g1, 0, none⟩) s1.length r1)).setCell ⟨w.heap.size + 1 + 1, 2, none⟩ (.slice (some ⟨g2, 0, none⟩) t1.length r2)) = w11 at *
    refine bodyPost_ret (v := .agg #[.int .i64 (b1 + A * x), .slice (some ⟨g1, 0, none⟩) s1.length r1, .slice (some ⟨g2, 0, none⟩) t1.length r2]) (by simp only [results, Try.results108]; go_simp) rfl ?_
    rw [hT.out, hB.out]
    exact PView.own (O1.lower (by omega)).z (O2.lower (by omega)).z (fun _ _ => by simp [Value.ownBlock]; omega) (by unfold cutS; simpa using hlen1) (by simp <;> omega) Xw11

end Go.Proofs.Ytonnnjaooifpjaa

/- Walks: SliceDim and FlipDim of the reference. -/
namespace Go.Proofs.Ytonnnjaooifpjaa
open Go.RowKit
set_option linter.unusedVariables false
set_option maxRecDepth 100000


/-- a view with a bool -/
abbrev VBool := Int × List Int × List Int × Bool
def PVB (w : World) (x : VBool) : Ending → World → Prop := PViewB w x.1 x.2.1 x.2.2.1 x.2.2.2
def noV : VBool := (0, [], [], false)
theorem PVB.no {w w' : World} {x : VBool} (h : x = noV) (hx : Ext w w') : PVB w x (.returned (.tuple #[.agg #[.int .i64 0, .slice none 0 0, .slice none 0 0], .bool false])) w' := by
 subst h; exact PViewB.no hx
theorem PVB.yes {w w' : World} {x : VBool} {b : Int} {s t : List Int} {v1 v2 : Value} (h : x = (b, s, t, true)) (o1 : OwnZ w' w.heap.size v1 s) (o2 : OwnZ w' w.heap.size v2 t) (hd : s ≠ [] → t ≠ [] → v1.ownBlock ≠ v2.ownBlock) (l1 : s.length ≤ 4194304) (l2 : t.length ≤ 4194304) (hx : Ext w w') :
  PVB w x (.returned (.tuple #[.agg #[.int .i64 b, v1, v2], .bool true])) w' := by
 subst h; exact ⟨v1, v2, rfl, o1.ints l1, o2.ints l2, o1, o2, hd, hx⟩

def sliceV (b : Int) (s t : List Int) (d F T B : Int) (hf ht : Bool) : VBool :=
 if viewB b s t && (inB 0 ((s.length : Int) - 1) d && sliceB F T B hf ht) then
  (cutB b s t d.toNat (idxS (s.getD d.toNat 0) F T B hf ht), cutS s d.toNat (idxS (s.getD d.toNat 0) F T B hf ht), cutT s t d.toNat (idxS (s.getD d.toNat 0) F T B hf ht), true)
 else noV
theorem sliceV_view {b : Int} {s t : List Int} {d F T B : Int} {hf ht : Bool} (h : viewB b s t = true) (hd : 0 ≤ d ∧ d < s.length) (hs : sliceB F T B hf ht = true) :
  viewB (cutB b s t d.toNat (idxS (s.getD d.toNat 0) F T B hf ht)) (cutS s d.toNat (idxS (s.getD d.toNat 0) F T B hf ht)) (cutT s t d.toNat (idxS (s.getD d.toNat 0) F T B hf ht)) = true := by
 have hn := (shapeB_in (viewB_in h).1).2.1 _ (getD_mem (s := s) (d := d.toNat) (by omega))
 exact (cut_view h (by omega) (sliceB_in hs).2.2.2 (idxS_in hn.1 (sliceB_in hs).2.2.2)).1
theorem sliceV_yes {b : Int} {s t : List Int} {d F T B : Int} {hf ht : Bool} {L : List Int} (h : viewB b s t = true) (hb : inB 0 ((s.length : Int) - 1) d = true) (hs : sliceB F T B hf ht = true) (hL : idxS (s.getD d.toNat 0) F T B hf ht = L) :
  sliceV b s t d F T B hf ht = (cutB b s t d.toNat L, cutS s d.toNat L, cutT s t d.toNat L, true) := by
 unfold sliceV; rw [h, hb, hs, ← hL]; rfl

set_option maxHeartbeats 3200000 in
theorem specSliceDim_c (b1 : Int) (u1 v1 : Value) (s1 t1 : List Int) (d F T B : Int) (hf ht : Bool) (w : World) (l1 m1 : Nat) (h1 : Ints w l1 u1 s1) (k1 : Ints w m1 v1 t1) :
  Calls Try.prog 49 #[.agg #[.int .i64 b1, u1, v1], .int .i64 d, .agg #[.int .i64 F, .int .i64 T, .int .i64 B, .bool hf, .bool ht]] w (PVB w (sliceV b1 s1 t1 d F T B hf ht)) := by
 have hlen1 := ints_len h1
 have hlen2 := ints_len k1
 obtain ⟨a1, cp1, rfl⟩ := h1.form
 obtain ⟨a2, cp2, rfl⟩ := k1.form
 cases ha : viewB b1 s1 t1
 ·
  have hr : Hid (sliceV b1 s1 t1 d F T B hf ht = noV) := Lib.hid (by unfold sliceV; rw [ha]; rfl)
  replace ha := Lib.hid ha
  go_enter Try.func49, Try.ntmps49
  go_wp2_with fail
  refine (validView_c b1 _ _ s1 t1 _ l1 m1 (h1.ext qXt) (k1.ext qXt)).mono ?_
  rintro e w1 ⟨rfl, xw1⟩
  have Lw1 : Ext w w1 := Ext.trans qXt xw1
  have Xw1 : Ext w w1 := Lw1
  have va0 : w1.cell? ⟨w.heap.size, 0, none⟩ = some (.int .i64 b1) := xw1.cell qCl
  have va1 : w1.cell? ⟨w.heap.size, 1, none⟩ = some (.slice a1 s1.length cp1) := xw1.cell qCl
  have va2 : w1.cell? ⟨w.heap.size, 2, none⟩ = some (.slice a2 t1.length cp2) := xw1.cell qCl
  have sl0 : w1.cell? ⟨w.heap.size + 1, 0, none⟩ = some (.int .i64 F) := xw1.cell qCl
  have sl1 : w1.cell? ⟨w.heap.size + 1, 1, none⟩ = some (.int .i64 T) := xw1.cell qCl
  have sl2 : w1.cell? ⟨w.heap.size + 1, 2, none⟩ = some (.int .i64 B) := xw1.cell qCl
  have sl3 : w1.cell? ⟨w.heap.size + 1, 3, none⟩ = some (.bool hf) := xw1.cell qCl
  have sl4 : w1.cell? ⟨w.heap.size + 1, 4, none⟩ = some (.bool ht) := xw1.cell qCl
  have q0 : w1.cell? ⟨w.heap.size + 1 + 1, 0, none⟩ = some (.int .i64 0) := xw1.cell qCl
  have q1 : w1.cell? ⟨w.heap.size + 1 + 1, 1, none⟩ = some (.slice none 0 0) := xw1.cell qCl
  have q2 : w1.cell? ⟨w.heap.size + 1 + 1, 2, none⟩ = some (.slice none 0 0) := xw1.cell qCl
  have f_q0 : w1.frozen? ⟨w.heap.size + 1 + 1, 0, none⟩ = false := xw1.frz (by simp <;> omega) qFz
  have f_q1 : w1.frozen? ⟨w.heap.size + 1 + 1, 1, none⟩ = false := xw1.frz (by simp <;> omega) qFz
  have f_q2 : w1.frozen? ⟨w.heap.size + 1 + 1, 2, none⟩ = false := xw1.frz (by simp <;> omega) qFz
  have z_va : w.heap.size < w1.heap.size := qB va0
  have z_sl : w.heap.size + 1 < w1.heap.size := qB sl0
  have z_q : w.heap.size + 1 + 1 < w1.heap.size := qB q0
  have s_w1 : w.heap.size ≤ w1.heap.size := Xw1.size
  clear xw1
  rw [ha.out]
  go_wp2_with fail
  refine bodyPost_ret (v := .tuple #[.agg #[.int .i64 0, .slice none 0 0, .slice none 0 0], .bool false]) (by simp only [results, Try.results49]; go_simp) rfl ?_
  exact PVB.no hr.out qXt
 ·
  cases hb : inB 0 ((s1.length : Int) - 1) d
  ·
   have hr : Hid (sliceV b1 s1 t1 d F T B hf ht = noV) := Lib.hid (by unfold sliceV; rw [ha, hb]; rfl)
   obtain ⟨j1, -⟩ := viewB_in ha
   have j4 := (shapeB_in j1).1
   replace ha := Lib.hid ha
   replace hb := Lib.hid hb
   clear j1
   go_enter Try.func49, Try.ntmps49
   go_wp2_with fail
   refine (validView_c b1 _ _ s1 t1 _ l1 m1 (h1.ext qXt) (k1.ext qXt)).mono ?_
   rintro e w1 ⟨rfl, xw1⟩
   have Lw1 : Ext w w1 := Ext.trans qXt xw1
   have Xw1 : Ext w w1 := Lw1
   have va0 : w1.cell? ⟨w.heap.size, 0, none⟩ = some (.int .i64 b1) := xw1.cell qCl
   have va1 : w1.cell? ⟨w.heap.size, 1, none⟩ = some (.slice a1 s1.length cp1) := xw1.cell qCl
   have va2 : w1.cell? ⟨w.heap.size, 2, none⟩ = some (.slice a2 t1.length cp2) := xw1.cell qCl
   have sl0 : w1.cell? ⟨w.heap.size + 1, 0, none⟩ = some (.int .i64 F) := xw1.cell qCl
   have sl1 : w1.cell? ⟨w.heap.size + 1, 1, none⟩ = some (.int .i64 T) := xw1.cell qCl
   have sl2 : w1.cell? ⟨w.heap.size + 1, 2, none⟩ = some (.int .i64 B) := xw1.cell qCl
   have sl3 : w1.cell? ⟨w.heap.size + 1, 3, none⟩ = some (.bool hf) := xw1.cell qCl
   have sl4 : w1.cell? ⟨w.heap.size + 1, 4, none⟩ = some (.bool ht) := xw1.cell qCl
   have q0 : w1.cell? ⟨w.heap.size + 1 + 1, 0, none⟩ = some (.int .i64 0) := xw1.cell qCl
   have q1 : w1.cell? ⟨w.heap.size + 1 + 1, 1, none⟩ = some (.slice none 0 0) := xw1.cell qCl
   have q2 : w1.cell? ⟨w.heap.size + 1 + 1, 2, none⟩ = some (.slice none 0 0) := xw1.cell qCl
   have f_q0 : w1.frozen? ⟨w.heap.size + 1 + 1, 0, none⟩ = false := xw1.frz (by simp <;> omega) qFz
   have f_q1 : w1.frozen? ⟨w.heap.size + 1 + 1, 1, none⟩ = false := xw1.frz (by simp <;> omega) qFz
   have f_q2 : w1.frozen? ⟨w.heap.size + 1 + 1, 2, none⟩ = false := xw1.frz (by simp <;> omega) qFz
   have z_va : w.heap.size < w1.heap.size := qB va0
   have z_sl : w.heap.size + 1 < w1.heap.size := qB sl0
   have z_q : w.heap.size + 1 + 1 < w1.heap.size := qB q0
   have s_w1 : w.heap.size ≤ w1.heap.size := Xw1.size
   clear xw1
   rw [ha.out]
   go_wp2_with fail
   refine (isDim_c b1 _ _ s1 t1 d _ l1 m1 (h1.ext (Xw1.trans qXt)) (k1.ext (Xw1.trans qXt)) (by omega)).mono ?_
   rintro e w2 ⟨rfl, xw2⟩
   have Lw2 : Ext w1 w2 := Ext.trans qXt xw2
   have Xw2 : Ext w w2 := Xw1.trans Lw2
   replace va0 := Lw2.cell va0
   replace va1 := Lw2.cell va1
   replace va2 := Lw2.cell va2
   replace sl0 := Lw2.cell sl0
   replace sl1 := Lw2.cell sl1
   replace sl2 := Lw2.cell sl2
   replace sl3 := Lw2.cell sl3
   replace sl4 := Lw2.cell sl4
   replace q0 := Lw2.cell q0
   replace q1 := Lw2.cell q1
   replace q2 := Lw2.cell q2
   replace f_q0 := Lw2.frz z_q f_q0
   replace f_q1 := Lw2.frz z_q f_q1
   replace f_q2 := Lw2.frz z_q f_q2
   have z_va : w.heap.size < w2.heap.size := qB va0
   have z_sl : w.heap.size + 1 < w2.heap.size := qB sl0
   have z_q : w.heap.size + 1 + 1 < w2.heap.size := qB q0
   have s_w2 : w.heap.size ≤ w2.heap.size := Xw2.size
   clear xw2
   rw [hb.out]
   go_wp2_with fail
   refine bodyPost_ret (v := .tuple #[.agg #[.int .i64 0, .slice none 0 0, .slice none 0 0], .bool false]) (by simp only [results, Try.results49]; go_simp) rfl ?_
   exact PVB.no hr.out qXt
  ·
   obtain ⟨j1, -⟩ := viewB_in ha
   have j4 := (shapeB_in j1).1
   clear j1
   cases hc : sliceB F T B hf ht
   ·
    have hr : Hid (sliceV b1 s1 t1 d F T B hf ht = noV) := Lib.hid (by unfold sliceV; rw [ha, hb, hc]; rfl)
    replace ha := Lib.hid ha
    replace hb := Lib.hid hb
    replace hc := Lib.hid hc
    go_enter Try.func49, Try.ntmps49
    go_wp2_with fail
    refine (validView_c b1 _ _ s1 t1 _ l1 m1 (h1.ext qXt) (k1.ext qXt)).mono ?_
    rintro e w1 ⟨rfl, xw1⟩
    have Lw1 : Ext w w1 := Ext.trans qXt xw1
    have Xw1 : Ext w w1 := Lw1
    have va0 : w1.cell? ⟨w.heap.size, 0, none⟩ = some (.int .i64 b1) := xw1.cell qCl
    have va1 : w1.cell? ⟨w.heap.size, 1, none⟩ = some (.slice a1 s1.length cp1) := xw1.cell qCl
    have va2 : w1.cell? ⟨w.heap.size, 2, none⟩ = some (.slice a2 t1.length cp2) := xw1.cell qCl
    have sl0 : w1.cell? ⟨w.heap.size + 1, 0, none⟩ = some (.int .i64 F) := xw1.cell qCl
    have sl1 : w1.cell? ⟨w.heap.size + 1, 1, none⟩ = some (.int .i64 T) := xw1.cell qCl
    have sl2 : w1.cell? ⟨w.heap.size + 1, 2, none⟩ = some (.int .i64 B) := xw1.cell qCl
    have sl3 : w1.cell? ⟨w.heap.size + 1, 3, none⟩ = some (.bool hf) := xw1.cell qCl
    have sl4 : w1.cell? ⟨w.heap.size + 1, 4, none⟩ = some (.bool ht) := xw1.cell qCl
    have q0 : w1.cell? ⟨w.heap.size + 1 + 1, 0, none⟩ = some (.int .i64 0) := xw1.cell qCl
    have q1 : w1.cell? ⟨w.heap.size + 1 + 1, 1, none⟩ = some (.slice none 0 0) := xw1.cell qCl
    have q2 : w1.cell? ⟨w.heap.size + 1 + 1, 2, none⟩ = some (.slice none 0 0) := xw1.cell qCl
    have f_q0 : w1.frozen? ⟨w.heap.size + 1 + 1, 0, none⟩ = false := xw1.frz (by simp <;> omega) qFz
    have f_q1 : w1.frozen? ⟨w.heap.size + 1 + 1, 1, none⟩ = false := xw1.frz (by simp <;> omega) qFz
    have f_q2 : w1.frozen? ⟨w.heap.size + 1 + 1, 2, none⟩ = false := xw1.frz (by simp <;> omega) qFz
    have z_va : w.heap.size < w1.heap.size := qB va0
    have z_sl : w.heap.size + 1 < w1.heap.size := qB sl0
    have z_q : w.heap.size + 1 + 1 < w1.heap.size := qB q0
    have s_w1 : w.heap.size ≤ w1.heap.size := Xw1.size
    clear xw1
    rw [ha.out]
    go_wp2_with fail
    refine (isDim_c b1 _ _ s1 t1 d _ l1 m1 (h1.ext (Xw1.trans qXt)) (k1.ext (Xw1.trans qXt)) (by omega)).mono ?_
    rintro e w2 ⟨rfl, xw2⟩
    have Lw2 : Ext w1 w2 := Ext.trans qXt xw2
    have Xw2 : Ext w w2 := Xw1.trans Lw2
    replace va0 := Lw2.cell va0
    replace va1 := Lw2.cell va1
    replace va2 := Lw2.cell va2
    replace sl0 := Lw2.cell sl0
    replace sl1 := Lw2.cell sl1
    replace sl2 := Lw2.cell sl2
    replace sl3 := Lw2.cell sl3
    replace sl4 := Lw2.cell sl4
    replace q0 := Lw2.cell q0
    replace q1 := Lw2.cell q1
    replace q2 := Lw2.cell q2
    replace f_q0 := Lw2.frz z_q f_q0
    replace f_q1 := Lw2.frz z_q f_q1
    replace f_q2 := Lw2.frz z_q f_q2
    have z_va : w.heap.size < w2.heap.size := qB va0
    have z_sl : w.heap.size + 1 < w2.heap.size := qB sl0
    have z_q : w.heap.size + 1 + 1 < w2.heap.size := qB q0
    have s_w2 : w.heap.size ≤ w2.heap.size := Xw2.size
    clear xw2
    rw [hb.out]
    go_wp2_with fail
    refine (validSlice_c F T B hf ht _).mono ?_
    rintro e w3 ⟨rfl, xw3⟩
    have Lw3 : Ext w2 w3 := Ext.trans qXt xw3
    have Xw3 : Ext w w3 := Xw2.trans Lw3
    replace va0 := Lw3.cell va0
    replace va1 := Lw3.cell va1
    replace va2 := Lw3.cell va2
    replace sl0 := Lw3.cell sl0
    replace sl1 := Lw3.cell sl1
    replace sl2 := Lw3.cell sl2
    replace sl3 := Lw3.cell sl3
    replace sl4 := Lw3.cell sl4
    replace q0 := Lw3.cell q0
    replace q1 := Lw3.cell q1
    replace q2 := Lw3.cell q2
    replace f_q0 := Lw3.frz z_q f_q0
    replace f_q1 := Lw3.frz z_q f_q1
    replace f_q2 := Lw3.frz z_q f_q2
    have z_va : w.heap.size < w3.heap.size := qB va0
    have z_sl : w.heap.size + 1 < w3.heap.size := qB sl0
    have z_q : w.heap.size + 1 + 1 < w3.heap.size := qB q0
    have s_w3 : w.heap.size ≤ w3.heap.size := Xw3.size
    clear xw3
    rw [hc.out]
    go_wp2_with fail
    refine bodyPost_ret (v := .tuple #[.agg #[.int .i64 0, .slice none 0 0, .slice none 0 0], .bool false]) (by simp only [results, Try.results49]; go_simp) rfl ?_
    exact PVB.no hr.out qXt
   ·
    have hd : 0 ≤ d ∧ d < s1.length := by simp [inB] at hb; omega
    obtain ⟨L, hL⟩ : ∃ L, Hid (idxS (s1.getD d.toNat 0) F T B hf ht = L) := ⟨_, Lib.hid rfl⟩
    have hv := sliceV_view ha hd hc
    have hr := sliceV_yes ha hb hc hL.out
    rw [hL.out] at hv
    have hcut : ∀ W, Ext w W → Calls Try.prog 108 #[.agg #[.int .i64 b1, .slice a1 s1.length cp1, .slice a2 t1.length cp2], .int .i64 (d.toNat : Int), .agg #[.int .i64 F, .int .i64 T, .int .i64 B, .bool hf, .bool ht]] W (PView W (cutB b1 s1 t1 d.toNat L) (cutS s1 d.toNat L) (cutT s1 t1 d.toNat L)) :=
     fun W hW => cutDim_c b1 _ _ s1 t1 d.toNat F T B hf ht L W l1 m1 (h1.ext hW) (k1.ext hW) ha (by omega) hc hL.out
    rw [Int.toNat_of_nonneg hd.1] at hcut
    replace hv := Lib.hid hv
    generalize cutB b1 s1 t1 d.toNat L = cb at *
    generalize cutS s1 d.toNat L = cs at *
    generalize cutT s1 t1 d.toNat L = ct at *
    replace hcut := Lib.hid hcut
    replace hr := Lib.hid hr
    replace ha := Lib.hid ha
    replace hb := Lib.hid hb
    replace hc := Lib.hid hc
    go_enter Try.func49, Try.ntmps49
    go_wp2_with fail
    refine (validView_c b1 _ _ s1 t1 _ l1 m1 (h1.ext qXt) (k1.ext qXt)).mono ?_
    rintro e w1 ⟨rfl, xw1⟩
    have Lw1 : Ext w w1 := Ext.trans qXt xw1
    have Xw1 : Ext w w1 := Lw1
    have va0 : w1.cell? ⟨w.heap.size, 0, none⟩ = some (.int .i64 b1) := xw1.cell qCl
    have va1 : w1.cell? ⟨w.heap.size, 1, none⟩ = some (.slice a1 s1.length cp1) := xw1.cell qCl
    have va2 : w1.cell? ⟨w.heap.size, 2, none⟩ = some (.slice a2 t1.length cp2) := xw1.cell qCl
    have sl0 : w1.cell? ⟨w.heap.size + 1, 0, none⟩ = some (.int .i64 F) := xw1.cell qCl
    have sl1 : w1.cell? ⟨w.heap.size + 1, 1, none⟩ = some (.int .i64 T) := xw1.cell qCl
    have sl2 : w1.cell? ⟨w.heap.size + 1, 2, none⟩ = some (.int .i64 B) := xw1.cell qCl
    have sl3 : w1.cell? ⟨w.heap.size + 1, 3, none⟩ = some (.bool hf) := xw1.cell qCl
    have sl4 : w1.cell? ⟨w.heap.size + 1, 4, none⟩ = some (.bool ht) := xw1.cell qCl
    have q0 : w1.cell? ⟨w.heap.size + 1 + 1, 0, none⟩ = some (.int .i64 0) := xw1.cell qCl
    have q1 : w1.cell? ⟨w.heap.size + 1 + 1, 1, none⟩ = some (.slice none 0 0) := xw1.cell qCl
    have q2 : w1.cell? ⟨w.heap.size + 1 + 1, 2, none⟩ = some (.slice none 0 0) := xw1.cell qCl
    have f_q0 : w1.frozen? ⟨w.heap.size + 1 + 1, 0, none⟩ = false := xw1.frz (by simp <;> omega) qFz
    have f_q1 : w1.frozen? ⟨w.heap.size + 1 + 1, 1, none⟩ = false := xw1.frz (by simp <;> omega) qFz
    have f_q2 : w1.frozen? ⟨w.heap.size + 1 + 1, 2, none⟩ = false := xw1.frz (by simp <;> omega) qFz
    have z_va : w.heap.size < w1.heap.size := qB va0
    have z_sl : w.heap.size + 1 < w1.heap.size := qB sl0
    have z_q : w.heap.size + 1 + 1 < w1.heap.size := qB q0
    have s_w1 : w.heap.size ≤ w1.heap.size := Xw1.size
    clear xw1
    rw [ha.out]
    go_wp2_with fail
    refine (isDim_c b1 _ _ s1 t1 d _ l1 m1 (h1.ext (Xw1.trans qXt)) (k1.ext (Xw1.trans qXt)) (by omega)).mono ?_
    rintro e w2 ⟨rfl, xw2⟩
    have Lw2 : Ext w1 w2 := Ext.trans qXt xw2
    have Xw2 : Ext w w2 := Xw1.trans Lw2
    replace va0 := Lw2.cell va0
    replace va1 := Lw2.cell va1
    replace va2 := Lw2.cell va2
    replace sl0 := Lw2.cell sl0
    replace sl1 := Lw2.cell sl1
    replace sl2 := Lw2.cell sl2
    replace sl3 := Lw2.cell sl3
    replace sl4 := Lw2.cell sl4
    replace q0 := Lw2.cell q0
    replace q1 := Lw2.cell q1
    replace q2 := Lw2.cell q2
    replace f_q0 := Lw2.frz z_q f_q0
    replace f_q1 := Lw2.frz z_q f_q1
    replace f_q2 := Lw2.frz z_q f_q2
    have z_va : w.heap.size < w2.heap.size := qB va0
    have z_sl : w.heap.size + 1 < w2.heap.size := qB sl0
    have z_q : w.heap.size + 1 + 1 < w2.heap.size := qB q0
    have s_w2 : w.heap.size ≤ w2.heap.size := Xw2.size
    clear xw2
    rw [hb.out]
    go_wp2_with fail
    refine (validSlice_c F T B hf ht _).mono ?_
    rintro e w3 ⟨rfl, xw3⟩
    have Lw3 : Ext w2 w3 := Ext.trans qXt xw3
    have Xw3 : Ext w w3 := Xw2.trans Lw3
    replace va0 := Lw3.cell va0
    replace va1 := Lw3.cell va1
    replace va2 := Lw3.cell va2
    replace sl0 := Lw3.cell sl0
    replace sl1 := Lw3.cell sl1
    replace sl2 := Lw3.cell sl2
    replace sl3 := Lw3.cell sl3
    replace sl4 := Lw3.cell sl4
    replace q0 := Lw3.cell q0
    replace q1 := Lw3.cell q1
    replace q2 := Lw3.cell q2
    replace f_q0 := Lw3.frz z_q f_q0
    replace f_q1 := Lw3.frz z_q f_q1
    replace f_q2 := Lw3.frz z_q f_q2
    have z_va : w.heap.size < w3.heap.size := qB va0
    have z_sl : w.heap.size + 1 < w3.heap.size := qB sl0
    have z_q : w.heap.size + 1 + 1 < w3.heap.size := qB q0
    have s_w3 : w.heap.size ≤ w3.heap.size := Xw3.size
    clear xw3
    rw [hc.out]
    go_wp2_with fail
    refine (hcut.out _ (Xw3.trans qXt)).mono ?_
    rintro e w4 ⟨x1, x2, rfl, i1, i2, -, -, -, xw4⟩
    have Lw4 : Ext w3 w4 := Ext.trans qXt xw4
    have Xw4 : Ext w w4 := Xw3.trans Lw4
    replace va0 := Lw4.cell va0
    replace va1 := Lw4.cell va1
    replace va2 := Lw4.cell va2
    replace sl0 := Lw4.cell sl0
    replace sl1 := Lw4.cell sl1
    replace sl2 := Lw4.cell sl2
    replace sl3 := Lw4.cell sl3
    replace sl4 := Lw4.cell sl4
    replace q0 := Lw4.cell q0
    replace q1 := Lw4.cell q1
    replace q2 := Lw4.cell q2
    replace f_q0 := Lw4.frz z_q f_q0
    replace f_q1 := Lw4.frz z_q f_q1
    replace f_q2 := Lw4.frz z_q f_q2
    have z_va : w.heap.size < w4.heap.size := qB va0
    have z_sl : w.heap.size + 1 < w4.heap.size := qB sl0
    have z_q : w.heap.size + 1 + 1 < w4.heap.size := qB q0
    have s_w4 : w.heap.size ≤ w4.heap.size := Xw4.size
    clear xw4
    go_wp2_with fail
    refine (made_1 _ _ _ _ _ _ _ _ (i1.ext qXt) (i2.ext qXt) hv.out).mono ?_
    rintro e w5 ⟨y1, y2, rfl, j1, j2, o1, o2, od, xw5⟩
    have Lw5 : Ext w4 w5 := Ext.trans qXt xw5
    have Xw5 : Ext w w5 := Xw4.trans Lw5
    replace va0 := Lw5.cell va0
    replace va1 := Lw5.cell va1
    replace va2 := Lw5.cell va2
    replace sl0 := Lw5.cell sl0
    replace sl1 := Lw5.cell sl1
    replace sl2 := Lw5.cell sl2
    replace sl3 := Lw5.cell sl3
    replace sl4 := Lw5.cell sl4
    replace q0 := Lw5.cell q0
    replace q1 := Lw5.cell q1
    replace q2 := Lw5.cell q2
    replace f_q0 := Lw5.frz z_q f_q0
    replace f_q1 := Lw5.frz z_q f_q1
    replace f_q2 := Lw5.frz z_q f_q2
    have z_va : w.heap.size < w5.heap.size := qB va0
    have z_sl : w.heap.size + 1 < w5.heap.size := qB sl0
    have z_q : w.heap.size + 1 + 1 < w5.heap.size := qB q0
    replace i1 := i1.ext Lw5
    replace i2 := i2.ext Lw5
    have s_w5 : w.heap.size ≤ w5.heap.size := Xw5.size
    clear xw5
    have hl1 := ints_len j1
    have hl2 := ints_len j2
    clear i1 i2
    obtain ⟨p1, n1, r1, rfl⟩ := o1.form
    obtain ⟨p2, n2, r2, rfl⟩ := o2.form
    go_wp2_with fail
    have Kw6 : Chg (w.heap.size + 1 + 1) (w.heap.size + 1 + 1 + 1) w5 (((w5.setCell ⟨w.heap.size + 1 + 1, 0, none⟩ (.int .i64 cb)).setCell ⟨w.heap.size + 1 + 1, 1, none⟩ (.slice p1 n1 r1)).setCell ⟨w.heap.size + 1 + 1, 2, none⟩ (.slice p2 n2 r2)) := (Chg.setCell (p := ⟨w.heap.size + 1 + 1, 2, none⟩) (Chg.setCell (p := ⟨w.heap.size + 1 + 1, 1, none⟩) (Chg.setCell (p := ⟨w.heap.size + 1 + 1, 0, none⟩) (Chg.refl (w.heap.size + 1 + 1) (w.heap.size + 1 + 1 + 1) _) (Nat.le_refl _) (Nat.lt_succ_self _) (.int .i64 cb)) (Nat.le_refl _) (Nat.lt_succ_self _) (.slice p1 n1 r1)) (Nat.le_refl _) (Nat.lt_succ_self _) (.slice p2 n2 r2))
    have Xw6 : Ext w (((w5.setCell ⟨w.heap.size + 1 + 1, 0, none⟩ (.int .i64 cb)).setCell ⟨w.heap.size + 1 + 1, 1, none⟩ (.slice p1 n1 r1)).setCell ⟨w.heap.size + 1 + 1, 2, none⟩ (.slice p2 n2 r2)) := (Ext.setCell (p := ⟨w.heap.size + 1 + 1, 2, none⟩) (Ext.setCell (p := ⟨w.heap.size + 1 + 1, 1, none⟩) (Ext.setCell (p := ⟨w.heap.size + 1 + 1, 0, none⟩) Xw5 qSo (.int .i64 cb)) qSo (.slice p1 n1 r1)) qSo (.slice p2 n2 r2))
    replace va0 := Kw6.cell (by omega) va0
    replace va1 := Kw6.cell (by omega) va1
    replace va2 := Kw6.cell (by omega) va2
    replace sl0 := Kw6.cell (by omega) sl0
    replace sl1 := Kw6.cell (by omega) sl1
    replace sl2 := Kw6.cell (by omega) sl2
    replace sl3 := Kw6.cell (by omega) sl3
    replace sl4 := Kw6.cell (by omega) sl4
    have n_q0 : (((w5.setCell ⟨w.heap.size + 1 + 1, 0, none⟩ (.int .i64 cb)).setCell ⟨w.heap.size + 1 + 1, 1, none⟩ (.slice p1 n1 r1)).setCell ⟨w.heap.size + 1 + 1, 2, none⟩ (.slice p2 n2 r2)).cell? ⟨w.heap.size + 1 + 1, 0, none⟩ = some (.int .i64 cb) := by go_simp
    have n_f_q0 : (((w5.setCell ⟨w.heap.size + 1 + 1, 0, none⟩ (.int .i64 cb)).setCell ⟨w.heap.size + 1 + 1, 1, none⟩ (.slice p1 n1 r1)).setCell ⟨w.heap.size + 1 + 1, 2, none⟩ (.slice p2 n2 r2)).frozen? ⟨w.heap.size + 1 + 1, 0, none⟩ = false := by go_simp
    have n_q1 : (((w5.setCell ⟨w.heap.size + 1 + 1, 0, none⟩ (.int .i64 cb)).setCell ⟨w.heap.size + 1 + 1, 1, none⟩ (.slice p1 n1 r1)).setCell ⟨w.heap.size + 1 + 1, 2, none⟩ (.slice p2 n2 r2)).cell? ⟨w.heap.size + 1 + 1, 1, none⟩ = some (.slice p1 n1 r1) := by go_simp
    have n_f_q1 : (((w5.setCell ⟨w.heap.size + 1 + 1, 0, none⟩ (.int .i64 cb)).setCell ⟨w.heap.size + 1 + 1, 1, none⟩ (.slice p1 n1 r1)).setCell ⟨w.heap.size + 1 + 1, 2, none⟩ (.slice p2 n2 r2)).frozen? ⟨w.heap.size + 1 + 1, 1, none⟩ = false := by go_simp
    have n_q2 : (((w5.setCell ⟨w.heap.size + 1 + 1, 0, none⟩ (.int .i64 cb)).setCell ⟨w.heap.size + 1 + 1, 1, none⟩ (.slice p1 n1 r1)).setCell ⟨w.heap.size + 1 + 1, 2, none⟩ (.slice p2 n2 r2)).cell? ⟨w.heap.size + 1 + 1, 2, none⟩ = some (.slice p2 n2 r2) := by go_simp
    have n_f_q2 : (((w5.setCell ⟨w.heap.size + 1 + 1, 0, none⟩ (.int .i64 cb)).setCell ⟨w.heap.size + 1 + 1, 1, none⟩ (.slice p1 n1 r1)).setCell ⟨w.heap.size + 1 + 1, 2, none⟩ (.slice p2 n2 r2)).frozen? ⟨w.heap.size + 1 + 1, 2, none⟩ = false := by go_simp
    replace q0 := n_q0
    clear n_q0
    replace f_q0 := n_f_q0
    clear n_f_q0
    replace q1 := n_q1
    clear n_q1
    replace f_q1 := n_f_q1
    clear n_f_q1
    replace q2 := n_q2
    clear n_q2
    replace f_q2 := n_f_q2
    clear n_f_q2
    replace o1 := o1.chg Kw6 (by omega)
    replace o2 := o2.chg Kw6 (by omega)
    clear Kw6
    have z_va : w.heap.size < (((w5.setCell ⟨w.heap.size + 1 + 1, 0, none⟩ (.int .i64 cb)).setCell ⟨w.heap.size + 1 + 1, 1, none⟩ (.slice p1 n1 r1)).setCell ⟨w.heap.size + 1 + 1, 2, none⟩ (.slice p2 n2 r2)).heap.size := qB va0
    have z_sl : w.heap.size + 1 < (((w5.setCell ⟨w.heap.size + 1 + 1, 0, none⟩ (.int .i64 cb)).setCell ⟨w.heap.size + 1 + 1, 1, none⟩ (.slice p1 n1 r1)).setCell ⟨w.heap.size + 1 + 1, 2, none⟩ (.slice p2 n2 r2)).heap.size := qB sl0
    have z_q : w.heap.size + 1 + 1 < (((w5.setCell ⟨w.heap.size + 1 + 1, 0, none⟩ (.int .i64 cb)).setCell ⟨w.heap.size + 1 + 1, 1, none⟩ (.slice p1 n1 r1)).setCell ⟨w.heap.size + 1 + 1, 2, none⟩ (.slice p2 n2 r2)).heap.size := qB q0
    have s_w6 : w.heap.size ≤ (((w5.setCell ⟨w.heap.size + 1 + 1, 0, none⟩ (.int .i64 cb)).setCell ⟨w.heap.size + 1 + 1, 1, none⟩ (.slice p1 n1 r1)).setCell ⟨w.heap.size + 1 + 1, 2, none⟩ (.slice p2 n2 r2)).heap.size := Xw6.size
    generalize (((w5.setCell ⟨w.heap.size + 1 + 1, 0, none⟩ (.int .i64 cb)).setCell ⟨w.heap.size + 1 + 1, 1, none⟩ (.slice p1 n1 r1)).setCell ⟨w.heap.size + 1 + 1, 2, none⟩ (.slice p2 n2 r2)) = w6 at *
    refine bodyPost_ret (v := .tuple #[.agg #[.int .i64 cb, .slice p1 n1 r1, .slice p2 n2 r2], .bool true]) (by simp only [results, Try.results49]; go_simp) rfl ?_
    clear hL hcut hv
    exact PVB.yes hr.out (o1.lower (by omega)) (o2.lower (by omega)) od hl1 hl2 Xw6

end Go.Proofs.Ytonnnjaooifpjaa

/- Walks: permuted of the reference. -/
namespace Go.Proofs.Ytonnnjaooifpjaa
open Go.RowKit
set_option linter.unusedVariables false
set_option maxRecDepth 100000

set_option maxHeartbeats 6400000 in
theorem permuted_c (b1 : Int) (u1 v1 : Value) (s1 t1 : List Int) (a3 : Value) (ord : List Int) (w : World) (l1 m1 : Nat) (h1 : Ints w l1 u1 s1) (k1 : Ints w m1 v1 t1) (l3 : Nat) (h3 : Ints w l3 a3 ord) (hb : ∀ x ∈ ord, 0 ≤ x ∧ x < s1.length) (ht : t1.length = s1.length) (hn : ord.length ≤ 1000) :
  Calls Try.prog 120 #[.agg #[.int .i64 b1, u1, v1], a3] w (PView w b1 (takL s1 ord) (takL t1 ord)) := by
 have hlen1 := ints_len h1
 obtain ⟨a1, cp1, rfl⟩ := h1.form
 obtain ⟨a2, cp2, rfl⟩ := k1.form
 obtain ⟨a4, cp4, rfl⟩ := h3.form
 replace ht := Lib.hid ht
 replace hb := Lib.hid hb
 go_enter Try.func120, Try.ntmps120
 go_wp2_with fail
 have Lw1 : Ext w (((w.alloc (.cells #[.int .i64 b1, .slice a1 s1.length cp1, .slice a2 t1.length cp2] 25)).alloc (.cells #[.int .i64 0, .slice none 0 0, .slice none 0 0] 25)).alloc (.cells #[.int .i64 b1, .slice none 0 0, .slice none 0 0] 25)) := qXt
 have Xw1 : Ext w (((w.alloc (.cells #[.int .i64 b1, .slice a1 s1.length cp1, .slice a2 t1.length cp2] 25)).alloc (.cells #[.int .i64 0, .slice none 0 0, .slice none 0 0] 25)).alloc (.cells #[.int .i64 b1, .slice none 0 0, .slice none 0 0] 25)) := Lw1
 have va0 : (((w.alloc (.cells #[.int .i64 b1, .slice a1 s1.length cp1, .slice a2 t1.length cp2] 25)).alloc (.cells #[.int .i64 0, .slice none 0 0, .slice none 0 0] 25)).alloc (.cells #[.int .i64 b1, .slice none 0 0, .slice none 0 0] 25)).cell? ⟨w.heap.size, 0, none⟩ = some (.int .i64 b1) := qCl
 have va1 : (((w.alloc (.cells #[.int .i64 b1, .slice a1 s1.length cp1, .slice a2 t1.length cp2] 25)).alloc (.cells #[.int .i64 0, .slice none 0 0, .slice none 0 0] 25)).alloc (.cells #[.int .i64 b1, .slice none 0 0, .slice none 0 0] 25)).cell? ⟨w.heap.size, 1, none⟩ = some (.slice a1 s1.length cp1) := qCl
 have va2 : (((w.alloc (.cells #[.int .i64 b1, .slice a1 s1.length cp1, .slice a2 t1.length cp2] 25)).alloc (.cells #[.int .i64 0, .slice none 0 0, .slice none 0 0] 25)).alloc (.cells #[.int .i64 b1, .slice none 0 0, .slice none 0 0] 25)).cell? ⟨w.heap.size, 2, none⟩ = some (.slice a2 t1.length cp2) := qCl
 have q0 : (((w.alloc (.cells #[.int .i64 b1, .slice a1 s1.length cp1, .slice a2 t1.length cp2] 25)).alloc (.cells #[.int .i64 0, .slice none 0 0, .slice none 0 0] 25)).alloc (.cells #[.int .i64 b1, .slice none 0 0, .slice none 0 0] 25)).cell? ⟨w.heap.size + 1, 0, none⟩ = some (.int .i64 0) := qCl
 have q1 : (((w.alloc (.cells #[.int .i64 b1, .slice a1 s1.length cp1, .slice a2 t1.length cp2] 25)).alloc (.cells #[.int .i64 0, .slice none 0 0, .slice none 0 0] 25)).alloc (.cells #[.int .i64 b1, .slice none 0 0, .slice none 0 0] 25)).cell? ⟨w.heap.size + 1, 1, none⟩ = some (.slice none 0 0) := qCl
 have q2 : (((w.alloc (.cells #[.int .i64 b1, .slice a1 s1.length cp1, .slice a2 t1.length cp2] 25)).alloc (.cells #[.int .i64 0, .slice none 0 0, .slice none 0 0] 25)).alloc (.cells #[.int .i64 b1, .slice none 0 0, .slice none 0 0] 25)).cell? ⟨w.heap.size + 1, 2, none⟩ = some (.slice none 0 0) := qCl
 have f_q0 : (((w.alloc (.cells #[.int .i64 b1, .slice a1 s1.length cp1, .slice a2 t1.length cp2] 25)).alloc (.cells #[.int .i64 0, .slice none 0 0, .slice none 0 0] 25)).alloc (.cells #[.int .i64 b1, .slice none 0 0, .slice none 0 0] 25)).frozen? ⟨w.heap.size + 1, 0, none⟩ = false := qFz
 have f_q1 : (((w.alloc (.cells #[.int .i64 b1, .slice a1 s1.length cp1, .slice a2 t1.length cp2] 25)).alloc (.cells #[.int .i64 0, .slice none 0 0, .slice none 0 0] 25)).alloc (.cells #[.int .i64 b1, .slice none 0 0, .slice none 0 0] 25)).frozen? ⟨w.heap.size + 1, 1, none⟩ = false := qFz
 have f_q2 : (((w.alloc (.cells #[.int .i64 b1, .slice a1 s1.length cp1, .slice a2 t1.length cp2] 25)).alloc (.cells #[.int .i64 0, .slice none 0 0, .slice none 0 0] 25)).alloc (.cells #[.int .i64 b1, .slice none 0 0, .slice none 0 0] 25)).frozen? ⟨w.heap.size + 1, 2, none⟩ = false := qFz
 have ou0 : (((w.alloc (.cells #[.int .i64 b1, .slice a1 s1.length cp1, .slice a2 t1.length cp2] 25)).alloc (.cells #[.int .i64 0, .slice none 0 0, .slice none 0 0] 25)).alloc (.cells #[.int .i64 b1, .slice none 0 0, .slice none 0 0] 25)).cell? ⟨w.heap.size + 1 + 1, 0, none⟩ = some (.int .i64 b1) := qCl
 have ou1 : (((w.alloc (.cells #[.int .i64 b1, .slice a1 s1.length cp1, .slice a2 t1.length cp2] 25)).alloc (.cells #[.int .i64 0, .slice none 0 0, .slice none 0 0] 25)).alloc (.cells #[.int .i64 b1, .slice none 0 0, .slice none 0 0] 25)).cell? ⟨w.heap.size + 1 + 1, 1, none⟩ = some (.slice none 0 0) := qCl
 have ou2 : (((w.alloc (.cells #[.int .i64 b1, .slice a1 s1.length cp1, .slice a2 t1.length cp2] 25)).alloc (.cells #[.int .i64 0, .slice none 0 0, .slice none 0 0] 25)).alloc (.cells #[.int .i64 b1, .slice none 0 0, .slice none 0 0] 25)).cell? ⟨w.heap.size + 1 + 1, 2, none⟩ = some (.slice none 0 0) := qCl
 have f_ou0 : (((w.alloc (.cells #[.int .i64 b1, .slice a1 s1.length cp1, .slice a2 t1.length cp2] 25)).alloc (.cells #[.int .i64 0, .slice none 0 0, .slice none 0 0] 25)).alloc (.cells #[.int .i64 b1, .slice none 0 0, .slice none 0 0] 25)).frozen? ⟨w.heap.size + 1 + 1, 0, none⟩ = false := qFz
 have f_ou1 : (((w.alloc (.cells #[.int .i64 b1, .slice a1 s1.length cp1, .slice a2 t1.length cp2] 25)).alloc (.cells #[.int .i64 0, .slice none 0 0, .slice none 0 0] 25)).alloc (.cells #[.int .i64 b1, .slice none 0 0, .slice none 0 0] 25)).frozen? ⟨w.heap.size + 1 + 1, 1, none⟩ = false := qFz
 have f_ou2 : (((w.alloc (.cells #[.int .i64 b1, .slice a1 s1.length cp1, .slice a2 t1.length cp2] 25)).alloc (.cells #[.int .i64 0, .slice none 0 0, .slice none 0 0] 25)).alloc (.cells #[.int .i64 b1, .slice none 0 0, .slice none 0 0] 25)).frozen? ⟨w.heap.size + 1 + 1, 2, none⟩ = false := qFz
 have z_va : w.heap.size < (((w.alloc (.cells #[.int .i64 b1, .slice a1 s1.length cp1, .slice a2 t1.length cp2] 25)).alloc (.cells #[.int .i64 0, .slice none 0 0, .slice none 0 0] 25)).alloc (.cells #[.int .i64 b1, .slice none 0 0, .slice none 0 0] 25)).heap.size := qB va0
 have z_q : w.heap.size + 1 < (((w.alloc (.cells #[.int .i64 b1, .slice a1 s1.length cp1, .slice a2 t1.length cp2] 25)).alloc (.cells #[.int .i64 0, .slice none 0 0, .slice none 0 0] 25)).alloc (.cells #[.int .i64 b1, .slice none 0 0, .slice none 0 0] 25)).heap.size := qB q0
 have z_ou : w.heap.size + 1 + 1 < (((w.alloc (.cells #[.int .i64 b1, .slice a1 s1.length cp1, .slice a2 t1.length cp2] 25)).alloc (.cells #[.int .i64 0, .slice none 0 0, .slice none 0 0] 25)).alloc (.cells #[.int .i64 b1, .slice none 0 0, .slice none 0 0] 25)).heap.size := qB ou0
 have s_w1 : w.heap.size ≤ (((w.alloc (.cells #[.int .i64 b1, .slice a1 s1.length cp1, .slice a2 t1.length cp2] 25)).alloc (.cells #[.int .i64 0, .slice none 0 0, .slice none 0 0] 25)).alloc (.cells #[.int .i64 b1, .slice none 0 0, .slice none 0 0] 25)).heap.size := Xw1.size
 generalize ((w.alloc (.cells #[.int .i64 b1, .slice a1 s1.length cp1, .slice a2 t1.length cp2] 25)).alloc (.cells #[.int .i64 0, .slice none 0 0, .slice none 0 0] 25)).alloc (.cells #[.int .i64 b1, .slice none 0 0, .slice none 0 0] 25) = w1 at *
 go_loopw [6] (fun i wr => ∃ (j : Nat) (p1 p2 : Value), j ≤ ord.length ∧ i = .int .i64 j ∧ Two (w.heap.size + 3) wr p1 p2 (takL s1 (ord.take j)) (takL t1 (ord.take j)) ∧ Ext w wr ∧ wr.cell? ⟨w.heap.size, 0, none⟩ = some (.int .i64 b1) ∧ wr.cell? ⟨w.heap.size, 1, none⟩ = some (.slice a1 s1.length cp1) ∧ wr.cell? ⟨w.heap.size, 2, none⟩ = some (.slice a2 t1.length cp2) ∧ wr.cell? ⟨w.heap.size + 1, 0, none⟩ = some (.int .i64 0) ∧ wr.cell? ⟨w.heap.size + 1, 1, none⟩ = some (.slice none 0 0) ∧ wr.cell? ⟨w.heap.size + 1, 2, none⟩ = some (.slice none 0 0) ∧ wr.frozen? ⟨w.heap.size + 1, 0, none⟩ = false ∧ wr.frozen? ⟨w.heap.size + 1, 1, none⟩ = false ∧ wr.frozen? ⟨w.heap.size + 1, 2, none⟩ = false ∧ wr.cell? ⟨w.heap.size + 1 + 1, 0, none⟩ = some (.int .i64 b1) ∧ wr.cell? ⟨w.heap.size + 1 + 1, 1, none⟩ = some (p1) ∧ wr.cell? ⟨w.heap.size + 1 + 1, 2, none⟩ = some (p2) ∧ wr.frozen? ⟨w.heap.size + 1 + 1, 0, none⟩ = false ∧ wr.frozen? ⟨w.heap.size + 1 + 1, 1, none⟩ = false ∧ wr.frozen? ⟨w.heap.size + 1 + 1, 2, none⟩ = false) (fun i _ => ord.length - (intOf i).toNat)
 case atStart => exact ⟨0, _, _, Nat.zero_le _, rfl, by simpa [takL] using Two.nil (by omega), Xw1, va0, va1, va2, q0, q1, q2, f_q0, f_q1, f_q2, ou0, ou1, ou2, f_ou0, f_ou1, f_ou2⟩
 case round =>
  obtain ⟨j, p1, p2, hj, rfl, T, Xr, va0, va1, va2, q0, q1, q2, f_q0, f_q1, f_q2, ou0, ou1, ou2, f_ou0, f_ou1, f_ou2⟩ := hrel
  have hTs := T.size
  by_cases hlt : j < ord.length
  ·
   have hI : (j : Int) < ord.length := by omega
   obtain ⟨hm0, hm1⟩ := hb.out _ (getD_mem hlt)
   obtain ⟨b3, o3, rfl, hc3⟩ := h3.at j hlt
   obtain ⟨m, hm⟩ : ∃ m : Nat, ord.getD j 0 = m := ⟨(ord.getD j 0).toNat, by omega⟩
   obtain ⟨b1s, o1s, rfl, hc1⟩ := h1.at m (by omega)
   obtain ⟨b2s, o2s, rfl, hc2⟩ := k1.at m (by have := ht.out; omega)
   have htI : (m : Int) < t1.length := by have := ht.out; omega
   have hs1 : takL s1 (ord.take (j+1)) = takL s1 (ord.take j) ++ [s1.getD m 0] := by rw [takL_take _ _ _ hlt]; simp only [← getD_get hlt, hm, Int.toNat_natCast]
   have hs2 : takL t1 (ord.take (j+1)) = takL t1 (ord.take j) ++ [t1.getD m 0] := by rw [takL_take _ _ _ hlt]; simp only [← getD_get hlt, hm, Int.toNat_natCast]
   rw [hm] at hc3 hm0 hm1
   replace hm := Lib.hid hm
   have hy1 : b1s < w.heap.size := qB hc1
   have hy2 : b2s < w.heap.size := qB hc2
   have hy3 : b3 < w.heap.size := qB hc3
   generalize s1.getD m 0 = xs at *
   generalize t1.getD m 0 = xt at *
   replace hs1 := Lib.hid hs1
   replace hs2 := Lib.hid hs2
   have ec0 := Xr.cell hc3
   have es0 := Xr.cell hc1
   have et0 := Xr.cell hc2
   clear hc1 hc2 hc3
   have z_va : w.heap.size < wr.heap.size := qB va0
   have z_q : w.heap.size + 1 < wr.heap.size := qB q0
   have z_ou : w.heap.size + 1 + 1 < wr.heap.size := qB ou0
   have z_ec : b3 < wr.heap.size := qB ec0
   have z_es : b1s < wr.heap.size := qB es0
   have z_et : b2s < wr.heap.size := qB et0
   have tl1 : (takL s1 (ord.take j)).length = j := by rw [takL_len, List.length_take]; omega
   have tl2 : (takL t1 (ord.take j)).length = j := by rw [takL_len, List.length_take]; omega
   replace tl1 := Lib.hid tl1
   replace tl2 := Lib.hid tl2
   go_wp2_with fail
   refine wp_region_tail (S := fun w' => w'.cell? ⟨w.heap.size, 1, none⟩ = some (.slice (some ⟨b1s, o1s, none⟩) s1.length cp1) ∧ w'.cell? ⟨w.heap.size + 1 + 1, 1, none⟩ = some (p1) ∧ w'.cell? ⟨b3, o3 + j, none⟩ = some (.int .i64 (m : Int)) ∧ w'.cell? ⟨b1s, o1s + m, none⟩ = some (.int .i64 xs)) (fun i => decide (13 ≤ i)) qKr ⟨va1, ou1, ec0, es0⟩ (fun hHeld => ?_)
   refine wpTail_take (i := 0) (v := ?_) rfl qKr qKr qKr rfl qKr (fun _ _ _ h => h) (Or.inl ⟨by rfl, ?_⟩) (by assumption) ?_
   rotate_left
   ·
    (intro w hSw; (try dsimp only at hSw); go_simp; try with_reducible rfl)
   try simp only [Act.put, qA1, qA2, qA3, qA4, qA5, qA6]
   refine wpTail_take (i := 1) (v := ?_) rfl qKr qKr qKr rfl qKr (fun _ _ _ h => h) (Or.inl ⟨by rfl, ?_⟩) (by assumption) ?_
   rotate_left
   ·
    (intro w hSw; (try dsimp only at hSw); go_simp; try with_reducible rfl)
   try simp only [Act.put, qA1, qA2, qA3, qA4, qA5, qA6]
   refine wpTail_take (i := 2) (v := ?_) rfl qKr qKr qKr rfl qKr (fun _ _ _ h => h) (Or.inl ⟨by rfl, ?_⟩) (by assumption) ?_
   rotate_left
   ·
    (intro w hSw; (try dsimp only at hSw); go_simp; try with_reducible rfl)
   try simp only [Act.put, qA1, qA2, qA3, qA4, qA5, qA6]
   refine wpTail_take (i := 3) (v := ?_) rfl qKr qKr qKr rfl qKr (fun _ _ _ h => h) (Or.inl ⟨by rfl, ?_⟩) (by assumption) ?_
   rotate_left
   ·
    (intro w hSw; (try dsimp only at hSw); go_simp; try with_reducible rfl)
   try simp only [Act.put, qA1, qA2, qA3, qA4, qA5, qA6]
   refine wpTail_take (i := 4) (v := ?_) rfl qKr qKr qKr rfl qKr (fun _ _ _ h => h) (Or.inl ⟨by rfl, ?_⟩) (by assumption) ?_
   rotate_left
   ·
    (intro w hSw; (try dsimp only at hSw); go_simp; try with_reducible rfl)
   try simp only [Act.put, qA1, qA2, qA3, qA4, qA5, qA6]
   refine wpTail_take (i := 5) (v := ?_) rfl qKr qKr qKr rfl qKr (fun _ _ _ h => h) (Or.inl ⟨by rfl, ?_⟩) (by assumption) ?_
   rotate_left
   ·
    (intro w hSw; (try dsimp only at hSw); go_simp; try with_reducible rfl)
   try simp only [Act.put, qA1, qA2, qA3, qA4, qA5, qA6]
   refine wpTail_take (i := 6) (v := ?_) rfl qKr qKr qKr rfl qKr (fun _ _ _ h => h) (Or.inl ⟨by rfl, ?_⟩) (by assumption) ?_
   rotate_left
   ·
    (intro w hSw; (try dsimp only at hSw); go_simp; try with_reducible rfl)
   try simp only [Act.put, qA1, qA2, qA3, qA4, qA5, qA6]
   refine wpTail_take (i := 7) (v := ?_) rfl qKr qKr qKr rfl qKr (fun _ _ _ h => h) (Or.inl ⟨by rfl, ?_⟩) (by assumption) ?_
   rotate_left
   ·
    (intro w hSw; (try dsimp only at hSw); go_simp; try with_reducible rfl)
   try simp only [Act.put, qA1, qA2, qA3, qA4, qA5, qA6]
   refine wpTail_take (i := 8) (v := ?_) rfl qKr qKr qKr rfl qKr (fun _ _ _ h => h) (Or.inl ⟨by rfl, ?_⟩) (by assumption) ?_
   rotate_left
   ·
    (intro w hSw; (try dsimp only at hSw); go_simp; try with_reducible rfl)
   try simp only [Act.put, qA1, qA2, qA3, qA4, qA5, qA6]
   refine wpTail_take (i := 9) (v := ?_) rfl qKr qKr qKr rfl qKr (fun _ _ _ h => h) (Or.inl ⟨by rfl, ?_⟩) (by assumption) ?_
   rotate_left
   ·
    (intro w hSw; (try dsimp only at hSw); go_simp; try with_reducible rfl)
   try simp only [Act.put, qA1, qA2, qA3, qA4, qA5, qA6]
   refine wpTail_one (i := 10) qKr rfl rfl (fun K hK => ?_)
   try simp only [Act.put, qA1, qA2, qA3, qA4, qA5, qA6]
   go_simp
   refine hK.out _ _ ⟨Ext.cell (w := wr) qXt va1, Ext.cell (w := wr) qXt ou1, Ext.cell (w := wr) qXt ec0, Ext.cell (w := wr) qXt es0⟩ (fun hHeld => ?_)
   clear hK K
   try simp only [Act.put, qA1, qA2, qA3, qA4, qA5, qA6]
   refine wpTail_one (i := 11) qKr rfl rfl (fun K hK => ?_)
   have Ew2 : Ext wr ((wr.drew).alloc (.cells #[.int .i64 (xs)] 3)) := qXt
   have Sw2 : Ints ((wr.drew).alloc (.cells #[.int .i64 (xs)] 3)) 0 (.slice (some ⟨wr.heap.size, 0, none⟩) 1 1) [xs] := by simpa using Ints.one wr.drew 0 (xs) (Nat.zero_le _)
   refine step_app rfl (.tmp 17) (.tmp 26) rfl rfl rfl (by exact T.o1.ext Ew2) (by exact Sw2) (by have := tl1.out; simp only [List.length_cons, List.length_nil]; omega) (by simp <;> omega) ?_
   intro vw2 w2 ho hgr hbl hvb
   obtain ⟨pa_w2, pn_w2, pc_w2, rfl⟩ := ho.any
   have Xw2 : Ext w w2 := Ext.below (Xr.trans Ew2) hbl (by omega)
   replace va0 := below_cell hbl (by omega) (Ew2.cell va0)
   replace va1 := below_cell hbl (by omega) (Ew2.cell va1)
   replace va2 := below_cell hbl (by omega) (Ew2.cell va2)
   replace q0 := below_cell hbl (by omega) (Ew2.cell q0)
   replace f_q0 := below_frz hbl (by omega) (Ew2.frz z_q f_q0)
   replace q1 := below_cell hbl (by omega) (Ew2.cell q1)
   replace f_q1 := below_frz hbl (by omega) (Ew2.frz z_q f_q1)
   replace q2 := below_cell hbl (by omega) (Ew2.cell q2)
   replace f_q2 := below_frz hbl (by omega) (Ew2.frz z_q f_q2)
   replace ou0 := below_cell hbl (by omega) (Ew2.cell ou0)
   replace f_ou0 := below_frz hbl (by omega) (Ew2.frz z_ou f_ou0)
   replace ou1 := below_cell hbl (by omega) (Ew2.cell ou1)
   replace f_ou1 := below_frz hbl (by omega) (Ew2.frz z_ou f_ou1)
   replace ou2 := below_cell hbl (by omega) (Ew2.cell ou2)
   replace f_ou2 := below_frz hbl (by omega) (Ew2.frz z_ou f_ou2)
   replace ec0 := below_cell hbl (by omega) (Ew2.cell ec0)
   replace es0 := below_cell hbl (by omega) (Ew2.cell es0)
   replace et0 := below_cell hbl (by omega) (Ew2.cell et0)
   have z_va : w.heap.size < w2.heap.size := qB va0
   have z_q : w.heap.size + 1 < w2.heap.size := qB q0
   have z_ou : w.heap.size + 1 + 1 < w2.heap.size := qB ou0
   have z_ec : b3 < w2.heap.size := qB ec0
   have z_es : b1s < w2.heap.size := qB es0
   have z_et : b2s < w2.heap.size := qB et0
   replace T := (T.ext Ew2).app1 ho hgr hvb
   have s_w2 : w.heap.size ≤ w2.heap.size := Xw2.size
   clear ho hgr hbl hvb Ew2 Sw2
   refine hK.out _ _ ⟨va1, ou1, ec0, es0⟩ (fun hHeld => ?_)
   clear hK K
   try simp only [Act.put, qA1, qA2, qA3, qA4, qA5, qA6]
   refine wpTail_take (i := 12) (v := ?_) rfl qKr qKr qKr rfl qKr (fun _ _ _ h => h) (Or.inl ⟨by rfl, ?_⟩) (by assumption) ?_
   rotate_left
   ·
    (intro w hSw; (try dsimp only at hSw); go_simp; try with_reducible rfl)
   try simp only [Act.put, qA1, qA2, qA3, qA4, qA5, qA6]
   refine wpTail_last (i := 13) qKr rfl rfl (fun K hK => ?_)
   try simp only [Act.put, qA1, qA2, qA3, qA4, qA5, qA6]
   go_simp
   refine hK.out _ _ ?_
   clear hK K
   try simp only [Act.put, qA1, qA2, qA3, qA4, qA5, qA6]
   refine wpTail_done qKr ?_ _
   clear hHeld
   have Kw3 : Chg (w.heap.size + 1 + 1) (w.heap.size + 1 + 1 + 1) w2 (w2.setCell ⟨w.heap.size + 1 + 1, 1, none⟩ (.slice pa_w2 pn_w2 pc_w2)) := (Chg.setCell (p := ⟨w.heap.size + 1 + 1, 1, none⟩) (Chg.refl (w.heap.size + 1 + 1) (w.heap.size + 1 + 1 + 1) _) (Nat.le_refl _) (Nat.lt_succ_self _) (.slice pa_w2 pn_w2 pc_w2))
   have Xw3 : Ext w (w2.setCell ⟨w.heap.size + 1 + 1, 1, none⟩ (.slice pa_w2 pn_w2 pc_w2)) := (Ext.setCell (p := ⟨w.heap.size + 1 + 1, 1, none⟩) Xw2 qSo (.slice pa_w2 pn_w2 pc_w2))
   replace va0 := Kw3.cell (by omega) va0
   replace va1 := Kw3.cell (by omega) va1
   replace va2 := Kw3.cell (by omega) va2
   replace q0 := Kw3.cell (by omega) q0
   replace f_q0 := Kw3.frzO (by omega) z_q f_q0
   replace q1 := Kw3.cell (by omega) q1
   replace f_q1 := Kw3.frzO (by omega) z_q f_q1
   replace q2 := Kw3.cell (by omega) q2
   replace f_q2 := Kw3.frzO (by omega) z_q f_q2
   have n_ou0 : (w2.setCell ⟨w.heap.size + 1 + 1, 1, none⟩ (.slice pa_w2 pn_w2 pc_w2)).cell? ⟨w.heap.size + 1 + 1, 0, none⟩ = some (.int .i64 b1) := by go_simp
   have n_f_ou0 : (w2.setCell ⟨w.heap.size + 1 + 1, 1, none⟩ (.slice pa_w2 pn_w2 pc_w2)).frozen? ⟨w.heap.size + 1 + 1, 0, none⟩ = false := by go_simp
   have n_ou1 : (w2.setCell ⟨w.heap.size + 1 + 1, 1, none⟩ (.slice pa_w2 pn_w2 pc_w2)).cell? ⟨w.heap.size + 1 + 1, 1, none⟩ = some (.slice pa_w2 pn_w2 pc_w2) := by go_simp
   have n_f_ou1 : (w2.setCell ⟨w.heap.size + 1 + 1, 1, none⟩ (.slice pa_w2 pn_w2 pc_w2)).frozen? ⟨w.heap.size + 1 + 1, 1, none⟩ = false := by go_simp
   have n_ou2 : (w2.setCell ⟨w.heap.size + 1 + 1, 1, none⟩ (.slice pa_w2 pn_w2 pc_w2)).cell? ⟨w.heap.size + 1 + 1, 2, none⟩ = some (p2) := by go_simp
   have n_f_ou2 : (w2.setCell ⟨w.heap.size + 1 + 1, 1, none⟩ (.slice pa_w2 pn_w2 pc_w2)).frozen? ⟨w.heap.size + 1 + 1, 2, none⟩ = false := by go_simp
   replace ou0 := n_ou0
   clear n_ou0
   replace f_ou0 := n_f_ou0
   clear n_f_ou0
   replace ou1 := n_ou1
   clear n_ou1
   replace f_ou1 := n_f_ou1
   clear n_f_ou1
   replace ou2 := n_ou2
   clear n_ou2
   replace f_ou2 := n_f_ou2
   clear n_f_ou2
   replace ec0 := Kw3.cell (by omega) ec0
   replace es0 := Kw3.cell (by omega) es0
   replace et0 := Kw3.cell (by omega) et0
   replace T := T.chg Kw3 (by omega)
   clear Kw3
   have z_va : w.heap.size < (w2.setCell ⟨w.heap.size + 1 + 1, 1, none⟩ (.slice pa_w2 pn_w2 pc_w2)).heap.size := qB va0
   have z_q : w.heap.size + 1 < (w2.setCell ⟨w.heap.size + 1 + 1, 1, none⟩ (.slice pa_w2 pn_w2 pc_w2)).heap.size := qB q0
   have z_ou : w.heap.size + 1 + 1 < (w2.setCell ⟨w.heap.size + 1 + 1, 1, none⟩ (.slice pa_w2 pn_w2 pc_w2)).heap.size := qB ou0
   have z_ec : b3 < (w2.setCell ⟨w.heap.size + 1 + 1, 1, none⟩ (.slice pa_w2 pn_w2 pc_w2)).heap.size := qB ec0
   have z_es : b1s < (w2.setCell ⟨w.heap.size + 1 + 1, 1, none⟩ (.slice pa_w2 pn_w2 pc_w2)).heap.size := qB es0
   have z_et : b2s < (w2.setCell ⟨w.heap.size + 1 + 1, 1, none⟩ (.slice pa_w2 pn_w2 pc_w2)).heap.size := qB et0
   have s_w3 : w.heap.size ≤ (w2.setCell ⟨w.heap.size + 1 + 1, 1, none⟩ (.slice pa_w2 pn_w2 pc_w2)).heap.size := Xw3.size
   generalize (w2.setCell ⟨w.heap.size + 1 + 1, 1, none⟩ (.slice pa_w2 pn_w2 pc_w2)) = w3 at *
   go_wp2_with fail
   refine wp_region_tail (S := fun w' => w'.cell? ⟨w.heap.size, 2, none⟩ = some (.slice (some ⟨b2s, o2s, none⟩) t1.length cp2) ∧ w'.cell? ⟨w.heap.size + 1 + 1, 2, none⟩ = some (p2) ∧ w'.cell? ⟨b3, o3 + j, none⟩ = some (.int .i64 (m : Int)) ∧ w'.cell? ⟨b2s, o2s + m, none⟩ = some (.int .i64 xt)) (fun i => decide (13 ≤ i)) qKr ⟨va2, ou2, ec0, et0⟩ (fun hHeld => ?_)
   refine wpTail_take (i := 0) (v := ?_) rfl qKr qKr qKr rfl qKr (fun _ _ _ h => h) (Or.inl ⟨by rfl, ?_⟩) (by assumption) ?_
   rotate_left
   ·
    (intro w hSw; (try dsimp only at hSw); go_simp; try with_reducible rfl)
   try simp only [Act.put, qA1, qA2, qA3, qA4, qA5, qA6]
   refine wpTail_take (i := 1) (v := ?_) rfl qKr qKr qKr rfl qKr (fun _ _ _ h => h) (Or.inl ⟨by rfl, ?_⟩) (by assumption) ?_
   rotate_left
   ·
    (intro w hSw; (try dsimp only at hSw); go_simp; try with_reducible rfl)
   try simp only [Act.put, qA1, qA2, qA3, qA4, qA5, qA6]
   refine wpTail_take (i := 2) (v := ?_) rfl qKr qKr qKr rfl qKr (fun _ _ _ h => h) (Or.inl ⟨by rfl, ?_⟩) (by assumption) ?_
   rotate_left
   ·
    (intro w hSw; (try dsimp only at hSw); go_simp; try with_reducible rfl)
   try simp only [Act.put, qA1, qA2, qA3, qA4, qA5, qA6]
   refine wpTail_take (i := 3) (v := ?_) rfl qKr qKr qKr rfl qKr (fun _ _ _ h => h) (Or.inl ⟨by rfl, ?_⟩) (by assumption) ?_
   rotate_left
   ·
    (intro w hSw; (try dsimp only at hSw); go_simp; try with_reducible rfl)
   try simp only [Act.put, qA1, qA2, qA3, qA4, qA5, qA6]
   refine wpTail_take (i := 4) (v := ?_) rfl qKr qKr qKr rfl qKr (fun _ _ _ h => h) (Or.inl ⟨by rfl, ?_⟩) (by assumption) ?_
   rotate_left
   ·
    (intro w hSw; (try dsimp only at hSw); go_simp; try with_reducible rfl)
   try simp only [Act.put, qA1, qA2, qA3, qA4, qA5, qA6]
   refine wpTail_take (i := 5) (v := ?_) rfl qKr qKr qKr rfl qKr (fun _ _ _ h => h) (Or.inl ⟨by rfl, ?_⟩) (by assumption) ?_
   rotate_left
   ·
    (intro w hSw; (try dsimp only at hSw); go_simp; try with_reducible rfl)
   try simp only [Act.put, qA1, qA2, qA3, qA4, qA5, qA6]
   refine wpTail_take (i := 6) (v := ?_) rfl qKr qKr qKr rfl qKr (fun _ _ _ h => h) (Or.inl ⟨by rfl, ?_⟩) (by assumption) ?_
   rotate_left
   ·
    (intro w hSw; (try dsimp only at hSw); go_simp; try with_reducible rfl)
   try simp only [Act.put, qA1, qA2, qA3, qA4, qA5, qA6]
   refine wpTail_take (i := 7) (v := ?_) rfl qKr qKr qKr rfl qKr (fun _ _ _ h => h) (Or.inl ⟨by rfl, ?_⟩) (by assumption) ?_
   rotate_left
   ·
    (intro w hSw; (try dsimp only at hSw); go_simp; try with_reducible rfl)
   try simp only [Act.put, qA1, qA2, qA3, qA4, qA5, qA6]
   refine wpTail_take (i := 8) (v := ?_) rfl qKr qKr qKr rfl qKr (fun _ _ _ h => h) (Or.inl ⟨by rfl, ?_⟩) (by assumption) ?_
   rotate_left
   ·
    (intro w hSw; (try dsimp only at hSw); go_simp; try with_reducible rfl)
   try simp only [Act.put, qA1, qA2, qA3, qA4, qA5, qA6]
   refine wpTail_take (i := 9) (v := ?_) rfl qKr qKr qKr rfl qKr (fun _ _ _ h => h) (Or.inl ⟨by rfl, ?_⟩) (by assumption) ?_
   rotate_left
   ·
    (intro w hSw; (try dsimp only at hSw); go_simp; try with_reducible rfl)
   try simp only [Act.put, qA1, qA2, qA3, qA4, qA5, qA6]
   refine wpTail_one (i := 10) qKr rfl rfl (fun K hK => ?_)
   try simp only [Act.put, qA1, qA2, qA3, qA4, qA5, qA6]
   go_simp
   refine hK.out _ _ ⟨Ext.cell (w := w3) qXt va2, Ext.cell (w := w3) qXt ou2, Ext.cell (w := w3) qXt ec0, Ext.cell (w := w3) qXt et0⟩ (fun hHeld => ?_)
   clear hK K
   try simp only [Act.put, qA1, qA2, qA3, qA4, qA5, qA6]
   refine wpTail_one (i := 11) qKr rfl rfl (fun K hK => ?_)
   have Ew4 : Ext w3 ((w3.drew).alloc (.cells #[.int .i64 (xt)] 3)) := qXt
   have Sw4 : Ints ((w3.drew).alloc (.cells #[.int .i64 (xt)] 3)) 0 (.slice (some ⟨w3.heap.size, 0, none⟩) 1 1) [xt] := by simpa using Ints.one w3.drew 0 (xt) (Nat.zero_le _)
   refine step_app rfl (.tmp 30) (.tmp 39) rfl rfl rfl (by exact T.o2.ext Ew4) (by exact Sw4) (by have := tl2.out; simp only [List.length_cons, List.length_nil]; omega) (by simp <;> omega) ?_
   intro vw4 w4 ho hgr hbl hvb
   obtain ⟨pa_w4, pn_w4, pc_w4, rfl⟩ := ho.any
   have Xw4 : Ext w w4 := Ext.below (Xw3.trans Ew4) hbl (by omega)
   replace va0 := below_cell hbl (by omega) (Ew4.cell va0)
   replace va1 := below_cell hbl (by omega) (Ew4.cell va1)
   replace va2 := below_cell hbl (by omega) (Ew4.cell va2)
   replace q0 := below_cell hbl (by omega) (Ew4.cell q0)
   replace f_q0 := below_frz hbl (by omega) (Ew4.frz z_q f_q0)
   replace q1 := below_cell hbl (by omega) (Ew4.cell q1)
   replace f_q1 := below_frz hbl (by omega) (Ew4.frz z_q f_q1)
   replace q2 := below_cell hbl (by omega) (Ew4.cell q2)
   replace f_q2 := below_frz hbl (by omega) (Ew4.frz z_q f_q2)
   replace ou0 := below_cell hbl (by omega) (Ew4.cell ou0)
   replace f_ou0 := below_frz hbl (by omega) (Ew4.frz z_ou f_ou0)
   replace ou1 := below_cell hbl (by omega) (Ew4.cell ou1)
   replace f_ou1 := below_frz hbl (by omega) (Ew4.frz z_ou f_ou1)
   replace ou2 := below_cell hbl (by omega) (Ew4.cell ou2)
   replace f_ou2 := below_frz hbl (by omega) (Ew4.frz z_ou f_ou2)
   replace ec0 := below_cell hbl (by omega) (Ew4.cell ec0)
   replace es0 := below_cell hbl (by omega) (Ew4.cell es0)
   replace et0 := below_cell hbl (by omega) (Ew4.cell et0)
   have z_va : w.heap.size < w4.heap.size := qB va0
   have z_q : w.heap.size + 1 < w4.heap.size := qB q0
   have z_ou : w.heap.size + 1 + 1 < w4.heap.size := qB ou0
   have z_ec : b3 < w4.heap.size := qB ec0
   have z_es : b1s < w4.heap.size := qB es0
   have z_et : b2s < w4.heap.size := qB et0
   replace T := (T.ext Ew4).app2 ho hgr hvb
   have s_w4 : w.heap.size ≤ w4.heap.size := Xw4.size
   clear ho hgr hbl hvb Ew4 Sw4
   refine hK.out _ _ ⟨va2, ou2, ec0, et0⟩ (fun hHeld => ?_)
   clear hK K
   try simp only [Act.put, qA1, qA2, qA3, qA4, qA5, qA6]
   refine wpTail_take (i := 12) (v := ?_) rfl qKr qKr qKr rfl qKr (fun _ _ _ h => h) (Or.inl ⟨by rfl, ?_⟩) (by assumption) ?_
   rotate_left
   ·
    (intro w hSw; (try dsimp only at hSw); go_simp; try with_reducible rfl)
   try simp only [Act.put, qA1, qA2, qA3, qA4, qA5, qA6]
   refine wpTail_last (i := 13) qKr rfl rfl (fun K hK => ?_)
   try simp only [Act.put, qA1, qA2, qA3, qA4, qA5, qA6]
   go_simp
   refine hK.out _ _ ?_
   clear hK K
   try simp only [Act.put, qA1, qA2, qA3, qA4, qA5, qA6]
   refine wpTail_done qKr ?_ _
   clear hHeld
   have Kw5 : Chg (w.heap.size + 1 + 1) (w.heap.size + 1 + 1 + 1) w4 (w4.setCell ⟨w.heap.size + 1 + 1, 2, none⟩ (.slice pa_w4 pn_w4 pc_w4)) := (Chg.setCell (p := ⟨w.heap.size + 1 + 1, 2, none⟩) (Chg.refl (w.heap.size + 1 + 1) (w.heap.size + 1 + 1 + 1) _) (Nat.le_refl _) (Nat.lt_succ_self _) (.slice pa_w4 pn_w4 pc_w4))
   have Xw5 : Ext w (w4.setCell ⟨w.heap.size + 1 + 1, 2, none⟩ (.slice pa_w4 pn_w4 pc_w4)) := (Ext.setCell (p := ⟨w.heap.size + 1 + 1, 2, none⟩) Xw4 qSo (.slice pa_w4 pn_w4 pc_w4))
   replace va0 := Kw5.cell (by omega) va0
   replace va1 := Kw5.cell (by omega) va1
   replace va2 := Kw5.cell (by omega) va2
   replace q0 := Kw5.cell (by omega) q0
   replace f_q0 := Kw5.frzO (by omega) z_q f_q0
   replace q1 := Kw5.cell (by omega) q1
   replace f_q1 := Kw5.frzO (by omega) z_q f_q1
   replace q2 := Kw5.cell (by omega) q2
   replace f_q2 := Kw5.frzO (by omega) z_q f_q2
   have n_ou0 : (w4.setCell ⟨w.heap.size + 1 + 1, 2, none⟩ (.slice pa_w4 pn_w4 pc_w4)).cell? ⟨w.heap.size + 1 + 1, 0, none⟩ = some (.int .i64 b1) := by go_simp
   have n_f_ou0 : (w4.setCell ⟨w.heap.size + 1 + 1, 2, none⟩ (.slice pa_w4 pn_w4 pc_w4)).frozen? ⟨w.heap.size + 1 + 1, 0, none⟩ = false := by go_simp
   have n_ou1 : (w4.setCell ⟨w.heap.size + 1 + 1, 2, none⟩ (.slice pa_w4 pn_w4 pc_w4)).cell? ⟨w.heap.size + 1 + 1, 1, none⟩ = some (.slice pa_w2 pn_w2 pc_w2) := by go_simp
   have n_f_ou1 : (w4.setCell ⟨w.heap.size + 1 + 1, 2, none⟩ (.slice pa_w4 pn_w4 pc_w4)).frozen? ⟨w.heap.size + 1 + 1, 1, none⟩ = false := by go_simp
   have n_ou2 : (w4.setCell ⟨w.heap.size + 1 + 1, 2, none⟩ (.slice pa_w4 pn_w4 pc_w4)).cell? ⟨w.heap.size + 1 + 1, 2, none⟩ = some (.slice pa_w4 pn_w4 pc_w4) := by go_simp
   have n_f_ou2 : (w4.setCell ⟨w.heap.size + 1 + 1, 2, none⟩ (.slice pa_w4 pn_w4 pc_w4)).frozen? ⟨w.heap.size + 1 + 1, 2, none⟩ = false := by go_simp
   replace ou0 := n_ou0
   clear n_ou0
   replace f_ou0 := n_f_ou0
   clear n_f_ou0
   replace ou1 := n_ou1
   clear n_ou1
   replace f_ou1 := n_f_ou1
   clear n_f_ou1
   replace ou2 := n_ou2
   clear n_ou2
   replace f_ou2 := n_f_ou2
   clear n_f_ou2
   replace ec0 := Kw5.cell (by omega) ec0
   replace es0 := Kw5.cell (by omega) es0
   replace et0 := Kw5.cell (by omega) et0
   replace T := T.chg Kw5 (by omega)
   clear Kw5
   have z_va : w.heap.size < (w4.setCell ⟨w.heap.size + 1 + 1, 2, none⟩ (.slice pa_w4 pn_w4 pc_w4)).heap.size := qB va0
   have z_q : w.heap.size + 1 < (w4.setCell ⟨w.heap.size + 1 + 1, 2, none⟩ (.slice pa_w4 pn_w4 pc_w4)).heap.size := qB q0
   have z_ou : w.heap.size + 1 + 1 < (w4.setCell ⟨w.heap.size + 1 + 1, 2, none⟩ (.slice pa_w4 pn_w4 pc_w4)).heap.size := qB ou0
   have z_ec : b3 < (w4.setCell ⟨w.heap.size + 1 + 1, 2, none⟩ (.slice pa_w4 pn_w4 pc_w4)).heap.size := qB ec0
   have z_es : b1s < (w4.setCell ⟨w.heap.size + 1 + 1, 2, none⟩ (.slice pa_w4 pn_w4 pc_w4)).heap.size := qB es0
   have z_et : b2s < (w4.setCell ⟨w.heap.size + 1 + 1, 2, none⟩ (.slice pa_w4 pn_w4 pc_w4)).heap.size := qB et0
   have s_w5 : w.heap.size ≤ (w4.setCell ⟨w.heap.size + 1 + 1, 2, none⟩ (.slice pa_w4 pn_w4 pc_w4)).heap.size := Xw5.size
   generalize (w4.setCell ⟨w.heap.size + 1 + 1, 2, none⟩ (.slice pa_w4 pn_w4 pc_w4)) = w5 at *
   go_wp2_with fail
   go_roundw
   case rel => exact ⟨j + 1, _, _, by omega, by go_num, by rw [hs1.out, hs2.out]; exact T, Xw5, va0, va1, va2, q0, q1, q2, f_q0, f_q1, f_q2, ou0, ou1, ou2, f_ou0, f_ou1, f_ou2⟩
   case measure => simp [intOf]; omega
  ·
   obtain rfl : j = ord.length := by omega
   have hI : ¬ ((ord.length : Int) < ord.length) := by omega
   rw [List.take_length] at T
   obtain ⟨a5, c5, rfl⟩ := (T.o1.ints (by rw [takL_len]; omega)).form
   obtain ⟨a6, c6, rfl⟩ := (T.o2.ints (by rw [takL_len]; omega)).form
   have z_va : w.heap.size < wr.heap.size := qB va0
   have z_q : w.heap.size + 1 < wr.heap.size := qB q0
   have z_ou : w.heap.size + 1 + 1 < wr.heap.size := qB ou0
   simp only [takL_len] at ou1 ou2 T
   go_wp2_with fail
   have Kw2 : Chg (w.heap.size + 1) (w.heap.size + 1 + 1) wr (((wr.setCell ⟨w.heap.size + 1, 0, none⟩ (.int .i64 b1)).setCell ⟨w.heap.size + 1, 1, none⟩ (.slice a5 ord.length c5)).setCell ⟨w.heap.size + 1, 2, none⟩ (.slice a6 ord.length c6)) := (Chg.setCell (p := ⟨w.heap.size + 1, 2, none⟩) (Chg.setCell (p := ⟨w.heap.size + 1, 1, none⟩) (Chg.setCell (p := ⟨w.heap.size + 1, 0, none⟩) (Chg.refl (w.heap.size + 1) (w.heap.size + 1 + 1) _) (Nat.le_refl _) (Nat.lt_succ_self _) (.int .i64 b1)) (Nat.le_refl _) (Nat.lt_succ_self _) (.slice a5 ord.length c5)) (Nat.le_refl _) (Nat.lt_succ_self _) (.slice a6 ord.length c6))
   have Xw2 : Ext w (((wr.setCell ⟨w.heap.size + 1, 0, none⟩ (.int .i64 b1)).setCell ⟨w.heap.size + 1, 1, none⟩ (.slice a5 ord.length c5)).setCell ⟨w.heap.size + 1, 2, none⟩ (.slice a6 ord.length c6)) := (Ext.setCell (p := ⟨w.heap.size + 1, 2, none⟩) (Ext.setCell (p := ⟨w.heap.size + 1, 1, none⟩) (Ext.setCell (p := ⟨w.heap.size + 1, 0, none⟩) Xr qSo (.int .i64 b1)) qSo (.slice a5 ord.length c5)) qSo (.slice a6 ord.length c6))
   replace va0 := Kw2.cell (by omega) va0
   replace va1 := Kw2.cell (by omega) va1
   replace va2 := Kw2.cell (by omega) va2
   have n_q0 : (((wr.setCell ⟨w.heap.size + 1, 0, none⟩ (.int .i64 b1)).setCell ⟨w.heap.size + 1, 1, none⟩ (.slice a5 ord.length c5)).setCell ⟨w.heap.size + 1, 2, none⟩ (.slice a6 ord.length c6)).cell? ⟨w.heap.size + 1, 0, none⟩ = some (.int .i64 b1) := by go_simp
   have n_f_q0 : (((wr.setCell ⟨w.heap.size + 1, 0, none⟩ (.int .i64 b1)).setCell ⟨w.heap.size + 1, 1, none⟩ (.slice a5 ord.length c5)).setCell ⟨w.heap.size + 1, 2, none⟩ (.slice a6 ord.length c6)).frozen? ⟨w.heap.size + 1, 0, none⟩ = false := by go_simp
   have n_q1 : (((wr.setCell ⟨w.heap.size + 1, 0, none⟩ (.int .i64 b1)).setCell ⟨w.heap.size + 1, 1, none⟩ (.slice a5 ord.length c5)).setCell ⟨w.heap.size + 1, 2, none⟩ (.slice a6 ord.length c6)).cell? ⟨w.heap.size + 1, 1, none⟩ = some (.slice a5 ord.length c5) := by go_simp
   have n_f_q1 : (((wr.setCell ⟨w.heap.size + 1, 0, none⟩ (.int .i64 b1)).setCell ⟨w.heap.size + 1, 1, none⟩ (.slice a5 ord.length c5)).setCell ⟨w.heap.size + 1, 2, none⟩ (.slice a6 ord.length c6)).frozen? ⟨w.heap.size + 1, 1, none⟩ = false := by go_simp
   have n_q2 : (((wr.setCell ⟨w.heap.size + 1, 0, none⟩ (.int .i64 b1)).setCell ⟨w.heap.size + 1, 1, none⟩ (.slice a5 ord.length c5)).setCell ⟨w.heap.size + 1, 2, none⟩ (.slice a6 ord.length c6)).cell? ⟨w.heap.size + 1, 2, none⟩ = some (.slice a6 ord.length c6) := by go_simp
   have n_f_q2 : (((wr.setCell ⟨w.heap.size + 1, 0, none⟩ (.int .i64 b1)).setCell ⟨w.heap.size + 1, 1, none⟩ (.slice a5 ord.length c5)).setCell ⟨w.heap.size + 1, 2, none⟩ (.slice a6 ord.length c6)).frozen? ⟨w.heap.size + 1, 2, none⟩ = false := by go_simp
   replace q0 := n_q0
   clear n_q0
   replace f_q0 := n_f_q0
   clear n_f_q0
   replace q1 := n_q1
   clear n_q1
   replace f_q1 := n_f_q1
   clear n_f_q1
   replace q2 := n_q2
   clear n_q2
   replace f_q2 := n_f_q2
   clear n_f_q2
   replace ou0 := Kw2.cell (by omega) ou0
   replace f_ou0 := Kw2.frzO (by omega) z_ou f_ou0
   replace ou1 := Kw2.cell (by omega) ou1
   replace f_ou1 := Kw2.frzO (by omega) z_ou f_ou1
   replace ou2 := Kw2.cell (by omega) ou2
   replace f_ou2 := Kw2.frzO (by omega) z_ou f_ou2
   replace T := T.chg Kw2 (by omega)
   clear Kw2
   have z_va : w.heap.size < (((wr.setCell ⟨w.heap.size + 1, 0, none⟩ (.int .i64 b1)).setCell ⟨w.heap.size + 1, 1, none⟩ (.slice a5 ord.length c5)).setCell ⟨w.heap.size + 1, 2, none⟩ (.slice a6 ord.length c6)).heap.size := qB va0
   have z_q : w.heap.size + 1 < (((wr.setCell ⟨w.heap.size + 1, 0, none⟩ (.int .i64 b1)).setCell ⟨w.heap.size + 1, 1, none⟩ (.slice a5 ord.length c5)).setCell ⟨w.heap.size + 1, 2, none⟩ (.slice a6 ord.length c6)).heap.size := qB q0
   have z_ou : w.heap.size + 1 + 1 < (((wr.setCell ⟨w.heap.size + 1, 0, none⟩ (.int .i64 b1)).setCell ⟨w.heap.size + 1, 1, none⟩ (.slice a5 ord.length c5)).setCell ⟨w.heap.size + 1, 2, none⟩ (.slice a6 ord.length c6)).heap.size := qB ou0
   have s_w2 : w.heap.size ≤ (((wr.setCell ⟨w.heap.size + 1, 0, none⟩ (.int .i64 b1)).setCell ⟨w.heap.size + 1, 1, none⟩ (.slice a5 ord.length c5)).setCell ⟨w.heap.size + 1, 2, none⟩ (.slice a6 ord.length c6)).heap.size := Xw2.size
   generalize (((wr.setCell ⟨w.heap.size + 1, 0, none⟩ (.int .i64 b1)).setCell ⟨w.heap.size + 1, 1, none⟩ (.slice a5 ord.length c5)).setCell ⟨w.heap.size + 1, 2, none⟩ (.slice a6 ord.length c6)) = w2 at *
   refine bodyPost_ret (v := .agg #[.int .i64 b1, .slice a5 ord.length c5, .slice a6 ord.length c6]) (by simp only [results, Try.results120]; go_simp) rfl ?_
   exact PView.own (T.o1.lower (by omega)).z (T.o2.lower (by omega)).z (fun n1 n2 h => by obtain ⟨g, _, h1, _⟩ := (T.o1).row n1; rw [h1] at h; exact T.sep g (by rw [h1]; rfl) (h ▸ rfl)) (by rw [takL_len]; omega) (by rw [takL_len]; omega) Xw2

end Go.Proofs.Ytonnnjaooifpjaa

/- Walks: insert of the reference. -/
namespace Go.Proofs.Ytonnnjaooifpjaa
open Go.RowKit
set_option linter.unusedVariables false
set_option maxRecDepth 100000

set_option maxHeartbeats 3200000 in
theorem insert_c (xs : List Int) (v : Value) (i : Nat) (x : Int) (w : World) (lo : Nat) (hv : Ints w lo v xs) (hi : i ≤ xs.length) (hl : xs.length ≤ 100000) :
  Calls Try.prog 98 #[v, .int .i64 (i : Int), .int .i64 x] w (PInts w (xs.take i ++ [x] ++ xs.drop i)) := by
 have hlen := ints_len hv
 have hv0 := hv
 obtain ⟨a, c, rfl, hc, hcm, hb2, hat⟩ := hv
 have ht := hv0.take i (by omega)
 by_cases hne : xs = []
 rotate_left
 obtain ⟨b, off, rfl⟩ : ∃ b off, a = some ⟨b, off, none⟩ := by
  obtain ⟨b, off, h, _⟩ := hat 0 (by cases xs <;> simp_all)
  exact ⟨b, off, h⟩
 by_cases hci : ¬ c = i
 ·
  have hd := hv0.drop1 i (by omega) hci
  have g1 : (i : Int) ≤ c := by omega
  have g2 : (i : Int) ≤ xs.length := by omega
  have g3 : (0 : Int) ≤ i := by omega
  go_enter Try.func98, Try.ntmps98
  go_wp2_with fail
  refine wp_region_held_drew (S := fun _ => True) qKr trivial (fun hHeld => ?_)
  refine wpAnyH_take (i := 1) (v := ?_) rfl qKr qKr qKr (fun _ _ _ h => h) (Or.inl ⟨by rfl, ?_⟩) (by assumption) ?_
  rotate_left
  ·
   (intro w hSw; (try dsimp only at hSw); go_simp; try with_reducible rfl)
  try simp only [Act.put, qA1, qA2, qA3, qA4, qA5, qA6]
  refine wpAnyH_take (i := 2) (v := ?_) rfl qKr qKr qKr (fun _ _ _ h => h) (Or.inl ⟨by rfl, ?_⟩) (by assumption) ?_
  rotate_left
  ·
   (intro w hSw; (try dsimp only at hSw); go_simp; try with_reducible rfl)
  try simp only [Act.put, qA1, qA2, qA3, qA4, qA5, qA6]
  refine wpAnyH_take (i := 3) (v := ?_) rfl qKr qKr qKr (fun _ _ _ h => h) (Or.inl ⟨by rfl, ?_⟩) (by assumption) ?_
  rotate_left
  ·
   (intro w hSw; (try dsimp only at hSw); go_simp; try with_reducible rfl)
  try simp only [Act.put, qA1, qA2, qA3, qA4, qA5, qA6]
  refine wpAnyH_take (i := 5) (v := ?_) rfl qKr qKr qKr (fun _ _ _ h => h) (Or.inl ⟨by rfl, ?_⟩) (by assumption) ?_
  rotate_left
  ·
   (intro w hSw; (try dsimp only at hSw); go_simp; try with_reducible rfl)
  try simp only [Act.put, qA1, qA2, qA3, qA4, qA5, qA6]
  refine wpAnyH_take (i := 8) (v := ?_) rfl qKr qKr qKr (fun _ _ _ h => h) (Or.inl ⟨by rfl, ?_⟩) (by assumption) ?_
  rotate_left
  ·
   (intro w hSw; (try dsimp only at hSw); go_simp; try with_reducible rfl)
  try simp only [Act.put, qA1, qA2, qA3, qA4, qA5, qA6]
  refine wpAnyH_take (i := 9) (v := ?_) rfl qKr qKr qKr (fun _ _ _ h => h) (Or.inl ⟨by rfl, ?_⟩) (by assumption) ?_
  rotate_left
  ·
   (intro w hSw; (try dsimp only at hSw); go_simp; try with_reducible rfl)
  try simp only [Act.put, qA1, qA2, qA3, qA4, qA5, qA6]
  refine wpAnyH_take (i := 10) (v := ?_) rfl qKr qKr qKr (fun _ _ _ h => h) (Or.inl ⟨by rfl, ?_⟩) (by assumption) ?_
  rotate_left
  ·
   (intro w hSw; (try dsimp only at hSw); go_simp; try with_reducible rfl)
  try simp only [Act.put, qA1, qA2, qA3, qA4, qA5, qA6]
  refine wpAnyH_ready (rs := [0, 6]) qKr (by simp) ?_
  refine AllReadyH.cons rfl (fun K hK => ?_) (AllReadyH.cons rfl (fun K hK => ?_) AllReadyH.nil)
  ·
   skip
   try simp only [Act.put, qA1, qA2, qA3, qA4, qA5, qA6]
   go_simp
   refine hK.out _ _ trivial (fun hHeld => ?_)
   clear hK K
   try simp only [Act.put, qA1, qA2, qA3, qA4, qA5, qA6]
   refine wpAnyH_ready (rs := [4, 6]) qKr (by simp) ?_
   refine AllReadyH.cons rfl (fun K hK => ?_) (AllReadyH.cons rfl (fun K hK => ?_) AllReadyH.nil)
   ·
    skip
    refine step_app rfl (.tmp 7) (.tmp 10) rfl rfl rfl (OwnI.lit0 _ w.heap.size (by simp)) (by first | exact ht.ext qXo | exact Ints.nil _ w.heap.size _ _ (by omega) (by simp)) (by simp <;> omega) (by first | assumption | (simp; done) | (simp; omega) | omega) ?_
    intro v4 w4 o4 gr4 bl4 eq4
    refine hK.out _ _ trivial (fun hHeld => ?_)
    clear hK K
    try simp only [Act.put, qA1, qA2, qA3, qA4, qA5, qA6]
    have X4 : Ext w w4 := Ext.below (show Ext w _ from qXo) bl4 (by simp)
    have z4 : w.heap.size ≤ w4.heap.size := X4.size
    refine wpAnyH_ready (rs := [6]) qKr (by simp) ?_
    refine AllReadyH.cons rfl (fun K hK => ?_) AllReadyH.nil
    try simp only [Act.put, qA1, qA2, qA3, qA4, qA5, qA6]
    go_simp
    refine hK.out _ _ trivial (fun hHeld => ?_)
    clear hK K
    try simp only [Act.put, qA1, qA2, qA3, qA4, qA5, qA6]
    replace o4 := o4.ext (show Ext w4 (w4.alloc (.cells #[.int .i64 x] 3)) from qXo)
    refine wpAnyH_ready (rs := [7]) qKr (by simp) ?_
    refine AllReadyH.cons rfl (fun K hK => ?_) AllReadyH.nil
    refine step_app rfl (.tmp 11) (.tmp 13) rfl rfl rfl (o4) (Ints.one w4 w.heap.size x z4) (by simp <;> omega) (by first | assumption | (simp; done) | (simp; omega) | omega) ?_
    intro v7 w7 o7 gr7 bl7 eq7
    refine hK.out _ _ trivial (fun hHeld => ?_)
    clear hK K
    try simp only [Act.put, qA1, qA2, qA3, qA4, qA5, qA6]
    have X7 : Ext w w7 := Ext.below (X4.trans qXo) bl7 (Nat.le_refl _)
    have z7 : w.heap.size ≤ w7.heap.size := X7.size
    refine wpAnyH_ready (rs := [11]) qKr (by simp) ?_
    refine AllReadyH.cons rfl (fun K hK => ?_) AllReadyH.nil
    refine step_app rfl (.tmp 14) (.tmp 17) rfl rfl rfl (o7) (by first | exact hd.ext X7 | exact Ints.nil _ w.heap.size _ _ (by omega) (by simp)) (by simp <;> omega) (by first | assumption | (simp; done) | (simp; omega) | omega) ?_
    intro v11 w11 o11 gr11 bl11 eq11
    refine hK.out _ _ trivial (fun hHeld => ?_)
    clear hK K
    try simp only [Act.put, qA1, qA2, qA3, qA4, qA5, qA6]
    have X11 : Ext w w11 := Ext.below X7 bl11 (Nat.le_refl _)
    refine wpAnyH_ready (rs := [12]) qKr (by simp) ?_
    refine AllReadyH.cons rfl (fun K hK => ?_) AllReadyH.nil
    try simp only [Act.put, qA1, qA2, qA3, qA4, qA5, qA6]
    go_simp
    refine hK.out _ _ trivial (fun hHeld => ?_)
    clear hK K
    try simp only [Act.put, qA1, qA2, qA3, qA4, qA5, qA6]
    refine wpAnyH_done qKr ?_ _
    clear hHeld
    go_wp2_with fail
    refine bodyPost_ret (v := v11) (by simp only [results, Try.results98]; go_simp) rfl ?_
    exact PInts.mkz (by first | exact o11.z | (rw [List.drop_eq_nil_of_le hc]; exact o11.z)) (Nat.le_refl _) (by simp <;> omega) X11
   ·
    skip
    try simp only [Act.put, qA1, qA2, qA3, qA4, qA5, qA6]
    go_simp
    refine hK.out _ _ trivial (fun hHeld => ?_)
    clear hK K
    try simp only [Act.put, qA1, qA2, qA3, qA4, qA5, qA6]
    refine wpAnyH_ready (rs := [4]) qKr (by simp) ?_
    refine AllReadyH.cons rfl (fun K hK => ?_) AllReadyH.nil
    have l0 : OwnI ((w.drew.alloc (.cells #[] 3)).alloc (.cells #[.int .i64 x] 3)) w.heap.size (.slice (some ⟨w.heap.size, 0, none⟩) 0 0) [] := (OwnI.lit0 w.drew w.heap.size (by simp)).ext ((Ext.refl _).alloc _)
    have l1 : Ints ((w.drew.alloc (.cells #[] 3)).alloc (.cells #[.int .i64 x] 3)) w.heap.size (.slice (some ⟨w.heap.size + 1, 0, none⟩) 1 1) [x] := by simpa using Ints.one (w.drew.alloc (.cells #[] 3)) w.heap.size x (by simp)
    refine step_app rfl (.tmp 7) (.tmp 10) rfl rfl rfl (l0) (by first | exact ht.ext qXo | exact Ints.nil _ w.heap.size _ _ (by omega) (by simp)) (by simp <;> omega) (by first | assumption | (simp; done) | (simp; omega) | omega) ?_
    intro v4 w4 o4 gr4 bl4 eq4
    refine hK.out _ _ trivial (fun hHeld => ?_)
    clear hK K
    try simp only [Act.put, qA1, qA2, qA3, qA4, qA5, qA6]
    have X4 : Ext w w4 := Ext.below (show Ext w _ from qXo) bl4 (by simp)
    have z4 : w.heap.size ≤ w4.heap.size := X4.size
    replace l1 := l1.keepG gr4 (fun b off h _ => by cases h; show (some w.heap.size : Option Nat) ≠ some (w.heap.size + 1); simp)
    refine wpAnyH_ready (rs := [7]) qKr (by simp) ?_
    refine AllReadyH.cons rfl (fun K hK => ?_) AllReadyH.nil
    refine step_app rfl (.tmp 11) (.tmp 13) rfl rfl rfl (o4) (l1) (by simp <;> omega) (by first | assumption | (simp; done) | (simp; omega) | omega) ?_
    intro v7 w7 o7 gr7 bl7 eq7
    refine hK.out _ _ trivial (fun hHeld => ?_)
    clear hK K
    try simp only [Act.put, qA1, qA2, qA3, qA4, qA5, qA6]
    have X7 : Ext w w7 := Ext.below (X4) bl7 (Nat.le_refl _)
    have z7 : w.heap.size ≤ w7.heap.size := X7.size
    refine wpAnyH_ready (rs := [11]) qKr (by simp) ?_
    refine AllReadyH.cons rfl (fun K hK => ?_) AllReadyH.nil
    refine step_app rfl (.tmp 14) (.tmp 17) rfl rfl rfl (o7) (by first | exact hd.ext X7 | exact Ints.nil _ w.heap.size _ _ (by omega) (by simp)) (by simp <;> omega) (by first | assumption | (simp; done) | (simp; omega) | omega) ?_
    intro v11 w11 o11 gr11 bl11 eq11
    refine hK.out _ _ trivial (fun hHeld => ?_)
    clear hK K
    try simp only [Act.put, qA1, qA2, qA3, qA4, qA5, qA6]
    have X11 : Ext w w11 := Ext.below X7 bl11 (Nat.le_refl _)
    refine wpAnyH_ready (rs := [12]) qKr (by simp) ?_
    refine AllReadyH.cons rfl (fun K hK => ?_) AllReadyH.nil
    try simp only [Act.put, qA1, qA2, qA3, qA4, qA5, qA6]
    go_simp
    refine hK.out _ _ trivial (fun hHeld => ?_)
    clear hK K
    try simp only [Act.put, qA1, qA2, qA3, qA4, qA5, qA6]
    refine wpAnyH_done qKr ?_ _
    clear hHeld
    go_wp2_with fail
    refine bodyPost_ret (v := v11) (by simp only [results, Try.results98]; go_simp) rfl ?_
    exact PInts.mkz (by first | exact o11.z | (rw [List.drop_eq_nil_of_le hc]; exact o11.z)) (Nat.le_refl _) (by simp <;> omega) X11
  ·
   skip
   try simp only [Act.put, qA1, qA2, qA3, qA4, qA5, qA6]
   go_simp
   refine hK.out _ _ trivial (fun hHeld => ?_)
   clear hK K
   try simp only [Act.put, qA1, qA2, qA3, qA4, qA5, qA6]
   refine wpAnyH_ready (rs := [0]) qKr (by simp) ?_
   refine AllReadyH.cons rfl (fun K hK => ?_) AllReadyH.nil
   try simp only [Act.put, qA1, qA2, qA3, qA4, qA5, qA6]
   go_simp
   refine hK.out _ _ trivial (fun hHeld => ?_)
   clear hK K
   try simp only [Act.put, qA1, qA2, qA3, qA4, qA5, qA6]
   refine wpAnyH_ready (rs := [4]) qKr (by simp) ?_
   refine AllReadyH.cons rfl (fun K hK => ?_) AllReadyH.nil
   have l0 : OwnI ((w.drew.alloc (.cells #[.int .i64 x] 3)).alloc (.cells #[] 3)) w.heap.size (.slice (some ⟨w.heap.size + 1, 0, none⟩) 0 0) [] := by simpa using (OwnI.lit0 (w.drew.alloc (.cells #[.int .i64 x] 3)) w.heap.size (by simp))
   have l1 : Ints ((w.drew.alloc (.cells #[.int .i64 x] 3)).alloc (.cells #[] 3)) w.heap.size (.slice (some ⟨w.heap.size, 0, none⟩) 1 1) [x] := (Ints.one w.drew w.heap.size x (by simp)).ext ((Ext.refl _).alloc _)
   refine step_app rfl (.tmp 7) (.tmp 10) rfl rfl rfl (l0) (by first | exact ht.ext qXo | exact Ints.nil _ w.heap.size _ _ (by omega) (by simp)) (by simp <;> omega) (by first | assumption | (simp; done) | (simp; omega) | omega) ?_
   intro v4 w4 o4 gr4 bl4 eq4
   refine hK.out _ _ trivial (fun hHeld => ?_)
   clear hK K
   try simp only [Act.put, qA1, qA2, qA3, qA4, qA5, qA6]
   have X4 : Ext w w4 := Ext.below (show Ext w _ from qXo) bl4 (by simp)
   have z4 : w.heap.size ≤ w4.heap.size := X4.size
   replace l1 := l1.keepG gr4 (fun b off h _ => by cases h; show (some (w.heap.size + 1) : Option Nat) ≠ some w.heap.size; simp)
   refine wpAnyH_ready (rs := [7]) qKr (by simp) ?_
   refine AllReadyH.cons rfl (fun K hK => ?_) AllReadyH.nil
   refine step_app rfl (.tmp 11) (.tmp 13) rfl rfl rfl (o4) (l1) (by simp <;> omega) (by first | assumption | (simp; done) | (simp; omega) | omega) ?_
   intro v7 w7 o7 gr7 bl7 eq7
   refine hK.out _ _ trivial (fun hHeld => ?_)
   clear hK K
   try simp only [Act.put, qA1, qA2, qA3, qA4, qA5, qA6]
   have X7 : Ext w w7 := Ext.below (X4) bl7 (Nat.le_refl _)
   have z7 : w.heap.size ≤ w7.heap.size := X7.size
   refine wpAnyH_ready (rs := [11]) qKr (by simp) ?_
   refine AllReadyH.cons rfl (fun K hK => ?_) AllReadyH.nil
   refine step_app rfl (.tmp 14) (.tmp 17) rfl rfl rfl (o7) (by first | exact hd.ext X7 | exact Ints.nil _ w.heap.size _ _ (by omega) (by simp)) (by simp <;> omega) (by first | assumption | (simp; done) | (simp; omega) | omega) ?_
   intro v11 w11 o11 gr11 bl11 eq11
   refine hK.out _ _ trivial (fun hHeld => ?_)
   clear hK K
   try simp only [Act.put, qA1, qA2, qA3, qA4, qA5, qA6]
   have X11 : Ext w w11 := Ext.below X7 bl11 (Nat.le_refl _)
   refine wpAnyH_ready (rs := [12]) qKr (by simp) ?_
   refine AllReadyH.cons rfl (fun K hK => ?_) AllReadyH.nil
   try simp only [Act.put, qA1, qA2, qA3, qA4, qA5, qA6]
   go_simp
   refine hK.out _ _ trivial (fun hHeld => ?_)
   clear hK K
   try simp only [Act.put, qA1, qA2, qA3, qA4, qA5, qA6]
   refine wpAnyH_done qKr ?_ _
   clear hHeld
   go_wp2_with fail
   refine bodyPost_ret (v := v11) (by simp only [results, Try.results98]; go_simp) rfl ?_
   exact PInts.mkz (by first | exact o11.z | (rw [List.drop_eq_nil_of_le hc]; exact o11.z)) (Nat.le_refl _) (by simp <;> omega) X11
 ·
  have hci : c = i := by omega
  have hd := hv0.drop0 i (by omega) hci
  subst hci
  have g2 : (c : Int) ≤ xs.length := by omega
  have g3 : (0 : Int) ≤ c := by omega
  go_enter Try.func98, Try.ntmps98
  go_wp2_with fail
  refine wp_region_held_drew (S := fun _ => True) qKr trivial (fun hHeld => ?_)
  refine wpAnyH_take (i := 1) (v := ?_) rfl qKr qKr qKr (fun _ _ _ h => h) (Or.inl ⟨by rfl, ?_⟩) (by assumption) ?_
  rotate_left
  ·
   (intro w hSw; (try dsimp only at hSw); go_simp; try with_reducible rfl)
  try simp only [Act.put, qA1, qA2, qA3, qA4, qA5, qA6]
  refine wpAnyH_take (i := 2) (v := ?_) rfl qKr qKr qKr (fun _ _ _ h => h) (Or.inl ⟨by rfl, ?_⟩) (by assumption) ?_
  rotate_left
  ·
   (intro w hSw; (try dsimp only at hSw); go_simp; try with_reducible rfl)
  try simp only [Act.put, qA1, qA2, qA3, qA4, qA5, qA6]
  refine wpAnyH_take (i := 3) (v := ?_) rfl qKr qKr qKr (fun _ _ _ h => h) (Or.inl ⟨by rfl, ?_⟩) (by assumption) ?_
  rotate_left
  ·
   (intro w hSw; (try dsimp only at hSw); go_simp; try with_reducible rfl)
  try simp only [Act.put, qA1, qA2, qA3, qA4, qA5, qA6]
  refine wpAnyH_take (i := 5) (v := ?_) rfl qKr qKr qKr (fun _ _ _ h => h) (Or.inl ⟨by rfl, ?_⟩) (by assumption) ?_
  rotate_left
  ·
   (intro w hSw; (try dsimp only at hSw); go_simp; try with_reducible rfl)
  try simp only [Act.put, qA1, qA2, qA3, qA4, qA5, qA6]
  refine wpAnyH_take (i := 8) (v := ?_) rfl qKr qKr qKr (fun _ _ _ h => h) (Or.inl ⟨by rfl, ?_⟩) (by assumption) ?_
  rotate_left
  ·
   (intro w hSw; (try dsimp only at hSw); go_simp; try with_reducible rfl)
  try simp only [Act.put, qA1, qA2, qA3, qA4, qA5, qA6]
  refine wpAnyH_take (i := 9) (v := ?_) rfl qKr qKr qKr (fun _ _ _ h => h) (Or.inl ⟨by rfl, ?_⟩) (by assumption) ?_
  rotate_left
  ·
   (intro w hSw; (try dsimp only at hSw); go_simp; try with_reducible rfl)
  try simp only [Act.put, qA1, qA2, qA3, qA4, qA5, qA6]
  refine wpAnyH_take (i := 10) (v := ?_) rfl qKr qKr qKr (fun _ _ _ h => h) (Or.inl ⟨by rfl, ?_⟩) (by assumption) ?_
  rotate_left
  ·
   (intro w hSw; (try dsimp only at hSw); go_simp; try with_reducible rfl)
  try simp only [Act.put, qA1, qA2, qA3, qA4, qA5, qA6]
  refine wpAnyH_ready (rs := [0, 6]) qKr (by simp) ?_
  refine AllReadyH.cons rfl (fun K hK => ?_) (AllReadyH.cons rfl (fun K hK => ?_) AllReadyH.nil)
  ·
   skip
   try simp only [Act.put, qA1, qA2, qA3, qA4, qA5, qA6]
   go_simp
   refine hK.out _ _ trivial (fun hHeld => ?_)
   clear hK K
   try simp only [Act.put, qA1, qA2, qA3, qA4, qA5, qA6]
   refine wpAnyH_ready (rs := [4, 6]) qKr (by simp) ?_
   refine AllReadyH.cons rfl (fun K hK => ?_) (AllReadyH.cons rfl (fun K hK => ?_) AllReadyH.nil)
   ·
    skip
    refine step_app rfl (.tmp 7) (.tmp 10) rfl rfl rfl (OwnI.lit0 _ w.heap.size (by simp)) (by first | exact ht.ext qXo | exact Ints.nil _ w.heap.size _ _ (by omega) (by simp)) (by simp <;> omega) (by first | assumption | (simp; done) | (simp; omega) | omega) ?_
    intro v4 w4 o4 gr4 bl4 eq4
    refine hK.out _ _ trivial (fun hHeld => ?_)
    clear hK K
    try simp only [Act.put, qA1, qA2, qA3, qA4, qA5, qA6]
    have X4 : Ext w w4 := Ext.below (show Ext w _ from qXo) bl4 (by simp)
    have z4 : w.heap.size ≤ w4.heap.size := X4.size
    refine wpAnyH_ready (rs := [6]) qKr (by simp) ?_
    refine AllReadyH.cons rfl (fun K hK => ?_) AllReadyH.nil
    try simp only [Act.put, qA1, qA2, qA3, qA4, qA5, qA6]
    go_simp
    refine hK.out _ _ trivial (fun hHeld => ?_)
    clear hK K
    try simp only [Act.put, qA1, qA2, qA3, qA4, qA5, qA6]
    replace o4 := o4.ext (show Ext w4 (w4.alloc (.cells #[.int .i64 x] 3)) from qXo)
    refine wpAnyH_ready (rs := [7]) qKr (by simp) ?_
    refine AllReadyH.cons rfl (fun K hK => ?_) AllReadyH.nil
    refine step_app rfl (.tmp 11) (.tmp 13) rfl rfl rfl (o4) (Ints.one w4 w.heap.size x z4) (by simp <;> omega) (by first | assumption | (simp; done) | (simp; omega) | omega) ?_
    intro v7 w7 o7 gr7 bl7 eq7
    refine hK.out _ _ trivial (fun hHeld => ?_)
    clear hK K
    try simp only [Act.put, qA1, qA2, qA3, qA4, qA5, qA6]
    have X7 : Ext w w7 := Ext.below (X4.trans qXo) bl7 (Nat.le_refl _)
    have z7 : w.heap.size ≤ w7.heap.size := X7.size
    refine wpAnyH_ready (rs := [11]) qKr (by simp) ?_
    refine AllReadyH.cons rfl (fun K hK => ?_) AllReadyH.nil
    refine step_app rfl (.tmp 14) (.tmp 17) rfl rfl rfl (o7) (by first | exact hd.ext X7 | exact Ints.nil _ w.heap.size _ _ (by omega) (by simp)) (by simp <;> omega) (by first | assumption | (simp; done) | (simp; omega) | omega) ?_
    intro v11 w11 o11 gr11 bl11 eq11
    refine hK.out _ _ trivial (fun hHeld => ?_)
    clear hK K
    try simp only [Act.put, qA1, qA2, qA3, qA4, qA5, qA6]
    have X11 : Ext w w11 := Ext.below X7 bl11 (Nat.le_refl _)
    refine wpAnyH_ready (rs := [12]) qKr (by simp) ?_
    refine AllReadyH.cons rfl (fun K hK => ?_) AllReadyH.nil
    try simp only [Act.put, qA1, qA2, qA3, qA4, qA5, qA6]
    go_simp
    refine hK.out _ _ trivial (fun hHeld => ?_)
    clear hK K
    try simp only [Act.put, qA1, qA2, qA3, qA4, qA5, qA6]
    refine wpAnyH_done qKr ?_ _
    clear hHeld
    go_wp2_with fail
    refine bodyPost_ret (v := v11) (by simp only [results, Try.results98]; go_simp) rfl ?_
    exact PInts.mkz (by first | exact o11.z | (rw [List.drop_eq_nil_of_le hc]; exact o11.z)) (Nat.le_refl _) (by simp <;> omega) X11
   ·
    skip
    try simp only [Act.put, qA1, qA2, qA3, qA4, qA5, qA6]
    go_simp
    refine hK.out _ _ trivial (fun hHeld => ?_)
    clear hK K
    try simp only [Act.put, qA1, qA2, qA3, qA4, qA5, qA6]
    refine wpAnyH_ready (rs := [4]) qKr (by simp) ?_
    refine AllReadyH.cons rfl (fun K hK => ?_) AllReadyH.nil
    have l0 : OwnI ((w.drew.alloc (.cells #[] 3)).alloc (.cells #[.int .i64 x] 3)) w.heap.size (.slice (some ⟨w.heap.size, 0, none⟩) 0 0) [] := (OwnI.lit0 w.drew w.heap.size (by simp)).ext ((Ext.refl _).alloc _)
    have l1 : Ints ((w.drew.alloc (.cells #[] 3)).alloc (.cells #[.int .i64 x] 3)) w.heap.size (.slice (some ⟨w.heap.size + 1, 0, none⟩) 1 1) [x] := by simpa using Ints.one (w.drew.alloc (.cells #[] 3)) w.heap.size x (by simp)
    refine step_app rfl (.tmp 7) (.tmp 10) rfl rfl rfl (l0) (by first | exact ht.ext qXo | exact Ints.nil _ w.heap.size _ _ (by omega) (by simp)) (by simp <;> omega) (by first | assumption | (simp; done) | (simp; omega) | omega) ?_
    intro v4 w4 o4 gr4 bl4 eq4
    refine hK.out _ _ trivial (fun hHeld => ?_)
    clear hK K
    try simp only [Act.put, qA1, qA2, qA3, qA4, qA5, qA6]
    have X4 : Ext w w4 := Ext.below (show Ext w _ from qXo) bl4 (by simp)
    have z4 : w.heap.size ≤ w4.heap.size := X4.size
    replace l1 := l1.keepG gr4 (fun b off h _ => by cases h; show (some w.heap.size : Option Nat) ≠ some (w.heap.size + 1); simp)
    refine wpAnyH_ready (rs := [7]) qKr (by simp) ?_
    refine AllReadyH.cons rfl (fun K hK => ?_) AllReadyH.nil
    refine step_app rfl (.tmp 11) (.tmp 13) rfl rfl rfl (o4) (l1) (by simp <;> omega) (by first | assumption | (simp; done) | (simp; omega) | omega) ?_
    intro v7 w7 o7 gr7 bl7 eq7
    refine hK.out _ _ trivial (fun hHeld => ?_)
    clear hK K
    try simp only [Act.put, qA1, qA2, qA3, qA4, qA5, qA6]
    have X7 : Ext w w7 := Ext.below (X4) bl7 (Nat.le_refl _)
    have z7 : w.heap.size ≤ w7.heap.size := X7.size
    refine wpAnyH_ready (rs := [11]) qKr (by simp) ?_
    refine AllReadyH.cons rfl (fun K hK => ?_) AllReadyH.nil
    refine step_app rfl (.tmp 14) (.tmp 17) rfl rfl rfl (o7) (by first | exact hd.ext X7 | exact Ints.nil _ w.heap.size _ _ (by omega) (by simp)) (by simp <;> omega) (by first | assumption | (simp; done) | (simp; omega) | omega) ?_
    intro v11 w11 o11 gr11 bl11 eq11
    refine hK.out _ _ trivial (fun hHeld => ?_)
    clear hK K
    try simp only [Act.put, qA1, qA2, qA3, qA4, qA5, qA6]
    have X11 : Ext w w11 := Ext.below X7 bl11 (Nat.le_refl _)
    refine wpAnyH_ready (rs := [12]) qKr (by simp) ?_
    refine AllReadyH.cons rfl (fun K hK => ?_) AllReadyH.nil
    try simp only [Act.put, qA1, qA2, qA3, qA4, qA5, qA6]
    go_simp
    refine hK.out _ _ trivial (fun hHeld => ?_)
    clear hK K
    try simp only [Act.put, qA1, qA2, qA3, qA4, qA5, qA6]
    refine wpAnyH_done qKr ?_ _
    clear hHeld
    go_wp2_with fail
    refine bodyPost_ret (v := v11) (by simp only [results, Try.results98]; go_simp) rfl ?_
    exact PInts.mkz (by first | exact o11.z | (rw [List.drop_eq_nil_of_le hc]; exact o11.z)) (Nat.le_refl _) (by simp <;> omega) X11
  ·
   skip
   try simp only [Act.put, qA1, qA2, qA3, qA4, qA5, qA6]
   go_simp
   refine hK.out _ _ trivial (fun hHeld => ?_)
   clear hK K
   try simp only [Act.put, qA1, qA2, qA3, qA4, qA5, qA6]
   refine wpAnyH_ready (rs := [0]) qKr (by simp) ?_
   refine AllReadyH.cons rfl (fun K hK => ?_) AllReadyH.nil
   try simp only [Act.put, qA1, qA2, qA3, qA4, qA5, qA6]
   go_simp
   refine hK.out _ _ trivial (fun hHeld => ?_)
   clear hK K
   try simp only [Act.put, qA1, qA2, qA3, qA4, qA5, qA6]
   refine wpAnyH_ready (rs := [4]) qKr (by simp) ?_
   refine AllReadyH.cons rfl (fun K hK => ?_) AllReadyH.nil
   have l0 : OwnI ((w.drew.alloc (.cells #[.int .i64 x] 3)).alloc (.cells #[] 3)) w.heap.size (.slice (some ⟨w.heap.size + 1, 0, none⟩) 0 0) [] := by simpa using (OwnI.lit0 (w.drew.alloc (.cells #[.int .i64 x] 3)) w.heap.size (by simp))
   have l1 : Ints ((w.drew.alloc (.cells #[.int .i64 x] 3)).alloc (.cells #[] 3)) w.heap.size (.slice (some ⟨w.heap.size, 0, none⟩) 1 1) [x] := (Ints.one w.drew w.heap.size x (by simp)).ext ((Ext.refl _).alloc _)
   refine step_app rfl (.tmp 7) (.tmp 10) rfl rfl rfl (l0) (by first | exact ht.ext qXo | exact Ints.nil _ w.heap.size _ _ (by omega) (by simp)) (by simp <;> omega) (by first | assumption | (simp; done) | (simp; omega) | omega) ?_
   intro v4 w4 o4 gr4 bl4 eq4
   refine hK.out _ _ trivial (fun hHeld => ?_)
   clear hK K
   try simp only [Act.put, qA1, qA2, qA3, qA4, qA5, qA6]
   have X4 : Ext w w4 := Ext.below (show Ext w _ from qXo) bl4 (by simp)
   have z4 : w.heap.size ≤ w4.heap.size := X4.size
   replace l1 := l1.keepG gr4 (fun b off h _ => by cases h; show (some (w.heap.size + 1) : Option Nat) ≠ some w.heap.size; simp)
   refine wpAnyH_ready (rs := [7]) qKr (by simp) ?_
   refine AllReadyH.cons rfl (fun K hK => ?_) AllReadyH.nil
   refine step_app rfl (.tmp 11) (.tmp 13) rfl rfl rfl (o4) (l1) (by simp <;> omega) (by first | assumption | (simp; done) | (simp; omega) | omega) ?_
   intro v7 w7 o7 gr7 bl7 eq7
   refine hK.out _ _ trivial (fun hHeld => ?_)
   clear hK K
   try simp only [Act.put, qA1, qA2, qA3, qA4, qA5, qA6]
   have X7 : Ext w w7 := Ext.below (X4) bl7 (Nat.le_refl _)
   have z7 : w.heap.size ≤ w7.heap.size := X7.size
   refine wpAnyH_ready (rs := [11]) qKr (by simp) ?_
   refine AllReadyH.cons rfl (fun K hK => ?_) AllReadyH.nil
   refine step_app rfl (.tmp 14) (.tmp 17) rfl rfl rfl (o7) (by first | exact hd.ext X7 | exact Ints.nil _ w.heap.size _ _ (by omega) (by simp)) (by simp <;> omega) (by first | assumption | (simp; done) | (simp; omega) | omega) ?_
   intro v11 w11 o11 gr11 bl11 eq11
   refine hK.out _ _ trivial (fun hHeld => ?_)
   clear hK K
   try simp only [Act.put, qA1, qA2, qA3, qA4, qA5, qA6]
   have X11 : Ext w w11 := Ext.below X7 bl11 (Nat.le_refl _)
   refine wpAnyH_ready (rs := [12]) qKr (by simp) ?_
   refine AllReadyH.cons rfl (fun K hK => ?_) AllReadyH.nil
   try simp only [Act.put, qA1, qA2, qA3, qA4, qA5, qA6]
   go_simp
   refine hK.out _ _ trivial (fun hHeld => ?_)
   clear hK K
   try simp only [Act.put, qA1, qA2, qA3, qA4, qA5, qA6]
   refine wpAnyH_done qKr ?_ _
   clear hHeld
   go_wp2_with fail
   refine bodyPost_ret (v := v11) (by simp only [results, Try.results98]; go_simp) rfl ?_
   exact PInts.mkz (by first | exact o11.z | (rw [List.drop_eq_nil_of_le hc]; exact o11.z)) (Nat.le_refl _) (by simp <;> omega) X11
 ·
  subst hne
  obtain rfl : i = 0 := by simpa using hi
  rcases a with _ | A
  ·
   obtain rfl : c = 0 := hb2.2 rfl
   have hd := hv0
   simp only [List.length_nil, Int.ofNat_zero, Int.natCast_zero, List.take_nil, List.drop_nil] at *
   go_enter Try.func98, Try.ntmps98
   go_wp2_with fail
   refine wp_region_held_drew (S := fun _ => True) qKr trivial (fun hHeld => ?_)
   refine wpAnyH_take (i := 1) (v := ?_) rfl qKr qKr qKr (fun _ _ _ h => h) (Or.inl ⟨by rfl, ?_⟩) (by assumption) ?_
   rotate_left
   ·
    (intro w hSw; (try dsimp only at hSw); go_simp; try with_reducible rfl)
   try simp only [Act.put, qA1, qA2, qA3, qA4, qA5, qA6]
   refine wpAnyH_take (i := 2) (v := ?_) rfl qKr qKr qKr (fun _ _ _ h => h) (Or.inl ⟨by rfl, ?_⟩) (by assumption) ?_
   rotate_left
   ·
    (intro w hSw; (try dsimp only at hSw); go_simp; try with_reducible rfl)
   try simp only [Act.put, qA1, qA2, qA3, qA4, qA5, qA6]
   refine wpAnyH_take (i := 3) (v := ?_) rfl qKr qKr qKr (fun _ _ _ h => h) (Or.inl ⟨by rfl, ?_⟩) (by assumption) ?_
   rotate_left
   ·
    (intro w hSw; (try dsimp only at hSw); go_simp; try with_reducible rfl)
   try simp only [Act.put, qA1, qA2, qA3, qA4, qA5, qA6]
   refine wpAnyH_take (i := 5) (v := ?_) rfl qKr qKr qKr (fun _ _ _ h => h) (Or.inl ⟨by rfl, ?_⟩) (by assumption) ?_
   rotate_left
   ·
    (intro w hSw; (try dsimp only at hSw); go_simp; try with_reducible rfl)
   try simp only [Act.put, qA1, qA2, qA3, qA4, qA5, qA6]
   refine wpAnyH_take (i := 8) (v := ?_) rfl qKr qKr qKr (fun _ _ _ h => h) (Or.inl ⟨by rfl, ?_⟩) (by assumption) ?_
   rotate_left
   ·
    (intro w hSw; (try dsimp only at hSw); go_simp; try with_reducible rfl)
   try simp only [Act.put, qA1, qA2, qA3, qA4, qA5, qA6]
   refine wpAnyH_take (i := 9) (v := ?_) rfl qKr qKr qKr (fun _ _ _ h => h) (Or.inl ⟨by rfl, ?_⟩) (by assumption) ?_
   rotate_left
   ·
    (intro w hSw; (try dsimp only at hSw); go_simp; try with_reducible rfl)
   try simp only [Act.put, qA1, qA2, qA3, qA4, qA5, qA6]
   refine wpAnyH_take (i := 10) (v := ?_) rfl qKr qKr qKr (fun _ _ _ h => h) (Or.inl ⟨by rfl, ?_⟩) (by assumption) ?_
   rotate_left
   ·
    (intro w hSw; (try dsimp only at hSw); go_simp; try with_reducible rfl)
   try simp only [Act.put, qA1, qA2, qA3, qA4, qA5, qA6]
   refine wpAnyH_ready (rs := [0, 6]) qKr (by simp) ?_
   refine AllReadyH.cons rfl (fun K hK => ?_) (AllReadyH.cons rfl (fun K hK => ?_) AllReadyH.nil)
   ·
    skip
    try simp only [Act.put, qA1, qA2, qA3, qA4, qA5, qA6]
    go_simp
    refine hK.out _ _ trivial (fun hHeld => ?_)
    clear hK K
    try simp only [Act.put, qA1, qA2, qA3, qA4, qA5, qA6]
    refine wpAnyH_ready (rs := [4, 6]) qKr (by simp) ?_
    refine AllReadyH.cons rfl (fun K hK => ?_) (AllReadyH.cons rfl (fun K hK => ?_) AllReadyH.nil)
    ·
     skip
     refine step_app rfl (.tmp 7) (.tmp 10) rfl rfl rfl (OwnI.lit0 _ w.heap.size (by simp)) (by first | exact ht.ext qXo | exact Ints.nil _ w.heap.size _ _ (by omega) (by simp)) (by simp <;> omega) (by first | assumption | (simp; done) | (simp; omega) | omega) ?_
     intro v4 w4 o4 gr4 bl4 eq4
     refine hK.out _ _ trivial (fun hHeld => ?_)
     clear hK K
     try simp only [Act.put, qA1, qA2, qA3, qA4, qA5, qA6]
     have X4 : Ext w w4 := Ext.below (show Ext w _ from qXo) bl4 (by simp)
     have z4 : w.heap.size ≤ w4.heap.size := X4.size
     refine wpAnyH_ready (rs := [6]) qKr (by simp) ?_
     refine AllReadyH.cons rfl (fun K hK => ?_) AllReadyH.nil
     try simp only [Act.put, qA1, qA2, qA3, qA4, qA5, qA6]
     go_simp
     refine hK.out _ _ trivial (fun hHeld => ?_)
     clear hK K
     try simp only [Act.put, qA1, qA2, qA3, qA4, qA5, qA6]
     replace o4 := o4.ext (show Ext w4 (w4.alloc (.cells #[.int .i64 x] 3)) from qXo)
     refine wpAnyH_ready (rs := [7]) qKr (by simp) ?_
     refine AllReadyH.cons rfl (fun K hK => ?_) AllReadyH.nil
     refine step_app rfl (.tmp 11) (.tmp 13) rfl rfl rfl (o4) (Ints.one w4 w.heap.size x z4) (by simp <;> omega) (by first | assumption | (simp; done) | (simp; omega) | omega) ?_
     intro v7 w7 o7 gr7 bl7 eq7
     refine hK.out _ _ trivial (fun hHeld => ?_)
     clear hK K
     try simp only [Act.put, qA1, qA2, qA3, qA4, qA5, qA6]
     have X7 : Ext w w7 := Ext.below (X4.trans qXo) bl7 (Nat.le_refl _)
     have z7 : w.heap.size ≤ w7.heap.size := X7.size
     refine wpAnyH_ready (rs := [11]) qKr (by simp) ?_
     refine AllReadyH.cons rfl (fun K hK => ?_) AllReadyH.nil
     refine step_app rfl (.tmp 14) (.tmp 17) rfl rfl rfl (o7) (by first | exact hd.ext X7 | exact Ints.nil _ w.heap.size _ _ (by omega) (by simp)) (by simp <;> omega) (by first | assumption | (simp; done) | (simp; omega) | omega) ?_
     intro v11 w11 o11 gr11 bl11 eq11
     refine hK.out _ _ trivial (fun hHeld => ?_)
     clear hK K
     try simp only [Act.put, qA1, qA2, qA3, qA4, qA5, qA6]
     have X11 : Ext w w11 := Ext.below X7 bl11 (Nat.le_refl _)
     refine wpAnyH_ready (rs := [12]) qKr (by simp) ?_
     refine AllReadyH.cons rfl (fun K hK => ?_) AllReadyH.nil
     try simp only [Act.put, qA1, qA2, qA3, qA4, qA5, qA6]
     go_simp
     refine hK.out _ _ trivial (fun hHeld => ?_)
     clear hK K
     try simp only [Act.put, qA1, qA2, qA3, qA4, qA5, qA6]
     refine wpAnyH_done qKr ?_ _
     clear hHeld
     go_wp2_with fail
     refine bodyPost_ret (v := v11) (by simp only [results, Try.results98]; go_simp) rfl ?_
     exact PInts.mkz (by first | exact o11.z | (rw [List.drop_eq_nil_of_le hc]; exact o11.z)) (Nat.le_refl _) (by simp <;> omega) X11
    ·
     skip
     try simp only [Act.put, qA1, qA2, qA3, qA4, qA5, qA6]
     go_simp
     refine hK.out _ _ trivial (fun hHeld => ?_)
     clear hK K
     try simp only [Act.put, qA1, qA2, qA3, qA4, qA5, qA6]
     refine wpAnyH_ready (rs := [4]) qKr (by simp) ?_
     refine AllReadyH.cons rfl (fun K hK => ?_) AllReadyH.nil
     have l0 : OwnI ((w.drew.alloc (.cells #[] 3)).alloc (.cells #[.int .i64 x] 3)) w.heap.size (.slice (some ⟨w.heap.size, 0, none⟩) 0 0) [] := (OwnI.lit0 w.drew w.heap.size (by simp)).ext ((Ext.refl _).alloc _)
     have l1 : Ints ((w.drew.alloc (.cells #[] 3)).alloc (.cells #[.int .i64 x] 3)) w.heap.size (.slice (some ⟨w.heap.size + 1, 0, none⟩) 1 1) [x] := by simpa using Ints.one (w.drew.alloc (.cells #[] 3)) w.heap.size x (by simp)
     refine step_app rfl (.tmp 7) (.tmp 10) rfl rfl rfl (l0) (by first | exact ht.ext qXo | exact Ints.nil _ w.heap.size _ _ (by omega) (by simp)) (by simp <;> omega) (by first | assumption | (simp; done) | (simp; omega) | omega) ?_
     intro v4 w4 o4 gr4 bl4 eq4
     refine hK.out _ _ trivial (fun hHeld => ?_)
     clear hK K
     try simp only [Act.put, qA1, qA2, qA3, qA4, qA5, qA6]
     have X4 : Ext w w4 := Ext.below (show Ext w _ from qXo) bl4 (by simp)
     have z4 : w.heap.size ≤ w4.heap.size := X4.size
     replace l1 := l1.keepG gr4 (fun b off h _ => by cases h; show (some w.heap.size : Option Nat) ≠ some (w.heap.size + 1); simp)
     refine wpAnyH_ready (rs := [7]) qKr (by simp) ?_
     refine AllReadyH.cons rfl (fun K hK => ?_) AllReadyH.nil
     refine step_app rfl (.tmp 11) (.tmp 13) rfl rfl rfl (o4) (l1) (by simp <;> omega) (by first | assumption | (simp; done) | (simp; omega) | omega) ?_
     intro v7 w7 o7 gr7 bl7 eq7
     refine hK.out _ _ trivial (fun hHeld => ?_)
     clear hK K
     try simp only [Act.put, qA1, qA2, qA3, qA4, qA5, qA6]
     have X7 : Ext w w7 := Ext.below (X4) bl7 (Nat.le_refl _)
     have z7 : w.heap.size ≤ w7.heap.size := X7.size
     refine wpAnyH_ready (rs := [11]) qKr (by simp) ?_
     refine AllReadyH.cons rfl (fun K hK => ?_) AllReadyH.nil
     refine step_app rfl (.tmp 14) (.tmp 17) rfl rfl rfl (o7) (by first | exact hd.ext X7 | exact Ints.nil _ w.heap.size _ _ (by omega) (by simp)) (by simp <;> omega) (by first | assumption | (simp; done) | (simp; omega) | omega) ?_
     intro v11 w11 o11 gr11 bl11 eq11
     refine hK.out _ _ trivial (fun hHeld => ?_)
     clear hK K
     try simp only [Act.put, qA1, qA2, qA3, qA4, qA5, qA6]
     have X11 : Ext w w11 := Ext.below X7 bl11 (Nat.le_refl _)
     refine wpAnyH_ready (rs := [12]) qKr (by simp) ?_
     refine AllReadyH.cons rfl (fun K hK => ?_) AllReadyH.nil
     try simp only [Act.put, qA1, qA2, qA3, qA4, qA5, qA6]
     go_simp
     refine hK.out _ _ trivial (fun hHeld => ?_)
     clear hK K
     try simp only [Act.put, qA1, qA2, qA3, qA4, qA5, qA6]
     refine wpAnyH_done qKr ?_ _
     clear hHeld
     go_wp2_with fail
     refine bodyPost_ret (v := v11) (by simp only [results, Try.results98]; go_simp) rfl ?_
     exact PInts.mkz (by first | exact o11.z | (rw [List.drop_eq_nil_of_le hc]; exact o11.z)) (Nat.le_refl _) (by simp <;> omega) X11
   ·
    skip
    try simp only [Act.put, qA1, qA2, qA3, qA4, qA5, qA6]
    go_simp
    refine hK.out _ _ trivial (fun hHeld => ?_)
    clear hK K
    try simp only [Act.put, qA1, qA2, qA3, qA4, qA5, qA6]
    refine wpAnyH_ready (rs := [0]) qKr (by simp) ?_
    refine AllReadyH.cons rfl (fun K hK => ?_) AllReadyH.nil
    try simp only [Act.put, qA1, qA2, qA3, qA4, qA5, qA6]
    go_simp
    refine hK.out _ _ trivial (fun hHeld => ?_)
    clear hK K
    try simp only [Act.put, qA1, qA2, qA3, qA4, qA5, qA6]
    refine wpAnyH_ready (rs := [4]) qKr (by simp) ?_
    refine AllReadyH.cons rfl (fun K hK => ?_) AllReadyH.nil
    have l0 : OwnI ((w.drew.alloc (.cells #[.int .i64 x] 3)).alloc (.cells #[] 3)) w.heap.size (.slice (some ⟨w.heap.size + 1, 0, none⟩) 0 0) [] := by simpa using (OwnI.lit0 (w.drew.alloc (.cells #[.int .i64 x] 3)) w.heap.size (by simp))
    have l1 : Ints ((w.drew.alloc (.cells #[.int .i64 x] 3)).alloc (.cells #[] 3)) w.heap.size (.slice (some ⟨w.heap.size, 0, none⟩) 1 1) [x] := (Ints.one w.drew w.heap.size x (by simp)).ext ((Ext.refl _).alloc _)
    refine step_app rfl (.tmp 7) (.tmp 10) rfl rfl rfl (l0) (by first | exact ht.ext qXo | exact Ints.nil _ w.heap.size _ _ (by omega) (by simp)) (by simp <;> omega) (by first | assumption | (simp; done) | (simp; omega) | omega) ?_
    intro v4 w4 o4 gr4 bl4 eq4
    refine hK.out _ _ trivial (fun hHeld => ?_)
    clear hK K
    try simp only [Act.put, qA1, qA2, qA3, qA4, qA5, qA6]
    have X4 : Ext w w4 := Ext.below (show Ext w _ from qXo) bl4 (by simp)
    have z4 : w.heap.size ≤ w4.heap.size := X4.size
    replace l1 := l1.keepG gr4 (fun b off h _ => by cases h; show (some (w.heap.size + 1) : Option Nat) ≠ some w.heap.size; simp)
    refine wpAnyH_ready (rs := [7]) qKr (by simp) ?_
    refine AllReadyH.cons rfl (fun K hK => ?_) AllReadyH.nil
    refine step_app rfl (.tmp 11) (.tmp 13) rfl rfl rfl (o4) (l1) (by simp <;> omega) (by first | assumption | (simp; done) | (simp; omega) | omega) ?_
    intro v7 w7 o7 gr7 bl7 eq7
    refine hK.out _ _ trivial (fun hHeld => ?_)
    clear hK K
    try simp only [Act.put, qA1, qA2, qA3, qA4, qA5, qA6]
    have X7 : Ext w w7 := Ext.below (X4) bl7 (Nat.le_refl _)
    have z7 : w.heap.size ≤ w7.heap.size := X7.size
    refine wpAnyH_ready (rs := [11]) qKr (by simp) ?_
    refine AllReadyH.cons rfl (fun K hK => ?_) AllReadyH.nil
    refine step_app rfl (.tmp 14) (.tmp 17) rfl rfl rfl (o7) (by first | exact hd.ext X7 | exact Ints.nil _ w.heap.size _ _ (by omega) (by simp)) (by simp <;> omega) (by first | assumption | (simp; done) | (simp; omega) | omega) ?_
    intro v11 w11 o11 gr11 bl11 eq11
    refine hK.out _ _ trivial (fun hHeld => ?_)
    clear hK K
    try simp only [Act.put, qA1, qA2, qA3, qA4, qA5, qA6]
    have X11 : Ext w w11 := Ext.below X7 bl11 (Nat.le_refl _)
    refine wpAnyH_ready (rs := [12]) qKr (by simp) ?_
    refine AllReadyH.cons rfl (fun K hK => ?_) AllReadyH.nil
    try simp only [Act.put, qA1, qA2, qA3, qA4, qA5, qA6]
    go_simp
    refine hK.out _ _ trivial (fun hHeld => ?_)
    clear hK K
    try simp only [Act.put, qA1, qA2, qA3, qA4, qA5, qA6]
    refine wpAnyH_done qKr ?_ _
    clear hHeld
    go_wp2_with fail
    refine bodyPost_ret (v := v11) (by simp only [results, Try.results98]; go_simp) rfl ?_
    exact PInts.mkz (by first | exact o11.z | (rw [List.drop_eq_nil_of_le hc]; exact o11.z)) (Nat.le_refl _) (by simp <;> omega) X11
  ·
   by_cases hc0 : c = 0
   ·
    subst hc0
    have hd := hv0
    simp only [List.length_nil, Int.ofNat_zero, Int.natCast_zero, List.take_nil, List.drop_nil] at *
    go_enter Try.func98, Try.ntmps98
    go_wp2_with fail
    refine wp_region_held_drew (S := fun _ => True) qKr trivial (fun hHeld => ?_)
    refine wpAnyH_take (i := 1) (v := ?_) rfl qKr qKr qKr (fun _ _ _ h => h) (Or.inl ⟨by rfl, ?_⟩) (by assumption) ?_
    rotate_left
    ·
     (intro w hSw; (try dsimp only at hSw); go_simp; try with_reducible rfl)
    try simp only [Act.put, qA1, qA2, qA3, qA4, qA5, qA6]
    refine wpAnyH_take (i := 2) (v := ?_) rfl qKr qKr qKr (fun _ _ _ h => h) (Or.inl ⟨by rfl, ?_⟩) (by assumption) ?_
    rotate_left
    ·
     (intro w hSw; (try dsimp only at hSw); go_simp; try with_reducible rfl)
    try simp only [Act.put, qA1, qA2, qA3, qA4, qA5, qA6]
    refine wpAnyH_take (i := 3) (v := ?_) rfl qKr qKr qKr (fun _ _ _ h => h) (Or.inl ⟨by rfl, ?_⟩) (by assumption) ?_
    rotate_left
    ·
     (intro w hSw; (try dsimp only at hSw); go_simp; try with_reducible rfl)
    try simp only [Act.put, qA1, qA2, qA3, qA4, qA5, qA6]
    refine wpAnyH_take (i := 5) (v := ?_) rfl qKr qKr qKr (fun _ _ _ h => h) (Or.inl ⟨by rfl, ?_⟩) (by assumption) ?_
    rotate_left
    ·
     (intro w hSw; (try dsimp only at hSw); go_simp; try with_reducible rfl)
    try simp only [Act.put, qA1, qA2, qA3, qA4, qA5, qA6]
    refine wpAnyH_take (i := 8) (v := ?_) rfl qKr qKr qKr (fun _ _ _ h => h) (Or.inl ⟨by rfl, ?_⟩) (by assumption) ?_
    rotate_left
    ·
     (intro w hSw; (try dsimp only at hSw); go_simp; try with_reducible rfl)
    try simp only [Act.put, qA1, qA2, qA3, qA4, qA5, qA6]
    refine wpAnyH_take (i := 9) (v := ?_) rfl qKr qKr qKr (fun _ _ _ h => h) (Or.inl ⟨by rfl, ?_⟩) (by assumption) ?_
    rotate_left
    ·
     (intro w hSw; (try dsimp only at hSw); go_simp; try with_reducible rfl)
    try simp only [Act.put, qA1, qA2, qA3, qA4, qA5, qA6]
    refine wpAnyH_take (i := 10) (v := ?_) rfl qKr qKr qKr (fun _ _ _ h => h) (Or.inl ⟨by rfl, ?_⟩) (by assumption) ?_
    rotate_left
    ·
     (intro w hSw; (try dsimp only at hSw); go_simp; try with_reducible rfl)
    try simp only [Act.put, qA1, qA2, qA3, qA4, qA5, qA6]
    refine wpAnyH_ready (rs := [0, 6]) qKr (by simp) ?_
    refine AllReadyH.cons rfl (fun K hK => ?_) (AllReadyH.cons rfl (fun K hK => ?_) AllReadyH.nil)
    ·
     skip
     try simp only [Act.put, qA1, qA2, qA3, qA4, qA5, qA6]
     go_simp
     refine hK.out _ _ trivial (fun hHeld => ?_)
     clear hK K
     try simp only [Act.put, qA1, qA2, qA3, qA4, qA5, qA6]
     refine wpAnyH_ready (rs := [4, 6]) qKr (by simp) ?_
     refine AllReadyH.cons rfl (fun K hK => ?_) (AllReadyH.cons rfl (fun K hK => ?_) AllReadyH.nil)
     ·
      skip
      refine step_app rfl (.tmp 7) (.tmp 10) rfl rfl rfl (OwnI.lit0 _ w.heap.size (by simp)) (by first | exact ht.ext qXo | exact Ints.nil _ w.heap.size _ _ (by omega) (by simp)) (by simp <;> omega) (by first | assumption | (simp; done) | (simp; omega) | omega) ?_
      intro v4 w4 o4 gr4 bl4 eq4
      refine hK.out _ _ trivial (fun hHeld => ?_)
      clear hK K
      try simp only [Act.put, qA1, qA2, qA3, qA4, qA5, qA6]
      have X4 : Ext w w4 := Ext.below (show Ext w _ from qXo) bl4 (by simp)
      have z4 : w.heap.size ≤ w4.heap.size := X4.size
      refine wpAnyH_ready (rs := [6]) qKr (by simp) ?_
      refine AllReadyH.cons rfl (fun K hK => ?_) AllReadyH.nil
      try simp only [Act.put, qA1, qA2, qA3, qA4, qA5, qA6]
      go_simp
      refine hK.out _ _ trivial (fun hHeld => ?_)
      clear hK K
      try simp only [Act.put, qA1, qA2, qA3, qA4, qA5, qA6]
      replace o4 := o4.ext (show Ext w4 (w4.alloc (.cells #[.int .i64 x] 3)) from qXo)
      refine wpAnyH_ready (rs := [7]) qKr (by simp) ?_
      refine AllReadyH.cons rfl (fun K hK => ?_) AllReadyH.nil
      refine step_app rfl (.tmp 11) (.tmp 13) rfl rfl rfl (o4) (Ints.one w4 w.heap.size x z4) (by simp <;> omega) (by first | assumption | (simp; done) | (simp; omega) | omega) ?_
      intro v7 w7 o7 gr7 bl7 eq7
      refine hK.out _ _ trivial (fun hHeld => ?_)
      clear hK K
      try simp only [Act.put, qA1, qA2, qA3, qA4, qA5, qA6]
      have X7 : Ext w w7 := Ext.below (X4.trans qXo) bl7 (Nat.le_refl _)
      have z7 : w.heap.size ≤ w7.heap.size := X7.size
      refine wpAnyH_ready (rs := [11]) qKr (by simp) ?_
      refine AllReadyH.cons rfl (fun K hK => ?_) AllReadyH.nil
      refine step_app rfl (.tmp 14) (.tmp 17) rfl rfl rfl (o7) (by first | exact hd.ext X7 | exact Ints.nil _ w.heap.size _ _ (by omega) (by simp)) (by simp <;> omega) (by first | assumption | (simp; done) | (simp; omega) | omega) ?_
      intro v11 w11 o11 gr11 bl11 eq11
      refine hK.out _ _ trivial (fun hHeld => ?_)
      clear hK K
      try simp only [Act.put, qA1, qA2, qA3, qA4, qA5, qA6]
      have X11 : Ext w w11 := Ext.below X7 bl11 (Nat.le_refl _)
      refine wpAnyH_ready (rs := [12]) qKr (by simp) ?_
      refine AllReadyH.cons rfl (fun K hK => ?_) AllReadyH.nil
      try simp only [Act.put, qA1, qA2, qA3, qA4, qA5, qA6]
      go_simp
      refine hK.out _ _ trivial (fun hHeld => ?_)
      clear hK K
      try simp only [Act.put, qA1, qA2, qA3, qA4, qA5, qA6]
      refine wpAnyH_done qKr ?_ _
      clear hHeld
      go_wp2_with fail
      refine bodyPost_ret (v := v11) (by simp only [results, Try.results98]; go_simp) rfl ?_
      exact PInts.mkz (by first | exact o11.z | (rw [List.drop_eq_nil_of_le hc]; exact o11.z)) (Nat.le_refl _) (by simp <;> omega) X11
     ·
      skip
      try simp only [Act.put, qA1, qA2, qA3, qA4, qA5, qA6]
      go_simp
      refine hK.out _ _ trivial (fun hHeld => ?_)
      clear hK K
      try simp only [Act.put, qA1, qA2, qA3, qA4, qA5, qA6]
      refine wpAnyH_ready (rs := [4]) qKr (by simp) ?_
      refine AllReadyH.cons rfl (fun K hK => ?_) AllReadyH.nil
      have l0 : OwnI ((w.drew.alloc (.cells #[] 3)).alloc (.cells #[.int .i64 x] 3)) w.heap.size (.slice (some ⟨w.heap.size, 0, none⟩) 0 0) [] := (OwnI.lit0 w.drew w.heap.size (by simp)).ext ((Ext.refl _).alloc _)
      have l1 : Ints ((w.drew.alloc (.cells #[] 3)).alloc (.cells #[.int .i64 x] 3)) w.heap.size (.slice (some ⟨w.heap.size + 1, 0, none⟩) 1 1) [x] := by simpa using Ints.one (w.drew.alloc (.cells #[] 3)) w.heap.size x (by simp)
      refine step_app rfl (.tmp 7) (.tmp 10) rfl rfl rfl (l0) (by first | exact ht.ext qXo | exact Ints.nil _ w.heap.size _ _ (by omega) (by simp)) (by simp <;> omega) (by first | assumption | (simp; done) | (simp; omega) | omega) ?_
      intro v4 w4 o4 gr4 bl4 eq4
      refine hK.out _ _ trivial (fun hHeld => ?_)
      clear hK K
      try simp only [Act.put, qA1, qA2, qA3, qA4, qA5, qA6]
      have X4 : Ext w w4 := Ext.below (show Ext w _ from qXo) bl4 (by simp)
      have z4 : w.heap.size ≤ w4.heap.size := X4.size
      replace l1 := l1.keepG gr4 (fun b off h _ => by cases h; show (some w.heap.size : Option Nat) ≠ some (w.heap.size + 1); simp)
      refine wpAnyH_ready (rs := [7]) qKr (by simp) ?_
      refine AllReadyH.cons rfl (fun K hK => ?_) AllReadyH.nil
      refine step_app rfl (.tmp 11) (.tmp 13) rfl rfl rfl (o4) (l1) (by simp <;> omega) (by first | assumption | (simp; done) | (simp; omega) | omega) ?_
      intro v7 w7 o7 gr7 bl7 eq7
      refine hK.out _ _ trivial (fun hHeld => ?_)
      clear hK K
      try simp only [Act.put, qA1, qA2, qA3, qA4, qA5, qA6]
      have X7 : Ext w w7 := Ext.below (X4) bl7 (Nat.le_refl _)
      have z7 : w.heap.size ≤ w7.heap.size := X7.size
      refine wpAnyH_ready (rs := [11]) qKr (by simp) ?_
      refine AllReadyH.cons rfl (fun K hK => ?_) AllReadyH.nil
      refine step_app rfl (.tmp 14) (.tmp 17) rfl rfl rfl (o7) (by first | exact hd.ext X7 | exact Ints.nil _ w.heap.size _ _ (by omega) (by simp)) (by simp <;> omega) (by first | assumption | (simp; done) | (simp; omega) | omega) ?_
      intro v11 w11 o11 gr11 bl11 eq11
      refine hK.out _ _ trivial (fun hHeld => ?_)
      clear hK K
      try simp only [Act.put, qA1, qA2, qA3, qA4, qA5, qA6]
      have X11 : Ext w w11 := Ext.below X7 bl11 (Nat.le_refl _)
      refine wpAnyH_ready (rs := [12]) qKr (by simp) ?_
      refine AllReadyH.cons rfl (fun K hK => ?_) AllReadyH.nil
      try simp only [Act.put, qA1, qA2, qA3, qA4, qA5, qA6]
      go_simp
      refine hK.out _ _ trivial (fun hHeld => ?_)
      clear hK K
      try simp only [Act.put, qA1, qA2, qA3, qA4, qA5, qA6]
      refine wpAnyH_done qKr ?_ _
      clear hHeld
      go_wp2_with fail
      refine bodyPost_ret (v := v11) (by simp only [results, Try.results98]; go_simp) rfl ?_
      exact PInts.mkz (by first | exact o11.z | (rw [List.drop_eq_nil_of_le hc]; exact o11.z)) (Nat.le_refl _) (by simp <;> omega) X11
    ·
     skip
     try simp only [Act.put, qA1, qA2, qA3, qA4, qA5, qA6]
     go_simp
     refine hK.out _ _ trivial (fun hHeld => ?_)
     clear hK K
     try simp only [Act.put, qA1, qA2, qA3, qA4, qA5, qA6]
     refine wpAnyH_ready (rs := [0]) qKr (by simp) ?_
     refine AllReadyH.cons rfl (fun K hK => ?_) AllReadyH.nil
     try simp only [Act.put, qA1, qA2, qA3, qA4, qA5, qA6]
     go_simp
     refine hK.out _ _ trivial (fun hHeld => ?_)
     clear hK K
     try simp only [Act.put, qA1, qA2, qA3, qA4, qA5, qA6]
     refine wpAnyH_ready (rs := [4]) qKr (by simp) ?_
     refine AllReadyH.cons rfl (fun K hK => ?_) AllReadyH.nil
     have l0 : OwnI ((w.drew.alloc (.cells #[.int .i64 x] 3)).alloc (.cells #[] 3)) w.heap.size (.slice (some ⟨w.heap.size + 1, 0, none⟩) 0 0) [] := by simpa using (OwnI.lit0 (w.drew.alloc (.cells #[.int .i64 x] 3)) w.heap.size (by simp))
     have l1 : Ints ((w.drew.alloc (.cells #[.int .i64 x] 3)).alloc (.cells #[] 3)) w.heap.size (.slice (some ⟨w.heap.size, 0, none⟩) 1 1) [x] := (Ints.one w.drew w.heap.size x (by simp)).ext ((Ext.refl _).alloc _)
     refine step_app rfl (.tmp 7) (.tmp 10) rfl rfl rfl (l0) (by first | exact ht.ext qXo | exact Ints.nil _ w.heap.size _ _ (by omega) (by simp)) (by simp <;> omega) (by first | assumption | (simp; done) | (simp; omega) | omega) ?_
     intro v4 w4 o4 gr4 bl4 eq4
     refine hK.out _ _ trivial (fun hHeld => ?_)
     clear hK K
     try simp only [Act.put, qA1, qA2, qA3, qA4, qA5, qA6]
     have X4 : Ext w w4 := Ext.below (show Ext w _ from qXo) bl4 (by simp)
     have z4 : w.heap.size ≤ w4.heap.size := X4.size
     replace l1 := l1.keepG gr4 (fun b off h _ => by cases h; show (some (w.heap.size + 1) : Option Nat) ≠ some w.heap.size; simp)
     refine wpAnyH_ready (rs := [7]) qKr (by simp) ?_
     refine AllReadyH.cons rfl (fun K hK => ?_) AllReadyH.nil
     refine step_app rfl (.tmp 11) (.tmp 13) rfl rfl rfl (o4) (l1) (by simp <;> omega) (by first | assumption | (simp; done) | (simp; omega) | omega) ?_
     intro v7 w7 o7 gr7 bl7 eq7
     refine hK.out _ _ trivial (fun hHeld => ?_)
     clear hK K
     try simp only [Act.put, qA1, qA2, qA3, qA4, qA5, qA6]
     have X7 : Ext w w7 := Ext.below (X4) bl7 (Nat.le_refl _)
     have z7 : w.heap.size ≤ w7.heap.size := X7.size
     refine wpAnyH_ready (rs := [11]) qKr (by simp) ?_
     refine AllReadyH.cons rfl (fun K hK => ?_) AllReadyH.nil
     refine step_app rfl (.tmp 14) (.tmp 17) rfl rfl rfl (o7) (by first | exact hd.ext X7 | exact Ints.nil _ w.heap.size _ _ (by omega) (by simp)) (by simp <;> omega) (by first | assumption | (simp; done) | (simp; omega) | omega) ?_
     intro v11 w11 o11 gr11 bl11 eq11
     refine hK.out _ _ trivial (fun hHeld => ?_)
     clear hK K
     try simp only [Act.put, qA1, qA2, qA3, qA4, qA5, qA6]
     have X11 : Ext w w11 := Ext.below X7 bl11 (Nat.le_refl _)
     refine wpAnyH_ready (rs := [12]) qKr (by simp) ?_
     refine AllReadyH.cons rfl (fun K hK => ?_) AllReadyH.nil
     try simp only [Act.put, qA1, qA2, qA3, qA4, qA5, qA6]
     go_simp
     refine hK.out _ _ trivial (fun hHeld => ?_)
     clear hK K
     try simp only [Act.put, qA1, qA2, qA3, qA4, qA5, qA6]
     refine wpAnyH_done qKr ?_ _
     clear hHeld
     go_wp2_with fail
     refine bodyPost_ret (v := v11) (by simp only [results, Try.results98]; go_simp) rfl ?_
     exact PInts.mkz (by first | exact o11.z | (rw [List.drop_eq_nil_of_le hc]; exact o11.z)) (Nat.le_refl _) (by simp <;> omega) X11
   ·
    have hd := hv0
    simp only [List.length_nil, Int.ofNat_zero, Int.natCast_zero, List.take_nil, List.drop_nil] at *
    go_enter Try.func98, Try.ntmps98
    go_wp2_with fail
    refine wp_region_held_drew (S := fun _ => True) qKr trivial (fun hHeld => ?_)
    refine wpAnyH_take (i := 1) (v := ?_) rfl qKr qKr qKr (fun _ _ _ h => h) (Or.inl ⟨by rfl, ?_⟩) (by assumption) ?_
    rotate_left
    ·
     (intro w hSw; (try dsimp only at hSw); go_simp; try with_reducible rfl)
    try simp only [Act.put, qA1, qA2, qA3, qA4, qA5, qA6]
    refine wpAnyH_take (i := 2) (v := ?_) rfl qKr qKr qKr (fun _ _ _ h => h) (Or.inl ⟨by rfl, ?_⟩) (by assumption) ?_
    rotate_left
    ·
     (intro w hSw; (try dsimp only at hSw); go_simp; try with_reducible rfl)
    try simp only [Act.put, qA1, qA2, qA3, qA4, qA5, qA6]
    refine wpAnyH_take (i := 3) (v := ?_) rfl qKr qKr qKr (fun _ _ _ h => h) (Or.inl ⟨by rfl, ?_⟩) (by assumption) ?_
    rotate_left
    ·
     (intro w hSw; (try dsimp only at hSw); go_simp; try with_reducible rfl)
    try simp only [Act.put, qA1, qA2, qA3, qA4, qA5, qA6]
    refine wpAnyH_take (i := 5) (v := ?_) rfl qKr qKr qKr (fun _ _ _ h => h) (Or.inl ⟨by rfl, ?_⟩) (by assumption) ?_
    rotate_left
    ·
     (intro w hSw; (try dsimp only at hSw); go_simp; try with_reducible rfl)
    try simp only [Act.put, qA1, qA2, qA3, qA4, qA5, qA6]
    refine wpAnyH_take (i := 8) (v := ?_) rfl qKr qKr qKr (fun _ _ _ h => h) (Or.inl ⟨by rfl, ?_⟩) (by assumption) ?_
    rotate_left
    ·
     (intro w hSw; (try dsimp only at hSw); go_simp; try with_reducible rfl)
    try simp only [Act.put, qA1, qA2, qA3, qA4, qA5, qA6]
    refine wpAnyH_take (i := 9) (v := ?_) rfl qKr qKr qKr (fun _ _ _ h => h) (Or.inl ⟨by rfl, ?_⟩) (by assumption) ?_
    rotate_left
    ·
     (intro w hSw; (try dsimp only at hSw); go_simp; try with_reducible rfl)
    try simp only [Act.put, qA1, qA2, qA3, qA4, qA5, qA6]
    refine wpAnyH_take (i := 10) (v := ?_) rfl qKr qKr qKr (fun _ _ _ h => h) (Or.inl ⟨by rfl, ?_⟩) (by assumption) ?_
    rotate_left
    ·
     (intro w hSw; (try dsimp only at hSw); go_simp; try with_reducible rfl)
    try simp only [Act.put, qA1, qA2, qA3, qA4, qA5, qA6]
    refine wpAnyH_ready (rs := [0, 6]) qKr (by simp) ?_
    refine AllReadyH.cons rfl (fun K hK => ?_) (AllReadyH.cons rfl (fun K hK => ?_) AllReadyH.nil)
    ·
     skip
     try simp only [Act.put, qA1, qA2, qA3, qA4, qA5, qA6]
     go_simp
     refine hK.out _ _ trivial (fun hHeld => ?_)
     clear hK K
     try simp only [Act.put, qA1, qA2, qA3, qA4, qA5, qA6]
     refine wpAnyH_ready (rs := [4, 6]) qKr (by simp) ?_
     refine AllReadyH.cons rfl (fun K hK => ?_) (AllReadyH.cons rfl (fun K hK => ?_) AllReadyH.nil)
     ·
      skip
      refine step_app rfl (.tmp 7) (.tmp 10) rfl rfl rfl (OwnI.lit0 _ w.heap.size (by simp)) (by first | exact ht.ext qXo | exact Ints.nil _ w.heap.size _ _ (by omega) (by simp)) (by simp <;> omega) (by first | assumption | (simp; done) | (simp; omega) | omega) ?_
      intro v4 w4 o4 gr4 bl4 eq4
      refine hK.out _ _ trivial (fun hHeld => ?_)
      clear hK K
      try simp only [Act.put, qA1, qA2, qA3, qA4, qA5, qA6]
      have X4 : Ext w w4 := Ext.below (show Ext w _ from qXo) bl4 (by simp)
      have z4 : w.heap.size ≤ w4.heap.size := X4.size
      refine wpAnyH_ready (rs := [6]) qKr (by simp) ?_
      refine AllReadyH.cons rfl (fun K hK => ?_) AllReadyH.nil
      try simp only [Act.put, qA1, qA2, qA3, qA4, qA5, qA6]
      go_simp
      refine hK.out _ _ trivial (fun hHeld => ?_)
      clear hK K
      try simp only [Act.put, qA1, qA2, qA3, qA4, qA5, qA6]
      replace o4 := o4.ext (show Ext w4 (w4.alloc (.cells #[.int .i64 x] 3)) from qXo)
      refine wpAnyH_ready (rs := [7]) qKr (by simp) ?_
      refine AllReadyH.cons rfl (fun K hK => ?_) AllReadyH.nil
      refine step_app rfl (.tmp 11) (.tmp 13) rfl rfl rfl (o4) (Ints.one w4 w.heap.size x z4) (by simp <;> omega) (by first | assumption | (simp; done) | (simp; omega) | omega) ?_
      intro v7 w7 o7 gr7 bl7 eq7
      refine hK.out _ _ trivial (fun hHeld => ?_)
      clear hK K
      try simp only [Act.put, qA1, qA2, qA3, qA4, qA5, qA6]
      have X7 : Ext w w7 := Ext.below (X4.trans qXo) bl7 (Nat.le_refl _)
      have z7 : w.heap.size ≤ w7.heap.size := X7.size
      refine wpAnyH_ready (rs := [11]) qKr (by simp) ?_
      refine AllReadyH.cons rfl (fun K hK => ?_) AllReadyH.nil
      refine step_app rfl (.tmp 14) (.tmp 17) rfl rfl rfl (o7) (by first | exact hd.ext X7 | exact Ints.nil _ w.heap.size _ _ (by omega) (by simp)) (by simp <;> omega) (by first | assumption | (simp; done) | (simp; omega) | omega) ?_
      intro v11 w11 o11 gr11 bl11 eq11
      refine hK.out _ _ trivial (fun hHeld => ?_)
      clear hK K
      try simp only [Act.put, qA1, qA2, qA3, qA4, qA5, qA6]
      have X11 : Ext w w11 := Ext.below X7 bl11 (Nat.le_refl _)
      refine wpAnyH_ready (rs := [12]) qKr (by simp) ?_
      refine AllReadyH.cons rfl (fun K hK => ?_) AllReadyH.nil
      try simp only [Act.put, qA1, qA2, qA3, qA4, qA5, qA6]
      go_simp
      refine hK.out _ _ trivial (fun hHeld => ?_)
      clear hK K
      try simp only [Act.put, qA1, qA2, qA3, qA4, qA5, qA6]
      refine wpAnyH_done qKr ?_ _
      clear hHeld
      go_wp2_with fail
      refine bodyPost_ret (v := v11) (by simp only [results, Try.results98]; go_simp) rfl ?_
      exact PInts.mkz (by first | exact o11.z | (rw [List.drop_eq_nil_of_le hc]; exact o11.z)) (Nat.le_refl _) (by simp <;> omega) X11
     ·
      skip
      try simp only [Act.put, qA1, qA2, qA3, qA4, qA5, qA6]
      go_simp
      refine hK.out _ _ trivial (fun hHeld => ?_)
      clear hK K
      try simp only [Act.put, qA1, qA2, qA3, qA4, qA5, qA6]
      refine wpAnyH_ready (rs := [4]) qKr (by simp) ?_
      refine AllReadyH.cons rfl (fun K hK => ?_) AllReadyH.nil
      have l0 : OwnI ((w.drew.alloc (.cells #[] 3)).alloc (.cells #[.int .i64 x] 3)) w.heap.size (.slice (some ⟨w.heap.size, 0, none⟩) 0 0) [] := (OwnI.lit0 w.drew w.heap.size (by simp)).ext ((Ext.refl _).alloc _)
      have l1 : Ints ((w.drew.alloc (.cells #[] 3)).alloc (.cells #[.int .i64 x] 3)) w.heap.size (.slice (some ⟨w.heap.size + 1, 0, none⟩) 1 1) [x] := by simpa using Ints.one (w.drew.alloc (.cells #[] 3)) w.heap.size x (by simp)
      refine step_app rfl (.tmp 7) (.tmp 10) rfl rfl rfl (l0) (by first | exact ht.ext qXo | exact Ints.nil _ w.heap.size _ _ (by omega) (by simp)) (by simp <;> omega) (by first | assumption | (simp; done) | (simp; omega) | omega) ?_
      intro v4 w4 o4 gr4 bl4 eq4
      refine hK.out _ _ trivial (fun hHeld => ?_)
      clear hK K
      try simp only [Act.put, qA1, qA2, qA3, qA4, qA5, qA6]
      have X4 : Ext w w4 := Ext.below (show Ext w _ from qXo) bl4 (by simp)
      have z4 : w.heap.size ≤ w4.heap.size := X4.size
      replace l1 := l1.keepG gr4 (fun b off h _ => by cases h; show (some w.heap.size : Option Nat) ≠ some (w.heap.size + 1); simp)
      refine wpAnyH_ready (rs := [7]) qKr (by simp) ?_
      refine AllReadyH.cons rfl (fun K hK => ?_) AllReadyH.nil
      refine step_app rfl (.tmp 11) (.tmp 13) rfl rfl rfl (o4) (l1) (by simp <;> omega) (by first | assumption | (simp; done) | (simp; omega) | omega) ?_
      intro v7 w7 o7 gr7 bl7 eq7
      refine hK.out _ _ trivial (fun hHeld => ?_)
      clear hK K
      try simp only [Act.put, qA1, qA2, qA3, qA4, qA5, qA6]
      have X7 : Ext w w7 := Ext.below (X4) bl7 (Nat.le_refl _)
      have z7 : w.heap.size ≤ w7.heap.size := X7.size
      refine wpAnyH_ready (rs := [11]) qKr (by simp) ?_
      refine AllReadyH.cons rfl (fun K hK => ?_) AllReadyH.nil
      refine step_app rfl (.tmp 14) (.tmp 17) rfl rfl rfl (o7) (by first | exact hd.ext X7 | exact Ints.nil _ w.heap.size _ _ (by omega) (by simp)) (by simp <;> omega) (by first | assumption | (simp; done) | (simp; omega) | omega) ?_
      intro v11 w11 o11 gr11 bl11 eq11
      refine hK.out _ _ trivial (fun hHeld => ?_)
      clear hK K
      try simp only [Act.put, qA1, qA2, qA3, qA4, qA5, qA6]
      have X11 : Ext w w11 := Ext.below X7 bl11 (Nat.le_refl _)
      refine wpAnyH_ready (rs := [12]) qKr (by simp) ?_
      refine AllReadyH.cons rfl (fun K hK => ?_) AllReadyH.nil
      try simp only [Act.put, qA1, qA2, qA3, qA4, qA5, qA6]
      go_simp
      refine hK.out _ _ trivial (fun hHeld => ?_)
      clear hK K
      try simp only [Act.put, qA1, qA2, qA3, qA4, qA5, qA6]
      refine wpAnyH_done qKr ?_ _
      clear hHeld
      go_wp2_with fail
      refine bodyPost_ret (v := v11) (by simp only [results, Try.results98]; go_simp) rfl ?_
      exact PInts.mkz (by first | exact o11.z | (rw [List.drop_eq_nil_of_le hc]; exact o11.z)) (Nat.le_refl _) (by simp <;> omega) X11
    ·
     skip
     try simp only [Act.put, qA1, qA2, qA3, qA4, qA5, qA6]
     go_simp
     refine hK.out _ _ trivial (fun hHeld => ?_)
     clear hK K
     try simp only [Act.put, qA1, qA2, qA3, qA4, qA5, qA6]
     refine wpAnyH_ready (rs := [0]) qKr (by simp) ?_
     refine AllReadyH.cons rfl (fun K hK => ?_) AllReadyH.nil
     try simp only [Act.put, qA1, qA2, qA3, qA4, qA5, qA6]
     go_simp
     refine hK.out _ _ trivial (fun hHeld => ?_)
     clear hK K
     try simp only [Act.put, qA1, qA2, qA3, qA4, qA5, qA6]
     refine wpAnyH_ready (rs := [4]) qKr (by simp) ?_
     refine AllReadyH.cons rfl (fun K hK => ?_) AllReadyH.nil
     have l0 : OwnI ((w.drew.alloc (.cells #[.int .i64 x] 3)).alloc (.cells #[] 3)) w.heap.size (.slice (some ⟨w.heap.size + 1, 0, none⟩) 0 0) [] := by simpa using (OwnI.lit0 (w.drew.alloc (.cells #[.int .i64 x] 3)) w.heap.size (by simp))
     have l1 : Ints ((w.drew.alloc (.cells #[.int .i64 x] 3)).alloc (.cells #[] 3)) w.heap.size (.slice (some ⟨w.heap.size, 0, none⟩) 1 1) [x] := (Ints.one w.drew w.heap.size x (by simp)).ext ((Ext.refl _).alloc _)
     refine step_app rfl (.tmp 7) (.tmp 10) rfl rfl rfl (l0) (by first | exact ht.ext qXo | exact Ints.nil _ w.heap.size _ _ (by omega) (by simp)) (by simp <;> omega) (by first | assumption | (simp; done) | (simp; omega) | omega) ?_
     intro v4 w4 o4 gr4 bl4 eq4
     refine hK.out _ _ trivial (fun hHeld => ?_)
     clear hK K
     try simp only [Act.put, qA1, qA2, qA3, qA4, qA5, qA6]
     have X4 : Ext w w4 := Ext.below (show Ext w _ from qXo) bl4 (by simp)
     have z4 : w.heap.size ≤ w4.heap.size := X4.size
     replace l1 := l1.keepG gr4 (fun b off h _ => by cases h; show (some (w.heap.size + 1) : Option Nat) ≠ some w.heap.size; simp)
     refine wpAnyH_ready (rs := [7]) qKr (by simp) ?_
     refine AllReadyH.cons rfl (fun K hK => ?_) AllReadyH.nil
     refine step_app rfl (.tmp 11) (.tmp 13) rfl rfl rfl (o4) (l1) (by simp <;> omega) (by first | assumption | (simp; done) | (simp; omega) | omega) ?_
     intro v7 w7 o7 gr7 bl7 eq7
     refine hK.out _ _ trivial (fun hHeld => ?_)
     clear hK K
     try simp only [Act.put, qA1, qA2, qA3, qA4, qA5, qA6]
     have X7 : Ext w w7 := Ext.below (X4) bl7 (Nat.le_refl _)
     have z7 : w.heap.size ≤ w7.heap.size := X7.size
     refine wpAnyH_ready (rs := [11]) qKr (by simp) ?_
     refine AllReadyH.cons rfl (fun K hK => ?_) AllReadyH.nil
     refine step_app rfl (.tmp 14) (.tmp 17) rfl rfl rfl (o7) (by first | exact hd.ext X7 | exact Ints.nil _ w.heap.size _ _ (by omega) (by simp)) (by simp <;> omega) (by first | assumption | (simp; done) | (simp; omega) | omega) ?_
     intro v11 w11 o11 gr11 bl11 eq11
     refine hK.out _ _ trivial (fun hHeld => ?_)
     clear hK K
     try simp only [Act.put, qA1, qA2, qA3, qA4, qA5, qA6]
     have X11 : Ext w w11 := Ext.below X7 bl11 (Nat.le_refl _)
     refine wpAnyH_ready (rs := [12]) qKr (by simp) ?_
     refine AllReadyH.cons rfl (fun K hK => ?_) AllReadyH.nil
     try simp only [Act.put, qA1, qA2, qA3, qA4, qA5, qA6]
     go_simp
     refine hK.out _ _ trivial (fun hHeld => ?_)
     clear hK K
     try simp only [Act.put, qA1, qA2, qA3, qA4, qA5, qA6]
     refine wpAnyH_done qKr ?_ _
     clear hHeld
     go_wp2_with fail
     refine bodyPost_ret (v := v11) (by simp only [results, Try.results98]; go_simp) rfl ?_
     exact PInts.mkz (by first | exact o11.z | (rw [List.drop_eq_nil_of_le hc]; exact o11.z)) (Nat.le_refl _) (by simp <;> omega) X11

end Go.Proofs.Ytonnnjaooifpjaa
