/- Texts of these proofs put together: RsS, SpC, SpS, KitE. No condition. -/
import Derived.Test.YtfbbnbpobojboaaD1RowSplitDim
import Derived.Test.YtfbbnbpobojboaaM1
set_option linter.unusedVariables false
set_option linter.unusedSimpArgs false
/- Walks: Reshape of the program, its answer in rows of its own. -/
namespace Go.Proofs.Ytfbbnbpobojboaa
open Go.RowKit
set_option linter.unusedVariables false
set_option maxRecDepth 100000

set_option maxHeartbeats 6400000 in
theorem reshape_b (b1 : Int) (u1 v1 : Value) (s1 t1 : List Int) (v3 : Value) (u : List Int) (w : World) (l1 m1 : Nat) (h1 : Ints w l1 u1 s1) (k1 : Ints w m1 v1 t1) (l3 : Nat) (h3 : Ints w l3 v3 u) (hv : viewB b1 s1 t1 = true) (hu : shapeB u = true) :
  Calls Try.prog 130 #[.agg #[.int .i64 b1, u1, v1], v3] w (PVB w (rsV b1 s1 t1 u)) := by
 obtain ⟨p0, c0, rfl⟩ := h1.form
 obtain ⟨p1, c1, rfl⟩ := k1.form
 obtain ⟨p2, c2, rfl⟩ := h3.form
 have hcu : u.length ≤ c2 := h3.capLe.1
 have hus := Small.of hu
 have hu4 := hus.1
 have hu60 := Lib.hid hus.2
 replace hus := Lib.hid hus
 replace hv := Lib.hid hv
 replace hu := Lib.hid hu
 go_enter Try.func130, Try.ntmps130
 go_wp2_with fail
 generalize hW1 : (w.alloc (.cells #[.int .i64 b1, .slice p0 s1.length c0, .slice p1 t1.length c1] 36)).alloc (.cells #[.int .i64 0, .slice none 0 0, .slice none 0 0] 36) = w1 at *
 have Lw1 : Ext w w1 := by subst hW1; exact qXt
 have Xw1 : Ext w w1 := by subst hW1; exact Lw1
 have b10 : w1.cell? ⟨w.heap.size, 0, none⟩ = some (.int .i64 b1) := by subst hW1; exact qCl
 have b11 : w1.cell? ⟨w.heap.size, 1, none⟩ = some (.slice p0 s1.length c0) := by subst hW1; exact qCl
 have b12 : w1.cell? ⟨w.heap.size, 2, none⟩ = some (.slice p1 t1.length c1) := by subst hW1; exact qCl
 have b20 : w1.cell? ⟨w.heap.size + 1, 0, none⟩ = some (.int .i64 0) := by subst hW1; exact qCl
 have b21 : w1.cell? ⟨w.heap.size + 1, 1, none⟩ = some (.slice none 0 0) := by subst hW1; exact qCl
 have b22 : w1.cell? ⟨w.heap.size + 1, 2, none⟩ = some (.slice none 0 0) := by subst hW1; exact qCl
 have f_b20 : w1.frozen? ⟨w.heap.size + 1, 0, none⟩ = false := by subst hW1; exact qFz
 have f_b21 : w1.frozen? ⟨w.heap.size + 1, 1, none⟩ = false := by subst hW1; exact qFz
 have f_b22 : w1.frozen? ⟨w.heap.size + 1, 2, none⟩ = false := by subst hW1; exact qFz
 have z_b1 : w.heap.size < w1.heap.size := qB b10
 have z_b2 : w.heap.size + 1 < w1.heap.size := qB b20
 have s_w1 : w.heap.size ≤ w1.heap.size := Xw1.size
 clear hW1
 refine wp_region_tail (S := fun w' => w'.cell? ⟨w.heap.size, 1, none⟩ = some (.slice p0 s1.length c0)) (fun i => decide (6 ≤ i)) qKr b11 (fun hHeld => ?_)
 refine qTk (v := ?_) 0 rfl (.inl ⟨by rfl, ?_⟩) ?_
 rotate_left
 ·
  (intro w hSw; (try dsimp only at hSw); go_simp; try with_reducible rfl)
 try simp only [Act.put, qa, qb, qc, qD, qE, qF]
 refine qTk (v := ?_) 2 rfl (.inl ⟨by rfl, ?_⟩) ?_
 rotate_left
 ·
  (intro w hSw; (try dsimp only at hSw); go_simp; try with_reducible rfl)
 try simp only [Act.put, qa, qb, qc, qD, qE, qF]
 refine qTk (v := ?_) 3 rfl (.inl ⟨by rfl, ?_⟩) ?_
 rotate_left
 ·
  (intro w hSw; (try dsimp only at hSw); go_simp; try with_reducible rfl)
 try simp only [Act.put, qa, qb, qc, qD, qE, qF]
 refine wpTail_one (i := 1) qKr rfl rfl (fun K hK => ?_)
 try simp only [Act.put, qa, qb, qc, qD, qE, qF]
 go_simp
 refine (countOf_c u (.slice p2 u.length c2) _ _ (h3.ext (Xw1.trans qXt))).mono ?_
 rintro e w' ⟨rfl, rfl⟩
 refine hK.out _ _ b11 (fun hHeld => ?_)
 clear hK K
 try simp only [Act.put, qa, qb, qc, qD, qE, qF]
 refine wpTail_one (i := 4) qKr rfl rfl (fun K hK => ?_)
 try simp only [Act.put, qa, qb, qc, qD, qE, qF]
 go_simp
 refine (countOf_c s1 (.slice p0 s1.length c0) _ _ (h1.ext (Xw1.trans qXt))).mono ?_
 rintro e w' ⟨rfl, rfl⟩
 refine hK.out _ _ b11 (fun hHeld => ?_)
 clear hK K
 try simp only [Act.put, qa, qb, qc, qD, qE, qF]
 by_cases hc3 : (countL u : Int) = (countL s1 : Int)
 ·
  have hc3e : ((countL u : Int) == (countL s1 : Int)) = true := by simpa using hc3
  have hc3n : ((countL u : Int) != (countL s1 : Int)) = false := by simpa using hc3
  replace hc3 := Lib.hid hc3
  refine qTk (v := ?_) 5 rfl (.inl ⟨by rfl, ?_⟩) ?_
  rotate_left
  ·
   (intro w hSw; (try dsimp only at hSw); go_simp; try with_reducible rfl)
  try simp only [Act.put, qa, qb, qc, qD, qE, qF]
  refine wpTail_done qKr ?_ _
  clear hHeld 
  go_wp2_with fail
  have Lw2 : Ext w1 (w1.drew) := qXt
  have Xw2 : Ext w (w1.drew) := Xw1.trans Lw2
  replace b10 := Lw2.cell b10
  replace b11 := Lw2.cell b11
  replace b12 := Lw2.cell b12
  replace b20 := Lw2.cell b20
  replace b21 := Lw2.cell b21
  replace b22 := Lw2.cell b22
  replace f_b20 := Lw2.frz z_b2 f_b20
  replace f_b21 := Lw2.frz z_b2 f_b21
  replace f_b22 := Lw2.frz z_b2 f_b22
  have z_b1 : w.heap.size < (w1.drew).heap.size := qB b10
  have z_b2 : w.heap.size + 1 < (w1.drew).heap.size := qB b20
  have s_w2 : w.heap.size ≤ (w1.drew).heap.size := Xw2.size
  generalize w1.drew = w2 at *
  have Q4_b10 := Lib.hid b10
  have Q4_b11 := Lib.hid b11
  have Q4_b12 := Lib.hid b12
  have Q4_zb1 := z_b1
  have Q4_b20 := Lib.hid b20
  have Q4_f_b20 := Lib.hid f_b20
  have Q4_b21 := Lib.hid b21
  have Q4_f_b21 := Lib.hid f_b21
  have Q4_b22 := Lib.hid b22
  have Q4_f_b22 := Lib.hid f_b22
  have Q4_zb2 := z_b2
  have BL5 : Ext w2 w2 := Ext.refl _
  go_cut [6] (fun s6 wx => ∃ (g4 : Nat) (r4 : Nat) (g7 : Nat) (g9 : Nat), s6 = .pointer (some ⟨g9, 0, none⟩) ∧ Ext w2 wx ∧ w2.heap.size ≤ g4 ∧ g4 < wx.heap.size ∧ w2.heap.size ≤ g7 ∧ g7 < wx.heap.size ∧ w2.heap.size ≤ g9 ∧ g9 < wx.heap.size ∧ g4 ≠ g7 ∧ g4 ≠ g9 ∧ g7 ≠ g9 ∧ OwnI wx w2.heap.size (.slice (some ⟨g4, 0, none⟩) u.length r4) u ∧ OwnI wx w2.heap.size (.slice (some ⟨g7, 0, none⟩) u.length u.length) (List.replicate u.length 0) ∧ wx.cell? ⟨g9, 0, none⟩ = some (.int .i64 b1) ∧ wx.frozen? ⟨g9, 0, none⟩ = false ∧ wx.cell? ⟨g9, 1, none⟩ = some (.slice (some ⟨g4, 0, none⟩) u.length r4) ∧ wx.frozen? ⟨g9, 1, none⟩ = false ∧ wx.cell? ⟨g9, 2, none⟩ = some (.slice (some ⟨g7, 0, none⟩) u.length u.length) ∧ wx.frozen? ⟨g9, 2, none⟩ = false)
  case first =>
   have X3 : Ext w2 w2 := Ext.refl _
   refine wp_region_held_drew (S := fun w' => w'.cell? ⟨w.heap.size, 0, none⟩ = some (.int .i64 b1)) qKr b10 (fun hHeld => ?_)
   refine qHk (v := ?_) 0 rfl (.inl ⟨by rfl, ?_⟩) ?_
   rotate_left
   ·
    (intro w hSw; (try dsimp only at hSw); go_simp; try with_reducible rfl)
   try simp only [Act.put, qa, qb, qc, qD, qE, qF]
   refine qHk (v := ?_) 1 rfl (.inl ⟨by rfl, ?_⟩) ?_
   rotate_left
   ·
    (intro w hSw; (try dsimp only at hSw); go_simp; try with_reducible rfl)
   try simp only [Act.put, qa, qb, qc, qD, qE, qF]
   refine qHk (v := ?_) 3 rfl (.inl ⟨by rfl, ?_⟩) ?_
   rotate_left
   ·
    (intro w hSw; (try dsimp only at hSw); go_simp; try with_reducible rfl)
   try simp only [Act.put, qa, qb, qc, qD, qE, qF]
   refine qHk (v := ?_) 5 rfl (.inl ⟨by rfl, ?_⟩) ?_
   rotate_left
   ·
    (intro w hSw; (try dsimp only at hSw); go_simp; try with_reducible rfl)
   try simp only [Act.put, qa, qb, qc, qD, qE, qF]
   refine qHk (v := ?_) 6 rfl (.inl ⟨by rfl, ?_⟩) ?_
   rotate_left
   ·
    (intro w hSw; (try dsimp only at hSw); go_simp; try with_reducible rfl)
   try simp only [Act.put, qa, qb, qc, qD, qE, qF]
   refine wpAnyH_ready (rs := [2, 7, 9]) qKr (by simp) ?_
   refine AllReadyH.cons rfl (fun K hK => ?_) (AllReadyH.cons rfl (fun K hK => ?_) (AllReadyH.cons rfl (fun K hK => ?_) AllReadyH.nil))
   ·
    try simp only [Act.put, qa, qb, qc, qD, qE, qF]
    go_simp
    refine hK.out _ (w2.drew.alloc (.cells #[] 3)) ((show Ext w2 (w2.drew.alloc (.cells #[] 3)) from qXt).cell b10) (fun hHeld => ?_)
    clear hK K
    try simp only [Act.put, qa, qb, qc, qD, qE, qF]
    generalize hW2 : w2.drew.alloc (.cells #[] 3) = w3_1 at *
    have S_w3_1 : w2.heap.size < w3_1.heap.size := by subst hW2; simp
    have hx7 : Ext w2 w3_1 := by subst hW2; exact qXt
    replace X3 := X3.trans hx7
    clear hx7
    have O3_2 : OwnI w3_1 w2.heap.size (.slice (some ⟨w2.heap.size, 0, none⟩) 0 0) [] := by subst hW2; exact OwnI.lit0 _ _ (by simp)
    have Yw3_1 := Ext.refl w3_1
    clear hW2
    refine wpAnyH_ready (rs := [4, 7, 9]) qKr (by simp) ?_
    refine AllReadyH.cons rfl (fun K hK => ?_) (AllReadyH.cons rfl (fun K hK => ?_) (AllReadyH.cons rfl (fun K hK => ?_) AllReadyH.nil))
    ·
     refine step_app0O rfl (.tmp 19) (.tmp 20) rfl rfl rfl (O3_2.ext Yw3_1) (by omega) (by exact ((h3.ext Xw2).ext (show Ext w2 w3_1 from qXt))) ?_
     intro g3_6 r3_7 w3_3 O3_4 x3_5 Eg3_6 Hg3_6
     have S_w3_3 : w3_1.heap.size ≤ w3_3.heap.size := x3_5.size
     replace Yw3_1 := Yw3_1.trans x3_5
     replace X3 := X3.trans x3_5
     have Yw3_3 := Ext.refl w3_3
     clear x3_5
     refine hK.out _ w3_3 ((show Ext w2 w3_3 from qXt).cell b10) (fun hHeld => ?_)
     clear hK K
     try simp only [Act.put, qa, qb, qc, qD, qE, qF]
     refine wpAnyH_ready (rs := [7, 9]) qKr (by simp) ?_
     refine AllReadyH.cons rfl (fun K hK => ?_) (AllReadyH.cons rfl (fun K hK => ?_) AllReadyH.nil)
     ·
      try simp only [Act.put, qa, qb, qc, qD, qE, qF]
      have hmk := mk_ints u.length (by omega)
      go_simp
      refine hK.out _ (w3_3.alloc (.cells (madeCells #[Value.int .i64 0] u.length) 3)) ((show Ext w2 (w3_3.alloc (.cells (madeCells #[Value.int .i64 0] u.length) 3)) from qXt).cell b10) (fun hHeld => ?_)
      clear hK K hmk
      try simp only [Act.put, qa, qb, qc, qD, qE, qF]
      generalize hW3 : w3_3.alloc (.cells (madeCells #[Value.int .i64 0] u.length) 3) = w3_8 at *
      have S_w3_8 : w3_3.heap.size < w3_8.heap.size := by subst hW3; simp
      have hx7 : Ext w3_3 w3_8 := by subst hW3; exact qXt
      replace Yw3_3 := Yw3_3.trans hx7
      replace X3 := X3.trans hx7
      clear hx7
      have O3_9 : OwnI w3_8 w3_3.heap.size (.slice (some ⟨w3_3.heap.size, 0, none⟩) u.length u.length) (List.replicate u.length 0) := by subst hW3; exact OwnI.made _ _ _ (by simp) (by omega)
      have Yw3_8 := Ext.refl w3_8
      clear hW3
      refine qHk (v := ?_) 8 rfl (.inl ⟨by rfl, ?_⟩) ?_
      rotate_left
      ·
       (intro w hSw; (try dsimp only at hSw); go_simp; try with_reducible rfl)
      try simp only [Act.put, qa, qb, qc, qD, qE, qF]
      refine qHr 9 rfl (fun K hK => ?_)
      try simp only [Act.put, qa, qb, qc, qD, qE, qF]
      go_simp
      refine hK.out _ (w3_8.alloc (.cells #[.int .i64 0, .slice none 0 0, .slice none 0 0] 36)) ((show Ext w2 (w3_8.alloc (.cells #[.int .i64 0, .slice none 0 0, .slice none 0 0] 36)) from qXt).cell b10) (fun hHeld => ?_)
      clear hK K
      try simp only [Act.put, qa, qb, qc, qD, qE, qF]
      generalize hW4 : w3_8.alloc (.cells #[.int .i64 0, .slice none 0 0, .slice none 0 0] 36) = w3_10 at *
      have S_w3_10 : w3_8.heap.size < w3_10.heap.size := by subst hW4; simp
      have hx7 : Ext w3_8 w3_10 := by subst hW4; exact qXt
      replace Yw3_3 := Yw3_3.trans hx7
      replace Yw3_8 := Yw3_8.trans hx7
      replace X3 := X3.trans hx7
      clear hx7
      have b3_110 : w3_10.cell? ⟨w3_8.heap.size, 0, none⟩ = some (.int .i64 0) := by subst hW4; exact qCl
      have f_b3_110 : w3_10.frozen? ⟨w3_8.heap.size, 0, none⟩ = false := by subst hW4; exact qFz
      have b3_111 : w3_10.cell? ⟨w3_8.heap.size, 1, none⟩ = some (.slice none 0 0) := by subst hW4; exact qCl
      have f_b3_111 : w3_10.frozen? ⟨w3_8.heap.size, 1, none⟩ = false := by subst hW4; exact qFz
      have b3_112 : w3_10.cell? ⟨w3_8.heap.size, 2, none⟩ = some (.slice none 0 0) := by subst hW4; exact qCl
      have f_b3_112 : w3_10.frozen? ⟨w3_8.heap.size, 2, none⟩ = false := by subst hW4; exact qFz
      have z_b3_11 : w3_8.heap.size < w3_10.heap.size := by subst hW4; exact S_w3_10
      have Yw3_10 := Ext.refl w3_10
      clear hW4
      refine qHr 10 rfl (fun K hK => ?_)
      try simp only [Act.put, qa, qb, qc, qD, qE, qF]
      replace b3_110 := Yw3_10.cell b3_110
      replace b3_111 := Yw3_10.cell b3_111
      replace b3_112 := Yw3_10.cell b3_112
      replace f_b3_110 := Yw3_10.frz z_b3_11 f_b3_110
      replace f_b3_111 := Yw3_10.frz z_b3_11 f_b3_111
      replace f_b3_112 := Yw3_10.frz z_b3_11 f_b3_112
      go_simp
      have zz := X3.size
      have K3 : Chg w3_8.heap.size (w3_8.heap.size + 1) w3_10 (((w3_10.setCell ⟨w3_8.heap.size, 0, none⟩ (.int .i64 b1)).setCell ⟨w3_8.heap.size, 1, none⟩ (.slice (some ⟨g3_6, 0, none⟩) u.length r3_7)).setCell ⟨w3_8.heap.size, 2, none⟩ (.slice (some ⟨w3_3.heap.size, 0, none⟩) u.length u.length)) := (Chg.setCell (p := ⟨w3_8.heap.size, 2, none⟩) (Chg.setCell (p := ⟨w3_8.heap.size, 1, none⟩) (Chg.setCell (p := ⟨w3_8.heap.size, 0, none⟩) (Chg.refl w3_8.heap.size (w3_8.heap.size + 1) w3_10) (Nat.le_refl _) (Nat.lt_succ_self _) _) (Nat.le_refl _) (Nat.lt_succ_self _) _) (Nat.le_refl _) (Nat.lt_succ_self _) _)
      have n_b3_110 : (((w3_10.setCell ⟨w3_8.heap.size, 0, none⟩ (.int .i64 b1)).setCell ⟨w3_8.heap.size, 1, none⟩ (.slice (some ⟨g3_6, 0, none⟩) u.length r3_7)).setCell ⟨w3_8.heap.size, 2, none⟩ (.slice (some ⟨w3_3.heap.size, 0, none⟩) u.length u.length)).cell? ⟨w3_8.heap.size, 0, none⟩ = some (.int .i64 b1) := by go_simp
      replace f_b3_110 : (((w3_10.setCell ⟨w3_8.heap.size, 0, none⟩ (.int .i64 b1)).setCell ⟨w3_8.heap.size, 1, none⟩ (.slice (some ⟨g3_6, 0, none⟩) u.length r3_7)).setCell ⟨w3_8.heap.size, 2, none⟩ (.slice (some ⟨w3_3.heap.size, 0, none⟩) u.length u.length)).frozen? ⟨w3_8.heap.size, 0, none⟩ = false := by go_simp
      have n_b3_111 : (((w3_10.setCell ⟨w3_8.heap.size, 0, none⟩ (.int .i64 b1)).setCell ⟨w3_8.heap.size, 1, none⟩ (.slice (some ⟨g3_6, 0, none⟩) u.length r3_7)).setCell ⟨w3_8.heap.size, 2, none⟩ (.slice (some ⟨w3_3.heap.size, 0, none⟩) u.length u.length)).cell? ⟨w3_8.heap.size, 1, none⟩ = some (.slice (some ⟨g3_6, 0, none⟩) u.length r3_7) := by go_simp
      replace f_b3_111 : (((w3_10.setCell ⟨w3_8.heap.size, 0, none⟩ (.int .i64 b1)).setCell ⟨w3_8.heap.size, 1, none⟩ (.slice (some ⟨g3_6, 0, none⟩) u.length r3_7)).setCell ⟨w3_8.heap.size, 2, none⟩ (.slice (some ⟨w3_3.heap.size, 0, none⟩) u.length u.length)).frozen? ⟨w3_8.heap.size, 1, none⟩ = false := by go_simp
      have n_b3_112 : (((w3_10.setCell ⟨w3_8.heap.size, 0, none⟩ (.int .i64 b1)).setCell ⟨w3_8.heap.size, 1, none⟩ (.slice (some ⟨g3_6, 0, none⟩) u.length r3_7)).setCell ⟨w3_8.heap.size, 2, none⟩ (.slice (some ⟨w3_3.heap.size, 0, none⟩) u.length u.length)).cell? ⟨w3_8.heap.size, 2, none⟩ = some (.slice (some ⟨w3_3.heap.size, 0, none⟩) u.length u.length) := by go_simp
      replace f_b3_112 : (((w3_10.setCell ⟨w3_8.heap.size, 0, none⟩ (.int .i64 b1)).setCell ⟨w3_8.heap.size, 1, none⟩ (.slice (some ⟨g3_6, 0, none⟩) u.length r3_7)).setCell ⟨w3_8.heap.size, 2, none⟩ (.slice (some ⟨w3_3.heap.size, 0, none⟩) u.length u.length)).frozen? ⟨w3_8.heap.size, 2, none⟩ = false := by go_simp
      replace b3_110 := n_b3_110
      clear n_b3_110
      replace b3_111 := n_b3_111
      clear n_b3_111
      replace b3_112 := n_b3_112
      clear n_b3_112
      replace O3_4 := (O3_4.ext Yw3_3).chgN K3 (by omega)
      replace O3_9 := (O3_9.ext Yw3_8).chgN K3 (by omega)
      replace X3 : Ext w2 (((w3_10.setCell ⟨w3_8.heap.size, 0, none⟩ (.int .i64 b1)).setCell ⟨w3_8.heap.size, 1, none⟩ (.slice (some ⟨g3_6, 0, none⟩) u.length r3_7)).setCell ⟨w3_8.heap.size, 2, none⟩ (.slice (some ⟨w3_3.heap.size, 0, none⟩) u.length u.length)) := (Ext.setCell (p := ⟨w3_8.heap.size, 2, none⟩) (Ext.setCell (p := ⟨w3_8.heap.size, 1, none⟩) (Ext.setCell (p := ⟨w3_8.heap.size, 0, none⟩) X3 (by dsimp only; omega) _) (by dsimp only; omega) _) (by dsimp only; omega) _)
      clear zz K3
      have S_st : w3_10.heap.size ≤ (((w3_10.setCell ⟨w3_8.heap.size, 0, none⟩ (.int .i64 b1)).setCell ⟨w3_8.heap.size, 1, none⟩ (.slice (some ⟨g3_6, 0, none⟩) u.length r3_7)).setCell ⟨w3_8.heap.size, 2, none⟩ (.slice (some ⟨w3_3.heap.size, 0, none⟩) u.length u.length)).heap.size := by simp
      refine hK.out _ ((((w3_10.setCell ⟨w3_8.heap.size, 0, none⟩ (.int .i64 b1)).setCell ⟨w3_8.heap.size, 1, none⟩ (.slice (some ⟨g3_6, 0, none⟩) u.length r3_7)).setCell ⟨w3_8.heap.size, 2, none⟩ (.slice (some ⟨w3_3.heap.size, 0, none⟩) u.length u.length))) ((show Ext w2 ((((w3_10.setCell ⟨w3_8.heap.size, 0, none⟩ (.int .i64 b1)).setCell ⟨w3_8.heap.size, 1, none⟩ (.slice (some ⟨g3_6, 0, none⟩) u.length r3_7)).setCell ⟨w3_8.heap.size, 2, none⟩ (.slice (some ⟨w3_3.heap.size, 0, none⟩) u.length u.length))) from qXt).cell b10) (fun hHeld => ?_)
      clear hK K
      try simp only [Act.put, qa, qb, qc, qD, qE, qF]
      refine wpAnyH_done qKr ?_ _
      clear hHeld
      have zz := X3.size
      go_step
      go_step
      go_meet
      case rel => exact ⟨g3_6, r3_7, w3_3.heap.size, w3_8.heap.size, rfl, X3, (by omega), (by omega), (by omega), (by omega), (by omega), (by omega), (by omega), (by omega), (by omega), (O3_4).lower (by omega), (O3_9).lower (by omega), b3_110, f_b3_110, b3_111, f_b3_111, b3_112, f_b3_112⟩
     ·
      try simp only [Act.put, qa, qb, qc, qD, qE, qF]
      go_simp
      refine hK.out _ (w3_3.alloc (.cells #[.int .i64 0, .slice none 0 0, .slice none 0 0] 36)) ((show Ext w2 (w3_3.alloc (.cells #[.int .i64 0, .slice none 0 0, .slice none 0 0] 36)) from qXt).cell b10) (fun hHeld => ?_)
      clear hK K
      try simp only [Act.put, qa, qb, qc, qD, qE, qF]
      generalize hW5 : w3_3.alloc (.cells #[.int .i64 0, .slice none 0 0, .slice none 0 0] 36) = w3_12 at *
      have S_w3_12 : w3_3.heap.size < w3_12.heap.size := by subst hW5; simp
      have hx7 : Ext w3_3 w3_12 := by subst hW5; exact qXt
      replace Yw3_3 := Yw3_3.trans hx7
      replace X3 := X3.trans hx7
      clear hx7
      have b3_130 : w3_12.cell? ⟨w3_3.heap.size, 0, none⟩ = some (.int .i64 0) := by subst hW5; exact qCl
      have f_b3_130 : w3_12.frozen? ⟨w3_3.heap.size, 0, none⟩ = false := by subst hW5; exact qFz
      have b3_131 : w3_12.cell? ⟨w3_3.heap.size, 1, none⟩ = some (.slice none 0 0) := by subst hW5; exact qCl
      have f_b3_131 : w3_12.frozen? ⟨w3_3.heap.size, 1, none⟩ = false := by subst hW5; exact qFz
      have b3_132 : w3_12.cell? ⟨w3_3.heap.size, 2, none⟩ = some (.slice none 0 0) := by subst hW5; exact qCl
      have f_b3_132 : w3_12.frozen? ⟨w3_3.heap.size, 2, none⟩ = false := by subst hW5; exact qFz
      have z_b3_13 : w3_3.heap.size < w3_12.heap.size := by subst hW5; exact S_w3_12
      have Yw3_12 := Ext.refl w3_12
      clear hW5
      refine qHr 7 rfl (fun K hK => ?_)
      try simp only [Act.put, qa, qb, qc, qD, qE, qF]
      have hmk := mk_ints u.length (by omega)
      go_simp
      refine hK.out _ (w3_12.alloc (.cells (madeCells #[Value.int .i64 0] u.length) 3)) ((show Ext w2 (w3_12.alloc (.cells (madeCells #[Value.int .i64 0] u.length) 3)) from qXt).cell b10) (fun hHeld => ?_)
      clear hK K hmk
      try simp only [Act.put, qa, qb, qc, qD, qE, qF]
      generalize hW6 : w3_12.alloc (.cells (madeCells #[Value.int .i64 0] u.length) 3) = w3_14 at *
      have S_w3_14 : w3_12.heap.size < w3_14.heap.size := by subst hW6; simp
      have hx7 : Ext w3_12 w3_14 := by subst hW6; exact qXt
      replace Yw3_3 := Yw3_3.trans hx7
      replace Yw3_12 := Yw3_12.trans hx7
      replace X3 := X3.trans hx7
      clear hx7
      have O3_15 : OwnI w3_14 w3_12.heap.size (.slice (some ⟨w3_12.heap.size, 0, none⟩) u.length u.length) (List.replicate u.length 0) := by subst hW6; exact OwnI.made _ _ _ (by simp) (by omega)
      have Yw3_14 := Ext.refl w3_14
      clear hW6
      refine qHk (v := ?_) 8 rfl (.inl ⟨by rfl, ?_⟩) ?_
      rotate_left
      ·
       (intro w hSw; (try dsimp only at hSw); go_simp; try with_reducible rfl)
      try simp only [Act.put, qa, qb, qc, qD, qE, qF]
      refine qHr 10 rfl (fun K hK => ?_)
      try simp only [Act.put, qa, qb, qc, qD, qE, qF]
      replace b3_130 := Yw3_12.cell b3_130
      replace b3_131 := Yw3_12.cell b3_131
      replace b3_132 := Yw3_12.cell b3_132
      replace f_b3_130 := Yw3_12.frz z_b3_13 f_b3_130
      replace f_b3_131 := Yw3_12.frz z_b3_13 f_b3_131
      replace f_b3_132 := Yw3_12.frz z_b3_13 f_b3_132
      go_simp
      have zz := X3.size
      have K3 : Chg w3_3.heap.size (w3_3.heap.size + 1) w3_14 (((w3_14.setCell ⟨w3_3.heap.size, 0, none⟩ (.int .i64 b1)).setCell ⟨w3_3.heap.size, 1, none⟩ (.slice (some ⟨g3_6, 0, none⟩) u.length r3_7)).setCell ⟨w3_3.heap.size, 2, none⟩ (.slice (some ⟨w3_12.heap.size, 0, none⟩) u.length u.length)) := (Chg.setCell (p := ⟨w3_3.heap.size, 2, none⟩) (Chg.setCell (p := ⟨w3_3.heap.size, 1, none⟩) (Chg.setCell (p := ⟨w3_3.heap.size, 0, none⟩) (Chg.refl w3_3.heap.size (w3_3.heap.size + 1) w3_14) (Nat.le_refl _) (Nat.lt_succ_self _) _) (Nat.le_refl _) (Nat.lt_succ_self _) _) (Nat.le_refl _) (Nat.lt_succ_self _) _)
      have n_b3_130 : (((w3_14.setCell ⟨w3_3.heap.size, 0, none⟩ (.int .i64 b1)).setCell ⟨w3_3.heap.size, 1, none⟩ (.slice (some ⟨g3_6, 0, none⟩) u.length r3_7)).setCell ⟨w3_3.heap.size, 2, none⟩ (.slice (some ⟨w3_12.heap.size, 0, none⟩) u.length u.length)).cell? ⟨w3_3.heap.size, 0, none⟩ = some (.int .i64 b1) := by go_simp
      replace f_b3_130 : (((w3_14.setCell ⟨w3_3.heap.size, 0, none⟩ (.int .i64 b1)).setCell ⟨w3_3.heap.size, 1, none⟩ (.slice (some ⟨g3_6, 0, none⟩) u.length r3_7)).setCell ⟨w3_3.heap.size, 2, none⟩ (.slice (some ⟨w3_12.heap.size, 0, none⟩) u.length u.length)).frozen? ⟨w3_3.heap.size, 0, none⟩ = false := by go_simp
      have n_b3_131 : (((w3_14.setCell ⟨w3_3.heap.size, 0, none⟩ (.int .i64 b1)).setCell ⟨w3_3.heap.size, 1, none⟩ (.slice (some ⟨g3_6, 0, none⟩) u.length r3_7)).setCell ⟨w3_3.heap.size, 2, none⟩ (.slice (some ⟨w3_12.heap.size, 0, none⟩) u.length u.length)).cell? ⟨w3_3.heap.size, 1, none⟩ = some (.slice (some ⟨g3_6, 0, none⟩) u.length r3_7) := by go_simp
      replace f_b3_131 : (((w3_14.setCell ⟨w3_3.heap.size, 0, none⟩ (.int .i64 b1)).setCell ⟨w3_3.heap.size, 1, none⟩ (.slice (some ⟨g3_6, 0, none⟩) u.length r3_7)).setCell ⟨w3_3.heap.size, 2, none⟩ (.slice (some ⟨w3_12.heap.size, 0, none⟩) u.length u.length)).frozen? ⟨w3_3.heap.size, 1, none⟩ = false := by go_simp
      have n_b3_132 : (((w3_14.setCell ⟨w3_3.heap.size, 0, none⟩ (.int .i64 b1)).setCell ⟨w3_3.heap.size, 1, none⟩ (.slice (some ⟨g3_6, 0, none⟩) u.length r3_7)).setCell ⟨w3_3.heap.size, 2, none⟩ (.slice (some ⟨w3_12.heap.size, 0, none⟩) u.length u.length)).cell? ⟨w3_3.heap.size, 2, none⟩ = some (.slice (some ⟨w3_12.heap.size, 0, none⟩) u.length u.length) := by go_simp
      replace f_b3_132 : (((w3_14.setCell ⟨w3_3.heap.size, 0, none⟩ (.int .i64 b1)).setCell ⟨w3_3.heap.size, 1, none⟩ (.slice (some ⟨g3_6, 0, none⟩) u.length r3_7)).setCell ⟨w3_3.heap.size, 2, none⟩ (.slice (some ⟨w3_12.heap.size, 0, none⟩) u.length u.length)).frozen? ⟨w3_3.heap.size, 2, none⟩ = false := by go_simp
      replace b3_130 := n_b3_130
      clear n_b3_130
      replace b3_131 := n_b3_131
      clear n_b3_131
      replace b3_132 := n_b3_132
      clear n_b3_132
      replace O3_4 := (O3_4.ext Yw3_3).chgN K3 (by omega)
      replace O3_15 := (O3_15.ext Yw3_14).chgN K3 (by omega)
      replace X3 : Ext w2 (((w3_14.setCell ⟨w3_3.heap.size, 0, none⟩ (.int .i64 b1)).setCell ⟨w3_3.heap.size, 1, none⟩ (.slice (some ⟨g3_6, 0, none⟩) u.length r3_7)).setCell ⟨w3_3.heap.size, 2, none⟩ (.slice (some ⟨w3_12.heap.size, 0, none⟩) u.length u.length)) := (Ext.setCell (p := ⟨w3_3.heap.size, 2, none⟩) (Ext.setCell (p := ⟨w3_3.heap.size, 1, none⟩) (Ext.setCell (p := ⟨w3_3.heap.size, 0, none⟩) X3 (by dsimp only; omega) _) (by dsimp only; omega) _) (by dsimp only; omega) _)
      clear zz K3
      have S_st : w3_14.heap.size ≤ (((w3_14.setCell ⟨w3_3.heap.size, 0, none⟩ (.int .i64 b1)).setCell ⟨w3_3.heap.size, 1, none⟩ (.slice (some ⟨g3_6, 0, none⟩) u.length r3_7)).setCell ⟨w3_3.heap.size, 2, none⟩ (.slice (some ⟨w3_12.heap.size, 0, none⟩) u.length u.length)).heap.size := by simp
      refine hK.out _ ((((w3_14.setCell ⟨w3_3.heap.size, 0, none⟩ (.int .i64 b1)).setCell ⟨w3_3.heap.size, 1, none⟩ (.slice (some ⟨g3_6, 0, none⟩) u.length r3_7)).setCell ⟨w3_3.heap.size, 2, none⟩ (.slice (some ⟨w3_12.heap.size, 0, none⟩) u.length u.length))) ((show Ext w2 ((((w3_14.setCell ⟨w3_3.heap.size, 0, none⟩ (.int .i64 b1)).setCell ⟨w3_3.heap.size, 1, none⟩ (.slice (some ⟨g3_6, 0, none⟩) u.length r3_7)).setCell ⟨w3_3.heap.size, 2, none⟩ (.slice (some ⟨w3_12.heap.size, 0, none⟩) u.length u.length))) from qXt).cell b10) (fun hHeld => ?_)
      clear hK K
      try simp only [Act.put, qa, qb, qc, qD, qE, qF]
      refine wpAnyH_done qKr ?_ _
      clear hHeld
      have zz := X3.size
      go_step
      go_step
      go_meet
      case rel => exact ⟨g3_6, r3_7, w3_12.heap.size, w3_3.heap.size, rfl, X3, (by omega), (by omega), (by omega), (by omega), (by omega), (by omega), (by omega), (by omega), (by omega), (O3_4).lower (by omega), (O3_15).lower (by omega), b3_130, f_b3_130, b3_131, f_b3_131, b3_132, f_b3_132⟩
    ·
     try simp only [Act.put, qa, qb, qc, qD, qE, qF]
     have hmk := mk_ints u.length (by omega)
     go_simp
     refine hK.out _ (w3_1.alloc (.cells (madeCells #[Value.int .i64 0] u.length) 3)) ((show Ext w2 (w3_1.alloc (.cells (madeCells #[Value.int .i64 0] u.length) 3)) from qXt).cell b10) (fun hHeld => ?_)
     clear hK K hmk
     try simp only [Act.put, qa, qb, qc, qD, qE, qF]
     generalize hW7 : w3_1.alloc (.cells (madeCells #[Value.int .i64 0] u.length) 3) = w3_16 at *
     have S_w3_16 : w3_1.heap.size < w3_16.heap.size := by subst hW7; simp
     have hx7 : Ext w3_1 w3_16 := by subst hW7; exact qXt
     replace Yw3_1 := Yw3_1.trans hx7
     replace X3 := X3.trans hx7
     clear hx7
     have O3_17 : OwnI w3_16 w3_1.heap.size (.slice (some ⟨w3_1.heap.size, 0, none⟩) u.length u.length) (List.replicate u.length 0) := by subst hW7; exact OwnI.made _ _ _ (by simp) (by omega)
     have Yw3_16 := Ext.refl w3_16
     clear hW7
     refine wpAnyH_ready (rs := [4, 9]) qKr (by simp) ?_
     refine AllReadyH.cons rfl (fun K hK => ?_) (AllReadyH.cons rfl (fun K hK => ?_) AllReadyH.nil)
     ·
      refine step_app0O rfl (.tmp 19) (.tmp 20) rfl rfl rfl (O3_2.ext Yw3_1) (by omega) (by exact ((h3.ext Xw2).ext (show Ext w2 w3_16 from qXt))) ?_
      intro g3_21 r3_22 w3_18 O3_19 x3_20 Eg3_21 Hg3_21
      have S_w3_18 : w3_16.heap.size ≤ w3_18.heap.size := x3_20.size
      replace Yw3_1 := Yw3_1.trans x3_20
      replace Yw3_16 := Yw3_16.trans x3_20
      replace X3 := X3.trans x3_20
      have Yw3_18 := Ext.refl w3_18
      clear x3_20
      refine hK.out _ w3_18 ((show Ext w2 w3_18 from qXt).cell b10) (fun hHeld => ?_)
      clear hK K
      try simp only [Act.put, qa, qb, qc, qD, qE, qF]
      refine qHk (v := ?_) 8 rfl (.inl ⟨by rfl, ?_⟩) ?_
      rotate_left
      ·
       (intro w hSw; (try dsimp only at hSw); go_simp; try with_reducible rfl)
      try simp only [Act.put, qa, qb, qc, qD, qE, qF]
      refine qHr 9 rfl (fun K hK => ?_)
      try simp only [Act.put, qa, qb, qc, qD, qE, qF]
      go_simp
      refine hK.out _ (w3_18.alloc (.cells #[.int .i64 0, .slice none 0 0, .slice none 0 0] 36)) ((show Ext w2 (w3_18.alloc (.cells #[.int .i64 0, .slice none 0 0, .slice none 0 0] 36)) from qXt).cell b10) (fun hHeld => ?_)
      clear hK K
      try simp only [Act.put, qa, qb, qc, qD, qE, qF]
      generalize hW8 : w3_18.alloc (.cells #[.int .i64 0, .slice none 0 0, .slice none 0 0] 36) = w3_23 at *
      have S_w3_23 : w3_18.heap.size < w3_23.heap.size := by subst hW8; simp
      have hx7 : Ext w3_18 w3_23 := by subst hW8; exact qXt
      replace Yw3_16 := Yw3_16.trans hx7
      replace Yw3_18 := Yw3_18.trans hx7
      replace X3 := X3.trans hx7
      clear hx7
      have b3_240 : w3_23.cell? ⟨w3_18.heap.size, 0, none⟩ = some (.int .i64 0) := by subst hW8; exact qCl
      have f_b3_240 : w3_23.frozen? ⟨w3_18.heap.size, 0, none⟩ = false := by subst hW8; exact qFz
      have b3_241 : w3_23.cell? ⟨w3_18.heap.size, 1, none⟩ = some (.slice none 0 0) := by subst hW8; exact qCl
      have f_b3_241 : w3_23.frozen? ⟨w3_18.heap.size, 1, none⟩ = false := by subst hW8; exact qFz
      have b3_242 : w3_23.cell? ⟨w3_18.heap.size, 2, none⟩ = some (.slice none 0 0) := by subst hW8; exact qCl
      have f_b3_242 : w3_23.frozen? ⟨w3_18.heap.size, 2, none⟩ = false := by subst hW8; exact qFz
      have z_b3_24 : w3_18.heap.size < w3_23.heap.size := by subst hW8; exact S_w3_23
      have Yw3_23 := Ext.refl w3_23
      clear hW8
      refine qHr 10 rfl (fun K hK => ?_)
      try simp only [Act.put, qa, qb, qc, qD, qE, qF]
      replace b3_240 := Yw3_23.cell b3_240
      replace b3_241 := Yw3_23.cell b3_241
      replace b3_242 := Yw3_23.cell b3_242
      replace f_b3_240 := Yw3_23.frz z_b3_24 f_b3_240
      replace f_b3_241 := Yw3_23.frz z_b3_24 f_b3_241
      replace f_b3_242 := Yw3_23.frz z_b3_24 f_b3_242
      go_simp
      have zz := X3.size
      have K3 : Chg w3_18.heap.size (w3_18.heap.size + 1) w3_23 (((w3_23.setCell ⟨w3_18.heap.size, 0, none⟩ (.int .i64 b1)).setCell ⟨w3_18.heap.size, 1, none⟩ (.slice (some ⟨g3_21, 0, none⟩) u.length r3_22)).setCell ⟨w3_18.heap.size, 2, none⟩ (.slice (some ⟨w3_1.heap.size, 0, none⟩) u.length u.length)) := (Chg.setCell (p := ⟨w3_18.heap.size, 2, none⟩) (Chg.setCell (p := ⟨w3_18.heap.size, 1, none⟩) (Chg.setCell (p := ⟨w3_18.heap.size, 0, none⟩) (Chg.refl w3_18.heap.size (w3_18.heap.size + 1) w3_23) (Nat.le_refl _) (Nat.lt_succ_self _) _) (Nat.le_refl _) (Nat.lt_succ_self _) _) (Nat.le_refl _) (Nat.lt_succ_self _) _)
      have n_b3_240 : (((w3_23.setCell ⟨w3_18.heap.size, 0, none⟩ (.int .i64 b1)).setCell ⟨w3_18.heap.size, 1, none⟩ (.slice (some ⟨g3_21, 0, none⟩) u.length r3_22)).setCell ⟨w3_18.heap.size, 2, none⟩ (.slice (some ⟨w3_1.heap.size, 0, none⟩) u.length u.length)).cell? ⟨w3_18.heap.size, 0, none⟩ = some (.int .i64 b1) := by go_simp
      replace f_b3_240 : (((w3_23.setCell ⟨w3_18.heap.size, 0, none⟩ (.int .i64 b1)).setCell ⟨w3_18.heap.size, 1, none⟩ (.slice (some ⟨g3_21, 0, none⟩) u.length r3_22)).setCell ⟨w3_18.heap.size, 2, none⟩ (.slice (some ⟨w3_1.heap.size, 0, none⟩) u.length u.length)).frozen? ⟨w3_18.heap.size, 0, none⟩ = false := by go_simp
      have n_b3_241 : (((w3_23.setCell ⟨w3_18.heap.size, 0, none⟩ (.int .i64 b1)).setCell ⟨w3_18.heap.size, 1, none⟩ (.slice (some ⟨g3_21, 0, none⟩) u.length r3_22)).setCell ⟨w3_18.heap.size, 2, none⟩ (.slice (some ⟨w3_1.heap.size, 0, none⟩) u.length u.length)).cell? ⟨w3_18.heap.size, 1, none⟩ = some (.slice (some ⟨g3_21, 0, none⟩) u.length r3_22) := by go_simp
      replace f_b3_241 : (((w3_23.setCell ⟨w3_18.heap.size, 0, none⟩ (.int .i64 b1)).setCell ⟨w3_18.heap.size, 1, none⟩ (.slice (some ⟨g3_21, 0, none⟩) u.length r3_22)).setCell ⟨w3_18.heap.size, 2, none⟩ (.slice (some ⟨w3_1.heap.size, 0, none⟩) u.length u.length)).frozen? ⟨w3_18.heap.size, 1, none⟩ = false := by go_simp
      have n_b3_242 : (((w3_23.setCell ⟨w3_18.heap.size, 0, none⟩ (.int .i64 b1)).setCell ⟨w3_18.heap.size, 1, none⟩ (.slice (some ⟨g3_21, 0, none⟩) u.length r3_22)).setCell ⟨w3_18.heap.size, 2, none⟩ (.slice (some ⟨w3_1.heap.size, 0, none⟩) u.length u.length)).cell? ⟨w3_18.heap.size, 2, none⟩ = some (.slice (some ⟨w3_1.heap.size, 0, none⟩) u.length u.length) := by go_simp
      replace f_b3_242 : (((w3_23.setCell ⟨w3_18.heap.size, 0, none⟩ (.int .i64 b1)).setCell ⟨w3_18.heap.size, 1, none⟩ (.slice (some ⟨g3_21, 0, none⟩) u.length r3_22)).setCell ⟨w3_18.heap.size, 2, none⟩ (.slice (some ⟨w3_1.heap.size, 0, none⟩) u.length u.length)).frozen? ⟨w3_18.heap.size, 2, none⟩ = false := by go_simp
      replace b3_240 := n_b3_240
      clear n_b3_240
      replace b3_241 := n_b3_241
      clear n_b3_241
      replace b3_242 := n_b3_242
      clear n_b3_242
      replace O3_17 := (O3_17.ext Yw3_16).chgN K3 (by omega)
      replace O3_19 := (O3_19.ext Yw3_18).chgN K3 (by omega)
      replace X3 : Ext w2 (((w3_23.setCell ⟨w3_18.heap.size, 0, none⟩ (.int .i64 b1)).setCell ⟨w3_18.heap.size, 1, none⟩ (.slice (some ⟨g3_21, 0, none⟩) u.length r3_22)).setCell ⟨w3_18.heap.size, 2, none⟩ (.slice (some ⟨w3_1.heap.size, 0, none⟩) u.length u.length)) := (Ext.setCell (p := ⟨w3_18.heap.size, 2, none⟩) (Ext.setCell (p := ⟨w3_18.heap.size, 1, none⟩) (Ext.setCell (p := ⟨w3_18.heap.size, 0, none⟩) X3 (by dsimp only; omega) _) (by dsimp only; omega) _) (by dsimp only; omega) _)
      clear zz K3
      have S_st : w3_23.heap.size ≤ (((w3_23.setCell ⟨w3_18.heap.size, 0, none⟩ (.int .i64 b1)).setCell ⟨w3_18.heap.size, 1, none⟩ (.slice (some ⟨g3_21, 0, none⟩) u.length r3_22)).setCell ⟨w3_18.heap.size, 2, none⟩ (.slice (some ⟨w3_1.heap.size, 0, none⟩) u.length u.length)).heap.size := by simp
      refine hK.out _ ((((w3_23.setCell ⟨w3_18.heap.size, 0, none⟩ (.int .i64 b1)).setCell ⟨w3_18.heap.size, 1, none⟩ (.slice (some ⟨g3_21, 0, none⟩) u.length r3_22)).setCell ⟨w3_18.heap.size, 2, none⟩ (.slice (some ⟨w3_1.heap.size, 0, none⟩) u.length u.length))) ((show Ext w2 ((((w3_23.setCell ⟨w3_18.heap.size, 0, none⟩ (.int .i64 b1)).setCell ⟨w3_18.heap.size, 1, none⟩ (.slice (some ⟨g3_21, 0, none⟩) u.length r3_22)).setCell ⟨w3_18.heap.size, 2, none⟩ (.slice (some ⟨w3_1.heap.size, 0, none⟩) u.length u.length))) from qXt).cell b10) (fun hHeld => ?_)
      clear hK K
      try simp only [Act.put, qa, qb, qc, qD, qE, qF]
      refine wpAnyH_done qKr ?_ _
      clear hHeld
      have zz := X3.size
      go_step
      go_step
      go_meet
      case rel => exact ⟨g3_21, r3_22, w3_1.heap.size, w3_18.heap.size, rfl, X3, (by omega), (by omega), (by omega), (by omega), (by omega), (by omega), (by omega), (by omega), (by omega), (O3_19).lower (by omega), (O3_17).lower (by omega), b3_240, f_b3_240, b3_241, f_b3_241, b3_242, f_b3_242⟩
     ·
      try simp only [Act.put, qa, qb, qc, qD, qE, qF]
      go_simp
      refine hK.out _ (w3_16.alloc (.cells #[.int .i64 0, .slice none 0 0, .slice none 0 0] 36)) ((show Ext w2 (w3_16.alloc (.cells #[.int .i64 0, .slice none 0 0, .slice none 0 0] 36)) from qXt).cell b10) (fun hHeld => ?_)
      clear hK K
      try simp only [Act.put, qa, qb, qc, qD, qE, qF]
      generalize hW9 : w3_16.alloc (.cells #[.int .i64 0, .slice none 0 0, .slice none 0 0] 36) = w3_25 at *
      have S_w3_25 : w3_16.heap.size < w3_25.heap.size := by subst hW9; simp
      have hx7 : Ext w3_16 w3_25 := by subst hW9; exact qXt
      replace Yw3_1 := Yw3_1.trans hx7
      replace Yw3_16 := Yw3_16.trans hx7
      replace X3 := X3.trans hx7
      clear hx7
      have b3_260 : w3_25.cell? ⟨w3_16.heap.size, 0, none⟩ = some (.int .i64 0) := by subst hW9; exact qCl
      have f_b3_260 : w3_25.frozen? ⟨w3_16.heap.size, 0, none⟩ = false := by subst hW9; exact qFz
      have b3_261 : w3_25.cell? ⟨w3_16.heap.size, 1, none⟩ = some (.slice none 0 0) := by subst hW9; exact qCl
      have f_b3_261 : w3_25.frozen? ⟨w3_16.heap.size, 1, none⟩ = false := by subst hW9; exact qFz
      have b3_262 : w3_25.cell? ⟨w3_16.heap.size, 2, none⟩ = some (.slice none 0 0) := by subst hW9; exact qCl
      have f_b3_262 : w3_25.frozen? ⟨w3_16.heap.size, 2, none⟩ = false := by subst hW9; exact qFz
      have z_b3_26 : w3_16.heap.size < w3_25.heap.size := by subst hW9; exact S_w3_25
      have Yw3_25 := Ext.refl w3_25
      clear hW9
      refine qHr 4 rfl (fun K hK => ?_)
      refine step_app0O rfl (.tmp 19) (.tmp 20) rfl rfl rfl (O3_2.ext Yw3_1) (by omega) (by exact ((h3.ext Xw2).ext (show Ext w2 w3_25 from qXt))) ?_
      intro g3_30 r3_31 w3_27 O3_28 x3_29 Eg3_30 Hg3_30
      have S_w3_27 : w3_25.heap.size ≤ w3_27.heap.size := x3_29.size
      replace Yw3_1 := Yw3_1.trans x3_29
      replace Yw3_16 := Yw3_16.trans x3_29
      replace Yw3_25 := Yw3_25.trans x3_29
      replace X3 := X3.trans x3_29
      have Yw3_27 := Ext.refl w3_27
      clear x3_29
      refine hK.out _ w3_27 ((show Ext w2 w3_27 from qXt).cell b10) (fun hHeld => ?_)
      clear hK K
      try simp only [Act.put, qa, qb, qc, qD, qE, qF]
      refine qHk (v := ?_) 8 rfl (.inl ⟨by rfl, ?_⟩) ?_
      rotate_left
      ·
       (intro w hSw; (try dsimp only at hSw); go_simp; try with_reducible rfl)
      try simp only [Act.put, qa, qb, qc, qD, qE, qF]
      refine qHr 10 rfl (fun K hK => ?_)
      try simp only [Act.put, qa, qb, qc, qD, qE, qF]
      replace b3_260 := Yw3_25.cell b3_260
      replace b3_261 := Yw3_25.cell b3_261
      replace b3_262 := Yw3_25.cell b3_262
      replace f_b3_260 := Yw3_25.frz z_b3_26 f_b3_260
      replace f_b3_261 := Yw3_25.frz z_b3_26 f_b3_261
      replace f_b3_262 := Yw3_25.frz z_b3_26 f_b3_262
      go_simp
      have zz := X3.size
      have K3 : Chg w3_16.heap.size (w3_16.heap.size + 1) w3_27 (((w3_27.setCell ⟨w3_16.heap.size, 0, none⟩ (.int .i64 b1)).setCell ⟨w3_16.heap.size, 1, none⟩ (.slice (some ⟨g3_30, 0, none⟩) u.length r3_31)).setCell ⟨w3_16.heap.size, 2, none⟩ (.slice (some ⟨w3_1.heap.size, 0, none⟩) u.length u.length)) := (Chg.setCell (p := ⟨w3_16.heap.size, 2, none⟩) (Chg.setCell (p := ⟨w3_16.heap.size, 1, none⟩) (Chg.setCell (p := ⟨w3_16.heap.size, 0, none⟩) (Chg.refl w3_16.heap.size (w3_16.heap.size + 1) w3_27) (Nat.le_refl _) (Nat.lt_succ_self _) _) (Nat.le_refl _) (Nat.lt_succ_self _) _) (Nat.le_refl _) (Nat.lt_succ_self _) _)
      have n_b3_260 : (((w3_27.setCell ⟨w3_16.heap.size, 0, none⟩ (.int .i64 b1)).setCell ⟨w3_16.heap.size, 1, none⟩ (.slice (some ⟨g3_30, 0, none⟩) u.length r3_31)).setCell ⟨w3_16.heap.size, 2, none⟩ (.slice (some ⟨w3_1.heap.size, 0, none⟩) u.length u.length)).cell? ⟨w3_16.heap.size, 0, none⟩ = some (.int .i64 b1) := by go_simp
      replace f_b3_260 : (((w3_27.setCell ⟨w3_16.heap.size, 0, none⟩ (.int .i64 b1)).setCell ⟨w3_16.heap.size, 1, none⟩ (.slice (some ⟨g3_30, 0, none⟩) u.length r3_31)).setCell ⟨w3_16.heap.size, 2, none⟩ (.slice (some ⟨w3_1.heap.size, 0, none⟩) u.length u.length)).frozen? ⟨w3_16.heap.size, 0, none⟩ = false := by go_simp
      have n_b3_261 : (((w3_27.setCell ⟨w3_16.heap.size, 0, none⟩ (.int .i64 b1)).setCell ⟨w3_16.heap.size, 1, none⟩ (.slice (some ⟨g3_30, 0, none⟩) u.length r3_31)).setCell ⟨w3_16.heap.size, 2, none⟩ (.slice (some ⟨w3_1.heap.size, 0, none⟩) u.length u.length)).cell? ⟨w3_16.heap.size, 1, none⟩ = some (.slice (some ⟨g3_30, 0, none⟩) u.length r3_31) := by go_simp
      replace f_b3_261 : (((w3_27.setCell ⟨w3_16.heap.size, 0, none⟩ (.int .i64 b1)).setCell ⟨w3_16.heap.size, 1, none⟩ (.slice (some ⟨g3_30, 0, none⟩) u.length r3_31)).setCell ⟨w3_16.heap.size, 2, none⟩ (.slice (some ⟨w3_1.heap.size, 0, none⟩) u.length u.length)).frozen? ⟨w3_16.heap.size, 1, none⟩ = false := by go_simp
      have n_b3_262 : (((w3_27.setCell ⟨w3_16.heap.size, 0, none⟩ (.int .i64 b1)).setCell ⟨w3_16.heap.size, 1, none⟩ (.slice (some ⟨g3_30, 0, none⟩) u.length r3_31)).setCell ⟨w3_16.heap.size, 2, none⟩ (.slice (some ⟨w3_1.heap.size, 0, none⟩) u.length u.length)).cell? ⟨w3_16.heap.size, 2, none⟩ = some (.slice (some ⟨w3_1.heap.size, 0, none⟩) u.length u.length) := by go_simp
      replace f_b3_262 : (((w3_27.setCell ⟨w3_16.heap.size, 0, none⟩ (.int .i64 b1)).setCell ⟨w3_16.heap.size, 1, none⟩ (.slice (some ⟨g3_30, 0, none⟩) u.length r3_31)).setCell ⟨w3_16.heap.size, 2, none⟩ (.slice (some ⟨w3_1.heap.size, 0, none⟩) u.length u.length)).frozen? ⟨w3_16.heap.size, 2, none⟩ = false := by go_simp
      replace b3_260 := n_b3_260
      clear n_b3_260
      replace b3_261 := n_b3_261
      clear n_b3_261
      replace b3_262 := n_b3_262
      clear n_b3_262
      replace O3_17 := (O3_17.ext Yw3_16).chgN K3 (by omega)
      replace O3_28 := (O3_28.ext Yw3_27).chgN K3 (by omega)
      replace X3 : Ext w2 (((w3_27.setCell ⟨w3_16.heap.size, 0, none⟩ (.int .i64 b1)).setCell ⟨w3_16.heap.size, 1, none⟩ (.slice (some ⟨g3_30, 0, none⟩) u.length r3_31)).setCell ⟨w3_16.heap.size, 2, none⟩ (.slice (some ⟨w3_1.heap.size, 0, none⟩) u.length u.length)) := (Ext.setCell (p := ⟨w3_16.heap.size, 2, none⟩) (Ext.setCell (p := ⟨w3_16.heap.size, 1, none⟩) (Ext.setCell (p := ⟨w3_16.heap.size, 0, none⟩) X3 (by dsimp only; omega) _) (by dsimp only; omega) _) (by dsimp only; omega) _)
      clear zz K3
      have S_st : w3_27.heap.size ≤ (((w3_27.setCell ⟨w3_16.heap.size, 0, none⟩ (.int .i64 b1)).setCell ⟨w3_16.heap.size, 1, none⟩ (.slice (some ⟨g3_30, 0, none⟩) u.length r3_31)).setCell ⟨w3_16.heap.size, 2, none⟩ (.slice (some ⟨w3_1.heap.size, 0, none⟩) u.length u.length)).heap.size := by simp
      refine hK.out _ ((((w3_27.setCell ⟨w3_16.heap.size, 0, none⟩ (.int .i64 b1)).setCell ⟨w3_16.heap.size, 1, none⟩ (.slice (some ⟨g3_30, 0, none⟩) u.length r3_31)).setCell ⟨w3_16.heap.size, 2, none⟩ (.slice (some ⟨w3_1.heap.size, 0, none⟩) u.length u.length))) ((show Ext w2 ((((w3_27.setCell ⟨w3_16.heap.size, 0, none⟩ (.int .i64 b1)).setCell ⟨w3_16.heap.size, 1, none⟩ (.slice (some ⟨g3_30, 0, none⟩) u.length r3_31)).setCell ⟨w3_16.heap.size, 2, none⟩ (.slice (some ⟨w3_1.heap.size, 0, none⟩) u.length u.length))) from qXt).cell b10) (fun hHeld => ?_)
      clear hK K
      try simp only [Act.put, qa, qb, qc, qD, qE, qF]
      refine wpAnyH_done qKr ?_ _
      clear hHeld
      have zz := X3.size
      go_step
      go_step
      go_meet
      case rel => exact ⟨g3_30, r3_31, w3_1.heap.size, w3_16.heap.size, rfl, X3, (by omega), (by omega), (by omega), (by omega), (by omega), (by omega), (by omega), (by omega), (by omega), (O3_28).lower (by omega), (O3_17).lower (by omega), b3_260, f_b3_260, b3_261, f_b3_261, b3_262, f_b3_262⟩
    ·
     try simp only [Act.put, qa, qb, qc, qD, qE, qF]
     go_simp
     refine hK.out _ (w3_1.alloc (.cells #[.int .i64 0, .slice none 0 0, .slice none 0 0] 36)) ((show Ext w2 (w3_1.alloc (.cells #[.int .i64 0, .slice none 0 0, .slice none 0 0] 36)) from qXt).cell b10) (fun hHeld => ?_)
     clear hK K
     try simp only [Act.put, qa, qb, qc, qD, qE, qF]
     generalize hW10 : w3_1.alloc (.cells #[.int .i64 0, .slice none 0 0, .slice none 0 0] 36) = w3_32 at *
     have S_w3_32 : w3_1.heap.size < w3_32.heap.size := by subst hW10; simp
     have hx7 : Ext w3_1 w3_32 := by subst hW10; exact qXt
     replace Yw3_1 := Yw3_1.trans hx7
     replace X3 := X3.trans hx7
     clear hx7
     have b3_330 : w3_32.cell? ⟨w3_1.heap.size, 0, none⟩ = some (.int .i64 0) := by subst hW10; exact qCl
     have f_b3_330 : w3_32.frozen? ⟨w3_1.heap.size, 0, none⟩ = false := by subst hW10; exact qFz
     have b3_331 : w3_32.cell? ⟨w3_1.heap.size, 1, none⟩ = some (.slice none 0 0) := by subst hW10; exact qCl
     have f_b3_331 : w3_32.frozen? ⟨w3_1.heap.size, 1, none⟩ = false := by subst hW10; exact qFz
     have b3_332 : w3_32.cell? ⟨w3_1.heap.size, 2, none⟩ = some (.slice none 0 0) := by subst hW10; exact qCl
     have f_b3_332 : w3_32.frozen? ⟨w3_1.heap.size, 2, none⟩ = false := by subst hW10; exact qFz
     have z_b3_33 : w3_1.heap.size < w3_32.heap.size := by subst hW10; exact S_w3_32
     have Yw3_32 := Ext.refl w3_32
     clear hW10
     refine wpAnyH_ready (rs := [4, 7]) qKr (by simp) ?_
     refine AllReadyH.cons rfl (fun K hK => ?_) (AllReadyH.cons rfl (fun K hK => ?_) AllReadyH.nil)
     ·
      refine step_app0O rfl (.tmp 19) (.tmp 20) rfl rfl rfl (O3_2.ext Yw3_1) (by omega) (by exact ((h3.ext Xw2).ext (show Ext w2 w3_32 from qXt))) ?_
      intro g3_37 r3_38 w3_34 O3_35 x3_36 Eg3_37 Hg3_37
      have S_w3_34 : w3_32.heap.size ≤ w3_34.heap.size := x3_36.size
      replace Yw3_1 := Yw3_1.trans x3_36
      replace Yw3_32 := Yw3_32.trans x3_36
      replace X3 := X3.trans x3_36
      have Yw3_34 := Ext.refl w3_34
      clear x3_36
      refine hK.out _ w3_34 ((show Ext w2 w3_34 from qXt).cell b10) (fun hHeld => ?_)
      clear hK K
      try simp only [Act.put, qa, qb, qc, qD, qE, qF]
      refine qHr 7 rfl (fun K hK => ?_)
      try simp only [Act.put, qa, qb, qc, qD, qE, qF]
      have hmk := mk_ints u.length (by omega)
      go_simp
      refine hK.out _ (w3_34.alloc (.cells (madeCells #[Value.int .i64 0] u.length) 3)) ((show Ext w2 (w3_34.alloc (.cells (madeCells #[Value.int .i64 0] u.length) 3)) from qXt).cell b10) (fun hHeld => ?_)
      clear hK K hmk
      try simp only [Act.put, qa, qb, qc, qD, qE, qF]
      generalize hW11 : w3_34.alloc (.cells (madeCells #[Value.int .i64 0] u.length) 3) = w3_39 at *
      have S_w3_39 : w3_34.heap.size < w3_39.heap.size := by subst hW11; simp
      have hx7 : Ext w3_34 w3_39 := by subst hW11; exact qXt
      replace Yw3_32 := Yw3_32.trans hx7
      replace Yw3_34 := Yw3_34.trans hx7
      replace X3 := X3.trans hx7
      clear hx7
      have O3_40 : OwnI w3_39 w3_34.heap.size (.slice (some ⟨w3_34.heap.size, 0, none⟩) u.length u.length) (List.replicate u.length 0) := by subst hW11; exact OwnI.made _ _ _ (by simp) (by omega)
      have Yw3_39 := Ext.refl w3_39
      clear hW11
      refine qHk (v := ?_) 8 rfl (.inl ⟨by rfl, ?_⟩) ?_
      rotate_left
      ·
       (intro w hSw; (try dsimp only at hSw); go_simp; try with_reducible rfl)
      try simp only [Act.put, qa, qb, qc, qD, qE, qF]
      refine qHr 10 rfl (fun K hK => ?_)
      try simp only [Act.put, qa, qb, qc, qD, qE, qF]
      replace b3_330 := Yw3_32.cell b3_330
      replace b3_331 := Yw3_32.cell b3_331
      replace b3_332 := Yw3_32.cell b3_332
      replace f_b3_330 := Yw3_32.frz z_b3_33 f_b3_330
      replace f_b3_331 := Yw3_32.frz z_b3_33 f_b3_331
      replace f_b3_332 := Yw3_32.frz z_b3_33 f_b3_332
      go_simp
      have zz := X3.size
      have K3 : Chg w3_1.heap.size (w3_1.heap.size + 1) w3_39 (((w3_39.setCell ⟨w3_1.heap.size, 0, none⟩ (.int .i64 b1)).setCell ⟨w3_1.heap.size, 1, none⟩ (.slice (some ⟨g3_37, 0, none⟩) u.length r3_38)).setCell ⟨w3_1.heap.size, 2, none⟩ (.slice (some ⟨w3_34.heap.size, 0, none⟩) u.length u.length)) := (Chg.setCell (p := ⟨w3_1.heap.size, 2, none⟩) (Chg.setCell (p := ⟨w3_1.heap.size, 1, none⟩) (Chg.setCell (p := ⟨w3_1.heap.size, 0, none⟩) (Chg.refl w3_1.heap.size (w3_1.heap.size + 1) w3_39) (Nat.le_refl _) (Nat.lt_succ_self _) _) (Nat.le_refl _) (Nat.lt_succ_self _) _) (Nat.le_refl _) (Nat.lt_succ_self _) _)
      have n_b3_330 : (((w3_39.setCell ⟨w3_1.heap.size, 0, none⟩ (.int .i64 b1)).setCell ⟨w3_1.heap.size, 1, none⟩ (.slice (some ⟨g3_37, 0, none⟩) u.length r3_38)).setCell ⟨w3_1.heap.size, 2, none⟩ (.slice (some ⟨w3_34.heap.size, 0, none⟩) u.length u.length)).cell? ⟨w3_1.heap.size, 0, none⟩ = some (.int .i64 b1) := by go_simp
      replace f_b3_330 : (((w3_39.setCell ⟨w3_1.heap.size, 0, none⟩ (.int .i64 b1)).setCell ⟨w3_1.heap.size, 1, none⟩ (.slice (some ⟨g3_37, 0, none⟩) u.length r3_38)).setCell ⟨w3_1.heap.size, 2, none⟩ (.slice (some ⟨w3_34.heap.size, 0, none⟩) u.length u.length)).frozen? ⟨w3_1.heap.size, 0, none⟩ = false := by go_simp
      have n_b3_331 : (((w3_39.setCell ⟨w3_1.heap.size, 0, none⟩ (.int .i64 b1)).setCell ⟨w3_1.heap.size, 1, none⟩ (.slice (some ⟨g3_37, 0, none⟩) u.length r3_38)).setCell ⟨w3_1.heap.size, 2, none⟩ (.slice (some ⟨w3_34.heap.size, 0, none⟩) u.length u.length)).cell? ⟨w3_1.heap.size, 1, none⟩ = some (.slice (some ⟨g3_37, 0, none⟩) u.length r3_38) := by go_simp
      replace f_b3_331 : (((w3_39.setCell ⟨w3_1.heap.size, 0, none⟩ (.int .i64 b1)).setCell ⟨w3_1.heap.size, 1, none⟩ (.slice (some ⟨g3_37, 0, none⟩) u.length r3_38)).setCell ⟨w3_1.heap.size, 2, none⟩ (.slice (some ⟨w3_34.heap.size, 0, none⟩) u.length u.length)).frozen? ⟨w3_1.heap.size, 1, none⟩ = false := by go_simp
      have n_b3_332 : (((w3_39.setCell ⟨w3_1.heap.size, 0, none⟩ (.int .i64 b1)).setCell ⟨w3_1.heap.size, 1, none⟩ (.slice (some ⟨g3_37, 0, none⟩) u.length r3_38)).setCell ⟨w3_1.heap.size, 2, none⟩ (.slice (some ⟨w3_34.heap.size, 0, none⟩) u.length u.length)).cell? ⟨w3_1.heap.size, 2, none⟩ = some (.slice (some ⟨w3_34.heap.size, 0, none⟩) u.length u.length) := by go_simp
      replace f_b3_332 : (((w3_39.setCell ⟨w3_1.heap.size, 0, none⟩ (.int .i64 b1)).setCell ⟨w3_1.heap.size, 1, none⟩ (.slice (some ⟨g3_37, 0, none⟩) u.length r3_38)).setCell ⟨w3_1.heap.size, 2, none⟩ (.slice (some ⟨w3_34.heap.size, 0, none⟩) u.length u.length)).frozen? ⟨w3_1.heap.size, 2, none⟩ = false := by go_simp
      replace b3_330 := n_b3_330
      clear n_b3_330
      replace b3_331 := n_b3_331
      clear n_b3_331
      replace b3_332 := n_b3_332
      clear n_b3_332
      replace O3_35 := (O3_35.ext Yw3_34).chgN K3 (by omega)
      replace O3_40 := (O3_40.ext Yw3_39).chgN K3 (by omega)
      replace X3 : Ext w2 (((w3_39.setCell ⟨w3_1.heap.size, 0, none⟩ (.int .i64 b1)).setCell ⟨w3_1.heap.size, 1, none⟩ (.slice (some ⟨g3_37, 0, none⟩) u.length r3_38)).setCell ⟨w3_1.heap.size, 2, none⟩ (.slice (some ⟨w3_34.heap.size, 0, none⟩) u.length u.length)) := (Ext.setCell (p := ⟨w3_1.heap.size, 2, none⟩) (Ext.setCell (p := ⟨w3_1.heap.size, 1, none⟩) (Ext.setCell (p := ⟨w3_1.heap.size, 0, none⟩) X3 (by dsimp only; omega) _) (by dsimp only; omega) _) (by dsimp only; omega) _)
      clear zz K3
      have S_st : w3_39.heap.size ≤ (((w3_39.setCell ⟨w3_1.heap.size, 0, none⟩ (.int .i64 b1)).setCell ⟨w3_1.heap.size, 1, none⟩ (.slice (some ⟨g3_37, 0, none⟩) u.length r3_38)).setCell ⟨w3_1.heap.size, 2, none⟩ (.slice (some ⟨w3_34.heap.size, 0, none⟩) u.length u.length)).heap.size := by simp
      refine hK.out _ ((((w3_39.setCell ⟨w3_1.heap.size, 0, none⟩ (.int .i64 b1)).setCell ⟨w3_1.heap.size, 1, none⟩ (.slice (some ⟨g3_37, 0, none⟩) u.length r3_38)).setCell ⟨w3_1.heap.size, 2, none⟩ (.slice (some ⟨w3_34.heap.size, 0, none⟩) u.length u.length))) ((show Ext w2 ((((w3_39.setCell ⟨w3_1.heap.size, 0, none⟩ (.int .i64 b1)).setCell ⟨w3_1.heap.size, 1, none⟩ (.slice (some ⟨g3_37, 0, none⟩) u.length r3_38)).setCell ⟨w3_1.heap.size, 2, none⟩ (.slice (some ⟨w3_34.heap.size, 0, none⟩) u.length u.length))) from qXt).cell b10) (fun hHeld => ?_)
      clear hK K
      try simp only [Act.put, qa, qb, qc, qD, qE, qF]
      refine wpAnyH_done qKr ?_ _
      clear hHeld
      have zz := X3.size
      go_step
      go_step
      go_meet
      case rel => exact ⟨g3_37, r3_38, w3_34.heap.size, w3_1.heap.size, rfl, X3, (by omega), (by omega), (by omega), (by omega), (by omega), (by omega), (by omega), (by omega), (by omega), (O3_35).lower (by omega), (O3_40).lower (by omega), b3_330, f_b3_330, b3_331, f_b3_331, b3_332, f_b3_332⟩
     ·
      try simp only [Act.put, qa, qb, qc, qD, qE, qF]
      have hmk := mk_ints u.length (by omega)
      go_simp
      refine hK.out _ (w3_32.alloc (.cells (madeCells #[Value.int .i64 0] u.length) 3)) ((show Ext w2 (w3_32.alloc (.cells (madeCells #[Value.int .i64 0] u.length) 3)) from qXt).cell b10) (fun hHeld => ?_)
      clear hK K hmk
      try simp only [Act.put, qa, qb, qc, qD, qE, qF]
      generalize hW12 : w3_32.alloc (.cells (madeCells #[Value.int .i64 0] u.length) 3) = w3_41 at *
      have S_w3_41 : w3_32.heap.size < w3_41.heap.size := by subst hW12; simp
      have hx7 : Ext w3_32 w3_41 := by subst hW12; exact qXt
      replace Yw3_1 := Yw3_1.trans hx7
      replace Yw3_32 := Yw3_32.trans hx7
      replace X3 := X3.trans hx7
      clear hx7
      have O3_42 : OwnI w3_41 w3_32.heap.size (.slice (some ⟨w3_32.heap.size, 0, none⟩) u.length u.length) (List.replicate u.length 0) := by subst hW12; exact OwnI.made _ _ _ (by simp) (by omega)
      have Yw3_41 := Ext.refl w3_41
      clear hW12
      refine qHr 4 rfl (fun K hK => ?_)
      refine step_app0O rfl (.tmp 19) (.tmp 20) rfl rfl rfl (O3_2.ext Yw3_1) (by omega) (by exact ((h3.ext Xw2).ext (show Ext w2 w3_41 from qXt))) ?_
      intro g3_46 r3_47 w3_43 O3_44 x3_45 Eg3_46 Hg3_46
      have S_w3_43 : w3_41.heap.size ≤ w3_43.heap.size := x3_45.size
      replace Yw3_1 := Yw3_1.trans x3_45
      replace Yw3_32 := Yw3_32.trans x3_45
      replace Yw3_41 := Yw3_41.trans x3_45
      replace X3 := X3.trans x3_45
      have Yw3_43 := Ext.refl w3_43
      clear x3_45
      refine hK.out _ w3_43 ((show Ext w2 w3_43 from qXt).cell b10) (fun hHeld => ?_)
      clear hK K
      try simp only [Act.put, qa, qb, qc, qD, qE, qF]
      refine qHk (v := ?_) 8 rfl (.inl ⟨by rfl, ?_⟩) ?_
      rotate_left
      ·
       (intro w hSw; (try dsimp only at hSw); go_simp; try with_reducible rfl)
      try simp only [Act.put, qa, qb, qc, qD, qE, qF]
      refine qHr 10 rfl (fun K hK => ?_)
      try simp only [Act.put, qa, qb, qc, qD, qE, qF]
      replace b3_330 := Yw3_32.cell b3_330
      replace b3_331 := Yw3_32.cell b3_331
      replace b3_332 := Yw3_32.cell b3_332
      replace f_b3_330 := Yw3_32.frz z_b3_33 f_b3_330
      replace f_b3_331 := Yw3_32.frz z_b3_33 f_b3_331
      replace f_b3_332 := Yw3_32.frz z_b3_33 f_b3_332
      go_simp
      have zz := X3.size
      have K3 : Chg w3_1.heap.size (w3_1.heap.size + 1) w3_43 (((w3_43.setCell ⟨w3_1.heap.size, 0, none⟩ (.int .i64 b1)).setCell ⟨w3_1.heap.size, 1, none⟩ (.slice (some ⟨g3_46, 0, none⟩) u.length r3_47)).setCell ⟨w3_1.heap.size, 2, none⟩ (.slice (some ⟨w3_32.heap.size, 0, none⟩) u.length u.length)) := (Chg.setCell (p := ⟨w3_1.heap.size, 2, none⟩) (Chg.setCell (p := ⟨w3_1.heap.size, 1, none⟩) (Chg.setCell (p := ⟨w3_1.heap.size, 0, none⟩) (Chg.refl w3_1.heap.size (w3_1.heap.size + 1) w3_43) (Nat.le_refl _) (Nat.lt_succ_self _) _) (Nat.le_refl _) (Nat.lt_succ_self _) _) (Nat.le_refl _) (Nat.lt_succ_self _) _)
      have n_b3_330 : (((w3_43.setCell ⟨w3_1.heap.size, 0, none⟩ (.int .i64 b1)).setCell ⟨w3_1.heap.size, 1, none⟩ (.slice (some ⟨g3_46, 0, none⟩) u.length r3_47)).setCell ⟨w3_1.heap.size, 2, none⟩ (.slice (some ⟨w3_32.heap.size, 0, none⟩) u.length u.length)).cell? ⟨w3_1.heap.size, 0, none⟩ = some (.int .i64 b1) := by go_simp
      replace f_b3_330 : (((w3_43.setCell ⟨w3_1.heap.size, 0, none⟩ (.int .i64 b1)).setCell ⟨w3_1.heap.size, 1, none⟩ (.slice (some ⟨g3_46, 0, none⟩) u.length r3_47)).setCell ⟨w3_1.heap.size, 2, none⟩ (.slice (some ⟨w3_32.heap.size, 0, none⟩) u.length u.length)).frozen? ⟨w3_1.heap.size, 0, none⟩ = false := by go_simp
      have n_b3_331 : (((w3_43.setCell ⟨w3_1.heap.size, 0, none⟩ (.int .i64 b1)).setCell ⟨w3_1.heap.size, 1, none⟩ (.slice (some ⟨g3_46, 0, none⟩) u.length r3_47)).setCell ⟨w3_1.heap.size, 2, none⟩ (.slice (some ⟨w3_32.heap.size, 0, none⟩) u.length u.length)).cell? ⟨w3_1.heap.size, 1, none⟩ = some (.slice (some ⟨g3_46, 0, none⟩) u.length r3_47) := by go_simp
      replace f_b3_331 : (((w3_43.setCell ⟨w3_1.heap.size, 0, none⟩ (.int .i64 b1)).setCell ⟨w3_1.heap.size, 1, none⟩ (.slice (some ⟨g3_46, 0, none⟩) u.length r3_47)).setCell ⟨w3_1.heap.size, 2, none⟩ (.slice (some ⟨w3_32.heap.size, 0, none⟩) u.length u.length)).frozen? ⟨w3_1.heap.size, 1, none⟩ = false := by go_simp
      have n_b3_332 : (((w3_43.setCell ⟨w3_1.heap.size, 0, none⟩ (.int .i64 b1)).setCell ⟨w3_1.heap.size, 1, none⟩ (.slice (some ⟨g3_46, 0, none⟩) u.length r3_47)).setCell ⟨w3_1.heap.size, 2, none⟩ (.slice (some ⟨w3_32.heap.size, 0, none⟩) u.length u.length)).cell? ⟨w3_1.heap.size, 2, none⟩ = some (.slice (some ⟨w3_32.heap.size, 0, none⟩) u.length u.length) := by go_simp
      replace f_b3_332 : (((w3_43.setCell ⟨w3_1.heap.size, 0, none⟩ (.int .i64 b1)).setCell ⟨w3_1.heap.size, 1, none⟩ (.slice (some ⟨g3_46, 0, none⟩) u.length r3_47)).setCell ⟨w3_1.heap.size, 2, none⟩ (.slice (some ⟨w3_32.heap.size, 0, none⟩) u.length u.length)).frozen? ⟨w3_1.heap.size, 2, none⟩ = false := by go_simp
      replace b3_330 := n_b3_330
      clear n_b3_330
      replace b3_331 := n_b3_331
      clear n_b3_331
      replace b3_332 := n_b3_332
      clear n_b3_332
      replace O3_42 := (O3_42.ext Yw3_41).chgN K3 (by omega)
      replace O3_44 := (O3_44.ext Yw3_43).chgN K3 (by omega)
      replace X3 : Ext w2 (((w3_43.setCell ⟨w3_1.heap.size, 0, none⟩ (.int .i64 b1)).setCell ⟨w3_1.heap.size, 1, none⟩ (.slice (some ⟨g3_46, 0, none⟩) u.length r3_47)).setCell ⟨w3_1.heap.size, 2, none⟩ (.slice (some ⟨w3_32.heap.size, 0, none⟩) u.length u.length)) := (Ext.setCell (p := ⟨w3_1.heap.size, 2, none⟩) (Ext.setCell (p := ⟨w3_1.heap.size, 1, none⟩) (Ext.setCell (p := ⟨w3_1.heap.size, 0, none⟩) X3 (by dsimp only; omega) _) (by dsimp only; omega) _) (by dsimp only; omega) _)
      clear zz K3
      have S_st : w3_43.heap.size ≤ (((w3_43.setCell ⟨w3_1.heap.size, 0, none⟩ (.int .i64 b1)).setCell ⟨w3_1.heap.size, 1, none⟩ (.slice (some ⟨g3_46, 0, none⟩) u.length r3_47)).setCell ⟨w3_1.heap.size, 2, none⟩ (.slice (some ⟨w3_32.heap.size, 0, none⟩) u.length u.length)).heap.size := by simp
      refine hK.out _ ((((w3_43.setCell ⟨w3_1.heap.size, 0, none⟩ (.int .i64 b1)).setCell ⟨w3_1.heap.size, 1, none⟩ (.slice (some ⟨g3_46, 0, none⟩) u.length r3_47)).setCell ⟨w3_1.heap.size, 2, none⟩ (.slice (some ⟨w3_32.heap.size, 0, none⟩) u.length u.length))) ((show Ext w2 ((((w3_43.setCell ⟨w3_1.heap.size, 0, none⟩ (.int .i64 b1)).setCell ⟨w3_1.heap.size, 1, none⟩ (.slice (some ⟨g3_46, 0, none⟩) u.length r3_47)).setCell ⟨w3_1.heap.size, 2, none⟩ (.slice (some ⟨w3_32.heap.size, 0, none⟩) u.length u.length))) from qXt).cell b10) (fun hHeld => ?_)
      clear hK K
      try simp only [Act.put, qa, qb, qc, qD, qE, qF]
      refine wpAnyH_done qKr ?_ _
      clear hHeld
      have zz := X3.size
      go_step
      go_step
      go_meet
      case rel => exact ⟨g3_46, r3_47, w3_32.heap.size, w3_1.heap.size, rfl, X3, (by omega), (by omega), (by omega), (by omega), (by omega), (by omega), (by omega), (by omega), (by omega), (O3_44).lower (by omega), (O3_42).lower (by omega), b3_330, f_b3_330, b3_331, f_b3_331, b3_332, f_b3_332⟩
   ·
    try simp only [Act.put, qa, qb, qc, qD, qE, qF]
    have hmk := mk_ints u.length (by omega)
    go_simp
    refine hK.out _ (w2.drew.alloc (.cells (madeCells #[Value.int .i64 0] u.length) 3)) ((show Ext w2 (w2.drew.alloc (.cells (madeCells #[Value.int .i64 0] u.length) 3)) from qXt).cell b10) (fun hHeld => ?_)
    clear hK K hmk
    try simp only [Act.put, qa, qb, qc, qD, qE, qF]
    generalize hW13 : w2.drew.alloc (.cells (madeCells #[Value.int .i64 0] u.length) 3) = w3_48 at *
    have S_w3_48 : w2.heap.size < w3_48.heap.size := by subst hW13; simp
    have hx7 : Ext w2 w3_48 := by subst hW13; exact qXt
    replace X3 := X3.trans hx7
    clear hx7
    have O3_49 : OwnI w3_48 w2.heap.size (.slice (some ⟨w2.heap.size, 0, none⟩) u.length u.length) (List.replicate u.length 0) := by subst hW13; exact OwnI.made _ _ _ (by simp) (by omega)
    have Yw3_48 := Ext.refl w3_48
    clear hW13
    refine wpAnyH_ready (rs := [2, 9]) qKr (by simp) ?_
    refine AllReadyH.cons rfl (fun K hK => ?_) (AllReadyH.cons rfl (fun K hK => ?_) AllReadyH.nil)
    ·
     try simp only [Act.put, qa, qb, qc, qD, qE, qF]
     go_simp
     refine hK.out _ (w3_48.alloc (.cells #[] 3)) ((show Ext w2 (w3_48.alloc (.cells #[] 3)) from qXt).cell b10) (fun hHeld => ?_)
     clear hK K
     try simp only [Act.put, qa, qb, qc, qD, qE, qF]
     generalize hW14 : w3_48.alloc (.cells #[] 3) = w3_50 at *
     have S_w3_50 : w3_48.heap.size < w3_50.heap.size := by subst hW14; simp
     have hx7 : Ext w3_48 w3_50 := by subst hW14; exact qXt
     replace Yw3_48 := Yw3_48.trans hx7
     replace X3 := X3.trans hx7
     clear hx7
     have O3_51 : OwnI w3_50 w3_48.heap.size (.slice (some ⟨w3_48.heap.size, 0, none⟩) 0 0) [] := by subst hW14; exact OwnI.lit0 _ _ (by simp)
     have Yw3_50 := Ext.refl w3_50
     clear hW14
     refine wpAnyH_ready (rs := [4, 9]) qKr (by simp) ?_
     refine AllReadyH.cons rfl (fun K hK => ?_) (AllReadyH.cons rfl (fun K hK => ?_) AllReadyH.nil)
     ·
      refine step_app0O rfl (.tmp 19) (.tmp 20) rfl rfl rfl (O3_51.ext Yw3_50) (by omega) (by exact ((h3.ext Xw2).ext (show Ext w2 w3_50 from qXt))) ?_
      intro g3_55 r3_56 w3_52 O3_53 x3_54 Eg3_55 Hg3_55
      have S_w3_52 : w3_50.heap.size ≤ w3_52.heap.size := x3_54.size
      replace Yw3_48 := Yw3_48.trans x3_54
      replace Yw3_50 := Yw3_50.trans x3_54
      replace X3 := X3.trans x3_54
      have Yw3_52 := Ext.refl w3_52
      clear x3_54
      refine hK.out _ w3_52 ((show Ext w2 w3_52 from qXt).cell b10) (fun hHeld => ?_)
      clear hK K
      try simp only [Act.put, qa, qb, qc, qD, qE, qF]
      refine qHk (v := ?_) 8 rfl (.inl ⟨by rfl, ?_⟩) ?_
      rotate_left
      ·
       (intro w hSw; (try dsimp only at hSw); go_simp; try with_reducible rfl)
      try simp only [Act.put, qa, qb, qc, qD, qE, qF]
      refine qHr 9 rfl (fun K hK => ?_)
      try simp only [Act.put, qa, qb, qc, qD, qE, qF]
      go_simp
      refine hK.out _ (w3_52.alloc (.cells #[.int .i64 0, .slice none 0 0, .slice none 0 0] 36)) ((show Ext w2 (w3_52.alloc (.cells #[.int .i64 0, .slice none 0 0, .slice none 0 0] 36)) from qXt).cell b10) (fun hHeld => ?_)
      clear hK K
      try simp only [Act.put, qa, qb, qc, qD, qE, qF]
      generalize hW15 : w3_52.alloc (.cells #[.int .i64 0, .slice none 0 0, .slice none 0 0] 36) = w3_57 at *
      have S_w3_57 : w3_52.heap.size < w3_57.heap.size := by subst hW15; simp
      have hx7 : Ext w3_52 w3_57 := by subst hW15; exact qXt
      replace Yw3_48 := Yw3_48.trans hx7
      replace Yw3_52 := Yw3_52.trans hx7
      replace X3 := X3.trans hx7
      clear hx7
      have b3_580 : w3_57.cell? ⟨w3_52.heap.size, 0, none⟩ = some (.int .i64 0) := by subst hW15; exact qCl
      have f_b3_580 : w3_57.frozen? ⟨w3_52.heap.size, 0, none⟩ = false := by subst hW15; exact qFz
      have b3_581 : w3_57.cell? ⟨w3_52.heap.size, 1, none⟩ = some (.slice none 0 0) := by subst hW15; exact qCl
      have f_b3_581 : w3_57.frozen? ⟨w3_52.heap.size, 1, none⟩ = false := by subst hW15; exact qFz
      have b3_582 : w3_57.cell? ⟨w3_52.heap.size, 2, none⟩ = some (.slice none 0 0) := by subst hW15; exact qCl
      have f_b3_582 : w3_57.frozen? ⟨w3_52.heap.size, 2, none⟩ = false := by subst hW15; exact qFz
      have z_b3_58 : w3_52.heap.size < w3_57.heap.size := by subst hW15; exact S_w3_57
      have Yw3_57 := Ext.refl w3_57
      clear hW15
      refine qHr 10 rfl (fun K hK => ?_)
      try simp only [Act.put, qa, qb, qc, qD, qE, qF]
      replace b3_580 := Yw3_57.cell b3_580
      replace b3_581 := Yw3_57.cell b3_581
      replace b3_582 := Yw3_57.cell b3_582
      replace f_b3_580 := Yw3_57.frz z_b3_58 f_b3_580
      replace f_b3_581 := Yw3_57.frz z_b3_58 f_b3_581
      replace f_b3_582 := Yw3_57.frz z_b3_58 f_b3_582
      go_simp
      have zz := X3.size
      have K3 : Chg w3_52.heap.size (w3_52.heap.size + 1) w3_57 (((w3_57.setCell ⟨w3_52.heap.size, 0, none⟩ (.int .i64 b1)).setCell ⟨w3_52.heap.size, 1, none⟩ (.slice (some ⟨g3_55, 0, none⟩) u.length r3_56)).setCell ⟨w3_52.heap.size, 2, none⟩ (.slice (some ⟨w2.heap.size, 0, none⟩) u.length u.length)) := (Chg.setCell (p := ⟨w3_52.heap.size, 2, none⟩) (Chg.setCell (p := ⟨w3_52.heap.size, 1, none⟩) (Chg.setCell (p := ⟨w3_52.heap.size, 0, none⟩) (Chg.refl w3_52.heap.size (w3_52.heap.size + 1) w3_57) (Nat.le_refl _) (Nat.lt_succ_self _) _) (Nat.le_refl _) (Nat.lt_succ_self _) _) (Nat.le_refl _) (Nat.lt_succ_self _) _)
      have n_b3_580 : (((w3_57.setCell ⟨w3_52.heap.size, 0, none⟩ (.int .i64 b1)).setCell ⟨w3_52.heap.size, 1, none⟩ (.slice (some ⟨g3_55, 0, none⟩) u.length r3_56)).setCell ⟨w3_52.heap.size, 2, none⟩ (.slice (some ⟨w2.heap.size, 0, none⟩) u.length u.length)).cell? ⟨w3_52.heap.size, 0, none⟩ = some (.int .i64 b1) := by go_simp
      replace f_b3_580 : (((w3_57.setCell ⟨w3_52.heap.size, 0, none⟩ (.int .i64 b1)).setCell ⟨w3_52.heap.size, 1, none⟩ (.slice (some ⟨g3_55, 0, none⟩) u.length r3_56)).setCell ⟨w3_52.heap.size, 2, none⟩ (.slice (some ⟨w2.heap.size, 0, none⟩) u.length u.length)).frozen? ⟨w3_52.heap.size, 0, none⟩ = false := by go_simp
      have n_b3_581 : (((w3_57.setCell ⟨w3_52.heap.size, 0, none⟩ (.int .i64 b1)).setCell ⟨w3_52.heap.size, 1, none⟩ (.slice (some ⟨g3_55, 0, none⟩) u.length r3_56)).setCell ⟨w3_52.heap.size, 2, none⟩ (.slice (some ⟨w2.heap.size, 0, none⟩) u.length u.length)).cell? ⟨w3_52.heap.size, 1, none⟩ = some (.slice (some ⟨g3_55, 0, none⟩) u.length r3_56) := by go_simp
      replace f_b3_581 : (((w3_57.setCell ⟨w3_52.heap.size, 0, none⟩ (.int .i64 b1)).setCell ⟨w3_52.heap.size, 1, none⟩ (.slice (some ⟨g3_55, 0, none⟩) u.length r3_56)).setCell ⟨w3_52.heap.size, 2, none⟩ (.slice (some ⟨w2.heap.size, 0, none⟩) u.length u.length)).frozen? ⟨w3_52.heap.size, 1, none⟩ = false := by go_simp
      have n_b3_582 : (((w3_57.setCell ⟨w3_52.heap.size, 0, none⟩ (.int .i64 b1)).setCell ⟨w3_52.heap.size, 1, none⟩ (.slice (some ⟨g3_55, 0, none⟩) u.length r3_56)).setCell ⟨w3_52.heap.size, 2, none⟩ (.slice (some ⟨w2.heap.size, 0, none⟩) u.length u.length)).cell? ⟨w3_52.heap.size, 2, none⟩ = some (.slice (some ⟨w2.heap.size, 0, none⟩) u.length u.length) := by go_simp
      replace f_b3_582 : (((w3_57.setCell ⟨w3_52.heap.size, 0, none⟩ (.int .i64 b1)).setCell ⟨w3_52.heap.size, 1, none⟩ (.slice (some ⟨g3_55, 0, none⟩) u.length r3_56)).setCell ⟨w3_52.heap.size, 2, none⟩ (.slice (some ⟨w2.heap.size, 0, none⟩) u.length u.length)).frozen? ⟨w3_52.heap.size, 2, none⟩ = false := by go_simp
      replace b3_580 := n_b3_580
      clear n_b3_580
      replace b3_581 := n_b3_581
      clear n_b3_581
      replace b3_582 := n_b3_582
      clear n_b3_582
      replace O3_49 := (O3_49.ext Yw3_48).chgN K3 (by omega)
      replace O3_53 := (O3_53.ext Yw3_52).chgN K3 (by omega)
      replace X3 : Ext w2 (((w3_57.setCell ⟨w3_52.heap.size, 0, none⟩ (.int .i64 b1)).setCell ⟨w3_52.heap.size, 1, none⟩ (.slice (some ⟨g3_55, 0, none⟩) u.length r3_56)).setCell ⟨w3_52.heap.size, 2, none⟩ (.slice (some ⟨w2.heap.size, 0, none⟩) u.length u.length)) := (Ext.setCell (p := ⟨w3_52.heap.size, 2, none⟩) (Ext.setCell (p := ⟨w3_52.heap.size, 1, none⟩) (Ext.setCell (p := ⟨w3_52.heap.size, 0, none⟩) X3 (by dsimp only; omega) _) (by dsimp only; omega) _) (by dsimp only; omega) _)
      clear zz K3
      have S_st : w3_57.heap.size ≤ (((w3_57.setCell ⟨w3_52.heap.size, 0, none⟩ (.int .i64 b1)).setCell ⟨w3_52.heap.size, 1, none⟩ (.slice (some ⟨g3_55, 0, none⟩) u.length r3_56)).setCell ⟨w3_52.heap.size, 2, none⟩ (.slice (some ⟨w2.heap.size, 0, none⟩) u.length u.length)).heap.size := by simp
      refine hK.out _ ((((w3_57.setCell ⟨w3_52.heap.size, 0, none⟩ (.int .i64 b1)).setCell ⟨w3_52.heap.size, 1, none⟩ (.slice (some ⟨g3_55, 0, none⟩) u.length r3_56)).setCell ⟨w3_52.heap.size, 2, none⟩ (.slice (some ⟨w2.heap.size, 0, none⟩) u.length u.length))) ((show Ext w2 ((((w3_57.setCell ⟨w3_52.heap.size, 0, none⟩ (.int .i64 b1)).setCell ⟨w3_52.heap.size, 1, none⟩ (.slice (some ⟨g3_55, 0, none⟩) u.length r3_56)).setCell ⟨w3_52.heap.size, 2, none⟩ (.slice (some ⟨w2.heap.size, 0, none⟩) u.length u.length))) from qXt).cell b10) (fun hHeld => ?_)
      clear hK K
      try simp only [Act.put, qa, qb, qc, qD, qE, qF]
      refine wpAnyH_done qKr ?_ _
      clear hHeld
      have zz := X3.size
      go_step
      go_step
      go_meet
      case rel => exact ⟨g3_55, r3_56, w2.heap.size, w3_52.heap.size, rfl, X3, (by omega), (by omega), (by omega), (by omega), (by omega), (by omega), (by omega), (by omega), (by omega), (O3_53).lower (by omega), (O3_49).lower (by omega), b3_580, f_b3_580, b3_581, f_b3_581, b3_582, f_b3_582⟩
     ·
      try simp only [Act.put, qa, qb, qc, qD, qE, qF]
      go_simp
      refine hK.out _ (w3_50.alloc (.cells #[.int .i64 0, .slice none 0 0, .slice none 0 0] 36)) ((show Ext w2 (w3_50.alloc (.cells #[.int .i64 0, .slice none 0 0, .slice none 0 0] 36)) from qXt).cell b10) (fun hHeld => ?_)
      clear hK K
      try simp only [Act.put, qa, qb, qc, qD, qE, qF]
      generalize hW16 : w3_50.alloc (.cells #[.int .i64 0, .slice none 0 0, .slice none 0 0] 36) = w3_59 at *
      have S_w3_59 : w3_50.heap.size < w3_59.heap.size := by subst hW16; simp
      have hx7 : Ext w3_50 w3_59 := by subst hW16; exact qXt
      replace Yw3_48 := Yw3_48.trans hx7
      replace Yw3_50 := Yw3_50.trans hx7
      replace X3 := X3.trans hx7
      clear hx7
      have b3_600 : w3_59.cell? ⟨w3_50.heap.size, 0, none⟩ = some (.int .i64 0) := by subst hW16; exact qCl
      have f_b3_600 : w3_59.frozen? ⟨w3_50.heap.size, 0, none⟩ = false := by subst hW16; exact qFz
      have b3_601 : w3_59.cell? ⟨w3_50.heap.size, 1, none⟩ = some (.slice none 0 0) := by subst hW16; exact qCl
      have f_b3_601 : w3_59.frozen? ⟨w3_50.heap.size, 1, none⟩ = false := by subst hW16; exact qFz
      have b3_602 : w3_59.cell? ⟨w3_50.heap.size, 2, none⟩ = some (.slice none 0 0) := by subst hW16; exact qCl
      have f_b3_602 : w3_59.frozen? ⟨w3_50.heap.size, 2, none⟩ = false := by subst hW16; exact qFz
      have z_b3_60 : w3_50.heap.size < w3_59.heap.size := by subst hW16; exact S_w3_59
      have Yw3_59 := Ext.refl w3_59
      clear hW16
      refine qHr 4 rfl (fun K hK => ?_)
      refine step_app0O rfl (.tmp 19) (.tmp 20) rfl rfl rfl (O3_51.ext Yw3_50) (by omega) (by exact ((h3.ext Xw2).ext (show Ext w2 w3_59 from qXt))) ?_
      intro g3_64 r3_65 w3_61 O3_62 x3_63 Eg3_64 Hg3_64
      have S_w3_61 : w3_59.heap.size ≤ w3_61.heap.size := x3_63.size
      replace Yw3_48 := Yw3_48.trans x3_63
      replace Yw3_50 := Yw3_50.trans x3_63
      replace Yw3_59 := Yw3_59.trans x3_63
      replace X3 := X3.trans x3_63
      have Yw3_61 := Ext.refl w3_61
      clear x3_63
      refine hK.out _ w3_61 ((show Ext w2 w3_61 from qXt).cell b10) (fun hHeld => ?_)
      clear hK K
      try simp only [Act.put, qa, qb, qc, qD, qE, qF]
      refine qHk (v := ?_) 8 rfl (.inl ⟨by rfl, ?_⟩) ?_
      rotate_left
      ·
       (intro w hSw; (try dsimp only at hSw); go_simp; try with_reducible rfl)
      try simp only [Act.put, qa, qb, qc, qD, qE, qF]
      refine qHr 10 rfl (fun K hK => ?_)
      try simp only [Act.put, qa, qb, qc, qD, qE, qF]
      replace b3_600 := Yw3_59.cell b3_600
      replace b3_601 := Yw3_59.cell b3_601
      replace b3_602 := Yw3_59.cell b3_602
      replace f_b3_600 := Yw3_59.frz z_b3_60 f_b3_600
      replace f_b3_601 := Yw3_59.frz z_b3_60 f_b3_601
      replace f_b3_602 := Yw3_59.frz z_b3_60 f_b3_602
      go_simp
      have zz := X3.size
      have K3 : Chg w3_50.heap.size (w3_50.heap.size + 1) w3_61 (((w3_61.setCell ⟨w3_50.heap.size, 0, none⟩ (.int .i64 b1)).setCell ⟨w3_50.heap.size, 1, none⟩ (.slice (some ⟨g3_64, 0, none⟩) u.length r3_65)).setCell ⟨w3_50.heap.size, 2, none⟩ (.slice (some ⟨w2.heap.size, 0, none⟩) u.length u.length)) := (Chg.setCell (p := ⟨w3_50.heap.size, 2, none⟩) (Chg.setCell (p := ⟨w3_50.heap.size, 1, none⟩) (Chg.setCell (p := ⟨w3_50.heap.size, 0, none⟩) (Chg.refl w3_50.heap.size (w3_50.heap.size + 1) w3_61) (Nat.le_refl _) (Nat.lt_succ_self _) _) (Nat.le_refl _) (Nat.lt_succ_self _) _) (Nat.le_refl _) (Nat.lt_succ_self _) _)
      have n_b3_600 : (((w3_61.setCell ⟨w3_50.heap.size, 0, none⟩ (.int .i64 b1)).setCell ⟨w3_50.heap.size, 1, none⟩ (.slice (some ⟨g3_64, 0, none⟩) u.length r3_65)).setCell ⟨w3_50.heap.size, 2, none⟩ (.slice (some ⟨w2.heap.size, 0, none⟩) u.length u.length)).cell? ⟨w3_50.heap.size, 0, none⟩ = some (.int .i64 b1) := by go_simp
      replace f_b3_600 : (((w3_61.setCell ⟨w3_50.heap.size, 0, none⟩ (.int .i64 b1)).setCell ⟨w3_50.heap.size, 1, none⟩ (.slice (some ⟨g3_64, 0, none⟩) u.length r3_65)).setCell ⟨w3_50.heap.size, 2, none⟩ (.slice (some ⟨w2.heap.size, 0, none⟩) u.length u.length)).frozen? ⟨w3_50.heap.size, 0, none⟩ = false := by go_simp
      have n_b3_601 : (((w3_61.setCell ⟨w3_50.heap.size, 0, none⟩ (.int .i64 b1)).setCell ⟨w3_50.heap.size, 1, none⟩ (.slice (some ⟨g3_64, 0, none⟩) u.length r3_65)).setCell ⟨w3_50.heap.size, 2, none⟩ (.slice (some ⟨w2.heap.size, 0, none⟩) u.length u.length)).cell? ⟨w3_50.heap.size, 1, none⟩ = some (.slice (some ⟨g3_64, 0, none⟩) u.length r3_65) := by go_simp
      replace f_b3_601 : (((w3_61.setCell ⟨w3_50.heap.size, 0, none⟩ (.int .i64 b1)).setCell ⟨w3_50.heap.size, 1, none⟩ (.slice (some ⟨g3_64, 0, none⟩) u.length r3_65)).setCell ⟨w3_50.heap.size, 2, none⟩ (.slice (some ⟨w2.heap.size, 0, none⟩) u.length u.length)).frozen? ⟨w3_50.heap.size, 1, none⟩ = false := by go_simp
      have n_b3_602 : (((w3_61.setCell ⟨w3_50.heap.size, 0, none⟩ (.int .i64 b1)).setCell ⟨w3_50.heap.size, 1, none⟩ (.slice (some ⟨g3_64, 0, none⟩) u.length r3_65)).setCell ⟨w3_50.heap.size, 2, none⟩ (.slice (some ⟨w2.heap.size, 0, none⟩) u.length u.length)).cell? ⟨w3_50.heap.size, 2, none⟩ = some (.slice (some ⟨w2.heap.size, 0, none⟩) u.length u.length) := by go_simp
      replace f_b3_602 : (((w3_61.setCell ⟨w3_50.heap.size, 0, none⟩ (.int .i64 b1)).setCell ⟨w3_50.heap.size, 1, none⟩ (.slice (some ⟨g3_64, 0, none⟩) u.length r3_65)).setCell ⟨w3_50.heap.size, 2, none⟩ (.slice (some ⟨w2.heap.size, 0, none⟩) u.length u.length)).frozen? ⟨w3_50.heap.size, 2, none⟩ = false := by go_simp
      replace b3_600 := n_b3_600
      clear n_b3_600
      replace b3_601 := n_b3_601
      clear n_b3_601
      replace b3_602 := n_b3_602
      clear n_b3_602
      replace O3_49 := (O3_49.ext Yw3_48).chgN K3 (by omega)
      replace O3_62 := (O3_62.ext Yw3_61).chgN K3 (by omega)
      replace X3 : Ext w2 (((w3_61.setCell ⟨w3_50.heap.size, 0, none⟩ (.int .i64 b1)).setCell ⟨w3_50.heap.size, 1, none⟩ (.slice (some ⟨g3_64, 0, none⟩) u.length r3_65)).setCell ⟨w3_50.heap.size, 2, none⟩ (.slice (some ⟨w2.heap.size, 0, none⟩) u.length u.length)) := (Ext.setCell (p := ⟨w3_50.heap.size, 2, none⟩) (Ext.setCell (p := ⟨w3_50.heap.size, 1, none⟩) (Ext.setCell (p := ⟨w3_50.heap.size, 0, none⟩) X3 (by dsimp only; omega) _) (by dsimp only; omega) _) (by dsimp only; omega) _)
      clear zz K3
      have S_st : w3_61.heap.size ≤ (((w3_61.setCell ⟨w3_50.heap.size, 0, none⟩ (.int .i64 b1)).setCell ⟨w3_50.heap.size, 1, none⟩ (.slice (some ⟨g3_64, 0, none⟩) u.length r3_65)).setCell ⟨w3_50.heap.size, 2, none⟩ (.slice (some ⟨w2.heap.size, 0, none⟩) u.length u.length)).heap.size := by simp
      refine hK.out _ ((((w3_61.setCell ⟨w3_50.heap.size, 0, none⟩ (.int .i64 b1)).setCell ⟨w3_50.heap.size, 1, none⟩ (.slice (some ⟨g3_64, 0, none⟩) u.length r3_65)).setCell ⟨w3_50.heap.size, 2, none⟩ (.slice (some ⟨w2.heap.size, 0, none⟩) u.length u.length))) ((show Ext w2 ((((w3_61.setCell ⟨w3_50.heap.size, 0, none⟩ (.int .i64 b1)).setCell ⟨w3_50.heap.size, 1, none⟩ (.slice (some ⟨g3_64, 0, none⟩) u.length r3_65)).setCell ⟨w3_50.heap.size, 2, none⟩ (.slice (some ⟨w2.heap.size, 0, none⟩) u.length u.length))) from qXt).cell b10) (fun hHeld => ?_)
      clear hK K
      try simp only [Act.put, qa, qb, qc, qD, qE, qF]
      refine wpAnyH_done qKr ?_ _
      clear hHeld
      have zz := X3.size
      go_step
      go_step
      go_meet
      case rel => exact ⟨g3_64, r3_65, w2.heap.size, w3_50.heap.size, rfl, X3, (by omega), (by omega), (by omega), (by omega), (by omega), (by omega), (by omega), (by omega), (by omega), (O3_62).lower (by omega), (O3_49).lower (by omega), b3_600, f_b3_600, b3_601, f_b3_601, b3_602, f_b3_602⟩
    ·
     try simp only [Act.put, qa, qb, qc, qD, qE, qF]
     go_simp
     refine hK.out _ (w3_48.alloc (.cells #[.int .i64 0, .slice none 0 0, .slice none 0 0] 36)) ((show Ext w2 (w3_48.alloc (.cells #[.int .i64 0, .slice none 0 0, .slice none 0 0] 36)) from qXt).cell b10) (fun hHeld => ?_)
     clear hK K
     try simp only [Act.put, qa, qb, qc, qD, qE, qF]
     generalize hW17 : w3_48.alloc (.cells #[.int .i64 0, .slice none 0 0, .slice none 0 0] 36) = w3_66 at *
     have S_w3_66 : w3_48.heap.size < w3_66.heap.size := by subst hW17; simp
     have hx7 : Ext w3_48 w3_66 := by subst hW17; exact qXt
     replace Yw3_48 := Yw3_48.trans hx7
     replace X3 := X3.trans hx7
     clear hx7
     have b3_670 : w3_66.cell? ⟨w3_48.heap.size, 0, none⟩ = some (.int .i64 0) := by subst hW17; exact qCl
     have f_b3_670 : w3_66.frozen? ⟨w3_48.heap.size, 0, none⟩ = false := by subst hW17; exact qFz
     have b3_671 : w3_66.cell? ⟨w3_48.heap.size, 1, none⟩ = some (.slice none 0 0) := by subst hW17; exact qCl
     have f_b3_671 : w3_66.frozen? ⟨w3_48.heap.size, 1, none⟩ = false := by subst hW17; exact qFz
     have b3_672 : w3_66.cell? ⟨w3_48.heap.size, 2, none⟩ = some (.slice none 0 0) := by subst hW17; exact qCl
     have f_b3_672 : w3_66.frozen? ⟨w3_48.heap.size, 2, none⟩ = false := by subst hW17; exact qFz
     have z_b3_67 : w3_48.heap.size < w3_66.heap.size := by subst hW17; exact S_w3_66
     have Yw3_66 := Ext.refl w3_66
     clear hW17
     refine qHr 2 rfl (fun K hK => ?_)
     try simp only [Act.put, qa, qb, qc, qD, qE, qF]
     go_simp
     refine hK.out _ (w3_66.alloc (.cells #[] 3)) ((show Ext w2 (w3_66.alloc (.cells #[] 3)) from qXt).cell b10) (fun hHeld => ?_)
     clear hK K
     try simp only [Act.put, qa, qb, qc, qD, qE, qF]
     generalize hW18 : w3_66.alloc (.cells #[] 3) = w3_68 at *
     have S_w3_68 : w3_66.heap.size < w3_68.heap.size := by subst hW18; simp
     have hx7 : Ext w3_66 w3_68 := by subst hW18; exact qXt
     replace Yw3_48 := Yw3_48.trans hx7
     replace Yw3_66 := Yw3_66.trans hx7
     replace X3 := X3.trans hx7
     clear hx7
     have O3_69 : OwnI w3_68 w3_66.heap.size (.slice (some ⟨w3_66.heap.size, 0, none⟩) 0 0) [] := by subst hW18; exact OwnI.lit0 _ _ (by simp)
     have Yw3_68 := Ext.refl w3_68
     clear hW18
     refine qHr 4 rfl (fun K hK => ?_)
     refine step_app0O rfl (.tmp 19) (.tmp 20) rfl rfl rfl (O3_69.ext Yw3_68) (by omega) (by exact ((h3.ext Xw2).ext (show Ext w2 w3_68 from qXt))) ?_
     intro g3_73 r3_74 w3_70 O3_71 x3_72 Eg3_73 Hg3_73
     have S_w3_70 : w3_68.heap.size ≤ w3_70.heap.size := x3_72.size
     replace Yw3_48 := Yw3_48.trans x3_72
     replace Yw3_66 := Yw3_66.trans x3_72
     replace Yw3_68 := Yw3_68.trans x3_72
     replace X3 := X3.trans x3_72
     have Yw3_70 := Ext.refl w3_70
     clear x3_72
     refine hK.out _ w3_70 ((show Ext w2 w3_70 from qXt).cell b10) (fun hHeld => ?_)
     clear hK K
     try simp only [Act.put, qa, qb, qc, qD, qE, qF]
     refine qHk (v := ?_) 8 rfl (.inl ⟨by rfl, ?_⟩) ?_
     rotate_left
     ·
      (intro w hSw; (try dsimp only at hSw); go_simp; try with_reducible rfl)
     try simp only [Act.put, qa, qb, qc, qD, qE, qF]
     refine qHr 10 rfl (fun K hK => ?_)
     try simp only [Act.put, qa, qb, qc, qD, qE, qF]
     replace b3_670 := Yw3_66.cell b3_670
     replace b3_671 := Yw3_66.cell b3_671
     replace b3_672 := Yw3_66.cell b3_672
     replace f_b3_670 := Yw3_66.frz z_b3_67 f_b3_670
     replace f_b3_671 := Yw3_66.frz z_b3_67 f_b3_671
     replace f_b3_672 := Yw3_66.frz z_b3_67 f_b3_672
     go_simp
     have zz := X3.size
     have K3 : Chg w3_48.heap.size (w3_48.heap.size + 1) w3_70 (((w3_70.setCell ⟨w3_48.heap.size, 0, none⟩ (.int .i64 b1)).setCell ⟨w3_48.heap.size, 1, none⟩ (.slice (some ⟨g3_73, 0, none⟩) u.length r3_74)).setCell ⟨w3_48.heap.size, 2, none⟩ (.slice (some ⟨w2.heap.size, 0, none⟩) u.length u.length)) := (Chg.setCell (p := ⟨w3_48.heap.size, 2, none⟩) (Chg.setCell (p := ⟨w3_48.heap.size, 1, none⟩) (Chg.setCell (p := ⟨w3_48.heap.size, 0, none⟩) (Chg.refl w3_48.heap.size (w3_48.heap.size + 1) w3_70) (Nat.le_refl _) (Nat.lt_succ_self _) _) (Nat.le_refl _) (Nat.lt_succ_self _) _) (Nat.le_refl _) (Nat.lt_succ_self _) _)
     have n_b3_670 : (((w3_70.setCell ⟨w3_48.heap.size, 0, none⟩ (.int .i64 b1)).setCell ⟨w3_48.heap.size, 1, none⟩ (.slice (some ⟨g3_73, 0, none⟩) u.length r3_74)).setCell ⟨w3_48.heap.size, 2, none⟩ (.slice (some ⟨w2.heap.size, 0, none⟩) u.length u.length)).cell? ⟨w3_48.heap.size, 0, none⟩ = some (.int .i64 b1) := by go_simp
     replace f_b3_670 : (((w3_70.setCell ⟨w3_48.heap.size, 0, none⟩ (.int .i64 b1)).setCell ⟨w3_48.heap.size, 1, none⟩ (.slice (some ⟨g3_73, 0, none⟩) u.length r3_74)).setCell ⟨w3_48.heap.size, 2, none⟩ (.slice (some ⟨w2.heap.size, 0, none⟩) u.length u.length)).frozen? ⟨w3_48.heap.size, 0, none⟩ = false := by go_simp
     have n_b3_671 : (((w3_70.setCell ⟨w3_48.heap.size, 0, none⟩ (.int .i64 b1)).setCell ⟨w3_48.heap.size, 1, none⟩ (.slice (some ⟨g3_73, 0, none⟩) u.length r3_74)).setCell ⟨w3_48.heap.size, 2, none⟩ (.slice (some ⟨w2.heap.size, 0, none⟩) u.length u.length)).cell? ⟨w3_48.heap.size, 1, none⟩ = some (.slice (some ⟨g3_73, 0, none⟩) u.length r3_74) := by go_simp
     replace f_b3_671 : (((w3_70.setCell ⟨w3_48.heap.size, 0, none⟩ (.int .i64 b1)).setCell ⟨w3_48.heap.size, 1, none⟩ (.slice (some ⟨g3_73, 0, none⟩) u.length r3_74)).setCell ⟨w3_48.heap.size, 2, none⟩ (.slice (some ⟨w2.heap.size, 0, none⟩) u.length u.length)).frozen? ⟨w3_48.heap.size, 1, none⟩ = false := by go_simp
     have n_b3_672 : (((w3_70.setCell ⟨w3_48.heap.size, 0, none⟩ (.int .i64 b1)).setCell ⟨w3_48.heap.size, 1, none⟩ (.slice (some ⟨g3_73, 0, none⟩) u.length r3_74)).setCell ⟨w3_48.heap.size, 2, none⟩ (.slice (some ⟨w2.heap.size, 0, none⟩) u.length u.length)).cell? ⟨w3_48.heap.size, 2, none⟩ = some (.slice (some ⟨w2.heap.size, 0, none⟩) u.length u.length) := by go_simp
     replace f_b3_672 : (((w3_70.setCell ⟨w3_48.heap.size, 0, none⟩ (.int .i64 b1)).setCell ⟨w3_48.heap.size, 1, none⟩ (.slice (some ⟨g3_73, 0, none⟩) u.length r3_74)).setCell ⟨w3_48.heap.size, 2, none⟩ (.slice (some ⟨w2.heap.size, 0, none⟩) u.length u.length)).frozen? ⟨w3_48.heap.size, 2, none⟩ = false := by go_simp
     replace b3_670 := n_b3_670
     clear n_b3_670
     replace b3_671 := n_b3_671
     clear n_b3_671
     replace b3_672 := n_b3_672
     clear n_b3_672
     replace O3_49 := (O3_49.ext Yw3_48).chgN K3 (by omega)
     replace O3_71 := (O3_71.ext Yw3_70).chgN K3 (by omega)
     replace X3 : Ext w2 (((w3_70.setCell ⟨w3_48.heap.size, 0, none⟩ (.int .i64 b1)).setCell ⟨w3_48.heap.size, 1, none⟩ (.slice (some ⟨g3_73, 0, none⟩) u.length r3_74)).setCell ⟨w3_48.heap.size, 2, none⟩ (.slice (some ⟨w2.heap.size, 0, none⟩) u.length u.length)) := (Ext.setCell (p := ⟨w3_48.heap.size, 2, none⟩) (Ext.setCell (p := ⟨w3_48.heap.size, 1, none⟩) (Ext.setCell (p := ⟨w3_48.heap.size, 0, none⟩) X3 (by dsimp only; omega) _) (by dsimp only; omega) _) (by dsimp only; omega) _)
     clear zz K3
     have S_st : w3_70.heap.size ≤ (((w3_70.setCell ⟨w3_48.heap.size, 0, none⟩ (.int .i64 b1)).setCell ⟨w3_48.heap.size, 1, none⟩ (.slice (some ⟨g3_73, 0, none⟩) u.length r3_74)).setCell ⟨w3_48.heap.size, 2, none⟩ (.slice (some ⟨w2.heap.size, 0, none⟩) u.length u.length)).heap.size := by simp
     refine hK.out _ ((((w3_70.setCell ⟨w3_48.heap.size, 0, none⟩ (.int .i64 b1)).setCell ⟨w3_48.heap.size, 1, none⟩ (.slice (some ⟨g3_73, 0, none⟩) u.length r3_74)).setCell ⟨w3_48.heap.size, 2, none⟩ (.slice (some ⟨w2.heap.size, 0, none⟩) u.length u.length))) ((show Ext w2 ((((w3_70.setCell ⟨w3_48.heap.size, 0, none⟩ (.int .i64 b1)).setCell ⟨w3_48.heap.size, 1, none⟩ (.slice (some ⟨g3_73, 0, none⟩) u.length r3_74)).setCell ⟨w3_48.heap.size, 2, none⟩ (.slice (some ⟨w2.heap.size, 0, none⟩) u.length u.length))) from qXt).cell b10) (fun hHeld => ?_)
     clear hK K
     try simp only [Act.put, qa, qb, qc, qD, qE, qF]
     refine wpAnyH_done qKr ?_ _
     clear hHeld
     have zz := X3.size
     go_step
     go_step
     go_meet
     case rel => exact ⟨g3_73, r3_74, w2.heap.size, w3_48.heap.size, rfl, X3, (by omega), (by omega), (by omega), (by omega), (by omega), (by omega), (by omega), (by omega), (by omega), (O3_71).lower (by omega), (O3_49).lower (by omega), b3_670, f_b3_670, b3_671, f_b3_671, b3_672, f_b3_672⟩
   ·
    try simp only [Act.put, qa, qb, qc, qD, qE, qF]
    go_simp
    refine hK.out _ (w2.drew.alloc (.cells #[.int .i64 0, .slice none 0 0, .slice none 0 0] 36)) ((show Ext w2 (w2.drew.alloc (.cells #[.int .i64 0, .slice none 0 0, .slice none 0 0] 36)) from qXt).cell b10) (fun hHeld => ?_)
    clear hK K
    try simp only [Act.put, qa, qb, qc, qD, qE, qF]
    generalize hW19 : w2.drew.alloc (.cells #[.int .i64 0, .slice none 0 0, .slice none 0 0] 36) = w3_75 at *
    have S_w3_75 : w2.heap.size < w3_75.heap.size := by subst hW19; simp
    have hx7 : Ext w2 w3_75 := by subst hW19; exact qXt
    replace X3 := X3.trans hx7
    clear hx7
    have b3_760 : w3_75.cell? ⟨w2.heap.size, 0, none⟩ = some (.int .i64 0) := by subst hW19; exact qCl
    have f_b3_760 : w3_75.frozen? ⟨w2.heap.size, 0, none⟩ = false := by subst hW19; exact qFz
    have b3_761 : w3_75.cell? ⟨w2.heap.size, 1, none⟩ = some (.slice none 0 0) := by subst hW19; exact qCl
    have f_b3_761 : w3_75.frozen? ⟨w2.heap.size, 1, none⟩ = false := by subst hW19; exact qFz
    have b3_762 : w3_75.cell? ⟨w2.heap.size, 2, none⟩ = some (.slice none 0 0) := by subst hW19; exact qCl
    have f_b3_762 : w3_75.frozen? ⟨w2.heap.size, 2, none⟩ = false := by subst hW19; exact qFz
    have z_b3_76 : w2.heap.size < w3_75.heap.size := by subst hW19; exact S_w3_75
    have Yw3_75 := Ext.refl w3_75
    clear hW19
    refine wpAnyH_ready (rs := [2, 7]) qKr (by simp) ?_
    refine AllReadyH.cons rfl (fun K hK => ?_) (AllReadyH.cons rfl (fun K hK => ?_) AllReadyH.nil)
    ·
     try simp only [Act.put, qa, qb, qc, qD, qE, qF]
     go_simp
     refine hK.out _ (w3_75.alloc (.cells #[] 3)) ((show Ext w2 (w3_75.alloc (.cells #[] 3)) from qXt).cell b10) (fun hHeld => ?_)
     clear hK K
     try simp only [Act.put, qa, qb, qc, qD, qE, qF]
     generalize hW20 : w3_75.alloc (.cells #[] 3) = w3_77 at *
     have S_w3_77 : w3_75.heap.size < w3_77.heap.size := by subst hW20; simp
     have hx7 : Ext w3_75 w3_77 := by subst hW20; exact qXt
     replace Yw3_75 := Yw3_75.trans hx7
     replace X3 := X3.trans hx7
     clear hx7
     have O3_78 : OwnI w3_77 w3_75.heap.size (.slice (some ⟨w3_75.heap.size, 0, none⟩) 0 0) [] := by subst hW20; exact OwnI.lit0 _ _ (by simp)
     have Yw3_77 := Ext.refl w3_77
     clear hW20
     refine wpAnyH_ready (rs := [4, 7]) qKr (by simp) ?_
     refine AllReadyH.cons rfl (fun K hK => ?_) (AllReadyH.cons rfl (fun K hK => ?_) AllReadyH.nil)
     ·
      refine step_app0O rfl (.tmp 19) (.tmp 20) rfl rfl rfl (O3_78.ext Yw3_77) (by omega) (by exact ((h3.ext Xw2).ext (show Ext w2 w3_77 from qXt))) ?_
      intro g3_82 r3_83 w3_79 O3_80 x3_81 Eg3_82 Hg3_82
      have S_w3_79 : w3_77.heap.size ≤ w3_79.heap.size := x3_81.size
      replace Yw3_75 := Yw3_75.trans x3_81
      replace Yw3_77 := Yw3_77.trans x3_81
      replace X3 := X3.trans x3_81
      have Yw3_79 := Ext.refl w3_79
      clear x3_81
      refine hK.out _ w3_79 ((show Ext w2 w3_79 from qXt).cell b10) (fun hHeld => ?_)
      clear hK K
      try simp only [Act.put, qa, qb, qc, qD, qE, qF]
      refine qHr 7 rfl (fun K hK => ?_)
      try simp only [Act.put, qa, qb, qc, qD, qE, qF]
      have hmk := mk_ints u.length (by omega)
      go_simp
      refine hK.out _ (w3_79.alloc (.cells (madeCells #[Value.int .i64 0] u.length) 3)) ((show Ext w2 (w3_79.alloc (.cells (madeCells #[Value.int .i64 0] u.length) 3)) from qXt).cell b10) (fun hHeld => ?_)
      clear hK K hmk
      try simp only [Act.put, qa, qb, qc, qD, qE, qF]
      generalize hW21 : w3_79.alloc (.cells (madeCells #[Value.int .i64 0] u.length) 3) = w3_84 at *
      have S_w3_84 : w3_79.heap.size < w3_84.heap.size := by subst hW21; simp
      have hx7 : Ext w3_79 w3_84 := by subst hW21; exact qXt
      replace Yw3_75 := Yw3_75.trans hx7
      replace Yw3_79 := Yw3_79.trans hx7
      replace X3 := X3.trans hx7
      clear hx7
      have O3_85 : OwnI w3_84 w3_79.heap.size (.slice (some ⟨w3_79.heap.size, 0, none⟩) u.length u.length) (List.replicate u.length 0) := by subst hW21; exact OwnI.made _ _ _ (by simp) (by omega)
      have Yw3_84 := Ext.refl w3_84
      clear hW21
      refine qHk (v := ?_) 8 rfl (.inl ⟨by rfl, ?_⟩) ?_
      rotate_left
      ·
       (intro w hSw; (try dsimp only at hSw); go_simp; try with_reducible rfl)
      try simp only [Act.put, qa, qb, qc, qD, qE, qF]
      refine qHr 10 rfl (fun K hK => ?_)
      try simp only [Act.put, qa, qb, qc, qD, qE, qF]
      replace b3_760 := Yw3_75.cell b3_760
      replace b3_761 := Yw3_75.cell b3_761
      replace b3_762 := Yw3_75.cell b3_762
      replace f_b3_760 := Yw3_75.frz z_b3_76 f_b3_760
      replace f_b3_761 := Yw3_75.frz z_b3_76 f_b3_761
      replace f_b3_762 := Yw3_75.frz z_b3_76 f_b3_762
      go_simp
      have zz := X3.size
      have K3 : Chg w2.heap.size (w2.heap.size + 1) w3_84 (((w3_84.setCell ⟨w2.heap.size, 0, none⟩ (.int .i64 b1)).setCell ⟨w2.heap.size, 1, none⟩ (.slice (some ⟨g3_82, 0, none⟩) u.length r3_83)).setCell ⟨w2.heap.size, 2, none⟩ (.slice (some ⟨w3_79.heap.size, 0, none⟩) u.length u.length)) := (Chg.setCell (p := ⟨w2.heap.size, 2, none⟩) (Chg.setCell (p := ⟨w2.heap.size, 1, none⟩) (Chg.setCell (p := ⟨w2.heap.size, 0, none⟩) (Chg.refl w2.heap.size (w2.heap.size + 1) w3_84) (Nat.le_refl _) (Nat.lt_succ_self _) _) (Nat.le_refl _) (Nat.lt_succ_self _) _) (Nat.le_refl _) (Nat.lt_succ_self _) _)
      have n_b3_760 : (((w3_84.setCell ⟨w2.heap.size, 0, none⟩ (.int .i64 b1)).setCell ⟨w2.heap.size, 1, none⟩ (.slice (some ⟨g3_82, 0, none⟩) u.length r3_83)).setCell ⟨w2.heap.size, 2, none⟩ (.slice (some ⟨w3_79.heap.size, 0, none⟩) u.length u.length)).cell? ⟨w2.heap.size, 0, none⟩ = some (.int .i64 b1) := by go_simp
      replace f_b3_760 : (((w3_84.setCell ⟨w2.heap.size, 0, none⟩ (.int .i64 b1)).setCell ⟨w2.heap.size, 1, none⟩ (.slice (some ⟨g3_82, 0, none⟩) u.length r3_83)).setCell ⟨w2.heap.size, 2, none⟩ (.slice (some ⟨w3_79.heap.size, 0, none⟩) u.length u.length)).frozen? ⟨w2.heap.size, 0, none⟩ = false := by go_simp
      have n_b3_761 : (((w3_84.setCell ⟨w2.heap.size, 0, none⟩ (.int .i64 b1)).setCell ⟨w2.heap.size, 1, none⟩ (.slice (some ⟨g3_82, 0, none⟩) u.length r3_83)).setCell ⟨w2.heap.size, 2, none⟩ (.slice (some ⟨w3_79.heap.size, 0, none⟩) u.length u.length)).cell? ⟨w2.heap.size, 1, none⟩ = some (.slice (some ⟨g3_82, 0, none⟩) u.length r3_83) := by go_simp
      replace f_b3_761 : (((w3_84.setCell ⟨w2.heap.size, 0, none⟩ (.int .i64 b1)).setCell ⟨w2.heap.size, 1, none⟩ (.slice (some ⟨g3_82, 0, none⟩) u.length r3_83)).setCell ⟨w2.heap.size, 2, none⟩ (.slice (some ⟨w3_79.heap.size, 0, none⟩) u.length u.length)).frozen? ⟨w2.heap.size, 1, none⟩ = false := by go_simp
      have n_b3_762 : (((w3_84.setCell ⟨w2.heap.size, 0, none⟩ (.int .i64 b1)).setCell ⟨w2.heap.size, 1, none⟩ (.slice (some ⟨g3_82, 0, none⟩) u.length r3_83)).setCell ⟨w2.heap.size, 2, none⟩ (.slice (some ⟨w3_79.heap.size, 0, none⟩) u.length u.length)).cell? ⟨w2.heap.size, 2, none⟩ = some (.slice (some ⟨w3_79.heap.size, 0, none⟩) u.length u.length) := by go_simp
      replace f_b3_762 : (((w3_84.setCell ⟨w2.heap.size, 0, none⟩ (.int .i64 b1)).setCell ⟨w2.heap.size, 1, none⟩ (.slice (some ⟨g3_82, 0, none⟩) u.length r3_83)).setCell ⟨w2.heap.size, 2, none⟩ (.slice (some ⟨w3_79.heap.size, 0, none⟩) u.length u.length)).frozen? ⟨w2.heap.size, 2, none⟩ = false := by go_simp
      replace b3_760 := n_b3_760
      clear n_b3_760
      replace b3_761 := n_b3_761
      clear n_b3_761
      replace b3_762 := n_b3_762
      clear n_b3_762
      replace O3_80 := (O3_80.ext Yw3_79).chgN K3 (by omega)
      replace O3_85 := (O3_85.ext Yw3_84).chgN K3 (by omega)
      replace X3 : Ext w2 (((w3_84.setCell ⟨w2.heap.size, 0, none⟩ (.int .i64 b1)).setCell ⟨w2.heap.size, 1, none⟩ (.slice (some ⟨g3_82, 0, none⟩) u.length r3_83)).setCell ⟨w2.heap.size, 2, none⟩ (.slice (some ⟨w3_79.heap.size, 0, none⟩) u.length u.length)) := (Ext.setCell (p := ⟨w2.heap.size, 2, none⟩) (Ext.setCell (p := ⟨w2.heap.size, 1, none⟩) (Ext.setCell (p := ⟨w2.heap.size, 0, none⟩) X3 (by dsimp only; omega) _) (by dsimp only; omega) _) (by dsimp only; omega) _)
      clear zz K3
      have S_st : w3_84.heap.size ≤ (((w3_84.setCell ⟨w2.heap.size, 0, none⟩ (.int .i64 b1)).setCell ⟨w2.heap.size, 1, none⟩ (.slice (some ⟨g3_82, 0, none⟩) u.length r3_83)).setCell ⟨w2.heap.size, 2, none⟩ (.slice (some ⟨w3_79.heap.size, 0, none⟩) u.length u.length)).heap.size := by simp
      refine hK.out _ ((((w3_84.setCell ⟨w2.heap.size, 0, none⟩ (.int .i64 b1)).setCell ⟨w2.heap.size, 1, none⟩ (.slice (some ⟨g3_82, 0, none⟩) u.length r3_83)).setCell ⟨w2.heap.size, 2, none⟩ (.slice (some ⟨w3_79.heap.size, 0, none⟩) u.length u.length))) ((show Ext w2 ((((w3_84.setCell ⟨w2.heap.size, 0, none⟩ (.int .i64 b1)).setCell ⟨w2.heap.size, 1, none⟩ (.slice (some ⟨g3_82, 0, none⟩) u.length r3_83)).setCell ⟨w2.heap.size, 2, none⟩ (.slice (some ⟨w3_79.heap.size, 0, none⟩) u.length u.length))) from qXt).cell b10) (fun hHeld => ?_)
      clear hK K
      try simp only [Act.put, qa, qb, qc, qD, qE, qF]
      refine wpAnyH_done qKr ?_ _
      clear hHeld
      have zz := X3.size
      go_step
      go_step
      go_meet
      case rel => exact ⟨g3_82, r3_83, w3_79.heap.size, w2.heap.size, rfl, X3, (by omega), (by omega), (by omega), (by omega), (by omega), (by omega), (by omega), (by omega), (by omega), (O3_80).lower (by omega), (O3_85).lower (by omega), b3_760, f_b3_760, b3_761, f_b3_761, b3_762, f_b3_762⟩
     ·
      try simp only [Act.put, qa, qb, qc, qD, qE, qF]
      have hmk := mk_ints u.length (by omega)
      go_simp
      refine hK.out _ (w3_77.alloc (.cells (madeCells #[Value.int .i64 0] u.length) 3)) ((show Ext w2 (w3_77.alloc (.cells (madeCells #[Value.int .i64 0] u.length) 3)) from qXt).cell b10) (fun hHeld => ?_)
      clear hK K hmk
      try simp only [Act.put, qa, qb, qc, qD, qE, qF]
      generalize hW22 : w3_77.alloc (.cells (madeCells #[Value.int .i64 0] u.length) 3) = w3_86 at *
      have S_w3_86 : w3_77.heap.size < w3_86.heap.size := by subst hW22; simp
      have hx7 : Ext w3_77 w3_86 := by subst hW22; exact qXt
      replace Yw3_75 := Yw3_75.trans hx7
      replace Yw3_77 := Yw3_77.trans hx7
      replace X3 := X3.trans hx7
      clear hx7
      have O3_87 : OwnI w3_86 w3_77.heap.size (.slice (some ⟨w3_77.heap.size, 0, none⟩) u.length u.length) (List.replicate u.length 0) := by subst hW22; exact OwnI.made _ _ _ (by simp) (by omega)
      have Yw3_86 := Ext.refl w3_86
      clear hW22
      refine qHr 4 rfl (fun K hK => ?_)
      refine step_app0O rfl (.tmp 19) (.tmp 20) rfl rfl rfl (O3_78.ext Yw3_77) (by omega) (by exact ((h3.ext Xw2).ext (show Ext w2 w3_86 from qXt))) ?_
      intro g3_91 r3_92 w3_88 O3_89 x3_90 Eg3_91 Hg3_91
      have S_w3_88 : w3_86.heap.size ≤ w3_88.heap.size := x3_90.size
      replace Yw3_75 := Yw3_75.trans x3_90
      replace Yw3_77 := Yw3_77.trans x3_90
      replace Yw3_86 := Yw3_86.trans x3_90
      replace X3 := X3.trans x3_90
      have Yw3_88 := Ext.refl w3_88
      clear x3_90
      refine hK.out _ w3_88 ((show Ext w2 w3_88 from qXt).cell b10) (fun hHeld => ?_)
      clear hK K
      try simp only [Act.put, qa, qb, qc, qD, qE, qF]
      refine qHk (v := ?_) 8 rfl (.inl ⟨by rfl, ?_⟩) ?_
      rotate_left
      ·
       (intro w hSw; (try dsimp only at hSw); go_simp; try with_reducible rfl)
      try simp only [Act.put, qa, qb, qc, qD, qE, qF]
      refine qHr 10 rfl (fun K hK => ?_)
      try simp only [Act.put, qa, qb, qc, qD, qE, qF]
      replace b3_760 := Yw3_75.cell b3_760
      replace b3_761 := Yw3_75.cell b3_761
      replace b3_762 := Yw3_75.cell b3_762
      replace f_b3_760 := Yw3_75.frz z_b3_76 f_b3_760
      replace f_b3_761 := Yw3_75.frz z_b3_76 f_b3_761
      replace f_b3_762 := Yw3_75.frz z_b3_76 f_b3_762
      go_simp
      have zz := X3.size
      have K3 : Chg w2.heap.size (w2.heap.size + 1) w3_88 (((w3_88.setCell ⟨w2.heap.size, 0, none⟩ (.int .i64 b1)).setCell ⟨w2.heap.size, 1, none⟩ (.slice (some ⟨g3_91, 0, none⟩) u.length r3_92)).setCell ⟨w2.heap.size, 2, none⟩ (.slice (some ⟨w3_77.heap.size, 0, none⟩) u.length u.length)) := (Chg.setCell (p := ⟨w2.heap.size, 2, none⟩) (Chg.setCell (p := ⟨w2.heap.size, 1, none⟩) (Chg.setCell (p := ⟨w2.heap.size, 0, none⟩) (Chg.refl w2.heap.size (w2.heap.size + 1) w3_88) (Nat.le_refl _) (Nat.lt_succ_self _) _) (Nat.le_refl _) (Nat.lt_succ_self _) _) (Nat.le_refl _) (Nat.lt_succ_self _) _)
      have n_b3_760 : (((w3_88.setCell ⟨w2.heap.size, 0, none⟩ (.int .i64 b1)).setCell ⟨w2.heap.size, 1, none⟩ (.slice (some ⟨g3_91, 0, none⟩) u.length r3_92)).setCell ⟨w2.heap.size, 2, none⟩ (.slice (some ⟨w3_77.heap.size, 0, none⟩) u.length u.length)).cell? ⟨w2.heap.size, 0, none⟩ = some (.int .i64 b1) := by go_simp
      replace f_b3_760 : (((w3_88.setCell ⟨w2.heap.size, 0, none⟩ (.int .i64 b1)).setCell ⟨w2.heap.size, 1, none⟩ (.slice (some ⟨g3_91, 0, none⟩) u.length r3_92)).setCell ⟨w2.heap.size, 2, none⟩ (.slice (some ⟨w3_77.heap.size, 0, none⟩) u.length u.length)).frozen? ⟨w2.heap.size, 0, none⟩ = false := by go_simp
      have n_b3_761 : (((w3_88.setCell ⟨w2.heap.size, 0, none⟩ (.int .i64 b1)).setCell ⟨w2.heap.size, 1, none⟩ (.slice (some ⟨g3_91, 0, none⟩) u.length r3_92)).setCell ⟨w2.heap.size, 2, none⟩ (.slice (some ⟨w3_77.heap.size, 0, none⟩) u.length u.length)).cell? ⟨w2.heap.size, 1, none⟩ = some (.slice (some ⟨g3_91, 0, none⟩) u.length r3_92) := by go_simp
      replace f_b3_761 : (((w3_88.setCell ⟨w2.heap.size, 0, none⟩ (.int .i64 b1)).setCell ⟨w2.heap.size, 1, none⟩ (.slice (some ⟨g3_91, 0, none⟩) u.length r3_92)).setCell ⟨w2.heap.size, 2, none⟩ (.slice (some ⟨w3_77.heap.size, 0, none⟩) u.length u.length)).frozen? ⟨w2.heap.size, 1, none⟩ = false := by go_simp
      have n_b3_762 : (((w3_88.setCell ⟨w2.heap.size, 0, none⟩ (.int .i64 b1)).setCell ⟨w2.heap.size, 1, none⟩ (.slice (some ⟨g3_91, 0, none⟩) u.length r3_92)).setCell ⟨w2.heap.size, 2, none⟩ (.slice (some ⟨w3_77.heap.size, 0, none⟩) u.length u.length)).cell? ⟨w2.heap.size, 2, none⟩ = some (.slice (some ⟨w3_77.heap.size, 0, none⟩) u.length u.length) := by go_simp
      replace f_b3_762 : (((w3_88.setCell ⟨w2.heap.size, 0, none⟩ (.int .i64 b1)).setCell ⟨w2.heap.size, 1, none⟩ (.slice (some ⟨g3_91, 0, none⟩) u.length r3_92)).setCell ⟨w2.heap.size, 2, none⟩ (.slice (some ⟨w3_77.heap.size, 0, none⟩) u.length u.length)).frozen? ⟨w2.heap.size, 2, none⟩ = false := by go_simp
      replace b3_760 := n_b3_760
      clear n_b3_760
      replace b3_761 := n_b3_761
      clear n_b3_761
      replace b3_762 := n_b3_762
      clear n_b3_762
      replace O3_87 := (O3_87.ext Yw3_86).chgN K3 (by omega)
      replace O3_89 := (O3_89.ext Yw3_88).chgN K3 (by omega)
      replace X3 : Ext w2 (((w3_88.setCell ⟨w2.heap.size, 0, none⟩ (.int .i64 b1)).setCell ⟨w2.heap.size, 1, none⟩ (.slice (some ⟨g3_91, 0, none⟩) u.length r3_92)).setCell ⟨w2.heap.size, 2, none⟩ (.slice (some ⟨w3_77.heap.size, 0, none⟩) u.length u.length)) := (Ext.setCell (p := ⟨w2.heap.size, 2, none⟩) (Ext.setCell (p := ⟨w2.heap.size, 1, none⟩) (Ext.setCell (p := ⟨w2.heap.size, 0, none⟩) X3 (by dsimp only; omega) _) (by dsimp only; omega) _) (by dsimp only; omega) _)
      clear zz K3
      have S_st : w3_88.heap.size ≤ (((w3_88.setCell ⟨w2.heap.size, 0, none⟩ (.int .i64 b1)).setCell ⟨w2.heap.size, 1, none⟩ (.slice (some ⟨g3_91, 0, none⟩) u.length r3_92)).setCell ⟨w2.heap.size, 2, none⟩ (.slice (some ⟨w3_77.heap.size, 0, none⟩) u.length u.length)).heap.size := by simp
      refine hK.out _ ((((w3_88.setCell ⟨w2.heap.size, 0, none⟩ (.int .i64 b1)).setCell ⟨w2.heap.size, 1, none⟩ (.slice (some ⟨g3_91, 0, none⟩) u.length r3_92)).setCell ⟨w2.heap.size, 2, none⟩ (.slice (some ⟨w3_77.heap.size, 0, none⟩) u.length u.length))) ((show Ext w2 ((((w3_88.setCell ⟨w2.heap.size, 0, none⟩ (.int .i64 b1)).setCell ⟨w2.heap.size, 1, none⟩ (.slice (some ⟨g3_91, 0, none⟩) u.length r3_92)).setCell ⟨w2.heap.size, 2, none⟩ (.slice (some ⟨w3_77.heap.size, 0, none⟩) u.length u.length))) from qXt).cell b10) (fun hHeld => ?_)
      clear hK K
      try simp only [Act.put, qa, qb, qc, qD, qE, qF]
      refine wpAnyH_done qKr ?_ _
      clear hHeld
      have zz := X3.size
      go_step
      go_step
      go_meet
      case rel => exact ⟨g3_91, r3_92, w3_77.heap.size, w2.heap.size, rfl, X3, (by omega), (by omega), (by omega), (by omega), (by omega), (by omega), (by omega), (by omega), (by omega), (O3_89).lower (by omega), (O3_87).lower (by omega), b3_760, f_b3_760, b3_761, f_b3_761, b3_762, f_b3_762⟩
    ·
     try simp only [Act.put, qa, qb, qc, qD, qE, qF]
     have hmk := mk_ints u.length (by omega)
     go_simp
     refine hK.out _ (w3_75.alloc (.cells (madeCells #[Value.int .i64 0] u.length) 3)) ((show Ext w2 (w3_75.alloc (.cells (madeCells #[Value.int .i64 0] u.length) 3)) from qXt).cell b10) (fun hHeld => ?_)
     clear hK K hmk
     try simp only [Act.put, qa, qb, qc, qD, qE, qF]
     generalize hW23 : w3_75.alloc (.cells (madeCells #[Value.int .i64 0] u.length) 3) = w3_93 at *
     have S_w3_93 : w3_75.heap.size < w3_93.heap.size := by subst hW23; simp
     have hx7 : Ext w3_75 w3_93 := by subst hW23; exact qXt
     replace Yw3_75 := Yw3_75.trans hx7
     replace X3 := X3.trans hx7
     clear hx7
     have O3_94 : OwnI w3_93 w3_75.heap.size (.slice (some ⟨w3_75.heap.size, 0, none⟩) u.length u.length) (List.replicate u.length 0) := by subst hW23; exact OwnI.made _ _ _ (by simp) (by omega)
     have Yw3_93 := Ext.refl w3_93
     clear hW23
     refine qHr 2 rfl (fun K hK => ?_)
     try simp only [Act.put, qa, qb, qc, qD, qE, qF]
     go_simp
     refine hK.out _ (w3_93.alloc (.cells #[] 3)) ((show Ext w2 (w3_93.alloc (.cells #[] 3)) from qXt).cell b10) (fun hHeld => ?_)
     clear hK K
     try simp only [Act.put, qa, qb, qc, qD, qE, qF]
     generalize hW24 : w3_93.alloc (.cells #[] 3) = w3_95 at *
     have S_w3_95 : w3_93.heap.size < w3_95.heap.size := by subst hW24; simp
     have hx7 : Ext w3_93 w3_95 := by subst hW24; exact qXt
     replace Yw3_75 := Yw3_75.trans hx7
     replace Yw3_93 := Yw3_93.trans hx7
     replace X3 := X3.trans hx7
     clear hx7
     have O3_96 : OwnI w3_95 w3_93.heap.size (.slice (some ⟨w3_93.heap.size, 0, none⟩) 0 0) [] := by subst hW24; exact OwnI.lit0 _ _ (by simp)
     have Yw3_95 := Ext.refl w3_95
     clear hW24
     refine qHr 4 rfl (fun K hK => ?_)
     refine step_app0O rfl (.tmp 19) (.tmp 20) rfl rfl rfl (O3_96.ext Yw3_95) (by omega) (by exact ((h3.ext Xw2).ext (show Ext w2 w3_95 from qXt))) ?_
     intro g3_100 r3_101 w3_97 O3_98 x3_99 Eg3_100 Hg3_100
     have S_w3_97 : w3_95.heap.size ≤ w3_97.heap.size := x3_99.size
     replace Yw3_75 := Yw3_75.trans x3_99
     replace Yw3_93 := Yw3_93.trans x3_99
     replace Yw3_95 := Yw3_95.trans x3_99
     replace X3 := X3.trans x3_99
     have Yw3_97 := Ext.refl w3_97
     clear x3_99
     refine hK.out _ w3_97 ((show Ext w2 w3_97 from qXt).cell b10) (fun hHeld => ?_)
     clear hK K
     try simp only [Act.put, qa, qb, qc, qD, qE, qF]
     refine qHk (v := ?_) 8 rfl (.inl ⟨by rfl, ?_⟩) ?_
     rotate_left
     ·
      (intro w hSw; (try dsimp only at hSw); go_simp; try with_reducible rfl)
     try simp only [Act.put, qa, qb, qc, qD, qE, qF]
     refine qHr 10 rfl (fun K hK => ?_)
     try simp only [Act.put, qa, qb, qc, qD, qE, qF]
     replace b3_760 := Yw3_75.cell b3_760
     replace b3_761 := Yw3_75.cell b3_761
     replace b3_762 := Yw3_75.cell b3_762
     replace f_b3_760 := Yw3_75.frz z_b3_76 f_b3_760
     replace f_b3_761 := Yw3_75.frz z_b3_76 f_b3_761
     replace f_b3_762 := Yw3_75.frz z_b3_76 f_b3_762
     go_simp
     have zz := X3.size
     have K3 : Chg w2.heap.size (w2.heap.size + 1) w3_97 (((w3_97.setCell ⟨w2.heap.size, 0, none⟩ (.int .i64 b1)).setCell ⟨w2.heap.size, 1, none⟩ (.slice (some ⟨g3_100, 0, none⟩) u.length r3_101)).setCell ⟨w2.heap.size, 2, none⟩ (.slice (some ⟨w3_75.heap.size, 0, none⟩) u.length u.length)) := (Chg.setCell (p := ⟨w2.heap.size, 2, none⟩) (Chg.setCell (p := ⟨w2.heap.size, 1, none⟩) (Chg.setCell (p := ⟨w2.heap.size, 0, none⟩) (Chg.refl w2.heap.size (w2.heap.size + 1) w3_97) (Nat.le_refl _) (Nat.lt_succ_self _) _) (Nat.le_refl _) (Nat.lt_succ_self _) _) (Nat.le_refl _) (Nat.lt_succ_self _) _)
     have n_b3_760 : (((w3_97.setCell ⟨w2.heap.size, 0, none⟩ (.int .i64 b1)).setCell ⟨w2.heap.size, 1, none⟩ (.slice (some ⟨g3_100, 0, none⟩) u.length r3_101)).setCell ⟨w2.heap.size, 2, none⟩ (.slice (some ⟨w3_75.heap.size, 0, none⟩) u.length u.length)).cell? ⟨w2.heap.size, 0, none⟩ = some (.int .i64 b1) := by go_simp
     replace f_b3_760 : (((w3_97.setCell ⟨w2.heap.size, 0, none⟩ (.int .i64 b1)).setCell ⟨w2.heap.size, 1, none⟩ (.slice (some ⟨g3_100, 0, none⟩) u.length r3_101)).setCell ⟨w2.heap.size, 2, none⟩ (.slice (some ⟨w3_75.heap.size, 0, none⟩) u.length u.length)).frozen? ⟨w2.heap.size, 0, none⟩ = false := by go_simp
     have n_b3_761 : (((w3_97.setCell ⟨w2.heap.size, 0, none⟩ (.int .i64 b1)).setCell ⟨w2.heap.size, 1, none⟩ (.slice (some ⟨g3_100, 0, none⟩) u.length r3_101)).setCell ⟨w2.heap.size, 2, none⟩ (.slice (some ⟨w3_75.heap.size, 0, none⟩) u.length u.length)).cell? ⟨w2.heap.size, 1, none⟩ = some (.slice (some ⟨g3_100, 0, none⟩) u.length r3_101) := by go_simp
     replace f_b3_761 : (((w3_97.setCell ⟨w2.heap.size, 0, none⟩ (.int .i64 b1)).setCell ⟨w2.heap.size, 1, none⟩ (.slice (some ⟨g3_100, 0, none⟩) u.length r3_101)).setCell ⟨w2.heap.size, 2, none⟩ (.slice (some ⟨w3_75.heap.size, 0, none⟩) u.length u.length)).frozen? ⟨w2.heap.size, 1, none⟩ = false := by go_simp
     have n_b3_762 : (((w3_97.setCell ⟨w2.heap.size, 0, none⟩ (.int .i64 b1)).setCell ⟨w2.heap.size, 1, none⟩ (.slice (some ⟨g3_100, 0, none⟩) u.length r3_101)).setCell ⟨w2.heap.size, 2, none⟩ (.slice (some ⟨w3_75.heap.size, 0, none⟩) u.length u.length)).cell? ⟨w2.heap.size, 2, none⟩ = some (.slice (some ⟨w3_75.heap.size, 0, none⟩) u.length u.length) := by go_simp
     replace f_b3_762 : (((w3_97.setCell ⟨w2.heap.size, 0, none⟩ (.int .i64 b1)).setCell ⟨w2.heap.size, 1, none⟩ (.slice (some ⟨g3_100, 0, none⟩) u.length r3_101)).setCell ⟨w2.heap.size, 2, none⟩ (.slice (some ⟨w3_75.heap.size, 0, none⟩) u.length u.length)).frozen? ⟨w2.heap.size, 2, none⟩ = false := by go_simp
     replace b3_760 := n_b3_760
     clear n_b3_760
     replace b3_761 := n_b3_761
     clear n_b3_761
     replace b3_762 := n_b3_762
     clear n_b3_762
     replace O3_94 := (O3_94.ext Yw3_93).chgN K3 (by omega)
     replace O3_98 := (O3_98.ext Yw3_97).chgN K3 (by omega)
     replace X3 : Ext w2 (((w3_97.setCell ⟨w2.heap.size, 0, none⟩ (.int .i64 b1)).setCell ⟨w2.heap.size, 1, none⟩ (.slice (some ⟨g3_100, 0, none⟩) u.length r3_101)).setCell ⟨w2.heap.size, 2, none⟩ (.slice (some ⟨w3_75.heap.size, 0, none⟩) u.length u.length)) := (Ext.setCell (p := ⟨w2.heap.size, 2, none⟩) (Ext.setCell (p := ⟨w2.heap.size, 1, none⟩) (Ext.setCell (p := ⟨w2.heap.size, 0, none⟩) X3 (by dsimp only; omega) _) (by dsimp only; omega) _) (by dsimp only; omega) _)
     clear zz K3
     have S_st : w3_97.heap.size ≤ (((w3_97.setCell ⟨w2.heap.size, 0, none⟩ (.int .i64 b1)).setCell ⟨w2.heap.size, 1, none⟩ (.slice (some ⟨g3_100, 0, none⟩) u.length r3_101)).setCell ⟨w2.heap.size, 2, none⟩ (.slice (some ⟨w3_75.heap.size, 0, none⟩) u.length u.length)).heap.size := by simp
     refine hK.out _ ((((w3_97.setCell ⟨w2.heap.size, 0, none⟩ (.int .i64 b1)).setCell ⟨w2.heap.size, 1, none⟩ (.slice (some ⟨g3_100, 0, none⟩) u.length r3_101)).setCell ⟨w2.heap.size, 2, none⟩ (.slice (some ⟨w3_75.heap.size, 0, none⟩) u.length u.length))) ((show Ext w2 ((((w3_97.setCell ⟨w2.heap.size, 0, none⟩ (.int .i64 b1)).setCell ⟨w2.heap.size, 1, none⟩ (.slice (some ⟨g3_100, 0, none⟩) u.length r3_101)).setCell ⟨w2.heap.size, 2, none⟩ (.slice (some ⟨w3_75.heap.size, 0, none⟩) u.length u.length))) from qXt).cell b10) (fun hHeld => ?_)
     clear hK K
     try simp only [Act.put, qa, qb, qc, qD, qE, qF]
     refine wpAnyH_done qKr ?_ _
     clear hHeld
     have zz := X3.size
     go_step
     go_step
     go_meet
     case rel => exact ⟨g3_100, r3_101, w3_75.heap.size, w2.heap.size, rfl, X3, (by omega), (by omega), (by omega), (by omega), (by omega), (by omega), (by omega), (by omega), (by omega), (O3_98).lower (by omega), (O3_94).lower (by omega), b3_760, f_b3_760, b3_761, f_b3_761, b3_762, f_b3_762⟩
  case rest =>
   generalize wc = wc6 at hcut ⊢
   obtain ⟨g8, r9, g10, g11, rfl, xx7, Gg8, Hg8, Gg10, Hg10, Gg11, Hg11, Dg8g10, Dg8g11, Dg10g11, O12, O13, b140, f_b140, b141, f_b141, b142, f_b142⟩ := hcut
   have Lwc6 : Ext w2 wc6 := Ext.trans qXt xx7
   have Xwc6 : Ext w wc6 := Xw2.trans Lwc6
   replace b10 := Lwc6.cell b10
   replace b11 := Lwc6.cell b11
   replace b12 := Lwc6.cell b12
   replace b20 := Lwc6.cell b20
   replace b21 := Lwc6.cell b21
   replace b22 := Lwc6.cell b22
   replace f_b20 := Lwc6.frz z_b2 f_b20
   replace f_b21 := Lwc6.frz z_b2 f_b21
   replace f_b22 := Lwc6.frz z_b2 f_b22
   have z_b1 : w.heap.size < wc6.heap.size := qB b10
   have z_b2 : w.heap.size + 1 < wc6.heap.size := qB b20
   have s_wc6 : w.heap.size ≤ wc6.heap.size := Xwc6.size
   have BL5_wc6 : Ext w2 wc6 := BL5.trans Lwc6
   clear xx7
   have z_b14 : g11 < wc6.heap.size := qB b140
   go_wp2_with fail
   refine (countOf_c u (.slice p2 u.length c2) _ _ (h3.ext (Xwc6.trans qXt))).mono ?_
   rintro e w' ⟨rfl, rfl⟩
   by_cases hc15 : (countL u : Int) = (0 : Int)
   ·
    have hc15e : ((countL u : Int) == (0 : Int)) = true := by simpa using hc15
    have hc15n : ((countL u : Int) != (0 : Int)) = false := by simpa using hc15
    replace hc15 := Lib.hid hc15
    go_wp2_with fail
    refine (cleared_0 b1 _ _ u _ _ ((O12.ints (by first | (simp; omega) | (simp only [List.length_set]; omega) | omega)).ext qXt) hc15.out).mono ?_
    rintro e w3 ⟨svO17, rfl, O17, xw3⟩
    have Lw3 : Ext wc6 w3 := Ext.trans qXt xw3
    have Xw3 : Ext w w3 := Xwc6.trans Lw3
    replace b10 := Lw3.cell b10
    replace b11 := Lw3.cell b11
    replace b12 := Lw3.cell b12
    replace b20 := Lw3.cell b20
    replace b21 := Lw3.cell b21
    replace b22 := Lw3.cell b22
    replace f_b20 := Lw3.frz z_b2 f_b20
    replace f_b21 := Lw3.frz z_b2 f_b21
    replace f_b22 := Lw3.frz z_b2 f_b22
    replace b140 := Lw3.cell b140
    replace b141 := Lw3.cell b141
    replace b142 := Lw3.cell b142
    replace f_b140 := Lw3.frz z_b14 f_b140
    replace f_b141 := Lw3.frz z_b14 f_b141
    replace f_b142 := Lw3.frz z_b14 f_b142
    have z_b1 : w.heap.size < w3.heap.size := qB b10
    have z_b2 : w.heap.size + 1 < w3.heap.size := qB b20
    have z_b14 : g11 < w3.heap.size := qB b140
    replace O12 := O12.ext Lw3
    replace O13 := O13.ext Lw3
    have s_w3 : w.heap.size ≤ w3.heap.size := Xw3.size
    have BL5_w3 : Ext w2 w3 := BL5_wc6.trans Lw3
    clear xw3
    obtain ⟨aa18, cc19, rfl⟩ := (O17.ints (by simp; omega)).form
    rw [List.length_replicate] at O17 ⊢
    go_wp2_with fail
    generalize hW25 : (((w3.setCell ⟨w.heap.size + 1, 0, none⟩ (.int .i64 0)).setCell ⟨w.heap.size + 1, 1, none⟩ (.slice (some ⟨g8, 0, none⟩) u.length r9)).setCell ⟨w.heap.size + 1, 2, none⟩ (.slice aa18 u.length cc19)) = w4 at *
    have Kw4 : Chg (w.heap.size + 1) (w.heap.size + 1 + 1) w3 w4 := by subst hW25; exact qCh
    have Xw4 : Ext w w4 := by subst hW25; exact qXt
    replace b10 := Kw4.cell (by omega) b10
    replace b11 := Kw4.cell (by omega) b11
    replace b12 := Kw4.cell (by omega) b12
    replace b20 : w4.cell? ⟨w.heap.size + 1, 0, none⟩ = some (.int .i64 0) := by subst hW25; go_simp
    replace f_b20 : w4.frozen? ⟨w.heap.size + 1, 0, none⟩ = false := by subst hW25; first | (simp only [World.frozen?_setCell]; with_reducible assumption) | go_simp
    replace b21 : w4.cell? ⟨w.heap.size + 1, 1, none⟩ = some (.slice (some ⟨g8, 0, none⟩) u.length r9) := by subst hW25; go_simp
    replace f_b21 : w4.frozen? ⟨w.heap.size + 1, 1, none⟩ = false := by subst hW25; first | (simp only [World.frozen?_setCell]; with_reducible assumption) | go_simp
    replace b22 : w4.cell? ⟨w.heap.size + 1, 2, none⟩ = some (.slice aa18 u.length cc19) := by subst hW25; go_simp
    replace f_b22 : w4.frozen? ⟨w.heap.size + 1, 2, none⟩ = false := by subst hW25; first | (simp only [World.frozen?_setCell]; with_reducible assumption) | go_simp
    replace b140 := Kw4.cell (by omega) b140
    replace f_b140 := Kw4.frzO (by omega) z_b14 f_b140
    replace b141 := Kw4.cell (by omega) b141
    replace f_b141 := Kw4.frzO (by omega) z_b14 f_b141
    replace b142 := Kw4.cell (by omega) b142
    replace f_b142 := Kw4.frzO (by omega) z_b14 f_b142
    replace O12 := O12.chgN Kw4 (by omega)
    replace O13 := O13.chgN Kw4 (by omega)
    replace O17 := O17.chg Kw4 (by omega)
    clear Kw4
    have z_b1 : w.heap.size < w4.heap.size := qB b10
    have z_b2 : w.heap.size + 1 < w4.heap.size := qB b20
    have z_b14 : g11 < w4.heap.size := qB b140
    have s_w4 : w.heap.size ≤ w4.heap.size := Xw4.size
    clear hW25
    refine bodyPost_ret (v := .tuple #[.agg #[.int .i64 0, .slice (some ⟨g8, 0, none⟩) u.length r9, .slice aa18 u.length cc19], .bool true]) (by simp only [results, Try.results130]; go_simp) rfl ?_
    have hd7 : u ≠ [] → List.replicate u.length (0 : Int) ≠ [] → (Value.ownBlock (.slice (some ⟨g8, 0, none⟩) u.length r9)) ≠ (Value.ownBlock (.slice aa18 u.length cc19)) := fun h5 h6 h7 => by
     obtain ⟨g7, hg7, hb7, -⟩ := (O17.z).lt h6
     have h8 : (Value.ownBlock (.slice aa18 u.length cc19)) = some g7 := hg7
     rw [h8] at h7
     have h9 : g8 = g7 := Option.some.inj h7
     omega
    exact PVB.yes (show rsV b1 s1 t1 u = (0, u, List.replicate u.length 0, true) from by rw [rs_val hv.out hu.out rfl rfl, if_pos hc3.out, if_pos hc15.out]) (O12.z.lower (by omega)) (O17.z.lower (by omega)) hd7 (by omega) (by first | omega | (simp; omega)) (Xw4.trans qXt)
   ·
    have hc15e : ((countL u : Int) == (0 : Int)) = false := by simpa using hc15
    have hc15n : ((countL u : Int) != (0 : Int)) = true := by simpa using hc15
    replace hc15 := Lib.hid hc15
    obtain ⟨C, hC⟩ : ∃ C, offsL b1 s1 t1 = C := ⟨_, rfl⟩
    have hCl : countL u ≤ (C.length : Int) := by rw [← hC, offs_count]; have := hc3.out; have := (shapeB_in hu.out).2.2.1; omega
    have hCb := Lib.hid (show ∀ x ∈ C, 0 ≤ x ∧ x ≤ 59 from by rw [← hC]; exact (viewB_in hv.out).2.2.2.2)
    replace hC := Lib.hid hC
    have hcpos : 0 < countL u := by have := hc15.out; have := (shapeB_in hu.out).2.2.1; omega
    go_wp2_with fail
    refine (pi_eq hC.out (offsetsOf_c b1 (.slice p0 s1.length c0) (.slice p1 t1.length c1) s1 t1 _ _ _ (h1.ext (Xwc6.trans qXt)) (k1.ext (Xwc6.trans qXt)) (vw hv.out).1 (vw hv.out).2.1 (vw hv.out).2.2.1)).mono ?_
    rintro e w3 ⟨fv20, rfl, i21, -, xw3⟩
    have Lw3 : Ext wc6 w3 := Ext.trans qXt xw3
    have Xw3 : Ext w w3 := Xwc6.trans Lw3
    replace b10 := Lw3.cell b10
    replace b11 := Lw3.cell b11
    replace b12 := Lw3.cell b12
    replace b20 := Lw3.cell b20
    replace b21 := Lw3.cell b21
    replace b22 := Lw3.cell b22
    replace f_b20 := Lw3.frz z_b2 f_b20
    replace f_b21 := Lw3.frz z_b2 f_b21
    replace f_b22 := Lw3.frz z_b2 f_b22
    replace b140 := Lw3.cell b140
    replace b141 := Lw3.cell b141
    replace b142 := Lw3.cell b142
    replace f_b140 := Lw3.frz z_b14 f_b140
    replace f_b141 := Lw3.frz z_b14 f_b141
    replace f_b142 := Lw3.frz z_b14 f_b142
    have z_b1 : w.heap.size < w3.heap.size := qB b10
    have z_b2 : w.heap.size + 1 < w3.heap.size := qB b20
    have z_b14 : g11 < w3.heap.size := qB b140
    replace O12 := O12.ext Lw3
    replace O13 := O13.ext Lw3
    have s_w3 : w.heap.size ≤ w3.heap.size := Xw3.size
    have BL5_w3 : Ext w2 w3 := BL5_wc6.trans Lw3
    clear xw3
    obtain ⟨afv20, cfv20, rfl⟩ := i21.form
    go_wp2_with fail
    rw [← reshT_zero C u] at O13
    go_loopw [8, 9, 35] (fun x y i wr => ∃ (k : Nat), k ≤ u.length ∧ i = .int .i64 k ∧ OwnI wr (w2.heap.size) (.slice (some ⟨g10, 0, none⟩) u.length u.length) (reshT C u k) ∧ Chg g10 (g10 + 1) w3 wr ∧ Ext w2 wr) (fun _ _ i _ => u.length - (intOf i).toNat)
    case atStart => exact ⟨0, Nat.zero_le _, rfl, (show OwnI _ _ _ (reshT C u 0) from (O13.ext qXt)), Chg.refl _ _ _, BL5_w3⟩
    case round =>
     obtain ⟨k, hk, rfl, O13n, Kr22, Er23⟩ := hrel
     have Xwr : Ext w wr := Xw2.trans Er23
     have s_wr : w.heap.size ≤ wr.heap.size := Xwr.size
     have t_wr : w3.heap.size ≤ wr.heap.size := Kr22.size
     replace b10 := Er23.cell Q4_b10.out
     replace b11 := Er23.cell Q4_b11.out
     replace b12 := Er23.cell Q4_b12.out
     replace b20 := Er23.cell Q4_b20.out
     replace f_b20 := Er23.frz Q4_zb2 Q4_f_b20.out
     replace b21 := Er23.cell Q4_b21.out
     replace f_b21 := Er23.frz Q4_zb2 Q4_f_b21.out
     replace b22 := Er23.cell Q4_b22.out
     replace f_b22 := Er23.frz Q4_zb2 Q4_f_b22.out
     replace b140 := Kr22.cell (by omega) b140
     replace f_b140 := Kr22.frzO (by omega) (by omega) f_b140
     replace b141 := Kr22.cell (by omega) b141
     replace f_b141 := Kr22.frzO (by omega) (by omega) f_b141
     replace b142 := Kr22.cell (by omega) b142
     replace f_b142 := Kr22.frzO (by omega) (by omega) f_b142
     have z_b1 : w.heap.size < wr.heap.size := qB b10
     have z_b2 : w.heap.size + 1 < wr.heap.size := qB b20
     have z_b14 : g11 < wr.heap.size := qB b140
     replace O12 := O12.chgN Kr22 (by omega)
     clear O13
     have O13 := O13n
     clear O13n
     replace i21 := i21.chg Kr22 (by omega)
     rcases (show (k < u.length ∧ c2 = k + 1) ∨ (k < u.length ∧ c2 ≠ k + 1) ∨ ¬ k < u.length by omega) with ⟨hlt, hcp⟩ | ⟨hlt, hcp⟩ | hlt
     ·
      have hRk : k < (reshT C u k).length := by rw [reshT_len _ _ _ (by omega)]; exact hlt
      have hkI : (k : Int) < u.length := by omega
      have hk1 : IntKind.i64.wrap ((k : Int) + 1) = (k : Int) + 1 := IntWalk.i64_in _ (by omega)
      have hN_e26 : k < u.length := (by omega)
      have hI_e26 : (k : Int) < (u.length : Int) := by omega
      obtain ⟨bl24, ol25, rfl, e260⟩ := h3.at k (by omega)
      have y_e26 : bl24 < w.heap.size := qB e260
      replace e260 := Xwr.cell e260
      obtain ⟨v27, hv27⟩ : ∃ v, u.getD k 0 = v := ⟨_, rfl⟩
      rw [hv27] at e260
      replace hv27 := Lib.hid hv27
      have z_e26 : bl24 < wr.heap.size := qB e260
      have h60v27 := hu60.out _ (getD_mem hlt)
      rw [hv27.out] at h60v27
      subst hcp
      have hdr := h3.drop0 (k + 1) (by omega) rfl
      rw [show u.length - (k + 1) = 0 by omega] at hdr
      have hkk : k + 1 ≤ u.length := by omega
      have hkI2 : (k : Int) + 1 ≤ (u.length : Int) := by omega
      have hkI0 : (0 : Int) ≤ (k : Int) + 1 := by omega
      by_cases hc31 : (1 : Int) < (v27 : Int)
      ·
       obtain ⟨hJ0, hJ1⟩ := stride_lt hus.out (by omega) k hlt (by rw [← getD_get hlt, hv27.out]; omega)
       obtain ⟨J, hJ⟩ : ∃ J : Nat, countL (u.drop (k+1)) = J := ⟨(countL (u.drop (k+1))).toNat, by omega⟩
       rw [hJ] at hJ0 hJ1
       replace hJ := Lib.hid hJ
       have hJC : J < C.length := by have := hCl; omega
       have h0C : 0 < C.length := by omega
       go_wp2_with fail
       have hN_e34 : J < C.length := hJC
       have hI_e34 : (J : Int) < (C.length : Int) := by omega
       obtain ⟨bl32, ol33, rfl, e340⟩ := i21.at J hJC
       obtain ⟨v35, hv35⟩ : ∃ v, C.getD J 0 = v := ⟨_, rfl⟩
       rw [hv35] at e340
       replace hv35 := Lib.hid hv35
       have y_e34 : bl32 < wr.heap.size := qB e340
       have z_e34 := y_e34
       have h60v35 := hCb.out _ (getD_mem hJC)
       rw [hv35.out] at h60v35
       have hI_e38 : (0 : Int) < (C.length : Int) := by have hB7 : 0 < C.length := h0C; omega
       obtain ⟨b_e38, o_e38, h_e38, e380⟩ := i21.at 0 h0C
       cases h_e38
       rw [Nat.add_zero] at e380
       obtain ⟨v39, hv39⟩ : ∃ v, C.getD 0 0 = v := ⟨_, rfl⟩
       rw [hv39] at e380
       replace hv39 := Lib.hid hv39
       have y_e38 : bl32 < wr.heap.size := qB e380
       have z_e38 := y_e38
       have h60v39 := hCb.out _ (getD_mem h0C)
       rw [hv39.out] at h60v39
       have A40 := O13.cell k (by rw [reshT_len _ _ _ (by omega)]; omega)
       obtain ⟨A40a, A40b⟩ := A40
       refine wp_region_tail (S := fun w' => w'.cell? ⟨g11, 2, none⟩ = some (.slice (some ⟨g10, 0, none⟩) u.length u.length) ∧ w'.cell? ⟨bl32, ol33 + J, none⟩ = some (.int .i64 v35) ∧ w'.cell? ⟨bl32, ol33, none⟩ = some (.int .i64 v39)) (fun i => decide (16 ≤ i)) qKr ⟨b142, e340, e380⟩ (fun hHeld => ?_)
       refine qTk (v := ?_) 0 rfl (.inl ⟨by rfl, ?_⟩) ?_
       rotate_left
       ·
        (intro w hSw; (try dsimp only at hSw); go_simp; try with_reducible rfl)
       try simp only [Act.put, qa, qb, qc, qD, qE, qF]
       refine qTk (v := ?_) 1 rfl (.inl ⟨by rfl, ?_⟩) ?_
       rotate_left
       ·
        (intro w hSw; (try dsimp only at hSw); go_simp; try with_reducible rfl)
       try simp only [Act.put, qa, qb, qc, qD, qE, qF]
       refine qTk (v := ?_) 2 rfl (.inl ⟨by rfl, ?_⟩) ?_
       rotate_left
       ·
        (intro w hSw; (try dsimp only at hSw); go_simp; try with_reducible rfl)
       try simp only [Act.put, qa, qb, qc, qD, qE, qF]
       refine qTk (v := ?_) 3 rfl (.inl ⟨by rfl, ?_⟩) ?_
       rotate_left
       ·
        (intro w hSw; (try dsimp only at hSw); go_simp; try with_reducible rfl)
       try simp only [Act.put, qa, qb, qc, qD, qE, qF]
       refine qTk (v := ?_) 4 rfl (.inl ⟨by rfl, ?_⟩) ?_
       rotate_left
       ·
        (intro w hSw; (try dsimp only at hSw); go_simp; try with_reducible rfl)
       try simp only [Act.put, qa, qb, qc, qD, qE, qF]
       refine qTk (v := ?_) 5 rfl (.inl ⟨by rfl, ?_⟩) ?_
       rotate_left
       ·
        (intro w hSw; (try dsimp only at hSw); go_simp; try with_reducible rfl)
       try simp only [Act.put, qa, qb, qc, qD, qE, qF]
       have hw41 : IntKind.i64.wrap ((k : Int) + 1) = (k : Int) + 1 := IntWalk.i64_in _ (by omega)
       refine qTk (v := ?_) 6 rfl (.inl ⟨by rfl, ?_⟩) ?_
       rotate_left
       ·
        (intro w hSw; (try dsimp only at hSw); go_simp; try with_reducible rfl)
       try simp only [Act.put, qa, qb, qc, qD, qE, qF]
       refine qTk (v := ?_) 7 rfl (.inl ⟨by rfl, ?_⟩) ?_
       rotate_left
       ·
        (intro w hSw; (try dsimp only at hSw); go_simp; try with_reducible rfl)
       try simp only [Act.put, qa, qb, qc, qD, qE, qF]
       refine qTk (v := ?_) 11 rfl (.inl ⟨by rfl, ?_⟩) ?_
       rotate_left
       ·
        (intro w hSw; (try dsimp only at hSw); go_simp; try with_reducible rfl)
       try simp only [Act.put, qa, qb, qc, qD, qE, qF]
       refine qTk (v := ?_) 12 rfl (.inl ⟨by rfl, ?_⟩) ?_
       rotate_left
       ·
        (intro w hSw; (try dsimp only at hSw); go_simp; try with_reducible rfl)
       try simp only [Act.put, qa, qb, qc, qD, qE, qF]
       refine qTk (v := ?_) 13 rfl (.inl ⟨by rfl, ?_⟩) ?_
       rotate_left
       ·
        (intro w hSw; (try dsimp only at hSw); go_simp; try with_reducible rfl)
       try simp only [Act.put, qa, qb, qc, qD, qE, qF]
       refine wpTail_one (i := 8) qKr rfl rfl (fun K hK => ?_)
       try simp only [Act.put, qa, qb, qc, qD, qE, qF]
       go_simp
       refine (cnt_eq hJ.out (countOf_c _ _ _ _ (hdr.ext (Xwr.trans qXt)))).mono ?_
       rintro e w' ⟨rfl, rfl⟩
       refine hK.out _ _ ⟨b142, e340, e380⟩ (fun hHeld => ?_)
       clear hK K
       try simp only [Act.put, qa, qb, qc, qD, qE, qF]
       refine qTk (v := ?_) 9 rfl (.inl ⟨by rfl, ?_⟩) ?_
       rotate_left
       ·
        (intro w hSw; (try dsimp only at hSw); go_simp; try with_reducible rfl)
       try simp only [Act.put, qa, qb, qc, qD, qE, qF]
       refine qTk (v := ?_) 10 rfl (.inl ⟨by rfl, ?_⟩) ?_
       rotate_left
       ·
        (intro w hSw; (try dsimp only at hSw); go_simp; try with_reducible rfl)
       try simp only [Act.put, qa, qb, qc, qD, qE, qF]
       have hw48 : IntKind.i64.wrap (v35 - v39) = v35 - v39 := IntWalk.i64_in _ (by omega)
       refine qTk (v := ?_) 14 rfl (.inl ⟨by rfl, ?_⟩) ?_
       rotate_left
       ·
        (intro w hSw; (try dsimp only at hSw); go_simp; try with_reducible rfl)
       try simp only [Act.put, qa, qb, qc, qD, qE, qF]
       refine qTk (v := ?_) 15 rfl (.inl ⟨by rfl, ?_⟩) ?_
       rotate_left
       ·
        (intro w hSw; (try dsimp only at hSw); go_simp; try with_reducible rfl)
       try simp only [Act.put, qa, qb, qc, qD, qE, qF]
       refine wpTail_last (i := 16) qKr rfl rfl (fun K hK => ?_)
       try simp only [Act.put, qa, qb, qc, qD, qE, qF]
       go_simp
       refine hK.out _ _ ?_
       clear hK K
       try simp only [Act.put, qa, qb, qc, qD, qE, qF]
       refine wpTail_done qKr ?_ _
       clear hHeld hw41 hw48
       clear e260 z_e26
       clear e340 z_e34
       clear e380 z_e38
       generalize hW26 : (wr.setCell ⟨g10, k, none⟩ (.int .i64 (v35 - v39))) = w4 at *
       have Kw4 : Chg (g10) (g10 + 1) wr w4 := by subst hW26; exact qCh
       have Xw4 : Ext w w4 := by subst hW26; exact qXt
       have BL5_w4 : Ext w2 w4 := by subst hW26; exact qXt
       have Kr22_w4 : Chg g10 (g10 + 1) w3 w4 := Chg.trans Kr22 Kw4
       replace b10 := BL5_w4.cell Q4_b10.out
       replace b11 := BL5_w4.cell Q4_b11.out
       replace b12 := BL5_w4.cell Q4_b12.out
       replace b20 := BL5_w4.cell Q4_b20.out
       replace f_b20 := BL5_w4.frz Q4_zb2 Q4_f_b20.out
       replace b21 := BL5_w4.cell Q4_b21.out
       replace f_b21 := BL5_w4.frz Q4_zb2 Q4_f_b21.out
       replace b22 := BL5_w4.cell Q4_b22.out
       replace f_b22 := BL5_w4.frz Q4_zb2 Q4_f_b22.out
       replace b140 := Kw4.cell (by omega) b140
       replace f_b140 := Kw4.frzO (by omega) z_b14 f_b140
       replace b141 := Kw4.cell (by omega) b141
       replace f_b141 := Kw4.frzO (by omega) z_b14 f_b141
       replace b142 := Kw4.cell (by omega) b142
       replace f_b142 := Kw4.frzO (by omega) z_b14 f_b142
       replace O12 := O12.chgN Kw4 (by omega)
       have n_O13 := O13.set k (v35 - v39) (by first | omega | (simp; omega) | (rw [putUp_len]; simp; omega) | (rw [addUp_len]; omega))
       rw [hW26] at n_O13
       replace O13 := n_O13
       clear n_O13
       replace i21 := i21.chg Kw4 (by omega)
       clear Kw4
       have z_b1 : w.heap.size < w4.heap.size := qB b10
       have z_b2 : w.heap.size + 1 < w4.heap.size := qB b20
       have z_b14 : g11 < w4.heap.size := qB b140
       have s_w4 : w.heap.size ≤ w4.heap.size := Xw4.size
       clear hW26
       clear A40a A40b
       go_wp2_with fail
       go_roundw
       case rel => exact ⟨k + 1, by omega, by go_num, (by rw [resh_step1 hlt hv27.out (by omega) hJ.out hv35.out hv39.out]; exact O13.ext qXt), Kr22_w4.ext qXt, BL5_w4.trans qXt⟩
       case measure => simp [intOf]; omega
      ·
       go_wp2_with fail
       go_roundw
       case rel => exact ⟨k + 1, by omega, by go_num, (by rw [resh_step0 hlt hv27.out (by omega)]; exact O13.ext qXt), Kr22.ext qXt, Er23.trans qXt⟩
       case measure => simp [intOf]; omega
     ·
      have hRk : k < (reshT C u k).length := by rw [reshT_len _ _ _ (by omega)]; exact hlt
      have hkI : (k : Int) < u.length := by omega
      have hk1 : IntKind.i64.wrap ((k : Int) + 1) = (k : Int) + 1 := IntWalk.i64_in _ (by omega)
      have hN_e51 : k < u.length := (by omega)
      have hI_e51 : (k : Int) < (u.length : Int) := by omega
      obtain ⟨bl49, ol50, rfl, e510⟩ := h3.at k (by omega)
      have y_e51 : bl49 < w.heap.size := qB e510
      replace e510 := Xwr.cell e510
      obtain ⟨v52, hv52⟩ : ∃ v, u.getD k 0 = v := ⟨_, rfl⟩
      rw [hv52] at e510
      replace hv52 := Lib.hid hv52
      have z_e51 : bl49 < wr.heap.size := qB e510
      have h60v52 := hu60.out _ (getD_mem hlt)
      rw [hv52.out] at h60v52
      have hdr := h3.drop1 (k + 1) (by omega) hcp
      have hkk : k + 1 ≤ u.length := by omega
      have hkI2 : (k : Int) + 1 ≤ (u.length : Int) := by omega
      have hkI0 : (0 : Int) ≤ (k : Int) + 1 := by omega
      have hkI3 : (k : Int) + 1 ≤ (c2 : Int) := by omega
      by_cases hc56 : (1 : Int) < (v52 : Int)
      ·
       obtain ⟨hJ0, hJ1⟩ := stride_lt hus.out (by omega) k hlt (by rw [← getD_get hlt, hv52.out]; omega)
       obtain ⟨J, hJ⟩ : ∃ J : Nat, countL (u.drop (k+1)) = J := ⟨(countL (u.drop (k+1))).toNat, by omega⟩
       rw [hJ] at hJ0 hJ1
       replace hJ := Lib.hid hJ
       have hJC : J < C.length := by have := hCl; omega
       have h0C : 0 < C.length := by omega
       go_wp2_with fail
       have hN_e59 : J < C.length := hJC
       have hI_e59 : (J : Int) < (C.length : Int) := by omega
       obtain ⟨bl57, ol58, rfl, e590⟩ := i21.at J hJC
       obtain ⟨v60, hv60⟩ : ∃ v, C.getD J 0 = v := ⟨_, rfl⟩
       rw [hv60] at e590
       replace hv60 := Lib.hid hv60
       have y_e59 : bl57 < wr.heap.size := qB e590
       have z_e59 := y_e59
       have h60v60 := hCb.out _ (getD_mem hJC)
       rw [hv60.out] at h60v60
       have hI_e63 : (0 : Int) < (C.length : Int) := by have hB7 : 0 < C.length := h0C; omega
       obtain ⟨b_e63, o_e63, h_e63, e630⟩ := i21.at 0 h0C
       cases h_e63
       rw [Nat.add_zero] at e630
       obtain ⟨v64, hv64⟩ : ∃ v, C.getD 0 0 = v := ⟨_, rfl⟩
       rw [hv64] at e630
       replace hv64 := Lib.hid hv64
       have y_e63 : bl57 < wr.heap.size := qB e630
       have z_e63 := y_e63
       have h60v64 := hCb.out _ (getD_mem h0C)
       rw [hv64.out] at h60v64
       have A65 := O13.cell k (by rw [reshT_len _ _ _ (by omega)]; omega)
       obtain ⟨A65a, A65b⟩ := A65
       refine wp_region_tail (S := fun w' => w'.cell? ⟨g11, 2, none⟩ = some (.slice (some ⟨g10, 0, none⟩) u.length u.length) ∧ w'.cell? ⟨bl57, ol58 + J, none⟩ = some (.int .i64 v60) ∧ w'.cell? ⟨bl57, ol58, none⟩ = some (.int .i64 v64)) (fun i => decide (16 ≤ i)) qKr ⟨b142, e590, e630⟩ (fun hHeld => ?_)
       refine qTk (v := ?_) 0 rfl (.inl ⟨by rfl, ?_⟩) ?_
       rotate_left
       ·
        (intro w hSw; (try dsimp only at hSw); go_simp; try with_reducible rfl)
       try simp only [Act.put, qa, qb, qc, qD, qE, qF]
       refine qTk (v := ?_) 1 rfl (.inl ⟨by rfl, ?_⟩) ?_
       rotate_left
       ·
        (intro w hSw; (try dsimp only at hSw); go_simp; try with_reducible rfl)
       try simp only [Act.put, qa, qb, qc, qD, qE, qF]
       refine qTk (v := ?_) 2 rfl (.inl ⟨by rfl, ?_⟩) ?_
       rotate_left
       ·
        (intro w hSw; (try dsimp only at hSw); go_simp; try with_reducible rfl)
       try simp only [Act.put, qa, qb, qc, qD, qE, qF]
       refine qTk (v := ?_) 3 rfl (.inl ⟨by rfl, ?_⟩) ?_
       rotate_left
       ·
        (intro w hSw; (try dsimp only at hSw); go_simp; try with_reducible rfl)
       try simp only [Act.put, qa, qb, qc, qD, qE, qF]
       refine qTk (v := ?_) 4 rfl (.inl ⟨by rfl, ?_⟩) ?_
       rotate_left
       ·
        (intro w hSw; (try dsimp only at hSw); go_simp; try with_reducible rfl)
       try simp only [Act.put, qa, qb, qc, qD, qE, qF]
       refine qTk (v := ?_) 5 rfl (.inl ⟨by rfl, ?_⟩) ?_
       rotate_left
       ·
        (intro w hSw; (try dsimp only at hSw); go_simp; try with_reducible rfl)
       try simp only [Act.put, qa, qb, qc, qD, qE, qF]
       have hw66 : IntKind.i64.wrap ((k : Int) + 1) = (k : Int) + 1 := IntWalk.i64_in _ (by omega)
       refine qTk (v := ?_) 6 rfl (.inl ⟨by rfl, ?_⟩) ?_
       rotate_left
       ·
        (intro w hSw; (try dsimp only at hSw); go_simp; try with_reducible rfl)
       try simp only [Act.put, qa, qb, qc, qD, qE, qF]
       refine qTk (v := ?_) 7 rfl (.inl ⟨by rfl, ?_⟩) ?_
       rotate_left
       ·
        (intro w hSw; (try dsimp only at hSw); go_simp; try with_reducible rfl)
       try simp only [Act.put, qa, qb, qc, qD, qE, qF]
       refine qTk (v := ?_) 11 rfl (.inl ⟨by rfl, ?_⟩) ?_
       rotate_left
       ·
        (intro w hSw; (try dsimp only at hSw); go_simp; try with_reducible rfl)
       try simp only [Act.put, qa, qb, qc, qD, qE, qF]
       refine qTk (v := ?_) 12 rfl (.inl ⟨by rfl, ?_⟩) ?_
       rotate_left
       ·
        (intro w hSw; (try dsimp only at hSw); go_simp; try with_reducible rfl)
       try simp only [Act.put, qa, qb, qc, qD, qE, qF]
       refine qTk (v := ?_) 13 rfl (.inl ⟨by rfl, ?_⟩) ?_
       rotate_left
       ·
        (intro w hSw; (try dsimp only at hSw); go_simp; try with_reducible rfl)
       try simp only [Act.put, qa, qb, qc, qD, qE, qF]
       refine wpTail_one (i := 8) qKr rfl rfl (fun K hK => ?_)
       try simp only [Act.put, qa, qb, qc, qD, qE, qF]
       go_simp
       refine (cnt_eq hJ.out (countOf_c _ _ _ _ (hdr.ext (Xwr.trans qXt)))).mono ?_
       rintro e w' ⟨rfl, rfl⟩
       refine hK.out _ _ ⟨b142, e590, e630⟩ (fun hHeld => ?_)
       clear hK K
       try simp only [Act.put, qa, qb, qc, qD, qE, qF]
       refine qTk (v := ?_) 9 rfl (.inl ⟨by rfl, ?_⟩) ?_
       rotate_left
       ·
        (intro w hSw; (try dsimp only at hSw); go_simp; try with_reducible rfl)
       try simp only [Act.put, qa, qb, qc, qD, qE, qF]
       refine qTk (v := ?_) 10 rfl (.inl ⟨by rfl, ?_⟩) ?_
       rotate_left
       ·
        (intro w hSw; (try dsimp only at hSw); go_simp; try with_reducible rfl)
       try simp only [Act.put, qa, qb, qc, qD, qE, qF]
       have hw73 : IntKind.i64.wrap (v60 - v64) = v60 - v64 := IntWalk.i64_in _ (by omega)
       refine qTk (v := ?_) 14 rfl (.inl ⟨by rfl, ?_⟩) ?_
       rotate_left
       ·
        (intro w hSw; (try dsimp only at hSw); go_simp; try with_reducible rfl)
       try simp only [Act.put, qa, qb, qc, qD, qE, qF]
       refine qTk (v := ?_) 15 rfl (.inl ⟨by rfl, ?_⟩) ?_
       rotate_left
       ·
        (intro w hSw; (try dsimp only at hSw); go_simp; try with_reducible rfl)
       try simp only [Act.put, qa, qb, qc, qD, qE, qF]
       refine wpTail_last (i := 16) qKr rfl rfl (fun K hK => ?_)
       try simp only [Act.put, qa, qb, qc, qD, qE, qF]
       go_simp
       refine hK.out _ _ ?_
       clear hK K
       try simp only [Act.put, qa, qb, qc, qD, qE, qF]
       refine wpTail_done qKr ?_ _
       clear hHeld hw66 hw73
       clear e510 z_e51
       clear e590 z_e59
       clear e630 z_e63
       generalize hW27 : (wr.setCell ⟨g10, k, none⟩ (.int .i64 (v60 - v64))) = w4 at *
       have Kw4 : Chg (g10) (g10 + 1) wr w4 := by subst hW27; exact qCh
       have Xw4 : Ext w w4 := by subst hW27; exact qXt
       have BL5_w4 : Ext w2 w4 := by subst hW27; exact qXt
       have Kr22_w4 : Chg g10 (g10 + 1) w3 w4 := Chg.trans Kr22 Kw4
       replace b10 := BL5_w4.cell Q4_b10.out
       replace b11 := BL5_w4.cell Q4_b11.out
       replace b12 := BL5_w4.cell Q4_b12.out
       replace b20 := BL5_w4.cell Q4_b20.out
       replace f_b20 := BL5_w4.frz Q4_zb2 Q4_f_b20.out
       replace b21 := BL5_w4.cell Q4_b21.out
       replace f_b21 := BL5_w4.frz Q4_zb2 Q4_f_b21.out
       replace b22 := BL5_w4.cell Q4_b22.out
       replace f_b22 := BL5_w4.frz Q4_zb2 Q4_f_b22.out
       replace b140 := Kw4.cell (by omega) b140
       replace f_b140 := Kw4.frzO (by omega) z_b14 f_b140
       replace b141 := Kw4.cell (by omega) b141
       replace f_b141 := Kw4.frzO (by omega) z_b14 f_b141
       replace b142 := Kw4.cell (by omega) b142
       replace f_b142 := Kw4.frzO (by omega) z_b14 f_b142
       replace O12 := O12.chgN Kw4 (by omega)
       have n_O13 := O13.set k (v60 - v64) (by first | omega | (simp; omega) | (rw [putUp_len]; simp; omega) | (rw [addUp_len]; omega))
       rw [hW27] at n_O13
       replace O13 := n_O13
       clear n_O13
       replace i21 := i21.chg Kw4 (by omega)
       clear Kw4
       have z_b1 : w.heap.size < w4.heap.size := qB b10
       have z_b2 : w.heap.size + 1 < w4.heap.size := qB b20
       have z_b14 : g11 < w4.heap.size := qB b140
       have s_w4 : w.heap.size ≤ w4.heap.size := Xw4.size
       clear hW27
       clear A65a A65b
       go_wp2_with fail
       go_roundw
       case rel => exact ⟨k + 1, by omega, by go_num, (by rw [resh_step1 hlt hv52.out (by omega) hJ.out hv60.out hv64.out]; exact O13.ext qXt), Kr22_w4.ext qXt, BL5_w4.trans qXt⟩
       case measure => simp [intOf]; omega
      ·
       go_wp2_with fail
       go_roundw
       case rel => exact ⟨k + 1, by omega, by go_num, (by rw [resh_step0 hlt hv52.out (by omega)]; exact O13.ext qXt), Kr22.ext qXt, Er23.trans qXt⟩
       case measure => simp [intOf]; omega
     ·
      have hkI : ¬ (k : Int) < u.length := by omega
      obtain rfl : k = u.length := by omega
      obtain ⟨T, hT⟩ : ∃ T, reshS C u u.length = T := ⟨_, rfl⟩
      rw [reshT_all, hT] at O13
      have hTl : T.length = u.length := by rw [← hT, reshS_len]
      replace hT := Lib.hid hT
      go_wp2_with fail
      refine (isView_c b1 (.slice (some ⟨g8, 0, none⟩) u.length r9) (.slice (some ⟨g10, 0, none⟩) u.length u.length) u T _ _ _ ((O12.ints (by first | (simp; omega) | (simp only [List.length_set]; omega) | omega)).ext qXt) ((O13.ints (by omega)).ext qXt)).mono ?_
      rintro e w4 ⟨rfl, xw4⟩
      have Lw4 : Ext wr w4 := Ext.trans qXt xw4
      have Xw4 : Ext w w4 := Xwr.trans Lw4
      replace b10 := Lw4.cell b10
      replace b11 := Lw4.cell b11
      replace b12 := Lw4.cell b12
      replace b20 := Lw4.cell b20
      replace b21 := Lw4.cell b21
      replace b22 := Lw4.cell b22
      replace f_b20 := Lw4.frz z_b2 f_b20
      replace f_b21 := Lw4.frz z_b2 f_b21
      replace f_b22 := Lw4.frz z_b2 f_b22
      replace b140 := Lw4.cell b140
      replace b141 := Lw4.cell b141
      replace b142 := Lw4.cell b142
      replace f_b140 := Lw4.frz z_b14 f_b140
      replace f_b141 := Lw4.frz z_b14 f_b141
      replace f_b142 := Lw4.frz z_b14 f_b142
      have z_b1 : w.heap.size < w4.heap.size := qB b10
      have z_b2 : w.heap.size + 1 < w4.heap.size := qB b20
      have z_b14 : g11 < w4.heap.size := qB b140
      replace O12 := O12.ext Lw4
      replace O13 := O13.ext Lw4
      replace i21 := i21.ext Lw4
      have s_w4 : w.heap.size ≤ w4.heap.size := Xw4.size
      have BL5_w4 : Ext w2 w4 := Er23.trans Lw4
      clear xw4
      cases hB74 : viewB b1 u T
      ·
       replace hB74 := Lib.hid hB74
       go_wp2_with fail
       generalize hW28 : (((w4.setCell ⟨w.heap.size + 1, 0, none⟩ (.int .i64 0)).setCell ⟨w.heap.size + 1, 1, none⟩ (.slice none 0 0)).setCell ⟨w.heap.size + 1, 2, none⟩ (.slice none 0 0)) = w5 at *
       have Kw5 : Chg (w.heap.size + 1) (w.heap.size + 1 + 1) w4 w5 := by subst hW28; exact qCh
       have Xw5 : Ext w w5 := by subst hW28; exact qXt
       replace b10 := Kw5.cell (by omega) b10
       replace b11 := Kw5.cell (by omega) b11
       replace b12 := Kw5.cell (by omega) b12
       replace b20 : w5.cell? ⟨w.heap.size + 1, 0, none⟩ = some (.int .i64 0) := by subst hW28; go_simp
       replace f_b20 : w5.frozen? ⟨w.heap.size + 1, 0, none⟩ = false := by subst hW28; first | (simp only [World.frozen?_setCell]; with_reducible assumption) | go_simp
       replace b21 : w5.cell? ⟨w.heap.size + 1, 1, none⟩ = some (.slice none 0 0) := by subst hW28; go_simp
       replace f_b21 : w5.frozen? ⟨w.heap.size + 1, 1, none⟩ = false := by subst hW28; first | (simp only [World.frozen?_setCell]; with_reducible assumption) | go_simp
       replace b22 : w5.cell? ⟨w.heap.size + 1, 2, none⟩ = some (.slice none 0 0) := by subst hW28; go_simp
       replace f_b22 : w5.frozen? ⟨w.heap.size + 1, 2, none⟩ = false := by subst hW28; first | (simp only [World.frozen?_setCell]; with_reducible assumption) | go_simp
       replace b140 := Kw5.cell (by omega) b140
       replace f_b140 := Kw5.frzO (by omega) z_b14 f_b140
       replace b141 := Kw5.cell (by omega) b141
       replace f_b141 := Kw5.frzO (by omega) z_b14 f_b141
       replace b142 := Kw5.cell (by omega) b142
       replace f_b142 := Kw5.frzO (by omega) z_b14 f_b142
       replace O12 := O12.chgN Kw5 (by omega)
       replace O13 := O13.chgN Kw5 (by omega)
       replace i21 := i21.chg Kw5 (by omega)
       clear Kw5
       have z_b1 : w.heap.size < w5.heap.size := qB b10
       have z_b2 : w.heap.size + 1 < w5.heap.size := qB b20
       have z_b14 : g11 < w5.heap.size := qB b140
       have s_w5 : w.heap.size ≤ w5.heap.size := Xw5.size
       clear hW28
       refine bodyPost_ret (v := .tuple #[.agg #[.int .i64 0, .slice none 0 0, .slice none 0 0], .bool false]) (by simp only [results, Try.results130]; go_simp) rfl ?_
       exact PVB.no (show rsV b1 s1 t1 u = noV from by rw [rs_val hv.out hu.out hC.out hT.out, if_pos hc3.out, if_neg hc15.out, hB74.out]; rfl) (Xw5.trans qXt)
      ·
       replace hB74 := Lib.hid hB74
       go_wp2_with fail
       refine (offsetsOf_c b1 (.slice (some ⟨g8, 0, none⟩) u.length r9) (.slice (some ⟨g10, 0, none⟩) u.length u.length) u T _ _ _ ((O12.ints (by first | (simp; omega) | (simp only [List.length_set]; omega) | omega)).ext qXt) ((O13.ints (by omega)).ext qXt) (by omega) (sh hu.out).2.1 (sh hu.out).2.2).mono ?_
       rintro e w5 ⟨fv75, rfl, i76, -, xw5⟩
       have Lw5 : Ext w4 w5 := Ext.trans qXt xw5
       have Xw5 : Ext w w5 := Xw4.trans Lw5
       replace b10 := Lw5.cell b10
       replace b11 := Lw5.cell b11
       replace b12 := Lw5.cell b12
       replace b20 := Lw5.cell b20
       replace b21 := Lw5.cell b21
       replace b22 := Lw5.cell b22
       replace f_b20 := Lw5.frz z_b2 f_b20
       replace f_b21 := Lw5.frz z_b2 f_b21
       replace f_b22 := Lw5.frz z_b2 f_b22
       replace b140 := Lw5.cell b140
       replace b141 := Lw5.cell b141
       replace b142 := Lw5.cell b142
       replace f_b140 := Lw5.frz z_b14 f_b140
       replace f_b141 := Lw5.frz z_b14 f_b141
       replace f_b142 := Lw5.frz z_b14 f_b142
       have z_b1 : w.heap.size < w5.heap.size := qB b10
       have z_b2 : w.heap.size + 1 < w5.heap.size := qB b20
       have z_b14 : g11 < w5.heap.size := qB b140
       replace O12 := O12.ext Lw5
       replace O13 := O13.ext Lw5
       replace i21 := i21.ext Lw5
       have s_w5 : w.heap.size ≤ w5.heap.size := Xw5.size
       have BL5_w5 : Ext w2 w5 := BL5_w4.trans Lw5
       clear xw5
       obtain ⟨afv75, cfv75, rfl⟩ := i76.form
       go_wp2_with fail
       refine (equal_x (offsL b1 u T) C (.slice afv75 ((offsL b1 u T).length) cfv75) (.slice afv20 C.length cfv20) _ _ _ (i76.ext qXt) (i21.ext qXt)).mono ?_
       rintro e w6 ⟨rfl, xw6⟩
       have Lw6 : Ext w5 w6 := Ext.trans qXt xw6
       have Xw6 : Ext w w6 := Xw5.trans Lw6
       replace b10 := Lw6.cell b10
       replace b11 := Lw6.cell b11
       replace b12 := Lw6.cell b12
       replace b20 := Lw6.cell b20
       replace b21 := Lw6.cell b21
       replace b22 := Lw6.cell b22
       replace f_b20 := Lw6.frz z_b2 f_b20
       replace f_b21 := Lw6.frz z_b2 f_b21
       replace f_b22 := Lw6.frz z_b2 f_b22
       replace b140 := Lw6.cell b140
       replace b141 := Lw6.cell b141
       replace b142 := Lw6.cell b142
       replace f_b140 := Lw6.frz z_b14 f_b140
       replace f_b141 := Lw6.frz z_b14 f_b141
       replace f_b142 := Lw6.frz z_b14 f_b142
       have z_b1 : w.heap.size < w6.heap.size := qB b10
       have z_b2 : w.heap.size + 1 < w6.heap.size := qB b20
       have z_b14 : g11 < w6.heap.size := qB b140
       replace O12 := O12.ext Lw6
       replace O13 := O13.ext Lw6
       replace i21 := i21.ext Lw6
       replace i76 := i76.ext Lw6
       have s_w6 : w.heap.size ≤ w6.heap.size := Xw6.size
       have BL5_w6 : Ext w2 w6 := BL5_w5.trans Lw6
       clear xw6
       cases hB77 : sameB (offsL b1 u T) C
       ·
        replace hB77 := Lib.hid hB77
        go_wp2_with fail
        generalize hW29 : (((w6.setCell ⟨w.heap.size + 1, 0, none⟩ (.int .i64 0)).setCell ⟨w.heap.size + 1, 1, none⟩ (.slice none 0 0)).setCell ⟨w.heap.size + 1, 2, none⟩ (.slice none 0 0)) = w7 at *
        have Kw7 : Chg (w.heap.size + 1) (w.heap.size + 1 + 1) w6 w7 := by subst hW29; exact qCh
        have Xw7 : Ext w w7 := by subst hW29; exact qXt
        replace b10 := Kw7.cell (by omega) b10
        replace b11 := Kw7.cell (by omega) b11
        replace b12 := Kw7.cell (by omega) b12
        replace b20 : w7.cell? ⟨w.heap.size + 1, 0, none⟩ = some (.int .i64 0) := by subst hW29; go_simp
        replace f_b20 : w7.frozen? ⟨w.heap.size + 1, 0, none⟩ = false := by subst hW29; first | (simp only [World.frozen?_setCell]; with_reducible assumption) | go_simp
        replace b21 : w7.cell? ⟨w.heap.size + 1, 1, none⟩ = some (.slice none 0 0) := by subst hW29; go_simp
        replace f_b21 : w7.frozen? ⟨w.heap.size + 1, 1, none⟩ = false := by subst hW29; first | (simp only [World.frozen?_setCell]; with_reducible assumption) | go_simp
        replace b22 : w7.cell? ⟨w.heap.size + 1, 2, none⟩ = some (.slice none 0 0) := by subst hW29; go_simp
        replace f_b22 : w7.frozen? ⟨w.heap.size + 1, 2, none⟩ = false := by subst hW29; first | (simp only [World.frozen?_setCell]; with_reducible assumption) | go_simp
        replace b140 := Kw7.cell (by omega) b140
        replace f_b140 := Kw7.frzO (by omega) z_b14 f_b140
        replace b141 := Kw7.cell (by omega) b141
        replace f_b141 := Kw7.frzO (by omega) z_b14 f_b141
        replace b142 := Kw7.cell (by omega) b142
        replace f_b142 := Kw7.frzO (by omega) z_b14 f_b142
        replace O12 := O12.chgN Kw7 (by omega)
        replace O13 := O13.chgN Kw7 (by omega)
        replace i21 := i21.chg Kw7 (by omega)
        replace i76 := i76.chg Kw7 (by omega)
        clear Kw7
        have z_b1 : w.heap.size < w7.heap.size := qB b10
        have z_b2 : w.heap.size + 1 < w7.heap.size := qB b20
        have z_b14 : g11 < w7.heap.size := qB b140
        have s_w7 : w.heap.size ≤ w7.heap.size := Xw7.size
        clear hW29
        refine bodyPost_ret (v := .tuple #[.agg #[.int .i64 0, .slice none 0 0, .slice none 0 0], .bool false]) (by simp only [results, Try.results130]; go_simp) rfl ?_
        exact PVB.no (show rsV b1 s1 t1 u = noV from by rw [rs_val hv.out hu.out hC.out hT.out, if_pos hc3.out, if_neg hc15.out, hB74.out, hB77.out]; rfl) (Xw7.trans qXt)
       ·
        replace hB77 := Lib.hid hB77
        go_wp2_with fail
        generalize hW30 : (((w6.setCell ⟨w.heap.size + 1, 0, none⟩ (.int .i64 b1)).setCell ⟨w.heap.size + 1, 1, none⟩ (.slice (some ⟨g8, 0, none⟩) u.length r9)).setCell ⟨w.heap.size + 1, 2, none⟩ (.slice (some ⟨g10, 0, none⟩) u.length u.length)) = w7 at *
        have Kw7 : Chg (w.heap.size + 1) (w.heap.size + 1 + 1) w6 w7 := by subst hW30; exact qCh
        have Xw7 : Ext w w7 := by subst hW30; exact qXt
        replace b10 := Kw7.cell (by omega) b10
        replace b11 := Kw7.cell (by omega) b11
        replace b12 := Kw7.cell (by omega) b12
        replace b20 : w7.cell? ⟨w.heap.size + 1, 0, none⟩ = some (.int .i64 b1) := by subst hW30; go_simp
        replace f_b20 : w7.frozen? ⟨w.heap.size + 1, 0, none⟩ = false := by subst hW30; first | (simp only [World.frozen?_setCell]; with_reducible assumption) | go_simp
        replace b21 : w7.cell? ⟨w.heap.size + 1, 1, none⟩ = some (.slice (some ⟨g8, 0, none⟩) u.length r9) := by subst hW30; go_simp
        replace f_b21 : w7.frozen? ⟨w.heap.size + 1, 1, none⟩ = false := by subst hW30; first | (simp only [World.frozen?_setCell]; with_reducible assumption) | go_simp
        replace b22 : w7.cell? ⟨w.heap.size + 1, 2, none⟩ = some (.slice (some ⟨g10, 0, none⟩) u.length u.length) := by subst hW30; go_simp
        replace f_b22 : w7.frozen? ⟨w.heap.size + 1, 2, none⟩ = false := by subst hW30; first | (simp only [World.frozen?_setCell]; with_reducible assumption) | go_simp
        replace b140 := Kw7.cell (by omega) b140
        replace f_b140 := Kw7.frzO (by omega) z_b14 f_b140
        replace b141 := Kw7.cell (by omega) b141
        replace f_b141 := Kw7.frzO (by omega) z_b14 f_b141
        replace b142 := Kw7.cell (by omega) b142
        replace f_b142 := Kw7.frzO (by omega) z_b14 f_b142
        replace O12 := O12.chgN Kw7 (by omega)
        replace O13 := O13.chgN Kw7 (by omega)
        replace i21 := i21.chg Kw7 (by omega)
        replace i76 := i76.chg Kw7 (by omega)
        clear Kw7
        have z_b1 : w.heap.size < w7.heap.size := qB b10
        have z_b2 : w.heap.size + 1 < w7.heap.size := qB b20
        have z_b14 : g11 < w7.heap.size := qB b140
        have s_w7 : w.heap.size ≤ w7.heap.size := Xw7.size
        clear hW30
        refine bodyPost_ret (v := .tuple #[.agg #[.int .i64 b1, .slice (some ⟨g8, 0, none⟩) u.length r9, .slice (some ⟨g10, 0, none⟩) u.length u.length], .bool true]) (by simp only [results, Try.results130]; go_simp) rfl ?_
        exact PVB.yes (show rsV b1 s1 t1 u = (b1, u, T, true) from by rw [rs_val hv.out hu.out hC.out hT.out, if_pos hc3.out, if_neg hc15.out, hB74.out, hB77.out]; rfl) (O12.z.lower (by omega)) (O13.z.lower (by omega)) (fun _ _ h => by have h9 : g8 = g10 := Option.some.inj h; omega) (by omega) (by first | omega | (simp; omega)) (Xw7.trans qXt)
 ·
  have hc3e : ((countL u : Int) == (countL s1 : Int)) = false := by simpa using hc3
  have hc3n : ((countL u : Int) != (countL s1 : Int)) = true := by simpa using hc3
  replace hc3 := Lib.hid hc3
  refine qTk (v := ?_) 5 rfl (.inl ⟨by rfl, ?_⟩) ?_
  rotate_left
  ·
   (intro w hSw; (try dsimp only at hSw); go_simp; try with_reducible rfl)
  try simp only [Act.put, qa, qb, qc, qD, qE, qF]
  refine wpTail_done qKr ?_ _
  clear hHeld 
  go_wp2_with fail
  generalize hW31 : (((w1.setCell ⟨w.heap.size + 1, 0, none⟩ (.int .i64 0)).setCell ⟨w.heap.size + 1, 1, none⟩ (.slice none 0 0)).setCell ⟨w.heap.size + 1, 2, none⟩ (.slice none 0 0)) = w2 at *
  have Kw2 : Chg (w.heap.size + 1) (w.heap.size + 1 + 1) w1 w2 := by subst hW31; exact qCh
  have Xw2 : Ext w w2 := by subst hW31; exact qXt
  replace b10 := Kw2.cell (by omega) b10
  replace b11 := Kw2.cell (by omega) b11
  replace b12 := Kw2.cell (by omega) b12
  replace b20 : w2.cell? ⟨w.heap.size + 1, 0, none⟩ = some (.int .i64 0) := by subst hW31; go_simp
  replace f_b20 : w2.frozen? ⟨w.heap.size + 1, 0, none⟩ = false := by subst hW31; first | (simp only [World.frozen?_setCell]; with_reducible assumption) | go_simp
  replace b21 : w2.cell? ⟨w.heap.size + 1, 1, none⟩ = some (.slice none 0 0) := by subst hW31; go_simp
  replace f_b21 : w2.frozen? ⟨w.heap.size + 1, 1, none⟩ = false := by subst hW31; first | (simp only [World.frozen?_setCell]; with_reducible assumption) | go_simp
  replace b22 : w2.cell? ⟨w.heap.size + 1, 2, none⟩ = some (.slice none 0 0) := by subst hW31; go_simp
  replace f_b22 : w2.frozen? ⟨w.heap.size + 1, 2, none⟩ = false := by subst hW31; first | (simp only [World.frozen?_setCell]; with_reducible assumption) | go_simp
  clear Kw2
  have z_b1 : w.heap.size < w2.heap.size := qB b10
  have z_b2 : w.heap.size + 1 < w2.heap.size := qB b20
  have s_w2 : w.heap.size ≤ w2.heap.size := Xw2.size
  clear hW31
  refine bodyPost_ret (v := .tuple #[.agg #[.int .i64 0, .slice none 0 0, .slice none 0 0], .bool false]) (by simp only [results, Try.results130]; go_simp) rfl ?_
  exact PVB.no (show rsV b1 s1 t1 u = noV from by rw [rs_val hv.out hu.out rfl rfl, if_neg hc3.out]) (Xw2.trans qXt)

set_option maxHeartbeats 3200000 in
theorem implReshape_b (b1 : Int) (u1 v1 : Value) (s1 t1 : List Int) (v3 : Value) (u : List Int) (w : World) (l1 m1 : Nat) (h1 : Ints w l1 u1 s1) (k1 : Ints w m1 v1 t1) (l3 : Nat) (h3 : Ints w l3 v3 u) :
  Calls Try.prog 78 #[.agg #[.int .i64 b1, u1, v1], v3] w (PVB w (rsV b1 s1 t1 u)) := by
 obtain ⟨p0, c0, rfl⟩ := h1.form
 obtain ⟨p1, c1, rfl⟩ := k1.form
 obtain ⟨p2, c2, rfl⟩ := h3.form
 go_enter Try.func78, Try.ntmps78
 go_wp2_with fail
 refine (isView_c b1 (.slice p0 s1.length c0) (.slice p1 t1.length c1) s1 t1 _ _ _ (h1.ext qXt) (k1.ext qXt)).mono ?_
 rintro e w1 ⟨rfl, xw1⟩
 have Lw1 : Ext w w1 := Ext.trans qXt xw1
 have Xw1 : Ext w w1 := Lw1
 have b10 : w1.cell? ⟨w.heap.size, 0, none⟩ = some (.int .i64 b1) := xw1.cell qCl
 have b11 : w1.cell? ⟨w.heap.size, 1, none⟩ = some (.slice p0 s1.length c0) := xw1.cell qCl
 have b12 : w1.cell? ⟨w.heap.size, 2, none⟩ = some (.slice p1 t1.length c1) := xw1.cell qCl
 have b20 : w1.cell? ⟨w.heap.size + 1, 0, none⟩ = some (.int .i64 0) := xw1.cell qCl
 have b21 : w1.cell? ⟨w.heap.size + 1, 1, none⟩ = some (.slice none 0 0) := xw1.cell qCl
 have b22 : w1.cell? ⟨w.heap.size + 1, 2, none⟩ = some (.slice none 0 0) := xw1.cell qCl
 have f_b20 : w1.frozen? ⟨w.heap.size + 1, 0, none⟩ = false := xw1.frz (by simp <;> omega) qFz
 have f_b21 : w1.frozen? ⟨w.heap.size + 1, 1, none⟩ = false := xw1.frz (by simp <;> omega) qFz
 have f_b22 : w1.frozen? ⟨w.heap.size + 1, 2, none⟩ = false := xw1.frz (by simp <;> omega) qFz
 have z_b1 : w.heap.size < w1.heap.size := qB b10
 have z_b2 : w.heap.size + 1 < w1.heap.size := qB b20
 have s_w1 : w.heap.size ≤ w1.heap.size := Xw1.size
 clear xw1
 cases hB3 : viewB b1 s1 t1
 ·
  replace hB3 := Lib.hid hB3
  go_wp2_with fail
  generalize hW32 : (((w1.setCell ⟨w.heap.size + 1, 0, none⟩ (.int .i64 0)).setCell ⟨w.heap.size + 1, 1, none⟩ (.slice none 0 0)).setCell ⟨w.heap.size + 1, 2, none⟩ (.slice none 0 0)) = w2 at *
  have Kw2 : Chg (w.heap.size + 1) (w.heap.size + 1 + 1) w1 w2 := by subst hW32; exact qCh
  have Xw2 : Ext w w2 := by subst hW32; exact qXt
  replace b10 := Kw2.cell (by omega) b10
  replace b11 := Kw2.cell (by omega) b11
  replace b12 := Kw2.cell (by omega) b12
  replace b20 : w2.cell? ⟨w.heap.size + 1, 0, none⟩ = some (.int .i64 0) := by subst hW32; go_simp
  replace f_b20 : w2.frozen? ⟨w.heap.size + 1, 0, none⟩ = false := by subst hW32; first | (simp only [World.frozen?_setCell]; with_reducible assumption) | go_simp
  replace b21 : w2.cell? ⟨w.heap.size + 1, 1, none⟩ = some (.slice none 0 0) := by subst hW32; go_simp
  replace f_b21 : w2.frozen? ⟨w.heap.size + 1, 1, none⟩ = false := by subst hW32; first | (simp only [World.frozen?_setCell]; with_reducible assumption) | go_simp
  replace b22 : w2.cell? ⟨w.heap.size + 1, 2, none⟩ = some (.slice none 0 0) := by subst hW32; go_simp
  replace f_b22 : w2.frozen? ⟨w.heap.size + 1, 2, none⟩ = false := by subst hW32; first | (simp only [World.frozen?_setCell]; with_reducible assumption) | go_simp
  clear Kw2
  have z_b1 : w.heap.size < w2.heap.size := qB b10
  have z_b2 : w.heap.size + 1 < w2.heap.size := qB b20
  have s_w2 : w.heap.size ≤ w2.heap.size := Xw2.size
  clear hW32
  refine bodyPost_ret (v := .tuple #[.agg #[.int .i64 0, .slice none 0 0, .slice none 0 0], .bool false]) (by simp only [results, Try.results78]; go_simp) rfl ?_
  exact PVB.no (rs_no fun h => by have h7 := hB3.out; rw [h.1] at h7; cases h7) (Xw2.trans qXt)
 ·
  replace hB3 := Lib.hid hB3
  go_wp2_with fail
  refine (isShape_c u (.slice p2 u.length c2) _ _ (h3.ext (Xw1.trans qXt))).mono ?_
  rintro e w' ⟨rfl, rfl⟩
  cases hB4 : shapeB u
  ·
   replace hB4 := Lib.hid hB4
   go_wp2_with fail
   generalize hW33 : (((w1.setCell ⟨w.heap.size + 1, 0, none⟩ (.int .i64 0)).setCell ⟨w.heap.size + 1, 1, none⟩ (.slice none 0 0)).setCell ⟨w.heap.size + 1, 2, none⟩ (.slice none 0 0)) = w2 at *
   have Kw2 : Chg (w.heap.size + 1) (w.heap.size + 1 + 1) w1 w2 := by subst hW33; exact qCh
   have Xw2 : Ext w w2 := by subst hW33; exact qXt
   replace b10 := Kw2.cell (by omega) b10
   replace b11 := Kw2.cell (by omega) b11
   replace b12 := Kw2.cell (by omega) b12
   replace b20 : w2.cell? ⟨w.heap.size + 1, 0, none⟩ = some (.int .i64 0) := by subst hW33; go_simp
   replace f_b20 : w2.frozen? ⟨w.heap.size + 1, 0, none⟩ = false := by subst hW33; first | (simp only [World.frozen?_setCell]; with_reducible assumption) | go_simp
   replace b21 : w2.cell? ⟨w.heap.size + 1, 1, none⟩ = some (.slice none 0 0) := by subst hW33; go_simp
   replace f_b21 : w2.frozen? ⟨w.heap.size + 1, 1, none⟩ = false := by subst hW33; first | (simp only [World.frozen?_setCell]; with_reducible assumption) | go_simp
   replace b22 : w2.cell? ⟨w.heap.size + 1, 2, none⟩ = some (.slice none 0 0) := by subst hW33; go_simp
   replace f_b22 : w2.frozen? ⟨w.heap.size + 1, 2, none⟩ = false := by subst hW33; first | (simp only [World.frozen?_setCell]; with_reducible assumption) | go_simp
   clear Kw2
   have z_b1 : w.heap.size < w2.heap.size := qB b10
   have z_b2 : w.heap.size + 1 < w2.heap.size := qB b20
   have s_w2 : w.heap.size ≤ w2.heap.size := Xw2.size
   clear hW33
   refine bodyPost_ret (v := .tuple #[.agg #[.int .i64 0, .slice none 0 0, .slice none 0 0], .bool false]) (by simp only [results, Try.results78]; go_simp) rfl ?_
   exact PVB.no (rs_no fun h => by have h7 := hB4.out; rw [h.2.1] at h7; cases h7) (Xw2.trans qXt)
  ·
   replace hB4 := Lib.hid hB4
   go_wp2_with fail
   refine (reshape_b b1 (.slice p0 s1.length c0) (.slice p1 t1.length c1) s1 t1 (.slice p2 u.length c2) u _ _ _ (h1.ext (Xw1.trans qXt)) (k1.ext (Xw1.trans qXt)) _ (h3.ext (Xw1.trans qXt)) hB3.out hB4.out).mono ?_
   rintro e w2 ⟨fv5u, fv5v, rfl, i6u, i6v, i6uz, i6vz, i6s, xw2⟩
   have Lw2 : Ext w1 w2 := Ext.trans qXt xw2
   have Xw2 : Ext w w2 := Xw1.trans Lw2
   replace b10 := Lw2.cell b10
   replace b11 := Lw2.cell b11
   replace b12 := Lw2.cell b12
   replace b20 := Lw2.cell b20
   replace b21 := Lw2.cell b21
   replace b22 := Lw2.cell b22
   replace f_b20 := Lw2.frz z_b2 f_b20
   replace f_b21 := Lw2.frz z_b2 f_b21
   replace f_b22 := Lw2.frz z_b2 f_b22
   have z_b1 : w.heap.size < w2.heap.size := qB b10
   have z_b2 : w.heap.size + 1 < w2.heap.size := qB b20
   have s_w2 : w.heap.size ≤ w2.heap.size := Xw2.size
   clear xw2
   obtain ⟨afv5u, cfv5u, rfl⟩ := i6u.form
   obtain ⟨afv5v, cfv5v, rfl⟩ := i6v.form
   go_wp2_with fail
   generalize hW34 : (((w2.setCell ⟨w.heap.size + 1, 0, none⟩ (.int .i64 ((rsV b1 s1 t1 u).1))).setCell ⟨w.heap.size + 1, 1, none⟩ (.slice afv5u (((rsV b1 s1 t1 u).2.1).length) cfv5u)).setCell ⟨w.heap.size + 1, 2, none⟩ (.slice afv5v (((rsV b1 s1 t1 u).2.2.1).length) cfv5v)) = w3 at *
   have Kw3 : Chg (w.heap.size + 1) (w.heap.size + 1 + 1) w2 w3 := by subst hW34; exact qCh
   have Xw3 : Ext w w3 := by subst hW34; exact qXt
   replace b10 := Kw3.cell (by omega) b10
   replace b11 := Kw3.cell (by omega) b11
   replace b12 := Kw3.cell (by omega) b12
   replace b20 : w3.cell? ⟨w.heap.size + 1, 0, none⟩ = some (.int .i64 ((rsV b1 s1 t1 u).1)) := by subst hW34; go_simp
   replace f_b20 : w3.frozen? ⟨w.heap.size + 1, 0, none⟩ = false := by subst hW34; first | (simp only [World.frozen?_setCell]; with_reducible assumption) | go_simp
   replace b21 : w3.cell? ⟨w.heap.size + 1, 1, none⟩ = some (.slice afv5u (((rsV b1 s1 t1 u).2.1).length) cfv5u) := by subst hW34; go_simp
   replace f_b21 : w3.frozen? ⟨w.heap.size + 1, 1, none⟩ = false := by subst hW34; first | (simp only [World.frozen?_setCell]; with_reducible assumption) | go_simp
   replace b22 : w3.cell? ⟨w.heap.size + 1, 2, none⟩ = some (.slice afv5v (((rsV b1 s1 t1 u).2.2.1).length) cfv5v) := by subst hW34; go_simp
   replace f_b22 : w3.frozen? ⟨w.heap.size + 1, 2, none⟩ = false := by subst hW34; first | (simp only [World.frozen?_setCell]; with_reducible assumption) | go_simp
   replace i6u := i6u.chg Kw3 (by omega)
   replace i6v := i6v.chg Kw3 (by omega)
   replace i6uz := i6uz.chg Kw3 (by omega)
   replace i6vz := i6vz.chg Kw3 (by omega)
   clear Kw3
   have z_b1 : w.heap.size < w3.heap.size := qB b10
   have z_b2 : w.heap.size + 1 < w3.heap.size := qB b20
   have s_w3 : w.heap.size ≤ w3.heap.size := Xw3.size
   clear hW34
   refine bodyPost_ret (v := .tuple #[.agg #[.int .i64 ((rsV b1 s1 t1 u).1), .slice afv5u (((rsV b1 s1 t1 u).2.1).length) cfv5u, .slice afv5v (((rsV b1 s1 t1 u).2.2.1).length) cfv5v], .bool ((rsV b1 s1 t1 u).2.2.2)]) (by simp only [results, Try.results78]; go_simp) rfl ?_
   exact ⟨_, _, rfl, i6u.lower (by omega), i6v.lower (by omega), i6uz.lower (by omega), i6vz.lower (by omega), i6s, Xw3⟩


end Go.Proofs.Ytfbbnbpobojboaa

/- Walks: SplitDim of the program. -/
namespace Go.Proofs.Ytfbbnbpobojboaa
open Go.RowKit
set_option linter.unusedVariables false
set_option maxRecDepth 100000


/-- SplitDim -/
def spV (b : Int) (s t : List Int) (d o : Int) : VBool := if dimB b s t d && (decide (1 ≤ o) && decide ((s.getD d.toNat 0).tmod o = 0)) then rsV b s t (splitS s d.toNat o ((s.getD d.toNat 0).tdiv o)) else noV
theorem sp_no0 {b : Int} {s t : List Int} {d o : Int} (h : dimB b s t d = false) : spV b s t d o = noV := by unfold spV; rw [h]; rfl
theorem sp_no1 {b : Int} {s t : List Int} {d o : Int} (h : o < 1) : spV b s t d o = noV := by unfold spV; rw [if_neg (by simp only [Bool.and_eq_true, decide_eq_true_eq]; omega)]
theorem sp_no2 {b : Int} {s t : List Int} {D : Nat} {o e : Int} (h : s.getD D 0 = e) (h2 : ¬ e.tmod o = 0) : spV b s t (D : Int) o = noV := by
  unfold spV; rw [Int.toNat_natCast, h, if_neg (by simp only [Bool.and_eq_true, decide_eq_true_eq]; intro h3; exact h2 h3.2.2)]
theorem sp_yes {b : Int} {s t : List Int} {D : Nat} {o e q : Int} {U : List Int} (h : dimB b s t (D : Int) = true) (h2 : ¬ o < 1) (h3 : s.getD D 0 = e) (h4 : e.tmod o = 0) (h5 : e.tdiv o = q) (h6 : splitS s D o q = U) : spV b s t (D : Int) o = rsV b s t U := by
  subst h3; subst h5; subst h6
  unfold spV
  rw [h, Int.toNat_natCast, if_pos (by simp only [Bool.true_and, Bool.and_eq_true, decide_eq_true_eq]; exact ⟨by omega, h4⟩)]
theorem quo_in {e o : Int} (h0 : 0 ≤ e) (h1 : e ≤ 60) (ho : ¬ o < 1) : e.tdiv o = e / o ∧ 0 ≤ e.tdiv o ∧ e.tdiv o ≤ 60 := by
  rw [Int.tdiv_eq_ediv_of_nonneg h0]
  have h2 := Int.ediv_nonneg h0 (show 0 ≤ o by omega)
  have h3 := Int.ediv_le_self o h0
  omega

end Go.Proofs.Ytfbbnbpobojboaa

/- Walks: SplitDim of the program, its answer in rows of its own. -/
namespace Go.Proofs.Ytfbbnbpobojboaa
open Go.RowKit
set_option linter.unusedVariables false
set_option maxRecDepth 100000

set_option maxHeartbeats 3200000 in
theorem implSplitDim_b (b1 : Int) (u1 v1 : Value) (s1 t1 : List Int) (d o : Int) (w : World) (l1 m1 : Nat) (h1 : Ints w l1 u1 s1) (k1 : Ints w m1 v1 t1) :
  Calls Try.prog 25 #[.agg #[.int .i64 b1, u1, v1], .int .i64 d, .int .i64 o] w (PVB w (spV b1 s1 t1 d o)) := by
 obtain ⟨p0, c0, rfl⟩ := h1.form
 obtain ⟨p1, c1, rfl⟩ := k1.form
 go_enter Try.func25, Try.ntmps25
 go_wp2_with fail
 refine (hasDim_c b1 (.slice p0 s1.length c0) (.slice p1 t1.length c1) s1 t1 d _ _ _ (h1.ext qXt) (k1.ext qXt)).mono ?_
 rintro e w1 ⟨rfl, xw1⟩
 have Lw1 : Ext w w1 := Ext.trans qXt xw1
 have Xw1 : Ext w w1 := Lw1
 have b10 : w1.cell? ⟨w.heap.size, 0, none⟩ = some (.int .i64 b1) := xw1.cell qCl
 have b11 : w1.cell? ⟨w.heap.size, 1, none⟩ = some (.slice p0 s1.length c0) := xw1.cell qCl
 have b12 : w1.cell? ⟨w.heap.size, 2, none⟩ = some (.slice p1 t1.length c1) := xw1.cell qCl
 have b20 : w1.cell? ⟨w.heap.size + 1, 0, none⟩ = some (.int .i64 0) := xw1.cell qCl
 have b21 : w1.cell? ⟨w.heap.size + 1, 1, none⟩ = some (.slice none 0 0) := xw1.cell qCl
 have b22 : w1.cell? ⟨w.heap.size + 1, 2, none⟩ = some (.slice none 0 0) := xw1.cell qCl
 have f_b20 : w1.frozen? ⟨w.heap.size + 1, 0, none⟩ = false := xw1.frz (by simp <;> omega) qFz
 have f_b21 : w1.frozen? ⟨w.heap.size + 1, 1, none⟩ = false := xw1.frz (by simp <;> omega) qFz
 have f_b22 : w1.frozen? ⟨w.heap.size + 1, 2, none⟩ = false := xw1.frz (by simp <;> omega) qFz
 have z_b1 : w.heap.size < w1.heap.size := qB b10
 have z_b2 : w.heap.size + 1 < w1.heap.size := qB b20
 have s_w1 : w.heap.size ≤ w1.heap.size := Xw1.size
 clear xw1
 cases hB3 : dimB b1 s1 t1 d
 ·
  replace hB3 := Lib.hid hB3
  go_wp2_with fail
  generalize hW1 : (((w1.setCell ⟨w.heap.size + 1, 0, none⟩ (.int .i64 0)).setCell ⟨w.heap.size + 1, 1, none⟩ (.slice none 0 0)).setCell ⟨w.heap.size + 1, 2, none⟩ (.slice none 0 0)) = w2 at *
  have Kw2 : Chg (w.heap.size + 1) (w.heap.size + 1 + 1) w1 w2 := by subst hW1; exact qCh
  have Xw2 : Ext w w2 := by subst hW1; exact qXt
  replace b10 := Kw2.cell (by omega) b10
  replace b11 := Kw2.cell (by omega) b11
  replace b12 := Kw2.cell (by omega) b12
  replace b20 : w2.cell? ⟨w.heap.size + 1, 0, none⟩ = some (.int .i64 0) := by subst hW1; go_simp
  replace f_b20 : w2.frozen? ⟨w.heap.size + 1, 0, none⟩ = false := by subst hW1; first | (simp only [World.frozen?_setCell]; with_reducible assumption) | go_simp
  replace b21 : w2.cell? ⟨w.heap.size + 1, 1, none⟩ = some (.slice none 0 0) := by subst hW1; go_simp
  replace f_b21 : w2.frozen? ⟨w.heap.size + 1, 1, none⟩ = false := by subst hW1; first | (simp only [World.frozen?_setCell]; with_reducible assumption) | go_simp
  replace b22 : w2.cell? ⟨w.heap.size + 1, 2, none⟩ = some (.slice none 0 0) := by subst hW1; go_simp
  replace f_b22 : w2.frozen? ⟨w.heap.size + 1, 2, none⟩ = false := by subst hW1; first | (simp only [World.frozen?_setCell]; with_reducible assumption) | go_simp
  clear Kw2
  have z_b1 : w.heap.size < w2.heap.size := qB b10
  have z_b2 : w.heap.size + 1 < w2.heap.size := qB b20
  have s_w2 : w.heap.size ≤ w2.heap.size := Xw2.size
  clear hW1
  refine bodyPost_ret (v := .tuple #[.agg #[.int .i64 0, .slice none 0 0, .slice none 0 0], .bool false]) (by simp only [results, Try.results25]; go_simp) rfl ?_
  exact PVB.no (show spV b1 s1 t1 d o = noV from sp_no0 hB3.out) (Xw2.trans qXt)
 ·
  replace hB3 := Lib.hid hB3
  obtain ⟨hvv, hd0, hd1⟩ := dim_in hB3.out
  obtain ⟨D, rfl⟩ : ∃ D : Nat, d = D := ⟨d.toNat, by omega⟩
  have hDN : D < s1.length := by omega
  obtain ⟨-, hts, -, ht60, -⟩ := viewB_in hvv
  have hs4 := view_small hvv
  have hs60 := Lib.hid hs4.2
  have hs4 := hs4.1
  have hDT : D < t1.length := by omega
  have ht4 : t1.length ≤ 4 := by omega
  have hdl4 : (delL s1 D).length ≤ 4 := by rw [delL_len _ _ hDN]; omega
  replace hts := Lib.hid hts
  replace ht60 := Lib.hid ht60
  replace hvv := Lib.hid hvv
  have hne1 : s1 ≠ [] := fun h => by rw [h] at hDN; simp at hDN
  replace hne1 := Lib.hid hne1
  have hD10 : (0 : Int) ≤ (D : Int) + 1 := by omega
  have hD1t : ((D : Int) + 1).toNat = D + 1 := by omega
  by_cases hc4 : (o : Int) < (1 : Int)
  ·
   go_wp2_with fail
   generalize hW2 : (((w1.setCell ⟨w.heap.size + 1, 0, none⟩ (.int .i64 0)).setCell ⟨w.heap.size + 1, 1, none⟩ (.slice none 0 0)).setCell ⟨w.heap.size + 1, 2, none⟩ (.slice none 0 0)) = w2 at *
   have Kw2 : Chg (w.heap.size + 1) (w.heap.size + 1 + 1) w1 w2 := by subst hW2; exact qCh
   have Xw2 : Ext w w2 := by subst hW2; exact qXt
   replace b10 := Kw2.cell (by omega) b10
   replace b11 := Kw2.cell (by omega) b11
   replace b12 := Kw2.cell (by omega) b12
   replace b20 : w2.cell? ⟨w.heap.size + 1, 0, none⟩ = some (.int .i64 0) := by subst hW2; go_simp
   replace f_b20 : w2.frozen? ⟨w.heap.size + 1, 0, none⟩ = false := by subst hW2; first | (simp only [World.frozen?_setCell]; with_reducible assumption) | go_simp
   replace b21 : w2.cell? ⟨w.heap.size + 1, 1, none⟩ = some (.slice none 0 0) := by subst hW2; go_simp
   replace f_b21 : w2.frozen? ⟨w.heap.size + 1, 1, none⟩ = false := by subst hW2; first | (simp only [World.frozen?_setCell]; with_reducible assumption) | go_simp
   replace b22 : w2.cell? ⟨w.heap.size + 1, 2, none⟩ = some (.slice none 0 0) := by subst hW2; go_simp
   replace f_b22 : w2.frozen? ⟨w.heap.size + 1, 2, none⟩ = false := by subst hW2; first | (simp only [World.frozen?_setCell]; with_reducible assumption) | go_simp
   clear Kw2
   have z_b1 : w.heap.size < w2.heap.size := qB b10
   have z_b2 : w.heap.size + 1 < w2.heap.size := qB b20
   have s_w2 : w.heap.size ≤ w2.heap.size := Xw2.size
   clear hW2
   refine bodyPost_ret (v := .tuple #[.agg #[.int .i64 0, .slice none 0 0, .slice none 0 0], .bool false]) (by simp only [results, Try.results25]; go_simp) rfl ?_
   exact PVB.no (show spV b1 s1 t1 (D : Int) o = noV from sp_no1 (by omega)) (Xw2.trans qXt)
  ·
   have ho0 : ¬ (o = 0) := by omega
   have hN_e7 : D < s1.length := (by omega)
   have hI_e7 : (D : Int) < (s1.length : Int) := by omega
   obtain ⟨bl5, ol6, rfl, e70⟩ := h1.at D (by omega)
   have y_e7 : bl5 < w.heap.size := qB e70
   replace e70 := Xw1.cell e70
   obtain ⟨v8, hv8⟩ : ∃ v, s1.getD D 0 = v := ⟨_, rfl⟩
   rw [hv8] at e70
   replace hv8 := Lib.hid hv8
   have z_e7 : bl5 < w1.heap.size := qB e70
   have h60v8 := hs60.out _ (getD_mem (show D < s1.length by omega))
   rw [hv8.out] at h60v8
   by_cases hc9 : ((v8).tmod o : Int) = (0 : Int)
   ·
    have hc9e : (((v8).tmod o : Int) == (0 : Int)) = true := by simpa using hc9
    have hc9n : (((v8).tmod o : Int) != (0 : Int)) = false := by simpa using hc9
    have hc9m : ((v8 % o : Int) == (0 : Int)) = true := by rw [← Int.tmod_eq_emod_of_nonneg (by omega)]; exact hc9e
    have hc9o : ((v8 % o : Int) != (0 : Int)) = false := by rw [← Int.tmod_eq_emod_of_nonneg (by omega)]; exact hc9n
    replace hc9 := Lib.hid hc9
    have Q14_b10 := Lib.hid b10
    have Q14_b11 := Lib.hid b11
    have Q14_b12 := Lib.hid b12
    have Q14_zb1 := z_b1
    have Q14_b20 := Lib.hid b20
    have Q14_f_b20 := Lib.hid f_b20
    have Q14_b21 := Lib.hid b21
    have Q14_f_b21 := Lib.hid f_b21
    have Q14_b22 := Lib.hid b22
    have Q14_f_b22 := Lib.hid f_b22
    have Q14_zb2 := z_b2
    have Q14_e70 := Lib.hid e70
    have Q14_ze7 := z_e7
    have BL15 : Ext w1 w1 := Ext.refl _
    have hln10 : s1.length ≤ 4194304 := ((h1.ext Xw1)).len
    go_wp2_with (at_builtin; refine wpList_app0O rfl (.tmp 28) (.tmp 30) rfl rfl rfl (OwnI.lit0 (w1) w1.heap.size (by simp)) (by simp) ((h1.ext Xw1).ext qXt) ?_)
    intro gr12 rr13 w2 O11 xw2 hg7 Ggr12'
    replace xw2 : Ext w1 w2 := Ext.trans qXt xw2
    have Ggr12 : w1.heap.size ≤ gr12 := by (try simp only [World.size_alloc, World.size_drew] at hg7); omega
    clear hg7
    have Lw2 : Ext w1 w2 := Ext.trans qXt xw2
    have Xw2 : Ext w w2 := Xw1.trans Lw2
    replace b10 := Lw2.cell b10
    replace b11 := Lw2.cell b11
    replace b12 := Lw2.cell b12
    replace b20 := Lw2.cell b20
    replace b21 := Lw2.cell b21
    replace b22 := Lw2.cell b22
    replace f_b20 := Lw2.frz z_b2 f_b20
    replace f_b21 := Lw2.frz z_b2 f_b21
    replace f_b22 := Lw2.frz z_b2 f_b22
    replace e70 := Lw2.cell e70
    have z_b1 : w.heap.size < w2.heap.size := qB b10
    have z_b2 : w.heap.size + 1 < w2.heap.size := qB b20
    have z_e7 : bl5 < w2.heap.size := qB e70
    have s_w2 : w.heap.size ≤ w2.heap.size := Xw2.size
    have BL15_w2 : Ext w1 w2 := BL15.trans Lw2
    clear xw2
    have A16 := O11.cell D (by omega)
    obtain ⟨A16a, A16b⟩ := A16
    obtain ⟨hq7, hq8, hq9⟩ := quo_in (o := o) h60v8.1 h60v8.2 (by omega)
    obtain ⟨q, hq1⟩ : ∃ q, v8.tdiv o = q := ⟨_, rfl⟩
    rw [hq1] at hq7 hq8 hq9
    have hq2 : v8 / o = q := hq7.symm
    clear hq7
    have hq3 : IntKind.i64.wrap q = q := IntWalk.i64_in _ (by omega)
    have ho0 : ¬ (o = 0) := by omega
    obtain ⟨U, hU⟩ : ∃ U, splitS s1 D o q = U := ⟨_, rfl⟩
    have hUl : U.length = s1.length + 1 := by rw [← hU, split_len _ _ _ _ hDN]
    replace hU := Lib.hid hU
    replace hUl := Lib.hid hUl
    go_wp2_with fail
    clear e70 z_e7
    generalize hW3 : (w2.setCell ⟨gr12, D, none⟩ (.int .i64 o)) = w3 at *
    have Kw3 : Chg (gr12) (gr12 + 1) w2 w3 := by subst hW3; exact qCh
    have Xw3 : Ext w w3 := by subst hW3; exact qXt
    have BL15_w3 : Ext w1 w3 := by subst hW3; exact qXt
    replace b10 := BL15_w3.cell Q14_b10.out
    replace b11 := BL15_w3.cell Q14_b11.out
    replace b12 := BL15_w3.cell Q14_b12.out
    replace b20 := BL15_w3.cell Q14_b20.out
    replace f_b20 := BL15_w3.frz Q14_zb2 Q14_f_b20.out
    replace b21 := BL15_w3.cell Q14_b21.out
    replace f_b21 := BL15_w3.frz Q14_zb2 Q14_f_b21.out
    replace b22 := BL15_w3.cell Q14_b22.out
    replace f_b22 := BL15_w3.frz Q14_zb2 Q14_f_b22.out
    have n_O11 := O11.set D (o) (by first | omega | (simp; omega) | (rw [putUp_len]; simp; omega) | (rw [addUp_len]; omega))
    rw [hW3] at n_O11
    replace O11 := n_O11
    clear n_O11
    clear Kw3
    have z_b1 : w.heap.size < w3.heap.size := qB b10
    have z_b2 : w.heap.size + 1 < w3.heap.size := qB b20
    have s_w3 : w.heap.size ≤ w3.heap.size := Xw3.size
    clear hW3
    clear A16a A16b
    have hN_e19 : D < s1.length := (by omega)
    have hI_e19 : (D : Int) < (s1.length : Int) := by omega
    obtain ⟨b_e19, o_e19, h_e19, e190⟩ := h1.at D (by omega)
    cases h_e19
    have y_e19 : bl5 < w.heap.size := qB e190
    replace e190 := Xw3.cell e190
    rw [hv8.out] at e190
    have z_e19 : bl5 < w3.heap.size := qB e190
    refine wp_region_tail (S := fun w' => w'.cell? ⟨w.heap.size, 0, none⟩ = some (.int .i64 b1) ∧ w'.cell? ⟨w.heap.size, 1, none⟩ = some (.slice (some ⟨bl5, ol6, none⟩) s1.length c0) ∧ w'.cell? ⟨w.heap.size, 2, none⟩ = some (.slice p1 t1.length c1) ∧ w'.cell? ⟨bl5, ol6 + D, none⟩ = some (.int .i64 v8)) (fun i => decide (16 ≤ i)) qKr ⟨b10, b11, b12, e190⟩ (fun hHeld => ?_)
    refine qTk (v := ?_) 0 rfl (.inl ⟨by rfl, ?_⟩) ?_
    rotate_left
    ·
     (intro w hSw; (try dsimp only at hSw); go_simp; try with_reducible rfl)
    try simp only [Act.put, qa, qb, qc, qD, qE, qF]
    refine qTk (v := ?_) 1 rfl (.inl ⟨by rfl, ?_⟩) ?_
    rotate_left
    ·
     (intro w hSw; (try dsimp only at hSw); go_simp; try with_reducible rfl)
    try simp only [Act.put, qa, qb, qc, qD, qE, qF]
    refine qTk (v := ?_) 2 rfl (.inl ⟨by rfl, ?_⟩) ?_
    rotate_left
    ·
     (intro w hSw; (try dsimp only at hSw); go_simp; try with_reducible rfl)
    try simp only [Act.put, qa, qb, qc, qD, qE, qF]
    have hw20 : IntKind.i64.wrap ((D : Int) + 1) = (D : Int) + 1 := IntWalk.i64_in _ (by omega)
    refine qTk (v := ?_) 3 rfl (.inl ⟨by rfl, ?_⟩) ?_
    rotate_left
    ·
     (intro w hSw; (try dsimp only at hSw); go_simp; try with_reducible rfl)
    try simp only [Act.put, qa, qb, qc, qD, qE, qF]
    refine qTk (v := ?_) 4 rfl (.inl ⟨by rfl, ?_⟩) ?_
    rotate_left
    ·
     (intro w hSw; (try dsimp only at hSw); go_simp; try with_reducible rfl)
    try simp only [Act.put, qa, qb, qc, qD, qE, qF]
    refine qTk (v := ?_) 5 rfl (.inl ⟨by rfl, ?_⟩) ?_
    rotate_left
    ·
     (intro w hSw; (try dsimp only at hSw); go_simp; try with_reducible rfl)
    try simp only [Act.put, qa, qb, qc, qD, qE, qF]
    refine qTk (v := ?_) 6 rfl (.inl ⟨by rfl, ?_⟩) ?_
    rotate_left
    ·
     (intro w hSw; (try dsimp only at hSw); go_simp; try with_reducible rfl)
    try simp only [Act.put, qa, qb, qc, qD, qE, qF]
    refine qTk (v := ?_) 7 rfl (.inl ⟨by rfl, ?_⟩) ?_
    rotate_left
    ·
     (intro w hSw; (try dsimp only at hSw); go_simp; try with_reducible rfl)
    try simp only [Act.put, qa, qb, qc, qD, qE, qF]
    refine qTk (v := ?_) 8 rfl (.inl ⟨by rfl, ?_⟩) ?_
    rotate_left
    ·
     (intro w hSw; (try dsimp only at hSw); go_simp; try with_reducible rfl)
    try simp only [Act.put, qa, qb, qc, qD, qE, qF]
    refine qTk (v := ?_) 9 rfl (.inl ⟨by rfl, ?_⟩) ?_
    rotate_left
    ·
     (intro w hSw; (try dsimp only at hSw); go_simp; try with_reducible rfl)
    try simp only [Act.put, qa, qb, qc, qD, qE, qF]
    refine qTk (v := ?_) 10 rfl (.inl ⟨by rfl, ?_⟩) ?_
    rotate_left
    ·
     (intro w hSw; (try dsimp only at hSw); go_simp; try with_reducible rfl)
    try simp only [Act.put, qa, qb, qc, qD, qE, qF]
    refine wpTail_one (i := 11) qKr rfl rfl (fun K hK => ?_)
    try simp only [Act.put, qa, qb, qc, qD, qE, qF]
    go_simp
    refine hK.out _ (w3.drew.alloc (.cells #[.int .i64 q] 3)) ⟨(show Ext w3 (w3.drew.alloc (.cells #[.int .i64 q] 3)) from qXt).cell b10, (show Ext w3 (w3.drew.alloc (.cells #[.int .i64 q] 3)) from qXt).cell b11, (show Ext w3 (w3.drew.alloc (.cells #[.int .i64 q] 3)) from qXt).cell b12, (show Ext w3 (w3.drew.alloc (.cells #[.int .i64 q] 3)) from qXt).cell e190⟩ (fun hHeld => ?_)
    clear hK K
    try simp only [Act.put, qa, qb, qc, qD, qE, qF]
    refine wpTail_one (i := 12) qKr rfl rfl (fun K hK => ?_)
    try simp only [Act.put, qa, qb, qc, qD, qE, qF]
    go_simp
    refine (insert_i (s1.set D o) gr12 _ _ _ (D + 1) q _ (w3.drew) (by omega) (O11.ext qXt) (by simp only [List.length_set]; omega) (by simp only [List.length_set]; omega)).mono ?_
    rintro e w4 ⟨gr25, rr26, rfl, i24, Ggr25, Hgr25, Cw4⟩
    have Ew4 : Ext w3 (w3.drew) := qXt
    have e_w4 := Ew4.size
    have zc_w4 := Cw4.size
    simp only [World.size_drew, World.size_alloc] at zc_w4
    have Xw4 : Ext w w4 := Rch.toExt' Cw4 (by omega) (Xw3.trans Ew4)
    replace b10 := Cw4.cell (by omega) (Ew4.cell b10)
    replace b11 := Cw4.cell (by omega) (Ew4.cell b11)
    replace b12 := Cw4.cell (by omega) (Ew4.cell b12)
    replace b20 := Cw4.cell (by omega) (Ew4.cell b20)
    replace f_b20 := Cw4.frzO (by omega) (by omega) (Ew4.frz z_b2 f_b20)
    replace b21 := Cw4.cell (by omega) (Ew4.cell b21)
    replace f_b21 := Cw4.frzO (by omega) (by omega) (Ew4.frz z_b2 f_b21)
    replace b22 := Cw4.cell (by omega) (Ew4.cell b22)
    replace f_b22 := Cw4.frzO (by omega) (by omega) (Ew4.frz z_b2 f_b22)
    replace e190 := Cw4.cell (by omega) (Ew4.cell e190)
    have BL15_w4 : Ext w1 w4 := Rch.toExt' Cw4 (by omega) (BL15_w3.trans Ew4)
    have z_b1 : w.heap.size < w4.heap.size := qB b10
    have z_b2 : w.heap.size + 1 < w4.heap.size := qB b20
    have z_e19 : bl5 < w4.heap.size := qB e190
    have s_w4 : w.heap.size ≤ w4.heap.size := Xw4.size
    clear Cw4 Ew4
    clear O11
    replace i24 := (show insL (s1.set D o) (D + 1) q = U from hU.out) ▸ i24
    refine hK.out _ _ ⟨b10, b11, b12, e190⟩ (fun hHeld => ?_)
    clear hK K
    try simp only [Act.put, qa, qb, qc, qD, qE, qF]
    refine wpTail_one (i := 13) qKr rfl rfl (fun K hK => ?_)
    try simp only [Act.put, qa, qb, qc, qD, qE, qF]
    go_simp
    refine (implReshape_b b1 _ _ s1 t1 _ U _ _ _ (h1.ext (Xw4.trans qXt)) (k1.ext (Xw4.trans qXt)) _ (i24.ext qXt)).mono ?_
    rintro e w5 ⟨fv28u, fv28v, rfl, i29u, i29v, i29uz, i29vz, i29s, xw5⟩
    have Lw5 : Ext w4 w5 := Ext.trans qXt xw5
    have Xw5 : Ext w w5 := Xw4.trans Lw5
    replace b10 := Lw5.cell b10
    replace b11 := Lw5.cell b11
    replace b12 := Lw5.cell b12
    replace b20 := Lw5.cell b20
    replace b21 := Lw5.cell b21
    replace b22 := Lw5.cell b22
    replace f_b20 := Lw5.frz z_b2 f_b20
    replace f_b21 := Lw5.frz z_b2 f_b21
    replace f_b22 := Lw5.frz z_b2 f_b22
    replace e190 := Lw5.cell e190
    have z_b1 : w.heap.size < w5.heap.size := qB b10
    have z_b2 : w.heap.size + 1 < w5.heap.size := qB b20
    have z_e19 : bl5 < w5.heap.size := qB e190
    replace i24 := i24.ext Lw5
    have s_w5 : w.heap.size ≤ w5.heap.size := Xw5.size
    have BL15_w5 : Ext w1 w5 := BL15_w4.trans Lw5
    clear xw5
    try simp only [World.size_alloc, World.size_drew] at i29u
    try simp only [World.size_alloc, World.size_drew] at i29v
    try simp only [World.size_alloc, World.size_drew] at i29uz
    try simp only [World.size_alloc, World.size_drew] at i29vz
    obtain ⟨afv28u, cfv28u, rfl⟩ := i29u.form
    obtain ⟨afv28v, cfv28v, rfl⟩ := i29v.form
    refine hK.out _ _ ⟨b10, b11, b12, e190⟩ (fun hHeld => ?_)
    clear hK K
    try simp only [Act.put, qa, qb, qc, qD, qE, qF]
    refine qTk (v := ?_) 14 rfl (.inl ⟨by rfl, ?_⟩) ?_
    rotate_left
    ·
     (intro w hSw; (try dsimp only at hSw); go_simp; try with_reducible rfl)
    try simp only [Act.put, qa, qb, qc, qD, qE, qF]
    refine qTk (v := ?_) 15 rfl (.inl ⟨by rfl, ?_⟩) ?_
    rotate_left
    ·
     (intro w hSw; (try dsimp only at hSw); go_simp; try with_reducible rfl)
    try simp only [Act.put, qa, qb, qc, qD, qE, qF]
    refine wpTail_last (i := 16) qKr rfl rfl (fun K hK => ?_)
    try simp only [Act.put, qa, qb, qc, qD, qE, qF]
    go_simp
    refine hK.out _ _ ?_
    clear hK K
    try simp only [Act.put, qa, qb, qc, qD, qE, qF]
    refine wpTail_last (i := 17) qKr rfl rfl (fun K hK => ?_)
    try simp only [Act.put, qa, qb, qc, qD, qE, qF]
    go_simp
    refine hK.out _ _ ?_
    clear hK K
    try simp only [Act.put, qa, qb, qc, qD, qE, qF]
    refine wpTail_done qKr ?_ _
    clear hHeld hw20
    generalize hW4 : (((w5.setCell ⟨w.heap.size + 1, 0, none⟩ (.int .i64 ((rsV b1 s1 t1 U).1))).setCell ⟨w.heap.size + 1, 1, none⟩ (.slice afv28u (((rsV b1 s1 t1 U).2.1).length) cfv28u)).setCell ⟨w.heap.size + 1, 2, none⟩ (.slice afv28v (((rsV b1 s1 t1 U).2.2.1).length) cfv28v)) = w6 at *
    have Kw6 : Chg (w.heap.size + 1) (w.heap.size + 1 + 1) w5 w6 := by subst hW4; exact qCh
    have Xw6 : Ext w w6 := by subst hW4; exact qXt
    replace b10 := Kw6.cell (by omega) b10
    replace b11 := Kw6.cell (by omega) b11
    replace b12 := Kw6.cell (by omega) b12
    replace b20 : w6.cell? ⟨w.heap.size + 1, 0, none⟩ = some (.int .i64 ((rsV b1 s1 t1 U).1)) := by subst hW4; go_simp
    replace f_b20 : w6.frozen? ⟨w.heap.size + 1, 0, none⟩ = false := by subst hW4; first | (simp only [World.frozen?_setCell]; with_reducible assumption) | go_simp
    replace b21 : w6.cell? ⟨w.heap.size + 1, 1, none⟩ = some (.slice afv28u (((rsV b1 s1 t1 U).2.1).length) cfv28u) := by subst hW4; go_simp
    replace f_b21 : w6.frozen? ⟨w.heap.size + 1, 1, none⟩ = false := by subst hW4; first | (simp only [World.frozen?_setCell]; with_reducible assumption) | go_simp
    replace b22 : w6.cell? ⟨w.heap.size + 1, 2, none⟩ = some (.slice afv28v (((rsV b1 s1 t1 U).2.2.1).length) cfv28v) := by subst hW4; go_simp
    replace f_b22 : w6.frozen? ⟨w.heap.size + 1, 2, none⟩ = false := by subst hW4; first | (simp only [World.frozen?_setCell]; with_reducible assumption) | go_simp
    replace e190 := Kw6.cell (by omega) e190
    replace i24 := i24.chgN Kw6 (by omega)
    replace i29u := i29u.chg Kw6 (by omega)
    replace i29v := i29v.chg Kw6 (by omega)
    replace i29uz := i29uz.chg Kw6 (by omega)
    replace i29vz := i29vz.chg Kw6 (by omega)
    clear Kw6
    have z_b1 : w.heap.size < w6.heap.size := qB b10
    have z_b2 : w.heap.size + 1 < w6.heap.size := qB b20
    have z_e19 : bl5 < w6.heap.size := qB e190
    have s_w6 : w.heap.size ≤ w6.heap.size := Xw6.size
    clear hW4
    go_wp2_with fail
    refine bodyPost_ret (v := .tuple #[.agg #[.int .i64 ((rsV b1 s1 t1 U).1), .slice afv28u (((rsV b1 s1 t1 U).2.1).length) cfv28u, .slice afv28v (((rsV b1 s1 t1 U).2.2.1).length) cfv28v], .bool ((rsV b1 s1 t1 U).2.2.2)]) (by simp only [results, Try.results25]; go_simp) rfl ?_
    rw [sp_yes hB3.out (by omega) hv8.out hc9.out hq1 hU.out]
    exact ⟨_, _, rfl, i29u.lower (by omega), i29v.lower (by omega), i29uz.lower (by omega), i29vz.lower (by omega), i29s, (Xw6.trans qXt)⟩
   ·
    have hc9e : (((v8).tmod o : Int) == (0 : Int)) = false := by simpa using hc9
    have hc9n : (((v8).tmod o : Int) != (0 : Int)) = true := by simpa using hc9
    have hc9m : ((v8 % o : Int) == (0 : Int)) = false := by rw [← Int.tmod_eq_emod_of_nonneg (by omega)]; exact hc9e
    have hc9o : ((v8 % o : Int) != (0 : Int)) = true := by rw [← Int.tmod_eq_emod_of_nonneg (by omega)]; exact hc9n
    replace hc9 := Lib.hid hc9
    go_wp2_with fail
    generalize hW5 : (((w1.setCell ⟨w.heap.size + 1, 0, none⟩ (.int .i64 0)).setCell ⟨w.heap.size + 1, 1, none⟩ (.slice none 0 0)).setCell ⟨w.heap.size + 1, 2, none⟩ (.slice none 0 0)) = w2 at *
    have Kw2 : Chg (w.heap.size + 1) (w.heap.size + 1 + 1) w1 w2 := by subst hW5; exact qCh
    have Xw2 : Ext w w2 := by subst hW5; exact qXt
    replace b10 := Kw2.cell (by omega) b10
    replace b11 := Kw2.cell (by omega) b11
    replace b12 := Kw2.cell (by omega) b12
    replace b20 : w2.cell? ⟨w.heap.size + 1, 0, none⟩ = some (.int .i64 0) := by subst hW5; go_simp
    replace f_b20 : w2.frozen? ⟨w.heap.size + 1, 0, none⟩ = false := by subst hW5; first | (simp only [World.frozen?_setCell]; with_reducible assumption) | go_simp
    replace b21 : w2.cell? ⟨w.heap.size + 1, 1, none⟩ = some (.slice none 0 0) := by subst hW5; go_simp
    replace f_b21 : w2.frozen? ⟨w.heap.size + 1, 1, none⟩ = false := by subst hW5; first | (simp only [World.frozen?_setCell]; with_reducible assumption) | go_simp
    replace b22 : w2.cell? ⟨w.heap.size + 1, 2, none⟩ = some (.slice none 0 0) := by subst hW5; go_simp
    replace f_b22 : w2.frozen? ⟨w.heap.size + 1, 2, none⟩ = false := by subst hW5; first | (simp only [World.frozen?_setCell]; with_reducible assumption) | go_simp
    replace e70 := Kw2.cell (by omega) e70
    clear Kw2
    have z_b1 : w.heap.size < w2.heap.size := qB b10
    have z_b2 : w.heap.size + 1 < w2.heap.size := qB b20
    have z_e7 : bl5 < w2.heap.size := qB e70
    have s_w2 : w.heap.size ≤ w2.heap.size := Xw2.size
    clear hW5
    refine bodyPost_ret (v := .tuple #[.agg #[.int .i64 0, .slice none 0 0, .slice none 0 0], .bool false]) (by simp only [results, Try.results25]; go_simp) rfl ?_
    exact PVB.no (show spV b1 s1 t1 (D : Int) o = noV from sp_no2 hv8.out hc9.out) (Xw2.trans qXt)


end Go.Proofs.Ytfbbnbpobojboaa

/- Walks: copies that are rows. -/
namespace Go.Proofs.Ytfbbnbpobojboaa
open Go.RowKit
set_option linter.unusedVariables false
set_option maxRecDepth 100000

set_option maxHeartbeats 1600000 in
theorem copyIntsO_c (v3 : Value) (u : List Int) (w : World) (l3 : Nat) (h3 : Ints w l3 v3 u) :
    Calls Try.prog 133 #[v3] w (PIntsO w u) := by
  obtain ⟨p2, c2, rfl⟩ := h3.form
  go_enter Try.func133, Try.ntmps133
  have BL6 : Ext w w := Ext.refl _
  have hln1 : u.length ≤ 4194304 := (h3).len
  go_wp2_with (at_builtin; refine wpList_app0O rfl (.tmp 3) (.tmp 4) rfl rfl rfl (OwnI.lit0 (w) w.heap.size (by simp)) (by simp) (h3.ext qXt) ?_)
  intro gr3 rr4 w1 O2 xw1 hg7 Ggr3'
  replace xw1 : Ext w w1 := Ext.trans qXt xw1
  have Ggr3 : w.heap.size ≤ gr3 := by (try simp only [World.size_alloc, World.size_drew] at hg7); omega
  clear hg7
  have Lw1 : Ext w w1 := Ext.trans qXt xw1
  have Xw1 : Ext w w1 := Lw1
  have s_w1 : w.heap.size ≤ w1.heap.size := Xw1.size
  have BL6_w1 : Ext w w1 := BL6.trans Lw1
  clear xw1
  go_wp2_with fail
  go_ret
  exact ⟨_, _, rfl, O2.lower (by omega), by omega, Ggr3', Xw1⟩



end Go.Proofs.Ytfbbnbpobojboaa
