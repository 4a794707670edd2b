/- Texts of these proofs put together: KitG, BufF, BufP, BufQ, BufU, BufV, BufW, BufG, SvL, SvK, SvM, BufI, BufK, CpyA, BufL, LvK, LvL, LvN, BufH, BufN, BufM. No condition. -/
import Derived.Test.YtgklaobfikbiiaaM2
import Derived.Test.YtgklaobfikbiiaaM1
import Derived.Laws.CopyOwn
set_option linter.unusedVariables false
set_option linter.unusedSimpArgs false
/- Walks: copies of views of the reference that are rows. -/
namespace Go.Proofs.Ytgklaobfikbiiaa
open Go.RowKit
set_option linter.unusedVariables false
set_option maxRecDepth 100000

set_option maxHeartbeats 1600000 in
theorem scopyViewO_c (b1 : Int) (u1 v1 : Value) (s1 t1 : List Int) (w : World) (l1 m1 : Nat) (h1 : Ints w l1 u1 s1) (k1 : Ints w m1 v1 t1) :
    Calls Try.prog 59 #[.agg #[.int .i64 b1, u1, v1]] w (PViewO w b1 s1 t1) := by
  obtain ⟨p0, c0, rfl⟩ := h1.form
  obtain ⟨p1, c1, rfl⟩ := k1.form
  go_enter Try.func59, Try.ntmps59
  go_wp2_with fail
  generalize hW1 : (w.alloc (.cells #[.int .i64 b1, .slice p0 s1.length c0, .slice p1 t1.length c1] 30)).alloc (.cells #[.int .i64 0, .slice none 0 0, .slice none 0 0] 30) = w1 at *
  have Lw1 : Ext w w1 := by subst hW1; exact qXt
  have Xw1 : Ext w w1 := by subst hW1; exact Lw1
  have b10 : w1.cell? ⟨w.heap.size, 0, none⟩ = some (.int .i64 b1) := by subst hW1; exact qCl
  have b11 : w1.cell? ⟨w.heap.size, 1, none⟩ = some (.slice p0 s1.length c0) := by subst hW1; exact qCl
  have b12 : w1.cell? ⟨w.heap.size, 2, none⟩ = some (.slice p1 t1.length c1) := by subst hW1; exact qCl
  have b20 : w1.cell? ⟨w.heap.size + 1, 0, none⟩ = some (.int .i64 0) := by subst hW1; exact qCl
  have b21 : w1.cell? ⟨w.heap.size + 1, 1, none⟩ = some (.slice none 0 0) := by subst hW1; exact qCl
  have b22 : w1.cell? ⟨w.heap.size + 1, 2, none⟩ = some (.slice none 0 0) := by subst hW1; exact qCl
  have f_b20 : w1.frozen? ⟨w.heap.size + 1, 0, none⟩ = false := by subst hW1; exact qFz
  have f_b21 : w1.frozen? ⟨w.heap.size + 1, 1, none⟩ = false := by subst hW1; exact qFz
  have f_b22 : w1.frozen? ⟨w.heap.size + 1, 2, none⟩ = false := by subst hW1; exact qFz
  have z_b1 : w.heap.size < w1.heap.size := qB b10
  have z_b2 : w.heap.size + 1 < w1.heap.size := qB b20
  have s_w1 : w.heap.size ≤ w1.heap.size := Xw1.size
  clear hW1
  have Q3_b10 := Lib.hid b10
  have Q3_b11 := Lib.hid b11
  have Q3_b12 := Lib.hid b12
  have Q3_zb1 := z_b1
  have Q3_b20 := Lib.hid b20
  have Q3_f_b20 := Lib.hid f_b20
  have Q3_b21 := Lib.hid b21
  have Q3_f_b21 := Lib.hid f_b21
  have Q3_b22 := Lib.hid b22
  have Q3_f_b22 := Lib.hid f_b22
  have Q3_zb2 := z_b2
  have BL4 : Ext w1 w1 := Ext.refl _
  go_cut [] (fun  wx => ∃ (g4 : Nat) (r4 : Nat) (g7 : Nat) (r7 : Nat), Chg (w.heap.size + 1) (w.heap.size + 1 + 1) w1 wx ∧ w1.heap.size ≤ g4 ∧ g4 < wx.heap.size ∧ w1.heap.size ≤ g7 ∧ g7 < wx.heap.size ∧ g4 ≠ g7 ∧ OwnI wx w1.heap.size (.slice (some ⟨g4, 0, none⟩) s1.length r4) s1 ∧ OwnI wx w1.heap.size (.slice (some ⟨g7, 0, none⟩) t1.length r7) t1 ∧ wx.cell? ⟨w.heap.size + 1, 0, none⟩ = some (.int .i64 b1) ∧ wx.frozen? ⟨w.heap.size + 1, 0, none⟩ = false ∧ wx.cell? ⟨w.heap.size + 1, 1, none⟩ = some (.slice (some ⟨g4, 0, none⟩) s1.length r4) ∧ wx.frozen? ⟨w.heap.size + 1, 1, none⟩ = false ∧ wx.cell? ⟨w.heap.size + 1, 2, none⟩ = some (.slice (some ⟨g7, 0, none⟩) t1.length r7) ∧ wx.frozen? ⟨w.heap.size + 1, 2, none⟩ = false)
  case first =>
    have X1 : Ext w1 w1 := Ext.refl _
    refine wp_region_held_drew (S := fun w' => w'.cell? ⟨w.heap.size, 0, none⟩ = some (.int .i64 b1) ∧ w'.cell? ⟨w.heap.size, 1, none⟩ = some (.slice p0 s1.length c0) ∧ w'.cell? ⟨w.heap.size, 2, none⟩ = some (.slice p1 t1.length c1)) qKr ⟨b10, b11, b12⟩ (fun hHeld => ?_)
    refine qHk (v := ?_) 0 rfl (.inl ⟨by rfl, ?_⟩) ?_
    rotate_left
    · (intro w hSw; (try dsimp only at hSw); go_simp; try with_reducible rfl)
    try simp only [Act.put, qa, qb, qc, qD, qE, qF]
    refine qHk (v := ?_) 1 rfl (.inl ⟨by rfl, ?_⟩) ?_
    rotate_left
    · (intro w hSw; (try dsimp only at hSw); go_simp; try with_reducible rfl)
    try simp only [Act.put, qa, qb, qc, qD, qE, qF]
    refine qHk (v := ?_) 2 rfl (.inl ⟨by rfl, ?_⟩) ?_
    rotate_left
    · (intro w hSw; (try dsimp only at hSw); go_simp; try with_reducible rfl)
    try simp only [Act.put, qa, qb, qc, qD, qE, qF]
    refine qHk (v := ?_) 3 rfl (.inl ⟨by rfl, ?_⟩) ?_
    rotate_left
    · (intro w hSw; (try dsimp only at hSw); go_simp; try with_reducible rfl)
    try simp only [Act.put, qa, qb, qc, qD, qE, qF]
    refine qHk (v := ?_) 5 rfl (.inl ⟨by rfl, ?_⟩) ?_
    rotate_left
    · (intro w hSw; (try dsimp only at hSw); go_simp; try with_reducible rfl)
    try simp only [Act.put, qa, qb, qc, qD, qE, qF]
    refine qHk (v := ?_) 6 rfl (.inl ⟨by rfl, ?_⟩) ?_
    rotate_left
    · (intro w hSw; (try dsimp only at hSw); go_simp; try with_reducible rfl)
    try simp only [Act.put, qa, qb, qc, qD, qE, qF]
    refine qHr 4 rfl (fun K hK => ?_)
    try simp only [Act.put, qa, qb, qc, qD, qE, qF]
    go_simp
    refine (copyIntsO_c (.slice p0 s1.length c0) s1 _ _ (h1.ext (Xw1.trans qXt))).mono ?_
    rintro e w1_1 ⟨g1_4, r1_5, rfl, O1_3, Gg1_4, Hg1_4, x1_2⟩
    simp only [World.size_drew] at Gg1_4 O1_3
    replace x1_2 : Ext w1 w1_1 := Ext.trans qXt x1_2
    have S_w1_1 : w1.heap.size ≤ w1_1.heap.size := x1_2.size
    replace X1 := X1.trans x1_2
    have Yw1_1 := Ext.refl w1_1
    clear x1_2
    refine hK.out _ w1_1 ⟨(show Ext w1 w1_1 from qXt).cell b10, (show Ext w1 w1_1 from qXt).cell b11, (show Ext w1 w1_1 from qXt).cell b12⟩ (fun hHeld => ?_)
    clear hK K
    try simp only [Act.put, qa, qb, qc, qD, qE, qF]
    refine qHr 7 rfl (fun K hK => ?_)
    try simp only [Act.put, qa, qb, qc, qD, qE, qF]
    go_simp
    refine (copyIntsO_c (.slice p1 t1.length c1) t1 _ _ (k1.ext (Xw1.trans qXt))).mono ?_
    rintro e w1_6 ⟨g1_9, r1_10, rfl, O1_8, Gg1_9, Hg1_9, x1_7⟩
    replace x1_7 : Ext w1_1 w1_6 := Ext.trans qXt x1_7
    have S_w1_6 : w1_1.heap.size ≤ w1_6.heap.size := x1_7.size
    replace Yw1_1 := Yw1_1.trans x1_7
    replace X1 := X1.trans x1_7
    have Yw1_6 := Ext.refl w1_6
    clear x1_7
    refine hK.out _ w1_6 ⟨(show Ext w1 w1_6 from qXt).cell b10, (show Ext w1 w1_6 from qXt).cell b11, (show Ext w1 w1_6 from qXt).cell b12⟩ (fun hHeld => ?_)
    clear hK K
    try simp only [Act.put, qa, qb, qc, qD, qE, qF]
    refine qHk (v := ?_) 8 rfl (.inl ⟨by rfl, ?_⟩) ?_
    rotate_left
    · (intro w hSw; (try dsimp only at hSw); go_simp; try with_reducible rfl)
    try simp only [Act.put, qa, qb, qc, qD, qE, qF]
    refine qHr 9 rfl (fun K hK => ?_)
    try simp only [Act.put, qa, qb, qc, qD, qE, qF]
    replace b20 := X1.cell b20
    replace f_b20 := X1.frz z_b2 f_b20
    replace b21 := X1.cell b21
    replace f_b21 := X1.frz z_b2 f_b21
    replace b22 := X1.cell b22
    replace f_b22 := X1.frz z_b2 f_b22
    go_simp
    have zz := X1.size
    have K1 : Chg (w.heap.size + 1) (w.heap.size + 1 + 1) w1_6 (((w1_6.setCell ⟨w.heap.size + 1, 0, none⟩ (.int .i64 b1)).setCell ⟨w.heap.size + 1, 1, none⟩ (.slice (some ⟨g1_4, 0, none⟩) s1.length r1_5)).setCell ⟨w.heap.size + 1, 2, none⟩ (.slice (some ⟨g1_9, 0, none⟩) t1.length r1_10)) := (Chg.setCell (p := ⟨w.heap.size + 1, 2, none⟩) (Chg.setCell (p := ⟨w.heap.size + 1, 1, none⟩) (Chg.setCell (p := ⟨w.heap.size + 1, 0, none⟩) (Chg.refl (w.heap.size + 1) ((w.heap.size + 1) + 1) w1_6) (Nat.le_refl _) (Nat.lt_succ_self _) _) (Nat.le_refl _) (Nat.lt_succ_self _) _) (Nat.le_refl _) (Nat.lt_succ_self _) _)
    have n_b20 : (((w1_6.setCell ⟨w.heap.size + 1, 0, none⟩ (.int .i64 b1)).setCell ⟨w.heap.size + 1, 1, none⟩ (.slice (some ⟨g1_4, 0, none⟩) s1.length r1_5)).setCell ⟨w.heap.size + 1, 2, none⟩ (.slice (some ⟨g1_9, 0, none⟩) t1.length r1_10)).cell? ⟨w.heap.size + 1, 0, none⟩ = some (.int .i64 b1) := by go_simp
    replace f_b20 : (((w1_6.setCell ⟨w.heap.size + 1, 0, none⟩ (.int .i64 b1)).setCell ⟨w.heap.size + 1, 1, none⟩ (.slice (some ⟨g1_4, 0, none⟩) s1.length r1_5)).setCell ⟨w.heap.size + 1, 2, none⟩ (.slice (some ⟨g1_9, 0, none⟩) t1.length r1_10)).frozen? ⟨w.heap.size + 1, 0, none⟩ = false := by go_simp
    have n_b21 : (((w1_6.setCell ⟨w.heap.size + 1, 0, none⟩ (.int .i64 b1)).setCell ⟨w.heap.size + 1, 1, none⟩ (.slice (some ⟨g1_4, 0, none⟩) s1.length r1_5)).setCell ⟨w.heap.size + 1, 2, none⟩ (.slice (some ⟨g1_9, 0, none⟩) t1.length r1_10)).cell? ⟨w.heap.size + 1, 1, none⟩ = some (.slice (some ⟨g1_4, 0, none⟩) s1.length r1_5) := by go_simp
    replace f_b21 : (((w1_6.setCell ⟨w.heap.size + 1, 0, none⟩ (.int .i64 b1)).setCell ⟨w.heap.size + 1, 1, none⟩ (.slice (some ⟨g1_4, 0, none⟩) s1.length r1_5)).setCell ⟨w.heap.size + 1, 2, none⟩ (.slice (some ⟨g1_9, 0, none⟩) t1.length r1_10)).frozen? ⟨w.heap.size + 1, 1, none⟩ = false := by go_simp
    have n_b22 : (((w1_6.setCell ⟨w.heap.size + 1, 0, none⟩ (.int .i64 b1)).setCell ⟨w.heap.size + 1, 1, none⟩ (.slice (some ⟨g1_4, 0, none⟩) s1.length r1_5)).setCell ⟨w.heap.size + 1, 2, none⟩ (.slice (some ⟨g1_9, 0, none⟩) t1.length r1_10)).cell? ⟨w.heap.size + 1, 2, none⟩ = some (.slice (some ⟨g1_9, 0, none⟩) t1.length r1_10) := by go_simp
    replace f_b22 : (((w1_6.setCell ⟨w.heap.size + 1, 0, none⟩ (.int .i64 b1)).setCell ⟨w.heap.size + 1, 1, none⟩ (.slice (some ⟨g1_4, 0, none⟩) s1.length r1_5)).setCell ⟨w.heap.size + 1, 2, none⟩ (.slice (some ⟨g1_9, 0, none⟩) t1.length r1_10)).frozen? ⟨w.heap.size + 1, 2, none⟩ = false := by go_simp
    replace O1_3 := (O1_3.ext Yw1_1).chgN K1 (by omega)
    replace O1_8 := (O1_8.ext Yw1_6).chgN K1 (by omega)
    have C1 : Chg (w.heap.size + 1) (w.heap.size + 1 + 1) w1 (((w1_6.setCell ⟨w.heap.size + 1, 0, none⟩ (.int .i64 b1)).setCell ⟨w.heap.size + 1, 1, none⟩ (.slice (some ⟨g1_4, 0, none⟩) s1.length r1_5)).setCell ⟨w.heap.size + 1, 2, none⟩ (.slice (some ⟨g1_9, 0, none⟩) t1.length r1_10)) := (Chg.of_ext X1).trans K1
    clear zz K1
    have S_st : w1_6.heap.size ≤ (((w1_6.setCell ⟨w.heap.size + 1, 0, none⟩ (.int .i64 b1)).setCell ⟨w.heap.size + 1, 1, none⟩ (.slice (some ⟨g1_4, 0, none⟩) s1.length r1_5)).setCell ⟨w.heap.size + 1, 2, none⟩ (.slice (some ⟨g1_9, 0, none⟩) t1.length r1_10)).heap.size := by simp
    refine hK.out _ ((((w1_6.setCell ⟨w.heap.size + 1, 0, none⟩ (.int .i64 b1)).setCell ⟨w.heap.size + 1, 1, none⟩ (.slice (some ⟨g1_4, 0, none⟩) s1.length r1_5)).setCell ⟨w.heap.size + 1, 2, none⟩ (.slice (some ⟨g1_9, 0, none⟩) t1.length r1_10))) ⟨C1.cell (by omega) b10, C1.cell (by omega) b11, C1.cell (by omega) b12⟩ (fun hHeld => ?_)
    clear hK K
    try simp only [Act.put, qa, qb, qc, qD, qE, qF]
    refine wpAnyH_done qKr ?_ _
    clear hHeld
    have zz := X1.size
    go_step
    go_step
    go_meet
    case rel => exact ⟨g1_4, r1_5, g1_9, r1_10, C1, (by omega), (by omega), (by omega), (by omega), (by omega), (O1_3).lower (by omega), (O1_8).lower (by omega), n_b20, f_b20, n_b21, f_b21, n_b22, f_b22⟩
  case rest =>
    generalize wc = wc5 at hcut ⊢
    obtain ⟨g7, r8, g9, r10, xx6, Gg7, Hg7, Gg9, Hg9, Dg7g9, O11, O12, N_b20, M_b20, N_b21, M_b21, N_b22, M_b22⟩ := hcut
    have zc_wc5 := xx6.size
    have Xwc5 : Ext w wc5 := Ext.chg Xw1 xx6 (by omega)
    replace b10 := xx6.cell (by omega) b10
    replace b11 := xx6.cell (by omega) b11
    replace b12 := xx6.cell (by omega) b12
    replace b20 := N_b20
    clear N_b20
    replace f_b20 := M_b20
    clear M_b20
    replace b21 := N_b21
    clear N_b21
    replace f_b21 := M_b21
    clear M_b21
    replace b22 := N_b22
    clear N_b22
    replace f_b22 := M_b22
    clear M_b22
    have z_b1 : w.heap.size < wc5.heap.size := qB b10
    have z_b2 : w.heap.size + 1 < wc5.heap.size := qB b20
    have s_wc5 : w.heap.size ≤ wc5.heap.size := Xwc5.size
    clear xx6
    go_wp2_with fail
    refine bodyPost_ret (v := .agg #[.int .i64 b1, .slice (some ⟨g7, 0, none⟩) s1.length r8, .slice (some ⟨g9, 0, none⟩) t1.length r10]) (by simp only [results, Try.results59]; go_simp) rfl ?_
    exact ⟨g7, g9, _, _, rfl, O11.lower (by omega), O12.lower (by omega), by omega, by omega, by omega, by omega, by omega, (Xwc5.trans qXt)⟩


end Go.Proofs.Ytgklaobfikbiiaa

/- Walks: copies of buffers. -/
namespace Go.Proofs.Ytgklaobfikbiiaa
open Go.RowKit
set_option linter.unusedVariables false
set_option maxRecDepth 100000

set_option maxHeartbeats 3200000 in
theorem implCopyBuffer_c (cells : List Int) (es : List Exp) (cv ev : Value) (w : World) (l1 l2 : Nat) (h1 : Ints w l1 cv cells) (h2 : Exps w l2 ev es) :
  Calls Try.prog 40 #[.agg #[cv, ev]] w (PBuf w cells es) := by
 obtain ⟨p0, c0, rfl⟩ := h1.form
 obtain ⟨p1, c1, rfl⟩ := h2.form
 have he1 := h2.len
 have hc1 := h1.len
 go_enter Try.func40, Try.ntmps40
 go_upto_region 1 with fail
 generalize hW1 : (w.alloc (.cells #[.slice p0 cells.length c0, .slice p1 es.length c1] 26)).alloc (.cells #[.slice none 0 0, .slice none 0 0] 26) = w1 at *
 have Lw1 : Ext w w1 := by subst hW1; exact qXt
 have Xw1 : Ext w w1 := by subst hW1; exact Lw1
 have b10 : w1.cell? ⟨w.heap.size, 0, none⟩ = some (.slice p0 cells.length c0) := by subst hW1; exact qCl
 have b11 : w1.cell? ⟨w.heap.size, 1, none⟩ = some (.slice p1 es.length c1) := by subst hW1; exact qCl
 have b20 : w1.cell? ⟨w.heap.size + 1, 0, none⟩ = some (.slice none 0 0) := by subst hW1; exact qCl
 have b21 : w1.cell? ⟨w.heap.size + 1, 1, none⟩ = some (.slice none 0 0) := by subst hW1; exact qCl
 have f_b20 : w1.frozen? ⟨w.heap.size + 1, 0, none⟩ = false := by subst hW1; exact qFz
 have f_b21 : w1.frozen? ⟨w.heap.size + 1, 1, none⟩ = false := by subst hW1; exact qFz
 have z_b1 : w.heap.size < w1.heap.size := qB b10
 have z_b2 : w.heap.size + 1 < w1.heap.size := qB b20
 have s_w1 : w.heap.size ≤ w1.heap.size := Xw1.size
 clear hW1
 have Q7_b10 := Lib.hid b10
 have Q7_b11 := Lib.hid b11
 have Q7_zb1 := z_b1
 have Q7_b20 := Lib.hid b20
 have Q7_f_b20 := Lib.hid f_b20
 have Q7_b21 := Lib.hid b21
 have Q7_f_b21 := Lib.hid f_b21
 have Q7_zb2 := z_b2
 have BL8 : Ext w1 w1 := Ext.refl _
 have hln3 : cells.length ≤ 4194304 := ((h1.ext Xw1)).len
 go_wp2_with (at_builtin; refine wpList_app0C rfl (.tmp 6) (.tmp 8) rfl rfl rfl (OwnI.lit0 (w1) w1.heap.size (by simp)) (by simp) ((h1.ext Xw1).ext qXt) ?_)
 intro gr5 rr6 w2 O4 xw2 hg7 Ggr5' czgr5
 replace xw2 : Ext w1 w2 := Ext.trans qXt xw2
 have Ggr5 : w1.heap.size ≤ gr5 := by (try simp only [World.size_alloc, World.size_drew] at hg7); omega
 clear hg7
 have Lw2 : Ext w1 w2 := Ext.trans qXt xw2
 have Xw2 : Ext w w2 := Xw1.trans Lw2
 replace b10 := Lw2.cell b10
 replace b11 := Lw2.cell b11
 replace b20 := Lw2.cell b20
 replace b21 := Lw2.cell b21
 replace f_b20 := Lw2.frz z_b2 f_b20
 replace f_b21 := Lw2.frz z_b2 f_b21
 have z_b1 : w.heap.size < w2.heap.size := qB b10
 have z_b2 : w.heap.size + 1 < w2.heap.size := qB b20
 have s_w2 : w.heap.size ≤ w2.heap.size := Xw2.size
 have BL8_w2 : Ext w1 w2 := BL8.trans Lw2
 clear xw2
 have Q9_b10 := Lib.hid b10
 have Q9_b11 := Lib.hid b11
 have Q9_zb1 := z_b1
 have Q9_b20 := Lib.hid b20
 have Q9_f_b20 := Lib.hid f_b20
 have Q9_b21 := Lib.hid b21
 have Q9_f_b21 := Lib.hid f_b21
 have Q9_zb2 := z_b2
 have Q9_O4 := Lib.hid O4
 have BL10 : Ext w2 w2 := Ext.refl _
 go_wp2_with fail
 generalize hW2 : w2.alloc (.cells #[.slice (some ⟨gr5, 0, none⟩) cells.length rr6, .slice none 0 0] 26) = w3 at *
 have Lw3 : Ext w2 w3 := by subst hW2; exact qXt
 have Xw3 : Ext w w3 := Xw2.trans Lw3
 replace b10 := Lw3.cell b10
 replace b11 := Lw3.cell b11
 replace b20 := Lw3.cell b20
 replace b21 := Lw3.cell b21
 replace f_b20 := Lw3.frz z_b2 f_b20
 replace f_b21 := Lw3.frz z_b2 f_b21
 have b110 : w3.cell? ⟨w2.heap.size, 0, none⟩ = some (.slice (some ⟨gr5, 0, none⟩) cells.length rr6) := by subst hW2; exact qCl
 have b111 : w3.cell? ⟨w2.heap.size, 1, none⟩ = some (.slice none 0 0) := by subst hW2; exact qCl
 have f_b110 : w3.frozen? ⟨w2.heap.size, 0, none⟩ = false := by subst hW2; exact qFz
 have f_b111 : w3.frozen? ⟨w2.heap.size, 1, none⟩ = false := by subst hW2; exact qFz
 have z_b1 : w.heap.size < w3.heap.size := qB b10
 have z_b2 : w.heap.size + 1 < w3.heap.size := qB b20
 have z_b11 : w2.heap.size < w3.heap.size := qB b110
 replace O4 := O4.ext Lw3
 have s_w3 : w.heap.size ≤ w3.heap.size := Xw3.size
 have BL8_w3 : Ext w1 w3 := BL8_w2.trans Lw3
 have BL10_w3 : Ext w2 w3 := BL10.trans Lw3
 have q_w3 : w3.heap.size ≤ w2.heap.size + 1 := by subst hW2; simp
 clear hW2
 have yE_b1 := z_b1
 have yE_b2 := z_b2
 have yE_b11 := z_b11
 go_loopw [14] (fun i wr => ∃ (k : Nat) (gv : Value) (R : Nat → Value), k ≤ es.length ∧ i = .int .i64 k ∧ ExpR wr w3.heap.size gv (es.take k) R ∧ Ext w wr ∧ OwnI wr w.heap.size (.slice (some ⟨gr5, 0, none⟩) cells.length rr6) cells ∧ wr.cell? ⟨w.heap.size, 0, none⟩ = some (.slice p0 cells.length c0) ∧ wr.cell? ⟨w.heap.size, 1, none⟩ = some (.slice p1 es.length c1) ∧ wr.cell? ⟨w.heap.size + 1, 0, none⟩ = some (.slice none 0 0) ∧ wr.cell? ⟨w.heap.size + 1, 1, none⟩ = some (.slice none 0 0) ∧ wr.frozen? ⟨w.heap.size + 1, 0, none⟩ = false ∧ wr.frozen? ⟨w.heap.size + 1, 1, none⟩ = false ∧ wr.cell? ⟨w2.heap.size, 0, none⟩ = some (.slice (some ⟨gr5, 0, none⟩) cells.length rr6) ∧ wr.cell? ⟨w2.heap.size, 1, none⟩ = some (gv) ∧ wr.frozen? ⟨w2.heap.size, 0, none⟩ = false ∧ wr.frozen? ⟨w2.heap.size, 1, none⟩ = false) (fun i _ => es.length - (intOf i).toNat)
 case atStart => exact ⟨0, _, fun _ => .slice none 0 0, Nat.zero_le _, rfl, ExpR.nil _ _ _, (Xw3.trans qXt), O4.lower (by omega), b10, b11, b20, b21, f_b20, f_b21, b110, b111, f_b110, f_b111⟩
 case round =>
  clear O4
  obtain ⟨k, gv, R, hk, rfl, hE, Xr, O4, b10, b11, b20, b21, f_b20, f_b21, b110, b111, f_b110, f_b111⟩ := hrel
  have z_b1 : w.heap.size < wr.heap.size := qB b10
  have z_b2 : w.heap.size + 1 < wr.heap.size := qB b20
  have z_b11 : w2.heap.size < wr.heap.size := qB b110
  obtain ⟨ga, gc, hgv⟩ := hE.len
  rw [List.length_take, Nat.min_eq_left hk] at hgv
  subst hgv
  have s_wr : w.heap.size ≤ wr.heap.size := Xr.size
  have hBr : w3.heap.size ≤ wr.heap.size := by omega
  by_cases hlt : k < es.length
  ·
   have hkI : (k : Int) < es.length := by omega
   have hN_x12 : k < es.length := (by omega)
   have hI_x12 : (k : Int) < (es.length : Int) := by omega
   obtain ⟨bl25, ol26, u19, c20, u21, c22, rfl, x120, x121, x122, x123, x124, i23, i24⟩ := (h2.ext Xr).at k hN_x12
   obtain ⟨X18, hX18⟩ : ∃ x, expAt es k = x := ⟨_, rfl⟩
   rw [hX18] at x120 x121 x122 x123 x124 i23 i24
   obtain ⟨P13, B14, S15, T16, O17⟩ := X18
   dsimp only at x120 x121 x122 x123 x124 i23 i24
   replace hX18 := Lib.hid hX18
   have hLS15 := i23.len
   have hLT16 := i24.len
   have z_x12 : bl25 < wr.heap.size := qB x120
   have Q27_b10 := Lib.hid b10
   have Q27_b11 := Lib.hid b11
   have Q27_zb1 := z_b1
   have Q27_b20 := Lib.hid b20
   have Q27_f_b20 := Lib.hid f_b20
   have Q27_b21 := Lib.hid b21
   have Q27_f_b21 := Lib.hid f_b21
   have Q27_zb2 := z_b2
   have Q27_b110 := Lib.hid b110
   have Q27_f_b110 := Lib.hid f_b110
   have Q27_b111 := Lib.hid b111
   have Q27_f_b111 := Lib.hid f_b111
   have Q27_zb11 := z_b11
   have Q27_x120 := Lib.hid x120
   have Q27_x121 := Lib.hid x121
   have Q27_x122 := Lib.hid x122
   have Q27_x123 := Lib.hid x123
   have Q27_x124 := Lib.hid x124
   have Q27_zx12 := z_x12
   have Q27_hE := Lib.hid hE
   have Q27_O4 := Lib.hid O4
   have Q27_i23 := Lib.hid i23
   have Q27_i24 := Lib.hid i24
   have BL28 : Ext wr wr := Ext.refl _
   go_upto_region 5 with fail
   generalize hW3 : wr.alloc (.cells #[.int .i64 P13, .int .i64 B14, .slice u19 S15.length c20, .slice u21 T16.length c22, .bool O17] 32) = w4 at *
   have Lw4 : Ext wr w4 := by subst hW3; exact qXt
   have Xw4 : Ext w w4 := Xr.trans Lw4
   replace b10 := Lw4.cell b10
   replace b11 := Lw4.cell b11
   replace b20 := Lw4.cell b20
   replace b21 := Lw4.cell b21
   replace f_b20 := Lw4.frz z_b2 f_b20
   replace f_b21 := Lw4.frz z_b2 f_b21
   replace b110 := Lw4.cell b110
   replace b111 := Lw4.cell b111
   replace f_b110 := Lw4.frz z_b11 f_b110
   replace f_b111 := Lw4.frz z_b11 f_b111
   replace x120 := Lw4.cell x120
   replace x121 := Lw4.cell x121
   replace x122 := Lw4.cell x122
   replace x123 := Lw4.cell x123
   replace x124 := Lw4.cell x124
   have b290 : w4.cell? ⟨wr.heap.size, 0, none⟩ = some (.int .i64 P13) := by subst hW3; exact qCl
   have b291 : w4.cell? ⟨wr.heap.size, 1, none⟩ = some (.int .i64 B14) := by subst hW3; exact qCl
   have b292 : w4.cell? ⟨wr.heap.size, 2, none⟩ = some (.slice u19 S15.length c20) := by subst hW3; exact qCl
   have b293 : w4.cell? ⟨wr.heap.size, 3, none⟩ = some (.slice u21 T16.length c22) := by subst hW3; exact qCl
   have b294 : w4.cell? ⟨wr.heap.size, 4, none⟩ = some (.bool O17) := by subst hW3; exact qCl
   have f_b290 : w4.frozen? ⟨wr.heap.size, 0, none⟩ = false := by subst hW3; exact qFz
   have f_b291 : w4.frozen? ⟨wr.heap.size, 1, none⟩ = false := by subst hW3; exact qFz
   have f_b292 : w4.frozen? ⟨wr.heap.size, 2, none⟩ = false := by subst hW3; exact qFz
   have f_b293 : w4.frozen? ⟨wr.heap.size, 3, none⟩ = false := by subst hW3; exact qFz
   have f_b294 : w4.frozen? ⟨wr.heap.size, 4, none⟩ = false := by subst hW3; exact qFz
   have z_b1 : w.heap.size < w4.heap.size := qB b10
   have z_b2 : w.heap.size + 1 < w4.heap.size := qB b20
   have z_b11 : w2.heap.size < w4.heap.size := qB b110
   have z_x12 : bl25 < w4.heap.size := qB x120
   have z_b29 : wr.heap.size < w4.heap.size := qB b290
   replace hE := hE.ext Lw4
   replace O4 := O4.ext Lw4
   replace i23 := i23.ext Lw4
   replace i24 := i24.ext Lw4
   have s_w4 : w.heap.size ≤ w4.heap.size := Xw4.size
   have BL28_w4 : Ext wr w4 := BL28.trans Lw4
   clear hW3
   go_wp2_with fail
   have Q36_b10 := Lib.hid b10
   have Q36_b11 := Lib.hid b11
   have Q36_zb1 := z_b1
   have Q36_b20 := Lib.hid b20
   have Q36_f_b20 := Lib.hid f_b20
   have Q36_b21 := Lib.hid b21
   have Q36_f_b21 := Lib.hid f_b21
   have Q36_zb2 := z_b2
   have Q36_b110 := Lib.hid b110
   have Q36_f_b110 := Lib.hid f_b110
   have Q36_b111 := Lib.hid b111
   have Q36_f_b111 := Lib.hid f_b111
   have Q36_zb11 := z_b11
   have Q36_x120 := Lib.hid x120
   have Q36_x121 := Lib.hid x121
   have Q36_x122 := Lib.hid x122
   have Q36_x123 := Lib.hid x123
   have Q36_x124 := Lib.hid x124
   have Q36_zx12 := z_x12
   have Q36_b290 := Lib.hid b290
   have Q36_f_b290 := Lib.hid f_b290
   have Q36_b291 := Lib.hid b291
   have Q36_f_b291 := Lib.hid f_b291
   have Q36_b292 := Lib.hid b292
   have Q36_f_b292 := Lib.hid f_b292
   have Q36_b293 := Lib.hid b293
   have Q36_f_b293 := Lib.hid f_b293
   have Q36_b294 := Lib.hid b294
   have Q36_f_b294 := Lib.hid f_b294
   have Q36_zb29 := z_b29
   have Q36_hE := Lib.hid hE
   have Q36_O4 := Lib.hid O4
   have Q36_i23 := Lib.hid i23
   have Q36_i24 := Lib.hid i24
   have BL37 : Ext w4 w4 := Ext.refl _
   refine (copyViewO_c B14 (.slice u19 S15.length c20) (.slice u21 T16.length c22) S15 T16 _ _ _ (i23.ext qXt) (i24.ext qXt)).mono ?_
   rintro e w5 ⟨gr30, gr31, rr32, rr33, rfl, O34, O35, Ggr30, Ggr30', Ggr31, Ggr31', hggr30, xw5⟩
   have Lw5 : Ext w4 w5 := Ext.trans qXt xw5
   have Xw5 : Ext w w5 := Xw4.trans Lw5
   replace b10 := Lw5.cell b10
   replace b11 := Lw5.cell b11
   replace b20 := Lw5.cell b20
   replace b21 := Lw5.cell b21
   replace f_b20 := Lw5.frz z_b2 f_b20
   replace f_b21 := Lw5.frz z_b2 f_b21
   replace b110 := Lw5.cell b110
   replace b111 := Lw5.cell b111
   replace f_b110 := Lw5.frz z_b11 f_b110
   replace f_b111 := Lw5.frz z_b11 f_b111
   replace x120 := Lw5.cell x120
   replace x121 := Lw5.cell x121
   replace x122 := Lw5.cell x122
   replace x123 := Lw5.cell x123
   replace x124 := Lw5.cell x124
   replace b290 := Lw5.cell b290
   replace b291 := Lw5.cell b291
   replace b292 := Lw5.cell b292
   replace b293 := Lw5.cell b293
   replace b294 := Lw5.cell b294
   replace f_b290 := Lw5.frz z_b29 f_b290
   replace f_b291 := Lw5.frz z_b29 f_b291
   replace f_b292 := Lw5.frz z_b29 f_b292
   replace f_b293 := Lw5.frz z_b29 f_b293
   replace f_b294 := Lw5.frz z_b29 f_b294
   have z_b1 : w.heap.size < w5.heap.size := qB b10
   have z_b2 : w.heap.size + 1 < w5.heap.size := qB b20
   have z_b11 : w2.heap.size < w5.heap.size := qB b110
   have z_x12 : bl25 < w5.heap.size := qB x120
   have z_b29 : wr.heap.size < w5.heap.size := qB b290
   replace hE := hE.ext Lw5
   replace O4 := O4.ext Lw5
   replace i23 := i23.ext Lw5
   replace i24 := i24.ext Lw5
   have s_w5 : w.heap.size ≤ w5.heap.size := Xw5.size
   have BL28_w5 : Ext wr w5 := BL28_w4.trans Lw5
   have BL37_w5 : Ext w4 w5 := BL37.trans Lw5
   clear xw5
   go_upto_region 6 with fail
   generalize hW4 : (((w5.setCell ⟨wr.heap.size, 1, none⟩ (.int .i64 B14)).setCell ⟨wr.heap.size, 2, none⟩ (.slice (some ⟨gr30, 0, none⟩) S15.length rr32)).setCell ⟨wr.heap.size, 3, none⟩ (.slice (some ⟨gr31, 0, none⟩) T16.length rr33)) = w6 at *
   have Kw6 : Chg (wr.heap.size) (wr.heap.size + 1) w5 w6 := by subst hW4; exact qCh
   have Xw6 : Ext w w6 := by subst hW4; exact qXt
   have BL28_w6 : Ext wr w6 := by subst hW4; exact qXt
   replace b10 := BL28_w6.cell Q27_b10.out
   replace b11 := BL28_w6.cell Q27_b11.out
   replace b20 := BL28_w6.cell Q27_b20.out
   replace f_b20 := BL28_w6.frz Q27_zb2 Q27_f_b20.out
   replace b21 := BL28_w6.cell Q27_b21.out
   replace f_b21 := BL28_w6.frz Q27_zb2 Q27_f_b21.out
   replace b110 := BL28_w6.cell Q27_b110.out
   replace f_b110 := BL28_w6.frz Q27_zb11 Q27_f_b110.out
   replace b111 := BL28_w6.cell Q27_b111.out
   replace f_b111 := BL28_w6.frz Q27_zb11 Q27_f_b111.out
   replace x120 := BL28_w6.cell Q27_x120.out
   replace x121 := BL28_w6.cell Q27_x121.out
   replace x122 := BL28_w6.cell Q27_x122.out
   replace x123 := BL28_w6.cell Q27_x123.out
   replace x124 := BL28_w6.cell Q27_x124.out
   replace b290 : w6.cell? ⟨wr.heap.size, 0, none⟩ = some (.int .i64 P13) := by subst hW4; go_simp
   replace f_b290 : w6.frozen? ⟨wr.heap.size, 0, none⟩ = false := by subst hW4; first | (simp only [World.frozen?_setCell]; with_reducible assumption) | go_simp
   replace b291 : w6.cell? ⟨wr.heap.size, 1, none⟩ = some (.int .i64 B14) := by subst hW4; go_simp
   replace f_b291 : w6.frozen? ⟨wr.heap.size, 1, none⟩ = false := by subst hW4; first | (simp only [World.frozen?_setCell]; with_reducible assumption) | go_simp
   replace b292 : w6.cell? ⟨wr.heap.size, 2, none⟩ = some (.slice (some ⟨gr30, 0, none⟩) S15.length rr32) := by subst hW4; go_simp
   replace f_b292 : w6.frozen? ⟨wr.heap.size, 2, none⟩ = false := by subst hW4; first | (simp only [World.frozen?_setCell]; with_reducible assumption) | go_simp
   replace b293 : w6.cell? ⟨wr.heap.size, 3, none⟩ = some (.slice (some ⟨gr31, 0, none⟩) T16.length rr33) := by subst hW4; go_simp
   replace f_b293 : w6.frozen? ⟨wr.heap.size, 3, none⟩ = false := by subst hW4; first | (simp only [World.frozen?_setCell]; with_reducible assumption) | go_simp
   replace b294 : w6.cell? ⟨wr.heap.size, 4, none⟩ = some (.bool O17) := by subst hW4; go_simp
   replace f_b294 : w6.frozen? ⟨wr.heap.size, 4, none⟩ = false := by subst hW4; first | (simp only [World.frozen?_setCell]; with_reducible assumption) | go_simp
   replace hE := (Q27_hE.out).ext BL28_w6
   replace O4 := O4.chgN Kw6 (by omega)
   replace i23 := (Q27_i23.out).ext BL28_w6
   replace i24 := (Q27_i24.out).ext BL28_w6
   replace O34 := O34.chgN Kw6 (by omega)
   replace O35 := O35.chgN Kw6 (by omega)
   clear Kw6
   have z_b1 : w.heap.size < w6.heap.size := qB b10
   have z_b2 : w.heap.size + 1 < w6.heap.size := qB b20
   have z_b11 : w2.heap.size < w6.heap.size := qB b110
   have z_x12 : bl25 < w6.heap.size := qB x120
   have z_b29 : wr.heap.size < w6.heap.size := qB b290
   have s_w6 : w.heap.size ≤ w6.heap.size := Xw6.size
   clear hW4
   have zBL := (BL28_w6).size
   have EE : Ext w6 (w6.alloc (.cells #[.int .i64 P13, .int .i64 B14, .slice (some ⟨gr30, 0, none⟩) S15.length rr32, .slice (some ⟨gr31, 0, none⟩) T16.length rr33, .bool O17] TEXPORT)) := qXt
   have SS : SrcR (w6.alloc (.cells #[.int .i64 P13, .int .i64 B14, .slice (some ⟨gr30, 0, none⟩) S15.length rr32, .slice (some ⟨gr31, 0, none⟩) T16.length rr33, .bool O17] TEXPORT)) 5 (.slice (some ⟨w6.heap.size, 0, none⟩) 1 1) 1 [.int .i64 P13, .int .i64 B14, .slice (some ⟨gr30, 0, none⟩) S15.length rr32, .slice (some ⟨gr31, 0, none⟩) T16.length rr33, .bool O17] := src_one w6 _ rfl (by intro u hu; simp only [List.mem_cons, List.not_mem_nil, or_false] at hu; rcases hu with rfl | rfl | rfl | rfl | rfl <;> rfl)
   go_wp2_with (
    at_builtin
    refine wpList_appC Try.underlying24 infoExp rfl (by decide) rfl (.tmp 23) (.tmp 25) rfl rfl rfl (hE.row.ext EE) SS (by rw [cellsE_len]; simp; omega) (by rw [cellsE_len]; simp; omega) (by simp <;> omega) ?_
    intro vw7 w7 ho hgr hbl hv
    have hS : ExpR w7 (w3.heap.size) vw7 ((es.take k) ++ [⟨P13, B14, S15, T16, O17⟩]) (extR R (es.take k).length (.slice (some ⟨gr30, 0, none⟩) S15.length rr32) (.slice (some ⟨gr31, 0, none⟩) T16.length rr33)) := ExpR.snoc Q27_hE.out (Ext.trans BL28_w6 EE) ((O34.ext EE).lower (by omega)).z ((O35.ext EE).lower (by omega)).z (by dsimp only; omega) (by dsimp only; omega) (fun _ _ h => by have h9 : gr30 = gr31 := Option.some.inj h; omega) (fun _ g h => by have h9 : gr30 = g := Option.some.inj h; omega) (fun _ g h => by have h9 : gr31 = g := Option.some.inj h; omega) ho hgr hv
    obtain ⟨pa38, pc39, hpv⟩ := hS.len
    rw [List.length_append, List.length_singleton, List.length_take, Nat.min_eq_left hk] at hpv
    subst hpv
    have Xw7 : Ext w w7 := Ext.below (Xw6.trans EE) hbl (by omega)
    clear x120 x121 x122 x123 x124
    clear b290 b291 b292 b293 b294 f_b290 f_b291 f_b292 f_b293 f_b294
    replace b10 := below_cell hbl (by omega) (EE.cell b10)
    replace b11 := below_cell hbl (by omega) (EE.cell b11)
    replace b20 := below_cell hbl (by omega) (EE.cell b20)
    replace f_b20 := below_frz hbl (by omega) (EE.frz z_b2 f_b20)
    replace b21 := below_cell hbl (by omega) (EE.cell b21)
    replace f_b21 := below_frz hbl (by omega) (EE.frz z_b2 f_b21)
    replace b110 := below_cell hbl (by omega) (EE.cell b110)
    replace f_b110 := below_frz hbl (by omega) (EE.frz z_b11 f_b110)
    replace b111 := below_cell hbl (by omega) (EE.cell b111)
    replace f_b111 := below_frz hbl (by omega) (EE.frz z_b11 f_b111)
    have z_b1 : w.heap.size < w7.heap.size := qB b10
    have z_b2 : w.heap.size + 1 < w7.heap.size := qB b20
    have z_b11 : w2.heap.size < w7.heap.size := qB b110
    replace O4 := (O4.ext EE).chgN (Below.chg hbl) (.inl (by omega))
    clear i23
    clear i24
    clear O34
    clear O35
    clear hE
    have hE := hS
    have hzb := hbl.size
    simp only [World.size_alloc] at hzb
    clear ho hbl EE SS hgr hv hS zBL
    have s_w7 : w.heap.size ≤ w7.heap.size := Xw7.size)
   go_upto_region 7 with fail
   generalize hW5 : (w7.setCell ⟨w2.heap.size, 1, none⟩ (.slice pa38 (k + 1) pc39)) = w8 at *
   have Kw8 : Chg (w2.heap.size) (w2.heap.size + 1) w7 w8 := by subst hW5; exact qCh
   have Xw8 : Ext w w8 := by subst hW5; exact qXt
   replace b10 := Kw8.cell (by omega) b10
   replace b11 := Kw8.cell (by omega) b11
   replace b20 := Kw8.cell (by omega) b20
   replace f_b20 := Kw8.frzO (by omega) z_b2 f_b20
   replace b21 := Kw8.cell (by omega) b21
   replace f_b21 := Kw8.frzO (by omega) z_b2 f_b21
   replace b110 : w8.cell? ⟨w2.heap.size, 0, none⟩ = some (.slice (some ⟨gr5, 0, none⟩) cells.length rr6) := by subst hW5; go_simp
   replace f_b110 : w8.frozen? ⟨w2.heap.size, 0, none⟩ = false := by subst hW5; first | (simp only [World.frozen?_setCell]; with_reducible assumption) | go_simp
   replace b111 : w8.cell? ⟨w2.heap.size, 1, none⟩ = some (.slice pa38 (k + 1) pc39) := by subst hW5; go_simp
   replace f_b111 : w8.frozen? ⟨w2.heap.size, 1, none⟩ = false := by subst hW5; first | (simp only [World.frozen?_setCell]; with_reducible assumption) | go_simp
   replace hE := hE.chg Kw8 (by omega)
   replace O4 := O4.chgN Kw8 (by omega)
   clear Kw8
   have z_b1 : w.heap.size < w8.heap.size := qB b10
   have z_b2 : w.heap.size + 1 < w8.heap.size := qB b20
   have z_b11 : w2.heap.size < w8.heap.size := qB b110
   have s_w8 : w.heap.size ≤ w8.heap.size := Xw8.size
   clear hW5
   go_wp2_with fail
   go_roundw
   case rel => exact ⟨k + 1, _, _, by omega, by go_num, (by rw [take_expAt hlt, hX18.out]; exact hE), Xw8, O4, b10, b11, b20, b21, f_b20, f_b21, b110, b111, f_b110, f_b111⟩
   case measure => simp [intOf]; omega
  ·
   obtain rfl : k = es.length := by omega
   have hkI : ¬ (es.length : Int) < es.length := by omega
   go_wp2_with fail
   generalize hW6 : ((wr.setCell ⟨w.heap.size + 1, 0, none⟩ (.slice (some ⟨gr5, 0, none⟩) cells.length rr6)).setCell ⟨w.heap.size + 1, 1, none⟩ (.slice ga es.length gc)) = w4 at *
   have Kw4 : Chg (w.heap.size + 1) (w.heap.size + 1 + 1) wr w4 := by subst hW6; exact qCh
   have Xw4 : Ext w w4 := by subst hW6; exact qXt
   replace b10 := Kw4.cell (by omega) b10
   replace b11 := Kw4.cell (by omega) b11
   replace b20 : w4.cell? ⟨w.heap.size + 1, 0, none⟩ = some (.slice (some ⟨gr5, 0, none⟩) cells.length rr6) := by subst hW6; go_simp
   replace f_b20 : w4.frozen? ⟨w.heap.size + 1, 0, none⟩ = false := by subst hW6; first | (simp only [World.frozen?_setCell]; with_reducible assumption) | go_simp
   replace b21 : w4.cell? ⟨w.heap.size + 1, 1, none⟩ = some (.slice ga es.length gc) := by subst hW6; go_simp
   replace f_b21 : w4.frozen? ⟨w.heap.size + 1, 1, none⟩ = false := by subst hW6; first | (simp only [World.frozen?_setCell]; with_reducible assumption) | go_simp
   replace b110 := Kw4.cell (by omega) b110
   replace f_b110 := Kw4.frzO (by omega) z_b11 f_b110
   replace b111 := Kw4.cell (by omega) b111
   replace f_b111 := Kw4.frzO (by omega) z_b11 f_b111
   replace hE := hE.chg Kw4 (by omega)
   replace O4 := O4.chgN Kw4 (by omega)
   clear Kw4
   have z_b1 : w.heap.size < w4.heap.size := qB b10
   have z_b2 : w.heap.size + 1 < w4.heap.size := qB b20
   have z_b11 : w2.heap.size < w4.heap.size := qB b110
   have s_w4 : w.heap.size ≤ w4.heap.size := Xw4.size
   clear hW6
   refine bodyPost_ret (v := .agg #[.slice (some ⟨gr5, 0, none⟩) cells.length rr6, .slice ga es.length gc]) (by simp only [results, Try.results40]; go_simp) rfl ?_
   rw [List.take_of_length_le (Nat.le_refl _)] at hE
   refine ⟨.slice (some ⟨gr5, 0, none⟩) cells.length rr6, .slice ga es.length gc, R, rfl, ⟨(O4.lower (by omega)).z, hE.lower (by omega), hc1, he1, fun _ h => ?_, fun p hp hs _ h => ?_, CapZ.row czgr5 rfl rfl⟩, (Xw4.trans qXt)⟩
   ·
    have h8 := (hE.blk gr5 h.symm).1
    omega
   ·
    obtain ⟨g, hg, hg1, -⟩ := hE.nblk p hp hs
    rw [hg] at h
    have h9 : g = gr5 := Option.some.inj h
    omega

set_option maxHeartbeats 3200000 in
theorem specCopyBuffer_c (cells : List Int) (es : List Exp) (cv ev : Value) (w : World) (l1 l2 : Nat) (h1 : Ints w l1 cv cells) (h2 : Exps w l2 ev es) :
  Calls Try.prog 42 #[.agg #[cv, ev]] w (PBuf w cells es) := by
 obtain ⟨p0, c0, rfl⟩ := h1.form
 obtain ⟨p1, c1, rfl⟩ := h2.form
 have he1 := h2.len
 have hc1 := h1.len
 go_enter Try.func42, Try.ntmps42
 go_upto_region 1 with fail
 generalize hW7 : (w.alloc (.cells #[.slice p0 cells.length c0, .slice p1 es.length c1] 26)).alloc (.cells #[.slice none 0 0, .slice none 0 0] 26) = w1 at *
 have Lw1 : Ext w w1 := by subst hW7; exact qXt
 have Xw1 : Ext w w1 := by subst hW7; exact Lw1
 have b10 : w1.cell? ⟨w.heap.size, 0, none⟩ = some (.slice p0 cells.length c0) := by subst hW7; exact qCl
 have b11 : w1.cell? ⟨w.heap.size, 1, none⟩ = some (.slice p1 es.length c1) := by subst hW7; exact qCl
 have b20 : w1.cell? ⟨w.heap.size + 1, 0, none⟩ = some (.slice none 0 0) := by subst hW7; exact qCl
 have b21 : w1.cell? ⟨w.heap.size + 1, 1, none⟩ = some (.slice none 0 0) := by subst hW7; exact qCl
 have f_b20 : w1.frozen? ⟨w.heap.size + 1, 0, none⟩ = false := by subst hW7; exact qFz
 have f_b21 : w1.frozen? ⟨w.heap.size + 1, 1, none⟩ = false := by subst hW7; exact qFz
 have z_b1 : w.heap.size < w1.heap.size := qB b10
 have z_b2 : w.heap.size + 1 < w1.heap.size := qB b20
 have s_w1 : w.heap.size ≤ w1.heap.size := Xw1.size
 clear hW7
 go_wp2_with fail
 have Q6_b10 := Lib.hid b10
 have Q6_b11 := Lib.hid b11
 have Q6_zb1 := z_b1
 have Q6_b20 := Lib.hid b20
 have Q6_f_b20 := Lib.hid f_b20
 have Q6_b21 := Lib.hid b21
 have Q6_f_b21 := Lib.hid f_b21
 have Q6_zb2 := z_b2
 have BL7 : Ext w1 w1 := Ext.refl _
 refine (copyIntsC_c (.slice p0 cells.length c0) cells _ _ (h1.ext (Xw1.trans qXt))).mono ?_
 rintro e w2 ⟨gr4, rr5, rfl, O3, Ggr4, Ggr4', czgr4, xw2⟩
 have Lw2 : Ext w1 w2 := Ext.trans qXt xw2
 have Xw2 : Ext w w2 := Xw1.trans Lw2
 replace b10 := Lw2.cell b10
 replace b11 := Lw2.cell b11
 replace b20 := Lw2.cell b20
 replace b21 := Lw2.cell b21
 replace f_b20 := Lw2.frz z_b2 f_b20
 replace f_b21 := Lw2.frz z_b2 f_b21
 have z_b1 : w.heap.size < w2.heap.size := qB b10
 have z_b2 : w.heap.size + 1 < w2.heap.size := qB b20
 have s_w2 : w.heap.size ≤ w2.heap.size := Xw2.size
 have BL7_w2 : Ext w1 w2 := BL7.trans Lw2
 clear xw2
 have Q8_b10 := Lib.hid b10
 have Q8_b11 := Lib.hid b11
 have Q8_zb1 := z_b1
 have Q8_b20 := Lib.hid b20
 have Q8_f_b20 := Lib.hid f_b20
 have Q8_b21 := Lib.hid b21
 have Q8_f_b21 := Lib.hid f_b21
 have Q8_zb2 := z_b2
 have Q8_O3 := Lib.hid O3
 have BL9 : Ext w2 w2 := Ext.refl _
 go_wp2_with fail
 generalize hW8 : w2.alloc (.cells #[.slice (some ⟨gr4, 0, none⟩) cells.length rr5, .slice none 0 0] 26) = w3 at *
 have Lw3 : Ext w2 w3 := by subst hW8; exact qXt
 have Xw3 : Ext w w3 := Xw2.trans Lw3
 replace b10 := Lw3.cell b10
 replace b11 := Lw3.cell b11
 replace b20 := Lw3.cell b20
 replace b21 := Lw3.cell b21
 replace f_b20 := Lw3.frz z_b2 f_b20
 replace f_b21 := Lw3.frz z_b2 f_b21
 have b100 : w3.cell? ⟨w2.heap.size, 0, none⟩ = some (.slice (some ⟨gr4, 0, none⟩) cells.length rr5) := by subst hW8; exact qCl
 have b101 : w3.cell? ⟨w2.heap.size, 1, none⟩ = some (.slice none 0 0) := by subst hW8; exact qCl
 have f_b100 : w3.frozen? ⟨w2.heap.size, 0, none⟩ = false := by subst hW8; exact qFz
 have f_b101 : w3.frozen? ⟨w2.heap.size, 1, none⟩ = false := by subst hW8; exact qFz
 have z_b1 : w.heap.size < w3.heap.size := qB b10
 have z_b2 : w.heap.size + 1 < w3.heap.size := qB b20
 have z_b10 : w2.heap.size < w3.heap.size := qB b100
 replace O3 := O3.ext Lw3
 have s_w3 : w.heap.size ≤ w3.heap.size := Xw3.size
 have BL7_w3 : Ext w1 w3 := BL7_w2.trans Lw3
 have BL9_w3 : Ext w2 w3 := BL9.trans Lw3
 have q_w3 : w3.heap.size ≤ w2.heap.size + 1 := by subst hW8; simp
 clear hW8
 have yE_b1 := z_b1
 have yE_b2 := z_b2
 have yE_b10 := z_b10
 go_loopw [4] (fun i wr => ∃ (k : Nat) (gv : Value) (R : Nat → Value), k ≤ es.length ∧ i = .int .i64 k ∧ ExpR wr w3.heap.size gv (es.take k) R ∧ Ext w wr ∧ OwnI wr w.heap.size (.slice (some ⟨gr4, 0, none⟩) cells.length rr5) cells ∧ wr.cell? ⟨w.heap.size, 0, none⟩ = some (.slice p0 cells.length c0) ∧ wr.cell? ⟨w.heap.size, 1, none⟩ = some (.slice p1 es.length c1) ∧ wr.cell? ⟨w.heap.size + 1, 0, none⟩ = some (.slice none 0 0) ∧ wr.cell? ⟨w.heap.size + 1, 1, none⟩ = some (.slice none 0 0) ∧ wr.frozen? ⟨w.heap.size + 1, 0, none⟩ = false ∧ wr.frozen? ⟨w.heap.size + 1, 1, none⟩ = false ∧ wr.cell? ⟨w2.heap.size, 0, none⟩ = some (.slice (some ⟨gr4, 0, none⟩) cells.length rr5) ∧ wr.cell? ⟨w2.heap.size, 1, none⟩ = some (gv) ∧ wr.frozen? ⟨w2.heap.size, 0, none⟩ = false ∧ wr.frozen? ⟨w2.heap.size, 1, none⟩ = false) (fun i _ => es.length - (intOf i).toNat)
 case atStart => exact ⟨0, _, fun _ => .slice none 0 0, Nat.zero_le _, rfl, ExpR.nil _ _ _, (Xw3.trans qXt), O3.lower (by omega), b10, b11, b20, b21, f_b20, f_b21, b100, b101, f_b100, f_b101⟩
 case round =>
  clear O3
  obtain ⟨k, gv, R, hk, rfl, hE, Xr, O3, b10, b11, b20, b21, f_b20, f_b21, b100, b101, f_b100, f_b101⟩ := hrel
  have z_b1 : w.heap.size < wr.heap.size := qB b10
  have z_b2 : w.heap.size + 1 < wr.heap.size := qB b20
  have z_b10 : w2.heap.size < wr.heap.size := qB b100
  obtain ⟨ga, gc, hgv⟩ := hE.len
  rw [List.length_take, Nat.min_eq_left hk] at hgv
  subst hgv
  have s_wr : w.heap.size ≤ wr.heap.size := Xr.size
  have hBr : w3.heap.size ≤ wr.heap.size := by omega
  by_cases hlt : k < es.length
  ·
   have hkI : (k : Int) < es.length := by omega
   have hN_x11 : k < es.length := (by omega)
   have hI_x11 : (k : Int) < (es.length : Int) := by omega
   obtain ⟨bl24, ol25, u18, c19, u20, c21, rfl, x110, x111, x112, x113, x114, i22, i23⟩ := (h2.ext Xr).at k hN_x11
   obtain ⟨X17, hX17⟩ : ∃ x, expAt es k = x := ⟨_, rfl⟩
   rw [hX17] at x110 x111 x112 x113 x114 i22 i23
   obtain ⟨P12, B13, S14, T15, O16⟩ := X17
   dsimp only at x110 x111 x112 x113 x114 i22 i23
   replace hX17 := Lib.hid hX17
   have hLS14 := i22.len
   have hLT15 := i23.len
   have z_x11 : bl24 < wr.heap.size := qB x110
   have Q26_b10 := Lib.hid b10
   have Q26_b11 := Lib.hid b11
   have Q26_zb1 := z_b1
   have Q26_b20 := Lib.hid b20
   have Q26_f_b20 := Lib.hid f_b20
   have Q26_b21 := Lib.hid b21
   have Q26_f_b21 := Lib.hid f_b21
   have Q26_zb2 := z_b2
   have Q26_b100 := Lib.hid b100
   have Q26_f_b100 := Lib.hid f_b100
   have Q26_b101 := Lib.hid b101
   have Q26_f_b101 := Lib.hid f_b101
   have Q26_zb10 := z_b10
   have Q26_x110 := Lib.hid x110
   have Q26_x111 := Lib.hid x111
   have Q26_x112 := Lib.hid x112
   have Q26_x113 := Lib.hid x113
   have Q26_x114 := Lib.hid x114
   have Q26_zx11 := z_x11
   have Q26_hE := Lib.hid hE
   have Q26_O3 := Lib.hid O3
   have Q26_i22 := Lib.hid i22
   have Q26_i23 := Lib.hid i23
   have BL27 : Ext wr wr := Ext.refl _
   go_upto_region 6 with fail
   generalize hW9 : wr.alloc (.cells #[.int .i64 P12, .int .i64 B13, .slice u18 S14.length c19, .slice u20 T15.length c21, .bool O16] 32) = w4 at *
   have Lw4 : Ext wr w4 := by subst hW9; exact qXt
   have Xw4 : Ext w w4 := Xr.trans Lw4
   replace b10 := Lw4.cell b10
   replace b11 := Lw4.cell b11
   replace b20 := Lw4.cell b20
   replace b21 := Lw4.cell b21
   replace f_b20 := Lw4.frz z_b2 f_b20
   replace f_b21 := Lw4.frz z_b2 f_b21
   replace b100 := Lw4.cell b100
   replace b101 := Lw4.cell b101
   replace f_b100 := Lw4.frz z_b10 f_b100
   replace f_b101 := Lw4.frz z_b10 f_b101
   replace x110 := Lw4.cell x110
   replace x111 := Lw4.cell x111
   replace x112 := Lw4.cell x112
   replace x113 := Lw4.cell x113
   replace x114 := Lw4.cell x114
   have b280 : w4.cell? ⟨wr.heap.size, 0, none⟩ = some (.int .i64 P12) := by subst hW9; exact qCl
   have b281 : w4.cell? ⟨wr.heap.size, 1, none⟩ = some (.int .i64 B13) := by subst hW9; exact qCl
   have b282 : w4.cell? ⟨wr.heap.size, 2, none⟩ = some (.slice u18 S14.length c19) := by subst hW9; exact qCl
   have b283 : w4.cell? ⟨wr.heap.size, 3, none⟩ = some (.slice u20 T15.length c21) := by subst hW9; exact qCl
   have b284 : w4.cell? ⟨wr.heap.size, 4, none⟩ = some (.bool O16) := by subst hW9; exact qCl
   have f_b280 : w4.frozen? ⟨wr.heap.size, 0, none⟩ = false := by subst hW9; exact qFz
   have f_b281 : w4.frozen? ⟨wr.heap.size, 1, none⟩ = false := by subst hW9; exact qFz
   have f_b282 : w4.frozen? ⟨wr.heap.size, 2, none⟩ = false := by subst hW9; exact qFz
   have f_b283 : w4.frozen? ⟨wr.heap.size, 3, none⟩ = false := by subst hW9; exact qFz
   have f_b284 : w4.frozen? ⟨wr.heap.size, 4, none⟩ = false := by subst hW9; exact qFz
   have z_b1 : w.heap.size < w4.heap.size := qB b10
   have z_b2 : w.heap.size + 1 < w4.heap.size := qB b20
   have z_b10 : w2.heap.size < w4.heap.size := qB b100
   have z_x11 : bl24 < w4.heap.size := qB x110
   have z_b28 : wr.heap.size < w4.heap.size := qB b280
   replace hE := hE.ext Lw4
   replace O3 := O3.ext Lw4
   replace i22 := i22.ext Lw4
   replace i23 := i23.ext Lw4
   have s_w4 : w.heap.size ≤ w4.heap.size := Xw4.size
   have BL27_w4 : Ext wr w4 := BL27.trans Lw4
   clear hW9
   go_wp2_with fail
   have Q35_b10 := Lib.hid b10
   have Q35_b11 := Lib.hid b11
   have Q35_zb1 := z_b1
   have Q35_b20 := Lib.hid b20
   have Q35_f_b20 := Lib.hid f_b20
   have Q35_b21 := Lib.hid b21
   have Q35_f_b21 := Lib.hid f_b21
   have Q35_zb2 := z_b2
   have Q35_b100 := Lib.hid b100
   have Q35_f_b100 := Lib.hid f_b100
   have Q35_b101 := Lib.hid b101
   have Q35_f_b101 := Lib.hid f_b101
   have Q35_zb10 := z_b10
   have Q35_x110 := Lib.hid x110
   have Q35_x111 := Lib.hid x111
   have Q35_x112 := Lib.hid x112
   have Q35_x113 := Lib.hid x113
   have Q35_x114 := Lib.hid x114
   have Q35_zx11 := z_x11
   have Q35_b280 := Lib.hid b280
   have Q35_f_b280 := Lib.hid f_b280
   have Q35_b281 := Lib.hid b281
   have Q35_f_b281 := Lib.hid f_b281
   have Q35_b282 := Lib.hid b282
   have Q35_f_b282 := Lib.hid f_b282
   have Q35_b283 := Lib.hid b283
   have Q35_f_b283 := Lib.hid f_b283
   have Q35_b284 := Lib.hid b284
   have Q35_f_b284 := Lib.hid f_b284
   have Q35_zb28 := z_b28
   have Q35_hE := Lib.hid hE
   have Q35_O3 := Lib.hid O3
   have Q35_i22 := Lib.hid i22
   have Q35_i23 := Lib.hid i23
   have BL36 : Ext w4 w4 := Ext.refl _
   refine (scopyViewO_c B13 (.slice u18 S14.length c19) (.slice u20 T15.length c21) S14 T15 _ _ _ (i22.ext qXt) (i23.ext qXt)).mono ?_
   rintro e w5 ⟨gr29, gr30, rr31, rr32, rfl, O33, O34, Ggr29, Ggr29', Ggr30, Ggr30', hggr29, xw5⟩
   have Lw5 : Ext w4 w5 := Ext.trans qXt xw5
   have Xw5 : Ext w w5 := Xw4.trans Lw5
   replace b10 := Lw5.cell b10
   replace b11 := Lw5.cell b11
   replace b20 := Lw5.cell b20
   replace b21 := Lw5.cell b21
   replace f_b20 := Lw5.frz z_b2 f_b20
   replace f_b21 := Lw5.frz z_b2 f_b21
   replace b100 := Lw5.cell b100
   replace b101 := Lw5.cell b101
   replace f_b100 := Lw5.frz z_b10 f_b100
   replace f_b101 := Lw5.frz z_b10 f_b101
   replace x110 := Lw5.cell x110
   replace x111 := Lw5.cell x111
   replace x112 := Lw5.cell x112
   replace x113 := Lw5.cell x113
   replace x114 := Lw5.cell x114
   replace b280 := Lw5.cell b280
   replace b281 := Lw5.cell b281
   replace b282 := Lw5.cell b282
   replace b283 := Lw5.cell b283
   replace b284 := Lw5.cell b284
   replace f_b280 := Lw5.frz z_b28 f_b280
   replace f_b281 := Lw5.frz z_b28 f_b281
   replace f_b282 := Lw5.frz z_b28 f_b282
   replace f_b283 := Lw5.frz z_b28 f_b283
   replace f_b284 := Lw5.frz z_b28 f_b284
   have z_b1 : w.heap.size < w5.heap.size := qB b10
   have z_b2 : w.heap.size + 1 < w5.heap.size := qB b20
   have z_b10 : w2.heap.size < w5.heap.size := qB b100
   have z_x11 : bl24 < w5.heap.size := qB x110
   have z_b28 : wr.heap.size < w5.heap.size := qB b280
   replace hE := hE.ext Lw5
   replace O3 := O3.ext Lw5
   replace i22 := i22.ext Lw5
   replace i23 := i23.ext Lw5
   have s_w5 : w.heap.size ≤ w5.heap.size := Xw5.size
   have BL27_w5 : Ext wr w5 := BL27_w4.trans Lw5
   have BL36_w5 : Ext w4 w5 := BL36.trans Lw5
   clear xw5
   go_upto_region 7 with fail
   generalize hW10 : (((w5.setCell ⟨wr.heap.size, 1, none⟩ (.int .i64 B13)).setCell ⟨wr.heap.size, 2, none⟩ (.slice (some ⟨gr29, 0, none⟩) S14.length rr31)).setCell ⟨wr.heap.size, 3, none⟩ (.slice (some ⟨gr30, 0, none⟩) T15.length rr32)) = w6 at *
   have Kw6 : Chg (wr.heap.size) (wr.heap.size + 1) w5 w6 := by subst hW10; exact qCh
   have Xw6 : Ext w w6 := by subst hW10; exact qXt
   have BL27_w6 : Ext wr w6 := by subst hW10; exact qXt
   replace b10 := BL27_w6.cell Q26_b10.out
   replace b11 := BL27_w6.cell Q26_b11.out
   replace b20 := BL27_w6.cell Q26_b20.out
   replace f_b20 := BL27_w6.frz Q26_zb2 Q26_f_b20.out
   replace b21 := BL27_w6.cell Q26_b21.out
   replace f_b21 := BL27_w6.frz Q26_zb2 Q26_f_b21.out
   replace b100 := BL27_w6.cell Q26_b100.out
   replace f_b100 := BL27_w6.frz Q26_zb10 Q26_f_b100.out
   replace b101 := BL27_w6.cell Q26_b101.out
   replace f_b101 := BL27_w6.frz Q26_zb10 Q26_f_b101.out
   replace x110 := BL27_w6.cell Q26_x110.out
   replace x111 := BL27_w6.cell Q26_x111.out
   replace x112 := BL27_w6.cell Q26_x112.out
   replace x113 := BL27_w6.cell Q26_x113.out
   replace x114 := BL27_w6.cell Q26_x114.out
   replace b280 : w6.cell? ⟨wr.heap.size, 0, none⟩ = some (.int .i64 P12) := by subst hW10; go_simp
   replace f_b280 : w6.frozen? ⟨wr.heap.size, 0, none⟩ = false := by subst hW10; first | (simp only [World.frozen?_setCell]; with_reducible assumption) | go_simp
   replace b281 : w6.cell? ⟨wr.heap.size, 1, none⟩ = some (.int .i64 B13) := by subst hW10; go_simp
   replace f_b281 : w6.frozen? ⟨wr.heap.size, 1, none⟩ = false := by subst hW10; first | (simp only [World.frozen?_setCell]; with_reducible assumption) | go_simp
   replace b282 : w6.cell? ⟨wr.heap.size, 2, none⟩ = some (.slice (some ⟨gr29, 0, none⟩) S14.length rr31) := by subst hW10; go_simp
   replace f_b282 : w6.frozen? ⟨wr.heap.size, 2, none⟩ = false := by subst hW10; first | (simp only [World.frozen?_setCell]; with_reducible assumption) | go_simp
   replace b283 : w6.cell? ⟨wr.heap.size, 3, none⟩ = some (.slice (some ⟨gr30, 0, none⟩) T15.length rr32) := by subst hW10; go_simp
   replace f_b283 : w6.frozen? ⟨wr.heap.size, 3, none⟩ = false := by subst hW10; first | (simp only [World.frozen?_setCell]; with_reducible assumption) | go_simp
   replace b284 : w6.cell? ⟨wr.heap.size, 4, none⟩ = some (.bool O16) := by subst hW10; go_simp
   replace f_b284 : w6.frozen? ⟨wr.heap.size, 4, none⟩ = false := by subst hW10; first | (simp only [World.frozen?_setCell]; with_reducible assumption) | go_simp
   replace hE := (Q26_hE.out).ext BL27_w6
   replace O3 := O3.chgN Kw6 (by omega)
   replace i22 := (Q26_i22.out).ext BL27_w6
   replace i23 := (Q26_i23.out).ext BL27_w6
   replace O33 := O33.chgN Kw6 (by omega)
   replace O34 := O34.chgN Kw6 (by omega)
   clear Kw6
   have z_b1 : w.heap.size < w6.heap.size := qB b10
   have z_b2 : w.heap.size + 1 < w6.heap.size := qB b20
   have z_b10 : w2.heap.size < w6.heap.size := qB b100
   have z_x11 : bl24 < w6.heap.size := qB x110
   have z_b28 : wr.heap.size < w6.heap.size := qB b280
   have s_w6 : w.heap.size ≤ w6.heap.size := Xw6.size
   clear hW10
   have zBL := (BL27_w6).size
   have EE : Ext w6 (w6.alloc (.cells #[.int .i64 P12, .int .i64 B13, .slice (some ⟨gr29, 0, none⟩) S14.length rr31, .slice (some ⟨gr30, 0, none⟩) T15.length rr32, .bool O16] TEXPORT)) := qXt
   have SS : SrcR (w6.alloc (.cells #[.int .i64 P12, .int .i64 B13, .slice (some ⟨gr29, 0, none⟩) S14.length rr31, .slice (some ⟨gr30, 0, none⟩) T15.length rr32, .bool O16] TEXPORT)) 5 (.slice (some ⟨w6.heap.size, 0, none⟩) 1 1) 1 [.int .i64 P12, .int .i64 B13, .slice (some ⟨gr29, 0, none⟩) S14.length rr31, .slice (some ⟨gr30, 0, none⟩) T15.length rr32, .bool O16] := src_one w6 _ rfl (by intro u hu; simp only [List.mem_cons, List.not_mem_nil, or_false] at hu; rcases hu with rfl | rfl | rfl | rfl | rfl <;> rfl)
   go_wp2_with (
    at_builtin
    refine wpList_appC Try.underlying24 infoExp rfl (by decide) rfl (.tmp 27) (.tmp 29) rfl rfl rfl (hE.row.ext EE) SS (by rw [cellsE_len]; simp; omega) (by rw [cellsE_len]; simp; omega) (by simp <;> omega) ?_
    intro vw7 w7 ho hgr hbl hv
    have hS : ExpR w7 (w3.heap.size) vw7 ((es.take k) ++ [⟨P12, B13, S14, T15, O16⟩]) (extR R (es.take k).length (.slice (some ⟨gr29, 0, none⟩) S14.length rr31) (.slice (some ⟨gr30, 0, none⟩) T15.length rr32)) := ExpR.snoc Q26_hE.out (Ext.trans BL27_w6 EE) ((O33.ext EE).lower (by omega)).z ((O34.ext EE).lower (by omega)).z (by dsimp only; omega) (by dsimp only; omega) (fun _ _ h => by have h9 : gr29 = gr30 := Option.some.inj h; omega) (fun _ g h => by have h9 : gr29 = g := Option.some.inj h; omega) (fun _ g h => by have h9 : gr30 = g := Option.some.inj h; omega) ho hgr hv
    obtain ⟨pa37, pc38, hpv⟩ := hS.len
    rw [List.length_append, List.length_singleton, List.length_take, Nat.min_eq_left hk] at hpv
    subst hpv
    have Xw7 : Ext w w7 := Ext.below (Xw6.trans EE) hbl (by omega)
    clear x110 x111 x112 x113 x114
    clear b280 b281 b282 b283 b284 f_b280 f_b281 f_b282 f_b283 f_b284
    replace b10 := below_cell hbl (by omega) (EE.cell b10)
    replace b11 := below_cell hbl (by omega) (EE.cell b11)
    replace b20 := below_cell hbl (by omega) (EE.cell b20)
    replace f_b20 := below_frz hbl (by omega) (EE.frz z_b2 f_b20)
    replace b21 := below_cell hbl (by omega) (EE.cell b21)
    replace f_b21 := below_frz hbl (by omega) (EE.frz z_b2 f_b21)
    replace b100 := below_cell hbl (by omega) (EE.cell b100)
    replace f_b100 := below_frz hbl (by omega) (EE.frz z_b10 f_b100)
    replace b101 := below_cell hbl (by omega) (EE.cell b101)
    replace f_b101 := below_frz hbl (by omega) (EE.frz z_b10 f_b101)
    have z_b1 : w.heap.size < w7.heap.size := qB b10
    have z_b2 : w.heap.size + 1 < w7.heap.size := qB b20
    have z_b10 : w2.heap.size < w7.heap.size := qB b100
    replace O3 := (O3.ext EE).chgN (Below.chg hbl) (.inl (by omega))
    clear i22
    clear i23
    clear O33
    clear O34
    clear hE
    have hE := hS
    have hzb := hbl.size
    simp only [World.size_alloc] at hzb
    clear ho hbl EE SS hgr hv hS zBL
    have s_w7 : w.heap.size ≤ w7.heap.size := Xw7.size)
   go_wp2_with fail
   generalize hW11 : (w7.setCell ⟨w2.heap.size, 1, none⟩ (.slice pa37 (k + 1) pc38)) = w8 at *
   have Kw8 : Chg (w2.heap.size) (w2.heap.size + 1) w7 w8 := by subst hW11; exact qCh
   have Xw8 : Ext w w8 := by subst hW11; exact qXt
   replace b10 := Kw8.cell (by omega) b10
   replace b11 := Kw8.cell (by omega) b11
   replace b20 := Kw8.cell (by omega) b20
   replace f_b20 := Kw8.frzO (by omega) z_b2 f_b20
   replace b21 := Kw8.cell (by omega) b21
   replace f_b21 := Kw8.frzO (by omega) z_b2 f_b21
   replace b100 : w8.cell? ⟨w2.heap.size, 0, none⟩ = some (.slice (some ⟨gr4, 0, none⟩) cells.length rr5) := by subst hW11; go_simp
   replace f_b100 : w8.frozen? ⟨w2.heap.size, 0, none⟩ = false := by subst hW11; first | (simp only [World.frozen?_setCell]; with_reducible assumption) | go_simp
   replace b101 : w8.cell? ⟨w2.heap.size, 1, none⟩ = some (.slice pa37 (k + 1) pc38) := by subst hW11; go_simp
   replace f_b101 : w8.frozen? ⟨w2.heap.size, 1, none⟩ = false := by subst hW11; first | (simp only [World.frozen?_setCell]; with_reducible assumption) | go_simp
   replace hE := hE.chg Kw8 (by omega)
   replace O3 := O3.chgN Kw8 (by omega)
   clear Kw8
   have z_b1 : w.heap.size < w8.heap.size := qB b10
   have z_b2 : w.heap.size + 1 < w8.heap.size := qB b20
   have z_b10 : w2.heap.size < w8.heap.size := qB b100
   have s_w8 : w.heap.size ≤ w8.heap.size := Xw8.size
   clear hW11
   go_roundw
   case rel => exact ⟨k + 1, _, _, by omega, by go_num, (by rw [take_expAt hlt, hX17.out]; exact hE), Xw8, O3, b10, b11, b20, b21, f_b20, f_b21, b100, b101, f_b100, f_b101⟩
   case measure => simp [intOf]; omega
  ·
   obtain rfl : k = es.length := by omega
   have hkI : ¬ (es.length : Int) < es.length := by omega
   go_wp2_with fail
   generalize hW12 : ((wr.setCell ⟨w.heap.size + 1, 0, none⟩ (.slice (some ⟨gr4, 0, none⟩) cells.length rr5)).setCell ⟨w.heap.size + 1, 1, none⟩ (.slice ga es.length gc)) = w4 at *
   have Kw4 : Chg (w.heap.size + 1) (w.heap.size + 1 + 1) wr w4 := by subst hW12; exact qCh
   have Xw4 : Ext w w4 := by subst hW12; exact qXt
   replace b10 := Kw4.cell (by omega) b10
   replace b11 := Kw4.cell (by omega) b11
   replace b20 : w4.cell? ⟨w.heap.size + 1, 0, none⟩ = some (.slice (some ⟨gr4, 0, none⟩) cells.length rr5) := by subst hW12; go_simp
   replace f_b20 : w4.frozen? ⟨w.heap.size + 1, 0, none⟩ = false := by subst hW12; first | (simp only [World.frozen?_setCell]; with_reducible assumption) | go_simp
   replace b21 : w4.cell? ⟨w.heap.size + 1, 1, none⟩ = some (.slice ga es.length gc) := by subst hW12; go_simp
   replace f_b21 : w4.frozen? ⟨w.heap.size + 1, 1, none⟩ = false := by subst hW12; first | (simp only [World.frozen?_setCell]; with_reducible assumption) | go_simp
   replace b100 := Kw4.cell (by omega) b100
   replace f_b100 := Kw4.frzO (by omega) z_b10 f_b100
   replace b101 := Kw4.cell (by omega) b101
   replace f_b101 := Kw4.frzO (by omega) z_b10 f_b101
   replace hE := hE.chg Kw4 (by omega)
   replace O3 := O3.chgN Kw4 (by omega)
   clear Kw4
   have z_b1 : w.heap.size < w4.heap.size := qB b10
   have z_b2 : w.heap.size + 1 < w4.heap.size := qB b20
   have z_b10 : w2.heap.size < w4.heap.size := qB b100
   have s_w4 : w.heap.size ≤ w4.heap.size := Xw4.size
   clear hW12
   refine bodyPost_ret (v := .agg #[.slice (some ⟨gr4, 0, none⟩) cells.length rr5, .slice ga es.length gc]) (by simp only [results, Try.results42]; go_simp) rfl ?_
   rw [List.take_of_length_le (Nat.le_refl _)] at hE
   refine ⟨.slice (some ⟨gr4, 0, none⟩) cells.length rr5, .slice ga es.length gc, R, rfl, ⟨(O3.lower (by omega)).z, hE.lower (by omega), hc1, he1, fun _ h => ?_, fun p hp hs _ h => ?_, CapZ.row czgr4 rfl rfl⟩, (Xw4.trans qXt)⟩
   ·
    have h8 := (hE.blk gr4 h.symm).1
    omega
   ·
    obtain ⟨g, hg, hg1, -⟩ := hE.nblk p hp hs
    rw [hg] at h
    have h9 : g = gr4 := Option.some.inj h
    omega


end Go.Proofs.Ytgklaobfikbiiaa

/- Walks of the laws' own helpers on buffers: sizes, conversions. -/
namespace Go.Proofs.Ytgklaobfikbiiaa
open Go.RowKit
set_option linter.unusedVariables false
set_option maxRecDepth 100000

/-- a slice of exports that came in -/
def RawE (w : World) (v : Value) (es : List Exp) : Prop :=
  ∃ a cap, v = .slice a es.length cap ∧ (a = none → cap = 0) ∧
    ∀ i, i < es.length → ∃ bl off u1 c1 u2 c2, a = some ⟨bl, off, none⟩ ∧
      w.cell? ⟨bl, off + i * 5, none⟩ = some (.int .i64 (expAt es i).par) ∧ w.cell? ⟨bl, off + i * 5 + 1, none⟩ = some (.int .i64 (expAt es i).b) ∧
      w.cell? ⟨bl, off + i * 5 + 2, none⟩ = some (.slice u1 (expAt es i).s.length c1) ∧ w.cell? ⟨bl, off + i * 5 + 3, none⟩ = some (.slice u2 (expAt es i).t.length c2) ∧
      w.cell? ⟨bl, off + i * 5 + 4, none⟩ = some (.bool (expAt es i).op) ∧ Raw w (.slice u1 (expAt es i).s.length c1) (expAt es i).s ∧ Raw w (.slice u2 (expAt es i).t.length c2) (expAt es i).t ∧
      (expAt es i).s.length ≤ maxLen ∧ (expAt es i).t.length ≤ maxLen
theorem RawE.ext {w w' : World} {v : Value} {es : List Exp} (h : RawE w v es) (hx : Ext w w') : RawE w' v es := by
  obtain ⟨a, cap, hv, h3, h4⟩ := h
  refine ⟨a, cap, hv, h3, fun i hi => ?_⟩
  obtain ⟨bl, off, u1, c1, u2, c2, ha, k0, k1, k2, k3, k4, i1, i2, m⟩ := h4 i hi
  exact ⟨bl, off, u1, c1, u2, c2, ha, hx.cell k0, hx.cell k1, hx.cell k2, hx.cell k3, hx.cell k4, i1.ext hx, i2.ext hx, m⟩
end Go.Proofs.Ytgklaobfikbiiaa

/- Walks of the laws' own helpers on buffers: conversions. -/
namespace Go.Proofs.Ytgklaobfikbiiaa
open Go.RowKit
set_option linter.unusedVariables false
set_option maxRecDepth 100000

theorem made_flat (zs : List Value) (sz : Nat) (hz : zs.length = sz) (hsz : 0 < sz) (n : Nat) : (madeCells zs.toArray (n * sz)).toList = (List.replicate n zs).flatten := by
  have hall : ∀ c ∈ List.replicate n zs, c.length = sz := fun c hc => by rw [List.eq_of_mem_replicate hc]; exact hz
  refine List.ext_getElem (by rw [flat_len hall]; simp [size_madeCells]) fun i h1 h2 => ?_
  have h : i < n * sz := by simpa [size_madeCells] using h1
  have e : i / sz * sz + i % sz = i := by rw [Nat.mul_comm]; exact Nat.div_add_mod i sz
  have h3 : i / sz < n := Nat.div_lt_of_lt_mul (by rw [Nat.mul_comm]; exact h)
  have h4 : i % sz < sz := Nat.mod_lt _ hsz
  have k := flat_get hall (i / sz) (i % sz) (by simpa using h3) h4
  rw [e, List.getElem?_eq_getElem h2, List.getElem_replicate, List.getElem?_eq_getElem (by omega)] at k
  rw [Option.some.inj k]
  simp [madeCells, hz]
  rw [List.getElem?_eq_getElem (by omega)]; rfl
theorem expAt_rep (n i : Nat) : expAt (List.replicate n noE) i = noE := by
  unfold expAt
  rw [List.getD_eq_getElem?_getD, List.getElem?_replicate]
  split <;> rfl
theorem rowAt_rep (n p : Nat) : rowAt (List.replicate n noE) p = [] := by unfold rowAt; rw [expAt_rep]; split <;> rfl
theorem cellsE_rep (n : Nat) : cellsE (List.replicate n noE) (fun _ => .slice none 0 0) = List.replicate n [.int .i64 0, .int .i64 0, .slice none 0 0, .slice none 0 0, .bool false] := by
  refine List.ext_getElem (by rw [cellsE_len]; simp) fun i h1 h2 => ?_
  rw [cellsE_get, List.getElem_replicate, expAt_rep]; rfl
theorem own_nil (w : World) (lo : Nat) : OwnZ w lo (.slice none 0 0) [] := .inl ⟨rfl, none, 0, rfl, by simp, fun _ => rfl⟩
/-- n exports of zeros -/
theorem ExpR.made {w : World} {lo g n c : Nat} (h : w.ownsRow lo TEXPORT 5 (.slice (some ⟨g, 0, none⟩) n c) n (madeCells #[.int .i64 0, .int .i64 0, .slice none 0 0, .slice none 0 0, .bool false] (n * 5)).toList) :
    ExpR w lo (.slice (some ⟨g, 0, none⟩) n c) (List.replicate n noE) (fun _ => .slice none 0 0) := by
  have e := made_flat [.int .i64 0, .int .i64 0, .slice none 0 0, .slice none 0 0, .bool false] 5 rfl (by omega) n
  change (madeCells #[.int .i64 0, .int .i64 0, .slice none 0 0, .slice none 0 0, .bool false] (n * 5)).toList = _ at e
  rw [e] at h
  refine ⟨⟨?_, fun c hc => ?_⟩, fun p _ => by rw [rowAt_rep]; exact own_nil _ _, fun p _ => by rw [rowAt_rep]; simp, fun p q _ _ hs => absurd (rowAt_rep n p) hs, fun p _ hs => absurd (rowAt_rep n p) hs⟩
  · rw [cellsE_rep, List.length_replicate]; exact h
  · rw [cellsE_rep] at hc; rw [List.eq_of_mem_replicate hc]; rfl
def putR (R : Nat → Value) (k : Nat) (u1 u2 : Value) (p : Nat) : Value := if p = 2 * k then u1 else if p = 2 * k + 1 then u2 else R p
theorem putR_a {R : Nat → Value} {k : Nat} {u1 u2 : Value} : putR R k u1 u2 (2 * k) = u1 := by unfold putR; rw [if_pos rfl]
theorem putR_b {R : Nat → Value} {k : Nat} {u1 u2 : Value} : putR R k u1 u2 (2 * k + 1) = u2 := by unfold putR; rw [if_neg (by omega), if_pos rfl]
theorem putR_o {R : Nat → Value} {k : Nat} {u1 u2 : Value} {p : Nat} (h : p / 2 ≠ k) : putR R k u1 u2 p = R p := by unfold putR; rw [if_neg (by omega), if_neg (by omega)]
section
variable {w w' W : World} {lo : Nat} {es : List Exp} {R : Nat → Value}
/-- the cells of an export in a row of one's own -/
theorem ExpR.cells {g n c : Nat} (h : ExpR w lo (.slice (some ⟨g, 0, none⟩) n c) es R) (hn : n = es.length) (i j : Nat) (hi : i < es.length) (hj : j < 5) :
    w.cell? ⟨g, i * 5 + j, none⟩ = (eCells (expAt es i) (R (2 * i)) (R (2 * i + 1)))[j]? ∧ w.frozen? ⟨g, i * 5 + j, none⟩ = false := by
  subst hn
  have hr := h.row
  have e1 : (.slice (some ⟨g, 0, none⟩) es.length c : Value) = .slice (some ⟨g, 0, none⟩) (cellsE es R).length c := by rw [cellsE_len]
  rw [e1] at hr
  have := hr.cell i j (by rw [cellsE_len]; exact hi) hj
  rw [cellsE_get] at this
  exact this
theorem OwnC.setN {base E sz g n c : Nat} {L : List (List Value)} (h : OwnC w base E sz (.slice (some ⟨g, 0, none⟩) n c) L) (hn : n = L.length) (i j : Nat) (hi : i < L.length) (hj : j < sz) (x : Value) :
    OwnC (w.setCell ⟨g, i * sz + j, none⟩ x) base E sz (.slice (some ⟨g, 0, none⟩) n c) (L.set i ((L[i]).set j x)) := by subst hn; exact h.set i j hi hj x
theorem OwnC.put5 {base E g n c : Nat} {L : List (List Value)} (h : OwnC w base E 5 (.slice (some ⟨g, 0, none⟩) n c) L) (hn : n = L.length) (i : Nat) (hi : i < L.length) (x0 x1 x2 x3 x4 : Value) :
    OwnC (((((w.setCell ⟨g, i * 5, none⟩ x0).setCell ⟨g, i * 5 + 1, none⟩ x1).setCell ⟨g, i * 5 + 2, none⟩ x2).setCell ⟨g, i * 5 + 3, none⟩ x3).setCell ⟨g, i * 5 + 4, none⟩ x4) base E 5 (.slice (some ⟨g, 0, none⟩) n c) (L.set i [x0, x1, x2, x3, x4]) := by
  have hl : L[i].length = 5 := h.2 _ (List.getElem_mem hi)
  obtain ⟨y0, y1, y2, y3, y4, hy⟩ : ∃ y0 y1 y2 y3 y4, L[i] = [y0, y1, y2, y3, y4] := by
    match hL : L[i], hl with
    | [a, b, c, d, e], _ => exact ⟨a, b, c, d, e, rfl⟩
  have r1 := h.setN hn i 0 hi (by omega) x0
  have r2 := r1.setN (by simpa using hn) i 1 (by simpa using hi) (by omega) x1
  have r3 := r2.setN (by simpa using hn) i 2 (by simpa using hi) (by omega) x2
  have r4 := r3.setN (by simpa using hn) i 3 (by simpa using hi) (by omega) x3
  have r5 := r4.setN (by simpa using hn) i 4 (by simpa using hi) (by omega) x4
  simp only [List.getElem_set_self, List.set_set, hy] at r5
  exact r5
/-- an export is written, with rows that came up later than all others -/
theorem ExpR.put {w0 : World} {g c : Nat} {e : Exp} {u1 u2 : Value} (h0 : ExpR w0 lo (.slice (some ⟨g, 0, none⟩) es.length c) es R) (hx : Ext w0 W) (k : Nat) (hk : k < es.length) (o1 : OwnZ W lo u1 e.s) (o2 : OwnZ W lo u2 e.t)
    (l1 : e.s.length ≤ 4194304) (l2 : e.t.length ≤ 4194304) (hd : e.s ≠ [] → e.t ≠ [] → u1.ownBlock ≠ u2.ownBlock) (m1 : e.s ≠ [] → ∀ b, u1.ownBlock = some b → w0.heap.size ≤ b) (m2 : e.t ≠ [] → ∀ b, u2.ownBlock = some b → w0.heap.size ≤ b) :
    ExpR (((((W.setCell ⟨g, k * 5, none⟩ (.int .i64 e.par)).setCell ⟨g, k * 5 + 1, none⟩ (.int .i64 e.b)).setCell ⟨g, k * 5 + 2, none⟩ u1).setCell ⟨g, k * 5 + 3, none⟩ u2).setCell ⟨g, k * 5 + 4, none⟩ (.bool e.op)) lo
      (.slice (some ⟨g, 0, none⟩) es.length c) (es.set k e) (putR R k u1 u2) := by
  have h := h0.ext hx
  have hgl := (h0.blk g rfl).2
  have hk' : k < (cellsE es R).length := by rw [cellsE_len]; exact hk
  have hr := h.row.put5 (cellsE_len es R).symm k hk' (.int .i64 e.par) (.int .i64 e.b) u1 u2 (.bool e.op)
  have hC : Chg g (g + 1) W (((((W.setCell ⟨g, k * 5, none⟩ (.int .i64 e.par)).setCell ⟨g, k * 5 + 1, none⟩ (.int .i64 e.b)).setCell ⟨g, k * 5 + 2, none⟩ u1).setCell ⟨g, k * 5 + 3, none⟩ u2).setCell ⟨g, k * 5 + 4, none⟩ (.bool e.op)) := qCh
  generalize (((((W.setCell ⟨g, k * 5, none⟩ (.int .i64 e.par)).setCell ⟨g, k * 5 + 1, none⟩ (.int .i64 e.b)).setCell ⟨g, k * 5 + 2, none⟩ u1).setCell ⟨g, k * 5 + 3, none⟩ u2).setCell ⟨g, k * 5 + 4, none⟩ (.bool e.op)) = W2 at *
  have hgr : W.grownBy W2 (some g) := ⟨hC.os, hC.tape, hC.output, hC.size, fun b hb hne => hC.block b hb (by
    rcases Nat.lt_or_ge b g with h | h
    · exact .inl h
    · exact .inr (by have : b ≠ g := fun h0 => hne (by rw [h0]); omega))⟩
  have n1 : e.s ≠ [] → u1.ownBlock ≠ some g := fun hs he => by have := m1 hs g he; omega
  have n2 : e.t ≠ [] → u2.ownBlock ≠ some g := fun hs he => by have := m2 hs g he; omega
  have hrow : ∀ p, p / 2 ≠ k → rowAt (es.set k e) p = rowAt es p := fun p hp => by unfold rowAt; simp only [expAt_set es k e _ hk, if_neg hp]
  have hra : rowAt (es.set k e) (2 * k) = e.s := by rw [rowAt_even, expAt_set es k e k hk, if_pos rfl]
  have hrb : rowAt (es.set k e) (2 * k + 1) = e.t := by rw [rowAt_odd, expAt_set es k e k hk, if_pos rfl]
  have old : ∀ p, p < 2 * es.length → rowAt es p ≠ [] → (e.s ≠ [] → (R p).ownBlock ≠ u1.ownBlock) ∧ (e.t ≠ [] → (R p).ownBlock ≠ u2.ownBlock) := fun p hp hs => by
    obtain ⟨b, hb1, -, hlt⟩ := h0.nblk p hp hs
    refine ⟨fun he h2 => ?_, fun he h2 => ?_⟩
    · have := m1 he b (by rw [← h2]; exact hb1); omega
    · have := m2 he b (by rw [← h2]; exact hb1); omega
  have three : ∀ p, p = 2 * k ∨ p = 2 * k + 1 ∨ p / 2 ≠ k := fun p => by omega
  refine ⟨?_, ?_, ?_, ?_, ?_⟩
  · have e2 : cellsE (es.set k e) (putR R k u1 u2) = (cellsE es R).set k [.int .i64 e.par, .int .i64 e.b, u1, u2, .bool e.op] := by
      refine List.ext_getElem (by rw [List.length_set, cellsE_len, cellsE_len, List.length_set]) fun j h1 h2 => ?_
      rw [cellsE_get, List.getElem_set, expAt_set es k e j hk]
      by_cases hj : k = j
      · subst hj; rw [if_pos rfl, if_pos rfl, putR_a, putR_b]; rfl
      · rw [if_neg (by omega), if_neg hj, cellsE_get, putR_o (by omega), putR_o (by omega)]
    rw [e2]; exact hr
  · intro p hp
    rw [List.length_set] at hp
    rcases three p with rfl | rfl | h3
    · rw [putR_a, hra]; exact o1.keptG l1 hgr n1
    · rw [putR_b, hrb]; exact o2.keptG l2 hgr n2
    · rw [putR_o h3, hrow p h3]; exact (h.nest p hp).keptG (h.lens p hp) hgr (fun hs => h.off p hp hs)
  · intro p hp
    rw [List.length_set] at hp
    rcases three p with rfl | rfl | h3
    · rw [hra]; exact l1
    · rw [hrb]; exact l2
    · rw [hrow p h3]; exact h.lens p hp
  · intro p q hpq hq
    rw [List.length_set] at hq
    rcases three p with rfl | rfl | h3
    · rcases three q with rfl | rfl | h4
      · omega
      · rw [putR_a, putR_b, hra, hrb]; exact hd
      · rw [putR_a, hra, putR_o h4, hrow q h4]
        exact fun he hs h2 => (old q hq hs).1 he h2.symm
    · rcases three q with rfl | rfl | h4
      · omega
      · omega
      · rw [putR_b, hrb, putR_o h4, hrow q h4]
        exact fun he hs h2 => (old q hq hs).2 he h2.symm
    · rcases three q with rfl | rfl | h4
      · rw [putR_a, hra, putR_o h3, hrow p h3]
        exact fun hs he => (old p (by omega) hs).1 he
      · rw [putR_b, hrb, putR_o h3, hrow p h3]
        exact fun hs he => (old p (by omega) hs).2 he
      · rw [putR_o h3, hrow p h3, putR_o h4, hrow q h4]
        exact h.apart p q hpq hq
  · intro p hp
    rw [List.length_set] at hp
    rcases three p with rfl | rfl | h3
    · rw [putR_a, hra]; exact n1
    · rw [putR_b, hrb]; exact n2
    · rw [putR_o h3, hrow p h3]; exact h.off p hp
end

end Go.Proofs.Ytgklaobfikbiiaa

/- Walks of the laws' own helpers on buffers: equal buffers. -/
namespace Go.Proofs.Ytgklaobfikbiiaa
open Go.RowKit
set_option linter.unusedVariables false
set_option maxRecDepth 100000

end Go.Proofs.Ytgklaobfikbiiaa

/- Walks of the laws' own helpers on buffers: marks. -/
namespace Go.Proofs.Ytgklaobfikbiiaa
open Go.RowKit
set_option linter.unusedVariables false
set_option maxRecDepth 100000

end Go.Proofs.Ytgklaobfikbiiaa

/- Walks of the laws' own helpers on buffers: marks are written. -/
namespace Go.Proofs.Ytgklaobfikbiiaa
open Go.RowKit
set_option linter.unusedVariables false
set_option maxRecDepth 100000

section
variable {w w' : World} {lo : Nat} {ev : Value} {es : List Exp} {R : Nat → Value}
theorem expAt_setS (es : List Exp) (i : Nat) (e : Exp) (hi : i < es.length) : expAt (es.set i e) i = e := by rw [expAt_set es i e i hi, if_pos rfl]
theorem ExpR.storeN {a n c : Nat} (h : ExpR w lo (.slice (some ⟨a, 0, none⟩) n c) es R) (hn : n = es.length) (i j : Nat) (hi : i < es.length) (hj : j < 5) (x : Value) (e : Exp) (hs : e.s = (expAt es i).s) (ht : e.t = (expAt es i).t)
    (he : (eCells (expAt es i) (R (2 * i)) (R (2 * i + 1))).set j x = eCells e (R (2 * i)) (R (2 * i + 1))) : ExpR (w.setCell ⟨a, i * 5 + j, none⟩ x) lo (.slice (some ⟨a, 0, none⟩) n c) (es.set i e) R := by
  subst hn; exact h.store i j hi hj x e hs ht he
/-- whether it is open is written -/
theorem ExpR.markO {a n c : Nat} (h : ExpR w lo (.slice (some ⟨a, 0, none⟩) n c) es R) (hn : n = es.length) (i : Nat) (hi : i < es.length) (o : Bool) :
    ExpR (w.setCell ⟨a, i * 5 + 4, none⟩ (.bool o)) lo (.slice (some ⟨a, 0, none⟩) n c) (es.set i ⟨(expAt es i).par, (expAt es i).b, (expAt es i).s, (expAt es i).t, o⟩) R :=
  h.storeN hn i 4 hi (by omega) (.bool o) _ rfl rfl rfl
end
theorem grown_set (w : World) (a o : Nat) (x : Value) : w.grownBy (w.setCell ⟨a, o, none⟩ x) (some a) := by
  have hk : Chg a (a + 1) w (w.setCell ⟨a, o, none⟩ x) := Chg.setCell (p := ⟨a, o, none⟩) (Chg.refl _ _ _) (Nat.le_refl _) (Nat.lt_succ_self _) x
  exact ⟨hk.os, hk.tape, hk.output, hk.size, fun b hb hne => hk.block b hb (by
    rcases Nat.lt_or_ge b a with h | h
    · exact .inl h
    · exact .inr (by have : b ≠ a := fun h0 => hne (by rw [h0]); omega))⟩
/-- ints that lie elsewhere than exports -/
structure Aside (w : World) (lo : Nat) (ev : Value) (es : List Exp) (R : Nat → Value) (cv : Value) (xs : List Int) : Prop where
  own : OwnZ w lo cv xs
  len : xs.length ≤ 4194304
  row : xs ≠ [] → cv.ownBlock ≠ ev.ownBlock
  nest : ∀ p, p < 2 * es.length → rowAt es p ≠ [] → xs ≠ [] → (R p).ownBlock ≠ cv.ownBlock
theorem Aside.set {w : World} {lo a n c : Nat} {es : List Exp} {R : Nat → Value} {cv : Value} {xs : List Int} (h : Aside w lo (.slice (some ⟨a, 0, none⟩) n c) es R cv xs) (o : Nat) (x : Value) : Aside (w.setCell ⟨a, o, none⟩ x) lo (.slice (some ⟨a, 0, none⟩) n c) es R cv xs :=
  ⟨h.own.keptG h.len (grown_set w a o x) h.row, h.len, h.row, h.nest⟩
theorem Aside.kept {w w' : World} {lo : Nat} {ev : Value} {es : List Exp} {R : Nat → Value} {cv : Value} {xs : List Int} (h : Aside w lo ev es R cv xs) (p : Nat) (hp : p < 2 * es.length) (hg : w.grownBy w' (R p).ownBlock) (he : rowAt es p = [] → w = w') : Aside w' lo ev es R cv xs := by
  by_cases hr : rowAt es p = []
  · obtain rfl := he hr; exact h
  · exact ⟨h.own.keptG h.len hg (fun hx hh => h.nest p hp hr hx hh.symm), h.len, h.row, h.nest⟩
theorem Aside.ext {w w' : World} {lo : Nat} {ev : Value} {es : List Exp} {R : Nat → Value} {cv : Value} {xs : List Int} (h : Aside w lo ev es R cv xs) (hx : Ext w w') : Aside w' lo ev es R cv xs := ⟨h.own.ext hx, h.len, h.row, h.nest⟩
/-- all blocks of exports lie below hi -/
structure BelowE (hi : Nat) (ev : Value) (es : List Exp) (R : Nat → Value) : Prop where
  row : ∀ g, ev.ownBlock = some g → g < hi
  nest : ∀ p, p < 2 * es.length → rowAt es p ≠ [] → ∀ g, (R p).ownBlock = some g → g < hi
theorem ExpR.below {w : World} {lo : Nat} {ev : Value} {es : List Exp} {R : Nat → Value} (h : ExpR w lo ev es R) : BelowE w.heap.size ev es R :=
  ⟨fun g hg => (h.blk g hg).2, fun p hp hn g hg => (h.nest p hp).bound hn g hg⟩
/-- all blocks of a buffer lie below hi -/
structure BelowB (hi : Nat) (cv ev : Value) (cells : List Int) (es : List Exp) (R : Nat → Value) : Prop where
  cel : cells ≠ [] → ∀ g, cv.ownBlock = some g → g < hi
  ex : BelowE hi ev es R
theorem BufR.below {w : World} {lo : Nat} {cv ev : Value} {cells : List Int} {es : List Exp} {R : Nat → Value} (h : BufR w lo cv ev cells es R) : BelowB w.heap.size cv ev cells es R := ⟨h.cel.bound, h.ex.below⟩
theorem ExpR.keptG {w w' : World} {lo : Nat} {ev : Value} {es : List Exp} {R : Nat → Value} {row : Option Nat} (h : ExpR w lo ev es R) (hg : w.grownBy w' row) (h1 : ev.ownBlock = none ∨ ev.ownBlock ≠ row) (h2 : ∀ p, p < 2 * es.length → rowAt es p ≠ [] → (R p).ownBlock ≠ row) : ExpR w' lo ev es R :=
  ⟨h.row.kept hg h1, fun p hp => (h.nest p hp).keptG (h.lens p hp) hg (h2 p hp), h.lens, h.apart, h.off⟩
end Go.Proofs.Ytgklaobfikbiiaa

/- Answers that are buffers: plain words and laws. No condition. -/
namespace Go.Proofs.Ytgklaobfikbiiaa
open Go.RowKit
set_option linter.unusedVariables false
set_option maxRecDepth 100000

/-- a buffer with a bool -/
abbrev BBool := List Int × List Exp × Bool
def noBuf : BBool := ([], [], false)
def PBX (w : World) (x : BBool) : Ending → World → Prop := PBufB w x.1 x.2.1 x.2.2
theorem PBX.no {w w' : World} {x : BBool} (h : x = noBuf) (hx : Ext w w') : PBX w x (.returned (.tuple #[.agg #[.slice none 0 0, .slice none 0 0], .bool false])) w' := by
  subst h; exact PBufB.no hx
theorem PBX.yes {w w' : World} {x : BBool} {cells : List Int} {es : List Exp} {cv ev : Value} {R : Nat → Value} (h : x = (cells, es, true)) (hb : BufR w' w.heap.size cv ev cells es R) (hx : Ext w w') :
    PBX w x (.returned (.tuple #[.agg #[cv, ev], .bool true])) w' := by
  subst h; exact ⟨cv, ev, R, rfl, hb, hx⟩
theorem pbx_eq {w w0 : World} {x : BBool} {B : List Int} {S : List Exp} {o : Bool} {f : Nat} {args : Array Value} (he : x = (B, S, o)) (h : Calls Try.prog f args w (PBX w0 x)) : Calls Try.prog f args w (PBufB w0 B S o) := by subst he; exact h
/-- a buffer of few numbers -/
structure SmallB (x : BBool) : Prop where
  cl : x.1.length ≤ 60
  el : x.2.1.length ≤ 9
  rows : ∀ i, i < x.2.1.length → (expAt x.2.1 i).s.length ≤ 4 ∧ (expAt x.2.1 i).t.length ≤ 4
theorem SmallB.no {x : BBool} (h : x = noBuf) : SmallB x := by subst h; exact ⟨by simp [noBuf], by simp [noBuf], fun i hi => absurd hi (by simp [noBuf])⟩
theorem viewB_len {b : Int} {s t : List Int} (h : viewB b s t = true) : s.length ≤ 4 ∧ t.length ≤ 4 := by
  have h1 := viewB_in h
  have h2 := (shapeB_in h1.1).1
  have h3 := h1.2.1
  omega
theorem expsB_at {cells : List Int} {es : List Exp} {n : Nat} (h : expsB cells es n = true) (i : Nat) (hi : i < n) : expB cells es i = true := by
  unfold expsB at h
  rw [List.all_eq_true] at h
  exact h i (List.mem_range.2 hi)
theorem bufB_in {cells : List Int} {es : List Exp} (h : bufB cells es = true) : memB cells = true ∧ cells.length ≤ 60 ∧ es.length ≤ 8 ∧ ∀ i, i < es.length → expB cells es i = true := by
  unfold bufB at h
  simp only [Bool.and_eq_true, decide_eq_true_eq] at h
  have hm := h.1.1
  unfold memB at hm
  simp only [Bool.and_eq_true, decide_eq_true_eq] at hm
  exact ⟨h.1.1, hm.1, h.1.2, fun i hi => expsB_at h.2 i hi⟩
theorem expB_view {cells : List Int} {es : List Exp} {i : Nat} (h : expB cells es i = true) : viewB (expAt es i).b (expAt es i).s (expAt es i).t = true := by
  unfold expB at h
  simp only [Bool.and_eq_true] at h
  exact h.1.2
theorem expB_fit {cells : List Int} {es : List Exp} {i : Nat} (h : expB cells es i = true) (ho : (expAt es i).op = true) : fitB (expAt es i).b (expAt es i).s (expAt es i).t cells.length = true := by
  unfold expB at h
  simp only [Bool.and_eq_true, ho, Bool.not_true, Bool.false_or] at h
  exact h.2.1
theorem bufB_rows {cells : List Int} {es : List Exp} (h : bufB cells es = true) (i : Nat) (hi : i < es.length) : (expAt es i).s.length ≤ 4 ∧ (expAt es i).t.length ≤ 4 := viewB_len (expB_view ((bufB_in h).2.2.2 i hi))
theorem smallB_app {cells : List Int} {es : List Exp} (h : bufB cells es = true) (e : Exp) (hs : e.s.length ≤ 4) (ht : e.t.length ≤ 4) : SmallB (cells, es ++ [e], true) := by
  obtain ⟨-, h1, h2, -⟩ := bufB_in h
  refine ⟨h1, by simp; omega, fun i hi => ?_⟩
  simp only [List.length_append, List.length_singleton] at hi
  show (expAt (es ++ [e]) i).s.length ≤ 4 ∧ (expAt (es ++ [e]) i).t.length ≤ 4
  by_cases hq : i < es.length
  · rw [expAt_app1 hq]; exact bufB_rows h i hq
  · obtain rfl : i = es.length := by omega
    rw [expAt_app2]; exact ⟨hs, ht⟩
theorem opB_in {es : List Exp} {i : Int} (h : opB es i = true) : 0 ≤ i ∧ i.toNat < es.length ∧ (expAt es i.toNat).op = true := by
  unfold opB inB at h
  simp only [Bool.and_eq_true, decide_eq_true_eq] at h
  exact ⟨h.1.1, by omega, h.2⟩
/-- an open export of a valid buffer can be seen -/
theorem open_holds {cells : List Int} {es : List Exp} {i : Int} (h : bufB cells es = true) (ho : opB es i = true) : holdB cells (expAt es i.toNat).b (expAt es i.toNat).s (expAt es i.toNat).t = true := by
  obtain ⟨h1, -, -, h2⟩ := bufB_in h
  obtain ⟨-, o1, o2⟩ := opB_in ho
  have h3 := h2 _ o1
  unfold holdB
  rw [h1, expB_view h3, expB_fit h3 o2]; rfl
/-- ExportView -/
def expA (cells : List Int) (es : List Exp) (b : Int) (s t : List Int) : BBool :=
  if bufB cells es && (viewB b s t && (fitB b s t cells.length && decide (es.length < 8))) then (cells, es ++ [⟨-1, b, s, t, true⟩], true) else noBuf
/-- ReleaseExport -/
def relA (cells : List Int) (es : List Exp) (i : Int) : BBool :=
  if (bufB cells es && opB es i) && decide ((selL (kidP i) es es.length).length = 0) then (cells, es.set i.toNat { expAt es i.toNat with op := false }, true) else noBuf
/-- the first n numbers of a list, and 0 where there are none -/
def fitL (xs : List Int) (n : Nat) : List Int := xs.take n ++ List.replicate (n - xs.length) 0
theorem fitL_len (xs : List Int) (n : Nat) : (fitL xs n).length = n := by unfold fitL; simp; omega
/-- ResizeBuffer -/
def resA (cells : List Int) (es : List Exp) (n : Int) : BBool :=
  if bufB cells es && (inB 0 60 n && decide ((selL opP es es.length).length = 0)) then (fitL cells n.toNat, es, true) else noBuf
end Go.Proofs.Ytgklaobfikbiiaa

/- Walks: NewView of the reference: an empty row of strides has no capacity. -/
namespace Go.Proofs.Ytgklaobfikbiiaa
open Go.RowKit
set_option linter.unusedVariables false
set_option maxRecDepth 100000

def PViewE (w : World) (b : Int) (s t : List Int) (e : Ending) (w' : World) : Prop := PView w b s t e w' ∧ (t = [] → ∃ b' u a, e = .returned (.agg #[b', u, .slice a 0 0]))
/-- strides of an empty shape: none, and no capacity -/
theorem PViewE.open {w w' : World} {b : Int} {s t : List Int} {e : Ending} (h : PViewE w b s t e w') : ∃ (p1 p2 : Option Addr) (n1 r1 n2 r2 : Nat), e = .returned (.agg #[.int .i64 b, .slice p1 n1 r1, .slice p2 n2 r2]) ∧ OwnZ w' w.heap.size (.slice p1 n1 r1) s ∧ OwnZ w' w.heap.size (.slice p2 n2 r2) t ∧
    (s ≠ [] → t ≠ [] → (Value.slice p1 n1 r1).ownBlock ≠ (Value.slice p2 n2 r2).ownBlock) ∧ (t = [] → n2 = 0 ∧ r2 = 0) ∧ Ext w w' := by
  obtain ⟨⟨sh, st, rfl, -, -, o1, o2, od, x⟩, hE⟩ := h
  obtain ⟨p1, n1, r1, rfl⟩ := o1.form
  obtain ⟨p2, n2, r2, rfl⟩ := o2.form
  refine ⟨p1, p2, n1, r1, n2, r2, rfl, o1, o2, od, fun ht => ?_, x⟩
  obtain ⟨b', u, a, h⟩ := hE ht
  simp at h
  exact ⟨h.2.2.2.1, h.2.2.2.2⟩

end Go.Proofs.Ytgklaobfikbiiaa

/- Walks: a drawn view. -/
namespace Go.Proofs.Ytgklaobfikbiiaa
open Go.RowKit
set_option linter.unusedVariables false
set_option maxRecDepth 100000


theorem VAt.open {B g : Nat} {w : World} {b : Int} {u v : Value} {s t : List Int} (h : VAt B g w b u v s t) : ∃ a1 c1 a2 c2, u = .slice a1 s.length c1 ∧ v = .slice a2 t.length c2 := by
  obtain ⟨a1, c1, h1⟩ := (h.o1.ints (by have := h.le; omega)).form
  obtain ⟨a2, c2, h2⟩ := (h.o2.ints (by have := h.le; have := h.fit; omega)).form
  exact ⟨a1, c1, a2, c2, h1, h2⟩

end Go.Proofs.Ytgklaobfikbiiaa

/- Walks: a drawn view that may be no view. -/
namespace Go.Proofs.Ytgklaobfikbiiaa
open Go.RowKit
set_option linter.unusedVariables false
set_option maxRecDepth 100000


theorem OwnZ.chgI {lo hi B : Nat} {w w' : World} {y : Value} {xs : List Int} (h : OwnZ w B y xs) (k : Chg lo hi w w') (hne : xs ≠ [] → ∀ g, y.ownBlock = some g → g < lo ∨ hi ≤ g) : OwnZ w' B y xs := by
  rcases h with ho | ho
  · exact .inl ho
  · by_cases hx : xs = []
    · subst hx
      rcases ho.2 with ⟨h2, _⟩ | ⟨g', cap, cur, rfl, hb, hh, r⟩
      · subst h2; exact .inl ⟨rfl, none, 0, rfl, by simp, fun _ => rfl⟩
      · exact .inl ⟨rfl, some ⟨g', 0, none⟩, cap, rfl, r.2.1, fun h => by cases h⟩
    · obtain ⟨g', cap, e, _⟩ := ho.row hx
      subst e
      exact .inr (ho.chgN k (hne hx g' rfl))
theorem Rch.below' {rb lo hi : Nat} {w a b : World} (h : Chg rb (rb + 1) w a) (k : Chg lo hi a b) (hl : w.heap.size ≤ lo) : Chg rb (rb + 1) w b :=
  ⟨k.os.trans h.os, k.tape.trans h.tape, k.output.trans h.output, Nat.le_trans h.size k.size, fun i hi2 hd => (k.block i (Nat.lt_of_lt_of_le hi2 h.size) (.inl (by omega))).trans (h.block i hi2 hd)⟩
/-- a view that need be none lies in block gv -/
def SAt (rb q gv : Nat) (w wx : World) : Prop := ∃ (b : Int) (s t : List Int) (p1 p2 : Option Addr) (n1 r1 n2 r2 : Nat), wx.cell? ⟨gv, 0, none⟩ = some (.int .i64 b) ∧ wx.cell? ⟨gv, 1, none⟩ = some (.slice p1 n1 r1) ∧ wx.cell? ⟨gv, 2, none⟩ = some (.slice p2 n2 r2) ∧
  OwnZ wx (w.heap.size + 1) (.slice p1 n1 r1) s ∧ OwnZ wx (w.heap.size + 1) (.slice p2 n2 r2) t ∧ (s.length ≤ 4 ∧ t.length ≤ 5) ∧ VAt (w.heap.size + 1) w.heap.size wx 0 (.slice none 0 0) (.slice none 0 0) [] [] ∧ Rd wx rb q ∧ Rch rb w wx
theorem SAt.of {rb q gv : Nat} {w wx : World} {b : Int} {p1 p2 : Option Addr} {n1 r1 n2 r2 : Nat} {s t : List Int} (V : VAt (w.heap.size + 1) gv wx b (.slice p1 n1 r1) (.slice p2 n2 r2) s t) (Q : VAt (w.heap.size + 1) w.heap.size wx 0 (.slice none 0 0) (.slice none 0 0) [] []) (hr : Rd wx rb q) (X : Rch rb w wx) : SAt rb q gv w wx :=
  ⟨b, s, t, p1, p2, n1, r1, n2, r2, V.c0, V.c1, V.c2, V.o1, V.o2, ⟨V.le, by have := V.fit; have := V.le; omega⟩, Q, hr, X⟩
theorem SAt.put {rb q gv : Nat} {w w9 : World} {b : Int} {p1 p2 : Option Addr} {n1 r1 n2 r2 : Nat} {v2 : Value} {s t : List Int} (c0 : w9.cell? ⟨gv, 0, none⟩ = some (.int .i64 b)) (c1 : w9.cell? ⟨gv, 1, none⟩ = some (.slice p1 n1 r1)) (c2 : w9.cell? ⟨gv, 2, none⟩ = some v2) (f2 : w9.frozen? ⟨gv, 2, none⟩ = false)
    (o1 : OwnZ w9 (w.heap.size + 1) (.slice p1 n1 r1) s) (o2 : OwnZ w9 (w.heap.size + 1) (.slice p2 n2 r2) t) (m1 : s ≠ [] → ∀ g, (Value.slice p1 n1 r1).ownBlock = some g → g ≠ gv) (m2 : ∀ g, (Value.slice p2 n2 r2).ownBlock = some g → g ≠ gv) (hl : s.length ≤ 4 ∧ t.length ≤ 5)
    (Q : VAt (w.heap.size + 1) w.heap.size w9 0 (.slice none 0 0) (.slice none 0 0) [] []) (hr : Rd w9 rb q) (X : Rch rb w w9) (hg : w.heap.size < gv) (hrb : rb < w.heap.size) : SAt rb q gv w (w9.setCell ⟨gv, 2, none⟩ (.slice p2 n2 r2)) := by
  have k : Chg gv (gv + 1) w9 (w9.setCell ⟨gv, 2, none⟩ (.slice p2 n2 r2)) := (Chg.refl gv (gv + 1) w9).setCell (p := ⟨gv, 2, none⟩) (Nat.le_refl _) (Nat.lt_succ_self _) _
  exact ⟨b, s, t, p1, p2, n1, r1, n2, r2, by go_simp, by go_simp, by go_simp, o1.chgI k (fun h g hg' => by have := m1 h g hg'; omega), o2.chgI k (fun _ g hg' => by have := m2 g hg'; omega), hl,
    Q.chgB k (by omega) (fun h => absurd rfl h) (fun h => absurd rfl h), Rd.set2 (show rb < gv by omega) hr, X.set (show w.heap.size ≤ gv by omega) _⟩

end Go.Proofs.Ytgklaobfikbiiaa

/- Words for memory: buffers with one export more, with an export closed, with other cells. No condition. -/
namespace Go.Proofs.Ytgklaobfikbiiaa
open Go.RowKit
set_option linter.unusedVariables false
set_option maxRecDepth 100000

theorem chg_row {w w' : World} {o : Obj} {lo hi : Nat} {row : Option Nat} (hg : (w.alloc o).grownBy w' row) (hr : ∀ g, row = some g → lo ≤ g ∧ g < hi) : Chg lo hi w w' :=
  ⟨hg.os, hg.tape, hg.output, by have := hg.size; simp at this; omega, fun k hk hd => by
    have h1 := hg.block k (by simp; omega) (fun h => by have := hr k h.symm; omega)
    rw [h1]
    exact ((Ext.refl w).alloc o).block k hk⟩
section
variable {w w' W : World} {lo lo2 : Nat} {cv ev v' : Value} {cells : List Int} {es : List Exp} {R : Nat → Value} {e : Exp} {u1 u2 : Value}
theorem BufR.appG (h : BufR W lo cv ev cells es R) (hl : lo2 ≤ lo) (hE : ExpR w' lo2 v' (es ++ [e]) (extR R es.length u1 u2)) (hn : es.length + 1 ≤ 1048576)
    (c1 : e.s ≠ [] → cells ≠ [] → u1.ownBlock ≠ cv.ownBlock) (c2 : e.t ≠ [] → cells ≠ [] → u2.ownBlock ≠ cv.ownBlock)
    (hg : W.grownBy w' ev.ownBlock) (hv : v'.ownBlock = ev.ownBlock ∨ v'.ownBlock = some W.heap.size) : BufR w' lo2 cv v' cells (es ++ [e]) (extR R es.length u1 u2) := by
  refine ⟨(h.cel.lower hl).keptG h.cl hg h.offc, hE, h.cl, by simpa using hn, fun hc => ?_, fun p hp hs hc => ?_, h.cz⟩
  · rcases hv with hv | hv
    · rw [hv]; exact h.offc hc
    · obtain ⟨g, hg1, -, hlt⟩ := h.cel.lt hc
      rw [hg1, hv]
      intro h2
      have := Option.some.inj h2
      omega
  · have hpl : p < 2 * es.length ∨ p = 2 * es.length ∨ p = 2 * es.length + 1 := by
      rw [List.length_append, List.length_singleton] at hp; omega
    rcases hpl with hp | rfl | rfl
    · rw [extR_old hp]; rw [rowAt_app hp] at hs; exact h.offr p hp hs hc
    · rw [extR_a]; rw [rowAt_even, expAt_app2] at hs; exact c1 hs hc
    · rw [extR_b]; rw [rowAt_odd, expAt_app2] at hs; exact c2 hs hc
/-- one export more, whose rows came up before the buffer -/
theorem BufR.app (h : BufR W lo cv ev cells es R) (hl : lo2 ≤ lo) (o1 : OwnZ W lo2 u1 e.s) (o2 : OwnZ W lo2 u2 e.t) (l1 : e.s.length ≤ 4194304) (l2 : e.t.length ≤ 4194304)
    (hd : e.s ≠ [] → e.t ≠ [] → u1.ownBlock ≠ u2.ownBlock) (m1 : e.s ≠ [] → ∀ g, u1.ownBlock = some g → g < lo) (m2 : e.t ≠ [] → ∀ g, u2.ownBlock = some g → g < lo) (hn : es.length + 1 ≤ 1048576)
    (h1 : OwnC w' lo TEXPORT 5 v' (cellsE es R ++ [eCells e u1 u2])) (hg : W.grownBy w' ev.ownBlock) (hv : v'.ownBlock = ev.ownBlock ∨ v'.ownBlock = some W.heap.size) :
    BufR w' lo2 cv v' cells (es ++ [e]) (extR R es.length u1 u2) := by
  refine h.appG hl (h.ex.snocB hl o1 o2 l1 l2 hd m1 m2 h1 hg hv) hn ?_ ?_ hg hv
  · intro hs hc h2
    obtain ⟨g, hg1, hb, -⟩ := h.cel.lt hc
    have := m1 hs g (by rw [h2]; exact hg1); omega
  · intro hs hc h2
    obtain ⟨g, hg1, hb, -⟩ := h.cel.lt hc
    have := m2 hs g (by rw [h2]; exact hg1); omega
/-- one export more, whose rows came up later -/
theorem BufR.appL (h0 : BufR w lo cv ev cells es R) (hx : Ext w W) (o1 : OwnZ W lo u1 e.s) (o2 : OwnZ W lo u2 e.t) (l1 : e.s.length ≤ 4194304) (l2 : e.t.length ≤ 4194304)
    (hd : e.s ≠ [] → e.t ≠ [] → u1.ownBlock ≠ u2.ownBlock) (m1 : e.s ≠ [] → ∀ g, u1.ownBlock = some g → w.heap.size ≤ g) (m2 : e.t ≠ [] → ∀ g, u2.ownBlock = some g → w.heap.size ≤ g) (hn : es.length + 1 ≤ 1048576)
    (h1 : OwnC w' lo TEXPORT 5 v' (cellsE es R ++ [eCells e u1 u2])) (hg : W.grownBy w' ev.ownBlock) (hv : v'.ownBlock = ev.ownBlock ∨ v'.ownBlock = some W.heap.size) :
    BufR w' lo cv v' cells (es ++ [e]) (extR R es.length u1 u2) := by
  refine (h0.ext hx).appG (Nat.le_refl _) (h0.ex.snoc hx o1 o2 l1 l2 hd m1 m2 h1 hg hv) hn ?_ ?_ hg hv
  · intro hs hc h2
    obtain ⟨g, hg1, hb, hlt⟩ := h0.cel.lt hc
    have := m1 hs g (by rw [h2]; exact hg1); omega
  · intro hs hc h2
    obtain ⟨g, hg1, hb, hlt⟩ := h0.cel.lt hc
    have := m2 hs g (by rw [h2]; exact hg1); omega
/-- an export is opened or closed -/
theorem BufR.close {a n c : Nat} (h : BufR w lo cv (.slice (some ⟨a, 0, none⟩) n c) cells es R) (hn : n = es.length) (i : Nat) (hi : i < es.length) (o : Bool) :
    BufR (w.setCell ⟨a, i * 5 + 4, none⟩ (.bool o)) lo cv (.slice (some ⟨a, 0, none⟩) n c) cells (es.set i ⟨(expAt es i).par, (expAt es i).b, (expAt es i).s, (expAt es i).t, o⟩) R := by
  refine ⟨h.cel.keptG h.cl (grown_set w a _ _) h.offc, h.ex.markO hn i hi o, h.cl, by simpa using h.el, h.offc, fun p hp hs hc => ?_, h.cz⟩
  rw [List.length_set] at hp
  refine h.offr p hp (fun h2 => hs ?_) hc
  unfold rowAt at h2 ⊢
  by_cases hq : p / 2 = i
  · subst hq; rw [expAt_setS es _ _ hi]; exact h2
  · rw [expAt_set es i _ _ hi, if_neg hq]; exact h2
/-- other cells, that came up before the buffer -/
theorem BufR.cellsB {cv2 : Value} {c2 : List Int} (h : BufR w lo cv ev cells es R) (hl : lo2 ≤ lo) (o : OwnZ w lo2 cv2 c2) (z : CapZ cv2 c2) (hc : c2.length ≤ 4194304) (m : c2 ≠ [] → ∀ g, cv2.ownBlock = some g → g < lo) : BufR w lo2 cv2 ev c2 es R := by
  refine ⟨o, h.ex.lower hl, hc, h.el, fun hn h2 => ?_, fun p hp hs hn h2 => ?_, z⟩
  · obtain ⟨g, hg1, -, -⟩ := o.lt hn
    have := (h.ex.blk g (by rw [← h2]; exact hg1)).1
    have := m hn g hg1
    omega
  · obtain ⟨g, hg1, hb, -⟩ := h.ex.nblk p hp hs
    have := m hn g (by rw [← h2]; exact hg1)
    omega
end
/-- where the rows of a buffer lie -/
structure BufAt (P : Nat → Prop) (cv ev : Value) (cells : List Int) (es : List Exp) (R : Nat → Value) : Prop where
  c : cells ≠ [] → ∀ g, cv.ownBlock = some g → P g
  e : ∀ g, ev.ownBlock = some g → P g
  r : ∀ p, p < 2 * es.length → rowAt es p ≠ [] → ∀ g, (R p).ownBlock = some g → P g
/-- a buffer in rows below m, from lo up to m2, and from lo3 on -/
structure BufS (w : World) (lo2 m lo m2 lo3 : Nat) (cv ev : Value) (cells : List Int) (es : List Exp) (R : Nat → Value) : Prop where
  buf : BufR w lo2 cv ev cells es R
  loc : BufAt (fun g => g < m ∨ (lo ≤ g ∧ g < m2) ∨ lo3 ≤ g) cv ev cells es R
section
variable {w w' W : World} {lo lo2 m m2 lo3 : Nat} {cv ev v' : Value} {cells : List Int} {es : List Exp} {R : Nat → Value} {e : Exp} {u1 u2 : Value}
theorem BufR.at (h : BufR w lo cv ev cells es R) : BufAt (fun g => lo ≤ g ∧ g < w.heap.size) cv ev cells es R :=
  ⟨fun hc g hg => by obtain ⟨g', h1, h2, h3⟩ := h.cel.lt hc; rw [hg] at h1; cases h1; exact ⟨h2, h3⟩, fun g hg => h.ex.blk g hg,
   fun p hp hs g hg => by obtain ⟨g', h1, h2, h3⟩ := h.ex.nblk p hp hs; rw [hg] at h1; cases h1; exact ⟨h2, h3⟩⟩
theorem OwnC.chgO {base E sz l hi : Nat} {v : Value} {L : List (List Value)} (h : OwnC w base E sz v L) (k : Chg l hi w w') (hb : ∀ g, v.ownBlock = some g → g < l ∨ hi ≤ g) : OwnC w' base E sz v L := by
  refine ⟨⟨h.1.1, ?_⟩, h.2⟩
  rcases h.1.2 with h2 | ⟨g, cap, cur, hv, hg, hh, r⟩
  · exact .inl h2
  · exact .inr ⟨g, cap, cur, hv, hg, (k.block g (Array.getElem?_eq_some_iff.1 hh).1 (hb g (by rw [hv]; rfl))).trans hh, r⟩
theorem BufR.chgO {l hi : Nat} {P : Nat → Prop} (h : BufR w lo cv ev cells es R) (q : BufAt P cv ev cells es R) (k : Chg l hi w w') (hP : ∀ g, P g → g < l ∨ hi ≤ g) : BufR w' lo cv ev cells es R :=
  ⟨h.cel.chgI k (fun hn g hg => hP g (q.c hn g hg)), ⟨h.ex.row.chgO k (fun g hg => hP g (q.e g hg)), fun p hp => (h.ex.nest p hp).chgI k (fun hn g hg => hP g (q.r p hp hn g hg)), h.ex.lens, h.ex.apart, h.ex.off⟩, h.cl, h.el, h.offc, h.offr, h.cz⟩
theorem BufS.chg {l hi : Nat} (h : BufS w lo2 m lo m2 lo3 cv ev cells es R) (k : Chg l hi w w') (hb : m ≤ l ∧ (hi ≤ lo ∨ m2 ≤ l) ∧ hi ≤ lo3) : BufS w' lo2 m lo m2 lo3 cv ev cells es R :=
  ⟨h.buf.chgO h.loc k (fun g hg => by rcases hg with hg | hg | hg <;> omega), h.loc⟩
theorem BufS.ext (h : BufS w lo2 m lo m2 lo3 cv ev cells es R) (hx : Ext w w') : BufS w' lo2 m lo m2 lo3 cv ev cells es R := ⟨h.buf.ext hx, h.loc⟩
theorem BufS.ints (h : BufS w lo2 m lo m2 lo3 cv ev cells es R) : Ints w lo2 cv cells := h.buf.ints
theorem BufS.exps (h : BufS w lo2 m lo m2 lo3 cv ev cells es R) : Exps w lo2 ev es := h.buf.exps
theorem BufS.mk' (hS : BufR w' lo2 cv v' cells (es ++ [e]) (extR R es.length u1 u2)) (q : BufAt (fun g => lo ≤ g ∧ g < m2) cv ev cells es R) (c1 : e.s ≠ [] → ∀ g, u1.ownBlock = some g → g < m ∨ lo3 ≤ g) (c2 : e.t ≠ [] → ∀ g, u2.ownBlock = some g → g < m ∨ lo3 ≤ g)
    (hv : v'.ownBlock = ev.ownBlock ∨ v'.ownBlock = some W.heap.size) (hw : lo3 ≤ W.heap.size) : BufS w' lo2 m lo m2 lo3 cv v' cells (es ++ [e]) (extR R es.length u1 u2) := by
  refine ⟨hS, fun hc g hg => .inr (.inl (q.c hc g hg)), fun g hg => ?_, fun p hp hs g hg => ?_⟩
  · rcases hv with hv | hv
    · rw [hv] at hg; exact .inr (.inl (q.e g hg))
    · rw [hv] at hg; cases hg; exact .inr (.inr hw)
  · have hpl : p < 2 * es.length ∨ p = 2 * es.length ∨ p = 2 * es.length + 1 := by
      rw [List.length_append, List.length_singleton] at hp; omega
    rcases hpl with hp | rfl | rfl
    · rw [extR_old hp] at hg; rw [rowAt_app hp] at hs; exact .inr (.inl (q.r p hp hs g hg))
    · rw [extR_a] at hg; rw [rowAt_even, expAt_app2] at hs; rcases c1 hs g hg with h | h; exact .inl h; exact .inr (.inr h)
    · rw [extR_b] at hg; rw [rowAt_odd, expAt_app2] at hs; rcases c2 hs g hg with h | h; exact .inl h; exact .inr (.inr h)
/-- other cells, that came up later than the buffer's rows -/
theorem BufR.cellsQ {cv2 : Value} {c2 : List Int} (h : BufR W lo cv ev cells es R) (hl : lo2 ≤ lo) (q : BufAt (fun g => lo3 ≤ g ∧ g < m2) cv ev cells es R) (o : OwnZ W lo2 cv2 c2) (z : CapZ cv2 c2) (hc : c2.length ≤ 4194304) (m : c2 ≠ [] → ∀ g, cv2.ownBlock = some g → m2 ≤ g) : BufR W lo2 cv2 ev c2 es R := by
  refine ⟨o, h.ex.lower hl, hc, h.el, fun hn h2 => ?_, fun p hp hs hn h2 => ?_, z⟩
  · obtain ⟨g, hg1, -, -⟩ := o.lt hn
    have := (q.e g (by rw [← h2]; exact hg1)).2
    have := m hn g hg1
    omega
  · obtain ⟨g, hg1, -, -⟩ := o.lt hn
    have := (q.r p hp hs g (by rw [h2]; exact hg1)).2
    have := m hn g hg1
    omega
end
/-- a buffer in rows from lo up to m2 -/
structure BufT (w : World) (lo m2 : Nat) (cv ev : Value) (cells : List Int) (es : List Exp) (R : Nat → Value) : Prop where
  buf : BufR w lo cv ev cells es R
  loc : BufAt (fun g => lo ≤ g ∧ g < m2) cv ev cells es R
section
variable {w w' : World} {lo m2 : Nat} {cv ev : Value} {cells : List Int} {es : List Exp} {R : Nat → Value}
theorem BufT.of (h : BufR w lo cv ev cells es R) (q : BufAt (fun g => lo ≤ g ∧ g < m2) cv ev cells es R) : BufT w lo m2 cv ev cells es R := ⟨h, q⟩
theorem BufT.ext (h : BufT w lo m2 cv ev cells es R) (hx : Ext w w') : BufT w' lo m2 cv ev cells es R := ⟨h.buf.ext hx, h.loc⟩
theorem BufT.chg {l hi : Nat} (h : BufT w lo m2 cv ev cells es R) (k : Chg l hi w w') (hb : hi ≤ lo ∨ m2 ≤ l) : BufT w' lo m2 cv ev cells es R := ⟨h.buf.chgO h.loc k (fun g hg => by omega), h.loc⟩
theorem BufT.ints (h : BufT w lo m2 cv ev cells es R) : Ints w lo cv cells := h.buf.ints
theorem BufT.exps (h : BufT w lo m2 cv ev cells es R) : Exps w lo ev es := h.buf.exps
end
end Go.Proofs.Ytgklaobfikbiiaa

/- Walks: ReleaseExport of both. -/
namespace Go.Proofs.Ytgklaobfikbiiaa
open Go.RowKit
set_option linter.unusedVariables false
set_option maxRecDepth 100000

set_option maxHeartbeats 3200000 in
theorem specReleaseExport_c (cells : List Int) (es : List Exp) (cv ev : Value) (i : Int) (w : World) (l1 l2 : Nat) (h1 : Ints w l1 cv cells) (h2 : Exps w l2 ev es) :
    Calls Try.prog 32 #[.agg #[cv, ev], .int .i64 i] w (PBX w (relA cells es i)) := by
  obtain ⟨p0, c0, rfl⟩ := h1.form
  obtain ⟨p1, c1, rfl⟩ := h2.form
  have he1 := h2.len
  have hc1 := h1.len
  go_enter Try.func32, Try.ntmps32
  go_wp2_with fail
  refine (validBuffer_c cells es (.slice p0 cells.length c0) (.slice p1 es.length c1) _ _ _ (h1.ext qXt) (h2.ext qXt)).mono ?_
  rintro e w1 ⟨rfl, xw1⟩
  have Lw1 : Ext w w1 := Ext.trans qXt xw1
  have Xw1 : Ext w w1 := Lw1
  have b10 : w1.cell? ⟨w.heap.size, 0, none⟩ = some (.slice p0 cells.length c0) := xw1.cell qCl
  have b11 : w1.cell? ⟨w.heap.size, 1, none⟩ = some (.slice p1 es.length c1) := xw1.cell qCl
  have b20 : w1.cell? ⟨w.heap.size + 1, 0, none⟩ = some (.slice none 0 0) := xw1.cell qCl
  have b21 : w1.cell? ⟨w.heap.size + 1, 1, none⟩ = some (.slice none 0 0) := xw1.cell qCl
  have f_b20 : w1.frozen? ⟨w.heap.size + 1, 0, none⟩ = false := xw1.frz (by simp <;> omega) qFz
  have f_b21 : w1.frozen? ⟨w.heap.size + 1, 1, none⟩ = false := xw1.frz (by simp <;> omega) qFz
  have z_b1 : w.heap.size < w1.heap.size := qB b10
  have z_b2 : w.heap.size + 1 < w1.heap.size := qB b20
  have s_w1 : w.heap.size ≤ w1.heap.size := Xw1.size
  clear xw1
  cases hB3 : bufB cells es
  · replace hB3 := Lib.hid hB3
    go_wp2_with fail
    generalize hW6 : ((w1.setCell ⟨w.heap.size + 1, 0, none⟩ (.slice none 0 0)).setCell ⟨w.heap.size + 1, 1, none⟩ (.slice none 0 0)) = w2 at *
    have Kw2 : Chg (w.heap.size + 1) (w.heap.size + 1 + 1) w1 w2 := by subst hW6; exact qCh
    have Xw2 : Ext w w2 := by subst hW6; exact qXt
    replace b10 := Kw2.cell (by omega) b10
    replace b11 := Kw2.cell (by omega) b11
    replace b20 : w2.cell? ⟨w.heap.size + 1, 0, none⟩ = some (.slice none 0 0) := by subst hW6; go_simp
    replace f_b20 : w2.frozen? ⟨w.heap.size + 1, 0, none⟩ = false := by subst hW6; first | (simp only [World.frozen?_setCell]; with_reducible assumption) | go_simp
    replace b21 : w2.cell? ⟨w.heap.size + 1, 1, none⟩ = some (.slice none 0 0) := by subst hW6; go_simp
    replace f_b21 : w2.frozen? ⟨w.heap.size + 1, 1, none⟩ = false := by subst hW6; first | (simp only [World.frozen?_setCell]; with_reducible assumption) | go_simp
    clear Kw2
    have z_b1 : w.heap.size < w2.heap.size := qB b10
    have z_b2 : w.heap.size + 1 < w2.heap.size := qB b20
    have s_w2 : w.heap.size ≤ w2.heap.size := Xw2.size
    clear hW6
    refine bodyPost_ret (v := .tuple #[.agg #[.slice none 0 0, .slice none 0 0], .bool false]) (by simp only [results, Try.results32]; go_simp) rfl ?_
    exact PBX.no (by unfold relA; rw [(show (bufB cells es && opB es i) = false by rw [hB3.out]; rfl), Bool.false_and]; rfl) (Xw2.trans qXt)
  · replace hB3 := Lib.hid hB3
    have hbb : Hid (bufB cells es = true) := Lib.hid hB3.out
    go_wp2_with fail
    refine (specIsOpen_c cells es (.slice p0 cells.length c0) (.slice p1 es.length c1) i _ _ _ (h1.ext (Xw1.trans qXt)) (h2.ext (Xw1.trans qXt))).mono ?_
    rintro e w2 ⟨rfl, xw2⟩
    have Lw2 : Ext w1 w2 := Ext.trans qXt xw2
    have Xw2 : Ext w w2 := Xw1.trans Lw2
    replace b10 := Lw2.cell b10
    replace b11 := Lw2.cell b11
    replace b20 := Lw2.cell b20
    replace b21 := Lw2.cell b21
    replace f_b20 := Lw2.frz z_b2 f_b20
    replace f_b21 := Lw2.frz z_b2 f_b21
    have z_b1 : w.heap.size < w2.heap.size := qB b10
    have z_b2 : w.heap.size + 1 < w2.heap.size := qB b20
    have s_w2 : w.heap.size ≤ w2.heap.size := Xw2.size
    clear xw2
    cases hB4 : opB es i
    · replace hB4 := Lib.hid hB4
      go_wp2_with fail
      generalize hW7 : ((w2.setCell ⟨w.heap.size + 1, 0, none⟩ (.slice none 0 0)).setCell ⟨w.heap.size + 1, 1, none⟩ (.slice none 0 0)) = w3 at *
      have Kw3 : Chg (w.heap.size + 1) (w.heap.size + 1 + 1) w2 w3 := by subst hW7; exact qCh
      have Xw3 : Ext w w3 := by subst hW7; exact qXt
      replace b10 := Kw3.cell (by omega) b10
      replace b11 := Kw3.cell (by omega) b11
      replace b20 : w3.cell? ⟨w.heap.size + 1, 0, none⟩ = some (.slice none 0 0) := by subst hW7; go_simp
      replace f_b20 : w3.frozen? ⟨w.heap.size + 1, 0, none⟩ = false := by subst hW7; first | (simp only [World.frozen?_setCell]; with_reducible assumption) | go_simp
      replace b21 : w3.cell? ⟨w.heap.size + 1, 1, none⟩ = some (.slice none 0 0) := by subst hW7; go_simp
      replace f_b21 : w3.frozen? ⟨w.heap.size + 1, 1, none⟩ = false := by subst hW7; first | (simp only [World.frozen?_setCell]; with_reducible assumption) | go_simp
      clear Kw3
      have z_b1 : w.heap.size < w3.heap.size := qB b10
      have z_b2 : w.heap.size + 1 < w3.heap.size := qB b20
      have s_w3 : w.heap.size ≤ w3.heap.size := Xw3.size
      clear hW7
      refine bodyPost_ret (v := .tuple #[.agg #[.slice none 0 0, .slice none 0 0], .bool false]) (by simp only [results, Try.results32]; go_simp) rfl ?_
      exact PBX.no (by unfold relA; rw [(show (bufB cells es && opB es i) = false by rw [hB4.out, Bool.and_false]), Bool.false_and]; rfl) (Xw3.trans qXt)
    · replace hB4 := Lib.hid hB4
      have hop : Hid (opB es i = true) := Lib.hid hB4.out
      obtain ⟨hi0, hi1, hi2⟩ := opB_in hop.out
      obtain ⟨k, rfl⟩ : ∃ k : Nat, i = k := ⟨i.toNat, by omega⟩
      have hlt : k < es.length := by omega
      have hesne : Hid (es ≠ []) := Lib.hid (fun h => by rw [h] at hlt; exact absurd hlt (by simp))
      replace hi2 := Lib.hid hi2
      have hka : Hid (kidsA cells es (k : Int) = selL (kidP (k : Int)) es es.length) := Lib.hid (by unfold kidsA; rw [hbb.out, decide_eq_true (show (-1 : Int) ≤ (k : Int) by omega), decide_eq_true (show (k : Int) < (es.length : Int) by omega)]; rfl)
      go_wp2_with fail
      refine (kids_c cells es (.slice p0 cells.length c0) (.slice p1 es.length c1) (k : Int) _ _ _ (h1.ext (Xw2.trans qXt)) (h2.ext (Xw2.trans qXt))).mono ?_
      rintro e w3 ⟨fv5, rfl, i6, -, xw3⟩
      have Lw3 : Ext w2 w3 := Ext.trans qXt xw3
      have Xw3 : Ext w w3 := Xw2.trans Lw3
      replace b10 := Lw3.cell b10
      replace b11 := Lw3.cell b11
      replace b20 := Lw3.cell b20
      replace b21 := Lw3.cell b21
      replace f_b20 := Lw3.frz z_b2 f_b20
      replace f_b21 := Lw3.frz z_b2 f_b21
      have z_b1 : w.heap.size < w3.heap.size := qB b10
      have z_b2 : w.heap.size + 1 < w3.heap.size := qB b20
      have s_w3 : w.heap.size ≤ w3.heap.size := Xw3.size
      clear xw3
      obtain ⟨afv5, cfv5, rfl⟩ := i6.form
      by_cases hc7 : (0 : Int) < ((selL (kidP (k : Int)) es es.length).length : Int)
      · go_wp2_with fail
        generalize hW8 : ((w3.setCell ⟨w.heap.size + 1, 0, none⟩ (.slice none 0 0)).setCell ⟨w.heap.size + 1, 1, none⟩ (.slice none 0 0)) = w4 at *
        have Kw4 : Chg (w.heap.size + 1) (w.heap.size + 1 + 1) w3 w4 := by subst hW8; exact qCh
        have Xw4 : Ext w w4 := by subst hW8; exact qXt
        replace b10 := Kw4.cell (by omega) b10
        replace b11 := Kw4.cell (by omega) b11
        replace b20 : w4.cell? ⟨w.heap.size + 1, 0, none⟩ = some (.slice none 0 0) := by subst hW8; go_simp
        replace f_b20 : w4.frozen? ⟨w.heap.size + 1, 0, none⟩ = false := by subst hW8; first | (simp only [World.frozen?_setCell]; with_reducible assumption) | go_simp
        replace b21 : w4.cell? ⟨w.heap.size + 1, 1, none⟩ = some (.slice none 0 0) := by subst hW8; go_simp
        replace f_b21 : w4.frozen? ⟨w.heap.size + 1, 1, none⟩ = false := by subst hW8; first | (simp only [World.frozen?_setCell]; with_reducible assumption) | go_simp
        replace i6 := i6.chg Kw4 (by omega)
        clear Kw4
        have z_b1 : w.heap.size < w4.heap.size := qB b10
        have z_b2 : w.heap.size + 1 < w4.heap.size := qB b20
        have s_w4 : w.heap.size ≤ w4.heap.size := Xw4.size
        clear hW8
        refine bodyPost_ret (v := .tuple #[.agg #[.slice none 0 0, .slice none 0 0], .bool false]) (by simp only [results, Try.results32]; go_simp) rfl ?_
        exact PBX.no (by unfold relA; rw [decide_eq_false (show ¬ (selL (kidP (k : Int)) es es.length).length = 0 by omega), Bool.and_false]; rfl) (Xw4.trans qXt)
      · go_wp2_with fail
        have Q11_b10 := Lib.hid b10
        have Q11_b11 := Lib.hid b11
        have Q11_zb1 := z_b1
        have Q11_b20 := Lib.hid b20
        have Q11_f_b20 := Lib.hid f_b20
        have Q11_b21 := Lib.hid b21
        have Q11_f_b21 := Lib.hid f_b21
        have Q11_zb2 := z_b2
        have Q11_i6 := Lib.hid i6
        have BL12 : Ext w3 w3 := Ext.refl _
        refine (specCopyBuffer_c cells es (.slice p0 cells.length c0) (.slice p1 es.length c1) _ _ _ (h1.ext (Xw3.trans qXt)) (h2.ext (Xw3.trans qXt))).mono ?_
        rintro e w4 ⟨cvfb9, evfb9, R10, rfl, bf8, xw4⟩
        have Lw4 : Ext w3 w4 := Ext.trans qXt xw4
        have Xw4 : Ext w w4 := Xw3.trans Lw4
        replace b10 := Lw4.cell b10
        replace b11 := Lw4.cell b11
        replace b20 := Lw4.cell b20
        replace b21 := Lw4.cell b21
        replace f_b20 := Lw4.frz z_b2 f_b20
        replace f_b21 := Lw4.frz z_b2 f_b21
        have z_b1 : w.heap.size < w4.heap.size := qB b10
        have z_b2 : w.heap.size + 1 < w4.heap.size := qB b20
        replace i6 := i6.ext Lw4
        have s_w4 : w.heap.size ≤ w4.heap.size := Xw4.size
        have BL12_w4 : Ext w3 w4 := BL12.trans Lw4
        clear xw4
        replace bf8 := bf8.lower (lo' := w3.heap.size) qSo
        obtain ⟨afb9, cfb9, rfl⟩ := bf8.ints.form
        obtain ⟨efb9, dfb9, rfl⟩ := bf8.exps.form
        have q_bf8 := Lib.hid bf8.at
        go_wp2_with fail
        generalize hW9 : w4.alloc (.cells #[.slice afb9 cells.length cfb9, .slice efb9 es.length dfb9] 26) = w5 at *
        have Lw5 : Ext w4 w5 := by subst hW9; exact qXt
        have Xw5 : Ext w w5 := Xw4.trans Lw5
        replace b10 := Lw5.cell b10
        replace b11 := Lw5.cell b11
        replace b20 := Lw5.cell b20
        replace b21 := Lw5.cell b21
        replace f_b20 := Lw5.frz z_b2 f_b20
        replace f_b21 := Lw5.frz z_b2 f_b21
        have b130 : w5.cell? ⟨w4.heap.size, 0, none⟩ = some (.slice afb9 cells.length cfb9) := by subst hW9; exact qCl
        have b131 : w5.cell? ⟨w4.heap.size, 1, none⟩ = some (.slice efb9 es.length dfb9) := by subst hW9; exact qCl
        have z_b1 : w.heap.size < w5.heap.size := qB b10
        have z_b2 : w.heap.size + 1 < w5.heap.size := qB b20
        have z_b13 : w4.heap.size < w5.heap.size := qB b130
        replace i6 := i6.ext Lw5
        replace bf8 := bf8.ext Lw5
        have s_w5 : w.heap.size ≤ w5.heap.size := Xw5.size
        have BL12_w5 : Ext w3 w5 := BL12_w4.trans Lw5
        clear hW9
        obtain ⟨gr14, rr15, hvgr14, -⟩ := bf8.ex.big hesne.out
        injection hvgr14 with hvgr14a hvgr14b hvgr14c
        subst hvgr14a
        subst hvgr14c
        obtain ⟨hlgr14, hhgr14⟩ := q_bf8.out.e gr14 rfl
        obtain ⟨A16a, A16b⟩ := bf8.ex.cells rfl k 4 hlt (by omega)
        simp only [eCells, List.getElem?_cons_zero, List.getElem?_cons_succ] at A16a
        have S_bf8 := bf8.close rfl k hlt false
        replace S_bf8 := Lib.hid S_bf8
        replace bf8 := Lib.hid bf8
        go_wp2_with fail
        generalize hW10 : (w5.setCell ⟨gr14, k * 5 + 4, none⟩ (.bool false)) = w6 at *
        have Kw6 : Chg (gr14) (gr14 + 1) w5 w6 := by subst hW10; exact qCh
        have Xw6 : Ext w w6 := by subst hW10; exact qXt
        have BL12_w6 : Ext w3 w6 := by subst hW10; exact qXt
        replace b10 := BL12_w6.cell Q11_b10.out
        replace b11 := BL12_w6.cell Q11_b11.out
        replace b20 := BL12_w6.cell Q11_b20.out
        replace f_b20 := BL12_w6.frz Q11_zb2 Q11_f_b20.out
        replace b21 := BL12_w6.cell Q11_b21.out
        replace f_b21 := BL12_w6.frz Q11_zb2 Q11_f_b21.out
        replace b130 := Kw6.cell (by omega) b130
        replace b131 := Kw6.cell (by omega) b131
        replace i6 := (Q11_i6.out).ext BL12_w6
        clear Kw6
        have z_b1 : w.heap.size < w6.heap.size := qB b10
        have z_b2 : w.heap.size + 1 < w6.heap.size := qB b20
        have z_b13 : w4.heap.size < w6.heap.size := qB b130
        have s_w6 : w.heap.size ≤ w6.heap.size := Xw6.size
        clear hW10
        clear bf8 A16a A16b
        have bf8 := S_bf8.out
        clear S_bf8
        go_wp2_with fail
        generalize hW11 : ((w6.setCell ⟨w.heap.size + 1, 0, none⟩ (.slice afb9 cells.length cfb9)).setCell ⟨w.heap.size + 1, 1, none⟩ (.slice (some ⟨gr14, 0, none⟩) es.length dfb9)) = w7 at *
        have Kw7 : Chg (w.heap.size + 1) (w.heap.size + 1 + 1) w6 w7 := by subst hW11; exact qCh
        have Xw7 : Ext w w7 := by subst hW11; exact qXt
        replace b10 := Kw7.cell (by omega) b10
        replace b11 := Kw7.cell (by omega) b11
        replace b20 : w7.cell? ⟨w.heap.size + 1, 0, none⟩ = some (.slice afb9 cells.length cfb9) := by subst hW11; go_simp
        replace f_b20 : w7.frozen? ⟨w.heap.size + 1, 0, none⟩ = false := by subst hW11; first | (simp only [World.frozen?_setCell]; with_reducible assumption) | go_simp
        replace b21 : w7.cell? ⟨w.heap.size + 1, 1, none⟩ = some (.slice (some ⟨gr14, 0, none⟩) es.length dfb9) := by subst hW11; go_simp
        replace f_b21 : w7.frozen? ⟨w.heap.size + 1, 1, none⟩ = false := by subst hW11; first | (simp only [World.frozen?_setCell]; with_reducible assumption) | go_simp
        replace b130 := Kw7.cell (by omega) b130
        replace b131 := Kw7.cell (by omega) b131
        replace i6 := i6.chg Kw7 (by omega)
        replace bf8 := bf8.chg Kw7 (by omega)
        clear Kw7
        have z_b1 : w.heap.size < w7.heap.size := qB b10
        have z_b2 : w.heap.size + 1 < w7.heap.size := qB b20
        have z_b13 : w4.heap.size < w7.heap.size := qB b130
        have s_w7 : w.heap.size ≤ w7.heap.size := Xw7.size
        clear hW11
        refine bodyPost_ret (v := .tuple #[.agg #[.slice afb9 cells.length cfb9, .slice (some ⟨gr14, 0, none⟩) es.length dfb9], .bool true]) (by simp only [results, Try.results32]; go_simp) rfl ?_
        exact PBX.yes (by unfold relA; rw [hbb.out, hop.out, decide_eq_true (show (selL (kidP (k : Int)) es es.length).length = 0 by omega)]; rfl) ((bf8.ext qXt).lower (by omega)) (Xw7.trans qXt)


end Go.Proofs.Ytgklaobfikbiiaa

/- The builtin copy on a row of ints. No condition. -/
namespace Go.Proofs.Ytgklaobfikbiiaa
open Go.RowKit
set_option linter.unusedVariables false
set_option maxRecDepth 100000

/-- a list after another one was copied to its start -/
def cpL (xs ys : List Int) : List Int := ys.take xs.length ++ xs.drop ys.length
theorem cpL_len (xs ys : List Int) : (cpL xs ys).length = xs.length := by unfold cpL; simp; omega
theorem wpList_copyI {w : World} {ops : Array Oper} {rest : List Oper} {o : Oper} {a : Act} {Q : Exit → Act → World → Prop} (hgd : o.guard = none) (d s : Operand)
    (ho : o.op = .call { callee := .builtin .copy, args := #[d, s], argTypes := #[23, 23] }) {g n c base lo : Nat} {src : Value} {xs ys : List Int}
    (hd : a.eval d = .slice (some ⟨g, 0, none⟩) n c) (hs : a.eval s = src) (O : OwnI w base (.slice (some ⟨g, 0, none⟩) n c) xs) (I : Ints w lo src ys)
    (h : ∀ w' (r : Int), OwnI w' base (.slice (some ⟨g, 0, none⟩) n c) (cpL xs ys) → Chg g (g + 1) w w' → wpList Try.prog ops Q rest (a.put o.dst (goInt r)) w') : wpList Try.prog ops Q (o :: rest) a w := by
  have hsz : (Try.prog.info? 3).map (·.size) = some 1 := by kernel_rfl
  have hn : n = xs.length := by
    rcases O.2 with ⟨h2, _⟩ | ⟨g', cap, cur, hv, _⟩
    · cases h2
    · cases hv; rfl
  obtain ⟨p, cp, rfl⟩ := I.form
  by_cases h0 : min ys.length xs.length = 0
  · refine wpList_copy_nothing hgd d s 23 23 ho 3 Try.underlying23 hsz _ _ _ _ _ _ hd hs (by subst hn; exact h0) ?_
    have e : cpL xs ys = xs := by
      unfold cpL
      rcases Nat.eq_zero_or_pos ys.length with hy | hy
      · obtain rfl := List.eq_nil_of_length_eq_zero hy; simp
      · obtain rfl := List.eq_nil_of_length_eq_zero (show xs.length = 0 by omega); simp
    exact h w 0 (by rw [e]; exact O) (Chg.refl _ _ _)
  · obtain ⟨b, of, rfl, -⟩ := I.at 0 (by omega)
    obtain ⟨hl, hO⟩ := O
    rcases hO with ⟨h2, _⟩ | ⟨g', cap, cur, hv, hb, hh, hc1, hc2, hcs, htk⟩
    · cases h2
    · cases hv
      clear hn
      have hcl : ((ys.take xs.length).map (Value.int .i64)).length = min ys.length xs.length := by simp; omega
      have hcur : xs.length ≤ cur.size := by omega
      refine wpList_copy_own hgd d s 23 23 ho 3 Try.underlying23 hsz g 0 _ _ ⟨b, of, none⟩ _ _ hd hs cur 3 hh ((ys.take xs.length).map (Value.int .i64)) (by rw [hcl]) ?_ (by rw [hcl]; omega) ?_ ?_
      · intro j v hj
        rw [List.getElem?_map, List.getElem?_take] at hj
        split at hj
        · rename_i hjx
          rcases Nat.lt_or_ge j ys.length with hjy | hjy
          · obtain ⟨b', of', e, hc⟩ := I.at j hjy
            cases e
            rw [List.getElem?_eq_getElem hjy] at hj
            have e7 : (⟨b, of, none⟩ : Addr).add j = ⟨b, of + j, none⟩ := by unfold Addr.add; split <;> simp_all
            rw [e7, hc, List.getD_eq_getElem?_getD, List.getElem?_eq_getElem hjy]
            simpa using hj
          · rw [List.getElem?_eq_none hjy] at hj; cases hj
        · cases hj
      · intro v hv
        obtain ⟨x, -, rfl⟩ := List.mem_map.1 hv
        rfl
      · rw [hcl]
        have hset := fun cs => setRow_heap w g cur cs 3 (0, 0) hh
        refine h _ _ ⟨by simp, .inr ⟨g, c, _, (by rw [cpL_len]), hb, hset _, by rw [cpL_len]; exact hc1, hc2, ?_, ?_⟩⟩ ⟨rfl, rfl, rfl, by simp [World.setRow], fun k hk hne => setRow_other w g k _ (by omega)⟩
        · simp; omega
        · rw [cpL_len]
          unfold cpL
          simp only [List.take_zero, List.nil_append, Nat.zero_add, List.map_append, Nat.mul_one] at htk ⊢
          rw [List.take_append, hcl, List.take_of_length_le (by rw [hcl]; omega)]
          refine congrArg (List.map (Value.int .i64) (ys.take xs.length) ++ ·) ?_
          rw [List.map_drop, ← htk]
          rcases Nat.le_total ys.length xs.length with hle | hle
          · rw [Nat.min_eq_left hle, List.drop_take]
          · rw [Nat.min_eq_right hle, Nat.sub_self, List.take_zero, List.drop_eq_nil_of_le (by rw [List.length_take]; omega)]
end Go.Proofs.Ytgklaobfikbiiaa

/- Walks: ResizeBuffer of both. -/
namespace Go.Proofs.Ytgklaobfikbiiaa
open Go.RowKit
set_option linter.unusedVariables false
set_option maxRecDepth 100000


theorem fit_step {xs : List Int} {N k : Nat} (h1 : k < N) (h2 : k < xs.length) : xs.take (k+1) ++ List.replicate (N - (k+1)) 0 = (xs.take k ++ List.replicate (N - k) 0).set k (xs.getD k 0) := by
 refine List.ext_getElem (by simp; omega) fun j a b => ?_
 rw [List.getElem_set]
 simp only [List.getElem_append, List.length_take, List.getElem_take, List.getElem_replicate]
 by_cases hj : k = j
 ·
  subst hj
  rw [if_pos rfl, dif_pos (by omega), List.getD_eq_getElem?_getD, List.getElem?_eq_getElem h2]; rfl
 ·
  rw [if_neg hj]
  by_cases hk : j < k
  ·
   rw [dif_pos (by omega), dif_pos (by omega)]
  ·
   rw [dif_neg (by omega), dif_neg (by omega)]
theorem fit_end {xs : List Int} {N k : Nat} (h : (k ≤ N ∧ k ≤ xs.length) ∧ (k = N ∨ k = xs.length)) : xs.take k ++ List.replicate (N - k) 0 = fitL xs N := by
 unfold fitL
 rcases h.2 with rfl | rfl
 ·
  rw [Nat.sub_self, show k - xs.length = 0 by omega]
 ·
  rw [List.take_of_length_le (Nat.le_refl _), List.take_of_length_le (by omega)]

set_option maxHeartbeats 3200000 in
theorem specResizeBuffer_c (cells : List Int) (es : List Exp) (cv ev : Value) (n : Int) (w : World) (l1 l2 : Nat) (h1 : Ints w l1 cv cells) (h2 : Exps w l2 ev es) :
  Calls Try.prog 15 #[.agg #[cv, ev], .int .i64 n] w (PBX w (resA cells es n)) := by
 obtain ⟨p0, c0, rfl⟩ := h1.form
 obtain ⟨p1, c1, rfl⟩ := h2.form
 have he1 := h2.len
 have hc1 := h1.len
 go_enter Try.func15, Try.ntmps15
 go_wp2_with fail
 refine (validBuffer_c cells es (.slice p0 cells.length c0) (.slice p1 es.length c1) _ _ _ (h1.ext qXt) (h2.ext qXt)).mono ?_
 rintro e w1 ⟨rfl, xw1⟩
 have Lw1 : Ext w w1 := Ext.trans qXt xw1
 have Xw1 : Ext w w1 := Lw1
 have b10 : w1.cell? ⟨w.heap.size, 0, none⟩ = some (.slice p0 cells.length c0) := xw1.cell qCl
 have b11 : w1.cell? ⟨w.heap.size, 1, none⟩ = some (.slice p1 es.length c1) := xw1.cell qCl
 have b20 : w1.cell? ⟨w.heap.size + 1, 0, none⟩ = some (.slice none 0 0) := xw1.cell qCl
 have b21 : w1.cell? ⟨w.heap.size + 1, 1, none⟩ = some (.slice none 0 0) := xw1.cell qCl
 have f_b20 : w1.frozen? ⟨w.heap.size + 1, 0, none⟩ = false := xw1.frz (by simp <;> omega) qFz
 have f_b21 : w1.frozen? ⟨w.heap.size + 1, 1, none⟩ = false := xw1.frz (by simp <;> omega) qFz
 have z_b1 : w.heap.size < w1.heap.size := qB b10
 have z_b2 : w.heap.size + 1 < w1.heap.size := qB b20
 have s_w1 : w.heap.size ≤ w1.heap.size := Xw1.size
 clear xw1
 cases hB3 : bufB cells es
 ·
  replace hB3 := Lib.hid hB3
  go_wp2_with fail
  generalize hW1 : ((w1.setCell ⟨w.heap.size + 1, 0, none⟩ (.slice none 0 0)).setCell ⟨w.heap.size + 1, 1, none⟩ (.slice none 0 0)) = w2 at *
  have Kw2 : Chg (w.heap.size + 1) (w.heap.size + 1 + 1) w1 w2 := by subst hW1; exact qCh
  have Xw2 : Ext w w2 := by subst hW1; exact qXt
  replace b10 := Kw2.cell (by omega) b10
  replace b11 := Kw2.cell (by omega) b11
  replace b20 : w2.cell? ⟨w.heap.size + 1, 0, none⟩ = some (.slice none 0 0) := by subst hW1; go_simp
  replace f_b20 : w2.frozen? ⟨w.heap.size + 1, 0, none⟩ = false := by subst hW1; first | (simp only [World.frozen?_setCell]; with_reducible assumption) | go_simp
  replace b21 : w2.cell? ⟨w.heap.size + 1, 1, none⟩ = some (.slice none 0 0) := by subst hW1; go_simp
  replace f_b21 : w2.frozen? ⟨w.heap.size + 1, 1, none⟩ = false := by subst hW1; first | (simp only [World.frozen?_setCell]; with_reducible assumption) | go_simp
  clear Kw2
  have z_b1 : w.heap.size < w2.heap.size := qB b10
  have z_b2 : w.heap.size + 1 < w2.heap.size := qB b20
  have s_w2 : w.heap.size ≤ w2.heap.size := Xw2.size
  clear hW1
  refine bodyPost_ret (v := .tuple #[.agg #[.slice none 0 0, .slice none 0 0], .bool false]) (by simp only [results, Try.results15]; go_simp) rfl ?_
  exact PBX.no (by unfold resA; rw [hB3.out]; rfl) (Xw2.trans qXt)
 ·
  replace hB3 := Lib.hid hB3
  have hbb : Hid (bufB cells es = true) := Lib.hid hB3.out
  have hoa : Hid (openA cells es = selL opP es es.length) := Lib.hid (by unfold openA; rw [hbb.out]; rfl)
  have hc60 := (bufB_in hbb.out).2.1
  go_wp2_with fail
  refine (inRange_c n 0 60 _).mono ?_
  rintro e w' ⟨rfl, rfl⟩
  cases hB4 : inB 0 60 n
  ·
   replace hB4 := Lib.hid hB4
   go_wp2_with fail
   generalize hW2 : ((w1.setCell ⟨w.heap.size + 1, 0, none⟩ (.slice none 0 0)).setCell ⟨w.heap.size + 1, 1, none⟩ (.slice none 0 0)) = w2 at *
   have Kw2 : Chg (w.heap.size + 1) (w.heap.size + 1 + 1) w1 w2 := by subst hW2; exact qCh
   have Xw2 : Ext w w2 := by subst hW2; exact qXt
   replace b10 := Kw2.cell (by omega) b10
   replace b11 := Kw2.cell (by omega) b11
   replace b20 : w2.cell? ⟨w.heap.size + 1, 0, none⟩ = some (.slice none 0 0) := by subst hW2; go_simp
   replace f_b20 : w2.frozen? ⟨w.heap.size + 1, 0, none⟩ = false := by subst hW2; first | (simp only [World.frozen?_setCell]; with_reducible assumption) | go_simp
   replace b21 : w2.cell? ⟨w.heap.size + 1, 1, none⟩ = some (.slice none 0 0) := by subst hW2; go_simp
   replace f_b21 : w2.frozen? ⟨w.heap.size + 1, 1, none⟩ = false := by subst hW2; first | (simp only [World.frozen?_setCell]; with_reducible assumption) | go_simp
   clear Kw2
   have z_b1 : w.heap.size < w2.heap.size := qB b10
   have z_b2 : w.heap.size + 1 < w2.heap.size := qB b20
   have s_w2 : w.heap.size ≤ w2.heap.size := Xw2.size
   clear hW2
   refine bodyPost_ret (v := .tuple #[.agg #[.slice none 0 0, .slice none 0 0], .bool false]) (by simp only [results, Try.results15]; go_simp) rfl ?_
   exact PBX.no (by unfold resA; rw [hbb.out, hB4.out]; rfl) (Xw2.trans qXt)
  ·
   replace hB4 := Lib.hid hB4
   have hin : Hid (inB 0 60 n = true) := Lib.hid hB4.out
   obtain ⟨hn0, hn60⟩ : 0 ≤ n ∧ n ≤ 60 := by have h7 := hB4.out; unfold inB at h7; simp only [Bool.and_eq_true, decide_eq_true_eq] at h7; omega
   obtain ⟨N, rfl⟩ : ∃ N : Nat, n = N := ⟨n.toNat, by omega⟩
   go_wp2_with fail
   refine (pi_eq hoa.out (specOpenOf_c cells es (.slice p0 cells.length c0) (.slice p1 es.length c1) _ _ _ (h1.ext (Xw1.trans qXt)) (h2.ext (Xw1.trans qXt)))).mono ?_
   rintro e w2 ⟨fv5, rfl, i6, -, xw2⟩
   have Lw2 : Ext w1 w2 := Ext.trans qXt xw2
   have Xw2 : Ext w w2 := Xw1.trans Lw2
   replace b10 := Lw2.cell b10
   replace b11 := Lw2.cell b11
   replace b20 := Lw2.cell b20
   replace b21 := Lw2.cell b21
   replace f_b20 := Lw2.frz z_b2 f_b20
   replace f_b21 := Lw2.frz z_b2 f_b21
   have z_b1 : w.heap.size < w2.heap.size := qB b10
   have z_b2 : w.heap.size + 1 < w2.heap.size := qB b20
   have s_w2 : w.heap.size ≤ w2.heap.size := Xw2.size
   clear xw2
   obtain ⟨afv5, cfv5, rfl⟩ := i6.form
   by_cases hc7 : (0 : Int) < ((selL opP es es.length).length : Int)
   ·
    go_wp2_with fail
    generalize hW3 : ((w2.setCell ⟨w.heap.size + 1, 0, none⟩ (.slice none 0 0)).setCell ⟨w.heap.size + 1, 1, none⟩ (.slice none 0 0)) = w3 at *
    have Kw3 : Chg (w.heap.size + 1) (w.heap.size + 1 + 1) w2 w3 := by subst hW3; exact qCh
    have Xw3 : Ext w w3 := by subst hW3; exact qXt
    replace b10 := Kw3.cell (by omega) b10
    replace b11 := Kw3.cell (by omega) b11
    replace b20 : w3.cell? ⟨w.heap.size + 1, 0, none⟩ = some (.slice none 0 0) := by subst hW3; go_simp
    replace f_b20 : w3.frozen? ⟨w.heap.size + 1, 0, none⟩ = false := by subst hW3; first | (simp only [World.frozen?_setCell]; with_reducible assumption) | go_simp
    replace b21 : w3.cell? ⟨w.heap.size + 1, 1, none⟩ = some (.slice none 0 0) := by subst hW3; go_simp
    replace f_b21 : w3.frozen? ⟨w.heap.size + 1, 1, none⟩ = false := by subst hW3; first | (simp only [World.frozen?_setCell]; with_reducible assumption) | go_simp
    replace i6 := i6.chg Kw3 (by omega)
    clear Kw3
    have z_b1 : w.heap.size < w3.heap.size := qB b10
    have z_b2 : w.heap.size + 1 < w3.heap.size := qB b20
    have s_w3 : w.heap.size ≤ w3.heap.size := Xw3.size
    clear hW3
    refine bodyPost_ret (v := .tuple #[.agg #[.slice none 0 0, .slice none 0 0], .bool false]) (by simp only [results, Try.results15]; go_simp) rfl ?_
    exact PBX.no (by unfold resA; rw [hbb.out, hin.out, decide_eq_false (show ¬ (selL opP es es.length).length = 0 by omega)]; rfl) (Xw3.trans qXt)
   ·
    go_wp2_with fail
    have Q11_b10 := Lib.hid b10
    have Q11_b11 := Lib.hid b11
    have Q11_zb1 := z_b1
    have Q11_b20 := Lib.hid b20
    have Q11_f_b20 := Lib.hid f_b20
    have Q11_b21 := Lib.hid b21
    have Q11_f_b21 := Lib.hid f_b21
    have Q11_zb2 := z_b2
    have Q11_i6 := Lib.hid i6
    have BL12 : Ext w2 w2 := Ext.refl _
    refine (specCopyBuffer_c cells es (.slice p0 cells.length c0) (.slice p1 es.length c1) _ _ _ (h1.ext (Xw2.trans qXt)) (h2.ext (Xw2.trans qXt))).mono ?_
    rintro e w3 ⟨cvfb9, evfb9, R10, rfl, bf8, xw3⟩
    have Lw3 : Ext w2 w3 := Ext.trans qXt xw3
    have Xw3 : Ext w w3 := Xw2.trans Lw3
    replace b10 := Lw3.cell b10
    replace b11 := Lw3.cell b11
    replace b20 := Lw3.cell b20
    replace b21 := Lw3.cell b21
    replace f_b20 := Lw3.frz z_b2 f_b20
    replace f_b21 := Lw3.frz z_b2 f_b21
    have z_b1 : w.heap.size < w3.heap.size := qB b10
    have z_b2 : w.heap.size + 1 < w3.heap.size := qB b20
    replace i6 := i6.ext Lw3
    have s_w3 : w.heap.size ≤ w3.heap.size := Xw3.size
    have BL12_w3 : Ext w2 w3 := BL12.trans Lw3
    clear xw3
    replace bf8 := bf8.lower (lo' := w2.heap.size) qSo
    obtain ⟨afb9, cfb9, rfl⟩ := bf8.ints.form
    obtain ⟨efb9, dfb9, rfl⟩ := bf8.exps.form
    have q_bf8 := Lib.hid bf8.at
    have Q13_b10 := Lib.hid b10
    have Q13_b11 := Lib.hid b11
    have Q13_zb1 := z_b1
    have Q13_b20 := Lib.hid b20
    have Q13_f_b20 := Lib.hid f_b20
    have Q13_b21 := Lib.hid b21
    have Q13_f_b21 := Lib.hid f_b21
    have Q13_zb2 := z_b2
    have Q13_i6 := Lib.hid i6
    have Q13_bf8 := Lib.hid bf8
    have BL14 : Ext w3 w3 := Ext.refl _
    go_upto_region 4 with fail
    have zn_BL12_w4 := (BL12_w3).size
    have zn_BL14_w4 := (BL14).size
    generalize hW4 : w3.alloc (.cells #[.slice afb9 cells.length cfb9, .slice efb9 es.length dfb9] 26) = w4 at *
    have Lw4 : Ext w3 w4 := by subst hW4; exact qXt
    have Xw4 : Ext w w4 := Xw3.trans Lw4
    replace b10 := Lw4.cell b10
    replace b11 := Lw4.cell b11
    replace b20 := Lw4.cell b20
    replace b21 := Lw4.cell b21
    replace f_b20 := Lw4.frz z_b2 f_b20
    replace f_b21 := Lw4.frz z_b2 f_b21
    have b150 : w4.cell? ⟨w3.heap.size, 0, none⟩ = some (.slice afb9 cells.length cfb9) := by subst hW4; exact qCl
    have b151 : w4.cell? ⟨w3.heap.size, 1, none⟩ = some (.slice efb9 es.length dfb9) := by subst hW4; exact qCl
    have f_b150 : w4.frozen? ⟨w3.heap.size, 0, none⟩ = false := by subst hW4; exact qFz
    have f_b151 : w4.frozen? ⟨w3.heap.size, 1, none⟩ = false := by subst hW4; exact qFz
    have z_b1 : w.heap.size < w4.heap.size := qB b10
    have z_b2 : w.heap.size + 1 < w4.heap.size := qB b20
    have z_b15 : w3.heap.size < w4.heap.size := qB b150
    replace i6 := i6.ext Lw4
    replace bf8 := bf8.ext Lw4
    have s_w4 : w.heap.size ≤ w4.heap.size := Xw4.size
    have BL12_w4 : Ext w2 w4 := BL12_w3.trans Lw4
    have BL14_w4 : Ext w3 w4 := BL14.trans Lw4
    clear hW4
    have zBL12_mw4 := (BL12_w4).size
    have zBL14_mw4 := (BL14_w4).size
    have Q16_b10 := Lib.hid b10
    have Q16_b11 := Lib.hid b11
    have Q16_zb1 := z_b1
    have Q16_b20 := Lib.hid b20
    have Q16_f_b20 := Lib.hid f_b20
    have Q16_b21 := Lib.hid b21
    have Q16_f_b21 := Lib.hid f_b21
    have Q16_zb2 := z_b2
    have Q16_b150 := Lib.hid b150
    have Q16_f_b150 := Lib.hid f_b150
    have Q16_b151 := Lib.hid b151
    have Q16_f_b151 := Lib.hid f_b151
    have Q16_zb15 := z_b15
    have Q16_i6 := Lib.hid i6
    have Q16_bf8 := Lib.hid bf8
    have BL17 : Ext w4 w4 := Ext.refl _
    obtain ⟨i0mk18, himk18, hz0mk18, hz1mk18, hz2mk18⟩ := info_parts infoInt
    go_wp2_with (at_make; refine wpList_make_full _ rfl _ _ 23 rfl w4.heap.size 3 i0mk18 (.int .i64 0) 1 Try.underlying23 himk18 hz0mk18 hz1mk18 .i64 .i64 _ _ N rfl rfl rfl rfl (by rw [hz2mk18]; omega) (by unfold maxLen; omega) (Nat.le_refl _) ?_)
    intro w5 hown7 hgr7
    have xw5 : Ext w4 w5 := (Ext.refl w4).grown hgr7 (by simp)
    rw [made_ints] at hown7
    clear hgr7
    have O19 : OwnI w5 w4.heap.size (.slice (some ⟨w4.heap.size, 0, none⟩) N N) (List.replicate N 0) := by unfold OwnI; simpa using hown7
    clear hown7 himk18 hz0mk18 hz1mk18 hz2mk18
    have Lw5 : Ext w4 w5 := Ext.trans qXt xw5
    have Xw5 : Ext w w5 := Xw4.trans Lw5
    replace b10 := Lw5.cell b10
    replace b11 := Lw5.cell b11
    replace b20 := Lw5.cell b20
    replace b21 := Lw5.cell b21
    replace f_b20 := Lw5.frz z_b2 f_b20
    replace f_b21 := Lw5.frz z_b2 f_b21
    replace b150 := Lw5.cell b150
    replace b151 := Lw5.cell b151
    replace f_b150 := Lw5.frz z_b15 f_b150
    replace f_b151 := Lw5.frz z_b15 f_b151
    have z_b1 : w.heap.size < w5.heap.size := qB b10
    have z_b2 : w.heap.size + 1 < w5.heap.size := qB b20
    have z_b15 : w3.heap.size < w5.heap.size := qB b150
    replace i6 := i6.ext Lw5
    replace bf8 := bf8.ext Lw5
    have s_w5 : w.heap.size ≤ w5.heap.size := Xw5.size
    have BL12_w5 : Ext w2 w5 := BL12_w4.trans Lw5
    have BL14_w5 : Ext w3 w5 := BL14_w4.trans Lw5
    have BL17_w5 : Ext w4 w5 := BL17.trans Lw5
    clear xw5
    skip
    go_wp2_with fail
    generalize hW5 : (w5.setCell ⟨w3.heap.size, 0, none⟩ (.slice (some ⟨w4.heap.size, 0, none⟩) N N)) = w6 at *
    have Kw6 : Chg (w3.heap.size) (w3.heap.size + 1) w5 w6 := by subst hW5; exact qCh
    have Xw6 : Ext w w6 := by subst hW5; exact qXt
    have BL12_w6 : Ext w2 w6 := by subst hW5; exact qXt
    have BL14_w6 : Ext w3 w6 := by subst hW5; exact qXt
    replace b10 := BL14_w6.cell Q13_b10.out
    replace b11 := BL14_w6.cell Q13_b11.out
    replace b20 := BL14_w6.cell Q13_b20.out
    replace f_b20 := BL14_w6.frz Q13_zb2 Q13_f_b20.out
    replace b21 := BL14_w6.cell Q13_b21.out
    replace f_b21 := BL14_w6.frz Q13_zb2 Q13_f_b21.out
    replace b150 : w6.cell? ⟨w3.heap.size, 0, none⟩ = some (.slice (some ⟨w4.heap.size, 0, none⟩) N N) := by subst hW5; go_simp
    replace f_b150 : w6.frozen? ⟨w3.heap.size, 0, none⟩ = false := by subst hW5; first | (simp only [World.frozen?_setCell]; with_reducible assumption) | go_simp
    replace b151 : w6.cell? ⟨w3.heap.size, 1, none⟩ = some (.slice efb9 es.length dfb9) := by subst hW5; go_simp
    replace f_b151 : w6.frozen? ⟨w3.heap.size, 1, none⟩ = false := by subst hW5; first | (simp only [World.frozen?_setCell]; with_reducible assumption) | go_simp
    replace i6 := (Q13_i6.out).ext BL14_w6
    replace bf8 := (Q13_bf8.out).ext BL14_w6
    replace O19 := O19.chgN Kw6 (by omega)
    clear Kw6
    have z_b1 : w.heap.size < w6.heap.size := qB b10
    have z_b2 : w.heap.size + 1 < w6.heap.size := qB b20
    have z_b15 : w3.heap.size < w6.heap.size := qB b150
    have s_w6 : w.heap.size ≤ w6.heap.size := Xw6.size
    clear hW5
    replace bf8 := BufT.of bf8 q_bf8.out
    clear i6
    go_loopw [7] (fun i wr => ∃ (k : Nat), k ≤ N ∧ k ≤ cells.length ∧ i = .int .i64 k ∧ OwnI wr (w4.heap.size) (.slice (some ⟨w4.heap.size, 0, none⟩) N N) (cells.take k ++ List.replicate (N - k) 0) ∧ Chg (w4.heap.size) (w4.heap.size + 1) w6 wr) (fun i _ => N - (intOf i).toNat)
    case atStart => exact ⟨0, Nat.zero_le _, Nat.zero_le _, rfl, (show OwnI _ _ _ (cells.take 0 ++ List.replicate (N - 0) 0) from (O19.ext qXt)), Chg.refl _ _ _⟩
    case round =>
     obtain ⟨k, hk, hkc, rfl, O19n, Kr20⟩ := hrel
     have Xwr : Ext w wr := Ext.chg Xw6 Kr20 (by omega)
     have s_wr : w.heap.size ≤ wr.heap.size := Xwr.size
     have t_wr : w6.heap.size ≤ wr.heap.size := Kr20.size
     replace b10 := Kr20.cell (by omega) b10
     replace b11 := Kr20.cell (by omega) b11
     replace b20 := Kr20.cell (by omega) b20
     replace f_b20 := Kr20.frzO (by omega) (by omega) f_b20
     replace b21 := Kr20.cell (by omega) b21
     replace f_b21 := Kr20.frzO (by omega) (by omega) f_b21
     replace b150 := Kr20.cell (by omega) b150
     replace f_b150 := Kr20.frzO (by omega) (by omega) f_b150
     replace b151 := Kr20.cell (by omega) b151
     replace f_b151 := Kr20.frzO (by omega) (by omega) f_b151
     have z_b1 : w.heap.size < wr.heap.size := qB b10
     have z_b2 : w.heap.size + 1 < wr.heap.size := qB b20
     have z_b15 : w3.heap.size < wr.heap.size := qB b150
     replace bf8 := bf8.chg Kr20 (by omega)
     clear O19
     have O19 := O19n
     clear O19n
     rcases (show (k < N ∧ k < cells.length) ∨ ¬ k < N ∨ (k < N ∧ ¬ k < cells.length) by omega) with hlt | hlt | hlt
     ·
      have hkI : (k : Int) < (N : Int) := by omega
      have hkJ : (k : Int) < (cells.length : Int) := by omega
      have hs := Lib.hid (fit_step (xs := cells) hlt.1 hlt.2)
      go_wp2_with fail
      have hN_e23 : k < cells.length := hlt.2
      have hI_e23 : (k : Int) < (cells.length : Int) := by omega
      obtain ⟨bl21, ol22, rfl, e230⟩ := h1.at k hlt.2
      have y_e23 : bl21 < w.heap.size := qB e230
      replace e230 := Xwr.cell e230
      obtain ⟨v24, hv24⟩ : ∃ v, cells.getD k 0 = v := ⟨_, rfl⟩
      rw [hv24] at e230
      replace hv24 := Lib.hid hv24
      have z_e23 : bl21 < wr.heap.size := qB e230
      have A25 := O19.cell k (by simp only [List.length_append, List.length_take, List.length_replicate]; omega)
      obtain ⟨A25a, A25b⟩ := A25
      refine wp_region_tail (S := fun w' => w'.cell? ⟨w.heap.size, 0, none⟩ = some (.slice (some ⟨bl21, ol22, none⟩) cells.length c0) ∧ w'.cell? ⟨w3.heap.size, 0, none⟩ = some (.slice (some ⟨w4.heap.size, 0, none⟩) N N) ∧ w'.cell? ⟨bl21, ol22 + k, none⟩ = some (.int .i64 v24)) (fun i => decide (9 ≤ i)) qKr ⟨b10, b150, e230⟩ (fun hHeld => ?_)
      refine qTk (v := ?_) 0 rfl (.inl ⟨by rfl, ?_⟩) ?_
      rotate_left
      ·
       (intro w hSw; (try dsimp only at hSw); go_simp; try with_reducible rfl)
      try simp only [Act.put, qa, qb, qc, qD, qE, qF]
      refine qTk (v := ?_) 1 rfl (.inl ⟨by rfl, ?_⟩) ?_
      rotate_left
      ·
       (intro w hSw; (try dsimp only at hSw); go_simp; try with_reducible rfl)
      try simp only [Act.put, qa, qb, qc, qD, qE, qF]
      refine qTk (v := ?_) 2 rfl (.inl ⟨by rfl, ?_⟩) ?_
      rotate_left
      ·
       (intro w hSw; (try dsimp only at hSw); go_simp; try with_reducible rfl)
      try simp only [Act.put, qa, qb, qc, qD, qE, qF]
      refine qTk (v := ?_) 3 rfl (.inl ⟨by rfl, ?_⟩) ?_
      rotate_left
      ·
       (intro w hSw; (try dsimp only at hSw); go_simp; try with_reducible rfl)
      try simp only [Act.put, qa, qb, qc, qD, qE, qF]
      refine qTk (v := ?_) 4 rfl (.inl ⟨by rfl, ?_⟩) ?_
      rotate_left
      ·
       (intro w hSw; (try dsimp only at hSw); go_simp; try with_reducible rfl)
      try simp only [Act.put, qa, qb, qc, qD, qE, qF]
      refine qTk (v := ?_) 5 rfl (.inl ⟨by rfl, ?_⟩) ?_
      rotate_left
      ·
       (intro w hSw; (try dsimp only at hSw); go_simp; try with_reducible rfl)
      try simp only [Act.put, qa, qb, qc, qD, qE, qF]
      refine qTk (v := ?_) 6 rfl (.inl ⟨by rfl, ?_⟩) ?_
      rotate_left
      ·
       (intro w hSw; (try dsimp only at hSw); go_simp; try with_reducible rfl)
      try simp only [Act.put, qa, qb, qc, qD, qE, qF]
      refine qTk (v := ?_) 7 rfl (.inl ⟨by rfl, ?_⟩) ?_
      rotate_left
      ·
       (intro w hSw; (try dsimp only at hSw); go_simp; try with_reducible rfl)
      try simp only [Act.put, qa, qb, qc, qD, qE, qF]
      refine qTk (v := ?_) 8 rfl (.inl ⟨by rfl, ?_⟩) ?_
      rotate_left
      ·
       (intro w hSw; (try dsimp only at hSw); go_simp; try with_reducible rfl)
      try simp only [Act.put, qa, qb, qc, qD, qE, qF]
      refine wpTail_last (i := 9) qKr rfl rfl (fun K hK => ?_)
      try simp only [Act.put, qa, qb, qc, qD, qE, qF]
      go_simp
      refine hK.out _ _ ?_
      clear hK K
      try simp only [Act.put, qa, qb, qc, qD, qE, qF]
      refine wpTail_done qKr ?_ _
      clear hHeld 
      clear e230 z_e23
      generalize hW6 : ((wr.setCell ⟨w4.heap.size, k, none⟩ (.int .i64 v24)).drew) = w7 at *
      have Kw7 : Chg (w4.heap.size) (w4.heap.size + 1) wr w7 := by subst hW6; exact qCh
      have Xw7 : Ext w w7 := by subst hW6; exact qXt
      have Kr20_w7 : Chg w4.heap.size (w4.heap.size + 1) w6 w7 := Chg.trans Kr20 Kw7
      replace b10 := Kw7.cell (by omega) b10
      replace b11 := Kw7.cell (by omega) b11
      replace b20 := Kw7.cell (by omega) b20
      replace f_b20 := Kw7.frzO (by omega) z_b2 f_b20
      replace b21 := Kw7.cell (by omega) b21
      replace f_b21 := Kw7.frzO (by omega) z_b2 f_b21
      replace b150 := Kw7.cell (by omega) b150
      replace f_b150 := Kw7.frzO (by omega) z_b15 f_b150
      replace b151 := Kw7.cell (by omega) b151
      replace f_b151 := Kw7.frzO (by omega) z_b15 f_b151
      replace bf8 := bf8.chg Kw7 (by omega)
      have n_O19 := O19.setD k (v24) (by first | omega | (simp; omega) | (rw [putUp_len]; simp; omega) | (rw [addUp_len]; omega))
      rw [hW6] at n_O19
      replace O19 := n_O19
      clear n_O19
      clear Kw7
      have z_b1 : w.heap.size < w7.heap.size := qB b10
      have z_b2 : w.heap.size + 1 < w7.heap.size := qB b20
      have z_b15 : w3.heap.size < w7.heap.size := qB b150
      have s_w7 : w.heap.size ≤ w7.heap.size := Xw7.size
      clear hW6
      clear A25a A25b
      go_wp2_with fail
      go_roundw
      case rel => exact ⟨k + 1, by omega, by omega, by go_num, (by rw [hs.out, hv24.out]; exact O19.ext qXt), Kr20_w7.ext qXt⟩
      case measure => simp [intOf]; omega
     ·
      have hkI : ¬ (k : Int) < (N : Int) := by omega
      go_wp2_with fail
      generalize hW7 : ((wr.setCell ⟨w.heap.size + 1, 0, none⟩ (.slice (some ⟨w4.heap.size, 0, none⟩) N N)).setCell ⟨w.heap.size + 1, 1, none⟩ (.slice efb9 es.length dfb9)) = w7 at *
      have Kw7 : Chg (w.heap.size + 1) (w.heap.size + 1 + 1) wr w7 := by subst hW7; exact qCh
      have Xw7 : Ext w w7 := by subst hW7; exact qXt
      replace b10 := Kw7.cell (by omega) b10
      replace b11 := Kw7.cell (by omega) b11
      replace b20 : w7.cell? ⟨w.heap.size + 1, 0, none⟩ = some (.slice (some ⟨w4.heap.size, 0, none⟩) N N) := by subst hW7; go_simp
      replace f_b20 : w7.frozen? ⟨w.heap.size + 1, 0, none⟩ = false := by subst hW7; first | (simp only [World.frozen?_setCell]; with_reducible assumption) | go_simp
      replace b21 : w7.cell? ⟨w.heap.size + 1, 1, none⟩ = some (.slice efb9 es.length dfb9) := by subst hW7; go_simp
      replace f_b21 : w7.frozen? ⟨w.heap.size + 1, 1, none⟩ = false := by subst hW7; first | (simp only [World.frozen?_setCell]; with_reducible assumption) | go_simp
      replace b150 := Kw7.cell (by omega) b150
      replace f_b150 := Kw7.frzO (by omega) z_b15 f_b150
      replace b151 := Kw7.cell (by omega) b151
      replace f_b151 := Kw7.frzO (by omega) z_b15 f_b151
      replace bf8 := bf8.chg Kw7 (by omega)
      replace O19 := O19.chgN Kw7 (by omega)
      clear Kw7
      have z_b1 : w.heap.size < w7.heap.size := qB b10
      have z_b2 : w.heap.size + 1 < w7.heap.size := qB b20
      have z_b15 : w3.heap.size < w7.heap.size := qB b150
      have s_w7 : w.heap.size ≤ w7.heap.size := Xw7.size
      clear hW7
      refine bodyPost_ret (v := .tuple #[.agg #[.slice (some ⟨w4.heap.size, 0, none⟩) N N, .slice efb9 es.length dfb9], .bool true]) (by simp only [results, Try.results15]; go_simp) rfl ?_
      have eqA : resA cells es (N : Int) = (fitL cells N, es, true) := by unfold resA; rw [hbb.out, hin.out, decide_eq_true (show (selL opP es es.length).length = 0 by omega), Int.toNat_natCast]; rfl
      rw [show cells.take k ++ List.replicate (N - k) 0 = fitL cells N by exact fit_end (by omega)] at O19
      exact PBX.yes eqA ((bf8.buf.cellsQ (lo2 := w.heap.size) (by omega) q_bf8.out ((O19.lower (base' := w.heap.size) (by omega)).z) (CapZ.same (by rw [fitL_len])) (by rw [fitL_len]; omega) (fun _ g7 hg7 => by have h9 : w4.heap.size = g7 := Option.some.inj hg7; omega)).ext qXt) (Xw7.trans qXt)
     ·
      have hkI : (k : Int) < (N : Int) := by omega
      have hkJ : ¬ (k : Int) < (cells.length : Int) := by omega
      go_wp2_with fail
      generalize hW8 : ((wr.setCell ⟨w.heap.size + 1, 0, none⟩ (.slice (some ⟨w4.heap.size, 0, none⟩) N N)).setCell ⟨w.heap.size + 1, 1, none⟩ (.slice efb9 es.length dfb9)) = w7 at *
      have Kw7 : Chg (w.heap.size + 1) (w.heap.size + 1 + 1) wr w7 := by subst hW8; exact qCh
      have Xw7 : Ext w w7 := by subst hW8; exact qXt
      replace b10 := Kw7.cell (by omega) b10
      replace b11 := Kw7.cell (by omega) b11
      replace b20 : w7.cell? ⟨w.heap.size + 1, 0, none⟩ = some (.slice (some ⟨w4.heap.size, 0, none⟩) N N) := by subst hW8; go_simp
      replace f_b20 : w7.frozen? ⟨w.heap.size + 1, 0, none⟩ = false := by subst hW8; first | (simp only [World.frozen?_setCell]; with_reducible assumption) | go_simp
      replace b21 : w7.cell? ⟨w.heap.size + 1, 1, none⟩ = some (.slice efb9 es.length dfb9) := by subst hW8; go_simp
      replace f_b21 : w7.frozen? ⟨w.heap.size + 1, 1, none⟩ = false := by subst hW8; first | (simp only [World.frozen?_setCell]; with_reducible assumption) | go_simp
      replace b150 := Kw7.cell (by omega) b150
      replace f_b150 := Kw7.frzO (by omega) z_b15 f_b150
      replace b151 := Kw7.cell (by omega) b151
      replace f_b151 := Kw7.frzO (by omega) z_b15 f_b151
      replace bf8 := bf8.chg Kw7 (by omega)
      replace O19 := O19.chgN Kw7 (by omega)
      clear Kw7
      have z_b1 : w.heap.size < w7.heap.size := qB b10
      have z_b2 : w.heap.size + 1 < w7.heap.size := qB b20
      have z_b15 : w3.heap.size < w7.heap.size := qB b150
      have s_w7 : w.heap.size ≤ w7.heap.size := Xw7.size
      clear hW8
      refine bodyPost_ret (v := .tuple #[.agg #[.slice (some ⟨w4.heap.size, 0, none⟩) N N, .slice efb9 es.length dfb9], .bool true]) (by simp only [results, Try.results15]; go_simp) rfl ?_
      have eqA : resA cells es (N : Int) = (fitL cells N, es, true) := by unfold resA; rw [hbb.out, hin.out, decide_eq_true (show (selL opP es es.length).length = 0 by omega), Int.toNat_natCast]; rfl
      rw [show cells.take k ++ List.replicate (N - k) 0 = fitL cells N by exact fit_end (by omega)] at O19
      exact PBX.yes eqA ((bf8.buf.cellsQ (lo2 := w.heap.size) (by omega) q_bf8.out ((O19.lower (base' := w.heap.size) (by omega)).z) (CapZ.same (by rw [fitL_len])) (by rw [fitL_len]; omega) (fun _ g7 hg7 => by have h9 : w4.heap.size = g7 := Option.some.inj hg7; omega)).ext qXt) (Xw7.trans qXt)

set_option maxHeartbeats 3200000 in
theorem implResizeBuffer_c (cells : List Int) (es : List Exp) (cv ev : Value) (n : Int) (w : World) (l1 l2 : Nat) (h1 : Ints w l1 cv cells) (h2 : Exps w l2 ev es) :
  Calls Try.prog 14 #[.agg #[cv, ev], .int .i64 n] w (PBX w (resA cells es n)) := by
 obtain ⟨p0, c0, rfl⟩ := h1.form
 obtain ⟨p1, c1, rfl⟩ := h2.form
 have he1 := h2.len
 have hc1 := h1.len
 go_enter Try.func14, Try.ntmps14
 go_wp2_with fail
 refine (isBuffer_c cells es (.slice p0 cells.length c0) (.slice p1 es.length c1) _ _ _ (h1.ext qXt) (h2.ext qXt)).mono ?_
 rintro e w1 ⟨rfl, xw1⟩
 have Lw1 : Ext w w1 := Ext.trans qXt xw1
 have Xw1 : Ext w w1 := Lw1
 have b10 : w1.cell? ⟨w.heap.size, 0, none⟩ = some (.slice p0 cells.length c0) := xw1.cell qCl
 have b11 : w1.cell? ⟨w.heap.size, 1, none⟩ = some (.slice p1 es.length c1) := xw1.cell qCl
 have b20 : w1.cell? ⟨w.heap.size + 1, 0, none⟩ = some (.slice none 0 0) := xw1.cell qCl
 have b21 : w1.cell? ⟨w.heap.size + 1, 1, none⟩ = some (.slice none 0 0) := xw1.cell qCl
 have f_b20 : w1.frozen? ⟨w.heap.size + 1, 0, none⟩ = false := xw1.frz (by simp <;> omega) qFz
 have f_b21 : w1.frozen? ⟨w.heap.size + 1, 1, none⟩ = false := xw1.frz (by simp <;> omega) qFz
 have z_b1 : w.heap.size < w1.heap.size := qB b10
 have z_b2 : w.heap.size + 1 < w1.heap.size := qB b20
 have s_w1 : w.heap.size ≤ w1.heap.size := Xw1.size
 clear xw1
 cases hB3 : bufB cells es
 ·
  replace hB3 := Lib.hid hB3
  go_wp2_with fail
  generalize hW9 : ((w1.setCell ⟨w.heap.size + 1, 0, none⟩ (.slice none 0 0)).setCell ⟨w.heap.size + 1, 1, none⟩ (.slice none 0 0)) = w2 at *
  have Kw2 : Chg (w.heap.size + 1) (w.heap.size + 1 + 1) w1 w2 := by subst hW9; exact qCh
  have Xw2 : Ext w w2 := by subst hW9; exact qXt
  replace b10 := Kw2.cell (by omega) b10
  replace b11 := Kw2.cell (by omega) b11
  replace b20 : w2.cell? ⟨w.heap.size + 1, 0, none⟩ = some (.slice none 0 0) := by subst hW9; go_simp
  replace f_b20 : w2.frozen? ⟨w.heap.size + 1, 0, none⟩ = false := by subst hW9; first | (simp only [World.frozen?_setCell]; with_reducible assumption) | go_simp
  replace b21 : w2.cell? ⟨w.heap.size + 1, 1, none⟩ = some (.slice none 0 0) := by subst hW9; go_simp
  replace f_b21 : w2.frozen? ⟨w.heap.size + 1, 1, none⟩ = false := by subst hW9; first | (simp only [World.frozen?_setCell]; with_reducible assumption) | go_simp
  clear Kw2
  have z_b1 : w.heap.size < w2.heap.size := qB b10
  have z_b2 : w.heap.size + 1 < w2.heap.size := qB b20
  have s_w2 : w.heap.size ≤ w2.heap.size := Xw2.size
  clear hW9
  refine bodyPost_ret (v := .tuple #[.agg #[.slice none 0 0, .slice none 0 0], .bool false]) (by simp only [results, Try.results14]; go_simp) rfl ?_
  exact PBX.no (by unfold resA; rw [hB3.out]; rfl) (Xw2.trans qXt)
 ·
  replace hB3 := Lib.hid hB3
  have hbb : Hid (bufB cells es = true) := Lib.hid hB3.out
  have hoa : Hid (openA cells es = selL opP es es.length) := Lib.hid (by unfold openA; rw [hbb.out]; rfl)
  have hc60 := (bufB_in hbb.out).2.1
  go_wp2_with fail
  refine (areCells_c n _).mono ?_
  rintro e w' ⟨rfl, rfl⟩
  cases hB4 : inB 0 60 n
  ·
   replace hB4 := Lib.hid hB4
   go_wp2_with fail
   generalize hW10 : ((w1.setCell ⟨w.heap.size + 1, 0, none⟩ (.slice none 0 0)).setCell ⟨w.heap.size + 1, 1, none⟩ (.slice none 0 0)) = w2 at *
   have Kw2 : Chg (w.heap.size + 1) (w.heap.size + 1 + 1) w1 w2 := by subst hW10; exact qCh
   have Xw2 : Ext w w2 := by subst hW10; exact qXt
   replace b10 := Kw2.cell (by omega) b10
   replace b11 := Kw2.cell (by omega) b11
   replace b20 : w2.cell? ⟨w.heap.size + 1, 0, none⟩ = some (.slice none 0 0) := by subst hW10; go_simp
   replace f_b20 : w2.frozen? ⟨w.heap.size + 1, 0, none⟩ = false := by subst hW10; first | (simp only [World.frozen?_setCell]; with_reducible assumption) | go_simp
   replace b21 : w2.cell? ⟨w.heap.size + 1, 1, none⟩ = some (.slice none 0 0) := by subst hW10; go_simp
   replace f_b21 : w2.frozen? ⟨w.heap.size + 1, 1, none⟩ = false := by subst hW10; first | (simp only [World.frozen?_setCell]; with_reducible assumption) | go_simp
   clear Kw2
   have z_b1 : w.heap.size < w2.heap.size := qB b10
   have z_b2 : w.heap.size + 1 < w2.heap.size := qB b20
   have s_w2 : w.heap.size ≤ w2.heap.size := Xw2.size
   clear hW10
   refine bodyPost_ret (v := .tuple #[.agg #[.slice none 0 0, .slice none 0 0], .bool false]) (by simp only [results, Try.results14]; go_simp) rfl ?_
   exact PBX.no (by unfold resA; rw [hbb.out, hB4.out]; rfl) (Xw2.trans qXt)
  ·
   replace hB4 := Lib.hid hB4
   have hin : Hid (inB 0 60 n = true) := Lib.hid hB4.out
   obtain ⟨hn0, hn60⟩ : 0 ≤ n ∧ n ≤ 60 := by have h7 := hB4.out; unfold inB at h7; simp only [Bool.and_eq_true, decide_eq_true_eq] at h7; omega
   obtain ⟨N, rfl⟩ : ∃ N : Nat, n = N := ⟨n.toNat, by omega⟩
   go_wp2_with fail
   refine (pi_eq hoa.out (implOpenOf_c cells es (.slice p0 cells.length c0) (.slice p1 es.length c1) _ _ _ (h1.ext (Xw1.trans qXt)) (h2.ext (Xw1.trans qXt)))).mono ?_
   rintro e w2 ⟨fv5, rfl, i6, -, xw2⟩
   have Lw2 : Ext w1 w2 := Ext.trans qXt xw2
   have Xw2 : Ext w w2 := Xw1.trans Lw2
   replace b10 := Lw2.cell b10
   replace b11 := Lw2.cell b11
   replace b20 := Lw2.cell b20
   replace b21 := Lw2.cell b21
   replace f_b20 := Lw2.frz z_b2 f_b20
   replace f_b21 := Lw2.frz z_b2 f_b21
   have z_b1 : w.heap.size < w2.heap.size := qB b10
   have z_b2 : w.heap.size + 1 < w2.heap.size := qB b20
   have s_w2 : w.heap.size ≤ w2.heap.size := Xw2.size
   clear xw2
   obtain ⟨afv5, cfv5, rfl⟩ := i6.form
   by_cases hc7 : (0 : Int) < ((selL opP es es.length).length : Int)
   ·
    go_wp2_with fail
    generalize hW11 : ((w2.setCell ⟨w.heap.size + 1, 0, none⟩ (.slice none 0 0)).setCell ⟨w.heap.size + 1, 1, none⟩ (.slice none 0 0)) = w3 at *
    have Kw3 : Chg (w.heap.size + 1) (w.heap.size + 1 + 1) w2 w3 := by subst hW11; exact qCh
    have Xw3 : Ext w w3 := by subst hW11; exact qXt
    replace b10 := Kw3.cell (by omega) b10
    replace b11 := Kw3.cell (by omega) b11
    replace b20 : w3.cell? ⟨w.heap.size + 1, 0, none⟩ = some (.slice none 0 0) := by subst hW11; go_simp
    replace f_b20 : w3.frozen? ⟨w.heap.size + 1, 0, none⟩ = false := by subst hW11; first | (simp only [World.frozen?_setCell]; with_reducible assumption) | go_simp
    replace b21 : w3.cell? ⟨w.heap.size + 1, 1, none⟩ = some (.slice none 0 0) := by subst hW11; go_simp
    replace f_b21 : w3.frozen? ⟨w.heap.size + 1, 1, none⟩ = false := by subst hW11; first | (simp only [World.frozen?_setCell]; with_reducible assumption) | go_simp
    replace i6 := i6.chg Kw3 (by omega)
    clear Kw3
    have z_b1 : w.heap.size < w3.heap.size := qB b10
    have z_b2 : w.heap.size + 1 < w3.heap.size := qB b20
    have s_w3 : w.heap.size ≤ w3.heap.size := Xw3.size
    clear hW11
    refine bodyPost_ret (v := .tuple #[.agg #[.slice none 0 0, .slice none 0 0], .bool false]) (by simp only [results, Try.results14]; go_simp) rfl ?_
    exact PBX.no (by unfold resA; rw [hbb.out, hin.out, decide_eq_false (show ¬ (selL opP es es.length).length = 0 by omega)]; rfl) (Xw3.trans qXt)
   ·
    go_wp2_with fail
    have Q11_b10 := Lib.hid b10
    have Q11_b11 := Lib.hid b11
    have Q11_zb1 := z_b1
    have Q11_b20 := Lib.hid b20
    have Q11_f_b20 := Lib.hid f_b20
    have Q11_b21 := Lib.hid b21
    have Q11_f_b21 := Lib.hid f_b21
    have Q11_zb2 := z_b2
    have Q11_i6 := Lib.hid i6
    have BL12 : Ext w2 w2 := Ext.refl _
    refine (implCopyBuffer_c cells es (.slice p0 cells.length c0) (.slice p1 es.length c1) _ _ _ (h1.ext (Xw2.trans qXt)) (h2.ext (Xw2.trans qXt))).mono ?_
    rintro e w3 ⟨cvfb9, evfb9, R10, rfl, bf8, xw3⟩
    have Lw3 : Ext w2 w3 := Ext.trans qXt xw3
    have Xw3 : Ext w w3 := Xw2.trans Lw3
    replace b10 := Lw3.cell b10
    replace b11 := Lw3.cell b11
    replace b20 := Lw3.cell b20
    replace b21 := Lw3.cell b21
    replace f_b20 := Lw3.frz z_b2 f_b20
    replace f_b21 := Lw3.frz z_b2 f_b21
    have z_b1 : w.heap.size < w3.heap.size := qB b10
    have z_b2 : w.heap.size + 1 < w3.heap.size := qB b20
    replace i6 := i6.ext Lw3
    have s_w3 : w.heap.size ≤ w3.heap.size := Xw3.size
    have BL12_w3 : Ext w2 w3 := BL12.trans Lw3
    clear xw3
    replace bf8 := bf8.lower (lo' := w2.heap.size) qSo
    obtain ⟨afb9, cfb9, rfl⟩ := bf8.ints.form
    obtain ⟨efb9, dfb9, rfl⟩ := bf8.exps.form
    have q_bf8 := Lib.hid bf8.at
    have Q13_b10 := Lib.hid b10
    have Q13_b11 := Lib.hid b11
    have Q13_zb1 := z_b1
    have Q13_b20 := Lib.hid b20
    have Q13_f_b20 := Lib.hid f_b20
    have Q13_b21 := Lib.hid b21
    have Q13_f_b21 := Lib.hid f_b21
    have Q13_zb2 := z_b2
    have Q13_i6 := Lib.hid i6
    have Q13_bf8 := Lib.hid bf8
    have BL14 : Ext w3 w3 := Ext.refl _
    go_upto_region 4 with fail
    have zn_BL12_w4 := (BL12_w3).size
    have zn_BL14_w4 := (BL14).size
    generalize hW12 : w3.alloc (.cells #[.slice afb9 cells.length cfb9, .slice efb9 es.length dfb9] 26) = w4 at *
    have Lw4 : Ext w3 w4 := by subst hW12; exact qXt
    have Xw4 : Ext w w4 := Xw3.trans Lw4
    replace b10 := Lw4.cell b10
    replace b11 := Lw4.cell b11
    replace b20 := Lw4.cell b20
    replace b21 := Lw4.cell b21
    replace f_b20 := Lw4.frz z_b2 f_b20
    replace f_b21 := Lw4.frz z_b2 f_b21
    have b150 : w4.cell? ⟨w3.heap.size, 0, none⟩ = some (.slice afb9 cells.length cfb9) := by subst hW12; exact qCl
    have b151 : w4.cell? ⟨w3.heap.size, 1, none⟩ = some (.slice efb9 es.length dfb9) := by subst hW12; exact qCl
    have f_b150 : w4.frozen? ⟨w3.heap.size, 0, none⟩ = false := by subst hW12; exact qFz
    have f_b151 : w4.frozen? ⟨w3.heap.size, 1, none⟩ = false := by subst hW12; exact qFz
    have z_b1 : w.heap.size < w4.heap.size := qB b10
    have z_b2 : w.heap.size + 1 < w4.heap.size := qB b20
    have z_b15 : w3.heap.size < w4.heap.size := qB b150
    replace i6 := i6.ext Lw4
    replace bf8 := bf8.ext Lw4
    have s_w4 : w.heap.size ≤ w4.heap.size := Xw4.size
    have BL12_w4 : Ext w2 w4 := BL12_w3.trans Lw4
    have BL14_w4 : Ext w3 w4 := BL14.trans Lw4
    clear hW12
    have zBL12_mw4 := (BL12_w4).size
    have zBL14_mw4 := (BL14_w4).size
    have Q16_b10 := Lib.hid b10
    have Q16_b11 := Lib.hid b11
    have Q16_zb1 := z_b1
    have Q16_b20 := Lib.hid b20
    have Q16_f_b20 := Lib.hid f_b20
    have Q16_b21 := Lib.hid b21
    have Q16_f_b21 := Lib.hid f_b21
    have Q16_zb2 := z_b2
    have Q16_b150 := Lib.hid b150
    have Q16_f_b150 := Lib.hid f_b150
    have Q16_b151 := Lib.hid b151
    have Q16_f_b151 := Lib.hid f_b151
    have Q16_zb15 := z_b15
    have Q16_i6 := Lib.hid i6
    have Q16_bf8 := Lib.hid bf8
    have BL17 : Ext w4 w4 := Ext.refl _
    obtain ⟨i0mk18, himk18, hz0mk18, hz1mk18, hz2mk18⟩ := info_parts infoInt
    go_wp2_with (at_make; refine wpList_make_full _ rfl _ _ 23 rfl w4.heap.size 3 i0mk18 (.int .i64 0) 1 Try.underlying23 himk18 hz0mk18 hz1mk18 .i64 .i64 _ _ N rfl rfl rfl rfl (by rw [hz2mk18]; omega) (by unfold maxLen; omega) (Nat.le_refl _) ?_)
    intro w5 hown7 hgr7
    have xw5 : Ext w4 w5 := (Ext.refl w4).grown hgr7 (by simp)
    rw [made_ints] at hown7
    clear hgr7
    have O19 : OwnI w5 w4.heap.size (.slice (some ⟨w4.heap.size, 0, none⟩) N N) (List.replicate N 0) := by unfold OwnI; simpa using hown7
    clear hown7 himk18 hz0mk18 hz1mk18 hz2mk18
    have Lw5 : Ext w4 w5 := Ext.trans qXt xw5
    have Xw5 : Ext w w5 := Xw4.trans Lw5
    replace b10 := Lw5.cell b10
    replace b11 := Lw5.cell b11
    replace b20 := Lw5.cell b20
    replace b21 := Lw5.cell b21
    replace f_b20 := Lw5.frz z_b2 f_b20
    replace f_b21 := Lw5.frz z_b2 f_b21
    replace b150 := Lw5.cell b150
    replace b151 := Lw5.cell b151
    replace f_b150 := Lw5.frz z_b15 f_b150
    replace f_b151 := Lw5.frz z_b15 f_b151
    have z_b1 : w.heap.size < w5.heap.size := qB b10
    have z_b2 : w.heap.size + 1 < w5.heap.size := qB b20
    have z_b15 : w3.heap.size < w5.heap.size := qB b150
    replace i6 := i6.ext Lw5
    replace bf8 := bf8.ext Lw5
    have s_w5 : w.heap.size ≤ w5.heap.size := Xw5.size
    have BL12_w5 : Ext w2 w5 := BL12_w4.trans Lw5
    have BL14_w5 : Ext w3 w5 := BL14_w4.trans Lw5
    have BL17_w5 : Ext w4 w5 := BL17.trans Lw5
    clear xw5
    skip
    go_upto_region 5 with fail
    generalize hW13 : (w5.setCell ⟨w3.heap.size, 0, none⟩ (.slice (some ⟨w4.heap.size, 0, none⟩) N N)) = w6 at *
    have Kw6 : Chg (w3.heap.size) (w3.heap.size + 1) w5 w6 := by subst hW13; exact qCh
    have Xw6 : Ext w w6 := by subst hW13; exact qXt
    have BL12_w6 : Ext w2 w6 := by subst hW13; exact qXt
    have BL14_w6 : Ext w3 w6 := by subst hW13; exact qXt
    replace b10 := BL14_w6.cell Q13_b10.out
    replace b11 := BL14_w6.cell Q13_b11.out
    replace b20 := BL14_w6.cell Q13_b20.out
    replace f_b20 := BL14_w6.frz Q13_zb2 Q13_f_b20.out
    replace b21 := BL14_w6.cell Q13_b21.out
    replace f_b21 := BL14_w6.frz Q13_zb2 Q13_f_b21.out
    replace b150 : w6.cell? ⟨w3.heap.size, 0, none⟩ = some (.slice (some ⟨w4.heap.size, 0, none⟩) N N) := by subst hW13; go_simp
    replace f_b150 : w6.frozen? ⟨w3.heap.size, 0, none⟩ = false := by subst hW13; first | (simp only [World.frozen?_setCell]; with_reducible assumption) | go_simp
    replace b151 : w6.cell? ⟨w3.heap.size, 1, none⟩ = some (.slice efb9 es.length dfb9) := by subst hW13; go_simp
    replace f_b151 : w6.frozen? ⟨w3.heap.size, 1, none⟩ = false := by subst hW13; first | (simp only [World.frozen?_setCell]; with_reducible assumption) | go_simp
    replace i6 := (Q13_i6.out).ext BL14_w6
    replace bf8 := (Q13_bf8.out).ext BL14_w6
    replace O19 := O19.chgN Kw6 (by omega)
    clear Kw6
    have z_b1 : w.heap.size < w6.heap.size := qB b10
    have z_b2 : w.heap.size + 1 < w6.heap.size := qB b20
    have z_b15 : w3.heap.size < w6.heap.size := qB b150
    have s_w6 : w.heap.size ≤ w6.heap.size := Xw6.size
    clear hW13
    replace bf8 := BufT.of bf8 q_bf8.out
    clear i6
    go_wp2_with (with_reducible (show wpList _ _ _ (Oper.mk (some 31) _ _ _ _ _ :: _) _ _); refine wpList_copyI rfl (.tmp 28) (.tmp 30) rfl rfl rfl (O19.ext qXt) (h1.ext (Xw6.trans qXt)) ?_)
    intro w7 rc20 n_O19 Kw7
    clear O19
    have O19 := n_O19
    clear n_O19
    have Xw7 : Ext w w7 := Ext.chg Xw6 Kw7 (by omega)
    replace b10 := Kw7.cell (by omega) b10
    replace b11 := Kw7.cell (by omega) b11
    replace b20 := Kw7.cell (by omega) b20
    replace f_b20 := Kw7.frzO (by omega) (by omega) f_b20
    replace b21 := Kw7.cell (by omega) b21
    replace f_b21 := Kw7.frzO (by omega) (by omega) f_b21
    replace b150 := Kw7.cell (by omega) b150
    replace f_b150 := Kw7.frzO (by omega) (by omega) f_b150
    replace b151 := Kw7.cell (by omega) b151
    replace f_b151 := Kw7.frzO (by omega) (by omega) f_b151
    have z_b1 : w.heap.size < w7.heap.size := qB b10
    have z_b2 : w.heap.size + 1 < w7.heap.size := qB b20
    have z_b15 : w3.heap.size < w7.heap.size := qB b150
    replace bf8 := bf8.chg Kw7 (by omega)
    have s_w7 : w.heap.size ≤ w7.heap.size := Xw7.size
    clear Kw7
    go_wp2_with fail
    generalize hW14 : ((w7.setCell ⟨w.heap.size + 1, 0, none⟩ (.slice (some ⟨w4.heap.size, 0, none⟩) N N)).setCell ⟨w.heap.size + 1, 1, none⟩ (.slice efb9 es.length dfb9)) = w8 at *
    have Kw8 : Chg (w.heap.size + 1) (w.heap.size + 1 + 1) w7 w8 := by subst hW14; exact qCh
    have Xw8 : Ext w w8 := by subst hW14; exact qXt
    replace b10 := Kw8.cell (by omega) b10
    replace b11 := Kw8.cell (by omega) b11
    replace b20 : w8.cell? ⟨w.heap.size + 1, 0, none⟩ = some (.slice (some ⟨w4.heap.size, 0, none⟩) N N) := by subst hW14; go_simp
    replace f_b20 : w8.frozen? ⟨w.heap.size + 1, 0, none⟩ = false := by subst hW14; first | (simp only [World.frozen?_setCell]; with_reducible assumption) | go_simp
    replace b21 : w8.cell? ⟨w.heap.size + 1, 1, none⟩ = some (.slice efb9 es.length dfb9) := by subst hW14; go_simp
    replace f_b21 : w8.frozen? ⟨w.heap.size + 1, 1, none⟩ = false := by subst hW14; first | (simp only [World.frozen?_setCell]; with_reducible assumption) | go_simp
    replace b150 := Kw8.cell (by omega) b150
    replace f_b150 := Kw8.frzO (by omega) z_b15 f_b150
    replace b151 := Kw8.cell (by omega) b151
    replace f_b151 := Kw8.frzO (by omega) z_b15 f_b151
    replace bf8 := bf8.chg Kw8 (by omega)
    replace O19 := O19.chgN Kw8 (by omega)
    clear Kw8
    have z_b1 : w.heap.size < w8.heap.size := qB b10
    have z_b2 : w.heap.size + 1 < w8.heap.size := qB b20
    have z_b15 : w3.heap.size < w8.heap.size := qB b150
    have s_w8 : w.heap.size ≤ w8.heap.size := Xw8.size
    clear hW14
    refine bodyPost_ret (v := .tuple #[.agg #[.slice (some ⟨w4.heap.size, 0, none⟩) N N, .slice efb9 es.length dfb9], .bool true]) (by simp only [results, Try.results14]; go_simp) rfl ?_
    have eqA : resA cells es (N : Int) = (fitL cells N, es, true) := by unfold resA; rw [hbb.out, hin.out, decide_eq_true (show (selL opP es es.length).length = 0 by omega), Int.toNat_natCast]; rfl
    rw [show cpL (List.replicate N 0) cells = fitL cells N by unfold cpL fitL; rw [List.length_replicate, List.drop_replicate]] at O19
    exact PBX.yes eqA ((bf8.buf.cellsQ (lo2 := w.heap.size) (by omega) q_bf8.out ((O19.lower (base' := w.heap.size) (by omega)).z) (CapZ.same (by rw [fitL_len])) (by rw [fitL_len]; omega) (fun _ g7 hg7 => by have h9 : w4.heap.size = g7 := Option.some.inj hg7; omega)).ext qXt) (Xw8.trans qXt)


end Go.Proofs.Ytgklaobfikbiiaa

/- Walks: rows, sums. -/
namespace Go.Proofs.Ytgklaobfikbiiaa
open Go.RowKit
set_option linter.unusedVariables false
set_option maxRecDepth 100000

end Go.Proofs.Ytgklaobfikbiiaa

/- Walks: bounds of the reference. -/
namespace Go.Proofs.Ytgklaobfikbiiaa
open Go.RowKit
set_option linter.unusedVariables false
set_option maxRecDepth 100000


end Go.Proofs.Ytgklaobfikbiiaa

/- Walks: values that are stored, of the program and of the reference. -/
namespace Go.Proofs.Ytgklaobfikbiiaa
open Go.RowKit
set_option linter.unusedVariables false
set_option maxRecDepth 100000


theorem PIntsB.nil {w w' : World} (h : Ext w w') : PIntsB w [] false (.returned (.tuple #[.slice none 0 0, .bool false])) w' :=
  ⟨_, rfl, Ints.nil _ _ _ _ (by simp) (fun _ => rfl), .inl ⟨rfl, none, 0, rfl, by simp, fun _ => rfl⟩, h⟩
end Go.Proofs.Ytgklaobfikbiiaa

/- Walks: views that are filled and copied, of both. -/
namespace Go.Proofs.Ytgklaobfikbiiaa
open Go.RowKit
set_option linter.unusedVariables false
set_option maxRecDepth 100000


/-- a list after v was stored at the first k places -/
def fillUp (mem ix : List Int) (v : Int) (k : Nat) : List Int := (List.range k).foldl (fun m i => m.set (ix.getD i 0).toNat v) mem
theorem fillUp_succ (mem ix : List Int) (v : Int) (k : Nat) : fillUp mem ix v (k+1) = (fillUp mem ix v k).set (ix.getD k 0).toNat v := by
 unfold fillUp; rw [List.range_succ, List.foldl_append]; rfl
theorem fillUp_len (mem ix : List Int) (v : Int) (k : Nat) : (fillUp mem ix v k).length = mem.length := by
 induction k with
 | zero => rfl
 | succ k ih => rw [fillUp_succ, List.length_set, ih]
theorem fillUp_step {mem ix : List Int} {v : Int} {k j : Nat} (hj : ix.getD k 0 = (j : Int)) : fillUp mem ix v (k+1) = (fillUp mem ix v k).set j v := by
 rw [fillUp_succ, hj]; rfl
def fillB (mem : List Int) (b : Int) (s t : List Int) (v : Int) : Bool := holdB mem b s t && inB 0 255 v
def fillA (mem : List Int) (b : Int) (s t : List Int) (v : Int) : List Int := if fillB mem b s t v then fillUp mem (offsL b s t) v (offsL b s t).length else []
theorem fill_in {mem : List Int} {b : Int} {s t : List Int} (h : holdB mem b s t = true) : viewB b s t = true ∧ (∀ x ∈ offsL b s t, 0 ≤ x ∧ x < mem.length) ∧ mem.length ≤ 60 ∧ (offsL b s t).length ≤ 60 := by
 obtain ⟨g1, g2, g3⟩ := hold_in h
 have g4 := shapeB_in (viewB_in g2).1
 unfold memB at g1
 simp only [Bool.and_eq_true, decide_eq_true_eq] at g1
 exact ⟨g2, g3, g1.1, by rw [offs_count]; omega⟩
theorem fillA_len {mem : List Int} {b : Int} {s t : List Int} {v : Int} (h : fillB mem b s t v = true) : (fillA mem b s t v).length = mem.length := by unfold fillA; rw [if_pos h, fillUp_len]
def copyA (mem : List Int) (b1 : Int) (s1 t1 : List Int) (b2 : Int) (s2 t2 : List Int) : List Int := if pairB mem b1 s1 t1 b2 s2 t2 then putL mem (offsL b1 s1 t1) (loadL mem b2 s2 t2) else []
theorem pair_in {mem : List Int} {b1 : Int} {s1 t1 : List Int} {b2 : Int} {s2 t2 : List Int} (h : pairB mem b1 s1 t1 b2 s2 t2 = true) : holdB mem b1 s1 t1 = true ∧ holdB mem b2 s2 t2 = true ∧ (loadL mem b2 s2 t2).length = (offsL b1 s1 t1).length := by
 unfold pairB at h
 simp only [Bool.and_eq_true] at h
 have he := sameB_eq h.2.2
 exact ⟨h.1, h.2.1, by unfold loadL; rw [takL_len, offs_count, offs_count, he]⟩
theorem copyA_len {mem : List Int} {b1 : Int} {s1 t1 : List Int} {b2 : Int} {s2 t2 : List Int} (h : pairB mem b1 s1 t1 b2 s2 t2 = true) : (copyA mem b1 s1 t1 b2 s2 t2).length = mem.length := by unfold copyA putL; rw [if_pos h, putUp_len]

set_option maxHeartbeats 3200000 in
theorem specFillView_c (mem : List Int) (a0 : Value) (b1 : Int) (u1 v1 : Value) (s1 t1 : List Int) (x : Int) (w : World) (l0 : Nat) (h0 : Ints w l0 a0 mem) (l1 m1 : Nat) (h1 : Ints w l1 u1 s1) (k1 : Ints w m1 v1 t1) :
  Calls Try.prog 92 #[a0, .agg #[.int .i64 b1, u1, v1], .int .i64 x] w (PIntsBC w (fillA mem b1 s1 t1 x) (fillB mem b1 s1 t1 x)) := by
 obtain ⟨p0, c0, rfl⟩ := h1.form
 obtain ⟨p1, c1, rfl⟩ := k1.form
 obtain ⟨p2, c2, rfl⟩ := h0.form
 go_enter Try.func92, Try.ntmps92
 go_wp2_with fail
 refine (sees_c mem (.slice p2 mem.length c2) b1 (.slice p0 s1.length c0) (.slice p1 t1.length c1) s1 t1 _ _ _ _ (h0.ext qXt) (h1.ext qXt) (k1.ext qXt)).mono ?_
 rintro e w1 ⟨rfl, xw1⟩
 have Lw1 : Ext w w1 := Ext.trans qXt xw1
 have Xw1 : Ext w w1 := Lw1
 have b10 : w1.cell? ⟨w.heap.size, 0, none⟩ = some (.int .i64 b1) := xw1.cell qCl
 have b11 : w1.cell? ⟨w.heap.size, 1, none⟩ = some (.slice p0 s1.length c0) := xw1.cell qCl
 have b12 : w1.cell? ⟨w.heap.size, 2, none⟩ = some (.slice p1 t1.length c1) := xw1.cell qCl
 have z_b1 : w.heap.size < w1.heap.size := qB b10
 have s_w1 : w.heap.size ≤ w1.heap.size := Xw1.size
 clear xw1
 cases hB2 : holdB mem b1 s1 t1
 ·
  replace hB2 := Lib.hid hB2
  go_wp2_with fail
  go_ret2
  rw [show fillA mem b1 s1 t1 x = [] by unfold fillA; rw [(show fillB mem b1 s1 t1 x = false from by unfold fillB; rw [hB2.out] <;> rfl)]; rfl, (show fillB mem b1 s1 t1 x = false from by unfold fillB; rw [hB2.out] <;> rfl)]
  exact PIntsBC.nil (Xw1.trans qXt)
 ·
  replace hB2 := Lib.hid hB2
  obtain ⟨hvw, hix, hm60, ho60⟩ := fill_in hB2.out
  replace hix := Lib.hid hix
  replace hvw := Lib.hid hvw
  go_wp2_with fail
  refine (inRange_c x 0 255 _).mono ?_
  rintro e w' ⟨rfl, rfl⟩
  cases hB3 : inB 0 255 x
  ·
   replace hB3 := Lib.hid hB3
   go_wp2_with fail
   go_ret2
   rw [show fillA mem b1 s1 t1 x = [] by unfold fillA; rw [(show fillB mem b1 s1 t1 x = false from by unfold fillB; rw [hB2.out, hB3.out] <;> rfl)]; rfl, (show fillB mem b1 s1 t1 x = false from by unfold fillB; rw [hB2.out, hB3.out] <;> rfl)]
   exact PIntsBC.nil (Xw1.trans qXt)
  ·
   replace hB3 := Lib.hid hB3
   go_wp2_with fail
   have Q7_b10 := Lib.hid b10
   have Q7_b11 := Lib.hid b11
   have Q7_b12 := Lib.hid b12
   have Q7_zb1 := z_b1
   have BL8 : Ext w1 w1 := Ext.refl _
   refine (copyIntsC_c (.slice p2 mem.length c2) mem _ _ (h0.ext (Xw1.trans qXt))).mono ?_
   rintro e w2 ⟨gr5, rr6, rfl, O4, Ggr5, Ggr5', czgr5, xw2⟩
   have Lw2 : Ext w1 w2 := Ext.trans qXt xw2
   have Xw2 : Ext w w2 := Xw1.trans Lw2
   replace b10 := Lw2.cell b10
   replace b11 := Lw2.cell b11
   replace b12 := Lw2.cell b12
   have z_b1 : w.heap.size < w2.heap.size := qB b10
   have s_w2 : w.heap.size ≤ w2.heap.size := Xw2.size
   have BL8_w2 : Ext w1 w2 := BL8.trans Lw2
   clear xw2
   go_wp2_with fail
   refine (offsets_c b1 (.slice p0 s1.length c0) (.slice p1 t1.length c1) s1 t1 _ _ _ (h1.ext (Xw2.trans qXt)) (k1.ext (Xw2.trans qXt)) (vw hvw.out).1 (vw hvw.out).2.1 (vw hvw.out).2.2.1).mono ?_
   rintro e w3 ⟨fv9, rfl, i10, -, xw3⟩
   have Lw3 : Ext w2 w3 := Ext.trans qXt xw3
   have Xw3 : Ext w w3 := Xw2.trans Lw3
   replace b10 := Lw3.cell b10
   replace b11 := Lw3.cell b11
   replace b12 := Lw3.cell b12
   have z_b1 : w.heap.size < w3.heap.size := qB b10
   replace O4 := O4.ext Lw3
   have s_w3 : w.heap.size ≤ w3.heap.size := Xw3.size
   have BL8_w3 : Ext w1 w3 := BL8_w2.trans Lw3
   clear xw3
   obtain ⟨afv9, cfv9, rfl⟩ := i10.form
   go_wp2_with fail
   skip
   go_loopw [10] (fun i wr => ∃ (k : Nat), k ≤ (offsL b1 s1 t1).length ∧ i = .int .i64 k ∧ OwnI wr (w1.heap.size) (.slice (some ⟨gr5, 0, none⟩) mem.length rr6) (fillUp mem (offsL b1 s1 t1) x k) ∧ Chg gr5 (gr5 + 1) w3 wr ∧ Ext w1 wr) (fun i _ => (offsL b1 s1 t1).length - (intOf i).toNat)
   case atStart => exact ⟨0, Nat.zero_le _, rfl, (show OwnI _ _ _ (fillUp mem (offsL b1 s1 t1) x 0) from (O4.ext qXt)), Chg.refl _ _ _, BL8_w3⟩
   case round =>
    obtain ⟨k, hk, rfl, O4n, Kr11, Er12⟩ := hrel
    have Xwr : Ext w wr := Xw1.trans Er12
    have s_wr : w.heap.size ≤ wr.heap.size := Xwr.size
    have t_wr : w3.heap.size ≤ wr.heap.size := Kr11.size
    replace b10 := Er12.cell Q7_b10.out
    replace b11 := Er12.cell Q7_b11.out
    replace b12 := Er12.cell Q7_b12.out
    have z_b1 : w.heap.size < wr.heap.size := qB b10
    clear O4
    have O4 := O4n
    clear O4n
    replace i10 := i10.chg Kr11 (by omega)
    by_cases hlt : k < (offsL b1 s1 t1).length
    ·
     have hkI : (k : Int) < (offsL b1 s1 t1).length := by omega
     obtain ⟨hi0, hi1⟩ := hix.out _ (getD_mem hlt)
     obtain ⟨j, hj⟩ : ∃ j : Nat, (offsL b1 s1 t1).getD k 0 = j := ⟨((offsL b1 s1 t1).getD k 0).toNat, by omega⟩
     rw [hj] at hi0 hi1
     replace hj := Lib.hid hj
     have hs := Lib.hid (fillUp_step (mem := mem) (v := x) hj.out)
     have hN_e15 : k < (offsL b1 s1 t1).length := (by omega)
     have hI_e15 : (k : Int) < ((offsL b1 s1 t1).length : Int) := by omega
     obtain ⟨bl13, ol14, rfl, e150⟩ := i10.at k (by omega)
     obtain ⟨v16, hv16⟩ : ∃ v, (offsL b1 s1 t1).getD k 0 = v := ⟨_, rfl⟩
     rw [hv16] at e150
     replace hv16 := Lib.hid hv16
     have y_e15 : bl13 < wr.heap.size := qB e150
     have z_e15 := y_e15
     obtain rfl : v16 = (j : Int) := by rw [← hv16.out]; exact hj.out
     have A17 := O4.cell j (by rw [fillUp_len]; omega)
     obtain ⟨A17a, A17b⟩ := A17
     go_wp2_with fail
     clear e150 z_e15
     generalize hW2 : (wr.setCell ⟨gr5, j, none⟩ (.int .i64 x)) = w4 at *
     have Kw4 : Chg (gr5) (gr5 + 1) wr w4 := by subst hW2; exact qCh
     have Xw4 : Ext w w4 := by subst hW2; exact qXt
     have BL8_w4 : Ext w1 w4 := by subst hW2; exact qXt
     have Kr11_w4 : Chg gr5 (gr5 + 1) w3 w4 := Chg.trans Kr11 Kw4
     replace b10 := BL8_w4.cell Q7_b10.out
     replace b11 := BL8_w4.cell Q7_b11.out
     replace b12 := BL8_w4.cell Q7_b12.out
     have n_O4 := O4.set j (x) (by first | omega | (simp; omega) | (rw [putUp_len]; simp; omega) | (rw [addUp_len]; omega) | (rw [fillUp_len]; omega))
     rw [hW2] at n_O4
     replace O4 := n_O4
     clear n_O4
     replace i10 := i10.chg Kw4 (by omega)
     clear Kw4
     have z_b1 : w.heap.size < w4.heap.size := qB b10
     have s_w4 : w.heap.size ≤ w4.heap.size := Xw4.size
     clear hW2
     clear A17a A17b
     go_roundw
     case rel => exact ⟨k + 1, by omega, by go_num, (by rw [hs.out]; exact O4.ext qXt), Kr11_w4.ext qXt, BL8_w4.trans qXt⟩
     case measure => simp [intOf]; omega
    ·
     have hkI : ¬ (k : Int) < (offsL b1 s1 t1).length := by omega
     go_wp2_with fail
     go_ret2
     rw [show fillA mem b1 s1 t1 x = fillUp mem (offsL b1 s1 t1) x k by unfold fillA; rw [(show fillB mem b1 s1 t1 x = true from by unfold fillB; rw [hB2.out, hB3.out] <;> rfl), if_pos rfl, show k = (offsL b1 s1 t1).length by omega], (show fillB mem b1 s1 t1 x = true from by unfold fillB; rw [hB2.out, hB3.out] <;> rfl)]
     exact ⟨_, rfl, (O4.ints (by rw [fillUp_len]; omega)).lower (by omega), (O4.lower (by omega)).z, CapZ.row czgr5 (by rw [fillUp_len]) rfl, Xwr⟩

set_option maxHeartbeats 3200000 in
theorem putZ0 (mem vs : List Int) (a0 a2 : Value) (b1 : Int) (u1 v1 : Value) (s1 t1 : List Int) (w : World) (l0 l1 m1 l2 : Nat) (h0 : Ints w l0 a0 mem) (h1 : Ints w l1 u1 s1) (k1 : Ints w m1 v1 t1) (h2 : Ints w l2 a2 vs) (hml : mem.length ≤ 60) (ha : viewB b1 s1 t1 = true) (hix : ∀ x ∈ offsL b1 s1 t1, 0 ≤ x ∧ x < mem.length) (hvl : vs.length = (offsL b1 s1 t1).length) (hme : mem = []) :
  Calls Try.prog 100 #[a0, .agg #[.int .i64 b1, u1, v1], a2] w (PIntsZ w (putL mem (offsL b1 s1 t1) vs)) := by
 obtain ⟨p0, c0, rfl⟩ := h1.form
 obtain ⟨p1, c1, rfl⟩ := k1.form
 obtain ⟨p2, c2, rfl⟩ := h0.form
 obtain ⟨p3, c3, rfl⟩ := h2.form
 have hz : Hid ((offsL b1 s1 t1).length = 0) := Lib.hid (by
  cases hl : offsL b1 s1 t1 with
  | nil => rfl
  | cons x r => have := hix x (by rw [hl]; simp); subst hme; simp at this; omega)
 have hvw := Lib.hid ha
 clear ha hix hvl
 replace hme := Lib.hid hme
 go_enter Try.func100, Try.ntmps100
 go_upto_region 1 with fail
 generalize hW4 : w.alloc (.cells #[.int .i64 b1, .slice p0 s1.length c0, .slice p1 t1.length c1] 30) = w1 at *
 have Lw1 : Ext w w1 := by subst hW4; exact qXt
 have Xw1 : Ext w w1 := by subst hW4; exact Lw1
 have b10 : w1.cell? ⟨w.heap.size, 0, none⟩ = some (.int .i64 b1) := by subst hW4; exact qCl
 have b11 : w1.cell? ⟨w.heap.size, 1, none⟩ = some (.slice p0 s1.length c0) := by subst hW4; exact qCl
 have b12 : w1.cell? ⟨w.heap.size, 2, none⟩ = some (.slice p1 t1.length c1) := by subst hW4; exact qCl
 have z_b1 : w.heap.size < w1.heap.size := qB b10
 have s_w1 : w.heap.size ≤ w1.heap.size := Xw1.size
 clear hW4
 go_wp2_with fail
 have Q5_b10 := Lib.hid b10
 have Q5_b11 := Lib.hid b11
 have Q5_b12 := Lib.hid b12
 have Q5_zb1 := z_b1
 have BL6 : Ext w1 w1 := Ext.refl _
 refine (copyIntsC_c (.slice p2 mem.length c2) mem _ _ (h0.ext (Xw1.trans qXt))).mono ?_
 rintro e w2 ⟨gr3, rr4, rfl, O2, Ggr3, Ggr3', czgr3, xw2⟩
 have Lw2 : Ext w1 w2 := Ext.trans qXt xw2
 have Xw2 : Ext w w2 := Xw1.trans Lw2
 replace b10 := Lw2.cell b10
 replace b11 := Lw2.cell b11
 replace b12 := Lw2.cell b12
 have z_b1 : w.heap.size < w2.heap.size := qB b10
 have s_w2 : w.heap.size ≤ w2.heap.size := Xw2.size
 have BL6_w2 : Ext w1 w2 := BL6.trans Lw2
 clear xw2
 go_wp2_with fail
 refine (offsets_c b1 (.slice p0 s1.length c0) (.slice p1 t1.length c1) s1 t1 _ _ _ (h1.ext (Xw2.trans qXt)) (k1.ext (Xw2.trans qXt)) (vw hvw.out).1 (vw hvw.out).2.1 (vw hvw.out).2.2.1).mono ?_
 rintro e w3 ⟨fv7, rfl, i8, -, xw3⟩
 have Lw3 : Ext w2 w3 := Ext.trans qXt xw3
 have Xw3 : Ext w w3 := Xw2.trans Lw3
 replace b10 := Lw3.cell b10
 replace b11 := Lw3.cell b11
 replace b12 := Lw3.cell b12
 have z_b1 : w.heap.size < w3.heap.size := qB b10
 replace O2 := O2.ext Lw3
 have s_w3 : w.heap.size ≤ w3.heap.size := Xw3.size
 have BL6_w3 : Ext w1 w3 := BL6_w2.trans Lw3
 clear xw3
 obtain ⟨afv7, cfv7, rfl⟩ := i8.form
 go_wp2_with fail
 skip
 go_loopw [9] (fun i wr => i = .int .i64 0 ∧ Ext w3 wr) (fun _ _ => 0)
 case atStart => exact ⟨rfl, qXt⟩
 case round =>
  obtain ⟨rfl, Lwr⟩ := hrel
  have Xwr : Ext w wr := Xw3.trans Lwr
  have s_wr : w.heap.size ≤ wr.heap.size := Xwr.size
  have t_wr : w3.heap.size ≤ wr.heap.size := Lwr.size
  replace b10 := Lwr.cell b10
  replace b11 := Lwr.cell b11
  replace b12 := Lwr.cell b12
  have z_b1 : w.heap.size < wr.heap.size := qB b10
  replace O2 := O2.ext Lwr
  replace i8 := i8.ext Lwr
  have BL6_wr : Ext w1 wr := BL6_w3.trans Lwr
  have Bwr : Ext w3 wr := Lwr
  skip
  ·
   have hkI : ¬ (0 : Int) < (offsL b1 s1 t1).length := by have := hz.out; omega
   go_wp2_with fail
   go_ret
   rw [show putL mem (offsL b1 s1 t1) vs = mem by unfold putL; rw [hz.out]; rfl]
   exact ⟨_, rfl, (O2.ints (by omega)).lower (by omega), (O2.lower (by omega)).z, CapZ.row czgr3 rfl rfl, (Xwr.trans qXt)⟩

set_option maxHeartbeats 1600000 in
theorem putZ_c (mem vs : List Int) (a0 a2 : Value) (b1 : Int) (u1 v1 : Value) (s1 t1 : List Int) (w : World) (l0 l1 m1 l2 : Nat) (h0 : Ints w l0 a0 mem) (h1 : Ints w l1 u1 s1) (k1 : Ints w m1 v1 t1) (h2 : Ints w l2 a2 vs) (hml : mem.length ≤ 60) (ha : viewB b1 s1 t1 = true) (hix : ∀ x ∈ offsL b1 s1 t1, 0 ≤ x ∧ x < mem.length) (hvl : vs.length = (offsL b1 s1 t1).length) :
  Calls Try.prog 100 #[a0, .agg #[.int .i64 b1, u1, v1], a2] w (PIntsZ w (putL mem (offsL b1 s1 t1) vs)) := by
 by_cases hme : mem = []
 ·
  exact putZ0 mem vs a0 a2 b1 u1 v1 s1 t1 w l0 l1 m1 l2 h0 h1 k1 h2 hml ha hix hvl hme
 ·
  refine (put_c mem vs a0 a2 b1 u1 v1 s1 t1 w l0 l1 m1 l2 h0 h1 k1 h2 hml ha hix hvl).mono fun e w' h => ?_
  obtain ⟨v, h1, h2, h3, h4⟩ := h
  exact ⟨v, h1, h2, h3, Lib.hid (fun h => absurd (List.eq_nil_of_length_eq_zero (by rw [← putUp_len mem (offsL b1 s1 t1) vs (offsL b1 s1 t1).length]; exact congrArg List.length h)) hme), h4⟩

set_option maxHeartbeats 3200000 in
theorem specCopyView_c (mem : List Int) (a0 : Value) (b1 : Int) (u1 v1 : Value) (s1 t1 : List Int) (b2 : Int) (u2 v2 : Value) (s2 t2 : List Int) (w : World) (l0 : Nat) (h0 : Ints w l0 a0 mem) (l1 m1 : Nat) (h1 : Ints w l1 u1 s1) (k1 : Ints w m1 v1 t1) (l2 m2 : Nat) (h2 : Ints w l2 u2 s2) (k2 : Ints w m2 v2 t2) :
  Calls Try.prog 93 #[a0, .agg #[.int .i64 b1, u1, v1], .agg #[.int .i64 b2, u2, v2]] w (PIntsBC w (copyA mem b1 s1 t1 b2 s2 t2) (pairB mem b1 s1 t1 b2 s2 t2)) := by
 obtain ⟨p0, c0, rfl⟩ := h1.form
 obtain ⟨p1, c1, rfl⟩ := k1.form
 obtain ⟨p2, c2, rfl⟩ := h0.form
 obtain ⟨p4, c4, rfl⟩ := h2.form
 obtain ⟨p5, c5, rfl⟩ := k2.form
 go_enter Try.func93, Try.ntmps93
 go_wp2_with fail
 refine (pair_c mem (.slice p2 mem.length c2) b1 (.slice p0 s1.length c0) (.slice p1 t1.length c1) s1 t1 b2 (.slice p4 s2.length c4) (.slice p5 t2.length c5) s2 t2 _ _ _ _ _ _ (h0.ext qXt) (h1.ext qXt) (k1.ext qXt) (h2.ext qXt) (k2.ext qXt)).mono ?_
 rintro e w1 ⟨rfl, xw1⟩
 have Lw1 : Ext w w1 := Ext.trans qXt xw1
 have Xw1 : Ext w w1 := Lw1
 have b10 : w1.cell? ⟨w.heap.size, 0, none⟩ = some (.int .i64 b1) := xw1.cell qCl
 have b11 : w1.cell? ⟨w.heap.size, 1, none⟩ = some (.slice p0 s1.length c0) := xw1.cell qCl
 have b12 : w1.cell? ⟨w.heap.size, 2, none⟩ = some (.slice p1 t1.length c1) := xw1.cell qCl
 have b20 : w1.cell? ⟨w.heap.size + 1, 0, none⟩ = some (.int .i64 b2) := xw1.cell qCl
 have b21 : w1.cell? ⟨w.heap.size + 1, 1, none⟩ = some (.slice p4 s2.length c4) := xw1.cell qCl
 have b22 : w1.cell? ⟨w.heap.size + 1, 2, none⟩ = some (.slice p5 t2.length c5) := xw1.cell qCl
 have z_b1 : w.heap.size < w1.heap.size := qB b10
 have z_b2 : w.heap.size + 1 < w1.heap.size := qB b20
 have s_w1 : w.heap.size ≤ w1.heap.size := Xw1.size
 clear xw1
 cases hB3 : pairB mem b1 s1 t1 b2 s2 t2
 ·
  replace hB3 := Lib.hid hB3
  go_wp2_with fail
  go_ret2
  rw [show copyA mem b1 s1 t1 b2 s2 t2 = [] by unfold copyA; rw [hB3.out]; rfl, hB3.out]
  exact PIntsBC.nil (Xw1.trans qXt)
 ·
  replace hB3 := Lib.hid hB3
  obtain ⟨hp1, hp2, hp3⟩ := pair_in hB3.out
  obtain ⟨hf1, hf2, hf3, hf4⟩ := fill_in hp1
  obtain ⟨hg1, hg2, hg3, hg4⟩ := fill_in hp2
  have hll : (loadL mem b2 s2 t2).length ≤ 60 := by omega
  replace hp1 := Lib.hid hp1
  replace hp2 := Lib.hid hp2
  replace hp3 := Lib.hid hp3
  replace hf1 := Lib.hid hf1
  replace hf2 := Lib.hid hf2
  replace hg1 := Lib.hid hg1
  clear hg2
  go_wp2_with fail
  refine wp_region_tail (S := fun w' => w'.cell? ⟨w.heap.size, 0, none⟩ = some (.int .i64 b1) ∧ w'.cell? ⟨w.heap.size, 1, none⟩ = some (.slice p0 s1.length c0) ∧ w'.cell? ⟨w.heap.size, 2, none⟩ = some (.slice p1 t1.length c1) ∧ w'.cell? ⟨w.heap.size + 1, 0, none⟩ = some (.int .i64 b2) ∧ w'.cell? ⟨w.heap.size + 1, 1, none⟩ = some (.slice p4 s2.length c4) ∧ w'.cell? ⟨w.heap.size + 1, 2, none⟩ = some (.slice p5 t2.length c5)) (fun i => decide (8 ≤ i)) qKr ⟨b10, b11, b12, b20, b21, b22⟩ (fun hHeld => ?_)
  refine qTk (v := ?_) 0 rfl (.inl ⟨by rfl, ?_⟩) ?_
  rotate_left
  ·
   (intro w hSw; (try dsimp only at hSw); go_simp; try with_reducible rfl)
  try simp only [Act.put, qa, qb, qc, qD, qE, qF]
  refine qTk (v := ?_) 1 rfl (.inl ⟨by rfl, ?_⟩) ?_
  rotate_left
  ·
   (intro w hSw; (try dsimp only at hSw); go_simp; try with_reducible rfl)
  try simp only [Act.put, qa, qb, qc, qD, qE, qF]
  refine qTk (v := ?_) 2 rfl (.inl ⟨by rfl, ?_⟩) ?_
  rotate_left
  ·
   (intro w hSw; (try dsimp only at hSw); go_simp; try with_reducible rfl)
  try simp only [Act.put, qa, qb, qc, qD, qE, qF]
  refine qTk (v := ?_) 3 rfl (.inl ⟨by rfl, ?_⟩) ?_
  rotate_left
  ·
   (intro w hSw; (try dsimp only at hSw); go_simp; try with_reducible rfl)
  try simp only [Act.put, qa, qb, qc, qD, qE, qF]
  refine wpTail_one (i := 4) qKr rfl rfl (fun K hK => ?_)
  try simp only [Act.put, qa, qb, qc, qD, qE, qF]
  go_simp
  refine (load_c mem (.slice p2 mem.length c2) b2 (.slice p4 s2.length c4) (.slice p5 t2.length c5) s2 t2 _ _ _ _ (h0.ext (Xw1.trans qXt)) (h2.ext (Xw1.trans qXt)) (k2.ext (Xw1.trans qXt)) hp2.out).mono ?_
  rintro e w2 ⟨fv4, rfl, i5, i5z, xw2⟩
  have Lw2 : Ext w1 w2 := Ext.trans qXt xw2
  have Xw2 : Ext w w2 := Xw1.trans Lw2
  replace b10 := Lw2.cell b10
  replace b11 := Lw2.cell b11
  replace b12 := Lw2.cell b12
  replace b20 := Lw2.cell b20
  replace b21 := Lw2.cell b21
  replace b22 := Lw2.cell b22
  have z_b1 : w.heap.size < w2.heap.size := qB b10
  have z_b2 : w.heap.size + 1 < w2.heap.size := qB b20
  have s_w2 : w.heap.size ≤ w2.heap.size := Xw2.size
  clear xw2
  try simp only [World.size_alloc, World.size_drew] at i5
  try simp only [World.size_alloc, World.size_drew] at i5z
  obtain ⟨afv4, cfv4, rfl⟩ := i5.form
  refine hK.out _ _ ⟨b10, b11, b12, b20, b21, b22⟩ (fun hHeld => ?_)
  clear hK K
  try simp only [Act.put, qa, qb, qc, qD, qE, qF]
  refine wpTail_one (i := 5) qKr rfl rfl (fun K hK => ?_)
  try simp only [Act.put, qa, qb, qc, qD, qE, qF]
  go_simp
  refine (putZ_c mem (loadL mem b2 s2 t2) (.slice p2 mem.length c2) (.slice afv4 ((loadL mem b2 s2 t2).length) cfv4) b1 (.slice p0 s1.length c0) (.slice p1 t1.length c1) s1 t1 _ _ _ _ _ (h0.ext (Xw2.trans qXt)) (h1.ext (Xw2.trans qXt)) (k1.ext (Xw2.trans qXt)) (i5.ext qXt) hf3 hf1.out hf2.out hp3.out).mono ?_
  rintro e w3 ⟨fv6, rfl, i7, i7z, czfv6, xw3⟩
  have Lw3 : Ext w2 w3 := Ext.trans qXt xw3
  have Xw3 : Ext w w3 := Xw2.trans Lw3
  replace b10 := Lw3.cell b10
  replace b11 := Lw3.cell b11
  replace b12 := Lw3.cell b12
  replace b20 := Lw3.cell b20
  replace b21 := Lw3.cell b21
  replace b22 := Lw3.cell b22
  have z_b1 : w.heap.size < w3.heap.size := qB b10
  have z_b2 : w.heap.size + 1 < w3.heap.size := qB b20
  replace i5 := i5.ext Lw3
  replace i5z := i5z.ext Lw3
  have s_w3 : w.heap.size ≤ w3.heap.size := Xw3.size
  clear xw3
  try simp only [World.size_alloc, World.size_drew] at i7
  try simp only [World.size_alloc, World.size_drew] at i7z
  obtain ⟨afv6, cfv6, rfl⟩ := i7.form
  refine hK.out _ _ ⟨b10, b11, b12, b20, b21, b22⟩ (fun hHeld => ?_)
  clear hK K
  try simp only [Act.put, qa, qb, qc, qD, qE, qF]
  refine qTk (v := ?_) 6 rfl (.inl ⟨by rfl, ?_⟩) ?_
  rotate_left
  ·
   (intro w hSw; (try dsimp only at hSw); go_simp; try with_reducible rfl)
  try simp only [Act.put, qa, qb, qc, qD, qE, qF]
  refine qTk (v := ?_) 7 rfl (.inl ⟨by rfl, ?_⟩) ?_
  rotate_left
  ·
   (intro w hSw; (try dsimp only at hSw); go_simp; try with_reducible rfl)
  try simp only [Act.put, qa, qb, qc, qD, qE, qF]
  refine wpTail_done qKr ?_ _
  clear hHeld 
  go_wp2_with fail
  go_ret2
  rw [show copyA mem b1 s1 t1 b2 s2 t2 = putL mem (offsL b1 s1 t1) (loadL mem b2 s2 t2) by unfold copyA; rw [hB3.out]; rfl, hB3.out]
  exact ⟨_, rfl, i7.lower (by omega), i7z.lower (by omega), czfv6, Xw3⟩


end Go.Proofs.Ytgklaobfikbiiaa

/- Answers that are buffers: fill, copy, part; plain words and laws. No condition. -/
namespace Go.Proofs.Ytgklaobfikbiiaa
open Go.RowKit
set_option linter.unusedVariables false
set_option maxRecDepth 100000

/-- FillExport -/
def filA (cells : List Int) (es : List Exp) (i v : Int) : BBool :=
  if (bufB cells es && opB es i) && inB 0 255 v then (fillA cells (expAt es i.toNat).b (expAt es i.toNat).s (expAt es i.toNat).t v, es, true) else noBuf
/-- CopyExport -/
def cpyA (cells : List Int) (es : List Exp) (i j : Int) : BBool :=
  if (bufB cells es && (opB es i && opB es j)) && pairB cells (expAt es i.toNat).b (expAt es i.toNat).s (expAt es i.toNat).t (expAt es j.toNat).b (expAt es j.toNat).s (expAt es j.toNat).t then
    (copyA cells (expAt es i.toNat).b (expAt es i.toNat).s (expAt es i.toNat).t (expAt es j.toNat).b (expAt es j.toNat).s (expAt es j.toNat).t, es, true) else noBuf
/-- ExportPart -/
def parA (cells : List Int) (es : List Exp) (i d F T B : Int) (hf ht : Bool) : BBool :=
  if ((bufB cells es && opB es i) && decide (es.length < 8)) && (sliceV (expAt es i.toNat).b (expAt es i.toNat).s (expAt es i.toNat).t d F T B hf ht).2.2.2 then
    (cells, es ++ [⟨i, (sliceV (expAt es i.toNat).b (expAt es i.toNat).s (expAt es i.toNat).t d F T B hf ht).1, (sliceV (expAt es i.toNat).b (expAt es i.toNat).s (expAt es i.toNat).t d F T B hf ht).2.1, (sliceV (expAt es i.toNat).b (expAt es i.toNat).s (expAt es i.toNat).t d F T B hf ht).2.2.1, true⟩], true) else noBuf
end Go.Proofs.Ytgklaobfikbiiaa

/- Walks: FillExport of both. -/
namespace Go.Proofs.Ytgklaobfikbiiaa
open Go.RowKit
set_option linter.unusedVariables false
set_option maxRecDepth 100000

set_option maxHeartbeats 3200000 in
theorem specFillExport_c (cells : List Int) (es : List Exp) (cv ev : Value) (i x : Int) (w : World) (l1 l2 : Nat) (h1 : Ints w l1 cv cells) (h2 : Exps w l2 ev es) :
  Calls Try.prog 88 #[.agg #[cv, ev], .int .i64 i, .int .i64 x] w (PBX w (filA cells es i x)) := by
 obtain ⟨p0, c0, rfl⟩ := h1.form
 obtain ⟨p1, c1, rfl⟩ := h2.form
 have he1 := h2.len
 have hc1 := h1.len
 go_enter Try.func88, Try.ntmps88
 go_wp2_with fail
 refine (validBuffer_c cells es (.slice p0 cells.length c0) (.slice p1 es.length c1) _ _ _ (h1.ext qXt) (h2.ext qXt)).mono ?_
 rintro e w1 ⟨rfl, xw1⟩
 have Lw1 : Ext w w1 := Ext.trans qXt xw1
 have Xw1 : Ext w w1 := Lw1
 have b10 : w1.cell? ⟨w.heap.size, 0, none⟩ = some (.slice p0 cells.length c0) := xw1.cell qCl
 have b11 : w1.cell? ⟨w.heap.size, 1, none⟩ = some (.slice p1 es.length c1) := xw1.cell qCl
 have b20 : w1.cell? ⟨w.heap.size + 1, 0, none⟩ = some (.slice none 0 0) := xw1.cell qCl
 have b21 : w1.cell? ⟨w.heap.size + 1, 1, none⟩ = some (.slice none 0 0) := xw1.cell qCl
 have f_b20 : w1.frozen? ⟨w.heap.size + 1, 0, none⟩ = false := xw1.frz (by simp <;> omega) qFz
 have f_b21 : w1.frozen? ⟨w.heap.size + 1, 1, none⟩ = false := xw1.frz (by simp <;> omega) qFz
 have z_b1 : w.heap.size < w1.heap.size := qB b10
 have z_b2 : w.heap.size + 1 < w1.heap.size := qB b20
 have s_w1 : w.heap.size ≤ w1.heap.size := Xw1.size
 clear xw1
 cases hB3 : bufB cells es
 ·
  replace hB3 := Lib.hid hB3
  go_wp2_with fail
  generalize hW5 : ((w1.setCell ⟨w.heap.size + 1, 0, none⟩ (.slice none 0 0)).setCell ⟨w.heap.size + 1, 1, none⟩ (.slice none 0 0)) = w2 at *
  have Kw2 : Chg (w.heap.size + 1) (w.heap.size + 1 + 1) w1 w2 := by subst hW5; exact qCh
  have Xw2 : Ext w w2 := by subst hW5; exact qXt
  replace b10 := Kw2.cell (by omega) b10
  replace b11 := Kw2.cell (by omega) b11
  replace b20 : w2.cell? ⟨w.heap.size + 1, 0, none⟩ = some (.slice none 0 0) := by subst hW5; go_simp
  replace f_b20 : w2.frozen? ⟨w.heap.size + 1, 0, none⟩ = false := by subst hW5; first | (simp only [World.frozen?_setCell]; with_reducible assumption) | go_simp
  replace b21 : w2.cell? ⟨w.heap.size + 1, 1, none⟩ = some (.slice none 0 0) := by subst hW5; go_simp
  replace f_b21 : w2.frozen? ⟨w.heap.size + 1, 1, none⟩ = false := by subst hW5; first | (simp only [World.frozen?_setCell]; with_reducible assumption) | go_simp
  clear Kw2
  have z_b1 : w.heap.size < w2.heap.size := qB b10
  have z_b2 : w.heap.size + 1 < w2.heap.size := qB b20
  have s_w2 : w.heap.size ≤ w2.heap.size := Xw2.size
  clear hW5
  refine bodyPost_ret (v := .tuple #[.agg #[.slice none 0 0, .slice none 0 0], .bool false]) (by simp only [results, Try.results88]; go_simp) rfl ?_
  exact PBX.no (by unfold filA; rw [(show (bufB cells es && opB es i) = false by rw [hB3.out]; rfl), Bool.false_and]; rfl) (Xw2.trans qXt)
 ·
  replace hB3 := Lib.hid hB3
  have hbb : Hid (bufB cells es = true) := Lib.hid hB3.out
  go_wp2_with fail
  refine (specIsOpen_c cells es (.slice p0 cells.length c0) (.slice p1 es.length c1) i _ _ _ (h1.ext (Xw1.trans qXt)) (h2.ext (Xw1.trans qXt))).mono ?_
  rintro e w2 ⟨rfl, xw2⟩
  have Lw2 : Ext w1 w2 := Ext.trans qXt xw2
  have Xw2 : Ext w w2 := Xw1.trans Lw2
  replace b10 := Lw2.cell b10
  replace b11 := Lw2.cell b11
  replace b20 := Lw2.cell b20
  replace b21 := Lw2.cell b21
  replace f_b20 := Lw2.frz z_b2 f_b20
  replace f_b21 := Lw2.frz z_b2 f_b21
  have z_b1 : w.heap.size < w2.heap.size := qB b10
  have z_b2 : w.heap.size + 1 < w2.heap.size := qB b20
  have s_w2 : w.heap.size ≤ w2.heap.size := Xw2.size
  clear xw2
  cases hB4 : opB es i
  ·
   replace hB4 := Lib.hid hB4
   go_wp2_with fail
   generalize hW6 : ((w2.setCell ⟨w.heap.size + 1, 0, none⟩ (.slice none 0 0)).setCell ⟨w.heap.size + 1, 1, none⟩ (.slice none 0 0)) = w3 at *
   have Kw3 : Chg (w.heap.size + 1) (w.heap.size + 1 + 1) w2 w3 := by subst hW6; exact qCh
   have Xw3 : Ext w w3 := by subst hW6; exact qXt
   replace b10 := Kw3.cell (by omega) b10
   replace b11 := Kw3.cell (by omega) b11
   replace b20 : w3.cell? ⟨w.heap.size + 1, 0, none⟩ = some (.slice none 0 0) := by subst hW6; go_simp
   replace f_b20 : w3.frozen? ⟨w.heap.size + 1, 0, none⟩ = false := by subst hW6; first | (simp only [World.frozen?_setCell]; with_reducible assumption) | go_simp
   replace b21 : w3.cell? ⟨w.heap.size + 1, 1, none⟩ = some (.slice none 0 0) := by subst hW6; go_simp
   replace f_b21 : w3.frozen? ⟨w.heap.size + 1, 1, none⟩ = false := by subst hW6; first | (simp only [World.frozen?_setCell]; with_reducible assumption) | go_simp
   clear Kw3
   have z_b1 : w.heap.size < w3.heap.size := qB b10
   have z_b2 : w.heap.size + 1 < w3.heap.size := qB b20
   have s_w3 : w.heap.size ≤ w3.heap.size := Xw3.size
   clear hW6
   refine bodyPost_ret (v := .tuple #[.agg #[.slice none 0 0, .slice none 0 0], .bool false]) (by simp only [results, Try.results88]; go_simp) rfl ?_
   exact PBX.no (by unfold filA; rw [(show (bufB cells es && opB es i) = false by rw [hB4.out, Bool.and_false]), Bool.false_and]; rfl) (Xw3.trans qXt)
  ·
   replace hB4 := Lib.hid hB4
   have hop : Hid (opB es i = true) := Lib.hid hB4.out
   obtain ⟨hi0, hi1, hi2⟩ := opB_in hop.out
   obtain ⟨k, rfl⟩ : ∃ k : Nat, i = k := ⟨i.toNat, by omega⟩
   have hlt : k < es.length := by omega
   have hesne : Hid (es ≠ []) := Lib.hid (fun h => by rw [h] at hlt; exact absurd hlt (by simp))
   replace hi2 := Lib.hid hi2
   go_wp2_with fail
   refine (inRange_c x 0 255 _).mono ?_
   rintro e w' ⟨rfl, rfl⟩
   cases hB5 : inB 0 255 x
   ·
    replace hB5 := Lib.hid hB5
    go_wp2_with fail
    generalize hW7 : ((w2.setCell ⟨w.heap.size + 1, 0, none⟩ (.slice none 0 0)).setCell ⟨w.heap.size + 1, 1, none⟩ (.slice none 0 0)) = w3 at *
    have Kw3 : Chg (w.heap.size + 1) (w.heap.size + 1 + 1) w2 w3 := by subst hW7; exact qCh
    have Xw3 : Ext w w3 := by subst hW7; exact qXt
    replace b10 := Kw3.cell (by omega) b10
    replace b11 := Kw3.cell (by omega) b11
    replace b20 : w3.cell? ⟨w.heap.size + 1, 0, none⟩ = some (.slice none 0 0) := by subst hW7; go_simp
    replace f_b20 : w3.frozen? ⟨w.heap.size + 1, 0, none⟩ = false := by subst hW7; first | (simp only [World.frozen?_setCell]; with_reducible assumption) | go_simp
    replace b21 : w3.cell? ⟨w.heap.size + 1, 1, none⟩ = some (.slice none 0 0) := by subst hW7; go_simp
    replace f_b21 : w3.frozen? ⟨w.heap.size + 1, 1, none⟩ = false := by subst hW7; first | (simp only [World.frozen?_setCell]; with_reducible assumption) | go_simp
    clear Kw3
    have z_b1 : w.heap.size < w3.heap.size := qB b10
    have z_b2 : w.heap.size + 1 < w3.heap.size := qB b20
    have s_w3 : w.heap.size ≤ w3.heap.size := Xw3.size
    clear hW7
    refine bodyPost_ret (v := .tuple #[.agg #[.slice none 0 0, .slice none 0 0], .bool false]) (by simp only [results, Try.results88]; go_simp) rfl ?_
    exact PBX.no (by unfold filA; rw [hB5.out, Bool.and_false]; rfl) (Xw3.trans qXt)
   ·
    replace hB5 := Lib.hid hB5
    go_wp2_with fail
    have Q9_b10 := Lib.hid b10
    have Q9_b11 := Lib.hid b11
    have Q9_zb1 := z_b1
    have Q9_b20 := Lib.hid b20
    have Q9_f_b20 := Lib.hid f_b20
    have Q9_b21 := Lib.hid b21
    have Q9_f_b21 := Lib.hid f_b21
    have Q9_zb2 := z_b2
    have BL10 : Ext w2 w2 := Ext.refl _
    refine (specCopyBuffer_c cells es (.slice p0 cells.length c0) (.slice p1 es.length c1) _ _ _ (h1.ext (Xw2.trans qXt)) (h2.ext (Xw2.trans qXt))).mono ?_
    rintro e w3 ⟨cvfb7, evfb7, R8, rfl, bf6, xw3⟩
    have Lw3 : Ext w2 w3 := Ext.trans qXt xw3
    have Xw3 : Ext w w3 := Xw2.trans Lw3
    replace b10 := Lw3.cell b10
    replace b11 := Lw3.cell b11
    replace b20 := Lw3.cell b20
    replace b21 := Lw3.cell b21
    replace f_b20 := Lw3.frz z_b2 f_b20
    replace f_b21 := Lw3.frz z_b2 f_b21
    have z_b1 : w.heap.size < w3.heap.size := qB b10
    have z_b2 : w.heap.size + 1 < w3.heap.size := qB b20
    have s_w3 : w.heap.size ≤ w3.heap.size := Xw3.size
    have BL10_w3 : Ext w2 w3 := BL10.trans Lw3
    clear xw3
    replace bf6 := bf6.lower (lo' := w2.heap.size) qSo
    obtain ⟨afb7, cfb7, rfl⟩ := bf6.ints.form
    obtain ⟨efb7, dfb7, rfl⟩ := bf6.exps.form
    have q_bf6 := Lib.hid bf6.at
    have Q11_b10 := Lib.hid b10
    have Q11_b11 := Lib.hid b11
    have Q11_zb1 := z_b1
    have Q11_b20 := Lib.hid b20
    have Q11_f_b20 := Lib.hid f_b20
    have Q11_b21 := Lib.hid b21
    have Q11_f_b21 := Lib.hid f_b21
    have Q11_zb2 := z_b2
    have Q11_bf6 := Lib.hid bf6
    have BL12 : Ext w3 w3 := Ext.refl _
    go_wp2_with fail
    have zn_BL10_w4 := (BL10_w3).size
    have zn_BL12_w4 := (BL12).size
    generalize hW8 : w3.alloc (.cells #[.slice afb7 cells.length cfb7, .slice efb7 es.length dfb7] 26) = w4 at *
    have Lw4 : Ext w3 w4 := by subst hW8; exact qXt
    have Xw4 : Ext w w4 := Xw3.trans Lw4
    replace b10 := Lw4.cell b10
    replace b11 := Lw4.cell b11
    replace b20 := Lw4.cell b20
    replace b21 := Lw4.cell b21
    replace f_b20 := Lw4.frz z_b2 f_b20
    replace f_b21 := Lw4.frz z_b2 f_b21
    have b130 : w4.cell? ⟨w3.heap.size, 0, none⟩ = some (.slice afb7 cells.length cfb7) := by subst hW8; exact qCl
    have b131 : w4.cell? ⟨w3.heap.size, 1, none⟩ = some (.slice efb7 es.length dfb7) := by subst hW8; exact qCl
    have f_b130 : w4.frozen? ⟨w3.heap.size, 0, none⟩ = false := by subst hW8; exact qFz
    have f_b131 : w4.frozen? ⟨w3.heap.size, 1, none⟩ = false := by subst hW8; exact qFz
    have z_b1 : w.heap.size < w4.heap.size := qB b10
    have z_b2 : w.heap.size + 1 < w4.heap.size := qB b20
    have z_b13 : w3.heap.size < w4.heap.size := qB b130
    replace bf6 := bf6.ext Lw4
    have s_w4 : w.heap.size ≤ w4.heap.size := Xw4.size
    have BL10_w4 : Ext w2 w4 := BL10_w3.trans Lw4
    have BL12_w4 : Ext w3 w4 := BL12.trans Lw4
    clear hW8
    have hN_x14 : k < es.length := hlt
    have hI_x14 : (k : Int) < (es.length : Int) := by omega
    obtain ⟨bl27, ol28, u21, c22, u23, c24, rfl, x140, x141, x142, x143, x144, i25, i26⟩ := h2.at k hN_x14
    obtain ⟨X20, hX20⟩ : ∃ x, expAt es k = x := ⟨_, rfl⟩
    rw [hX20] at x140 x141 x142 x143 x144 i25 i26
    obtain ⟨P15, B16, S17, T18, O19⟩ := X20
    dsimp only at x140 x141 x142 x143 x144 i25 i26
    replace hX20 := Lib.hid hX20
    have hLS17 := i25.len
    have hLT18 := i26.len
    have y_x14 : bl27 < w.heap.size := qB x140
    replace x140 := Xw4.cell x140
    replace x141 := Xw4.cell x141
    replace x142 := Xw4.cell x142
    replace x143 := Xw4.cell x143
    replace x144 := Xw4.cell x144
    have z_x14 : bl27 < w4.heap.size := qB x140
    have hh7 : Hid (holdB cells B16 S17 T18 = true) := Lib.hid (by have h7 := open_holds hbb.out hop.out; rw [Int.toNat_natCast, hX20.out] at h7; exact h7)
    have hfe : Hid (fillB cells B16 S17 T18 x = inB 0 255 x) := Lib.hid (by unfold fillB; rw [hh7.out, Bool.true_and])
    have hc60 := (bufB_in hbb.out).2.1
    have hfb : Hid (fillB cells B16 S17 T18 x = true) := Lib.hid (by rw [hfe.out]; exact hB5.out)
    have hfl : (fillA cells B16 S17 T18 x).length ≤ 60 := by rw [fillA_len hfb.out]; omega
    go_wp2_with fail
    refine wp_region_held_drew (S := fun w' => w'.cell? ⟨w.heap.size, 0, none⟩ = some (.slice p0 cells.length c0) ∧ w'.cell? ⟨w.heap.size, 1, none⟩ = some (.slice (some ⟨bl27, ol28, none⟩) es.length c1) ∧ w'.cell? ⟨bl27, ol28 + k * 5 + 1, none⟩ = some (.int .i64 B16) ∧ w'.cell? ⟨bl27, ol28 + k * 5 + 2, none⟩ = some (.slice u21 S17.length c22) ∧ w'.cell? ⟨bl27, ol28 + k * 5 + 3, none⟩ = some (.slice u23 T18.length c24)) qKr ⟨b10, b11, x141, x142, x143⟩ (fun hHeld => ?_)
    refine qHk (v := ?_) 0 rfl (.inl ⟨by rfl, ?_⟩) ?_
    rotate_left
    ·
     (intro w hSw; (try dsimp only at hSw); go_simp; try with_reducible rfl)
    try simp only [Act.put, qa, qb, qc, qD, qE, qF]
    refine qHk (v := ?_) 1 rfl (.inl ⟨by rfl, ?_⟩) ?_
    rotate_left
    ·
     (intro w hSw; (try dsimp only at hSw); go_simp; try with_reducible rfl)
    try simp only [Act.put, qa, qb, qc, qD, qE, qF]
    refine qHk (v := ?_) 2 rfl (.inl ⟨by rfl, ?_⟩) ?_
    rotate_left
    ·
     (intro w hSw; (try dsimp only at hSw); go_simp; try with_reducible rfl)
    try simp only [Act.put, qa, qb, qc, qD, qE, qF]
    refine qHk (v := ?_) 3 rfl (.inl ⟨by rfl, ?_⟩) ?_
    rotate_left
    ·
     (intro w hSw; (try dsimp only at hSw); go_simp; try with_reducible rfl)
    try simp only [Act.put, qa, qb, qc, qD, qE, qF]
    refine qHk (v := ?_) 4 rfl (.inl ⟨by rfl, ?_⟩) ?_
    rotate_left
    ·
     (intro w hSw; (try dsimp only at hSw); go_simp; try with_reducible rfl)
    try simp only [Act.put, qa, qb, qc, qD, qE, qF]
    refine qHk (v := ?_) 5 rfl (.inl ⟨by rfl, ?_⟩) ?_
    rotate_left
    ·
     (intro w hSw; (try dsimp only at hSw); go_simp; try with_reducible rfl)
    try simp only [Act.put, qa, qb, qc, qD, qE, qF]
    refine qHk (v := ?_) 6 rfl (.inl ⟨by rfl, ?_⟩) ?_
    rotate_left
    ·
     (intro w hSw; (try dsimp only at hSw); go_simp; try with_reducible rfl)
    try simp only [Act.put, qa, qb, qc, qD, qE, qF]
    refine qHk (v := ?_) 7 rfl (.inl ⟨by rfl, ?_⟩) ?_
    rotate_left
    ·
     (intro w hSw; (try dsimp only at hSw); go_simp; try with_reducible rfl)
    try simp only [Act.put, qa, qb, qc, qD, qE, qF]
    refine qHk (v := ?_) 8 rfl (.inl ⟨by rfl, ?_⟩) ?_
    rotate_left
    ·
     (intro w hSw; (try dsimp only at hSw); go_simp; try with_reducible rfl)
    try simp only [Act.put, qa, qb, qc, qD, qE, qF]
    refine qHr 9 rfl (fun K hK => ?_)
    try simp only [Act.put, qa, qb, qc, qD, qE, qF]
    go_simp
    refine (specFillView_c cells (.slice p0 cells.length c0) B16 (.slice u21 S17.length c22) (.slice u23 T18.length c24) S17 T18 x _ _ (h1.ext (Xw4.trans qXt)) _ _ (i25.ext (Xw4.trans qXt)) (i26.ext (Xw4.trans qXt))).mono ?_
    rintro e w5 ⟨fv29, rfl, i30, i30z, czfv29, xw5⟩
    have Lw5 : Ext w4 w5 := Ext.trans qXt xw5
    have Xw5 : Ext w w5 := Xw4.trans Lw5
    replace b10 := Lw5.cell b10
    replace b11 := Lw5.cell b11
    replace b20 := Lw5.cell b20
    replace b21 := Lw5.cell b21
    replace f_b20 := Lw5.frz z_b2 f_b20
    replace f_b21 := Lw5.frz z_b2 f_b21
    replace b130 := Lw5.cell b130
    replace b131 := Lw5.cell b131
    replace f_b130 := Lw5.frz z_b13 f_b130
    replace f_b131 := Lw5.frz z_b13 f_b131
    replace x140 := Lw5.cell x140
    replace x141 := Lw5.cell x141
    replace x142 := Lw5.cell x142
    replace x143 := Lw5.cell x143
    replace x144 := Lw5.cell x144
    have z_b1 : w.heap.size < w5.heap.size := qB b10
    have z_b2 : w.heap.size + 1 < w5.heap.size := qB b20
    have z_b13 : w3.heap.size < w5.heap.size := qB b130
    have z_x14 : bl27 < w5.heap.size := qB x140
    replace bf6 := bf6.ext Lw5
    have s_w5 : w.heap.size ≤ w5.heap.size := Xw5.size
    have BL10_w5 : Ext w2 w5 := BL10_w4.trans Lw5
    have BL12_w5 : Ext w3 w5 := BL12_w4.trans Lw5
    clear xw5
    try simp only [World.size_alloc, World.size_drew] at i30
    try simp only [World.size_alloc, World.size_drew] at i30z
    obtain ⟨afv29, cfv29, rfl⟩ := i30.form
    rw [hfb.out]
    refine hK.out _ _ ⟨b10, b11, x141, x142, x143⟩ (fun hHeld => ?_)
    clear hK K
    try simp only [Act.put, qa, qb, qc, qD, qE, qF]
    refine qHk (v := ?_) 10 rfl (.inl ⟨by rfl, ?_⟩) ?_
    rotate_left
    ·
     (intro w hSw; (try dsimp only at hSw); go_simp; try with_reducible rfl)
    try simp only [Act.put, qa, qb, qc, qD, qE, qF]
    refine qHk (v := ?_) 11 rfl (.inl ⟨by rfl, ?_⟩) ?_
    rotate_left
    ·
     (intro w hSw; (try dsimp only at hSw); go_simp; try with_reducible rfl)
    try simp only [Act.put, qa, qb, qc, qD, qE, qF]
    refine qHk (v := ?_) 12 rfl (.inl ⟨by rfl, ?_⟩) ?_
    rotate_left
    ·
     (intro w hSw; (try dsimp only at hSw); go_simp; try with_reducible rfl)
    try simp only [Act.put, qa, qb, qc, qD, qE, qF]
    refine qHk (v := ?_) 13 rfl (.inl ⟨by rfl, ?_⟩) ?_
    rotate_left
    ·
     (intro w hSw; (try dsimp only at hSw); go_simp; try with_reducible rfl)
    try simp only [Act.put, qa, qb, qc, qD, qE, qF]
    refine qHr 14 rfl (fun K hK => ?_)
    try simp only [Act.put, qa, qb, qc, qD, qE, qF]
    go_simp
    generalize hW9 : (w5.setCell ⟨w3.heap.size, 0, none⟩ (.slice afv29 ((fillA cells B16 S17 T18 x).length) cfv29)) = w6 at *
    have Kw6 : Chg (w3.heap.size) (w3.heap.size + 1) w5 w6 := by subst hW9; exact qCh
    have Xw6 : Ext w w6 := by subst hW9; exact qXt
    have BL10_w6 : Ext w2 w6 := by subst hW9; exact qXt
    have BL12_w6 : Ext w3 w6 := by subst hW9; exact qXt
    replace b10 := Kw6.cell (by omega) b10
    replace b11 := Kw6.cell (by omega) b11
    replace b20 := BL12_w6.cell Q11_b20.out
    replace f_b20 := BL12_w6.frz Q11_zb2 Q11_f_b20.out
    replace b21 := BL12_w6.cell Q11_b21.out
    replace f_b21 := BL12_w6.frz Q11_zb2 Q11_f_b21.out
    replace b130 : w6.cell? ⟨w3.heap.size, 0, none⟩ = some (.slice afv29 ((fillA cells B16 S17 T18 x).length) cfv29) := by subst hW9; go_simp
    replace f_b130 : w6.frozen? ⟨w3.heap.size, 0, none⟩ = false := by subst hW9; first | (simp only [World.frozen?_setCell]; with_reducible assumption) | go_simp
    replace b131 : w6.cell? ⟨w3.heap.size, 1, none⟩ = some (.slice efb7 es.length dfb7) := by subst hW9; go_simp
    replace f_b131 : w6.frozen? ⟨w3.heap.size, 1, none⟩ = false := by subst hW9; first | (simp only [World.frozen?_setCell]; with_reducible assumption) | go_simp
    replace x140 := Kw6.cell (by omega) x140
    replace x141 := Kw6.cell (by omega) x141
    replace x142 := Kw6.cell (by omega) x142
    replace x143 := Kw6.cell (by omega) x143
    replace x144 := Kw6.cell (by omega) x144
    replace bf6 := (Q11_bf6.out).ext BL12_w6
    replace i30 := i30.chg Kw6 (by omega)
    replace i30z := i30z.chg Kw6 (by omega)
    clear Kw6
    have z_b1 : w.heap.size < w6.heap.size := qB b10
    have z_b2 : w.heap.size + 1 < w6.heap.size := qB b20
    have z_b13 : w3.heap.size < w6.heap.size := qB b130
    have z_x14 : bl27 < w6.heap.size := qB x140
    have s_w6 : w.heap.size ≤ w6.heap.size := Xw6.size
    clear hW9
    refine hK.out _ _ ⟨b10, b11, x141, x142, x143⟩ (fun hHeld => ?_)
    clear hK K
    try simp only [Act.put, qa, qb, qc, qD, qE, qF]
    refine wpAnyH_done qKr ?_ _
    clear hHeld 
    go_wp2_with fail
    generalize hW10 : ((w6.setCell ⟨w.heap.size + 1, 0, none⟩ (.slice afv29 ((fillA cells B16 S17 T18 x).length) cfv29)).setCell ⟨w.heap.size + 1, 1, none⟩ (.slice efb7 es.length dfb7)) = w7 at *
    have Kw7 : Chg (w.heap.size + 1) (w.heap.size + 1 + 1) w6 w7 := by subst hW10; exact qCh
    have Xw7 : Ext w w7 := by subst hW10; exact qXt
    replace b10 := Kw7.cell (by omega) b10
    replace b11 := Kw7.cell (by omega) b11
    replace b20 : w7.cell? ⟨w.heap.size + 1, 0, none⟩ = some (.slice afv29 ((fillA cells B16 S17 T18 x).length) cfv29) := by subst hW10; go_simp
    replace f_b20 : w7.frozen? ⟨w.heap.size + 1, 0, none⟩ = false := by subst hW10; first | (simp only [World.frozen?_setCell]; with_reducible assumption) | go_simp
    replace b21 : w7.cell? ⟨w.heap.size + 1, 1, none⟩ = some (.slice efb7 es.length dfb7) := by subst hW10; go_simp
    replace f_b21 : w7.frozen? ⟨w.heap.size + 1, 1, none⟩ = false := by subst hW10; first | (simp only [World.frozen?_setCell]; with_reducible assumption) | go_simp
    replace b130 := Kw7.cell (by omega) b130
    replace f_b130 := Kw7.frzO (by omega) z_b13 f_b130
    replace b131 := Kw7.cell (by omega) b131
    replace f_b131 := Kw7.frzO (by omega) z_b13 f_b131
    replace x140 := Kw7.cell (by omega) x140
    replace x141 := Kw7.cell (by omega) x141
    replace x142 := Kw7.cell (by omega) x142
    replace x143 := Kw7.cell (by omega) x143
    replace x144 := Kw7.cell (by omega) x144
    replace bf6 := bf6.chg Kw7 (by omega)
    replace i30 := i30.chg Kw7 (by omega)
    replace i30z := i30z.chg Kw7 (by omega)
    clear Kw7
    have z_b1 : w.heap.size < w7.heap.size := qB b10
    have z_b2 : w.heap.size + 1 < w7.heap.size := qB b20
    have z_b13 : w3.heap.size < w7.heap.size := qB b130
    have z_x14 : bl27 < w7.heap.size := qB x140
    have s_w7 : w.heap.size ≤ w7.heap.size := Xw7.size
    clear hW10
    refine bodyPost_ret (v := .tuple #[.agg #[.slice afv29 ((fillA cells B16 S17 T18 x).length) cfv29, .slice efb7 es.length dfb7], .bool true]) (by simp only [results, Try.results88]; go_simp) rfl ?_
    have eqA : filA cells es (k : Int) x = (fillA cells B16 S17 T18 x, es, true) := by unfold filA; rw [hbb.out, hop.out, show inB 0 255 x = true from hB5.out, Int.toNat_natCast, hX20.out]; rfl
    exact PBX.yes eqA ((bf6.cellsQ (lo2 := w.heap.size) (by omega) q_bf6.out (i30z.lower (by omega)) czfv29 (by omega) (fun hs g hg => by obtain ⟨g7, h7, h8, h9⟩ := i30z.lt hs; rw [hg] at h7; cases h7; omega)).ext qXt) (Xw7.trans qXt)


end Go.Proofs.Ytgklaobfikbiiaa
