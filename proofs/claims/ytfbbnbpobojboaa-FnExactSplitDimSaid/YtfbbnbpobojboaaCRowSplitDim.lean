/- Texts of these proofs put together: RsB, SpD, LawSplitDim, RowSplitDim. No condition. -/
import Derived.Test.YtfbbnbpobojboaaD1RowSplitDim
import Derived.Test.YtfbbnbpobojboaaD2RowSplitDim
import Derived.Test.YtfbbnbpobojboaaM1
set_option linter.unusedVariables false
set_option linter.unusedSimpArgs false
/- Walks: Reshape of the reference. -/
namespace Go.Proofs.Ytfbbnbpobojboaa
open Go.RowKit
set_option linter.unusedVariables false
set_option maxRecDepth 100000


/-- what the reference reckons: a view, and whether its cells are the same -/
def rsR (b : Int) (s t u : List Int) : VBool :=
 if countL u = countL s then (if countL u = 0 then (0, u, List.replicate u.length 0, true) else (b, u, reshS (offsL b s t) u u.length, sameB (offsL b u (reshS (offsL b s t) u u.length)) (offsL b s t))) else noV
theorem rsR_val {b : Int} {s t u C T : List Int} (hC : offsL b s t = C) (hT : reshS C u u.length = T) :
  rsR b s t u = if countL u = countL s then (if countL u = 0 then (0, u, List.replicate u.length 0, true) else (b, u, T, sameB (offsL b u T) C)) else noV := by
 subst hC; subst hT; rfl
theorem rnk_eq {w : World} {xs ys : List Int} {v v2 : Value} {J : Int} {f : Nat} (hJ : rankL xs ys = J) (h : Calls Try.prog f #[v, v2] w fun e w' => e = .returned (.int .i64 (rankL xs ys)) ∧ Ext w w') : Calls Try.prog f #[v, v2] w fun e w' => e = .returned (.int .i64 J) ∧ Ext w w' := hJ ▸ h
theorem rs_ref {b : Int} {s t u : List Int} (hv : viewB b s t = true) (hu : shapeB u = true) {B : Int} {S T : List Int} {o : Bool} (h : rsR b s t u = (B, S, T, o)) : rsV b s t u = if o then madeV B S T else noV := by
 rw [rs_val hv hu rfl rfl]
 unfold rsR at h
 by_cases h1 : countL u = countL s
 ·
  rw [if_pos h1] at h ⊢
  by_cases h0 : countL u = 0
  ·
   rw [if_pos h0] at h ⊢
   cases h
   rw [if_pos rfl]; unfold madeV
   rw [zero_view hu h0]; rfl
  ·
   rw [if_neg h0] at h ⊢
   cases h
   unfold madeV
   generalize viewB b u (reshS (offsL b s t) u u.length) = x
   generalize sameB (offsL b u (reshS (offsL b s t) u u.length)) (offsL b s t) = y
   cases x <;> cases y <;> rfl
 ·
  rw [if_neg h1] at h ⊢
  cases h; rfl

set_option maxHeartbeats 6400000 in
theorem reshaped_c (b1 : Int) (u1 v1 : Value) (s1 t1 : List Int) (v3 : Value) (u : List Int) (w : World) (l1 m1 : Nat) (h1 : Ints w l1 u1 s1) (k1 : Ints w m1 v1 t1) (l3 : Nat) (h3 : Ints w l3 v3 u) (hv : viewB b1 s1 t1 = true) (hu : shapeB u = true) :
  Calls Try.prog 128 #[.agg #[.int .i64 b1, u1, v1], v3] w (PVX w (rsR b1 s1 t1 u)) := by
 obtain ⟨p0, c0, rfl⟩ := h1.form
 obtain ⟨p1, c1, rfl⟩ := k1.form
 obtain ⟨p2, c2, rfl⟩ := h3.form
 have hus := Small.of hu
 have hu4 := hus.1
 have hu60 := Lib.hid hus.2
 replace hus := Lib.hid hus
 replace hv := Lib.hid hv
 replace hu := Lib.hid hu
 go_enter Try.func128, Try.ntmps128
 go_wp2_with fail
 generalize hW1 : (w.alloc (.cells #[.int .i64 b1, .slice p0 s1.length c0, .slice p1 t1.length c1] 36)).alloc (.cells #[.int .i64 0, .slice none 0 0, .slice none 0 0] 36) = w1 at *
 have Lw1 : Ext w w1 := by subst hW1; exact qXt
 have Xw1 : Ext w w1 := by subst hW1; exact Lw1
 have b10 : w1.cell? ⟨w.heap.size, 0, none⟩ = some (.int .i64 b1) := by subst hW1; exact qCl
 have b11 : w1.cell? ⟨w.heap.size, 1, none⟩ = some (.slice p0 s1.length c0) := by subst hW1; exact qCl
 have b12 : w1.cell? ⟨w.heap.size, 2, none⟩ = some (.slice p1 t1.length c1) := by subst hW1; exact qCl
 have b20 : w1.cell? ⟨w.heap.size + 1, 0, none⟩ = some (.int .i64 0) := by subst hW1; exact qCl
 have b21 : w1.cell? ⟨w.heap.size + 1, 1, none⟩ = some (.slice none 0 0) := by subst hW1; exact qCl
 have b22 : w1.cell? ⟨w.heap.size + 1, 2, none⟩ = some (.slice none 0 0) := by subst hW1; exact qCl
 have f_b20 : w1.frozen? ⟨w.heap.size + 1, 0, none⟩ = false := by subst hW1; exact qFz
 have f_b21 : w1.frozen? ⟨w.heap.size + 1, 1, none⟩ = false := by subst hW1; exact qFz
 have f_b22 : w1.frozen? ⟨w.heap.size + 1, 2, none⟩ = false := by subst hW1; exact qFz
 have z_b1 : w.heap.size < w1.heap.size := qB b10
 have z_b2 : w.heap.size + 1 < w1.heap.size := qB b20
 have s_w1 : w.heap.size ≤ w1.heap.size := Xw1.size
 clear hW1
 have Q3_b10 := Lib.hid b10
 have Q3_b11 := Lib.hid b11
 have Q3_b12 := Lib.hid b12
 have Q3_zb1 := z_b1
 have Q3_b20 := Lib.hid b20
 have Q3_f_b20 := Lib.hid f_b20
 have Q3_b21 := Lib.hid b21
 have Q3_f_b21 := Lib.hid f_b21
 have Q3_b22 := Lib.hid b22
 have Q3_f_b22 := Lib.hid f_b22
 have Q3_zb2 := z_b2
 have BL4 : Ext w1 w1 := Ext.refl _
 go_cut [6] (fun s6 wx => ∃ (g3 : Nat) (r3 : Nat) (g6 : Nat) (g8 : Nat), s6 = .pointer (some ⟨g8, 0, none⟩) ∧ Ext w1 wx ∧ w1.heap.size ≤ g3 ∧ g3 < wx.heap.size ∧ w1.heap.size ≤ g6 ∧ g6 < wx.heap.size ∧ w1.heap.size ≤ g8 ∧ g8 < wx.heap.size ∧ g3 ≠ g6 ∧ g3 ≠ g8 ∧ g6 ≠ g8 ∧ OwnI wx w1.heap.size (.slice (some ⟨g3, 0, none⟩) u.length r3) u ∧ OwnI wx w1.heap.size (.slice (some ⟨g6, 0, none⟩) u.length u.length) (List.replicate u.length 0) ∧ wx.cell? ⟨g8, 0, none⟩ = some (.int .i64 b1) ∧ wx.frozen? ⟨g8, 0, none⟩ = false ∧ wx.cell? ⟨g8, 1, none⟩ = some (.slice (some ⟨g3, 0, none⟩) u.length r3) ∧ wx.frozen? ⟨g8, 1, none⟩ = false ∧ wx.cell? ⟨g8, 2, none⟩ = some (.slice (some ⟨g6, 0, none⟩) u.length u.length) ∧ wx.frozen? ⟨g8, 2, none⟩ = false)
 case first =>
  have X1 : Ext w1 w1 := Ext.refl _
  refine wp_region_held_drew (S := fun w' => w'.cell? ⟨w.heap.size, 0, none⟩ = some (.int .i64 b1) ∧ w'.cell? ⟨w.heap.size, 1, none⟩ = some (.slice p0 s1.length c0) ∧ w'.cell? ⟨w.heap.size, 2, none⟩ = some (.slice p1 t1.length c1) ∧ w'.cell? ⟨w.heap.size + 1, 0, none⟩ = some (.int .i64 0) ∧ w'.cell? ⟨w.heap.size + 1, 1, none⟩ = some (.slice none 0 0) ∧ w'.cell? ⟨w.heap.size + 1, 2, none⟩ = some (.slice none 0 0)) qKr ⟨b10, b11, b12, b20, b21, b22⟩ (fun hHeld => ?_)
  refine qHk (v := ?_) 0 rfl (.inl ⟨by rfl, ?_⟩) ?_
  rotate_left
  ·
   (intro w hSw; (try dsimp only at hSw); go_simp; try with_reducible rfl)
  try simp only [Act.put, qa, qb, qc, qD, qE, qF]
  refine qHk (v := ?_) 1 rfl (.inl ⟨by rfl, ?_⟩) ?_
  rotate_left
  ·
   (intro w hSw; (try dsimp only at hSw); go_simp; try with_reducible rfl)
  try simp only [Act.put, qa, qb, qc, qD, qE, qF]
  refine qHk (v := ?_) 2 rfl (.inl ⟨by rfl, ?_⟩) ?_
  rotate_left
  ·
   (intro w hSw; (try dsimp only at hSw); go_simp; try with_reducible rfl)
  try simp only [Act.put, qa, qb, qc, qD, qE, qF]
  refine qHk (v := ?_) 4 rfl (.inl ⟨by rfl, ?_⟩) ?_
  rotate_left
  ·
   (intro w hSw; (try dsimp only at hSw); go_simp; try with_reducible rfl)
  try simp only [Act.put, qa, qb, qc, qD, qE, qF]
  refine qHk (v := ?_) 5 rfl (.inl ⟨by rfl, ?_⟩) ?_
  rotate_left
  ·
   (intro w hSw; (try dsimp only at hSw); go_simp; try with_reducible rfl)
  try simp only [Act.put, qa, qb, qc, qD, qE, qF]
  refine wpAnyH_ready (rs := [3, 6, 8]) qKr (by simp) ?_
  refine AllReadyH.cons rfl (fun K hK => ?_) (AllReadyH.cons rfl (fun K hK => ?_) (AllReadyH.cons rfl (fun K hK => ?_) AllReadyH.nil))
  ·
   try simp only [Act.put, qa, qb, qc, qD, qE, qF]
   go_simp
   refine (copyIntsO_c (.slice p2 u.length c2) u _ _ (h3.ext (Xw1.trans qXt))).mono ?_
   rintro e w1_1 ⟨g1_4, r1_5, rfl, O1_3, Gg1_4, Hg1_4, x1_2⟩
   simp only [World.size_drew] at Gg1_4 O1_3
   replace x1_2 : Ext w1 w1_1 := Ext.trans qXt x1_2
   have S_w1_1 : w1.heap.size ≤ w1_1.heap.size := x1_2.size
   replace X1 := X1.trans x1_2
   have Yw1_1 := Ext.refl w1_1
   clear x1_2
   refine hK.out _ w1_1 ⟨(show Ext w1 w1_1 from qXt).cell b10, (show Ext w1 w1_1 from qXt).cell b11, (show Ext w1 w1_1 from qXt).cell b12, (show Ext w1 w1_1 from qXt).cell b20, (show Ext w1 w1_1 from qXt).cell b21, (show Ext w1 w1_1 from qXt).cell b22⟩ (fun hHeld => ?_)
   clear hK K
   try simp only [Act.put, qa, qb, qc, qD, qE, qF]
   refine wpAnyH_ready (rs := [6, 8]) qKr (by simp) ?_
   refine AllReadyH.cons rfl (fun K hK => ?_) (AllReadyH.cons rfl (fun K hK => ?_) AllReadyH.nil)
   ·
    try simp only [Act.put, qa, qb, qc, qD, qE, qF]
    have hmk := mk_ints u.length (by omega)
    go_simp
    refine hK.out _ (w1_1.alloc (.cells (madeCells #[Value.int .i64 0] u.length) 3)) ⟨(show Ext w1 (w1_1.alloc (.cells (madeCells #[Value.int .i64 0] u.length) 3)) from qXt).cell b10, (show Ext w1 (w1_1.alloc (.cells (madeCells #[Value.int .i64 0] u.length) 3)) from qXt).cell b11, (show Ext w1 (w1_1.alloc (.cells (madeCells #[Value.int .i64 0] u.length) 3)) from qXt).cell b12, (show Ext w1 (w1_1.alloc (.cells (madeCells #[Value.int .i64 0] u.length) 3)) from qXt).cell b20, (show Ext w1 (w1_1.alloc (.cells (madeCells #[Value.int .i64 0] u.length) 3)) from qXt).cell b21, (show Ext w1 (w1_1.alloc (.cells (madeCells #[Value.int .i64 0] u.length) 3)) from qXt).cell b22⟩ (fun hHeld => ?_)
    clear hK K hmk
    try simp only [Act.put, qa, qb, qc, qD, qE, qF]
    generalize hW2 : w1_1.alloc (.cells (madeCells #[Value.int .i64 0] u.length) 3) = w1_6 at *
    have S_w1_6 : w1_1.heap.size < w1_6.heap.size := by subst hW2; simp
    have hx7 : Ext w1_1 w1_6 := by subst hW2; exact qXt
    replace Yw1_1 := Yw1_1.trans hx7
    replace X1 := X1.trans hx7
    clear hx7
    have O1_7 : OwnI w1_6 w1_1.heap.size (.slice (some ⟨w1_1.heap.size, 0, none⟩) u.length u.length) (List.replicate u.length 0) := by subst hW2; exact OwnI.made _ _ _ (by simp) (by omega)
    have Yw1_6 := Ext.refl w1_6
    clear hW2
    refine qHk (v := ?_) 7 rfl (.inl ⟨by rfl, ?_⟩) ?_
    rotate_left
    ·
     (intro w hSw; (try dsimp only at hSw); go_simp; try with_reducible rfl)
    try simp only [Act.put, qa, qb, qc, qD, qE, qF]
    refine qHr 8 rfl (fun K hK => ?_)
    try simp only [Act.put, qa, qb, qc, qD, qE, qF]
    go_simp
    refine hK.out _ (w1_6.alloc (.cells #[.int .i64 0, .slice none 0 0, .slice none 0 0] 36)) ⟨(show Ext w1 (w1_6.alloc (.cells #[.int .i64 0, .slice none 0 0, .slice none 0 0] 36)) from qXt).cell b10, (show Ext w1 (w1_6.alloc (.cells #[.int .i64 0, .slice none 0 0, .slice none 0 0] 36)) from qXt).cell b11, (show Ext w1 (w1_6.alloc (.cells #[.int .i64 0, .slice none 0 0, .slice none 0 0] 36)) from qXt).cell b12, (show Ext w1 (w1_6.alloc (.cells #[.int .i64 0, .slice none 0 0, .slice none 0 0] 36)) from qXt).cell b20, (show Ext w1 (w1_6.alloc (.cells #[.int .i64 0, .slice none 0 0, .slice none 0 0] 36)) from qXt).cell b21, (show Ext w1 (w1_6.alloc (.cells #[.int .i64 0, .slice none 0 0, .slice none 0 0] 36)) from qXt).cell b22⟩ (fun hHeld => ?_)
    clear hK K
    try simp only [Act.put, qa, qb, qc, qD, qE, qF]
    generalize hW3 : w1_6.alloc (.cells #[.int .i64 0, .slice none 0 0, .slice none 0 0] 36) = w1_8 at *
    have S_w1_8 : w1_6.heap.size < w1_8.heap.size := by subst hW3; simp
    have hx7 : Ext w1_6 w1_8 := by subst hW3; exact qXt
    replace Yw1_1 := Yw1_1.trans hx7
    replace Yw1_6 := Yw1_6.trans hx7
    replace X1 := X1.trans hx7
    clear hx7
    have b1_90 : w1_8.cell? ⟨w1_6.heap.size, 0, none⟩ = some (.int .i64 0) := by subst hW3; exact qCl
    have f_b1_90 : w1_8.frozen? ⟨w1_6.heap.size, 0, none⟩ = false := by subst hW3; exact qFz
    have b1_91 : w1_8.cell? ⟨w1_6.heap.size, 1, none⟩ = some (.slice none 0 0) := by subst hW3; exact qCl
    have f_b1_91 : w1_8.frozen? ⟨w1_6.heap.size, 1, none⟩ = false := by subst hW3; exact qFz
    have b1_92 : w1_8.cell? ⟨w1_6.heap.size, 2, none⟩ = some (.slice none 0 0) := by subst hW3; exact qCl
    have f_b1_92 : w1_8.frozen? ⟨w1_6.heap.size, 2, none⟩ = false := by subst hW3; exact qFz
    have z_b1_9 : w1_6.heap.size < w1_8.heap.size := by subst hW3; exact S_w1_8
    have Yw1_8 := Ext.refl w1_8
    clear hW3
    refine qHr 9 rfl (fun K hK => ?_)
    try simp only [Act.put, qa, qb, qc, qD, qE, qF]
    replace b1_90 := Yw1_8.cell b1_90
    replace b1_91 := Yw1_8.cell b1_91
    replace b1_92 := Yw1_8.cell b1_92
    replace f_b1_90 := Yw1_8.frz z_b1_9 f_b1_90
    replace f_b1_91 := Yw1_8.frz z_b1_9 f_b1_91
    replace f_b1_92 := Yw1_8.frz z_b1_9 f_b1_92
    go_simp
    have zz := X1.size
    have K1 : Chg w1_6.heap.size (w1_6.heap.size + 1) w1_8 (((w1_8.setCell ⟨w1_6.heap.size, 0, none⟩ (.int .i64 b1)).setCell ⟨w1_6.heap.size, 1, none⟩ (.slice (some ⟨g1_4, 0, none⟩) u.length r1_5)).setCell ⟨w1_6.heap.size, 2, none⟩ (.slice (some ⟨w1_1.heap.size, 0, none⟩) u.length u.length)) := (Chg.setCell (p := ⟨w1_6.heap.size, 2, none⟩) (Chg.setCell (p := ⟨w1_6.heap.size, 1, none⟩) (Chg.setCell (p := ⟨w1_6.heap.size, 0, none⟩) (Chg.refl w1_6.heap.size (w1_6.heap.size + 1) w1_8) (Nat.le_refl _) (Nat.lt_succ_self _) _) (Nat.le_refl _) (Nat.lt_succ_self _) _) (Nat.le_refl _) (Nat.lt_succ_self _) _)
    have n_b1_90 : (((w1_8.setCell ⟨w1_6.heap.size, 0, none⟩ (.int .i64 b1)).setCell ⟨w1_6.heap.size, 1, none⟩ (.slice (some ⟨g1_4, 0, none⟩) u.length r1_5)).setCell ⟨w1_6.heap.size, 2, none⟩ (.slice (some ⟨w1_1.heap.size, 0, none⟩) u.length u.length)).cell? ⟨w1_6.heap.size, 0, none⟩ = some (.int .i64 b1) := by go_simp
    replace f_b1_90 : (((w1_8.setCell ⟨w1_6.heap.size, 0, none⟩ (.int .i64 b1)).setCell ⟨w1_6.heap.size, 1, none⟩ (.slice (some ⟨g1_4, 0, none⟩) u.length r1_5)).setCell ⟨w1_6.heap.size, 2, none⟩ (.slice (some ⟨w1_1.heap.size, 0, none⟩) u.length u.length)).frozen? ⟨w1_6.heap.size, 0, none⟩ = false := by go_simp
    have n_b1_91 : (((w1_8.setCell ⟨w1_6.heap.size, 0, none⟩ (.int .i64 b1)).setCell ⟨w1_6.heap.size, 1, none⟩ (.slice (some ⟨g1_4, 0, none⟩) u.length r1_5)).setCell ⟨w1_6.heap.size, 2, none⟩ (.slice (some ⟨w1_1.heap.size, 0, none⟩) u.length u.length)).cell? ⟨w1_6.heap.size, 1, none⟩ = some (.slice (some ⟨g1_4, 0, none⟩) u.length r1_5) := by go_simp
    replace f_b1_91 : (((w1_8.setCell ⟨w1_6.heap.size, 0, none⟩ (.int .i64 b1)).setCell ⟨w1_6.heap.size, 1, none⟩ (.slice (some ⟨g1_4, 0, none⟩) u.length r1_5)).setCell ⟨w1_6.heap.size, 2, none⟩ (.slice (some ⟨w1_1.heap.size, 0, none⟩) u.length u.length)).frozen? ⟨w1_6.heap.size, 1, none⟩ = false := by go_simp
    have n_b1_92 : (((w1_8.setCell ⟨w1_6.heap.size, 0, none⟩ (.int .i64 b1)).setCell ⟨w1_6.heap.size, 1, none⟩ (.slice (some ⟨g1_4, 0, none⟩) u.length r1_5)).setCell ⟨w1_6.heap.size, 2, none⟩ (.slice (some ⟨w1_1.heap.size, 0, none⟩) u.length u.length)).cell? ⟨w1_6.heap.size, 2, none⟩ = some (.slice (some ⟨w1_1.heap.size, 0, none⟩) u.length u.length) := by go_simp
    replace f_b1_92 : (((w1_8.setCell ⟨w1_6.heap.size, 0, none⟩ (.int .i64 b1)).setCell ⟨w1_6.heap.size, 1, none⟩ (.slice (some ⟨g1_4, 0, none⟩) u.length r1_5)).setCell ⟨w1_6.heap.size, 2, none⟩ (.slice (some ⟨w1_1.heap.size, 0, none⟩) u.length u.length)).frozen? ⟨w1_6.heap.size, 2, none⟩ = false := by go_simp
    replace b1_90 := n_b1_90
    clear n_b1_90
    replace b1_91 := n_b1_91
    clear n_b1_91
    replace b1_92 := n_b1_92
    clear n_b1_92
    replace O1_3 := (O1_3.ext Yw1_1).chgN K1 (by omega)
    replace O1_7 := (O1_7.ext Yw1_6).chgN K1 (by omega)
    replace X1 : Ext w1 (((w1_8.setCell ⟨w1_6.heap.size, 0, none⟩ (.int .i64 b1)).setCell ⟨w1_6.heap.size, 1, none⟩ (.slice (some ⟨g1_4, 0, none⟩) u.length r1_5)).setCell ⟨w1_6.heap.size, 2, none⟩ (.slice (some ⟨w1_1.heap.size, 0, none⟩) u.length u.length)) := (Ext.setCell (p := ⟨w1_6.heap.size, 2, none⟩) (Ext.setCell (p := ⟨w1_6.heap.size, 1, none⟩) (Ext.setCell (p := ⟨w1_6.heap.size, 0, none⟩) X1 (by dsimp only; omega) _) (by dsimp only; omega) _) (by dsimp only; omega) _)
    clear zz K1
    have S_st : w1_8.heap.size ≤ (((w1_8.setCell ⟨w1_6.heap.size, 0, none⟩ (.int .i64 b1)).setCell ⟨w1_6.heap.size, 1, none⟩ (.slice (some ⟨g1_4, 0, none⟩) u.length r1_5)).setCell ⟨w1_6.heap.size, 2, none⟩ (.slice (some ⟨w1_1.heap.size, 0, none⟩) u.length u.length)).heap.size := by simp
    refine hK.out _ ((((w1_8.setCell ⟨w1_6.heap.size, 0, none⟩ (.int .i64 b1)).setCell ⟨w1_6.heap.size, 1, none⟩ (.slice (some ⟨g1_4, 0, none⟩) u.length r1_5)).setCell ⟨w1_6.heap.size, 2, none⟩ (.slice (some ⟨w1_1.heap.size, 0, none⟩) u.length u.length))) ⟨(show Ext w1 ((((w1_8.setCell ⟨w1_6.heap.size, 0, none⟩ (.int .i64 b1)).setCell ⟨w1_6.heap.size, 1, none⟩ (.slice (some ⟨g1_4, 0, none⟩) u.length r1_5)).setCell ⟨w1_6.heap.size, 2, none⟩ (.slice (some ⟨w1_1.heap.size, 0, none⟩) u.length u.length))) from qXt).cell b10, (show Ext w1 ((((w1_8.setCell ⟨w1_6.heap.size, 0, none⟩ (.int .i64 b1)).setCell ⟨w1_6.heap.size, 1, none⟩ (.slice (some ⟨g1_4, 0, none⟩) u.length r1_5)).setCell ⟨w1_6.heap.size, 2, none⟩ (.slice (some ⟨w1_1.heap.size, 0, none⟩) u.length u.length))) from qXt).cell b11, (show Ext w1 ((((w1_8.setCell ⟨w1_6.heap.size, 0, none⟩ (.int .i64 b1)).setCell ⟨w1_6.heap.size, 1, none⟩ (.slice (some ⟨g1_4, 0, none⟩) u.length r1_5)).setCell ⟨w1_6.heap.size, 2, none⟩ (.slice (some ⟨w1_1.heap.size, 0, none⟩) u.length u.length))) from qXt).cell b12, (show Ext w1 ((((w1_8.setCell ⟨w1_6.heap.size, 0, none⟩ (.int .i64 b1)).setCell ⟨w1_6.heap.size, 1, none⟩ (.slice (some ⟨g1_4, 0, none⟩) u.length r1_5)).setCell ⟨w1_6.heap.size, 2, none⟩ (.slice (some ⟨w1_1.heap.size, 0, none⟩) u.length u.length))) from qXt).cell b20, (show Ext w1 ((((w1_8.setCell ⟨w1_6.heap.size, 0, none⟩ (.int .i64 b1)).setCell ⟨w1_6.heap.size, 1, none⟩ (.slice (some ⟨g1_4, 0, none⟩) u.length r1_5)).setCell ⟨w1_6.heap.size, 2, none⟩ (.slice (some ⟨w1_1.heap.size, 0, none⟩) u.length u.length))) from qXt).cell b21, (show Ext w1 ((((w1_8.setCell ⟨w1_6.heap.size, 0, none⟩ (.int .i64 b1)).setCell ⟨w1_6.heap.size, 1, none⟩ (.slice (some ⟨g1_4, 0, none⟩) u.length r1_5)).setCell ⟨w1_6.heap.size, 2, none⟩ (.slice (some ⟨w1_1.heap.size, 0, none⟩) u.length u.length))) from qXt).cell b22⟩ (fun hHeld => ?_)
    clear hK K
    try simp only [Act.put, qa, qb, qc, qD, qE, qF]
    refine wpAnyH_done qKr ?_ _
    clear hHeld
    have zz := X1.size
    go_step
    go_step
    go_meet
    case rel => exact ⟨g1_4, r1_5, w1_1.heap.size, w1_6.heap.size, rfl, X1, (by omega), (by omega), (by omega), (by omega), (by omega), (by omega), (by omega), (by omega), (by omega), (O1_3).lower (by omega), (O1_7).lower (by omega), b1_90, f_b1_90, b1_91, f_b1_91, b1_92, f_b1_92⟩
   ·
    try simp only [Act.put, qa, qb, qc, qD, qE, qF]
    go_simp
    refine hK.out _ (w1_1.alloc (.cells #[.int .i64 0, .slice none 0 0, .slice none 0 0] 36)) ⟨(show Ext w1 (w1_1.alloc (.cells #[.int .i64 0, .slice none 0 0, .slice none 0 0] 36)) from qXt).cell b10, (show Ext w1 (w1_1.alloc (.cells #[.int .i64 0, .slice none 0 0, .slice none 0 0] 36)) from qXt).cell b11, (show Ext w1 (w1_1.alloc (.cells #[.int .i64 0, .slice none 0 0, .slice none 0 0] 36)) from qXt).cell b12, (show Ext w1 (w1_1.alloc (.cells #[.int .i64 0, .slice none 0 0, .slice none 0 0] 36)) from qXt).cell b20, (show Ext w1 (w1_1.alloc (.cells #[.int .i64 0, .slice none 0 0, .slice none 0 0] 36)) from qXt).cell b21, (show Ext w1 (w1_1.alloc (.cells #[.int .i64 0, .slice none 0 0, .slice none 0 0] 36)) from qXt).cell b22⟩ (fun hHeld => ?_)
    clear hK K
    try simp only [Act.put, qa, qb, qc, qD, qE, qF]
    generalize hW4 : w1_1.alloc (.cells #[.int .i64 0, .slice none 0 0, .slice none 0 0] 36) = w1_10 at *
    have S_w1_10 : w1_1.heap.size < w1_10.heap.size := by subst hW4; simp
    have hx7 : Ext w1_1 w1_10 := by subst hW4; exact qXt
    replace Yw1_1 := Yw1_1.trans hx7
    replace X1 := X1.trans hx7
    clear hx7
    have b1_110 : w1_10.cell? ⟨w1_1.heap.size, 0, none⟩ = some (.int .i64 0) := by subst hW4; exact qCl
    have f_b1_110 : w1_10.frozen? ⟨w1_1.heap.size, 0, none⟩ = false := by subst hW4; exact qFz
    have b1_111 : w1_10.cell? ⟨w1_1.heap.size, 1, none⟩ = some (.slice none 0 0) := by subst hW4; exact qCl
    have f_b1_111 : w1_10.frozen? ⟨w1_1.heap.size, 1, none⟩ = false := by subst hW4; exact qFz
    have b1_112 : w1_10.cell? ⟨w1_1.heap.size, 2, none⟩ = some (.slice none 0 0) := by subst hW4; exact qCl
    have f_b1_112 : w1_10.frozen? ⟨w1_1.heap.size, 2, none⟩ = false := by subst hW4; exact qFz
    have z_b1_11 : w1_1.heap.size < w1_10.heap.size := by subst hW4; exact S_w1_10
    have Yw1_10 := Ext.refl w1_10
    clear hW4
    refine qHr 6 rfl (fun K hK => ?_)
    try simp only [Act.put, qa, qb, qc, qD, qE, qF]
    have hmk := mk_ints u.length (by omega)
    go_simp
    refine hK.out _ (w1_10.alloc (.cells (madeCells #[Value.int .i64 0] u.length) 3)) ⟨(show Ext w1 (w1_10.alloc (.cells (madeCells #[Value.int .i64 0] u.length) 3)) from qXt).cell b10, (show Ext w1 (w1_10.alloc (.cells (madeCells #[Value.int .i64 0] u.length) 3)) from qXt).cell b11, (show Ext w1 (w1_10.alloc (.cells (madeCells #[Value.int .i64 0] u.length) 3)) from qXt).cell b12, (show Ext w1 (w1_10.alloc (.cells (madeCells #[Value.int .i64 0] u.length) 3)) from qXt).cell b20, (show Ext w1 (w1_10.alloc (.cells (madeCells #[Value.int .i64 0] u.length) 3)) from qXt).cell b21, (show Ext w1 (w1_10.alloc (.cells (madeCells #[Value.int .i64 0] u.length) 3)) from qXt).cell b22⟩ (fun hHeld => ?_)
    clear hK K hmk
    try simp only [Act.put, qa, qb, qc, qD, qE, qF]
    generalize hW5 : w1_10.alloc (.cells (madeCells #[Value.int .i64 0] u.length) 3) = w1_12 at *
    have S_w1_12 : w1_10.heap.size < w1_12.heap.size := by subst hW5; simp
    have hx7 : Ext w1_10 w1_12 := by subst hW5; exact qXt
    replace Yw1_1 := Yw1_1.trans hx7
    replace Yw1_10 := Yw1_10.trans hx7
    replace X1 := X1.trans hx7
    clear hx7
    have O1_13 : OwnI w1_12 w1_10.heap.size (.slice (some ⟨w1_10.heap.size, 0, none⟩) u.length u.length) (List.replicate u.length 0) := by subst hW5; exact OwnI.made _ _ _ (by simp) (by omega)
    have Yw1_12 := Ext.refl w1_12
    clear hW5
    refine qHk (v := ?_) 7 rfl (.inl ⟨by rfl, ?_⟩) ?_
    rotate_left
    ·
     (intro w hSw; (try dsimp only at hSw); go_simp; try with_reducible rfl)
    try simp only [Act.put, qa, qb, qc, qD, qE, qF]
    refine qHr 9 rfl (fun K hK => ?_)
    try simp only [Act.put, qa, qb, qc, qD, qE, qF]
    replace b1_110 := Yw1_10.cell b1_110
    replace b1_111 := Yw1_10.cell b1_111
    replace b1_112 := Yw1_10.cell b1_112
    replace f_b1_110 := Yw1_10.frz z_b1_11 f_b1_110
    replace f_b1_111 := Yw1_10.frz z_b1_11 f_b1_111
    replace f_b1_112 := Yw1_10.frz z_b1_11 f_b1_112
    go_simp
    have zz := X1.size
    have K1 : Chg w1_1.heap.size (w1_1.heap.size + 1) w1_12 (((w1_12.setCell ⟨w1_1.heap.size, 0, none⟩ (.int .i64 b1)).setCell ⟨w1_1.heap.size, 1, none⟩ (.slice (some ⟨g1_4, 0, none⟩) u.length r1_5)).setCell ⟨w1_1.heap.size, 2, none⟩ (.slice (some ⟨w1_10.heap.size, 0, none⟩) u.length u.length)) := (Chg.setCell (p := ⟨w1_1.heap.size, 2, none⟩) (Chg.setCell (p := ⟨w1_1.heap.size, 1, none⟩) (Chg.setCell (p := ⟨w1_1.heap.size, 0, none⟩) (Chg.refl w1_1.heap.size (w1_1.heap.size + 1) w1_12) (Nat.le_refl _) (Nat.lt_succ_self _) _) (Nat.le_refl _) (Nat.lt_succ_self _) _) (Nat.le_refl _) (Nat.lt_succ_self _) _)
    have n_b1_110 : (((w1_12.setCell ⟨w1_1.heap.size, 0, none⟩ (.int .i64 b1)).setCell ⟨w1_1.heap.size, 1, none⟩ (.slice (some ⟨g1_4, 0, none⟩) u.length r1_5)).setCell ⟨w1_1.heap.size, 2, none⟩ (.slice (some ⟨w1_10.heap.size, 0, none⟩) u.length u.length)).cell? ⟨w1_1.heap.size, 0, none⟩ = some (.int .i64 b1) := by go_simp
    replace f_b1_110 : (((w1_12.setCell ⟨w1_1.heap.size, 0, none⟩ (.int .i64 b1)).setCell ⟨w1_1.heap.size, 1, none⟩ (.slice (some ⟨g1_4, 0, none⟩) u.length r1_5)).setCell ⟨w1_1.heap.size, 2, none⟩ (.slice (some ⟨w1_10.heap.size, 0, none⟩) u.length u.length)).frozen? ⟨w1_1.heap.size, 0, none⟩ = false := by go_simp
    have n_b1_111 : (((w1_12.setCell ⟨w1_1.heap.size, 0, none⟩ (.int .i64 b1)).setCell ⟨w1_1.heap.size, 1, none⟩ (.slice (some ⟨g1_4, 0, none⟩) u.length r1_5)).setCell ⟨w1_1.heap.size, 2, none⟩ (.slice (some ⟨w1_10.heap.size, 0, none⟩) u.length u.length)).cell? ⟨w1_1.heap.size, 1, none⟩ = some (.slice (some ⟨g1_4, 0, none⟩) u.length r1_5) := by go_simp
    replace f_b1_111 : (((w1_12.setCell ⟨w1_1.heap.size, 0, none⟩ (.int .i64 b1)).setCell ⟨w1_1.heap.size, 1, none⟩ (.slice (some ⟨g1_4, 0, none⟩) u.length r1_5)).setCell ⟨w1_1.heap.size, 2, none⟩ (.slice (some ⟨w1_10.heap.size, 0, none⟩) u.length u.length)).frozen? ⟨w1_1.heap.size, 1, none⟩ = false := by go_simp
    have n_b1_112 : (((w1_12.setCell ⟨w1_1.heap.size, 0, none⟩ (.int .i64 b1)).setCell ⟨w1_1.heap.size, 1, none⟩ (.slice (some ⟨g1_4, 0, none⟩) u.length r1_5)).setCell ⟨w1_1.heap.size, 2, none⟩ (.slice (some ⟨w1_10.heap.size, 0, none⟩) u.length u.length)).cell? ⟨w1_1.heap.size, 2, none⟩ = some (.slice (some ⟨w1_10.heap.size, 0, none⟩) u.length u.length) := by go_simp
    replace f_b1_112 : (((w1_12.setCell ⟨w1_1.heap.size, 0, none⟩ (.int .i64 b1)).setCell ⟨w1_1.heap.size, 1, none⟩ (.slice (some ⟨g1_4, 0, none⟩) u.length r1_5)).setCell ⟨w1_1.heap.size, 2, none⟩ (.slice (some ⟨w1_10.heap.size, 0, none⟩) u.length u.length)).frozen? ⟨w1_1.heap.size, 2, none⟩ = false := by go_simp
    replace b1_110 := n_b1_110
    clear n_b1_110
    replace b1_111 := n_b1_111
    clear n_b1_111
    replace b1_112 := n_b1_112
    clear n_b1_112
    replace O1_3 := (O1_3.ext Yw1_1).chgN K1 (by omega)
    replace O1_13 := (O1_13.ext Yw1_12).chgN K1 (by omega)
    replace X1 : Ext w1 (((w1_12.setCell ⟨w1_1.heap.size, 0, none⟩ (.int .i64 b1)).setCell ⟨w1_1.heap.size, 1, none⟩ (.slice (some ⟨g1_4, 0, none⟩) u.length r1_5)).setCell ⟨w1_1.heap.size, 2, none⟩ (.slice (some ⟨w1_10.heap.size, 0, none⟩) u.length u.length)) := (Ext.setCell (p := ⟨w1_1.heap.size, 2, none⟩) (Ext.setCell (p := ⟨w1_1.heap.size, 1, none⟩) (Ext.setCell (p := ⟨w1_1.heap.size, 0, none⟩) X1 (by dsimp only; omega) _) (by dsimp only; omega) _) (by dsimp only; omega) _)
    clear zz K1
    have S_st : w1_12.heap.size ≤ (((w1_12.setCell ⟨w1_1.heap.size, 0, none⟩ (.int .i64 b1)).setCell ⟨w1_1.heap.size, 1, none⟩ (.slice (some ⟨g1_4, 0, none⟩) u.length r1_5)).setCell ⟨w1_1.heap.size, 2, none⟩ (.slice (some ⟨w1_10.heap.size, 0, none⟩) u.length u.length)).heap.size := by simp
    refine hK.out _ ((((w1_12.setCell ⟨w1_1.heap.size, 0, none⟩ (.int .i64 b1)).setCell ⟨w1_1.heap.size, 1, none⟩ (.slice (some ⟨g1_4, 0, none⟩) u.length r1_5)).setCell ⟨w1_1.heap.size, 2, none⟩ (.slice (some ⟨w1_10.heap.size, 0, none⟩) u.length u.length))) ⟨(show Ext w1 ((((w1_12.setCell ⟨w1_1.heap.size, 0, none⟩ (.int .i64 b1)).setCell ⟨w1_1.heap.size, 1, none⟩ (.slice (some ⟨g1_4, 0, none⟩) u.length r1_5)).setCell ⟨w1_1.heap.size, 2, none⟩ (.slice (some ⟨w1_10.heap.size, 0, none⟩) u.length u.length))) from qXt).cell b10, (show Ext w1 ((((w1_12.setCell ⟨w1_1.heap.size, 0, none⟩ (.int .i64 b1)).setCell ⟨w1_1.heap.size, 1, none⟩ (.slice (some ⟨g1_4, 0, none⟩) u.length r1_5)).setCell ⟨w1_1.heap.size, 2, none⟩ (.slice (some ⟨w1_10.heap.size, 0, none⟩) u.length u.length))) from qXt).cell b11, (show Ext w1 ((((w1_12.setCell ⟨w1_1.heap.size, 0, none⟩ (.int .i64 b1)).setCell ⟨w1_1.heap.size, 1, none⟩ (.slice (some ⟨g1_4, 0, none⟩) u.length r1_5)).setCell ⟨w1_1.heap.size, 2, none⟩ (.slice (some ⟨w1_10.heap.size, 0, none⟩) u.length u.length))) from qXt).cell b12, (show Ext w1 ((((w1_12.setCell ⟨w1_1.heap.size, 0, none⟩ (.int .i64 b1)).setCell ⟨w1_1.heap.size, 1, none⟩ (.slice (some ⟨g1_4, 0, none⟩) u.length r1_5)).setCell ⟨w1_1.heap.size, 2, none⟩ (.slice (some ⟨w1_10.heap.size, 0, none⟩) u.length u.length))) from qXt).cell b20, (show Ext w1 ((((w1_12.setCell ⟨w1_1.heap.size, 0, none⟩ (.int .i64 b1)).setCell ⟨w1_1.heap.size, 1, none⟩ (.slice (some ⟨g1_4, 0, none⟩) u.length r1_5)).setCell ⟨w1_1.heap.size, 2, none⟩ (.slice (some ⟨w1_10.heap.size, 0, none⟩) u.length u.length))) from qXt).cell b21, (show Ext w1 ((((w1_12.setCell ⟨w1_1.heap.size, 0, none⟩ (.int .i64 b1)).setCell ⟨w1_1.heap.size, 1, none⟩ (.slice (some ⟨g1_4, 0, none⟩) u.length r1_5)).setCell ⟨w1_1.heap.size, 2, none⟩ (.slice (some ⟨w1_10.heap.size, 0, none⟩) u.length u.length))) from qXt).cell b22⟩ (fun hHeld => ?_)
    clear hK K
    try simp only [Act.put, qa, qb, qc, qD, qE, qF]
    refine wpAnyH_done qKr ?_ _
    clear hHeld
    have zz := X1.size
    go_step
    go_step
    go_meet
    case rel => exact ⟨g1_4, r1_5, w1_10.heap.size, w1_1.heap.size, rfl, X1, (by omega), (by omega), (by omega), (by omega), (by omega), (by omega), (by omega), (by omega), (by omega), (O1_3).lower (by omega), (O1_13).lower (by omega), b1_110, f_b1_110, b1_111, f_b1_111, b1_112, f_b1_112⟩
  ·
   try simp only [Act.put, qa, qb, qc, qD, qE, qF]
   have hmk := mk_ints u.length (by omega)
   go_simp
   refine hK.out _ (w1.drew.alloc (.cells (madeCells #[Value.int .i64 0] u.length) 3)) ⟨(show Ext w1 (w1.drew.alloc (.cells (madeCells #[Value.int .i64 0] u.length) 3)) from qXt).cell b10, (show Ext w1 (w1.drew.alloc (.cells (madeCells #[Value.int .i64 0] u.length) 3)) from qXt).cell b11, (show Ext w1 (w1.drew.alloc (.cells (madeCells #[Value.int .i64 0] u.length) 3)) from qXt).cell b12, (show Ext w1 (w1.drew.alloc (.cells (madeCells #[Value.int .i64 0] u.length) 3)) from qXt).cell b20, (show Ext w1 (w1.drew.alloc (.cells (madeCells #[Value.int .i64 0] u.length) 3)) from qXt).cell b21, (show Ext w1 (w1.drew.alloc (.cells (madeCells #[Value.int .i64 0] u.length) 3)) from qXt).cell b22⟩ (fun hHeld => ?_)
   clear hK K hmk
   try simp only [Act.put, qa, qb, qc, qD, qE, qF]
   generalize hW6 : w1.drew.alloc (.cells (madeCells #[Value.int .i64 0] u.length) 3) = w1_14 at *
   have S_w1_14 : w1.heap.size < w1_14.heap.size := by subst hW6; simp
   have hx7 : Ext w1 w1_14 := by subst hW6; exact qXt
   replace X1 := X1.trans hx7
   clear hx7
   have O1_15 : OwnI w1_14 w1.heap.size (.slice (some ⟨w1.heap.size, 0, none⟩) u.length u.length) (List.replicate u.length 0) := by subst hW6; exact OwnI.made _ _ _ (by simp) (by omega)
   have Yw1_14 := Ext.refl w1_14
   clear hW6
   refine wpAnyH_ready (rs := [3, 8]) qKr (by simp) ?_
   refine AllReadyH.cons rfl (fun K hK => ?_) (AllReadyH.cons rfl (fun K hK => ?_) AllReadyH.nil)
   ·
    try simp only [Act.put, qa, qb, qc, qD, qE, qF]
    go_simp
    refine (copyIntsO_c (.slice p2 u.length c2) u _ _ (h3.ext (Xw1.trans qXt))).mono ?_
    rintro e w1_16 ⟨g1_19, r1_20, rfl, O1_18, Gg1_19, Hg1_19, x1_17⟩
    replace x1_17 : Ext w1_14 w1_16 := Ext.trans qXt x1_17
    have S_w1_16 : w1_14.heap.size ≤ w1_16.heap.size := x1_17.size
    replace Yw1_14 := Yw1_14.trans x1_17
    replace X1 := X1.trans x1_17
    have Yw1_16 := Ext.refl w1_16
    clear x1_17
    refine hK.out _ w1_16 ⟨(show Ext w1 w1_16 from qXt).cell b10, (show Ext w1 w1_16 from qXt).cell b11, (show Ext w1 w1_16 from qXt).cell b12, (show Ext w1 w1_16 from qXt).cell b20, (show Ext w1 w1_16 from qXt).cell b21, (show Ext w1 w1_16 from qXt).cell b22⟩ (fun hHeld => ?_)
    clear hK K
    try simp only [Act.put, qa, qb, qc, qD, qE, qF]
    refine qHk (v := ?_) 7 rfl (.inl ⟨by rfl, ?_⟩) ?_
    rotate_left
    ·
     (intro w hSw; (try dsimp only at hSw); go_simp; try with_reducible rfl)
    try simp only [Act.put, qa, qb, qc, qD, qE, qF]
    refine qHr 8 rfl (fun K hK => ?_)
    try simp only [Act.put, qa, qb, qc, qD, qE, qF]
    go_simp
    refine hK.out _ (w1_16.alloc (.cells #[.int .i64 0, .slice none 0 0, .slice none 0 0] 36)) ⟨(show Ext w1 (w1_16.alloc (.cells #[.int .i64 0, .slice none 0 0, .slice none 0 0] 36)) from qXt).cell b10, (show Ext w1 (w1_16.alloc (.cells #[.int .i64 0, .slice none 0 0, .slice none 0 0] 36)) from qXt).cell b11, (show Ext w1 (w1_16.alloc (.cells #[.int .i64 0, .slice none 0 0, .slice none 0 0] 36)) from qXt).cell b12, (show Ext w1 (w1_16.alloc (.cells #[.int .i64 0, .slice none 0 0, .slice none 0 0] 36)) from qXt).cell b20, (show Ext w1 (w1_16.alloc (.cells #[.int .i64 0, .slice none 0 0, .slice none 0 0] 36)) from qXt).cell b21, (show Ext w1 (w1_16.alloc (.cells #[.int .i64 0, .slice none 0 0, .slice none 0 0] 36)) from qXt).cell b22⟩ (fun hHeld => ?_)
    clear hK K
    try simp only [Act.put, qa, qb, qc, qD, qE, qF]
    generalize hW7 : w1_16.alloc (.cells #[.int .i64 0, .slice none 0 0, .slice none 0 0] 36) = w1_21 at *
    have S_w1_21 : w1_16.heap.size < w1_21.heap.size := by subst hW7; simp
    have hx7 : Ext w1_16 w1_21 := by subst hW7; exact qXt
    replace Yw1_14 := Yw1_14.trans hx7
    replace Yw1_16 := Yw1_16.trans hx7
    replace X1 := X1.trans hx7
    clear hx7
    have b1_220 : w1_21.cell? ⟨w1_16.heap.size, 0, none⟩ = some (.int .i64 0) := by subst hW7; exact qCl
    have f_b1_220 : w1_21.frozen? ⟨w1_16.heap.size, 0, none⟩ = false := by subst hW7; exact qFz
    have b1_221 : w1_21.cell? ⟨w1_16.heap.size, 1, none⟩ = some (.slice none 0 0) := by subst hW7; exact qCl
    have f_b1_221 : w1_21.frozen? ⟨w1_16.heap.size, 1, none⟩ = false := by subst hW7; exact qFz
    have b1_222 : w1_21.cell? ⟨w1_16.heap.size, 2, none⟩ = some (.slice none 0 0) := by subst hW7; exact qCl
    have f_b1_222 : w1_21.frozen? ⟨w1_16.heap.size, 2, none⟩ = false := by subst hW7; exact qFz
    have z_b1_22 : w1_16.heap.size < w1_21.heap.size := by subst hW7; exact S_w1_21
    have Yw1_21 := Ext.refl w1_21
    clear hW7
    refine qHr 9 rfl (fun K hK => ?_)
    try simp only [Act.put, qa, qb, qc, qD, qE, qF]
    replace b1_220 := Yw1_21.cell b1_220
    replace b1_221 := Yw1_21.cell b1_221
    replace b1_222 := Yw1_21.cell b1_222
    replace f_b1_220 := Yw1_21.frz z_b1_22 f_b1_220
    replace f_b1_221 := Yw1_21.frz z_b1_22 f_b1_221
    replace f_b1_222 := Yw1_21.frz z_b1_22 f_b1_222
    go_simp
    have zz := X1.size
    have K1 : Chg w1_16.heap.size (w1_16.heap.size + 1) w1_21 (((w1_21.setCell ⟨w1_16.heap.size, 0, none⟩ (.int .i64 b1)).setCell ⟨w1_16.heap.size, 1, none⟩ (.slice (some ⟨g1_19, 0, none⟩) u.length r1_20)).setCell ⟨w1_16.heap.size, 2, none⟩ (.slice (some ⟨w1.heap.size, 0, none⟩) u.length u.length)) := (Chg.setCell (p := ⟨w1_16.heap.size, 2, none⟩) (Chg.setCell (p := ⟨w1_16.heap.size, 1, none⟩) (Chg.setCell (p := ⟨w1_16.heap.size, 0, none⟩) (Chg.refl w1_16.heap.size (w1_16.heap.size + 1) w1_21) (Nat.le_refl _) (Nat.lt_succ_self _) _) (Nat.le_refl _) (Nat.lt_succ_self _) _) (Nat.le_refl _) (Nat.lt_succ_self _) _)
    have n_b1_220 : (((w1_21.setCell ⟨w1_16.heap.size, 0, none⟩ (.int .i64 b1)).setCell ⟨w1_16.heap.size, 1, none⟩ (.slice (some ⟨g1_19, 0, none⟩) u.length r1_20)).setCell ⟨w1_16.heap.size, 2, none⟩ (.slice (some ⟨w1.heap.size, 0, none⟩) u.length u.length)).cell? ⟨w1_16.heap.size, 0, none⟩ = some (.int .i64 b1) := by go_simp
    replace f_b1_220 : (((w1_21.setCell ⟨w1_16.heap.size, 0, none⟩ (.int .i64 b1)).setCell ⟨w1_16.heap.size, 1, none⟩ (.slice (some ⟨g1_19, 0, none⟩) u.length r1_20)).setCell ⟨w1_16.heap.size, 2, none⟩ (.slice (some ⟨w1.heap.size, 0, none⟩) u.length u.length)).frozen? ⟨w1_16.heap.size, 0, none⟩ = false := by go_simp
    have n_b1_221 : (((w1_21.setCell ⟨w1_16.heap.size, 0, none⟩ (.int .i64 b1)).setCell ⟨w1_16.heap.size, 1, none⟩ (.slice (some ⟨g1_19, 0, none⟩) u.length r1_20)).setCell ⟨w1_16.heap.size, 2, none⟩ (.slice (some ⟨w1.heap.size, 0, none⟩) u.length u.length)).cell? ⟨w1_16.heap.size, 1, none⟩ = some (.slice (some ⟨g1_19, 0, none⟩) u.length r1_20) := by go_simp
    replace f_b1_221 : (((w1_21.setCell ⟨w1_16.heap.size, 0, none⟩ (.int .i64 b1)).setCell ⟨w1_16.heap.size, 1, none⟩ (.slice (some ⟨g1_19, 0, none⟩) u.length r1_20)).setCell ⟨w1_16.heap.size, 2, none⟩ (.slice (some ⟨w1.heap.size, 0, none⟩) u.length u.length)).frozen? ⟨w1_16.heap.size, 1, none⟩ = false := by go_simp
    have n_b1_222 : (((w1_21.setCell ⟨w1_16.heap.size, 0, none⟩ (.int .i64 b1)).setCell ⟨w1_16.heap.size, 1, none⟩ (.slice (some ⟨g1_19, 0, none⟩) u.length r1_20)).setCell ⟨w1_16.heap.size, 2, none⟩ (.slice (some ⟨w1.heap.size, 0, none⟩) u.length u.length)).cell? ⟨w1_16.heap.size, 2, none⟩ = some (.slice (some ⟨w1.heap.size, 0, none⟩) u.length u.length) := by go_simp
    replace f_b1_222 : (((w1_21.setCell ⟨w1_16.heap.size, 0, none⟩ (.int .i64 b1)).setCell ⟨w1_16.heap.size, 1, none⟩ (.slice (some ⟨g1_19, 0, none⟩) u.length r1_20)).setCell ⟨w1_16.heap.size, 2, none⟩ (.slice (some ⟨w1.heap.size, 0, none⟩) u.length u.length)).frozen? ⟨w1_16.heap.size, 2, none⟩ = false := by go_simp
    replace b1_220 := n_b1_220
    clear n_b1_220
    replace b1_221 := n_b1_221
    clear n_b1_221
    replace b1_222 := n_b1_222
    clear n_b1_222
    replace O1_15 := (O1_15.ext Yw1_14).chgN K1 (by omega)
    replace O1_18 := (O1_18.ext Yw1_16).chgN K1 (by omega)
    replace X1 : Ext w1 (((w1_21.setCell ⟨w1_16.heap.size, 0, none⟩ (.int .i64 b1)).setCell ⟨w1_16.heap.size, 1, none⟩ (.slice (some ⟨g1_19, 0, none⟩) u.length r1_20)).setCell ⟨w1_16.heap.size, 2, none⟩ (.slice (some ⟨w1.heap.size, 0, none⟩) u.length u.length)) := (Ext.setCell (p := ⟨w1_16.heap.size, 2, none⟩) (Ext.setCell (p := ⟨w1_16.heap.size, 1, none⟩) (Ext.setCell (p := ⟨w1_16.heap.size, 0, none⟩) X1 (by dsimp only; omega) _) (by dsimp only; omega) _) (by dsimp only; omega) _)
    clear zz K1
    have S_st : w1_21.heap.size ≤ (((w1_21.setCell ⟨w1_16.heap.size, 0, none⟩ (.int .i64 b1)).setCell ⟨w1_16.heap.size, 1, none⟩ (.slice (some ⟨g1_19, 0, none⟩) u.length r1_20)).setCell ⟨w1_16.heap.size, 2, none⟩ (.slice (some ⟨w1.heap.size, 0, none⟩) u.length u.length)).heap.size := by simp
    refine hK.out _ ((((w1_21.setCell ⟨w1_16.heap.size, 0, none⟩ (.int .i64 b1)).setCell ⟨w1_16.heap.size, 1, none⟩ (.slice (some ⟨g1_19, 0, none⟩) u.length r1_20)).setCell ⟨w1_16.heap.size, 2, none⟩ (.slice (some ⟨w1.heap.size, 0, none⟩) u.length u.length))) ⟨(show Ext w1 ((((w1_21.setCell ⟨w1_16.heap.size, 0, none⟩ (.int .i64 b1)).setCell ⟨w1_16.heap.size, 1, none⟩ (.slice (some ⟨g1_19, 0, none⟩) u.length r1_20)).setCell ⟨w1_16.heap.size, 2, none⟩ (.slice (some ⟨w1.heap.size, 0, none⟩) u.length u.length))) from qXt).cell b10, (show Ext w1 ((((w1_21.setCell ⟨w1_16.heap.size, 0, none⟩ (.int .i64 b1)).setCell ⟨w1_16.heap.size, 1, none⟩ (.slice (some ⟨g1_19, 0, none⟩) u.length r1_20)).setCell ⟨w1_16.heap.size, 2, none⟩ (.slice (some ⟨w1.heap.size, 0, none⟩) u.length u.length))) from qXt).cell b11, (show Ext w1 ((((w1_21.setCell ⟨w1_16.heap.size, 0, none⟩ (.int .i64 b1)).setCell ⟨w1_16.heap.size, 1, none⟩ (.slice (some ⟨g1_19, 0, none⟩) u.length r1_20)).setCell ⟨w1_16.heap.size, 2, none⟩ (.slice (some ⟨w1.heap.size, 0, none⟩) u.length u.length))) from qXt).cell b12, (show Ext w1 ((((w1_21.setCell ⟨w1_16.heap.size, 0, none⟩ (.int .i64 b1)).setCell ⟨w1_16.heap.size, 1, none⟩ (.slice (some ⟨g1_19, 0, none⟩) u.length r1_20)).setCell ⟨w1_16.heap.size, 2, none⟩ (.slice (some ⟨w1.heap.size, 0, none⟩) u.length u.length))) from qXt).cell b20, (show Ext w1 ((((w1_21.setCell ⟨w1_16.heap.size, 0, none⟩ (.int .i64 b1)).setCell ⟨w1_16.heap.size, 1, none⟩ (.slice (some ⟨g1_19, 0, none⟩) u.length r1_20)).setCell ⟨w1_16.heap.size, 2, none⟩ (.slice (some ⟨w1.heap.size, 0, none⟩) u.length u.length))) from qXt).cell b21, (show Ext w1 ((((w1_21.setCell ⟨w1_16.heap.size, 0, none⟩ (.int .i64 b1)).setCell ⟨w1_16.heap.size, 1, none⟩ (.slice (some ⟨g1_19, 0, none⟩) u.length r1_20)).setCell ⟨w1_16.heap.size, 2, none⟩ (.slice (some ⟨w1.heap.size, 0, none⟩) u.length u.length))) from qXt).cell b22⟩ (fun hHeld => ?_)
    clear hK K
    try simp only [Act.put, qa, qb, qc, qD, qE, qF]
    refine wpAnyH_done qKr ?_ _
    clear hHeld
    have zz := X1.size
    go_step
    go_step
    go_meet
    case rel => exact ⟨g1_19, r1_20, w1.heap.size, w1_16.heap.size, rfl, X1, (by omega), (by omega), (by omega), (by omega), (by omega), (by omega), (by omega), (by omega), (by omega), (O1_18).lower (by omega), (O1_15).lower (by omega), b1_220, f_b1_220, b1_221, f_b1_221, b1_222, f_b1_222⟩
   ·
    try simp only [Act.put, qa, qb, qc, qD, qE, qF]
    go_simp
    refine hK.out _ (w1_14.alloc (.cells #[.int .i64 0, .slice none 0 0, .slice none 0 0] 36)) ⟨(show Ext w1 (w1_14.alloc (.cells #[.int .i64 0, .slice none 0 0, .slice none 0 0] 36)) from qXt).cell b10, (show Ext w1 (w1_14.alloc (.cells #[.int .i64 0, .slice none 0 0, .slice none 0 0] 36)) from qXt).cell b11, (show Ext w1 (w1_14.alloc (.cells #[.int .i64 0, .slice none 0 0, .slice none 0 0] 36)) from qXt).cell b12, (show Ext w1 (w1_14.alloc (.cells #[.int .i64 0, .slice none 0 0, .slice none 0 0] 36)) from qXt).cell b20, (show Ext w1 (w1_14.alloc (.cells #[.int .i64 0, .slice none 0 0, .slice none 0 0] 36)) from qXt).cell b21, (show Ext w1 (w1_14.alloc (.cells #[.int .i64 0, .slice none 0 0, .slice none 0 0] 36)) from qXt).cell b22⟩ (fun hHeld => ?_)
    clear hK K
    try simp only [Act.put, qa, qb, qc, qD, qE, qF]
    generalize hW8 : w1_14.alloc (.cells #[.int .i64 0, .slice none 0 0, .slice none 0 0] 36) = w1_23 at *
    have S_w1_23 : w1_14.heap.size < w1_23.heap.size := by subst hW8; simp
    have hx7 : Ext w1_14 w1_23 := by subst hW8; exact qXt
    replace Yw1_14 := Yw1_14.trans hx7
    replace X1 := X1.trans hx7
    clear hx7
    have b1_240 : w1_23.cell? ⟨w1_14.heap.size, 0, none⟩ = some (.int .i64 0) := by subst hW8; exact qCl
    have f_b1_240 : w1_23.frozen? ⟨w1_14.heap.size, 0, none⟩ = false := by subst hW8; exact qFz
    have b1_241 : w1_23.cell? ⟨w1_14.heap.size, 1, none⟩ = some (.slice none 0 0) := by subst hW8; exact qCl
    have f_b1_241 : w1_23.frozen? ⟨w1_14.heap.size, 1, none⟩ = false := by subst hW8; exact qFz
    have b1_242 : w1_23.cell? ⟨w1_14.heap.size, 2, none⟩ = some (.slice none 0 0) := by subst hW8; exact qCl
    have f_b1_242 : w1_23.frozen? ⟨w1_14.heap.size, 2, none⟩ = false := by subst hW8; exact qFz
    have z_b1_24 : w1_14.heap.size < w1_23.heap.size := by subst hW8; exact S_w1_23
    have Yw1_23 := Ext.refl w1_23
    clear hW8
    refine qHr 3 rfl (fun K hK => ?_)
    try simp only [Act.put, qa, qb, qc, qD, qE, qF]
    go_simp
    refine (copyIntsO_c (.slice p2 u.length c2) u _ _ (h3.ext (Xw1.trans qXt))).mono ?_
    rintro e w1_25 ⟨g1_28, r1_29, rfl, O1_27, Gg1_28, Hg1_28, x1_26⟩
    replace x1_26 : Ext w1_23 w1_25 := Ext.trans qXt x1_26
    have S_w1_25 : w1_23.heap.size ≤ w1_25.heap.size := x1_26.size
    replace Yw1_14 := Yw1_14.trans x1_26
    replace Yw1_23 := Yw1_23.trans x1_26
    replace X1 := X1.trans x1_26
    have Yw1_25 := Ext.refl w1_25
    clear x1_26
    refine hK.out _ w1_25 ⟨(show Ext w1 w1_25 from qXt).cell b10, (show Ext w1 w1_25 from qXt).cell b11, (show Ext w1 w1_25 from qXt).cell b12, (show Ext w1 w1_25 from qXt).cell b20, (show Ext w1 w1_25 from qXt).cell b21, (show Ext w1 w1_25 from qXt).cell b22⟩ (fun hHeld => ?_)
    clear hK K
    try simp only [Act.put, qa, qb, qc, qD, qE, qF]
    refine qHk (v := ?_) 7 rfl (.inl ⟨by rfl, ?_⟩) ?_
    rotate_left
    ·
     (intro w hSw; (try dsimp only at hSw); go_simp; try with_reducible rfl)
    try simp only [Act.put, qa, qb, qc, qD, qE, qF]
    refine qHr 9 rfl (fun K hK => ?_)
    try simp only [Act.put, qa, qb, qc, qD, qE, qF]
    replace b1_240 := Yw1_23.cell b1_240
    replace b1_241 := Yw1_23.cell b1_241
    replace b1_242 := Yw1_23.cell b1_242
    replace f_b1_240 := Yw1_23.frz z_b1_24 f_b1_240
    replace f_b1_241 := Yw1_23.frz z_b1_24 f_b1_241
    replace f_b1_242 := Yw1_23.frz z_b1_24 f_b1_242
    go_simp
    have zz := X1.size
    have K1 : Chg w1_14.heap.size (w1_14.heap.size + 1) w1_25 (((w1_25.setCell ⟨w1_14.heap.size, 0, none⟩ (.int .i64 b1)).setCell ⟨w1_14.heap.size, 1, none⟩ (.slice (some ⟨g1_28, 0, none⟩) u.length r1_29)).setCell ⟨w1_14.heap.size, 2, none⟩ (.slice (some ⟨w1.heap.size, 0, none⟩) u.length u.length)) := (Chg.setCell (p := ⟨w1_14.heap.size, 2, none⟩) (Chg.setCell (p := ⟨w1_14.heap.size, 1, none⟩) (Chg.setCell (p := ⟨w1_14.heap.size, 0, none⟩) (Chg.refl w1_14.heap.size (w1_14.heap.size + 1) w1_25) (Nat.le_refl _) (Nat.lt_succ_self _) _) (Nat.le_refl _) (Nat.lt_succ_self _) _) (Nat.le_refl _) (Nat.lt_succ_self _) _)
    have n_b1_240 : (((w1_25.setCell ⟨w1_14.heap.size, 0, none⟩ (.int .i64 b1)).setCell ⟨w1_14.heap.size, 1, none⟩ (.slice (some ⟨g1_28, 0, none⟩) u.length r1_29)).setCell ⟨w1_14.heap.size, 2, none⟩ (.slice (some ⟨w1.heap.size, 0, none⟩) u.length u.length)).cell? ⟨w1_14.heap.size, 0, none⟩ = some (.int .i64 b1) := by go_simp
    replace f_b1_240 : (((w1_25.setCell ⟨w1_14.heap.size, 0, none⟩ (.int .i64 b1)).setCell ⟨w1_14.heap.size, 1, none⟩ (.slice (some ⟨g1_28, 0, none⟩) u.length r1_29)).setCell ⟨w1_14.heap.size, 2, none⟩ (.slice (some ⟨w1.heap.size, 0, none⟩) u.length u.length)).frozen? ⟨w1_14.heap.size, 0, none⟩ = false := by go_simp
    have n_b1_241 : (((w1_25.setCell ⟨w1_14.heap.size, 0, none⟩ (.int .i64 b1)).setCell ⟨w1_14.heap.size, 1, none⟩ (.slice (some ⟨g1_28, 0, none⟩) u.length r1_29)).setCell ⟨w1_14.heap.size, 2, none⟩ (.slice (some ⟨w1.heap.size, 0, none⟩) u.length u.length)).cell? ⟨w1_14.heap.size, 1, none⟩ = some (.slice (some ⟨g1_28, 0, none⟩) u.length r1_29) := by go_simp
    replace f_b1_241 : (((w1_25.setCell ⟨w1_14.heap.size, 0, none⟩ (.int .i64 b1)).setCell ⟨w1_14.heap.size, 1, none⟩ (.slice (some ⟨g1_28, 0, none⟩) u.length r1_29)).setCell ⟨w1_14.heap.size, 2, none⟩ (.slice (some ⟨w1.heap.size, 0, none⟩) u.length u.length)).frozen? ⟨w1_14.heap.size, 1, none⟩ = false := by go_simp
    have n_b1_242 : (((w1_25.setCell ⟨w1_14.heap.size, 0, none⟩ (.int .i64 b1)).setCell ⟨w1_14.heap.size, 1, none⟩ (.slice (some ⟨g1_28, 0, none⟩) u.length r1_29)).setCell ⟨w1_14.heap.size, 2, none⟩ (.slice (some ⟨w1.heap.size, 0, none⟩) u.length u.length)).cell? ⟨w1_14.heap.size, 2, none⟩ = some (.slice (some ⟨w1.heap.size, 0, none⟩) u.length u.length) := by go_simp
    replace f_b1_242 : (((w1_25.setCell ⟨w1_14.heap.size, 0, none⟩ (.int .i64 b1)).setCell ⟨w1_14.heap.size, 1, none⟩ (.slice (some ⟨g1_28, 0, none⟩) u.length r1_29)).setCell ⟨w1_14.heap.size, 2, none⟩ (.slice (some ⟨w1.heap.size, 0, none⟩) u.length u.length)).frozen? ⟨w1_14.heap.size, 2, none⟩ = false := by go_simp
    replace b1_240 := n_b1_240
    clear n_b1_240
    replace b1_241 := n_b1_241
    clear n_b1_241
    replace b1_242 := n_b1_242
    clear n_b1_242
    replace O1_15 := (O1_15.ext Yw1_14).chgN K1 (by omega)
    replace O1_27 := (O1_27.ext Yw1_25).chgN K1 (by omega)
    replace X1 : Ext w1 (((w1_25.setCell ⟨w1_14.heap.size, 0, none⟩ (.int .i64 b1)).setCell ⟨w1_14.heap.size, 1, none⟩ (.slice (some ⟨g1_28, 0, none⟩) u.length r1_29)).setCell ⟨w1_14.heap.size, 2, none⟩ (.slice (some ⟨w1.heap.size, 0, none⟩) u.length u.length)) := (Ext.setCell (p := ⟨w1_14.heap.size, 2, none⟩) (Ext.setCell (p := ⟨w1_14.heap.size, 1, none⟩) (Ext.setCell (p := ⟨w1_14.heap.size, 0, none⟩) X1 (by dsimp only; omega) _) (by dsimp only; omega) _) (by dsimp only; omega) _)
    clear zz K1
    have S_st : w1_25.heap.size ≤ (((w1_25.setCell ⟨w1_14.heap.size, 0, none⟩ (.int .i64 b1)).setCell ⟨w1_14.heap.size, 1, none⟩ (.slice (some ⟨g1_28, 0, none⟩) u.length r1_29)).setCell ⟨w1_14.heap.size, 2, none⟩ (.slice (some ⟨w1.heap.size, 0, none⟩) u.length u.length)).heap.size := by simp
    refine hK.out _ ((((w1_25.setCell ⟨w1_14.heap.size, 0, none⟩ (.int .i64 b1)).setCell ⟨w1_14.heap.size, 1, none⟩ (.slice (some ⟨g1_28, 0, none⟩) u.length r1_29)).setCell ⟨w1_14.heap.size, 2, none⟩ (.slice (some ⟨w1.heap.size, 0, none⟩) u.length u.length))) ⟨(show Ext w1 ((((w1_25.setCell ⟨w1_14.heap.size, 0, none⟩ (.int .i64 b1)).setCell ⟨w1_14.heap.size, 1, none⟩ (.slice (some ⟨g1_28, 0, none⟩) u.length r1_29)).setCell ⟨w1_14.heap.size, 2, none⟩ (.slice (some ⟨w1.heap.size, 0, none⟩) u.length u.length))) from qXt).cell b10, (show Ext w1 ((((w1_25.setCell ⟨w1_14.heap.size, 0, none⟩ (.int .i64 b1)).setCell ⟨w1_14.heap.size, 1, none⟩ (.slice (some ⟨g1_28, 0, none⟩) u.length r1_29)).setCell ⟨w1_14.heap.size, 2, none⟩ (.slice (some ⟨w1.heap.size, 0, none⟩) u.length u.length))) from qXt).cell b11, (show Ext w1 ((((w1_25.setCell ⟨w1_14.heap.size, 0, none⟩ (.int .i64 b1)).setCell ⟨w1_14.heap.size, 1, none⟩ (.slice (some ⟨g1_28, 0, none⟩) u.length r1_29)).setCell ⟨w1_14.heap.size, 2, none⟩ (.slice (some ⟨w1.heap.size, 0, none⟩) u.length u.length))) from qXt).cell b12, (show Ext w1 ((((w1_25.setCell ⟨w1_14.heap.size, 0, none⟩ (.int .i64 b1)).setCell ⟨w1_14.heap.size, 1, none⟩ (.slice (some ⟨g1_28, 0, none⟩) u.length r1_29)).setCell ⟨w1_14.heap.size, 2, none⟩ (.slice (some ⟨w1.heap.size, 0, none⟩) u.length u.length))) from qXt).cell b20, (show Ext w1 ((((w1_25.setCell ⟨w1_14.heap.size, 0, none⟩ (.int .i64 b1)).setCell ⟨w1_14.heap.size, 1, none⟩ (.slice (some ⟨g1_28, 0, none⟩) u.length r1_29)).setCell ⟨w1_14.heap.size, 2, none⟩ (.slice (some ⟨w1.heap.size, 0, none⟩) u.length u.length))) from qXt).cell b21, (show Ext w1 ((((w1_25.setCell ⟨w1_14.heap.size, 0, none⟩ (.int .i64 b1)).setCell ⟨w1_14.heap.size, 1, none⟩ (.slice (some ⟨g1_28, 0, none⟩) u.length r1_29)).setCell ⟨w1_14.heap.size, 2, none⟩ (.slice (some ⟨w1.heap.size, 0, none⟩) u.length u.length))) from qXt).cell b22⟩ (fun hHeld => ?_)
    clear hK K
    try simp only [Act.put, qa, qb, qc, qD, qE, qF]
    refine wpAnyH_done qKr ?_ _
    clear hHeld
    have zz := X1.size
    go_step
    go_step
    go_meet
    case rel => exact ⟨g1_28, r1_29, w1.heap.size, w1_14.heap.size, rfl, X1, (by omega), (by omega), (by omega), (by omega), (by omega), (by omega), (by omega), (by omega), (by omega), (O1_27).lower (by omega), (O1_15).lower (by omega), b1_240, f_b1_240, b1_241, f_b1_241, b1_242, f_b1_242⟩
  ·
   try simp only [Act.put, qa, qb, qc, qD, qE, qF]
   go_simp
   refine hK.out _ (w1.drew.alloc (.cells #[.int .i64 0, .slice none 0 0, .slice none 0 0] 36)) ⟨(show Ext w1 (w1.drew.alloc (.cells #[.int .i64 0, .slice none 0 0, .slice none 0 0] 36)) from qXt).cell b10, (show Ext w1 (w1.drew.alloc (.cells #[.int .i64 0, .slice none 0 0, .slice none 0 0] 36)) from qXt).cell b11, (show Ext w1 (w1.drew.alloc (.cells #[.int .i64 0, .slice none 0 0, .slice none 0 0] 36)) from qXt).cell b12, (show Ext w1 (w1.drew.alloc (.cells #[.int .i64 0, .slice none 0 0, .slice none 0 0] 36)) from qXt).cell b20, (show Ext w1 (w1.drew.alloc (.cells #[.int .i64 0, .slice none 0 0, .slice none 0 0] 36)) from qXt).cell b21, (show Ext w1 (w1.drew.alloc (.cells #[.int .i64 0, .slice none 0 0, .slice none 0 0] 36)) from qXt).cell b22⟩ (fun hHeld => ?_)
   clear hK K
   try simp only [Act.put, qa, qb, qc, qD, qE, qF]
   generalize hW9 : w1.drew.alloc (.cells #[.int .i64 0, .slice none 0 0, .slice none 0 0] 36) = w1_30 at *
   have S_w1_30 : w1.heap.size < w1_30.heap.size := by subst hW9; simp
   have hx7 : Ext w1 w1_30 := by subst hW9; exact qXt
   replace X1 := X1.trans hx7
   clear hx7
   have b1_310 : w1_30.cell? ⟨w1.heap.size, 0, none⟩ = some (.int .i64 0) := by subst hW9; exact qCl
   have f_b1_310 : w1_30.frozen? ⟨w1.heap.size, 0, none⟩ = false := by subst hW9; exact qFz
   have b1_311 : w1_30.cell? ⟨w1.heap.size, 1, none⟩ = some (.slice none 0 0) := by subst hW9; exact qCl
   have f_b1_311 : w1_30.frozen? ⟨w1.heap.size, 1, none⟩ = false := by subst hW9; exact qFz
   have b1_312 : w1_30.cell? ⟨w1.heap.size, 2, none⟩ = some (.slice none 0 0) := by subst hW9; exact qCl
   have f_b1_312 : w1_30.frozen? ⟨w1.heap.size, 2, none⟩ = false := by subst hW9; exact qFz
   have z_b1_31 : w1.heap.size < w1_30.heap.size := by subst hW9; exact S_w1_30
   have Yw1_30 := Ext.refl w1_30
   clear hW9
   refine wpAnyH_ready (rs := [3, 6]) qKr (by simp) ?_
   refine AllReadyH.cons rfl (fun K hK => ?_) (AllReadyH.cons rfl (fun K hK => ?_) AllReadyH.nil)
   ·
    try simp only [Act.put, qa, qb, qc, qD, qE, qF]
    go_simp
    refine (copyIntsO_c (.slice p2 u.length c2) u _ _ (h3.ext (Xw1.trans qXt))).mono ?_
    rintro e w1_32 ⟨g1_35, r1_36, rfl, O1_34, Gg1_35, Hg1_35, x1_33⟩
    replace x1_33 : Ext w1_30 w1_32 := Ext.trans qXt x1_33
    have S_w1_32 : w1_30.heap.size ≤ w1_32.heap.size := x1_33.size
    replace Yw1_30 := Yw1_30.trans x1_33
    replace X1 := X1.trans x1_33
    have Yw1_32 := Ext.refl w1_32
    clear x1_33
    refine hK.out _ w1_32 ⟨(show Ext w1 w1_32 from qXt).cell b10, (show Ext w1 w1_32 from qXt).cell b11, (show Ext w1 w1_32 from qXt).cell b12, (show Ext w1 w1_32 from qXt).cell b20, (show Ext w1 w1_32 from qXt).cell b21, (show Ext w1 w1_32 from qXt).cell b22⟩ (fun hHeld => ?_)
    clear hK K
    try simp only [Act.put, qa, qb, qc, qD, qE, qF]
    refine qHr 6 rfl (fun K hK => ?_)
    try simp only [Act.put, qa, qb, qc, qD, qE, qF]
    have hmk := mk_ints u.length (by omega)
    go_simp
    refine hK.out _ (w1_32.alloc (.cells (madeCells #[Value.int .i64 0] u.length) 3)) ⟨(show Ext w1 (w1_32.alloc (.cells (madeCells #[Value.int .i64 0] u.length) 3)) from qXt).cell b10, (show Ext w1 (w1_32.alloc (.cells (madeCells #[Value.int .i64 0] u.length) 3)) from qXt).cell b11, (show Ext w1 (w1_32.alloc (.cells (madeCells #[Value.int .i64 0] u.length) 3)) from qXt).cell b12, (show Ext w1 (w1_32.alloc (.cells (madeCells #[Value.int .i64 0] u.length) 3)) from qXt).cell b20, (show Ext w1 (w1_32.alloc (.cells (madeCells #[Value.int .i64 0] u.length) 3)) from qXt).cell b21, (show Ext w1 (w1_32.alloc (.cells (madeCells #[Value.int .i64 0] u.length) 3)) from qXt).cell b22⟩ (fun hHeld => ?_)
    clear hK K hmk
    try simp only [Act.put, qa, qb, qc, qD, qE, qF]
    generalize hW10 : w1_32.alloc (.cells (madeCells #[Value.int .i64 0] u.length) 3) = w1_37 at *
    have S_w1_37 : w1_32.heap.size < w1_37.heap.size := by subst hW10; simp
    have hx7 : Ext w1_32 w1_37 := by subst hW10; exact qXt
    replace Yw1_30 := Yw1_30.trans hx7
    replace Yw1_32 := Yw1_32.trans hx7
    replace X1 := X1.trans hx7
    clear hx7
    have O1_38 : OwnI w1_37 w1_32.heap.size (.slice (some ⟨w1_32.heap.size, 0, none⟩) u.length u.length) (List.replicate u.length 0) := by subst hW10; exact OwnI.made _ _ _ (by simp) (by omega)
    have Yw1_37 := Ext.refl w1_37
    clear hW10
    refine qHk (v := ?_) 7 rfl (.inl ⟨by rfl, ?_⟩) ?_
    rotate_left
    ·
     (intro w hSw; (try dsimp only at hSw); go_simp; try with_reducible rfl)
    try simp only [Act.put, qa, qb, qc, qD, qE, qF]
    refine qHr 9 rfl (fun K hK => ?_)
    try simp only [Act.put, qa, qb, qc, qD, qE, qF]
    replace b1_310 := Yw1_30.cell b1_310
    replace b1_311 := Yw1_30.cell b1_311
    replace b1_312 := Yw1_30.cell b1_312
    replace f_b1_310 := Yw1_30.frz z_b1_31 f_b1_310
    replace f_b1_311 := Yw1_30.frz z_b1_31 f_b1_311
    replace f_b1_312 := Yw1_30.frz z_b1_31 f_b1_312
    go_simp
    have zz := X1.size
    have K1 : Chg w1.heap.size (w1.heap.size + 1) w1_37 (((w1_37.setCell ⟨w1.heap.size, 0, none⟩ (.int .i64 b1)).setCell ⟨w1.heap.size, 1, none⟩ (.slice (some ⟨g1_35, 0, none⟩) u.length r1_36)).setCell ⟨w1.heap.size, 2, none⟩ (.slice (some ⟨w1_32.heap.size, 0, none⟩) u.length u.length)) := (Chg.setCell (p := ⟨w1.heap.size, 2, none⟩) (Chg.setCell (p := ⟨w1.heap.size, 1, none⟩) (Chg.setCell (p := ⟨w1.heap.size, 0, none⟩) (Chg.refl w1.heap.size (w1.heap.size + 1) w1_37) (Nat.le_refl _) (Nat.lt_succ_self _) _) (Nat.le_refl _) (Nat.lt_succ_self _) _) (Nat.le_refl _) (Nat.lt_succ_self _) _)
    have n_b1_310 : (((w1_37.setCell ⟨w1.heap.size, 0, none⟩ (.int .i64 b1)).setCell ⟨w1.heap.size, 1, none⟩ (.slice (some ⟨g1_35, 0, none⟩) u.length r1_36)).setCell ⟨w1.heap.size, 2, none⟩ (.slice (some ⟨w1_32.heap.size, 0, none⟩) u.length u.length)).cell? ⟨w1.heap.size, 0, none⟩ = some (.int .i64 b1) := by go_simp
    replace f_b1_310 : (((w1_37.setCell ⟨w1.heap.size, 0, none⟩ (.int .i64 b1)).setCell ⟨w1.heap.size, 1, none⟩ (.slice (some ⟨g1_35, 0, none⟩) u.length r1_36)).setCell ⟨w1.heap.size, 2, none⟩ (.slice (some ⟨w1_32.heap.size, 0, none⟩) u.length u.length)).frozen? ⟨w1.heap.size, 0, none⟩ = false := by go_simp
    have n_b1_311 : (((w1_37.setCell ⟨w1.heap.size, 0, none⟩ (.int .i64 b1)).setCell ⟨w1.heap.size, 1, none⟩ (.slice (some ⟨g1_35, 0, none⟩) u.length r1_36)).setCell ⟨w1.heap.size, 2, none⟩ (.slice (some ⟨w1_32.heap.size, 0, none⟩) u.length u.length)).cell? ⟨w1.heap.size, 1, none⟩ = some (.slice (some ⟨g1_35, 0, none⟩) u.length r1_36) := by go_simp
    replace f_b1_311 : (((w1_37.setCell ⟨w1.heap.size, 0, none⟩ (.int .i64 b1)).setCell ⟨w1.heap.size, 1, none⟩ (.slice (some ⟨g1_35, 0, none⟩) u.length r1_36)).setCell ⟨w1.heap.size, 2, none⟩ (.slice (some ⟨w1_32.heap.size, 0, none⟩) u.length u.length)).frozen? ⟨w1.heap.size, 1, none⟩ = false := by go_simp
    have n_b1_312 : (((w1_37.setCell ⟨w1.heap.size, 0, none⟩ (.int .i64 b1)).setCell ⟨w1.heap.size, 1, none⟩ (.slice (some ⟨g1_35, 0, none⟩) u.length r1_36)).setCell ⟨w1.heap.size, 2, none⟩ (.slice (some ⟨w1_32.heap.size, 0, none⟩) u.length u.length)).cell? ⟨w1.heap.size, 2, none⟩ = some (.slice (some ⟨w1_32.heap.size, 0, none⟩) u.length u.length) := by go_simp
    replace f_b1_312 : (((w1_37.setCell ⟨w1.heap.size, 0, none⟩ (.int .i64 b1)).setCell ⟨w1.heap.size, 1, none⟩ (.slice (some ⟨g1_35, 0, none⟩) u.length r1_36)).setCell ⟨w1.heap.size, 2, none⟩ (.slice (some ⟨w1_32.heap.size, 0, none⟩) u.length u.length)).frozen? ⟨w1.heap.size, 2, none⟩ = false := by go_simp
    replace b1_310 := n_b1_310
    clear n_b1_310
    replace b1_311 := n_b1_311
    clear n_b1_311
    replace b1_312 := n_b1_312
    clear n_b1_312
    replace O1_34 := (O1_34.ext Yw1_32).chgN K1 (by omega)
    replace O1_38 := (O1_38.ext Yw1_37).chgN K1 (by omega)
    replace X1 : Ext w1 (((w1_37.setCell ⟨w1.heap.size, 0, none⟩ (.int .i64 b1)).setCell ⟨w1.heap.size, 1, none⟩ (.slice (some ⟨g1_35, 0, none⟩) u.length r1_36)).setCell ⟨w1.heap.size, 2, none⟩ (.slice (some ⟨w1_32.heap.size, 0, none⟩) u.length u.length)) := (Ext.setCell (p := ⟨w1.heap.size, 2, none⟩) (Ext.setCell (p := ⟨w1.heap.size, 1, none⟩) (Ext.setCell (p := ⟨w1.heap.size, 0, none⟩) X1 (by dsimp only; omega) _) (by dsimp only; omega) _) (by dsimp only; omega) _)
    clear zz K1
    have S_st : w1_37.heap.size ≤ (((w1_37.setCell ⟨w1.heap.size, 0, none⟩ (.int .i64 b1)).setCell ⟨w1.heap.size, 1, none⟩ (.slice (some ⟨g1_35, 0, none⟩) u.length r1_36)).setCell ⟨w1.heap.size, 2, none⟩ (.slice (some ⟨w1_32.heap.size, 0, none⟩) u.length u.length)).heap.size := by simp
    refine hK.out _ ((((w1_37.setCell ⟨w1.heap.size, 0, none⟩ (.int .i64 b1)).setCell ⟨w1.heap.size, 1, none⟩ (.slice (some ⟨g1_35, 0, none⟩) u.length r1_36)).setCell ⟨w1.heap.size, 2, none⟩ (.slice (some ⟨w1_32.heap.size, 0, none⟩) u.length u.length))) ⟨(show Ext w1 ((((w1_37.setCell ⟨w1.heap.size, 0, none⟩ (.int .i64 b1)).setCell ⟨w1.heap.size, 1, none⟩ (.slice (some ⟨g1_35, 0, none⟩) u.length r1_36)).setCell ⟨w1.heap.size, 2, none⟩ (.slice (some ⟨w1_32.heap.size, 0, none⟩) u.length u.length))) from qXt).cell b10, (show Ext w1 ((((w1_37.setCell ⟨w1.heap.size, 0, none⟩ (.int .i64 b1)).setCell ⟨w1.heap.size, 1, none⟩ (.slice (some ⟨g1_35, 0, none⟩) u.length r1_36)).setCell ⟨w1.heap.size, 2, none⟩ (.slice (some ⟨w1_32.heap.size, 0, none⟩) u.length u.length))) from qXt).cell b11, (show Ext w1 ((((w1_37.setCell ⟨w1.heap.size, 0, none⟩ (.int .i64 b1)).setCell ⟨w1.heap.size, 1, none⟩ (.slice (some ⟨g1_35, 0, none⟩) u.length r1_36)).setCell ⟨w1.heap.size, 2, none⟩ (.slice (some ⟨w1_32.heap.size, 0, none⟩) u.length u.length))) from qXt).cell b12, (show Ext w1 ((((w1_37.setCell ⟨w1.heap.size, 0, none⟩ (.int .i64 b1)).setCell ⟨w1.heap.size, 1, none⟩ (.slice (some ⟨g1_35, 0, none⟩) u.length r1_36)).setCell ⟨w1.heap.size, 2, none⟩ (.slice (some ⟨w1_32.heap.size, 0, none⟩) u.length u.length))) from qXt).cell b20, (show Ext w1 ((((w1_37.setCell ⟨w1.heap.size, 0, none⟩ (.int .i64 b1)).setCell ⟨w1.heap.size, 1, none⟩ (.slice (some ⟨g1_35, 0, none⟩) u.length r1_36)).setCell ⟨w1.heap.size, 2, none⟩ (.slice (some ⟨w1_32.heap.size, 0, none⟩) u.length u.length))) from qXt).cell b21, (show Ext w1 ((((w1_37.setCell ⟨w1.heap.size, 0, none⟩ (.int .i64 b1)).setCell ⟨w1.heap.size, 1, none⟩ (.slice (some ⟨g1_35, 0, none⟩) u.length r1_36)).setCell ⟨w1.heap.size, 2, none⟩ (.slice (some ⟨w1_32.heap.size, 0, none⟩) u.length u.length))) from qXt).cell b22⟩ (fun hHeld => ?_)
    clear hK K
    try simp only [Act.put, qa, qb, qc, qD, qE, qF]
    refine wpAnyH_done qKr ?_ _
    clear hHeld
    have zz := X1.size
    go_step
    go_step
    go_meet
    case rel => exact ⟨g1_35, r1_36, w1_32.heap.size, w1.heap.size, rfl, X1, (by omega), (by omega), (by omega), (by omega), (by omega), (by omega), (by omega), (by omega), (by omega), (O1_34).lower (by omega), (O1_38).lower (by omega), b1_310, f_b1_310, b1_311, f_b1_311, b1_312, f_b1_312⟩
   ·
    try simp only [Act.put, qa, qb, qc, qD, qE, qF]
    have hmk := mk_ints u.length (by omega)
    go_simp
    refine hK.out _ (w1_30.alloc (.cells (madeCells #[Value.int .i64 0] u.length) 3)) ⟨(show Ext w1 (w1_30.alloc (.cells (madeCells #[Value.int .i64 0] u.length) 3)) from qXt).cell b10, (show Ext w1 (w1_30.alloc (.cells (madeCells #[Value.int .i64 0] u.length) 3)) from qXt).cell b11, (show Ext w1 (w1_30.alloc (.cells (madeCells #[Value.int .i64 0] u.length) 3)) from qXt).cell b12, (show Ext w1 (w1_30.alloc (.cells (madeCells #[Value.int .i64 0] u.length) 3)) from qXt).cell b20, (show Ext w1 (w1_30.alloc (.cells (madeCells #[Value.int .i64 0] u.length) 3)) from qXt).cell b21, (show Ext w1 (w1_30.alloc (.cells (madeCells #[Value.int .i64 0] u.length) 3)) from qXt).cell b22⟩ (fun hHeld => ?_)
    clear hK K hmk
    try simp only [Act.put, qa, qb, qc, qD, qE, qF]
    generalize hW11 : w1_30.alloc (.cells (madeCells #[Value.int .i64 0] u.length) 3) = w1_39 at *
    have S_w1_39 : w1_30.heap.size < w1_39.heap.size := by subst hW11; simp
    have hx7 : Ext w1_30 w1_39 := by subst hW11; exact qXt
    replace Yw1_30 := Yw1_30.trans hx7
    replace X1 := X1.trans hx7
    clear hx7
    have O1_40 : OwnI w1_39 w1_30.heap.size (.slice (some ⟨w1_30.heap.size, 0, none⟩) u.length u.length) (List.replicate u.length 0) := by subst hW11; exact OwnI.made _ _ _ (by simp) (by omega)
    have Yw1_39 := Ext.refl w1_39
    clear hW11
    refine qHr 3 rfl (fun K hK => ?_)
    try simp only [Act.put, qa, qb, qc, qD, qE, qF]
    go_simp
    refine (copyIntsO_c (.slice p2 u.length c2) u _ _ (h3.ext (Xw1.trans qXt))).mono ?_
    rintro e w1_41 ⟨g1_44, r1_45, rfl, O1_43, Gg1_44, Hg1_44, x1_42⟩
    replace x1_42 : Ext w1_39 w1_41 := Ext.trans qXt x1_42
    have S_w1_41 : w1_39.heap.size ≤ w1_41.heap.size := x1_42.size
    replace Yw1_30 := Yw1_30.trans x1_42
    replace Yw1_39 := Yw1_39.trans x1_42
    replace X1 := X1.trans x1_42
    have Yw1_41 := Ext.refl w1_41
    clear x1_42
    refine hK.out _ w1_41 ⟨(show Ext w1 w1_41 from qXt).cell b10, (show Ext w1 w1_41 from qXt).cell b11, (show Ext w1 w1_41 from qXt).cell b12, (show Ext w1 w1_41 from qXt).cell b20, (show Ext w1 w1_41 from qXt).cell b21, (show Ext w1 w1_41 from qXt).cell b22⟩ (fun hHeld => ?_)
    clear hK K
    try simp only [Act.put, qa, qb, qc, qD, qE, qF]
    refine qHk (v := ?_) 7 rfl (.inl ⟨by rfl, ?_⟩) ?_
    rotate_left
    ·
     (intro w hSw; (try dsimp only at hSw); go_simp; try with_reducible rfl)
    try simp only [Act.put, qa, qb, qc, qD, qE, qF]
    refine qHr 9 rfl (fun K hK => ?_)
    try simp only [Act.put, qa, qb, qc, qD, qE, qF]
    replace b1_310 := Yw1_30.cell b1_310
    replace b1_311 := Yw1_30.cell b1_311
    replace b1_312 := Yw1_30.cell b1_312
    replace f_b1_310 := Yw1_30.frz z_b1_31 f_b1_310
    replace f_b1_311 := Yw1_30.frz z_b1_31 f_b1_311
    replace f_b1_312 := Yw1_30.frz z_b1_31 f_b1_312
    go_simp
    have zz := X1.size
    have K1 : Chg w1.heap.size (w1.heap.size + 1) w1_41 (((w1_41.setCell ⟨w1.heap.size, 0, none⟩ (.int .i64 b1)).setCell ⟨w1.heap.size, 1, none⟩ (.slice (some ⟨g1_44, 0, none⟩) u.length r1_45)).setCell ⟨w1.heap.size, 2, none⟩ (.slice (some ⟨w1_30.heap.size, 0, none⟩) u.length u.length)) := (Chg.setCell (p := ⟨w1.heap.size, 2, none⟩) (Chg.setCell (p := ⟨w1.heap.size, 1, none⟩) (Chg.setCell (p := ⟨w1.heap.size, 0, none⟩) (Chg.refl w1.heap.size (w1.heap.size + 1) w1_41) (Nat.le_refl _) (Nat.lt_succ_self _) _) (Nat.le_refl _) (Nat.lt_succ_self _) _) (Nat.le_refl _) (Nat.lt_succ_self _) _)
    have n_b1_310 : (((w1_41.setCell ⟨w1.heap.size, 0, none⟩ (.int .i64 b1)).setCell ⟨w1.heap.size, 1, none⟩ (.slice (some ⟨g1_44, 0, none⟩) u.length r1_45)).setCell ⟨w1.heap.size, 2, none⟩ (.slice (some ⟨w1_30.heap.size, 0, none⟩) u.length u.length)).cell? ⟨w1.heap.size, 0, none⟩ = some (.int .i64 b1) := by go_simp
    replace f_b1_310 : (((w1_41.setCell ⟨w1.heap.size, 0, none⟩ (.int .i64 b1)).setCell ⟨w1.heap.size, 1, none⟩ (.slice (some ⟨g1_44, 0, none⟩) u.length r1_45)).setCell ⟨w1.heap.size, 2, none⟩ (.slice (some ⟨w1_30.heap.size, 0, none⟩) u.length u.length)).frozen? ⟨w1.heap.size, 0, none⟩ = false := by go_simp
    have n_b1_311 : (((w1_41.setCell ⟨w1.heap.size, 0, none⟩ (.int .i64 b1)).setCell ⟨w1.heap.size, 1, none⟩ (.slice (some ⟨g1_44, 0, none⟩) u.length r1_45)).setCell ⟨w1.heap.size, 2, none⟩ (.slice (some ⟨w1_30.heap.size, 0, none⟩) u.length u.length)).cell? ⟨w1.heap.size, 1, none⟩ = some (.slice (some ⟨g1_44, 0, none⟩) u.length r1_45) := by go_simp
    replace f_b1_311 : (((w1_41.setCell ⟨w1.heap.size, 0, none⟩ (.int .i64 b1)).setCell ⟨w1.heap.size, 1, none⟩ (.slice (some ⟨g1_44, 0, none⟩) u.length r1_45)).setCell ⟨w1.heap.size, 2, none⟩ (.slice (some ⟨w1_30.heap.size, 0, none⟩) u.length u.length)).frozen? ⟨w1.heap.size, 1, none⟩ = false := by go_simp
    have n_b1_312 : (((w1_41.setCell ⟨w1.heap.size, 0, none⟩ (.int .i64 b1)).setCell ⟨w1.heap.size, 1, none⟩ (.slice (some ⟨g1_44, 0, none⟩) u.length r1_45)).setCell ⟨w1.heap.size, 2, none⟩ (.slice (some ⟨w1_30.heap.size, 0, none⟩) u.length u.length)).cell? ⟨w1.heap.size, 2, none⟩ = some (.slice (some ⟨w1_30.heap.size, 0, none⟩) u.length u.length) := by go_simp
    replace f_b1_312 : (((w1_41.setCell ⟨w1.heap.size, 0, none⟩ (.int .i64 b1)).setCell ⟨w1.heap.size, 1, none⟩ (.slice (some ⟨g1_44, 0, none⟩) u.length r1_45)).setCell ⟨w1.heap.size, 2, none⟩ (.slice (some ⟨w1_30.heap.size, 0, none⟩) u.length u.length)).frozen? ⟨w1.heap.size, 2, none⟩ = false := by go_simp
    replace b1_310 := n_b1_310
    clear n_b1_310
    replace b1_311 := n_b1_311
    clear n_b1_311
    replace b1_312 := n_b1_312
    clear n_b1_312
    replace O1_40 := (O1_40.ext Yw1_39).chgN K1 (by omega)
    replace O1_43 := (O1_43.ext Yw1_41).chgN K1 (by omega)
    replace X1 : Ext w1 (((w1_41.setCell ⟨w1.heap.size, 0, none⟩ (.int .i64 b1)).setCell ⟨w1.heap.size, 1, none⟩ (.slice (some ⟨g1_44, 0, none⟩) u.length r1_45)).setCell ⟨w1.heap.size, 2, none⟩ (.slice (some ⟨w1_30.heap.size, 0, none⟩) u.length u.length)) := (Ext.setCell (p := ⟨w1.heap.size, 2, none⟩) (Ext.setCell (p := ⟨w1.heap.size, 1, none⟩) (Ext.setCell (p := ⟨w1.heap.size, 0, none⟩) X1 (by dsimp only; omega) _) (by dsimp only; omega) _) (by dsimp only; omega) _)
    clear zz K1
    have S_st : w1_41.heap.size ≤ (((w1_41.setCell ⟨w1.heap.size, 0, none⟩ (.int .i64 b1)).setCell ⟨w1.heap.size, 1, none⟩ (.slice (some ⟨g1_44, 0, none⟩) u.length r1_45)).setCell ⟨w1.heap.size, 2, none⟩ (.slice (some ⟨w1_30.heap.size, 0, none⟩) u.length u.length)).heap.size := by simp
    refine hK.out _ ((((w1_41.setCell ⟨w1.heap.size, 0, none⟩ (.int .i64 b1)).setCell ⟨w1.heap.size, 1, none⟩ (.slice (some ⟨g1_44, 0, none⟩) u.length r1_45)).setCell ⟨w1.heap.size, 2, none⟩ (.slice (some ⟨w1_30.heap.size, 0, none⟩) u.length u.length))) ⟨(show Ext w1 ((((w1_41.setCell ⟨w1.heap.size, 0, none⟩ (.int .i64 b1)).setCell ⟨w1.heap.size, 1, none⟩ (.slice (some ⟨g1_44, 0, none⟩) u.length r1_45)).setCell ⟨w1.heap.size, 2, none⟩ (.slice (some ⟨w1_30.heap.size, 0, none⟩) u.length u.length))) from qXt).cell b10, (show Ext w1 ((((w1_41.setCell ⟨w1.heap.size, 0, none⟩ (.int .i64 b1)).setCell ⟨w1.heap.size, 1, none⟩ (.slice (some ⟨g1_44, 0, none⟩) u.length r1_45)).setCell ⟨w1.heap.size, 2, none⟩ (.slice (some ⟨w1_30.heap.size, 0, none⟩) u.length u.length))) from qXt).cell b11, (show Ext w1 ((((w1_41.setCell ⟨w1.heap.size, 0, none⟩ (.int .i64 b1)).setCell ⟨w1.heap.size, 1, none⟩ (.slice (some ⟨g1_44, 0, none⟩) u.length r1_45)).setCell ⟨w1.heap.size, 2, none⟩ (.slice (some ⟨w1_30.heap.size, 0, none⟩) u.length u.length))) from qXt).cell b12, (show Ext w1 ((((w1_41.setCell ⟨w1.heap.size, 0, none⟩ (.int .i64 b1)).setCell ⟨w1.heap.size, 1, none⟩ (.slice (some ⟨g1_44, 0, none⟩) u.length r1_45)).setCell ⟨w1.heap.size, 2, none⟩ (.slice (some ⟨w1_30.heap.size, 0, none⟩) u.length u.length))) from qXt).cell b20, (show Ext w1 ((((w1_41.setCell ⟨w1.heap.size, 0, none⟩ (.int .i64 b1)).setCell ⟨w1.heap.size, 1, none⟩ (.slice (some ⟨g1_44, 0, none⟩) u.length r1_45)).setCell ⟨w1.heap.size, 2, none⟩ (.slice (some ⟨w1_30.heap.size, 0, none⟩) u.length u.length))) from qXt).cell b21, (show Ext w1 ((((w1_41.setCell ⟨w1.heap.size, 0, none⟩ (.int .i64 b1)).setCell ⟨w1.heap.size, 1, none⟩ (.slice (some ⟨g1_44, 0, none⟩) u.length r1_45)).setCell ⟨w1.heap.size, 2, none⟩ (.slice (some ⟨w1_30.heap.size, 0, none⟩) u.length u.length))) from qXt).cell b22⟩ (fun hHeld => ?_)
    clear hK K
    try simp only [Act.put, qa, qb, qc, qD, qE, qF]
    refine wpAnyH_done qKr ?_ _
    clear hHeld
    have zz := X1.size
    go_step
    go_step
    go_meet
    case rel => exact ⟨g1_44, r1_45, w1_30.heap.size, w1.heap.size, rfl, X1, (by omega), (by omega), (by omega), (by omega), (by omega), (by omega), (by omega), (by omega), (by omega), (O1_43).lower (by omega), (O1_40).lower (by omega), b1_310, f_b1_310, b1_311, f_b1_311, b1_312, f_b1_312⟩
 case rest =>
  generalize wc = wc5 at hcut ⊢
  obtain ⟨g7, r8, g9, g10, rfl, xx6, Gg7, Hg7, Gg9, Hg9, Gg10, Hg10, Dg7g9, Dg7g10, Dg9g10, O11, O12, b130, f_b130, b131, f_b131, b132, f_b132⟩ := hcut
  have Lwc5 : Ext w1 wc5 := Ext.trans qXt xx6
  have Xwc5 : Ext w wc5 := Xw1.trans Lwc5
  replace b10 := Lwc5.cell b10
  replace b11 := Lwc5.cell b11
  replace b12 := Lwc5.cell b12
  replace b20 := Lwc5.cell b20
  replace b21 := Lwc5.cell b21
  replace b22 := Lwc5.cell b22
  replace f_b20 := Lwc5.frz z_b2 f_b20
  replace f_b21 := Lwc5.frz z_b2 f_b21
  replace f_b22 := Lwc5.frz z_b2 f_b22
  have z_b1 : w.heap.size < wc5.heap.size := qB b10
  have z_b2 : w.heap.size + 1 < wc5.heap.size := qB b20
  have s_wc5 : w.heap.size ≤ wc5.heap.size := Xwc5.size
  have BL4_wc5 : Ext w1 wc5 := BL4.trans Lwc5
  clear xx6
  have z_b13 : g10 < wc5.heap.size := qB b130
  go_wp2_with fail
  refine wp_region_tail (S := fun w' => w'.cell? ⟨w.heap.size, 0, none⟩ = some (.int .i64 b1) ∧ w'.cell? ⟨w.heap.size, 1, none⟩ = some (.slice p0 s1.length c0) ∧ w'.cell? ⟨w.heap.size, 2, none⟩ = some (.slice p1 t1.length c1) ∧ w'.cell? ⟨w.heap.size + 1, 0, none⟩ = some (.int .i64 0) ∧ w'.cell? ⟨w.heap.size + 1, 1, none⟩ = some (.slice none 0 0) ∧ w'.cell? ⟨w.heap.size + 1, 2, none⟩ = some (.slice none 0 0) ∧ w'.cell? ⟨g10, 0, none⟩ = some (.int .i64 b1) ∧ w'.cell? ⟨g10, 1, none⟩ = some (.slice (some ⟨g7, 0, none⟩) u.length r8) ∧ w'.cell? ⟨g10, 2, none⟩ = some (.slice (some ⟨g9, 0, none⟩) u.length u.length)) (fun i => decide (6 ≤ i)) qKr ⟨b10, b11, b12, b20, b21, b22, b130, b131, b132⟩ (fun hHeld => ?_)
  refine qTk (v := ?_) 0 rfl (.inl ⟨by rfl, ?_⟩) ?_
  rotate_left
  ·
   (intro w hSw; (try dsimp only at hSw); go_simp; try with_reducible rfl)
  try simp only [Act.put, qa, qb, qc, qD, qE, qF]
  refine qTk (v := ?_) 2 rfl (.inl ⟨by rfl, ?_⟩) ?_
  rotate_left
  ·
   (intro w hSw; (try dsimp only at hSw); go_simp; try with_reducible rfl)
  try simp only [Act.put, qa, qb, qc, qD, qE, qF]
  refine qTk (v := ?_) 3 rfl (.inl ⟨by rfl, ?_⟩) ?_
  rotate_left
  ·
   (intro w hSw; (try dsimp only at hSw); go_simp; try with_reducible rfl)
  try simp only [Act.put, qa, qb, qc, qD, qE, qF]
  refine wpTail_one (i := 1) qKr rfl rfl (fun K hK => ?_)
  try simp only [Act.put, qa, qb, qc, qD, qE, qF]
  go_simp
  refine (count_c u (.slice p2 u.length c2) _ _ (h3.ext (Xwc5.trans qXt))).mono ?_
  rintro e w' ⟨rfl, rfl⟩
  refine hK.out _ _ ⟨b10, b11, b12, b20, b21, b22, b130, b131, b132⟩ (fun hHeld => ?_)
  clear hK K
  try simp only [Act.put, qa, qb, qc, qD, qE, qF]
  refine wpTail_one (i := 4) qKr rfl rfl (fun K hK => ?_)
  try simp only [Act.put, qa, qb, qc, qD, qE, qF]
  go_simp
  refine (count_c s1 (.slice p0 s1.length c0) _ _ (h1.ext (Xwc5.trans qXt))).mono ?_
  rintro e w' ⟨rfl, rfl⟩
  refine hK.out _ _ ⟨b10, b11, b12, b20, b21, b22, b130, b131, b132⟩ (fun hHeld => ?_)
  clear hK K
  try simp only [Act.put, qa, qb, qc, qD, qE, qF]
  by_cases hc14 : (countL u : Int) = (countL s1 : Int)
  ·
   have hc14e : ((countL u : Int) == (countL s1 : Int)) = true := by simpa using hc14
   have hc14n : ((countL u : Int) != (countL s1 : Int)) = false := by simpa using hc14
   replace hc14 := Lib.hid hc14
   refine qTk (v := ?_) 5 rfl (.inl ⟨by rfl, ?_⟩) ?_
   rotate_left
   ·
    (intro w hSw; (try dsimp only at hSw); go_simp; try with_reducible rfl)
   try simp only [Act.put, qa, qb, qc, qD, qE, qF]
   refine wpTail_done qKr ?_ _
   clear hHeld 
   go_wp2_with fail
   refine (count_c u (.slice p2 u.length c2) _ _ (h3.ext (Xwc5.trans qXt))).mono ?_
   rintro e w' ⟨rfl, rfl⟩
   by_cases hc15 : (countL u : Int) = (0 : Int)
   ·
    have hc15e : ((countL u : Int) == (0 : Int)) = true := by simpa using hc15
    have hc15n : ((countL u : Int) != (0 : Int)) = false := by simpa using hc15
    replace hc15 := Lib.hid hc15
    go_wp2_with fail
    generalize hW12 : (wc5.setCell ⟨g10, 0, none⟩ (.int .i64 0)) = w2 at *
    have Kw2 : Chg (g10) (g10 + 1) wc5 w2 := by subst hW12; exact qCh
    have Xw2 : Ext w w2 := by subst hW12; exact qXt
    have BL4_w2 : Ext w1 w2 := by subst hW12; exact qXt
    replace b10 := BL4_w2.cell Q3_b10.out
    replace b11 := BL4_w2.cell Q3_b11.out
    replace b12 := BL4_w2.cell Q3_b12.out
    replace b20 := BL4_w2.cell Q3_b20.out
    replace f_b20 := BL4_w2.frz Q3_zb2 Q3_f_b20.out
    replace b21 := BL4_w2.cell Q3_b21.out
    replace f_b21 := BL4_w2.frz Q3_zb2 Q3_f_b21.out
    replace b22 := BL4_w2.cell Q3_b22.out
    replace f_b22 := BL4_w2.frz Q3_zb2 Q3_f_b22.out
    replace b130 : w2.cell? ⟨g10, 0, none⟩ = some (.int .i64 0) := by subst hW12; go_simp
    replace f_b130 : w2.frozen? ⟨g10, 0, none⟩ = false := by subst hW12; go_simp
    replace b131 : w2.cell? ⟨g10, 1, none⟩ = some (.slice (some ⟨g7, 0, none⟩) u.length r8) := by subst hW12; go_simp
    replace f_b131 : w2.frozen? ⟨g10, 1, none⟩ = false := by subst hW12; go_simp
    replace b132 : w2.cell? ⟨g10, 2, none⟩ = some (.slice (some ⟨g9, 0, none⟩) u.length u.length) := by subst hW12; go_simp
    replace f_b132 : w2.frozen? ⟨g10, 2, none⟩ = false := by subst hW12; go_simp
    replace O11 := O11.chgN Kw2 (by omega)
    replace O12 := O12.chgN Kw2 (by omega)
    clear Kw2
    have z_b1 : w.heap.size < w2.heap.size := qB b10
    have z_b2 : w.heap.size + 1 < w2.heap.size := qB b20
    have z_b13 : g10 < w2.heap.size := qB b130
    have s_w2 : w.heap.size ≤ w2.heap.size := Xw2.size
    clear hW12
    generalize hW13 : (((w2.setCell ⟨w.heap.size + 1, 0, none⟩ (.int .i64 0)).setCell ⟨w.heap.size + 1, 1, none⟩ (.slice (some ⟨g7, 0, none⟩) u.length r8)).setCell ⟨w.heap.size + 1, 2, none⟩ (.slice (some ⟨g9, 0, none⟩) u.length u.length)) = w3 at *
    have Kw3 : Chg (w.heap.size + 1) (w.heap.size + 1 + 1) w2 w3 := by subst hW13; exact qCh
    have Xw3 : Ext w w3 := by subst hW13; exact qXt
    replace b10 := Kw3.cell (by omega) b10
    replace b11 := Kw3.cell (by omega) b11
    replace b12 := Kw3.cell (by omega) b12
    replace b20 : w3.cell? ⟨w.heap.size + 1, 0, none⟩ = some (.int .i64 0) := by subst hW13; go_simp
    replace f_b20 : w3.frozen? ⟨w.heap.size + 1, 0, none⟩ = false := by subst hW13; go_simp
    replace b21 : w3.cell? ⟨w.heap.size + 1, 1, none⟩ = some (.slice (some ⟨g7, 0, none⟩) u.length r8) := by subst hW13; go_simp
    replace f_b21 : w3.frozen? ⟨w.heap.size + 1, 1, none⟩ = false := by subst hW13; go_simp
    replace b22 : w3.cell? ⟨w.heap.size + 1, 2, none⟩ = some (.slice (some ⟨g9, 0, none⟩) u.length u.length) := by subst hW13; go_simp
    replace f_b22 : w3.frozen? ⟨w.heap.size + 1, 2, none⟩ = false := by subst hW13; go_simp
    replace b130 := Kw3.cell (by omega) b130
    replace f_b130 := Kw3.frzO (by omega) z_b13 f_b130
    replace b131 := Kw3.cell (by omega) b131
    replace f_b131 := Kw3.frzO (by omega) z_b13 f_b131
    replace b132 := Kw3.cell (by omega) b132
    replace f_b132 := Kw3.frzO (by omega) z_b13 f_b132
    replace O11 := O11.chgN Kw3 (by omega)
    replace O12 := O12.chgN Kw3 (by omega)
    clear Kw3
    have z_b1 : w.heap.size < w3.heap.size := qB b10
    have z_b2 : w.heap.size + 1 < w3.heap.size := qB b20
    have z_b13 : g10 < w3.heap.size := qB b130
    have s_w3 : w.heap.size ≤ w3.heap.size := Xw3.size
    clear hW13
    refine bodyPost_ret (v := .tuple #[.agg #[.int .i64 0, .slice (some ⟨g7, 0, none⟩) u.length r8, .slice (some ⟨g9, 0, none⟩) u.length u.length], .bool true]) (by simp only [results, Try.results128]; go_simp) rfl ?_
    rw [show rsR b1 s1 t1 u = (0, u, List.replicate u.length 0, true) from by rw [rsR_val rfl rfl, if_pos hc14.out, if_pos hc15.out]]
    exact ⟨_, _, rfl, (O11.ints (by first | (simp; omega) | (simp only [List.length_set]; omega) | omega)).lower (by omega), (O12.ints (by first | (simp; omega) | (simp only [List.length_set]; omega) | omega)).lower (by omega), (Xw3.trans qXt)⟩
   ·
    have hc15e : ((countL u : Int) == (0 : Int)) = false := by simpa using hc15
    have hc15n : ((countL u : Int) != (0 : Int)) = true := by simpa using hc15
    replace hc15 := Lib.hid hc15
    obtain ⟨C, hC⟩ : ∃ C, offsL b1 s1 t1 = C := ⟨_, rfl⟩
    have hCl : countL u ≤ (C.length : Int) := by rw [← hC, offs_count]; have := hc14.out; have := (shapeB_in hu.out).2.2.1; omega
    have hCb := Lib.hid (show ∀ x ∈ C, 0 ≤ x ∧ x ≤ 59 from by rw [← hC]; exact (viewB_in hv.out).2.2.2.2)
    replace hC := Lib.hid hC
    have hcpos : 0 < countL u := by have := hc15.out; have := (shapeB_in hu.out).2.2.1; omega
    go_wp2_with fail
    refine (pi_eq hC.out (offsets_c b1 (.slice p0 s1.length c0) (.slice p1 t1.length c1) s1 t1 _ _ _ (h1.ext (Xwc5.trans qXt)) (k1.ext (Xwc5.trans qXt)) (vw hv.out).1 (vw hv.out).2.1 (vw hv.out).2.2.1)).mono ?_
    rintro e w2 ⟨fv16, rfl, i17, -, xw2⟩
    have Lw2 : Ext wc5 w2 := Ext.trans qXt xw2
    have Xw2 : Ext w w2 := Xwc5.trans Lw2
    replace b10 := Lw2.cell b10
    replace b11 := Lw2.cell b11
    replace b12 := Lw2.cell b12
    replace b20 := Lw2.cell b20
    replace b21 := Lw2.cell b21
    replace b22 := Lw2.cell b22
    replace f_b20 := Lw2.frz z_b2 f_b20
    replace f_b21 := Lw2.frz z_b2 f_b21
    replace f_b22 := Lw2.frz z_b2 f_b22
    replace b130 := Lw2.cell b130
    replace b131 := Lw2.cell b131
    replace b132 := Lw2.cell b132
    replace f_b130 := Lw2.frz z_b13 f_b130
    replace f_b131 := Lw2.frz z_b13 f_b131
    replace f_b132 := Lw2.frz z_b13 f_b132
    have z_b1 : w.heap.size < w2.heap.size := qB b10
    have z_b2 : w.heap.size + 1 < w2.heap.size := qB b20
    have z_b13 : g10 < w2.heap.size := qB b130
    replace O11 := O11.ext Lw2
    replace O12 := O12.ext Lw2
    have s_w2 : w.heap.size ≤ w2.heap.size := Xw2.size
    have BL4_w2 : Ext w1 w2 := BL4_wc5.trans Lw2
    clear xw2
    try simp only [World.size_alloc, World.size_drew] at i17
    obtain ⟨afv16, cfv16, rfl⟩ := i17.form
    go_wp2_with fail
    rw [← reshT_zero C u] at O12
    go_loopw [8, 9] (fun i x wr => ∃ (k : Nat), k ≤ u.length ∧ i = .int .i64 k ∧ OwnI wr (w1.heap.size) (.slice (some ⟨g9, 0, none⟩) u.length u.length) (reshT C u k) ∧ Chg g9 (g9 + 1) w2 wr ∧ Ext w1 wr) (fun i _ _ => u.length - (intOf i).toNat)
    case atStart => exact ⟨0, Nat.zero_le _, rfl, (show OwnI _ _ _ (reshT C u 0) from (O12.ext qXt)), Chg.refl _ _ _, BL4_w2⟩
    case round =>
     obtain ⟨k, hk, rfl, O12n, Kr18, Er19⟩ := hrel
     have Xwr : Ext w wr := Xw1.trans Er19
     have s_wr : w.heap.size ≤ wr.heap.size := Xwr.size
     have t_wr : w2.heap.size ≤ wr.heap.size := Kr18.size
     replace b10 := Er19.cell Q3_b10.out
     replace b11 := Er19.cell Q3_b11.out
     replace b12 := Er19.cell Q3_b12.out
     replace b20 := Er19.cell Q3_b20.out
     replace f_b20 := Er19.frz Q3_zb2 Q3_f_b20.out
     replace b21 := Er19.cell Q3_b21.out
     replace f_b21 := Er19.frz Q3_zb2 Q3_f_b21.out
     replace b22 := Er19.cell Q3_b22.out
     replace f_b22 := Er19.frz Q3_zb2 Q3_f_b22.out
     replace b130 := Kr18.cell (by omega) b130
     replace f_b130 := Kr18.frzO (by omega) (by omega) f_b130
     replace b131 := Kr18.cell (by omega) b131
     replace f_b131 := Kr18.frzO (by omega) (by omega) f_b131
     replace b132 := Kr18.cell (by omega) b132
     replace f_b132 := Kr18.frzO (by omega) (by omega) f_b132
     have z_b1 : w.heap.size < wr.heap.size := qB b10
     have z_b2 : w.heap.size + 1 < wr.heap.size := qB b20
     have z_b13 : g10 < wr.heap.size := qB b130
     replace O11 := O11.chgN Kr18 (by omega)
     clear O12
     have O12 := O12n
     clear O12n
     replace i17 := i17.chg Kr18 (by omega)
     have lt_g7 := (own_lt O11 rfl).2
     have lt_g9 := (own_lt O12 rfl).2
     by_cases hlt : k < u.length
     ·
      have hRk : k < (reshT C u k).length := by rw [reshT_len _ _ _ (by omega)]; exact hlt
      have hkI : (k : Int) < u.length := by omega
      have hRn : k < (List.replicate u.length (0 : Int)).length := by rw [List.length_replicate]; exact hlt
      have hN_e22 : k < u.length := (by omega)
      have hI_e22 : (k : Int) < (u.length : Int) := by omega
      obtain ⟨bl20, ol21, rfl, e220⟩ := h3.at k (by omega)
      have y_e22 : bl20 < w.heap.size := qB e220
      replace e220 := Xwr.cell e220
      obtain ⟨v23, hv23⟩ : ∃ v, u.getD k 0 = v := ⟨_, rfl⟩
      rw [hv23] at e220
      replace hv23 := Lib.hid hv23
      have z_e22 : bl20 < wr.heap.size := qB e220
      have h60v23 := hu60.out _ (getD_mem hlt)
      rw [hv23.out] at h60v23
      by_cases hc24 : (1 : Int) < (v23 : Int)
      ·
       have zBL4_mwr := (Er19).size
       have Q25_b10 := Lib.hid b10
       have Q25_b11 := Lib.hid b11
       have Q25_b12 := Lib.hid b12
       have Q25_zb1 := z_b1
       have Q25_b20 := Lib.hid b20
       have Q25_f_b20 := Lib.hid f_b20
       have Q25_b21 := Lib.hid b21
       have Q25_f_b21 := Lib.hid f_b21
       have Q25_b22 := Lib.hid b22
       have Q25_f_b22 := Lib.hid f_b22
       have Q25_zb2 := z_b2
       have Q25_b130 := Lib.hid b130
       have Q25_f_b130 := Lib.hid f_b130
       have Q25_b131 := Lib.hid b131
       have Q25_f_b131 := Lib.hid f_b131
       have Q25_b132 := Lib.hid b132
       have Q25_f_b132 := Lib.hid f_b132
       have Q25_zb13 := z_b13
       have Q25_e220 := Lib.hid e220
       have Q25_ze22 := z_e22
       have Q25_O11 := Lib.hid O11
       have Q25_O12 := Lib.hid O12
       have Q25_i17 := Lib.hid i17
       have BL26 : Ext wr wr := Ext.refl _
       obtain ⟨i0mk27, himk27, hz0mk27, hz1mk27, hz2mk27⟩ := info_parts infoInt
       go_wp2_with (at_make; refine wpList_make_full _ rfl _ _ 22 rfl wr.heap.size 3 i0mk27 (.int .i64 0) 1 Try.underlying22 himk27 hz0mk27 hz1mk27 .i64 .i64 _ _ u.length rfl rfl rfl rfl (by rw [hz2mk27]; omega) (by unfold maxLen; omega) (Nat.le_refl _) ?_)
       intro w3 hown7 hgr7
       have xw3 : Ext wr w3 := (Ext.refl wr).grown hgr7 (by simp)
       rw [made_ints] at hown7
       clear hgr7
       have O28 : OwnI w3 wr.heap.size (.slice (some ⟨wr.heap.size, 0, none⟩) u.length u.length) (List.replicate u.length 0) := by unfold OwnI; simpa using hown7
       clear hown7 himk27 hz0mk27 hz1mk27 hz2mk27
       have Lw3 : Ext wr w3 := Ext.trans qXt xw3
       have Xw3 : Ext w w3 := Xwr.trans Lw3
       replace b10 := Lw3.cell b10
       replace b11 := Lw3.cell b11
       replace b12 := Lw3.cell b12
       replace b20 := Lw3.cell b20
       replace b21 := Lw3.cell b21
       replace b22 := Lw3.cell b22
       replace f_b20 := Lw3.frz z_b2 f_b20
       replace f_b21 := Lw3.frz z_b2 f_b21
       replace f_b22 := Lw3.frz z_b2 f_b22
       replace b130 := Lw3.cell b130
       replace b131 := Lw3.cell b131
       replace b132 := Lw3.cell b132
       replace f_b130 := Lw3.frz z_b13 f_b130
       replace f_b131 := Lw3.frz z_b13 f_b131
       replace f_b132 := Lw3.frz z_b13 f_b132
       replace e220 := Lw3.cell e220
       have z_b1 : w.heap.size < w3.heap.size := qB b10
       have z_b2 : w.heap.size + 1 < w3.heap.size := qB b20
       have z_b13 : g10 < w3.heap.size := qB b130
       have z_e22 : bl20 < w3.heap.size := qB e220
       replace O11 := O11.ext Lw3
       replace O12 := O12.ext Lw3
       replace i17 := i17.ext Lw3
       have s_w3 : w.heap.size ≤ w3.heap.size := Xw3.size
       have BL4_w3 : Ext w1 w3 := Er19.trans Lw3
       have BL26_w3 : Ext wr w3 := BL26.trans Lw3
       have Kr18_w3 : Chg g9 (g9 + 1) w2 w3 := Chg.ext Kr18 Lw3
       clear xw3
       skip
       have A29 := O28.cell k hRn
       obtain ⟨A29a, A29b⟩ := A29
       obtain ⟨hJ0, hJ1⟩ := stride_lt hus.out (by omega) k hlt (by rw [← getD_get hlt, hv23.out]; omega)
       have hrk := rank_unit hus.out k hlt
       obtain ⟨J, hJd⟩ : ∃ J : Nat, countL (u.drop (k+1)) = J := ⟨(countL (u.drop (k+1))).toNat, by omega⟩
       rw [hJd] at hJ0 hJ1 hrk
       have hJ := Lib.hid hrk
       clear hrk
       replace hJd := Lib.hid hJd
       have hJC : J < C.length := by have := hCl; omega
       have h0C : 0 < C.length := by omega
       go_wp2_with fail
       clear e220 z_e22
       generalize hW14 : (w3.setCell ⟨wr.heap.size, k, none⟩ (.int .i64 1)) = w4 at *
       have Kw4 : Chg (wr.heap.size) (wr.heap.size + 1) w3 w4 := by subst hW14; exact qCh
       have Xw4 : Ext w w4 := by subst hW14; exact qXt
       have BL4_w4 : Ext w1 w4 := by subst hW14; exact qXt
       have BL26_w4 : Ext wr w4 := by subst hW14; exact qXt
       have Kr18_w4 : Chg g9 (g9 + 1) w2 w4 := by subst hW14; exact (Chg.setNew (p := ⟨wr.heap.size, k, none⟩) Kr18_w3 (by dsimp only; omega) (.int .i64 1))
       replace b10 := BL26_w4.cell Q25_b10.out
       replace b11 := BL26_w4.cell Q25_b11.out
       replace b12 := BL26_w4.cell Q25_b12.out
       replace b20 := BL26_w4.cell Q25_b20.out
       replace f_b20 := BL26_w4.frz Q25_zb2 Q25_f_b20.out
       replace b21 := BL26_w4.cell Q25_b21.out
       replace f_b21 := BL26_w4.frz Q25_zb2 Q25_f_b21.out
       replace b22 := BL26_w4.cell Q25_b22.out
       replace f_b22 := BL26_w4.frz Q25_zb2 Q25_f_b22.out
       replace b130 := BL26_w4.cell Q25_b130.out
       replace f_b130 := BL26_w4.frz Q25_zb13 Q25_f_b130.out
       replace b131 := BL26_w4.cell Q25_b131.out
       replace f_b131 := BL26_w4.frz Q25_zb13 Q25_f_b131.out
       replace b132 := BL26_w4.cell Q25_b132.out
       replace f_b132 := BL26_w4.frz Q25_zb13 Q25_f_b132.out
       replace O11 := O11.chgN Kw4 (by omega)
       replace O12 := O12.chgN Kw4 (by omega)
       replace i17 := (Q25_i17.out).ext BL26_w4
       have n_O28 := O28.set k (1) (by first | omega | (simp; omega) | (rw [putUp_len]; simp; omega) | (rw [addUp_len]; omega))
       rw [hW14] at n_O28
       replace O28 := n_O28
       clear n_O28
       clear Kw4
       have z_b1 : w.heap.size < w4.heap.size := qB b10
       have z_b2 : w.heap.size + 1 < w4.heap.size := qB b20
       have z_b13 : g10 < w4.heap.size := qB b130
       have s_w4 : w.heap.size ≤ w4.heap.size := Xw4.size
       clear hW14
       clear A29a A29b
       have hN_e32 : J < C.length := hJC
       have hI_e32 : (J : Int) < (C.length : Int) := by omega
       obtain ⟨bl30, ol31, rfl, e320⟩ := i17.at J hJC
       obtain ⟨v33, hv33⟩ : ∃ v, C.getD J 0 = v := ⟨_, rfl⟩
       rw [hv33] at e320
       replace hv33 := Lib.hid hv33
       have y_e32 : bl30 < w4.heap.size := qB e320
       have z_e32 := y_e32
       have h60v33 := hCb.out _ (getD_mem hJC)
       rw [hv33.out] at h60v33
       have hI_e36 : (0 : Int) < (C.length : Int) := by have hB7 : 0 < C.length := h0C; omega
       obtain ⟨b_e36, o_e36, h_e36, e360⟩ := i17.at 0 h0C
       cases h_e36
       rw [Nat.add_zero] at e360
       obtain ⟨v37, hv37⟩ : ∃ v, C.getD 0 0 = v := ⟨_, rfl⟩
       rw [hv37] at e360
       replace hv37 := Lib.hid hv37
       have y_e36 : bl30 < w4.heap.size := qB e360
       have z_e36 := y_e36
       have h60v37 := hCb.out _ (getD_mem h0C)
       rw [hv37.out] at h60v37
       have A38 := O12.cell k hRk
       obtain ⟨A38a, A38b⟩ := A38
       refine wp_region_tail (S := fun w' => w'.cell? ⟨w.heap.size, 0, none⟩ = some (.int .i64 b1) ∧ w'.cell? ⟨w.heap.size, 1, none⟩ = some (.slice p0 s1.length c0) ∧ w'.cell? ⟨w.heap.size, 2, none⟩ = some (.slice p1 t1.length c1) ∧ w'.cell? ⟨w.heap.size + 1, 0, none⟩ = some (.int .i64 0) ∧ w'.cell? ⟨w.heap.size + 1, 1, none⟩ = some (.slice none 0 0) ∧ w'.cell? ⟨w.heap.size + 1, 2, none⟩ = some (.slice none 0 0) ∧ w'.cell? ⟨g10, 0, none⟩ = some (.int .i64 b1) ∧ w'.cell? ⟨g10, 1, none⟩ = some (.slice (some ⟨g7, 0, none⟩) u.length r8) ∧ w'.cell? ⟨g10, 2, none⟩ = some (.slice (some ⟨g9, 0, none⟩) u.length u.length) ∧ w'.cell? ⟨bl30, ol31 + J, none⟩ = some (.int .i64 v33) ∧ w'.cell? ⟨bl30, ol31, none⟩ = some (.int .i64 v37)) (fun i => decide (14 ≤ i)) qKr ⟨b10, b11, b12, b20, b21, b22, b130, b131, b132, e320, e360⟩ (fun hHeld => ?_)
       refine qTk (v := ?_) 0 rfl (.inl ⟨by rfl, ?_⟩) ?_
       rotate_left
       ·
        (intro w hSw; (try dsimp only at hSw); go_simp; try with_reducible rfl)
       try simp only [Act.put, qa, qb, qc, qD, qE, qF]
       refine qTk (v := ?_) 1 rfl (.inl ⟨by rfl, ?_⟩) ?_
       rotate_left
       ·
        (intro w hSw; (try dsimp only at hSw); go_simp; try with_reducible rfl)
       try simp only [Act.put, qa, qb, qc, qD, qE, qF]
       refine qTk (v := ?_) 2 rfl (.inl ⟨by rfl, ?_⟩) ?_
       rotate_left
       ·
        (intro w hSw; (try dsimp only at hSw); go_simp; try with_reducible rfl)
       try simp only [Act.put, qa, qb, qc, qD, qE, qF]
       refine qTk (v := ?_) 3 rfl (.inl ⟨by rfl, ?_⟩) ?_
       rotate_left
       ·
        (intro w hSw; (try dsimp only at hSw); go_simp; try with_reducible rfl)
       try simp only [Act.put, qa, qb, qc, qD, qE, qF]
       refine qTk (v := ?_) 4 rfl (.inl ⟨by rfl, ?_⟩) ?_
       rotate_left
       ·
        (intro w hSw; (try dsimp only at hSw); go_simp; try with_reducible rfl)
       try simp only [Act.put, qa, qb, qc, qD, qE, qF]
       refine qTk (v := ?_) 5 rfl (.inl ⟨by rfl, ?_⟩) ?_
       rotate_left
       ·
        (intro w hSw; (try dsimp only at hSw); go_simp; try with_reducible rfl)
       try simp only [Act.put, qa, qb, qc, qD, qE, qF]
       refine qTk (v := ?_) 9 rfl (.inl ⟨by rfl, ?_⟩) ?_
       rotate_left
       ·
        (intro w hSw; (try dsimp only at hSw); go_simp; try with_reducible rfl)
       try simp only [Act.put, qa, qb, qc, qD, qE, qF]
       refine qTk (v := ?_) 10 rfl (.inl ⟨by rfl, ?_⟩) ?_
       rotate_left
       ·
        (intro w hSw; (try dsimp only at hSw); go_simp; try with_reducible rfl)
       try simp only [Act.put, qa, qb, qc, qD, qE, qF]
       refine qTk (v := ?_) 11 rfl (.inl ⟨by rfl, ?_⟩) ?_
       rotate_left
       ·
        (intro w hSw; (try dsimp only at hSw); go_simp; try with_reducible rfl)
       try simp only [Act.put, qa, qb, qc, qD, qE, qF]
       refine wpTail_one (i := 6) qKr rfl rfl (fun K hK => ?_)
       try simp only [Act.put, qa, qb, qc, qD, qE, qF]
       go_simp
       refine (rnk_eq hJ.out (rank_c _ _ _ _ _ _ _ (h3.ext (Xw4.trans qXt)) ((O28.ints (by first | (simp; omega) | (unfold putL; rw [putUp_len]; simp; omega) | (rw [putUp_len]; simp; omega))).ext qXt) (by simp))).mono ?_
       rintro e w5 ⟨rfl, xw5⟩
       have Lw5 : Ext w4 w5 := Ext.trans qXt xw5
       have Xw5 : Ext w w5 := Xw4.trans Lw5
       replace b10 := Lw5.cell b10
       replace b11 := Lw5.cell b11
       replace b12 := Lw5.cell b12
       replace b20 := Lw5.cell b20
       replace b21 := Lw5.cell b21
       replace b22 := Lw5.cell b22
       replace f_b20 := Lw5.frz z_b2 f_b20
       replace f_b21 := Lw5.frz z_b2 f_b21
       replace f_b22 := Lw5.frz z_b2 f_b22
       replace b130 := Lw5.cell b130
       replace b131 := Lw5.cell b131
       replace b132 := Lw5.cell b132
       replace f_b130 := Lw5.frz z_b13 f_b130
       replace f_b131 := Lw5.frz z_b13 f_b131
       replace f_b132 := Lw5.frz z_b13 f_b132
       replace e320 := Lw5.cell e320
       replace e360 := Lw5.cell e360
       have z_b1 : w.heap.size < w5.heap.size := qB b10
       have z_b2 : w.heap.size + 1 < w5.heap.size := qB b20
       have z_b13 : g10 < w5.heap.size := qB b130
       have z_e32 : bl30 < w5.heap.size := qB e320
       have z_e36 : bl30 < w5.heap.size := qB e360
       replace O11 := O11.ext Lw5
       replace O12 := O12.ext Lw5
       replace i17 := i17.ext Lw5
       replace O28 := O28.ext Lw5
       have s_w5 : w.heap.size ≤ w5.heap.size := Xw5.size
       have BL4_w5 : Ext w1 w5 := BL4_w4.trans Lw5
       have BL26_w5 : Ext wr w5 := BL26_w4.trans Lw5
       have Kr18_w5 : Chg g9 (g9 + 1) w2 w5 := Chg.ext Kr18_w4 Lw5
       clear xw5
       refine hK.out _ _ ⟨b10, b11, b12, b20, b21, b22, b130, b131, b132, e320, e360⟩ (fun hHeld => ?_)
       clear hK K
       try simp only [Act.put, qa, qb, qc, qD, qE, qF]
       refine qTk (v := ?_) 7 rfl (.inl ⟨by rfl, ?_⟩) ?_
       rotate_left
       ·
        (intro w hSw; (try dsimp only at hSw); go_simp; try with_reducible rfl)
       try simp only [Act.put, qa, qb, qc, qD, qE, qF]
       refine qTk (v := ?_) 8 rfl (.inl ⟨by rfl, ?_⟩) ?_
       rotate_left
       ·
        (intro w hSw; (try dsimp only at hSw); go_simp; try with_reducible rfl)
       try simp only [Act.put, qa, qb, qc, qD, qE, qF]
       have hw45 : IntKind.i64.wrap (v33 - v37) = v33 - v37 := IntWalk.i64_in _ (by omega)
       refine qTk (v := ?_) 12 rfl (.inl ⟨by rfl, ?_⟩) ?_
       rotate_left
       ·
        (intro w hSw; (try dsimp only at hSw); go_simp; try with_reducible rfl)
       try simp only [Act.put, qa, qb, qc, qD, qE, qF]
       refine qTk (v := ?_) 13 rfl (.inl ⟨by rfl, ?_⟩) ?_
       rotate_left
       ·
        (intro w hSw; (try dsimp only at hSw); go_simp; try with_reducible rfl)
       try simp only [Act.put, qa, qb, qc, qD, qE, qF]
       have A46 := O12.cell k hRk
       obtain ⟨A46a, A46b⟩ := A46
       refine wpTail_last (i := 14) qKr rfl rfl (fun K hK => ?_)
       try simp only [Act.put, qa, qb, qc, qD, qE, qF]
       go_simp
       refine hK.out _ _ ?_
       clear hK K
       try simp only [Act.put, qa, qb, qc, qD, qE, qF]
       refine wpTail_done qKr ?_ _
       clear hHeld hw45
       clear e320 z_e32
       clear e360 z_e36
       generalize hW15 : (w5.setCell ⟨g9, k, none⟩ (.int .i64 (v33 - v37))) = w6 at *
       have Kw6 : Chg (g9) (g9 + 1) w5 w6 := by subst hW15; exact qCh
       have Xw6 : Ext w w6 := by subst hW15; exact qXt
       have BL4_w6 : Ext w1 w6 := by subst hW15; exact qXt
       have Kr18_w6 : Chg g9 (g9 + 1) w2 w6 := Chg.trans Kr18_w5 Kw6
       replace b10 := BL4_w6.cell Q3_b10.out
       replace b11 := BL4_w6.cell Q3_b11.out
       replace b12 := BL4_w6.cell Q3_b12.out
       replace b20 := BL4_w6.cell Q3_b20.out
       replace f_b20 := BL4_w6.frz Q3_zb2 Q3_f_b20.out
       replace b21 := BL4_w6.cell Q3_b21.out
       replace f_b21 := BL4_w6.frz Q3_zb2 Q3_f_b21.out
       replace b22 := BL4_w6.cell Q3_b22.out
       replace f_b22 := BL4_w6.frz Q3_zb2 Q3_f_b22.out
       replace b130 := Kw6.cell (by omega) b130
       replace f_b130 := Kw6.frzO (by omega) z_b13 f_b130
       replace b131 := Kw6.cell (by omega) b131
       replace f_b131 := Kw6.frzO (by omega) z_b13 f_b131
       replace b132 := Kw6.cell (by omega) b132
       replace f_b132 := Kw6.frzO (by omega) z_b13 f_b132
       replace O11 := O11.chgN Kw6 (by omega)
       have n_O12 := O12.set k (v33 - v37) (by first | omega | (simp; omega) | (rw [putUp_len]; simp; omega) | (rw [addUp_len]; omega))
       rw [hW15] at n_O12
       replace O12 := n_O12
       clear n_O12
       replace i17 := i17.chg Kw6 (by omega)
       replace O28 := O28.chgN Kw6 (by omega)
       clear Kw6
       have z_b1 : w.heap.size < w6.heap.size := qB b10
       have z_b2 : w.heap.size + 1 < w6.heap.size := qB b20
       have z_b13 : g10 < w6.heap.size := qB b130
       have s_w6 : w.heap.size ≤ w6.heap.size := Xw6.size
       clear hW15
       clear A46a A46b
       go_wp2_with fail
       go_roundw
       case rel => exact ⟨k + 1, by omega, by go_num, (by rw [resh_step1 hlt hv23.out (by omega) hJd.out hv33.out hv37.out]; exact O12.ext qXt), Kr18_w6.ext qXt, BL4_w6.trans qXt⟩
       case measure => simp [intOf]; omega
      ·
       go_wp2_with fail
       go_roundw
       case rel => exact ⟨k + 1, by omega, by go_num, (by rw [resh_step0 hlt hv23.out (by omega)]; exact O12.ext qXt), Kr18.ext qXt, Er19.trans qXt⟩
       case measure => simp [intOf]; omega
     ·
      have hkI : ¬ (k : Int) < u.length := by omega
      obtain rfl : k = u.length := by omega
      obtain ⟨T, hT⟩ : ∃ T, reshS C u u.length = T := ⟨_, rfl⟩
      rw [reshT_all, hT] at O12
      have hTl : T.length = u.length := by rw [← hT, reshS_len]
      replace hT := Lib.hid hT
      go_wp2_with fail
      refine wp_region_held_drew (S := fun w' => w'.cell? ⟨w.heap.size, 0, none⟩ = some (.int .i64 b1) ∧ w'.cell? ⟨w.heap.size, 1, none⟩ = some (.slice p0 s1.length c0) ∧ w'.cell? ⟨w.heap.size, 2, none⟩ = some (.slice p1 t1.length c1) ∧ w'.cell? ⟨g10, 0, none⟩ = some (.int .i64 b1) ∧ w'.cell? ⟨g10, 1, none⟩ = some (.slice (some ⟨g7, 0, none⟩) u.length r8) ∧ w'.cell? ⟨g10, 2, none⟩ = some (.slice (some ⟨g9, 0, none⟩) u.length u.length)) qKr ⟨b10, b11, b12, b130, b131, b132⟩ (fun hHeld => ?_)
      refine qHk (v := ?_) 0 rfl (.inl ⟨by rfl, ?_⟩) ?_
      rotate_left
      ·
       (intro w hSw; (try dsimp only at hSw); go_simp; try with_reducible rfl)
      try simp only [Act.put, qa, qb, qc, qD, qE, qF]
      refine qHk (v := ?_) 1 rfl (.inl ⟨by rfl, ?_⟩) ?_
      rotate_left
      ·
       (intro w hSw; (try dsimp only at hSw); go_simp; try with_reducible rfl)
      try simp only [Act.put, qa, qb, qc, qD, qE, qF]
      refine qHk (v := ?_) 3 rfl (.inl ⟨by rfl, ?_⟩) ?_
      rotate_left
      ·
       (intro w hSw; (try dsimp only at hSw); go_simp; try with_reducible rfl)
      try simp only [Act.put, qa, qb, qc, qD, qE, qF]
      refine qHr 2 rfl (fun K hK => ?_)
      try simp only [Act.put, qa, qb, qc, qD, qE, qF]
      go_simp
      refine (offsets_c b1 (.slice (some ⟨g7, 0, none⟩) u.length r8) (.slice (some ⟨g9, 0, none⟩) u.length u.length) u T _ _ _ ((O11.ints (by first | (simp; omega) | (simp only [List.length_set]; omega) | omega)).ext qXt) ((O12.ints (by omega)).ext qXt) (by omega) (sh hu.out).2.1 (sh hu.out).2.2).mono ?_
      rintro e w3 ⟨fv47, rfl, i48, -, xw3⟩
      have Lw3 : Ext wr w3 := Ext.trans qXt xw3
      have Xw3 : Ext w w3 := Xwr.trans Lw3
      replace b10 := Lw3.cell b10
      replace b11 := Lw3.cell b11
      replace b12 := Lw3.cell b12
      replace b20 := Lw3.cell b20
      replace b21 := Lw3.cell b21
      replace b22 := Lw3.cell b22
      replace f_b20 := Lw3.frz z_b2 f_b20
      replace f_b21 := Lw3.frz z_b2 f_b21
      replace f_b22 := Lw3.frz z_b2 f_b22
      replace b130 := Lw3.cell b130
      replace b131 := Lw3.cell b131
      replace b132 := Lw3.cell b132
      replace f_b130 := Lw3.frz z_b13 f_b130
      replace f_b131 := Lw3.frz z_b13 f_b131
      replace f_b132 := Lw3.frz z_b13 f_b132
      have z_b1 : w.heap.size < w3.heap.size := qB b10
      have z_b2 : w.heap.size + 1 < w3.heap.size := qB b20
      have z_b13 : g10 < w3.heap.size := qB b130
      replace O11 := O11.ext Lw3
      replace O12 := O12.ext Lw3
      replace i17 := i17.ext Lw3
      have s_w3 : w.heap.size ≤ w3.heap.size := Xw3.size
      have BL4_w3 : Ext w1 w3 := Er19.trans Lw3
      clear xw3
      try simp only [World.size_alloc, World.size_drew] at i48
      obtain ⟨afv47, cfv47, rfl⟩ := i48.form
      refine hK.out _ _ ⟨b10, b11, b12, b130, b131, b132⟩ (fun hHeld => ?_)
      clear hK K
      try simp only [Act.put, qa, qb, qc, qD, qE, qF]
      refine qHr 4 rfl (fun K hK => ?_)
      try simp only [Act.put, qa, qb, qc, qD, qE, qF]
      go_simp
      refine (sameInts_c (offsL b1 u T) C (.slice afv47 ((offsL b1 u T).length) cfv47) (.slice afv16 C.length cfv16) _ _ _ (i48.ext qXt) (i17.ext qXt)).mono ?_
      rintro e w4 ⟨rfl, xw4⟩
      have Lw4 : Ext w3 w4 := Ext.trans qXt xw4
      have Xw4 : Ext w w4 := Xw3.trans Lw4
      replace b10 := Lw4.cell b10
      replace b11 := Lw4.cell b11
      replace b12 := Lw4.cell b12
      replace b20 := Lw4.cell b20
      replace b21 := Lw4.cell b21
      replace b22 := Lw4.cell b22
      replace f_b20 := Lw4.frz z_b2 f_b20
      replace f_b21 := Lw4.frz z_b2 f_b21
      replace f_b22 := Lw4.frz z_b2 f_b22
      replace b130 := Lw4.cell b130
      replace b131 := Lw4.cell b131
      replace b132 := Lw4.cell b132
      replace f_b130 := Lw4.frz z_b13 f_b130
      replace f_b131 := Lw4.frz z_b13 f_b131
      replace f_b132 := Lw4.frz z_b13 f_b132
      have z_b1 : w.heap.size < w4.heap.size := qB b10
      have z_b2 : w.heap.size + 1 < w4.heap.size := qB b20
      have z_b13 : g10 < w4.heap.size := qB b130
      replace O11 := O11.ext Lw4
      replace O12 := O12.ext Lw4
      replace i17 := i17.ext Lw4
      replace i48 := i48.ext Lw4
      have s_w4 : w.heap.size ≤ w4.heap.size := Xw4.size
      have BL4_w4 : Ext w1 w4 := BL4_w3.trans Lw4
      clear xw4
      refine hK.out _ _ ⟨b10, b11, b12, b130, b131, b132⟩ (fun hHeld => ?_)
      clear hK K
      try simp only [Act.put, qa, qb, qc, qD, qE, qF]
      refine qHr 5 rfl (fun K hK => ?_)
      try simp only [Act.put, qa, qb, qc, qD, qE, qF]
      go_simp
      generalize hW16 : (((w4.setCell ⟨w.heap.size + 1, 0, none⟩ (.int .i64 b1)).setCell ⟨w.heap.size + 1, 1, none⟩ (.slice (some ⟨g7, 0, none⟩) u.length r8)).setCell ⟨w.heap.size + 1, 2, none⟩ (.slice (some ⟨g9, 0, none⟩) u.length u.length)) = w5 at *
      have Kw5 : Chg (w.heap.size + 1) (w.heap.size + 1 + 1) w4 w5 := by subst hW16; exact qCh
      have Xw5 : Ext w w5 := by subst hW16; exact qXt
      replace b10 := Kw5.cell (by omega) b10
      replace b11 := Kw5.cell (by omega) b11
      replace b12 := Kw5.cell (by omega) b12
      replace b20 : w5.cell? ⟨w.heap.size + 1, 0, none⟩ = some (.int .i64 b1) := by subst hW16; go_simp
      replace f_b20 : w5.frozen? ⟨w.heap.size + 1, 0, none⟩ = false := by subst hW16; go_simp
      replace b21 : w5.cell? ⟨w.heap.size + 1, 1, none⟩ = some (.slice (some ⟨g7, 0, none⟩) u.length r8) := by subst hW16; go_simp
      replace f_b21 : w5.frozen? ⟨w.heap.size + 1, 1, none⟩ = false := by subst hW16; go_simp
      replace b22 : w5.cell? ⟨w.heap.size + 1, 2, none⟩ = some (.slice (some ⟨g9, 0, none⟩) u.length u.length) := by subst hW16; go_simp
      replace f_b22 : w5.frozen? ⟨w.heap.size + 1, 2, none⟩ = false := by subst hW16; go_simp
      replace b130 := Kw5.cell (by omega) b130
      replace f_b130 := Kw5.frzO (by omega) z_b13 f_b130
      replace b131 := Kw5.cell (by omega) b131
      replace f_b131 := Kw5.frzO (by omega) z_b13 f_b131
      replace b132 := Kw5.cell (by omega) b132
      replace f_b132 := Kw5.frzO (by omega) z_b13 f_b132
      replace O11 := O11.chgN Kw5 (by omega)
      replace O12 := O12.chgN Kw5 (by omega)
      replace i17 := i17.chg Kw5 (by omega)
      replace i48 := i48.chg Kw5 (by omega)
      clear Kw5
      have z_b1 : w.heap.size < w5.heap.size := qB b10
      have z_b2 : w.heap.size + 1 < w5.heap.size := qB b20
      have z_b13 : g10 < w5.heap.size := qB b130
      have s_w5 : w.heap.size ≤ w5.heap.size := Xw5.size
      clear hW16
      refine hK.out _ _ ⟨b10, b11, b12, b130, b131, b132⟩ (fun hHeld => ?_)
      clear hK K
      try simp only [Act.put, qa, qb, qc, qD, qE, qF]
      refine qHk (v := ?_) 6 rfl (.inl ⟨by rfl, ?_⟩) ?_
      rotate_left
      ·
       (intro w hSw; (try dsimp only at hSw); go_simp; try with_reducible rfl)
      try simp only [Act.put, qa, qb, qc, qD, qE, qF]
      refine wpAnyH_done qKr ?_ _
      clear hHeld 
      go_wp2_with fail
      refine bodyPost_ret (v := .tuple #[.agg #[.int .i64 b1, .slice (some ⟨g7, 0, none⟩) u.length r8, .slice (some ⟨g9, 0, none⟩) u.length u.length], .bool (sameB (offsL b1 u T) C)]) (by simp only [results, Try.results128]; go_simp) rfl ?_
      rw [show rsR b1 s1 t1 u = (b1, u, T, sameB (offsL b1 u T) C) from by rw [rsR_val hC.out hT.out, if_pos hc14.out, if_neg hc15.out]]
      exact ⟨_, _, rfl, (O11.ints (by first | (simp; omega) | (simp only [List.length_set]; omega) | omega)).lower (by omega), (O12.ints (by omega)).lower (by omega), Xw5⟩
  ·
   have hc14e : ((countL u : Int) == (countL s1 : Int)) = false := by simpa using hc14
   have hc14n : ((countL u : Int) != (countL s1 : Int)) = true := by simpa using hc14
   replace hc14 := Lib.hid hc14
   refine qTk (v := ?_) 5 rfl (.inl ⟨by rfl, ?_⟩) ?_
   rotate_left
   ·
    (intro w hSw; (try dsimp only at hSw); go_simp; try with_reducible rfl)
   try simp only [Act.put, qa, qb, qc, qD, qE, qF]
   refine wpTail_done qKr ?_ _
   clear hHeld 
   go_wp2_with fail
   generalize hW17 : (((wc5.setCell ⟨w.heap.size + 1, 0, none⟩ (.int .i64 0)).setCell ⟨w.heap.size + 1, 1, none⟩ (.slice none 0 0)).setCell ⟨w.heap.size + 1, 2, none⟩ (.slice none 0 0)) = w2 at *
   have Kw2 : Chg (w.heap.size + 1) (w.heap.size + 1 + 1) wc5 w2 := by subst hW17; exact qCh
   have Xw2 : Ext w w2 := by subst hW17; exact qXt
   replace b10 := Kw2.cell (by omega) b10
   replace b11 := Kw2.cell (by omega) b11
   replace b12 := Kw2.cell (by omega) b12
   replace b20 : w2.cell? ⟨w.heap.size + 1, 0, none⟩ = some (.int .i64 0) := by subst hW17; go_simp
   replace f_b20 : w2.frozen? ⟨w.heap.size + 1, 0, none⟩ = false := by subst hW17; go_simp
   replace b21 : w2.cell? ⟨w.heap.size + 1, 1, none⟩ = some (.slice none 0 0) := by subst hW17; go_simp
   replace f_b21 : w2.frozen? ⟨w.heap.size + 1, 1, none⟩ = false := by subst hW17; go_simp
   replace b22 : w2.cell? ⟨w.heap.size + 1, 2, none⟩ = some (.slice none 0 0) := by subst hW17; go_simp
   replace f_b22 : w2.frozen? ⟨w.heap.size + 1, 2, none⟩ = false := by subst hW17; go_simp
   replace b130 := Kw2.cell (by omega) b130
   replace f_b130 := Kw2.frzO (by omega) z_b13 f_b130
   replace b131 := Kw2.cell (by omega) b131
   replace f_b131 := Kw2.frzO (by omega) z_b13 f_b131
   replace b132 := Kw2.cell (by omega) b132
   replace f_b132 := Kw2.frzO (by omega) z_b13 f_b132
   replace O11 := O11.chgN Kw2 (by omega)
   replace O12 := O12.chgN Kw2 (by omega)
   clear Kw2
   have z_b1 : w.heap.size < w2.heap.size := qB b10
   have z_b2 : w.heap.size + 1 < w2.heap.size := qB b20
   have z_b13 : g10 < w2.heap.size := qB b130
   have s_w2 : w.heap.size ≤ w2.heap.size := Xw2.size
   clear hW17
   refine bodyPost_ret (v := .tuple #[.agg #[.int .i64 0, .slice none 0 0, .slice none 0 0], .bool false]) (by simp only [results, Try.results128]; go_simp) rfl ?_
   rw [show rsR b1 s1 t1 u = noV from by rw [rsR_val rfl rfl, if_neg hc14.out]]
   exact PVWB.no (Xw2.trans qXt)

set_option maxHeartbeats 3200000 in
theorem specReshape_c (b1 : Int) (u1 v1 : Value) (s1 t1 : List Int) (v3 : Value) (u : List Int) (w : World) (l1 m1 : Nat) (h1 : Ints w l1 u1 s1) (k1 : Ints w m1 v1 t1) (l3 : Nat) (h3 : Ints w l3 v3 u) :
  Calls Try.prog 76 #[.agg #[.int .i64 b1, u1, v1], v3] w (PVX w (rsV b1 s1 t1 u)) := by
 obtain ⟨p0, c0, rfl⟩ := h1.form
 obtain ⟨p1, c1, rfl⟩ := k1.form
 obtain ⟨p2, c2, rfl⟩ := h3.form
 obtain ⟨RB, RS, RT, RO, hR⟩ : ∃ RB RS RT RO, rsR b1 s1 t1 u = (RB, RS, RT, RO) := ⟨_, _, _, _, rfl⟩
 replace hR := Lib.hid hR
 go_enter Try.func76, Try.ntmps76
 go_wp2_with fail
 refine (validView_c b1 (.slice p0 s1.length c0) (.slice p1 t1.length c1) s1 t1 _ _ _ (h1.ext qXt) (k1.ext qXt)).mono ?_
 rintro e w1 ⟨rfl, xw1⟩
 have Lw1 : Ext w w1 := Ext.trans qXt xw1
 have Xw1 : Ext w w1 := Lw1
 have b10 : w1.cell? ⟨w.heap.size, 0, none⟩ = some (.int .i64 b1) := xw1.cell qCl
 have b11 : w1.cell? ⟨w.heap.size, 1, none⟩ = some (.slice p0 s1.length c0) := xw1.cell qCl
 have b12 : w1.cell? ⟨w.heap.size, 2, none⟩ = some (.slice p1 t1.length c1) := xw1.cell qCl
 have b20 : w1.cell? ⟨w.heap.size + 1, 0, none⟩ = some (.int .i64 0) := xw1.cell qCl
 have b21 : w1.cell? ⟨w.heap.size + 1, 1, none⟩ = some (.slice none 0 0) := xw1.cell qCl
 have b22 : w1.cell? ⟨w.heap.size + 1, 2, none⟩ = some (.slice none 0 0) := xw1.cell qCl
 have f_b20 : w1.frozen? ⟨w.heap.size + 1, 0, none⟩ = false := xw1.frz (by simp <;> omega) qFz
 have f_b21 : w1.frozen? ⟨w.heap.size + 1, 1, none⟩ = false := xw1.frz (by simp <;> omega) qFz
 have f_b22 : w1.frozen? ⟨w.heap.size + 1, 2, none⟩ = false := xw1.frz (by simp <;> omega) qFz
 have z_b1 : w.heap.size < w1.heap.size := qB b10
 have z_b2 : w.heap.size + 1 < w1.heap.size := qB b20
 have s_w1 : w.heap.size ≤ w1.heap.size := Xw1.size
 clear xw1
 cases hB3 : viewB b1 s1 t1
 ·
  replace hB3 := Lib.hid hB3
  go_wp2_with fail
  generalize hW18 : (((w1.setCell ⟨w.heap.size + 1, 0, none⟩ (.int .i64 0)).setCell ⟨w.heap.size + 1, 1, none⟩ (.slice none 0 0)).setCell ⟨w.heap.size + 1, 2, none⟩ (.slice none 0 0)) = w2 at *
  have Kw2 : Chg (w.heap.size + 1) (w.heap.size + 1 + 1) w1 w2 := by subst hW18; exact qCh
  have Xw2 : Ext w w2 := by subst hW18; exact qXt
  replace b10 := Kw2.cell (by omega) b10
  replace b11 := Kw2.cell (by omega) b11
  replace b12 := Kw2.cell (by omega) b12
  replace b20 : w2.cell? ⟨w.heap.size + 1, 0, none⟩ = some (.int .i64 0) := by subst hW18; go_simp
  replace f_b20 : w2.frozen? ⟨w.heap.size + 1, 0, none⟩ = false := by subst hW18; go_simp
  replace b21 : w2.cell? ⟨w.heap.size + 1, 1, none⟩ = some (.slice none 0 0) := by subst hW18; go_simp
  replace f_b21 : w2.frozen? ⟨w.heap.size + 1, 1, none⟩ = false := by subst hW18; go_simp
  replace b22 : w2.cell? ⟨w.heap.size + 1, 2, none⟩ = some (.slice none 0 0) := by subst hW18; go_simp
  replace f_b22 : w2.frozen? ⟨w.heap.size + 1, 2, none⟩ = false := by subst hW18; go_simp
  clear Kw2
  have z_b1 : w.heap.size < w2.heap.size := qB b10
  have z_b2 : w.heap.size + 1 < w2.heap.size := qB b20
  have s_w2 : w.heap.size ≤ w2.heap.size := Xw2.size
  clear hW18
  refine bodyPost_ret (v := .tuple #[.agg #[.int .i64 0, .slice none 0 0, .slice none 0 0], .bool false]) (by simp only [results, Try.results76]; go_simp) rfl ?_
  rw [show rsV b1 s1 t1 u = noV from rs_no fun h => by have h7 := hB3.out; rw [h.1] at h7; cases h7]
  exact PVWB.no (Xw2.trans qXt)
 ·
  replace hB3 := Lib.hid hB3
  go_wp2_with fail
  refine (validShape_c u (.slice p2 u.length c2) _ _ (h3.ext (Xw1.trans qXt))).mono ?_
  rintro e w' ⟨rfl, rfl⟩
  cases hB4 : shapeB u
  ·
   replace hB4 := Lib.hid hB4
   go_wp2_with fail
   generalize hW19 : (((w1.setCell ⟨w.heap.size + 1, 0, none⟩ (.int .i64 0)).setCell ⟨w.heap.size + 1, 1, none⟩ (.slice none 0 0)).setCell ⟨w.heap.size + 1, 2, none⟩ (.slice none 0 0)) = w2 at *
   have Kw2 : Chg (w.heap.size + 1) (w.heap.size + 1 + 1) w1 w2 := by subst hW19; exact qCh
   have Xw2 : Ext w w2 := by subst hW19; exact qXt
   replace b10 := Kw2.cell (by omega) b10
   replace b11 := Kw2.cell (by omega) b11
   replace b12 := Kw2.cell (by omega) b12
   replace b20 : w2.cell? ⟨w.heap.size + 1, 0, none⟩ = some (.int .i64 0) := by subst hW19; go_simp
   replace f_b20 : w2.frozen? ⟨w.heap.size + 1, 0, none⟩ = false := by subst hW19; go_simp
   replace b21 : w2.cell? ⟨w.heap.size + 1, 1, none⟩ = some (.slice none 0 0) := by subst hW19; go_simp
   replace f_b21 : w2.frozen? ⟨w.heap.size + 1, 1, none⟩ = false := by subst hW19; go_simp
   replace b22 : w2.cell? ⟨w.heap.size + 1, 2, none⟩ = some (.slice none 0 0) := by subst hW19; go_simp
   replace f_b22 : w2.frozen? ⟨w.heap.size + 1, 2, none⟩ = false := by subst hW19; go_simp
   clear Kw2
   have z_b1 : w.heap.size < w2.heap.size := qB b10
   have z_b2 : w.heap.size + 1 < w2.heap.size := qB b20
   have s_w2 : w.heap.size ≤ w2.heap.size := Xw2.size
   clear hW19
   refine bodyPost_ret (v := .tuple #[.agg #[.int .i64 0, .slice none 0 0, .slice none 0 0], .bool false]) (by simp only [results, Try.results76]; go_simp) rfl ?_
   rw [show rsV b1 s1 t1 u = noV from rs_no fun h => by have h7 := hB4.out; rw [h.2.1] at h7; cases h7]
   exact PVWB.no (Xw2.trans qXt)
  ·
   replace hB4 := Lib.hid hB4
   go_wp2_with fail
   refine (pvx_eq hR.out (reshaped_c b1 (.slice p0 s1.length c0) (.slice p1 t1.length c1) s1 t1 (.slice p2 u.length c2) u _ _ _ (h1.ext (Xw1.trans qXt)) (k1.ext (Xw1.trans qXt)) _ (h3.ext (Xw1.trans qXt)) hB3.out hB4.out)).mono ?_
   rintro e w2 ⟨fv5u, fv5v, rfl, i6u, i6v, xw2⟩
   have Lw2 : Ext w1 w2 := Ext.trans qXt xw2
   have Xw2 : Ext w w2 := Xw1.trans Lw2
   replace b10 := Lw2.cell b10
   replace b11 := Lw2.cell b11
   replace b12 := Lw2.cell b12
   replace b20 := Lw2.cell b20
   replace b21 := Lw2.cell b21
   replace b22 := Lw2.cell b22
   replace f_b20 := Lw2.frz z_b2 f_b20
   replace f_b21 := Lw2.frz z_b2 f_b21
   replace f_b22 := Lw2.frz z_b2 f_b22
   have z_b1 : w.heap.size < w2.heap.size := qB b10
   have z_b2 : w.heap.size + 1 < w2.heap.size := qB b20
   have s_w2 : w.heap.size ≤ w2.heap.size := Xw2.size
   clear xw2
   obtain ⟨afv5u, cfv5u, rfl⟩ := i6u.form
   obtain ⟨afv5v, cfv5v, rfl⟩ := i6v.form
   cases hB7 : RO
   ·
    replace hB7 := Lib.hid hB7
    go_upto_region 4 with fail
    generalize hW20 : w2.alloc (.cells #[.int .i64 RB, .slice afv5u RS.length cfv5u, .slice afv5v RT.length cfv5v] 36) = w3 at *
    have Lw3 : Ext w2 w3 := by subst hW20; exact qXt
    have Xw3 : Ext w w3 := Xw2.trans Lw3
    replace b10 := Lw3.cell b10
    replace b11 := Lw3.cell b11
    replace b12 := Lw3.cell b12
    replace b20 := Lw3.cell b20
    replace b21 := Lw3.cell b21
    replace b22 := Lw3.cell b22
    replace f_b20 := Lw3.frz z_b2 f_b20
    replace f_b21 := Lw3.frz z_b2 f_b21
    replace f_b22 := Lw3.frz z_b2 f_b22
    have b80 : w3.cell? ⟨w2.heap.size, 0, none⟩ = some (.int .i64 RB) := by subst hW20; exact qCl
    have b81 : w3.cell? ⟨w2.heap.size, 1, none⟩ = some (.slice afv5u RS.length cfv5u) := by subst hW20; exact qCl
    have b82 : w3.cell? ⟨w2.heap.size, 2, none⟩ = some (.slice afv5v RT.length cfv5v) := by subst hW20; exact qCl
    have z_b1 : w.heap.size < w3.heap.size := qB b10
    have z_b2 : w.heap.size + 1 < w3.heap.size := qB b20
    have z_b8 : w2.heap.size < w3.heap.size := qB b80
    replace i6u := i6u.ext Lw3
    replace i6v := i6v.ext Lw3
    have s_w3 : w.heap.size ≤ w3.heap.size := Xw3.size
    clear hW20
    go_wp2_with fail
    generalize hW21 : (((w3.setCell ⟨w.heap.size + 1, 0, none⟩ (.int .i64 0)).setCell ⟨w.heap.size + 1, 1, none⟩ (.slice none 0 0)).setCell ⟨w.heap.size + 1, 2, none⟩ (.slice none 0 0)) = w4 at *
    have Kw4 : Chg (w.heap.size + 1) (w.heap.size + 1 + 1) w3 w4 := by subst hW21; exact qCh
    have Xw4 : Ext w w4 := by subst hW21; exact qXt
    replace b10 := Kw4.cell (by omega) b10
    replace b11 := Kw4.cell (by omega) b11
    replace b12 := Kw4.cell (by omega) b12
    replace b20 : w4.cell? ⟨w.heap.size + 1, 0, none⟩ = some (.int .i64 0) := by subst hW21; go_simp
    replace f_b20 : w4.frozen? ⟨w.heap.size + 1, 0, none⟩ = false := by subst hW21; go_simp
    replace b21 : w4.cell? ⟨w.heap.size + 1, 1, none⟩ = some (.slice none 0 0) := by subst hW21; go_simp
    replace f_b21 : w4.frozen? ⟨w.heap.size + 1, 1, none⟩ = false := by subst hW21; go_simp
    replace b22 : w4.cell? ⟨w.heap.size + 1, 2, none⟩ = some (.slice none 0 0) := by subst hW21; go_simp
    replace f_b22 : w4.frozen? ⟨w.heap.size + 1, 2, none⟩ = false := by subst hW21; go_simp
    replace b80 := Kw4.cell (by omega) b80
    replace b81 := Kw4.cell (by omega) b81
    replace b82 := Kw4.cell (by omega) b82
    replace i6u := i6u.chg Kw4 (by omega)
    replace i6v := i6v.chg Kw4 (by omega)
    clear Kw4
    have z_b1 : w.heap.size < w4.heap.size := qB b10
    have z_b2 : w.heap.size + 1 < w4.heap.size := qB b20
    have z_b8 : w2.heap.size < w4.heap.size := qB b80
    have s_w4 : w.heap.size ≤ w4.heap.size := Xw4.size
    clear hW21
    refine bodyPost_ret (v := .tuple #[.agg #[.int .i64 0, .slice none 0 0, .slice none 0 0], .bool false]) (by simp only [results, Try.results76]; go_simp) rfl ?_
    rw [show rsV b1 s1 t1 u = noV from by rw [rs_ref hB3.out hB4.out hR.out, hB7.out]; rfl]
    exact PVWB.no (Xw4.trans qXt)
   ·
    replace hB7 := Lib.hid hB7
    go_upto_region 4 with fail
    generalize hW22 : w2.alloc (.cells #[.int .i64 RB, .slice afv5u RS.length cfv5u, .slice afv5v RT.length cfv5v] 36) = w3 at *
    have Lw3 : Ext w2 w3 := by subst hW22; exact qXt
    have Xw3 : Ext w w3 := Xw2.trans Lw3
    replace b10 := Lw3.cell b10
    replace b11 := Lw3.cell b11
    replace b12 := Lw3.cell b12
    replace b20 := Lw3.cell b20
    replace b21 := Lw3.cell b21
    replace b22 := Lw3.cell b22
    replace f_b20 := Lw3.frz z_b2 f_b20
    replace f_b21 := Lw3.frz z_b2 f_b21
    replace f_b22 := Lw3.frz z_b2 f_b22
    have b90 : w3.cell? ⟨w2.heap.size, 0, none⟩ = some (.int .i64 RB) := by subst hW22; exact qCl
    have b91 : w3.cell? ⟨w2.heap.size, 1, none⟩ = some (.slice afv5u RS.length cfv5u) := by subst hW22; exact qCl
    have b92 : w3.cell? ⟨w2.heap.size, 2, none⟩ = some (.slice afv5v RT.length cfv5v) := by subst hW22; exact qCl
    have z_b1 : w.heap.size < w3.heap.size := qB b10
    have z_b2 : w.heap.size + 1 < w3.heap.size := qB b20
    have z_b9 : w2.heap.size < w3.heap.size := qB b90
    replace i6u := i6u.ext Lw3
    replace i6v := i6v.ext Lw3
    have s_w3 : w.heap.size ≤ w3.heap.size := Xw3.size
    clear hW22
    go_wp2_with fail
    refine (made_c RB (.slice afv5u RS.length cfv5u) (.slice afv5v RT.length cfv5v) RS RT _ _ _ (i6u.ext qXt) (i6v.ext qXt)).mono ?_
    rintro e w4 ⟨fv10u, fv10v, rfl, i11u, i11v, -, -, -, xw4⟩
    have Lw4 : Ext w3 w4 := Ext.trans qXt xw4
    have Xw4 : Ext w w4 := Xw3.trans Lw4
    replace b10 := Lw4.cell b10
    replace b11 := Lw4.cell b11
    replace b12 := Lw4.cell b12
    replace b20 := Lw4.cell b20
    replace b21 := Lw4.cell b21
    replace b22 := Lw4.cell b22
    replace f_b20 := Lw4.frz z_b2 f_b20
    replace f_b21 := Lw4.frz z_b2 f_b21
    replace f_b22 := Lw4.frz z_b2 f_b22
    replace b90 := Lw4.cell b90
    replace b91 := Lw4.cell b91
    replace b92 := Lw4.cell b92
    have z_b1 : w.heap.size < w4.heap.size := qB b10
    have z_b2 : w.heap.size + 1 < w4.heap.size := qB b20
    have z_b9 : w2.heap.size < w4.heap.size := qB b90
    replace i6u := i6u.ext Lw4
    replace i6v := i6v.ext Lw4
    have s_w4 : w.heap.size ≤ w4.heap.size := Xw4.size
    clear xw4
    obtain ⟨afv10u, cfv10u, rfl⟩ := i11u.form
    obtain ⟨afv10v, cfv10v, rfl⟩ := i11v.form
    go_wp2_with fail
    generalize hW23 : (((w4.setCell ⟨w.heap.size + 1, 0, none⟩ (.int .i64 ((madeV RB RS RT).1))).setCell ⟨w.heap.size + 1, 1, none⟩ (.slice afv10u (((madeV RB RS RT).2.1).length) cfv10u)).setCell ⟨w.heap.size + 1, 2, none⟩ (.slice afv10v (((madeV RB RS RT).2.2.1).length) cfv10v)) = w5 at *
    have Kw5 : Chg (w.heap.size + 1) (w.heap.size + 1 + 1) w4 w5 := by subst hW23; exact qCh
    have Xw5 : Ext w w5 := by subst hW23; exact qXt
    replace b10 := Kw5.cell (by omega) b10
    replace b11 := Kw5.cell (by omega) b11
    replace b12 := Kw5.cell (by omega) b12
    replace b20 : w5.cell? ⟨w.heap.size + 1, 0, none⟩ = some (.int .i64 ((madeV RB RS RT).1)) := by subst hW23; go_simp
    replace f_b20 : w5.frozen? ⟨w.heap.size + 1, 0, none⟩ = false := by subst hW23; go_simp
    replace b21 : w5.cell? ⟨w.heap.size + 1, 1, none⟩ = some (.slice afv10u (((madeV RB RS RT).2.1).length) cfv10u) := by subst hW23; go_simp
    replace f_b21 : w5.frozen? ⟨w.heap.size + 1, 1, none⟩ = false := by subst hW23; go_simp
    replace b22 : w5.cell? ⟨w.heap.size + 1, 2, none⟩ = some (.slice afv10v (((madeV RB RS RT).2.2.1).length) cfv10v) := by subst hW23; go_simp
    replace f_b22 : w5.frozen? ⟨w.heap.size + 1, 2, none⟩ = false := by subst hW23; go_simp
    replace b90 := Kw5.cell (by omega) b90
    replace b91 := Kw5.cell (by omega) b91
    replace b92 := Kw5.cell (by omega) b92
    replace i6u := i6u.chg Kw5 (by omega)
    replace i6v := i6v.chg Kw5 (by omega)
    replace i11u := i11u.chg Kw5 (by omega)
    replace i11v := i11v.chg Kw5 (by omega)
    clear Kw5
    have z_b1 : w.heap.size < w5.heap.size := qB b10
    have z_b2 : w.heap.size + 1 < w5.heap.size := qB b20
    have z_b9 : w2.heap.size < w5.heap.size := qB b90
    have s_w5 : w.heap.size ≤ w5.heap.size := Xw5.size
    clear hW23
    refine bodyPost_ret (v := .tuple #[.agg #[.int .i64 ((madeV RB RS RT).1), .slice afv10u (((madeV RB RS RT).2.1).length) cfv10u, .slice afv10v (((madeV RB RS RT).2.2.1).length) cfv10v], .bool ((madeV RB RS RT).2.2.2)]) (by simp only [results, Try.results76]; go_simp) rfl ?_
    rw [show rsV b1 s1 t1 u = madeV RB RS RT from by rw [rs_ref hB3.out hB4.out hR.out, hB7.out]; rfl]
    exact ⟨_, _, rfl, i11u.lower (by omega), i11v.lower (by omega), Xw5⟩


end Go.Proofs.Ytfbbnbpobojboaa

/- Walks: SplitDim of the reference. -/
namespace Go.Proofs.Ytfbbnbpobojboaa
open Go.RowKit
set_option linter.unusedVariables false
set_option maxRecDepth 100000

set_option maxHeartbeats 3200000 in
theorem specSplitDim_c (b1 : Int) (u1 v1 : Value) (s1 t1 : List Int) (d o : Int) (w : World) (l1 m1 : Nat) (h1 : Ints w l1 u1 s1) (k1 : Ints w m1 v1 t1) :
  Calls Try.prog 24 #[.agg #[.int .i64 b1, u1, v1], .int .i64 d, .int .i64 o] w (PVX w (spV b1 s1 t1 d o)) := by
 obtain ⟨p0, c0, rfl⟩ := h1.form
 obtain ⟨p1, c1, rfl⟩ := k1.form
 go_enter Try.func24, Try.ntmps24
 go_wp2_with fail
 refine (validView_c b1 (.slice p0 s1.length c0) (.slice p1 t1.length c1) s1 t1 _ _ _ (h1.ext qXt) (k1.ext qXt)).mono ?_
 rintro e w1 ⟨rfl, xw1⟩
 have Lw1 : Ext w w1 := Ext.trans qXt xw1
 have Xw1 : Ext w w1 := Lw1
 have b10 : w1.cell? ⟨w.heap.size, 0, none⟩ = some (.int .i64 b1) := xw1.cell qCl
 have b11 : w1.cell? ⟨w.heap.size, 1, none⟩ = some (.slice p0 s1.length c0) := xw1.cell qCl
 have b12 : w1.cell? ⟨w.heap.size, 2, none⟩ = some (.slice p1 t1.length c1) := xw1.cell qCl
 have b20 : w1.cell? ⟨w.heap.size + 1, 0, none⟩ = some (.int .i64 0) := xw1.cell qCl
 have b21 : w1.cell? ⟨w.heap.size + 1, 1, none⟩ = some (.slice none 0 0) := xw1.cell qCl
 have b22 : w1.cell? ⟨w.heap.size + 1, 2, none⟩ = some (.slice none 0 0) := xw1.cell qCl
 have f_b20 : w1.frozen? ⟨w.heap.size + 1, 0, none⟩ = false := xw1.frz (by simp <;> omega) qFz
 have f_b21 : w1.frozen? ⟨w.heap.size + 1, 1, none⟩ = false := xw1.frz (by simp <;> omega) qFz
 have f_b22 : w1.frozen? ⟨w.heap.size + 1, 2, none⟩ = false := xw1.frz (by simp <;> omega) qFz
 have z_b1 : w.heap.size < w1.heap.size := qB b10
 have z_b2 : w.heap.size + 1 < w1.heap.size := qB b20
 have s_w1 : w.heap.size ≤ w1.heap.size := Xw1.size
 clear xw1
 cases hB3 : viewB b1 s1 t1
 ·
  replace hB3 := Lib.hid hB3
  go_wp2_with fail
  generalize hW1 : (((w1.setCell ⟨w.heap.size + 1, 0, none⟩ (.int .i64 0)).setCell ⟨w.heap.size + 1, 1, none⟩ (.slice none 0 0)).setCell ⟨w.heap.size + 1, 2, none⟩ (.slice none 0 0)) = w2 at *
  have Kw2 : Chg (w.heap.size + 1) (w.heap.size + 1 + 1) w1 w2 := by subst hW1; exact qCh
  have Xw2 : Ext w w2 := by subst hW1; exact qXt
  replace b10 := Kw2.cell (by omega) b10
  replace b11 := Kw2.cell (by omega) b11
  replace b12 := Kw2.cell (by omega) b12
  replace b20 : w2.cell? ⟨w.heap.size + 1, 0, none⟩ = some (.int .i64 0) := by subst hW1; go_simp
  replace f_b20 : w2.frozen? ⟨w.heap.size + 1, 0, none⟩ = false := by subst hW1; first | (simp only [World.frozen?_setCell]; with_reducible assumption) | go_simp
  replace b21 : w2.cell? ⟨w.heap.size + 1, 1, none⟩ = some (.slice none 0 0) := by subst hW1; go_simp
  replace f_b21 : w2.frozen? ⟨w.heap.size + 1, 1, none⟩ = false := by subst hW1; first | (simp only [World.frozen?_setCell]; with_reducible assumption) | go_simp
  replace b22 : w2.cell? ⟨w.heap.size + 1, 2, none⟩ = some (.slice none 0 0) := by subst hW1; go_simp
  replace f_b22 : w2.frozen? ⟨w.heap.size + 1, 2, none⟩ = false := by subst hW1; first | (simp only [World.frozen?_setCell]; with_reducible assumption) | go_simp
  clear Kw2
  have z_b1 : w.heap.size < w2.heap.size := qB b10
  have z_b2 : w.heap.size + 1 < w2.heap.size := qB b20
  have s_w2 : w.heap.size ≤ w2.heap.size := Xw2.size
  clear hW1
  refine bodyPost_ret (v := .tuple #[.agg #[.int .i64 0, .slice none 0 0, .slice none 0 0], .bool false]) (by simp only [results, Try.results24]; go_simp) rfl ?_
  rw [show spV b1 s1 t1 d o = noV from sp_no0 (by unfold dimB; rw [hB3.out]; rfl)]
  exact PVWB.no (Xw2.trans qXt)
 ·
  replace hB3 := Lib.hid hB3
  go_wp2_with fail
  refine (isDim_c b1 (.slice p0 s1.length c0) (.slice p1 t1.length c1) s1 t1 d _ _ _ (h1.ext (Xw1.trans qXt)) (k1.ext (Xw1.trans qXt)) (vw hB3.out).2.2.2.1).mono ?_
  rintro e w2 ⟨rfl, xw2⟩
  have Lw2 : Ext w1 w2 := Ext.trans qXt xw2
  have Xw2 : Ext w w2 := Xw1.trans Lw2
  replace b10 := Lw2.cell b10
  replace b11 := Lw2.cell b11
  replace b12 := Lw2.cell b12
  replace b20 := Lw2.cell b20
  replace b21 := Lw2.cell b21
  replace b22 := Lw2.cell b22
  replace f_b20 := Lw2.frz z_b2 f_b20
  replace f_b21 := Lw2.frz z_b2 f_b21
  replace f_b22 := Lw2.frz z_b2 f_b22
  have z_b1 : w.heap.size < w2.heap.size := qB b10
  have z_b2 : w.heap.size + 1 < w2.heap.size := qB b20
  have s_w2 : w.heap.size ≤ w2.heap.size := Xw2.size
  clear xw2
  cases hB4 : inB 0 ((s1.length : Int) - 1) d
  ·
   replace hB4 := Lib.hid hB4
   go_wp2_with fail
   generalize hW2 : (((w2.setCell ⟨w.heap.size + 1, 0, none⟩ (.int .i64 0)).setCell ⟨w.heap.size + 1, 1, none⟩ (.slice none 0 0)).setCell ⟨w.heap.size + 1, 2, none⟩ (.slice none 0 0)) = w3 at *
   have Kw3 : Chg (w.heap.size + 1) (w.heap.size + 1 + 1) w2 w3 := by subst hW2; exact qCh
   have Xw3 : Ext w w3 := by subst hW2; exact qXt
   replace b10 := Kw3.cell (by omega) b10
   replace b11 := Kw3.cell (by omega) b11
   replace b12 := Kw3.cell (by omega) b12
   replace b20 : w3.cell? ⟨w.heap.size + 1, 0, none⟩ = some (.int .i64 0) := by subst hW2; go_simp
   replace f_b20 : w3.frozen? ⟨w.heap.size + 1, 0, none⟩ = false := by subst hW2; first | (simp only [World.frozen?_setCell]; with_reducible assumption) | go_simp
   replace b21 : w3.cell? ⟨w.heap.size + 1, 1, none⟩ = some (.slice none 0 0) := by subst hW2; go_simp
   replace f_b21 : w3.frozen? ⟨w.heap.size + 1, 1, none⟩ = false := by subst hW2; first | (simp only [World.frozen?_setCell]; with_reducible assumption) | go_simp
   replace b22 : w3.cell? ⟨w.heap.size + 1, 2, none⟩ = some (.slice none 0 0) := by subst hW2; go_simp
   replace f_b22 : w3.frozen? ⟨w.heap.size + 1, 2, none⟩ = false := by subst hW2; first | (simp only [World.frozen?_setCell]; with_reducible assumption) | go_simp
   clear Kw3
   have z_b1 : w.heap.size < w3.heap.size := qB b10
   have z_b2 : w.heap.size + 1 < w3.heap.size := qB b20
   have s_w3 : w.heap.size ≤ w3.heap.size := Xw3.size
   clear hW2
   refine bodyPost_ret (v := .tuple #[.agg #[.int .i64 0, .slice none 0 0, .slice none 0 0], .bool false]) (by simp only [results, Try.results24]; go_simp) rfl ?_
   rw [show spV b1 s1 t1 d o = noV from sp_no0 (by unfold dimB; rw [hB3.out, hB4.out]; rfl)]
   exact PVWB.no (Xw3.trans qXt)
  ·
   replace hB4 := Lib.hid hB4
   have hdim : dimB b1 s1 t1 d = true := by unfold dimB; rw [hB3.out, hB4.out]; rfl
   obtain ⟨hvv, hd0, hd1⟩ := dim_in hdim
   obtain ⟨D, rfl⟩ : ∃ D : Nat, d = D := ⟨d.toNat, by omega⟩
   have hDN : D < s1.length := by omega
   obtain ⟨-, hts, -, ht60, -⟩ := viewB_in hvv
   have hs4 := view_small hvv
   have hs60 := Lib.hid hs4.2
   have hs4 := hs4.1
   have hDT : D < t1.length := by omega
   have ht4 : t1.length ≤ 4 := by omega
   have hdl4 : (delL s1 D).length ≤ 4 := by rw [delL_len _ _ hDN]; omega
   replace hts := Lib.hid hts
   replace ht60 := Lib.hid ht60
   replace hvv := Lib.hid hvv
   have hne1 : s1 ≠ [] := fun h => by rw [h] at hDN; simp at hDN
   replace hne1 := Lib.hid hne1
   replace hdim := Lib.hid hdim
   have hD10 : (0 : Int) ≤ (D : Int) + 1 := by omega
   have hD1t : ((D : Int) + 1).toNat = D + 1 := by omega
   obtain ⟨Z, hZ⟩ : ∃ Z, s1.take D ++ [o] ++ s1.drop D = Z := ⟨_, rfl⟩
   have hil : Z.length = s1.length + 1 := by rw [← hZ]; simp; omega
   have hine : Z ≠ [] := fun h => by rw [h] at hil; simp at hil
   have hDi : D + 1 < Z.length := by omega
   have hZ8 : Z.length ≤ 8 := by omega
   have hsp : Z.set (D + 1) = (fun q => splitS s1 D o q) := by rw [← hZ]; funext q; exact split_ins s1 D o q hDN
   replace hsp := Lib.hid hsp
   replace hine := Lib.hid hine
   replace hil := Lib.hid hil
   replace hZ := Lib.hid hZ
   by_cases hc5 : (o : Int) < (1 : Int)
   ·
    go_wp2_with fail
    generalize hW3 : (((w2.setCell ⟨w.heap.size + 1, 0, none⟩ (.int .i64 0)).setCell ⟨w.heap.size + 1, 1, none⟩ (.slice none 0 0)).setCell ⟨w.heap.size + 1, 2, none⟩ (.slice none 0 0)) = w3 at *
    have Kw3 : Chg (w.heap.size + 1) (w.heap.size + 1 + 1) w2 w3 := by subst hW3; exact qCh
    have Xw3 : Ext w w3 := by subst hW3; exact qXt
    replace b10 := Kw3.cell (by omega) b10
    replace b11 := Kw3.cell (by omega) b11
    replace b12 := Kw3.cell (by omega) b12
    replace b20 : w3.cell? ⟨w.heap.size + 1, 0, none⟩ = some (.int .i64 0) := by subst hW3; go_simp
    replace f_b20 : w3.frozen? ⟨w.heap.size + 1, 0, none⟩ = false := by subst hW3; first | (simp only [World.frozen?_setCell]; with_reducible assumption) | go_simp
    replace b21 : w3.cell? ⟨w.heap.size + 1, 1, none⟩ = some (.slice none 0 0) := by subst hW3; go_simp
    replace f_b21 : w3.frozen? ⟨w.heap.size + 1, 1, none⟩ = false := by subst hW3; first | (simp only [World.frozen?_setCell]; with_reducible assumption) | go_simp
    replace b22 : w3.cell? ⟨w.heap.size + 1, 2, none⟩ = some (.slice none 0 0) := by subst hW3; go_simp
    replace f_b22 : w3.frozen? ⟨w.heap.size + 1, 2, none⟩ = false := by subst hW3; first | (simp only [World.frozen?_setCell]; with_reducible assumption) | go_simp
    clear Kw3
    have z_b1 : w.heap.size < w3.heap.size := qB b10
    have z_b2 : w.heap.size + 1 < w3.heap.size := qB b20
    have s_w3 : w.heap.size ≤ w3.heap.size := Xw3.size
    clear hW3
    refine bodyPost_ret (v := .tuple #[.agg #[.int .i64 0, .slice none 0 0, .slice none 0 0], .bool false]) (by simp only [results, Try.results24]; go_simp) rfl ?_
    rw [show spV b1 s1 t1 (D : Int) o = noV from sp_no1 (by omega)]
    exact PVWB.no (Xw3.trans qXt)
   ·
    have ho0 : ¬ (o = 0) := by omega
    have hN_e8 : D < s1.length := (by omega)
    have hI_e8 : (D : Int) < (s1.length : Int) := by omega
    obtain ⟨bl6, ol7, rfl, e80⟩ := h1.at D (by omega)
    have y_e8 : bl6 < w.heap.size := qB e80
    replace e80 := Xw2.cell e80
    obtain ⟨v9, hv9⟩ : ∃ v, s1.getD D 0 = v := ⟨_, rfl⟩
    rw [hv9] at e80
    replace hv9 := Lib.hid hv9
    have z_e8 : bl6 < w2.heap.size := qB e80
    have h60v9 := hs60.out _ (getD_mem (show D < s1.length by omega))
    rw [hv9.out] at h60v9
    by_cases hc10 : ((v9).tmod o : Int) = (0 : Int)
    ·
     have hc10e : (((v9).tmod o : Int) == (0 : Int)) = true := by simpa using hc10
     have hc10n : (((v9).tmod o : Int) != (0 : Int)) = false := by simpa using hc10
     have hc10m : ((v9 % o : Int) == (0 : Int)) = true := by rw [← Int.tmod_eq_emod_of_nonneg (by omega)]; exact hc10e
     have hc10o : ((v9 % o : Int) != (0 : Int)) = false := by rw [← Int.tmod_eq_emod_of_nonneg (by omega)]; exact hc10n
     replace hc10 := Lib.hid hc10
     go_wp2_with fail
     have Q11_b10 := Lib.hid b10
     have Q11_b11 := Lib.hid b11
     have Q11_b12 := Lib.hid b12
     have Q11_zb1 := z_b1
     have Q11_b20 := Lib.hid b20
     have Q11_f_b20 := Lib.hid f_b20
     have Q11_b21 := Lib.hid b21
     have Q11_f_b21 := Lib.hid f_b21
     have Q11_b22 := Lib.hid b22
     have Q11_f_b22 := Lib.hid f_b22
     have Q11_zb2 := z_b2
     have Q11_e80 := Lib.hid e80
     have Q11_ze8 := z_e8
     have BL12 : Ext w2 w2 := Ext.refl _
     refine (pi_eq hZ.out (insert_c s1 (.slice (some ⟨bl6, ol7, none⟩) s1.length c0) D o _ _ (h1.ext (Xw2.trans qXt)) (by omega) (by omega))).mono ?_
     rintro e w3 ⟨fv13, rfl, i14, i14z, xw3⟩
     have Lw3 : Ext w2 w3 := Ext.trans qXt xw3
     have Xw3 : Ext w w3 := Xw2.trans Lw3
     replace b10 := Lw3.cell b10
     replace b11 := Lw3.cell b11
     replace b12 := Lw3.cell b12
     replace b20 := Lw3.cell b20
     replace b21 := Lw3.cell b21
     replace b22 := Lw3.cell b22
     replace f_b20 := Lw3.frz z_b2 f_b20
     replace f_b21 := Lw3.frz z_b2 f_b21
     replace f_b22 := Lw3.frz z_b2 f_b22
     replace e80 := Lw3.cell e80
     have z_b1 : w.heap.size < w3.heap.size := qB b10
     have z_b2 : w.heap.size + 1 < w3.heap.size := qB b20
     have z_e8 : bl6 < w3.heap.size := qB e80
     have s_w3 : w.heap.size ≤ w3.heap.size := Xw3.size
     have BL12_w3 : Ext w2 w3 := BL12.trans Lw3
     clear xw3
     obtain ⟨afv13, cfv13, rfl⟩ := i14.form
     have O15 := i14z.ofNe hine.out
     obtain ⟨gr16, rr17, hvgr16, Ggr16, Ggr16'⟩ := O15.row hine.out
     cases hvgr16
     clear i14 i14z
     skip
     obtain ⟨hq7, hq8, hq9⟩ := quo_in (o := o) h60v9.1 h60v9.2 (by omega)
     obtain ⟨q, hq1⟩ : ∃ q, v9.tdiv o = q := ⟨_, rfl⟩
     rw [hq1] at hq7 hq8 hq9
     have hq2 : v9 / o = q := hq7.symm
     clear hq7
     have hq3 : IntKind.i64.wrap q = q := IntWalk.i64_in _ (by omega)
     have ho0 : ¬ (o = 0) := by omega
     obtain ⟨U, hU⟩ : ∃ U, splitS s1 D o q = U := ⟨_, rfl⟩
     have hUl : U.length = s1.length + 1 := by rw [← hU, split_len _ _ _ _ hDN]
     replace hU := Lib.hid hU
     replace hUl := Lib.hid hUl
     have A22 := O15.cell (D + 1) hDi
     obtain ⟨A22a, A22b⟩ := A22
     go_wp2_with fail
     clear e80 z_e8
     generalize hW4 : (w3.setCell ⟨gr16, D + 1, none⟩ (.int .i64 q)) = w4 at *
     have Kw4 : Chg (gr16) (gr16 + 1) w3 w4 := by subst hW4; exact qCh
     have Xw4 : Ext w w4 := by subst hW4; exact qXt
     have BL12_w4 : Ext w2 w4 := by subst hW4; exact qXt
     replace b10 := BL12_w4.cell Q11_b10.out
     replace b11 := BL12_w4.cell Q11_b11.out
     replace b12 := BL12_w4.cell Q11_b12.out
     replace b20 := BL12_w4.cell Q11_b20.out
     replace f_b20 := BL12_w4.frz Q11_zb2 Q11_f_b20.out
     replace b21 := BL12_w4.cell Q11_b21.out
     replace f_b21 := BL12_w4.frz Q11_zb2 Q11_f_b21.out
     replace b22 := BL12_w4.cell Q11_b22.out
     replace f_b22 := BL12_w4.frz Q11_zb2 Q11_f_b22.out
     have n_O15 := O15.set (D + 1) (q) (by first | omega | (simp; omega) | (rw [putUp_len]; simp; omega) | (rw [addUp_len]; omega))
     rw [hW4] at n_O15
     replace O15 := n_O15
     clear n_O15
     clear Kw4
     have z_b1 : w.heap.size < w4.heap.size := qB b10
     have z_b2 : w.heap.size + 1 < w4.heap.size := qB b20
     have s_w4 : w.heap.size ≤ w4.heap.size := Xw4.size
     clear hW4
     clear A22a A22b
     rw [show Z.set (D + 1) q = U from by rw [hsp.out]; exact hU.out] at O15
     have hUl4 : U.length ≤ 8 := by have := hUl.out; omega
     go_wp2_with fail
     refine (specReshape_c b1 _ _ s1 t1 _ U _ _ _ (h1.ext (Xw4.trans qXt)) (k1.ext (Xw4.trans qXt)) _ ((O15.ints (by omega)).ext qXt)).mono ?_
     rintro e w5 ⟨fv23u, fv23v, rfl, i24u, i24v, xw5⟩
     have Lw5 : Ext w4 w5 := Ext.trans qXt xw5
     have Xw5 : Ext w w5 := Xw4.trans Lw5
     replace b10 := Lw5.cell b10
     replace b11 := Lw5.cell b11
     replace b12 := Lw5.cell b12
     replace b20 := Lw5.cell b20
     replace b21 := Lw5.cell b21
     replace b22 := Lw5.cell b22
     replace f_b20 := Lw5.frz z_b2 f_b20
     replace f_b21 := Lw5.frz z_b2 f_b21
     replace f_b22 := Lw5.frz z_b2 f_b22
     have z_b1 : w.heap.size < w5.heap.size := qB b10
     have z_b2 : w.heap.size + 1 < w5.heap.size := qB b20
     replace O15 := O15.ext Lw5
     have s_w5 : w.heap.size ≤ w5.heap.size := Xw5.size
     have BL12_w5 : Ext w2 w5 := BL12_w4.trans Lw5
     clear xw5
     obtain ⟨afv23u, cfv23u, rfl⟩ := i24u.form
     obtain ⟨afv23v, cfv23v, rfl⟩ := i24v.form
     go_wp2_with fail
     generalize hW5 : (((w5.setCell ⟨w.heap.size + 1, 0, none⟩ (.int .i64 ((rsV b1 s1 t1 U).1))).setCell ⟨w.heap.size + 1, 1, none⟩ (.slice afv23u (((rsV b1 s1 t1 U).2.1).length) cfv23u)).setCell ⟨w.heap.size + 1, 2, none⟩ (.slice afv23v (((rsV b1 s1 t1 U).2.2.1).length) cfv23v)) = w6 at *
     have Kw6 : Chg (w.heap.size + 1) (w.heap.size + 1 + 1) w5 w6 := by subst hW5; exact qCh
     have Xw6 : Ext w w6 := by subst hW5; exact qXt
     replace b10 := Kw6.cell (by omega) b10
     replace b11 := Kw6.cell (by omega) b11
     replace b12 := Kw6.cell (by omega) b12
     replace b20 : w6.cell? ⟨w.heap.size + 1, 0, none⟩ = some (.int .i64 ((rsV b1 s1 t1 U).1)) := by subst hW5; go_simp
     replace f_b20 : w6.frozen? ⟨w.heap.size + 1, 0, none⟩ = false := by subst hW5; first | (simp only [World.frozen?_setCell]; with_reducible assumption) | go_simp
     replace b21 : w6.cell? ⟨w.heap.size + 1, 1, none⟩ = some (.slice afv23u (((rsV b1 s1 t1 U).2.1).length) cfv23u) := by subst hW5; go_simp
     replace f_b21 : w6.frozen? ⟨w.heap.size + 1, 1, none⟩ = false := by subst hW5; first | (simp only [World.frozen?_setCell]; with_reducible assumption) | go_simp
     replace b22 : w6.cell? ⟨w.heap.size + 1, 2, none⟩ = some (.slice afv23v (((rsV b1 s1 t1 U).2.2.1).length) cfv23v) := by subst hW5; go_simp
     replace f_b22 : w6.frozen? ⟨w.heap.size + 1, 2, none⟩ = false := by subst hW5; first | (simp only [World.frozen?_setCell]; with_reducible assumption) | go_simp
     replace O15 := O15.chgN Kw6 (by omega)
     replace i24u := i24u.chg Kw6 (by omega)
     replace i24v := i24v.chg Kw6 (by omega)
     clear Kw6
     have z_b1 : w.heap.size < w6.heap.size := qB b10
     have z_b2 : w.heap.size + 1 < w6.heap.size := qB b20
     have s_w6 : w.heap.size ≤ w6.heap.size := Xw6.size
     clear hW5
     refine bodyPost_ret (v := .tuple #[.agg #[.int .i64 ((rsV b1 s1 t1 U).1), .slice afv23u (((rsV b1 s1 t1 U).2.1).length) cfv23u, .slice afv23v (((rsV b1 s1 t1 U).2.2.1).length) cfv23v], .bool ((rsV b1 s1 t1 U).2.2.2)]) (by simp only [results, Try.results24]; go_simp) rfl ?_
     rw [sp_yes hdim.out (by omega) hv9.out hc10.out hq1 hU.out]
     exact ⟨_, _, rfl, i24u.lower (by omega), i24v.lower (by omega), (Xw6.trans qXt)⟩
    ·
     have hc10e : (((v9).tmod o : Int) == (0 : Int)) = false := by simpa using hc10
     have hc10n : (((v9).tmod o : Int) != (0 : Int)) = true := by simpa using hc10
     have hc10m : ((v9 % o : Int) == (0 : Int)) = false := by rw [← Int.tmod_eq_emod_of_nonneg (by omega)]; exact hc10e
     have hc10o : ((v9 % o : Int) != (0 : Int)) = true := by rw [← Int.tmod_eq_emod_of_nonneg (by omega)]; exact hc10n
     replace hc10 := Lib.hid hc10
     go_wp2_with fail
     generalize hW6 : (((w2.setCell ⟨w.heap.size + 1, 0, none⟩ (.int .i64 0)).setCell ⟨w.heap.size + 1, 1, none⟩ (.slice none 0 0)).setCell ⟨w.heap.size + 1, 2, none⟩ (.slice none 0 0)) = w3 at *
     have Kw3 : Chg (w.heap.size + 1) (w.heap.size + 1 + 1) w2 w3 := by subst hW6; exact qCh
     have Xw3 : Ext w w3 := by subst hW6; exact qXt
     replace b10 := Kw3.cell (by omega) b10
     replace b11 := Kw3.cell (by omega) b11
     replace b12 := Kw3.cell (by omega) b12
     replace b20 : w3.cell? ⟨w.heap.size + 1, 0, none⟩ = some (.int .i64 0) := by subst hW6; go_simp
     replace f_b20 : w3.frozen? ⟨w.heap.size + 1, 0, none⟩ = false := by subst hW6; first | (simp only [World.frozen?_setCell]; with_reducible assumption) | go_simp
     replace b21 : w3.cell? ⟨w.heap.size + 1, 1, none⟩ = some (.slice none 0 0) := by subst hW6; go_simp
     replace f_b21 : w3.frozen? ⟨w.heap.size + 1, 1, none⟩ = false := by subst hW6; first | (simp only [World.frozen?_setCell]; with_reducible assumption) | go_simp
     replace b22 : w3.cell? ⟨w.heap.size + 1, 2, none⟩ = some (.slice none 0 0) := by subst hW6; go_simp
     replace f_b22 : w3.frozen? ⟨w.heap.size + 1, 2, none⟩ = false := by subst hW6; first | (simp only [World.frozen?_setCell]; with_reducible assumption) | go_simp
     replace e80 := Kw3.cell (by omega) e80
     clear Kw3
     have z_b1 : w.heap.size < w3.heap.size := qB b10
     have z_b2 : w.heap.size + 1 < w3.heap.size := qB b20
     have z_e8 : bl6 < w3.heap.size := qB e80
     have s_w3 : w.heap.size ≤ w3.heap.size := Xw3.size
     clear hW6
     refine bodyPost_ret (v := .tuple #[.agg #[.int .i64 0, .slice none 0 0, .slice none 0 0], .bool false]) (by simp only [results, Try.results24]; go_simp) rfl ?_
     rw [show spV b1 s1 t1 (D : Int) o = noV from sp_no2 hv9.out hc10.out]
     exact PVWB.no (Xw3.trans qXt)


end Go.Proofs.Ytfbbnbpobojboaa

/- FnExactSplitDim returns true for all arguments: no condition. -/
namespace Go.Proofs.Ytfbbnbpobojboaa
open Go.RowKit
set_option linter.unusedVariables false
set_option maxRecDepth 100000

set_option maxHeartbeats 6400000 in
theorem lawSplitDim_false (b0 : Int) (a0 d0 : Option Addr) (f0 g0 : Nat) (s0 t0 : List Int) (i1 i2 : Int) (w : World) (h0 : Raw w (.slice a0 s0.length f0) s0) (k0 : Raw w (.slice d0 t0.length g0) t0) (n0 : s0.length ≤ maxLen) (m0 : t0.length ≤ maxLen) (PB : Int) (PS PT : List Int) (hP : Hid (spV b0 s0 t0 i1 i2 = (PB, PS, PT, false))) :
  Calls Try.prog 4 #[.agg #[.int .i64 b0, .slice a0 s0.length f0, .slice d0 t0.length g0], .int .i64 i1, .int .i64 i2] w fun e w' => e = .returned (.bool true) ∧ Ext w w' := by
 by_cases q0 : szV 1048576 s0.length t0.length < 0
 ·
  go_enter Try.func4, Try.ntmps4
  have X : Ext w w := Ext.refl _
  go_wp2_with fail
  refine (szView_c b0 a0 d0 _ f0 _ g0 1048576 _ (by omega) (by omega) n0 m0).mono ?_
  rintro e w1 ⟨rfl, xw1⟩
  have Lw1 : Ext w w1 := Ext.trans qXt xw1
  have cc0 : w1.cell? ⟨w.heap.size, 0, none⟩ = some (.int .i64 b0) := xw1.cell qCl
  have cc1 : w1.cell? ⟨w.heap.size, 1, none⟩ = some (.slice a0 s0.length f0) := xw1.cell qCl
  have cc2 : w1.cell? ⟨w.heap.size, 2, none⟩ = some (.slice d0 t0.length g0) := xw1.cell qCl
  replace X := X.trans Lw1
  have z1 : w.heap.size < w1.heap.size := qB cc0
  have sw1 : w.heap.size ≤ w1.heap.size := Lw1.size
  clear Lw1
  clear xw1
  go_wp2_with fail
  go_ret
  exact ⟨rfl, X.trans qXt⟩
 have y0 := szV_ge (by omega) q0
 go_enter Try.func4, Try.ntmps4
 have X : Ext w w := Ext.refl _
 go_wp2_with fail
 refine (szView_c b0 a0 d0 _ f0 _ g0 1048576 _ (by omega) (by omega) n0 m0).mono ?_
 rintro e w1 ⟨rfl, xw1⟩
 have Lw1 : Ext w w1 := Ext.trans qXt xw1
 have cc0 : w1.cell? ⟨w.heap.size, 0, none⟩ = some (.int .i64 b0) := xw1.cell qCl
 have cc1 : w1.cell? ⟨w.heap.size, 1, none⟩ = some (.slice a0 s0.length f0) := xw1.cell qCl
 have cc2 : w1.cell? ⟨w.heap.size, 2, none⟩ = some (.slice d0 t0.length g0) := xw1.cell qCl
 replace X := X.trans Lw1
 have z1 : w.heap.size < w1.heap.size := qB cc0
 have sw1 : w.heap.size ≤ w1.heap.size := Lw1.size
 clear Lw1
 clear xw1
 go_wp2_with fail
 refine (toView_c b0 _ _ s0 t0 _ (h0.ext (X.trans qXt)) (k0.ext (X.trans qXt)) (by omega) (by omega)).mono ?_
 rintro e w2 ⟨uW, vW, rfl, iuW, ivW, ouW, ovW, hdW, xw2⟩
 have Lw2 : Ext w1 w2 := Ext.trans qXt xw2
 replace cc0 := Lw2.cell cc0
 replace cc1 := Lw2.cell cc1
 replace cc2 := Lw2.cell cc2
 replace X := X.trans Lw2
 have z2 : w.heap.size < w2.heap.size := qB cc0
 have sw2 : w1.heap.size ≤ w2.heap.size := Lw2.size
 clear Lw2
 clear xw2
 go_wp2_with fail
 refine (pvx_eq hP.out (specSplitDim_c b0 _ _ s0 t0 i1 i2 _ _ _ (iuW.ext qXt) (ivW.ext qXt))).mono ?_
 rintro e w3 ⟨W1, W2, rfl, iW, jW, xw3⟩
 have Lw3 : Ext w2 w3 := Ext.trans qXt xw3
 replace cc0 := Lw3.cell cc0
 replace cc1 := Lw3.cell cc1
 replace cc2 := Lw3.cell cc2
 replace X := X.trans Lw3
 have z3 : w.heap.size < w3.heap.size := qB cc0
 have sw3 : w2.heap.size ≤ w3.heap.size := Lw3.size
 clear Lw3
 clear xw3
 have EW : Ext w3 w3 := Ext.refl _
 clear iuW ivW ouW ovW hdW
 obtain ⟨Wa, Wc, rfl⟩ := iW.form
 obtain ⟨Wd, Wf, rfl⟩ := jW.form
 go_wp2_with fail
 refine (toView_c b0 _ _ s0 t0 _ (h0.ext (X.trans qXt)) (k0.ext (X.trans qXt)) (by omega) (by omega)).mono ?_
 rintro e w4 ⟨uX, vX, rfl, iuX, ivX, ouX, ovX, hdX, xw4⟩
 have Lw4 : Ext w3 w4 := Ext.trans qXt xw4
 replace cc0 := Lw4.cell cc0
 replace cc1 := Lw4.cell cc1
 replace cc2 := Lw4.cell cc2
 have r0 : w4.cell? ⟨w3.heap.size, 0, none⟩ = some (.int .i64 PB) := xw4.cell qCl
 have r1 : w4.cell? ⟨w3.heap.size, 1, none⟩ = some (.slice Wa PS.length Wc) := xw4.cell qCl
 have r2 : w4.cell? ⟨w3.heap.size, 2, none⟩ = some (.slice Wd PT.length Wf) := xw4.cell qCl
 replace X := X.trans Lw4
 replace EW := EW.trans Lw4
 have z4 : w.heap.size < w4.heap.size := qB cc0
 have z5 : w3.heap.size < w4.heap.size := qB r0
 have sw4 : w3.heap.size ≤ w4.heap.size := Lw4.size
 clear Lw4
 clear xw4
 replace ouX := ouX.lower (base' := w3.heap.size + 1) qSo
 replace ovX := ovX.lower (base' := w3.heap.size + 1) qSo
 have buX := ouX.bound
 have bvX := ovX.bound
 obtain ⟨Xa, Xc, rfl⟩ := iuX.form
 obtain ⟨Xd, Xf, rfl⟩ := ivX.form
 clear iuX ivX
 go_wp2_with fail
 refine (pv_eq hP.out (implSplitDim_b b0 _ _ s0 t0 i1 i2 _ _ _ ((ouX.ints (by omega)).ext qXt) ((ovX.ints (by omega)).ext qXt))).mono ?_
 rintro e w5 ⟨G1, G2, rfl, iG, jG, oG, pG, dG, xw5⟩
 have Lw5 : Ext w4 w5 := Ext.trans qXt xw5
 replace cc0 := Lw5.cell cc0
 replace cc1 := Lw5.cell cc1
 replace cc2 := Lw5.cell cc2
 replace r0 := Lw5.cell r0
 replace r1 := Lw5.cell r1
 replace r2 := Lw5.cell r2
 have x0 : w5.cell? ⟨w4.heap.size, 0, none⟩ = some (.int .i64 b0) := xw5.cell qCl
 have x1 : w5.cell? ⟨w4.heap.size, 1, none⟩ = some (.slice Xa s0.length Xc) := xw5.cell qCl
 have x2 : w5.cell? ⟨w4.heap.size, 2, none⟩ = some (.slice Xd t0.length Xf) := xw5.cell qCl
 replace ouX := ouX.ext Lw5
 replace ovX := ovX.ext Lw5
 replace X := X.trans Lw5
 replace EW := EW.trans Lw5
 have z6 : w.heap.size < w5.heap.size := qB cc0
 have z7 : w3.heap.size < w5.heap.size := qB r0
 have z8 : w4.heap.size < w5.heap.size := qB x0
 have sw5 : w4.heap.size ≤ w5.heap.size := Lw5.size
 clear Lw5
 clear xw5
 have lG := iG.len
 have mG := jG.len
 obtain ⟨Ga, Gc, rfl⟩ := iG.form
 obtain ⟨Gd, Gf, rfl⟩ := jG.form
 clear iG jG
 replace oG := oG.lower (base' := w4.heap.size + 1) qSo
 replace pG := pG.lower (base' := w4.heap.size + 1) qSo
 have bG := oG.bound
 have cG := pG.bound
 go_wp2_with fail
 refine (eqView_c PB _ _ _ _ PS PT _ _ _ _ _ ((oG.ints lG).ext qXt) ((pG.ints mG).ext qXt) (iW.ext (EW.trans qXt)) (jW.ext (EW.trans qXt))).mono ?_
 rintro e w6 ⟨rfl, xw6⟩
 have Lw6 : Ext w5 w6 := Ext.trans qXt xw6
 replace cc0 := Lw6.cell cc0
 replace cc1 := Lw6.cell cc1
 replace cc2 := Lw6.cell cc2
 replace r0 := Lw6.cell r0
 replace r1 := Lw6.cell r1
 replace r2 := Lw6.cell r2
 replace x0 := Lw6.cell x0
 replace x1 := Lw6.cell x1
 replace x2 := Lw6.cell x2
 have gg0 : w6.cell? ⟨w5.heap.size, 0, none⟩ = some (.int .i64 PB) := xw6.cell qCl
 have gg1 : w6.cell? ⟨w5.heap.size, 1, none⟩ = some (.slice Ga PS.length Gc) := xw6.cell qCl
 have gg2 : w6.cell? ⟨w5.heap.size, 2, none⟩ = some (.slice Gd PT.length Gf) := xw6.cell qCl
 replace ouX := ouX.ext Lw6
 replace ovX := ovX.ext Lw6
 replace oG := oG.ext Lw6
 replace pG := pG.ext Lw6
 replace X := X.trans Lw6
 replace EW := EW.trans Lw6
 have z9 : w.heap.size < w6.heap.size := qB cc0
 have z10 : w3.heap.size < w6.heap.size := qB r0
 have z11 : w4.heap.size < w6.heap.size := qB x0
 have z12 : w5.heap.size < w6.heap.size := qB gg0
 have sw6 : w5.heap.size ≤ w6.heap.size := Lw6.size
 clear Lw6
 clear xw6
 go_wp2_with fail
 go_region_held3 (fun w' => w'.cell? ⟨w.heap.size, 0, none⟩ = some (.int .i64 b0) ∧ w'.cell? ⟨w.heap.size, 1, none⟩ = some (.slice a0 s0.length f0) ∧ w'.cell? ⟨w.heap.size, 2, none⟩ = some (.slice d0 t0.length g0) ∧ w'.cell? ⟨w3.heap.size, 0, none⟩ = some (.int .i64 PB) ∧ w'.cell? ⟨w3.heap.size, 1, none⟩ = some (.slice Wa PS.length Wc) ∧ w'.cell? ⟨w3.heap.size, 2, none⟩ = some (.slice Wd PT.length Wf) ∧ w'.cell? ⟨w4.heap.size, 0, none⟩ = some (.int .i64 b0) ∧ w'.cell? ⟨w4.heap.size, 1, none⟩ = some (.slice Xa s0.length Xc) ∧ w'.cell? ⟨w4.heap.size, 2, none⟩ = some (.slice Xd t0.length Xf) ∧ w'.cell? ⟨w5.heap.size, 0, none⟩ = some (.int .i64 PB) ∧ w'.cell? ⟨w5.heap.size, 1, none⟩ = some (.slice Ga PS.length Gc) ∧ w'.cell? ⟨w5.heap.size, 2, none⟩ = some (.slice Gd PT.length Gf))
  (first
   | go_keep
   | exact ⟨Yw8.cell cc0, Yw8.cell cc1, Yw8.cell cc2, Yw8.cell r0, Yw8.cell r1, Yw8.cell r2, Yw8.cell x0, Yw8.cell x1, Yw8.cell x2, Yw8.cell gg0, Yw8.cell gg1, Yw8.cell gg2⟩
   | exact ⟨Yw7.cell cc0, Yw7.cell cc1, Yw7.cell cc2, Yw7.cell r0, Yw7.cell r1, Yw7.cell r2, Yw7.cell x0, Yw7.cell x1, Yw7.cell x2, Yw7.cell gg0, Yw7.cell gg1, Yw7.cell gg2⟩)
  (first
   | (go_at_call 20; refine (eqView_c b0 _ _ _ _ s0 t0 _ _ _ _ _ ((ouX.ints (by omega)).ext (Yw7.trans qXo)) ((ovX.ints (by omega)).ext (Yw7.trans qXo)) (iu.ext qXo) (iv.ext qXo)).mono ?_; rintro e w8 ⟨rfl, xw8⟩; have Yw8 : Ext w6 w8 := Yw7.trans (Ext.trans qXo xw8); replace iu := iu.ext (Ext.trans qXo xw8); replace iv := iv.ext (Ext.trans qXo xw8))
   | (go_at_call 17; refine (toView_c b0 _ _ s0 t0 _ (h0.ext (X.trans qXo)) (k0.ext (X.trans qXo)) (by omega) (by omega)).mono ?_; rintro e w7 ⟨u, v, rfl, iu, iv, _, _, _, xw7⟩; have Yw7 : Ext w6 w7 := Ext.trans qXo xw7))
 have Lw8 : Ext w6 w8 := Yw8
 replace cc0 := Lw8.cell cc0
 replace cc1 := Lw8.cell cc1
 replace cc2 := Lw8.cell cc2
 replace r0 := Lw8.cell r0
 replace r1 := Lw8.cell r1
 replace r2 := Lw8.cell r2
 replace x0 := Lw8.cell x0
 replace x1 := Lw8.cell x1
 replace x2 := Lw8.cell x2
 replace gg0 := Lw8.cell gg0
 replace gg1 := Lw8.cell gg1
 replace gg2 := Lw8.cell gg2
 replace ouX := ouX.ext Lw8
 replace ovX := ovX.ext Lw8
 replace oG := oG.ext Lw8
 replace pG := pG.ext Lw8
 replace X := X.trans Lw8
 replace EW := EW.trans Lw8
 have z13 : w.heap.size < w8.heap.size := qB cc0
 have z14 : w3.heap.size < w8.heap.size := qB r0
 have z15 : w4.heap.size < w8.heap.size := qB x0
 have z16 : w5.heap.size < w8.heap.size := qB gg0
 have sw8 : w6.heap.size ≤ w8.heap.size := Lw8.size
 clear iu iv
 go_wp2_with fail
 refine (markView_c b0 _ _ s0 t0 1 _ (w3.heap.size + 1) (w4.heap.size) (ouX.ext qXt) (ovX.ext qXt) hdX buX bvX (Nat.le_trans (by omega) (Ext.size (show Ext w8 _ from qXt))) (by omega) (by omega) (by omega) (by omega)).mono ?_
 rintro e w9 ⟨rfl, -, -, kw9⟩
 have Kw9 : Chg (w3.heap.size + 1) (w4.heap.size) w8 w9 := (Chg.of_ext qXt).trans kw9
 have sw9 : w8.heap.size ≤ w9.heap.size := Kw9.size
 replace X := Ext.chg X Kw9 (by omega)
 replace EW := Ext.chg EW Kw9 (by omega)
 replace cc0 := Kw9.cell (by first | (left; omega) | (right; omega)) cc0
 replace cc1 := Kw9.cell (by first | (left; omega) | (right; omega)) cc1
 replace cc2 := Kw9.cell (by first | (left; omega) | (right; omega)) cc2
 replace r0 := Kw9.cell (by first | (left; omega) | (right; omega)) r0
 replace r1 := Kw9.cell (by first | (left; omega) | (right; omega)) r1
 replace r2 := Kw9.cell (by first | (left; omega) | (right; omega)) r2
 replace x0 := Kw9.cell (by first | (left; omega) | (right; omega)) x0
 replace x1 := Kw9.cell (by first | (left; omega) | (right; omega)) x1
 replace x2 := Kw9.cell (by first | (left; omega) | (right; omega)) x2
 replace gg0 := Kw9.cell (by first | (left; omega) | (right; omega)) gg0
 replace gg1 := Kw9.cell (by first | (left; omega) | (right; omega)) gg1
 replace gg2 := Kw9.cell (by first | (left; omega) | (right; omega)) gg2
 replace oG := oG.chg Kw9 (by omega)
 replace pG := pG.chg Kw9 (by omega)
 have z17 : w.heap.size < w9.heap.size := qB cc0
 have z18 : w3.heap.size < w9.heap.size := qB r0
 have z19 : w4.heap.size < w9.heap.size := qB x0
 have z20 : w5.heap.size < w9.heap.size := qB gg0
 clear Kw9 kw9
 clear ouX ovX
 go_wp2_with fail
 refine (eqView_c PB _ _ _ _ PS PT _ _ _ _ _ ((oG.ints lG).ext qXt) ((pG.ints mG).ext qXt) (iW.ext (EW.trans qXt)) (jW.ext (EW.trans qXt))).mono ?_
 rintro e w10 ⟨rfl, xw10⟩
 have Lw10 : Ext w9 w10 := Ext.trans qXt xw10
 replace cc0 := Lw10.cell cc0
 replace cc1 := Lw10.cell cc1
 replace cc2 := Lw10.cell cc2
 replace r0 := Lw10.cell r0
 replace r1 := Lw10.cell r1
 replace r2 := Lw10.cell r2
 replace x0 := Lw10.cell x0
 replace x1 := Lw10.cell x1
 replace x2 := Lw10.cell x2
 replace gg0 := Lw10.cell gg0
 replace gg1 := Lw10.cell gg1
 replace gg2 := Lw10.cell gg2
 replace oG := oG.ext Lw10
 replace pG := pG.ext Lw10
 replace X := X.trans Lw10
 replace EW := EW.trans Lw10
 have z21 : w.heap.size < w10.heap.size := qB cc0
 have z22 : w3.heap.size < w10.heap.size := qB r0
 have z23 : w4.heap.size < w10.heap.size := qB x0
 have z24 : w5.heap.size < w10.heap.size := qB gg0
 have sw10 : w9.heap.size ≤ w10.heap.size := Lw10.size
 clear Lw10
 clear xw10
 go_wp2_with fail
 refine (markView_c PB _ _ PS PT 1 _ (w4.heap.size + 1) (w5.heap.size) (oG.ext qXt) (pG.ext qXt) dG bG cG (Nat.le_trans (by omega) (Ext.size (show Ext w10 _ from qXt))) lG mG (by omega) (by omega)).mono ?_
 rintro e w11 ⟨rfl, oH, pH, kw11⟩
 have Kw11 : Chg (w4.heap.size + 1) (w5.heap.size) w10 w11 := (Chg.of_ext qXt).trans kw11
 have sw11 : w10.heap.size ≤ w11.heap.size := Kw11.size
 replace X := Ext.chg X Kw11 (by omega)
 replace EW := Ext.chg EW Kw11 (by omega)
 replace cc0 := Kw11.cell (by first | (left; omega) | (right; omega)) cc0
 replace cc1 := Kw11.cell (by first | (left; omega) | (right; omega)) cc1
 replace cc2 := Kw11.cell (by first | (left; omega) | (right; omega)) cc2
 replace r0 := Kw11.cell (by first | (left; omega) | (right; omega)) r0
 replace r1 := Kw11.cell (by first | (left; omega) | (right; omega)) r1
 replace r2 := Kw11.cell (by first | (left; omega) | (right; omega)) r2
 replace x0 := Kw11.cell (by first | (left; omega) | (right; omega)) x0
 replace x1 := Kw11.cell (by first | (left; omega) | (right; omega)) x1
 replace x2 := Kw11.cell (by first | (left; omega) | (right; omega)) x2
 replace gg0 := Kw11.cell (by first | (left; omega) | (right; omega)) gg0
 replace gg1 := Kw11.cell (by first | (left; omega) | (right; omega)) gg1
 replace gg2 := Kw11.cell (by first | (left; omega) | (right; omega)) gg2
 have z25 : w.heap.size < w11.heap.size := qB cc0
 have z26 : w3.heap.size < w11.heap.size := qB r0
 have z27 : w4.heap.size < w11.heap.size := qB x0
 have z28 : w5.heap.size < w11.heap.size := qB gg0
 clear Kw11 kw11
 clear oG pG
 have lH : (ksL 1 PS.length).length ≤ 4194304 := by rw [ksL_len]; exact lG
 have mH : (ksL (1 + PS.length) PT.length).length ≤ 4194304 := by rw [ksL_len]; exact mG
 go_wp2_with fail
 refine (heldView_c PB _ _ PS.length PT.length 1 _ _ _ ((oH.ints lH).ext qXt) ((pH.ints mH).ext qXt) lG mG (by omega) (by omega)).mono ?_
 rintro e w12 ⟨rfl, xw12⟩
 have Lw12 : Ext w11 w12 := Ext.trans qXt xw12
 replace cc0 := Lw12.cell cc0
 replace cc1 := Lw12.cell cc1
 replace cc2 := Lw12.cell cc2
 replace r0 := Lw12.cell r0
 replace r1 := Lw12.cell r1
 replace r2 := Lw12.cell r2
 replace x0 := Lw12.cell x0
 replace x1 := Lw12.cell x1
 replace x2 := Lw12.cell x2
 replace gg0 := Lw12.cell gg0
 replace gg1 := Lw12.cell gg1
 replace gg2 := Lw12.cell gg2
 replace oH := oH.ext Lw12
 replace pH := pH.ext Lw12
 replace X := X.trans Lw12
 replace EW := EW.trans Lw12
 have z29 : w.heap.size < w12.heap.size := qB cc0
 have z30 : w3.heap.size < w12.heap.size := qB r0
 have z31 : w4.heap.size < w12.heap.size := qB x0
 have z32 : w5.heap.size < w12.heap.size := qB gg0
 have sw12 : w11.heap.size ≤ w12.heap.size := Lw12.size
 clear Lw12
 clear xw12
 go_wp2_with fail
 refine (toView_c b0 _ _ s0 t0 _ (h0.ext (X.trans qXt)) (k0.ext (X.trans qXt)) (by omega) (by omega)).mono ?_
 rintro e w13 ⟨uZ, vZ, rfl, iuZ, ivZ, ouZ, ovZ, hdZ, xw13⟩
 have Lw13 : Ext w12 w13 := Ext.trans qXt xw13
 replace cc0 := Lw13.cell cc0
 replace cc1 := Lw13.cell cc1
 replace cc2 := Lw13.cell cc2
 replace r0 := Lw13.cell r0
 replace r1 := Lw13.cell r1
 replace r2 := Lw13.cell r2
 replace x0 := Lw13.cell x0
 replace x1 := Lw13.cell x1
 replace x2 := Lw13.cell x2
 replace gg0 := Lw13.cell gg0
 replace gg1 := Lw13.cell gg1
 replace gg2 := Lw13.cell gg2
 replace oH := oH.ext Lw13
 replace pH := pH.ext Lw13
 replace X := X.trans Lw13
 replace EW := EW.trans Lw13
 have z33 : w.heap.size < w13.heap.size := qB cc0
 have z34 : w3.heap.size < w13.heap.size := qB r0
 have z35 : w4.heap.size < w13.heap.size := qB x0
 have z36 : w5.heap.size < w13.heap.size := qB gg0
 have sw13 : w12.heap.size ≤ w13.heap.size := Lw13.size
 clear Lw13
 clear xw13
 go_wp2_with fail
 refine (pv_eq hP.out (implSplitDim_b b0 _ _ s0 t0 i1 i2 _ _ _ (iuZ.ext qXt) (ivZ.ext qXt))).mono ?_
 rintro e w14 ⟨H1, H2, rfl, iH, jH, -, -, -, xw14⟩
 have Lw14 : Ext w13 w14 := Ext.trans qXt xw14
 replace cc0 := Lw14.cell cc0
 replace cc1 := Lw14.cell cc1
 replace cc2 := Lw14.cell cc2
 replace r0 := Lw14.cell r0
 replace r1 := Lw14.cell r1
 replace r2 := Lw14.cell r2
 replace x0 := Lw14.cell x0
 replace x1 := Lw14.cell x1
 replace x2 := Lw14.cell x2
 replace gg0 := Lw14.cell gg0
 replace gg1 := Lw14.cell gg1
 replace gg2 := Lw14.cell gg2
 replace oH := oH.ext Lw14
 replace pH := pH.ext Lw14
 replace X := X.trans Lw14
 replace EW := EW.trans Lw14
 have z37 : w.heap.size < w14.heap.size := qB cc0
 have z38 : w3.heap.size < w14.heap.size := qB r0
 have z39 : w4.heap.size < w14.heap.size := qB x0
 have z40 : w5.heap.size < w14.heap.size := qB gg0
 have sw14 : w13.heap.size ≤ w14.heap.size := Lw14.size
 clear Lw14
 clear xw14
 clear iuZ ivZ ouZ ovZ hdZ
 obtain ⟨Ha, Hc, rfl⟩ := iH.form
 obtain ⟨Hd, Hf, rfl⟩ := jH.form
 go_wp2_with fail
 refine (eqView_c PB _ _ _ _ PS PT _ _ _ _ _ (iH.ext qXt) (jH.ext qXt) (iW.ext (EW.trans qXt)) (jW.ext (EW.trans qXt))).mono ?_
 rintro e w15 ⟨rfl, xw15⟩
 have Lw15 : Ext w14 w15 := Ext.trans qXt xw15
 replace cc0 := Lw15.cell cc0
 replace cc1 := Lw15.cell cc1
 replace cc2 := Lw15.cell cc2
 replace r0 := Lw15.cell r0
 replace r1 := Lw15.cell r1
 replace r2 := Lw15.cell r2
 replace x0 := Lw15.cell x0
 replace x1 := Lw15.cell x1
 replace x2 := Lw15.cell x2
 replace gg0 := Lw15.cell gg0
 replace gg1 := Lw15.cell gg1
 replace gg2 := Lw15.cell gg2
 have y0 : w15.cell? ⟨w14.heap.size, 0, none⟩ = some (.int .i64 PB) := xw15.cell qCl
 have y1 : w15.cell? ⟨w14.heap.size, 1, none⟩ = some (.slice Ha PS.length Hc) := xw15.cell qCl
 have y2 : w15.cell? ⟨w14.heap.size, 2, none⟩ = some (.slice Hd PT.length Hf) := xw15.cell qCl
 replace oH := oH.ext Lw15
 replace pH := pH.ext Lw15
 replace iH := iH.ext Lw15
 replace jH := jH.ext Lw15
 replace X := X.trans Lw15
 replace EW := EW.trans Lw15
 have z41 : w.heap.size < w15.heap.size := qB cc0
 have z42 : w3.heap.size < w15.heap.size := qB r0
 have z43 : w4.heap.size < w15.heap.size := qB x0
 have z44 : w5.heap.size < w15.heap.size := qB gg0
 have z45 : w14.heap.size < w15.heap.size := qB y0
 have sw15 : w14.heap.size ≤ w15.heap.size := Lw15.size
 clear Lw15
 clear xw15
 go_wp2_with fail
 refine (heldView_c PB _ _ PS.length PT.length 1 _ _ _ ((oH.ints lH).ext qXt) ((pH.ints mH).ext qXt) lG mG (by omega) (by omega)).mono ?_
 rintro e w16 ⟨rfl, xw16⟩
 have Lw16 : Ext w15 w16 := Ext.trans qXt xw16
 replace cc0 := Lw16.cell cc0
 replace cc1 := Lw16.cell cc1
 replace cc2 := Lw16.cell cc2
 replace r0 := Lw16.cell r0
 replace r1 := Lw16.cell r1
 replace r2 := Lw16.cell r2
 replace x0 := Lw16.cell x0
 replace x1 := Lw16.cell x1
 replace x2 := Lw16.cell x2
 replace gg0 := Lw16.cell gg0
 replace gg1 := Lw16.cell gg1
 replace gg2 := Lw16.cell gg2
 replace y0 := Lw16.cell y0
 replace y1 := Lw16.cell y1
 replace y2 := Lw16.cell y2
 replace oH := oH.ext Lw16
 replace pH := pH.ext Lw16
 replace iH := iH.ext Lw16
 replace jH := jH.ext Lw16
 replace X := X.trans Lw16
 replace EW := EW.trans Lw16
 have z46 : w.heap.size < w16.heap.size := qB cc0
 have z47 : w3.heap.size < w16.heap.size := qB r0
 have z48 : w4.heap.size < w16.heap.size := qB x0
 have z49 : w5.heap.size < w16.heap.size := qB gg0
 have z50 : w14.heap.size < w16.heap.size := qB y0
 have sw16 : w15.heap.size ≤ w16.heap.size := Lw16.size
 clear Lw16
 clear xw16
 go_wp2_with fail
 go_ret
 exact ⟨rfl, X.trans qXt⟩

set_option maxHeartbeats 6400000 in
theorem lawSplitDim_true (b0 : Int) (a0 d0 : Option Addr) (f0 g0 : Nat) (s0 t0 : List Int) (i1 i2 : Int) (w : World) (h0 : Raw w (.slice a0 s0.length f0) s0) (k0 : Raw w (.slice d0 t0.length g0) t0) (n0 : s0.length ≤ maxLen) (m0 : t0.length ≤ maxLen) (PB : Int) (PS PT : List Int) (hP : Hid (spV b0 s0 t0 i1 i2 = (PB, PS, PT, true))) :
  Calls Try.prog 4 #[.agg #[.int .i64 b0, .slice a0 s0.length f0, .slice d0 t0.length g0], .int .i64 i1, .int .i64 i2] w fun e w' => e = .returned (.bool true) ∧ Ext w w' := by
 by_cases q0 : szV 1048576 s0.length t0.length < 0
 ·
  go_enter Try.func4, Try.ntmps4
  have X : Ext w w := Ext.refl _
  go_wp2_with fail
  refine (szView_c b0 a0 d0 _ f0 _ g0 1048576 _ (by omega) (by omega) n0 m0).mono ?_
  rintro e w1 ⟨rfl, xw1⟩
  have Lw1 : Ext w w1 := Ext.trans qXt xw1
  have cc0 : w1.cell? ⟨w.heap.size, 0, none⟩ = some (.int .i64 b0) := xw1.cell qCl
  have cc1 : w1.cell? ⟨w.heap.size, 1, none⟩ = some (.slice a0 s0.length f0) := xw1.cell qCl
  have cc2 : w1.cell? ⟨w.heap.size, 2, none⟩ = some (.slice d0 t0.length g0) := xw1.cell qCl
  replace X := X.trans Lw1
  have z1 : w.heap.size < w1.heap.size := qB cc0
  have sw1 : w.heap.size ≤ w1.heap.size := Lw1.size
  clear Lw1
  clear xw1
  go_wp2_with fail
  go_ret
  exact ⟨rfl, X.trans qXt⟩
 have y0 := szV_ge (by omega) q0
 go_enter Try.func4, Try.ntmps4
 have X : Ext w w := Ext.refl _
 go_wp2_with fail
 refine (szView_c b0 a0 d0 _ f0 _ g0 1048576 _ (by omega) (by omega) n0 m0).mono ?_
 rintro e w1 ⟨rfl, xw1⟩
 have Lw1 : Ext w w1 := Ext.trans qXt xw1
 have cc0 : w1.cell? ⟨w.heap.size, 0, none⟩ = some (.int .i64 b0) := xw1.cell qCl
 have cc1 : w1.cell? ⟨w.heap.size, 1, none⟩ = some (.slice a0 s0.length f0) := xw1.cell qCl
 have cc2 : w1.cell? ⟨w.heap.size, 2, none⟩ = some (.slice d0 t0.length g0) := xw1.cell qCl
 replace X := X.trans Lw1
 have z1 : w.heap.size < w1.heap.size := qB cc0
 have sw1 : w.heap.size ≤ w1.heap.size := Lw1.size
 clear Lw1
 clear xw1
 go_wp2_with fail
 refine (toView_c b0 _ _ s0 t0 _ (h0.ext (X.trans qXt)) (k0.ext (X.trans qXt)) (by omega) (by omega)).mono ?_
 rintro e w2 ⟨uW, vW, rfl, iuW, ivW, ouW, ovW, hdW, xw2⟩
 have Lw2 : Ext w1 w2 := Ext.trans qXt xw2
 replace cc0 := Lw2.cell cc0
 replace cc1 := Lw2.cell cc1
 replace cc2 := Lw2.cell cc2
 replace X := X.trans Lw2
 have z2 : w.heap.size < w2.heap.size := qB cc0
 have sw2 : w1.heap.size ≤ w2.heap.size := Lw2.size
 clear Lw2
 clear xw2
 go_wp2_with fail
 refine (pvx_eq hP.out (specSplitDim_c b0 _ _ s0 t0 i1 i2 _ _ _ (iuW.ext qXt) (ivW.ext qXt))).mono ?_
 rintro e w3 ⟨W1, W2, rfl, iW, jW, xw3⟩
 have Lw3 : Ext w2 w3 := Ext.trans qXt xw3
 replace cc0 := Lw3.cell cc0
 replace cc1 := Lw3.cell cc1
 replace cc2 := Lw3.cell cc2
 replace X := X.trans Lw3
 have z3 : w.heap.size < w3.heap.size := qB cc0
 have sw3 : w2.heap.size ≤ w3.heap.size := Lw3.size
 clear Lw3
 clear xw3
 have EW : Ext w3 w3 := Ext.refl _
 clear iuW ivW ouW ovW hdW
 obtain ⟨Wa, Wc, rfl⟩ := iW.form
 obtain ⟨Wd, Wf, rfl⟩ := jW.form
 go_wp2_with fail
 refine (toView_c b0 _ _ s0 t0 _ (h0.ext (X.trans qXt)) (k0.ext (X.trans qXt)) (by omega) (by omega)).mono ?_
 rintro e w4 ⟨uX, vX, rfl, iuX, ivX, ouX, ovX, hdX, xw4⟩
 have Lw4 : Ext w3 w4 := Ext.trans qXt xw4
 replace cc0 := Lw4.cell cc0
 replace cc1 := Lw4.cell cc1
 replace cc2 := Lw4.cell cc2
 have r0 : w4.cell? ⟨w3.heap.size, 0, none⟩ = some (.int .i64 PB) := xw4.cell qCl
 have r1 : w4.cell? ⟨w3.heap.size, 1, none⟩ = some (.slice Wa PS.length Wc) := xw4.cell qCl
 have r2 : w4.cell? ⟨w3.heap.size, 2, none⟩ = some (.slice Wd PT.length Wf) := xw4.cell qCl
 replace X := X.trans Lw4
 replace EW := EW.trans Lw4
 have z4 : w.heap.size < w4.heap.size := qB cc0
 have z5 : w3.heap.size < w4.heap.size := qB r0
 have sw4 : w3.heap.size ≤ w4.heap.size := Lw4.size
 clear Lw4
 clear xw4
 replace ouX := ouX.lower (base' := w3.heap.size + 1) qSo
 replace ovX := ovX.lower (base' := w3.heap.size + 1) qSo
 have buX := ouX.bound
 have bvX := ovX.bound
 obtain ⟨Xa, Xc, rfl⟩ := iuX.form
 obtain ⟨Xd, Xf, rfl⟩ := ivX.form
 clear iuX ivX
 go_wp2_with fail
 refine (pv_eq hP.out (implSplitDim_b b0 _ _ s0 t0 i1 i2 _ _ _ ((ouX.ints (by omega)).ext qXt) ((ovX.ints (by omega)).ext qXt))).mono ?_
 rintro e w5 ⟨G1, G2, rfl, iG, jG, oG, pG, dG, xw5⟩
 have Lw5 : Ext w4 w5 := Ext.trans qXt xw5
 replace cc0 := Lw5.cell cc0
 replace cc1 := Lw5.cell cc1
 replace cc2 := Lw5.cell cc2
 replace r0 := Lw5.cell r0
 replace r1 := Lw5.cell r1
 replace r2 := Lw5.cell r2
 have x0 : w5.cell? ⟨w4.heap.size, 0, none⟩ = some (.int .i64 b0) := xw5.cell qCl
 have x1 : w5.cell? ⟨w4.heap.size, 1, none⟩ = some (.slice Xa s0.length Xc) := xw5.cell qCl
 have x2 : w5.cell? ⟨w4.heap.size, 2, none⟩ = some (.slice Xd t0.length Xf) := xw5.cell qCl
 replace ouX := ouX.ext Lw5
 replace ovX := ovX.ext Lw5
 replace X := X.trans Lw5
 replace EW := EW.trans Lw5
 have z6 : w.heap.size < w5.heap.size := qB cc0
 have z7 : w3.heap.size < w5.heap.size := qB r0
 have z8 : w4.heap.size < w5.heap.size := qB x0
 have sw5 : w4.heap.size ≤ w5.heap.size := Lw5.size
 clear Lw5
 clear xw5
 have lG := iG.len
 have mG := jG.len
 obtain ⟨Ga, Gc, rfl⟩ := iG.form
 obtain ⟨Gd, Gf, rfl⟩ := jG.form
 clear iG jG
 replace oG := oG.lower (base' := w4.heap.size + 1) qSo
 replace pG := pG.lower (base' := w4.heap.size + 1) qSo
 have bG := oG.bound
 have cG := pG.bound
 go_wp2_with fail
 refine (eqView_c PB _ _ _ _ PS PT _ _ _ _ _ ((oG.ints lG).ext qXt) ((pG.ints mG).ext qXt) (iW.ext (EW.trans qXt)) (jW.ext (EW.trans qXt))).mono ?_
 rintro e w6 ⟨rfl, xw6⟩
 have Lw6 : Ext w5 w6 := Ext.trans qXt xw6
 replace cc0 := Lw6.cell cc0
 replace cc1 := Lw6.cell cc1
 replace cc2 := Lw6.cell cc2
 replace r0 := Lw6.cell r0
 replace r1 := Lw6.cell r1
 replace r2 := Lw6.cell r2
 replace x0 := Lw6.cell x0
 replace x1 := Lw6.cell x1
 replace x2 := Lw6.cell x2
 have gg0 : w6.cell? ⟨w5.heap.size, 0, none⟩ = some (.int .i64 PB) := xw6.cell qCl
 have gg1 : w6.cell? ⟨w5.heap.size, 1, none⟩ = some (.slice Ga PS.length Gc) := xw6.cell qCl
 have gg2 : w6.cell? ⟨w5.heap.size, 2, none⟩ = some (.slice Gd PT.length Gf) := xw6.cell qCl
 replace ouX := ouX.ext Lw6
 replace ovX := ovX.ext Lw6
 replace oG := oG.ext Lw6
 replace pG := pG.ext Lw6
 replace X := X.trans Lw6
 replace EW := EW.trans Lw6
 have z9 : w.heap.size < w6.heap.size := qB cc0
 have z10 : w3.heap.size < w6.heap.size := qB r0
 have z11 : w4.heap.size < w6.heap.size := qB x0
 have z12 : w5.heap.size < w6.heap.size := qB gg0
 have sw6 : w5.heap.size ≤ w6.heap.size := Lw6.size
 clear Lw6
 clear xw6
 go_wp2_with fail
 go_region_held3 (fun w' => w'.cell? ⟨w.heap.size, 0, none⟩ = some (.int .i64 b0) ∧ w'.cell? ⟨w.heap.size, 1, none⟩ = some (.slice a0 s0.length f0) ∧ w'.cell? ⟨w.heap.size, 2, none⟩ = some (.slice d0 t0.length g0) ∧ w'.cell? ⟨w3.heap.size, 0, none⟩ = some (.int .i64 PB) ∧ w'.cell? ⟨w3.heap.size, 1, none⟩ = some (.slice Wa PS.length Wc) ∧ w'.cell? ⟨w3.heap.size, 2, none⟩ = some (.slice Wd PT.length Wf) ∧ w'.cell? ⟨w4.heap.size, 0, none⟩ = some (.int .i64 b0) ∧ w'.cell? ⟨w4.heap.size, 1, none⟩ = some (.slice Xa s0.length Xc) ∧ w'.cell? ⟨w4.heap.size, 2, none⟩ = some (.slice Xd t0.length Xf) ∧ w'.cell? ⟨w5.heap.size, 0, none⟩ = some (.int .i64 PB) ∧ w'.cell? ⟨w5.heap.size, 1, none⟩ = some (.slice Ga PS.length Gc) ∧ w'.cell? ⟨w5.heap.size, 2, none⟩ = some (.slice Gd PT.length Gf))
  (first
   | go_keep
   | exact ⟨Yw8.cell cc0, Yw8.cell cc1, Yw8.cell cc2, Yw8.cell r0, Yw8.cell r1, Yw8.cell r2, Yw8.cell x0, Yw8.cell x1, Yw8.cell x2, Yw8.cell gg0, Yw8.cell gg1, Yw8.cell gg2⟩
   | exact ⟨Yw7.cell cc0, Yw7.cell cc1, Yw7.cell cc2, Yw7.cell r0, Yw7.cell r1, Yw7.cell r2, Yw7.cell x0, Yw7.cell x1, Yw7.cell x2, Yw7.cell gg0, Yw7.cell gg1, Yw7.cell gg2⟩)
  (first
   | (go_at_call 20; refine (eqView_c b0 _ _ _ _ s0 t0 _ _ _ _ _ ((ouX.ints (by omega)).ext (Yw7.trans qXo)) ((ovX.ints (by omega)).ext (Yw7.trans qXo)) (iu.ext qXo) (iv.ext qXo)).mono ?_; rintro e w8 ⟨rfl, xw8⟩; have Yw8 : Ext w6 w8 := Yw7.trans (Ext.trans qXo xw8); replace iu := iu.ext (Ext.trans qXo xw8); replace iv := iv.ext (Ext.trans qXo xw8))
   | (go_at_call 17; refine (toView_c b0 _ _ s0 t0 _ (h0.ext (X.trans qXo)) (k0.ext (X.trans qXo)) (by omega) (by omega)).mono ?_; rintro e w7 ⟨u, v, rfl, iu, iv, _, _, _, xw7⟩; have Yw7 : Ext w6 w7 := Ext.trans qXo xw7))
 have Lw8 : Ext w6 w8 := Yw8
 replace cc0 := Lw8.cell cc0
 replace cc1 := Lw8.cell cc1
 replace cc2 := Lw8.cell cc2
 replace r0 := Lw8.cell r0
 replace r1 := Lw8.cell r1
 replace r2 := Lw8.cell r2
 replace x0 := Lw8.cell x0
 replace x1 := Lw8.cell x1
 replace x2 := Lw8.cell x2
 replace gg0 := Lw8.cell gg0
 replace gg1 := Lw8.cell gg1
 replace gg2 := Lw8.cell gg2
 replace ouX := ouX.ext Lw8
 replace ovX := ovX.ext Lw8
 replace oG := oG.ext Lw8
 replace pG := pG.ext Lw8
 replace X := X.trans Lw8
 replace EW := EW.trans Lw8
 have z13 : w.heap.size < w8.heap.size := qB cc0
 have z14 : w3.heap.size < w8.heap.size := qB r0
 have z15 : w4.heap.size < w8.heap.size := qB x0
 have z16 : w5.heap.size < w8.heap.size := qB gg0
 have sw8 : w6.heap.size ≤ w8.heap.size := Lw8.size
 clear iu iv
 go_wp2_with fail
 refine (markView_c b0 _ _ s0 t0 1 _ (w3.heap.size + 1) (w4.heap.size) (ouX.ext qXt) (ovX.ext qXt) hdX buX bvX (Nat.le_trans (by omega) (Ext.size (show Ext w8 _ from qXt))) (by omega) (by omega) (by omega) (by omega)).mono ?_
 rintro e w9 ⟨rfl, -, -, kw9⟩
 have Kw9 : Chg (w3.heap.size + 1) (w4.heap.size) w8 w9 := (Chg.of_ext qXt).trans kw9
 have sw9 : w8.heap.size ≤ w9.heap.size := Kw9.size
 replace X := Ext.chg X Kw9 (by omega)
 replace EW := Ext.chg EW Kw9 (by omega)
 replace cc0 := Kw9.cell (by first | (left; omega) | (right; omega)) cc0
 replace cc1 := Kw9.cell (by first | (left; omega) | (right; omega)) cc1
 replace cc2 := Kw9.cell (by first | (left; omega) | (right; omega)) cc2
 replace r0 := Kw9.cell (by first | (left; omega) | (right; omega)) r0
 replace r1 := Kw9.cell (by first | (left; omega) | (right; omega)) r1
 replace r2 := Kw9.cell (by first | (left; omega) | (right; omega)) r2
 replace x0 := Kw9.cell (by first | (left; omega) | (right; omega)) x0
 replace x1 := Kw9.cell (by first | (left; omega) | (right; omega)) x1
 replace x2 := Kw9.cell (by first | (left; omega) | (right; omega)) x2
 replace gg0 := Kw9.cell (by first | (left; omega) | (right; omega)) gg0
 replace gg1 := Kw9.cell (by first | (left; omega) | (right; omega)) gg1
 replace gg2 := Kw9.cell (by first | (left; omega) | (right; omega)) gg2
 replace oG := oG.chg Kw9 (by omega)
 replace pG := pG.chg Kw9 (by omega)
 have z17 : w.heap.size < w9.heap.size := qB cc0
 have z18 : w3.heap.size < w9.heap.size := qB r0
 have z19 : w4.heap.size < w9.heap.size := qB x0
 have z20 : w5.heap.size < w9.heap.size := qB gg0
 clear Kw9 kw9
 clear ouX ovX
 go_wp2_with fail
 refine (eqView_c PB _ _ _ _ PS PT _ _ _ _ _ ((oG.ints lG).ext qXt) ((pG.ints mG).ext qXt) (iW.ext (EW.trans qXt)) (jW.ext (EW.trans qXt))).mono ?_
 rintro e w10 ⟨rfl, xw10⟩
 have Lw10 : Ext w9 w10 := Ext.trans qXt xw10
 replace cc0 := Lw10.cell cc0
 replace cc1 := Lw10.cell cc1
 replace cc2 := Lw10.cell cc2
 replace r0 := Lw10.cell r0
 replace r1 := Lw10.cell r1
 replace r2 := Lw10.cell r2
 replace x0 := Lw10.cell x0
 replace x1 := Lw10.cell x1
 replace x2 := Lw10.cell x2
 replace gg0 := Lw10.cell gg0
 replace gg1 := Lw10.cell gg1
 replace gg2 := Lw10.cell gg2
 replace oG := oG.ext Lw10
 replace pG := pG.ext Lw10
 replace X := X.trans Lw10
 replace EW := EW.trans Lw10
 have z21 : w.heap.size < w10.heap.size := qB cc0
 have z22 : w3.heap.size < w10.heap.size := qB r0
 have z23 : w4.heap.size < w10.heap.size := qB x0
 have z24 : w5.heap.size < w10.heap.size := qB gg0
 have sw10 : w9.heap.size ≤ w10.heap.size := Lw10.size
 clear Lw10
 clear xw10
 go_wp2_with fail
 refine (markView_c PB _ _ PS PT 1 _ (w4.heap.size + 1) (w5.heap.size) (oG.ext qXt) (pG.ext qXt) dG bG cG (Nat.le_trans (by omega) (Ext.size (show Ext w10 _ from qXt))) lG mG (by omega) (by omega)).mono ?_
 rintro e w11 ⟨rfl, oH, pH, kw11⟩
 have Kw11 : Chg (w4.heap.size + 1) (w5.heap.size) w10 w11 := (Chg.of_ext qXt).trans kw11
 have sw11 : w10.heap.size ≤ w11.heap.size := Kw11.size
 replace X := Ext.chg X Kw11 (by omega)
 replace EW := Ext.chg EW Kw11 (by omega)
 replace cc0 := Kw11.cell (by first | (left; omega) | (right; omega)) cc0
 replace cc1 := Kw11.cell (by first | (left; omega) | (right; omega)) cc1
 replace cc2 := Kw11.cell (by first | (left; omega) | (right; omega)) cc2
 replace r0 := Kw11.cell (by first | (left; omega) | (right; omega)) r0
 replace r1 := Kw11.cell (by first | (left; omega) | (right; omega)) r1
 replace r2 := Kw11.cell (by first | (left; omega) | (right; omega)) r2
 replace x0 := Kw11.cell (by first | (left; omega) | (right; omega)) x0
 replace x1 := Kw11.cell (by first | (left; omega) | (right; omega)) x1
 replace x2 := Kw11.cell (by first | (left; omega) | (right; omega)) x2
 replace gg0 := Kw11.cell (by first | (left; omega) | (right; omega)) gg0
 replace gg1 := Kw11.cell (by first | (left; omega) | (right; omega)) gg1
 replace gg2 := Kw11.cell (by first | (left; omega) | (right; omega)) gg2
 have z25 : w.heap.size < w11.heap.size := qB cc0
 have z26 : w3.heap.size < w11.heap.size := qB r0
 have z27 : w4.heap.size < w11.heap.size := qB x0
 have z28 : w5.heap.size < w11.heap.size := qB gg0
 clear Kw11 kw11
 clear oG pG
 have lH : (ksL 1 PS.length).length ≤ 4194304 := by rw [ksL_len]; exact lG
 have mH : (ksL (1 + PS.length) PT.length).length ≤ 4194304 := by rw [ksL_len]; exact mG
 go_wp2_with fail
 refine (heldView_c PB _ _ PS.length PT.length 1 _ _ _ ((oH.ints lH).ext qXt) ((pH.ints mH).ext qXt) lG mG (by omega) (by omega)).mono ?_
 rintro e w12 ⟨rfl, xw12⟩
 have Lw12 : Ext w11 w12 := Ext.trans qXt xw12
 replace cc0 := Lw12.cell cc0
 replace cc1 := Lw12.cell cc1
 replace cc2 := Lw12.cell cc2
 replace r0 := Lw12.cell r0
 replace r1 := Lw12.cell r1
 replace r2 := Lw12.cell r2
 replace x0 := Lw12.cell x0
 replace x1 := Lw12.cell x1
 replace x2 := Lw12.cell x2
 replace gg0 := Lw12.cell gg0
 replace gg1 := Lw12.cell gg1
 replace gg2 := Lw12.cell gg2
 replace oH := oH.ext Lw12
 replace pH := pH.ext Lw12
 replace X := X.trans Lw12
 replace EW := EW.trans Lw12
 have z29 : w.heap.size < w12.heap.size := qB cc0
 have z30 : w3.heap.size < w12.heap.size := qB r0
 have z31 : w4.heap.size < w12.heap.size := qB x0
 have z32 : w5.heap.size < w12.heap.size := qB gg0
 have sw12 : w11.heap.size ≤ w12.heap.size := Lw12.size
 clear Lw12
 clear xw12
 go_wp2_with fail
 refine (toView_c b0 _ _ s0 t0 _ (h0.ext (X.trans qXt)) (k0.ext (X.trans qXt)) (by omega) (by omega)).mono ?_
 rintro e w13 ⟨uZ, vZ, rfl, iuZ, ivZ, ouZ, ovZ, hdZ, xw13⟩
 have Lw13 : Ext w12 w13 := Ext.trans qXt xw13
 replace cc0 := Lw13.cell cc0
 replace cc1 := Lw13.cell cc1
 replace cc2 := Lw13.cell cc2
 replace r0 := Lw13.cell r0
 replace r1 := Lw13.cell r1
 replace r2 := Lw13.cell r2
 replace x0 := Lw13.cell x0
 replace x1 := Lw13.cell x1
 replace x2 := Lw13.cell x2
 replace gg0 := Lw13.cell gg0
 replace gg1 := Lw13.cell gg1
 replace gg2 := Lw13.cell gg2
 replace oH := oH.ext Lw13
 replace pH := pH.ext Lw13
 replace X := X.trans Lw13
 replace EW := EW.trans Lw13
 have z33 : w.heap.size < w13.heap.size := qB cc0
 have z34 : w3.heap.size < w13.heap.size := qB r0
 have z35 : w4.heap.size < w13.heap.size := qB x0
 have z36 : w5.heap.size < w13.heap.size := qB gg0
 have sw13 : w12.heap.size ≤ w13.heap.size := Lw13.size
 clear Lw13
 clear xw13
 go_wp2_with fail
 refine (pv_eq hP.out (implSplitDim_b b0 _ _ s0 t0 i1 i2 _ _ _ (iuZ.ext qXt) (ivZ.ext qXt))).mono ?_
 rintro e w14 ⟨H1, H2, rfl, iH, jH, -, -, -, xw14⟩
 have Lw14 : Ext w13 w14 := Ext.trans qXt xw14
 replace cc0 := Lw14.cell cc0
 replace cc1 := Lw14.cell cc1
 replace cc2 := Lw14.cell cc2
 replace r0 := Lw14.cell r0
 replace r1 := Lw14.cell r1
 replace r2 := Lw14.cell r2
 replace x0 := Lw14.cell x0
 replace x1 := Lw14.cell x1
 replace x2 := Lw14.cell x2
 replace gg0 := Lw14.cell gg0
 replace gg1 := Lw14.cell gg1
 replace gg2 := Lw14.cell gg2
 replace oH := oH.ext Lw14
 replace pH := pH.ext Lw14
 replace X := X.trans Lw14
 replace EW := EW.trans Lw14
 have z37 : w.heap.size < w14.heap.size := qB cc0
 have z38 : w3.heap.size < w14.heap.size := qB r0
 have z39 : w4.heap.size < w14.heap.size := qB x0
 have z40 : w5.heap.size < w14.heap.size := qB gg0
 have sw14 : w13.heap.size ≤ w14.heap.size := Lw14.size
 clear Lw14
 clear xw14
 clear iuZ ivZ ouZ ovZ hdZ
 obtain ⟨Ha, Hc, rfl⟩ := iH.form
 obtain ⟨Hd, Hf, rfl⟩ := jH.form
 go_wp2_with fail
 refine (eqView_c PB _ _ _ _ PS PT _ _ _ _ _ (iH.ext qXt) (jH.ext qXt) (iW.ext (EW.trans qXt)) (jW.ext (EW.trans qXt))).mono ?_
 rintro e w15 ⟨rfl, xw15⟩
 have Lw15 : Ext w14 w15 := Ext.trans qXt xw15
 replace cc0 := Lw15.cell cc0
 replace cc1 := Lw15.cell cc1
 replace cc2 := Lw15.cell cc2
 replace r0 := Lw15.cell r0
 replace r1 := Lw15.cell r1
 replace r2 := Lw15.cell r2
 replace x0 := Lw15.cell x0
 replace x1 := Lw15.cell x1
 replace x2 := Lw15.cell x2
 replace gg0 := Lw15.cell gg0
 replace gg1 := Lw15.cell gg1
 replace gg2 := Lw15.cell gg2
 have y0 : w15.cell? ⟨w14.heap.size, 0, none⟩ = some (.int .i64 PB) := xw15.cell qCl
 have y1 : w15.cell? ⟨w14.heap.size, 1, none⟩ = some (.slice Ha PS.length Hc) := xw15.cell qCl
 have y2 : w15.cell? ⟨w14.heap.size, 2, none⟩ = some (.slice Hd PT.length Hf) := xw15.cell qCl
 replace oH := oH.ext Lw15
 replace pH := pH.ext Lw15
 replace iH := iH.ext Lw15
 replace jH := jH.ext Lw15
 replace X := X.trans Lw15
 replace EW := EW.trans Lw15
 have z41 : w.heap.size < w15.heap.size := qB cc0
 have z42 : w3.heap.size < w15.heap.size := qB r0
 have z43 : w4.heap.size < w15.heap.size := qB x0
 have z44 : w5.heap.size < w15.heap.size := qB gg0
 have z45 : w14.heap.size < w15.heap.size := qB y0
 have sw15 : w14.heap.size ≤ w15.heap.size := Lw15.size
 clear Lw15
 clear xw15
 go_wp2_with fail
 refine (heldView_c PB _ _ PS.length PT.length 1 _ _ _ ((oH.ints lH).ext qXt) ((pH.ints mH).ext qXt) lG mG (by omega) (by omega)).mono ?_
 rintro e w16 ⟨rfl, xw16⟩
 have Lw16 : Ext w15 w16 := Ext.trans qXt xw16
 replace cc0 := Lw16.cell cc0
 replace cc1 := Lw16.cell cc1
 replace cc2 := Lw16.cell cc2
 replace r0 := Lw16.cell r0
 replace r1 := Lw16.cell r1
 replace r2 := Lw16.cell r2
 replace x0 := Lw16.cell x0
 replace x1 := Lw16.cell x1
 replace x2 := Lw16.cell x2
 replace gg0 := Lw16.cell gg0
 replace gg1 := Lw16.cell gg1
 replace gg2 := Lw16.cell gg2
 replace y0 := Lw16.cell y0
 replace y1 := Lw16.cell y1
 replace y2 := Lw16.cell y2
 replace oH := oH.ext Lw16
 replace pH := pH.ext Lw16
 replace iH := iH.ext Lw16
 replace jH := jH.ext Lw16
 replace X := X.trans Lw16
 replace EW := EW.trans Lw16
 have z46 : w.heap.size < w16.heap.size := qB cc0
 have z47 : w3.heap.size < w16.heap.size := qB r0
 have z48 : w4.heap.size < w16.heap.size := qB x0
 have z49 : w5.heap.size < w16.heap.size := qB gg0
 have z50 : w14.heap.size < w16.heap.size := qB y0
 have sw16 : w15.heap.size ≤ w16.heap.size := Lw16.size
 clear Lw16
 clear xw16
 go_wp2_with fail
 go_ret
 exact ⟨rfl, X.trans qXt⟩

set_option maxHeartbeats 6400000 in
theorem lawSplitDim_c (b0 : Int) (a0 d0 : Option Addr) (f0 g0 : Nat) (s0 t0 : List Int) (i1 i2 : Int) (w : World) (h0 : Raw w (.slice a0 s0.length f0) s0) (k0 : Raw w (.slice d0 t0.length g0) t0) (n0 : s0.length ≤ maxLen) (m0 : t0.length ≤ maxLen) (wf1 : (Lit.int .i64 i1).wf = true) (wf2 : (Lit.int .i64 i2).wf = true) :
  Calls Try.prog 4 #[.agg #[.int .i64 b0, .slice a0 s0.length f0, .slice d0 t0.length g0], .int .i64 i1, .int .i64 i2] w fun e w' => e = .returned (.bool true) ∧ Ext w w' := by
 obtain ⟨PB, PS, PT, PO, hP⟩ : ∃ PB PS PT PO, spV b0 s0 t0 i1 i2 = (PB, PS, PT, PO) := ⟨_, _, _, _, rfl⟩
 cases PO
 ·
  exact lawSplitDim_false b0 a0 d0 f0 g0 s0 t0 i1 i2 w h0 k0 n0 m0 PB PS PT (Lib.hid hP)
 ·
  exact lawSplitDim_true b0 a0 d0 f0 g0 s0 t0 i1 i2 w h0 k0 n0 m0 PB PS PT (Lib.hid hP)
end Go.Proofs.Ytfbbnbpobojboaa

/- The law FnExactSplitDim holds for all arguments: the call returns true, and its arguments read as they did. No condition. -/
namespace Go.Proofs.Ytfbbnbpobojboaa.rowSplitDim
open Go.ChangeShapes Go.WideShapes Go.ChangeAt Go.RowKit
set_option linter.unusedVariables false

set_option maxHeartbeats 1000000 in
set_option maxRecDepth 100000 in
theorem lifted (os : Os) (started : os.Started) (H : Type) (enc : TypeId × Value → H) :
    ReturnsInHanded {} Try.checked os 4 .any (Rows.fnExactSplitDimSpec.pre6 enc Try.prog Try.f4 Rows.fnExactSplitDimRow.domain false) (Rows.fnExactSplitDimSpec.post enc Try.prog Try.f4 false true false false) := by
  refine returnsInHanded_of_change (C := Try.checked) own started qKr Try.func4
    (ChangeSpec.witness6 (enc := enc) (C := Try.checked) false ⟨#[], #[.agg #[.int .i64 0, .slice none 0 0, .slice none 0 0], .int .i64 0, .int .i64 0], []⟩ 8 qKr qKr qKr qKr) ?_
  intro W base args ds gs before hval0 hW hcnd _
  have hval : ∀ (j : Nat) t v, Try.f4.params[j]? = some t → args[j]? = some v → Value.okWide Try.prog W .any base t v := hval0
  have hW' := hW
  obtain ⟨p, q, hA0, hV, rfl, hfz, hnd⟩ := hW
  have hA : DataW.TrodAll enc Try.prog W 0 (fun _ => true) true Try.f4.params.toList args.toList ds p := hA0
  rw [Try.params4] at hA hval
  obtain ⟨v0, vs0, d0, ds0, p0, q0, hargs0, rfl, rfl, h0, r0⟩ := trodAll_cons hA
  obtain ⟨v1, vs1, d1, ds1, p1, q1, hargs1, rfl, rfl, h1, r1⟩ := trodAll_cons r0
  subst hargs1
  obtain ⟨v2, vs2, d2, ds2, p2, q2, hargs2, rfl, rfl, h2, r2⟩ := trodAll_cons r1
  subst hargs2
  obtain ⟨rfl, rfl, rfl⟩ := trodAll_nil r2
  obtain rfl : args = #[v0, v1, v2] := by cases args; simp_all
  obtain ⟨rfl, rfl⟩ := trodVars_none hV
  have k0 := h0
  have lt0 : ∀ x ∈ p0, x.block < W.heap.size := by obtain ⟨m, hm⟩ := k0; exact DataW.trod_lt m _ _ _ hm
  obtain ⟨b0, s0, t0, a0, f0, e0, g0, rfl, ⟨x0, n0⟩, ⟨y0, m0⟩⟩ := open_view (hval 0 _ v0 rfl rfl) h0
  have k1 := h1
  have lt1 : ∀ x ∈ p1, x.block < W.heap.size := by obtain ⟨m, hm⟩ := k1; exact DataW.trod_lt m _ _ _ hm
  obtain ⟨i1, rfl, -, -, wf1⟩ := open_int Try.underlying3 (hval 1 _ v1 rfl rfl) h1
  have k2 := h2
  have lt2 : ∀ x ∈ p2, x.block < W.heap.size := by obtain ⟨m, hm⟩ := k2; exact DataW.trod_lt m _ _ _ hm
  obtain ⟨i2, rfl, -, -, wf2⟩ := open_int Try.underlying3 (hval 2 _ v2 rfl rfl) h2
  clear hA0 hval0
  refine (lawSplitDim_c b0 a0 e0 f0 g0 s0 t0 i1 i2 W x0 y0 n0 m0 wf1 wf2).mono fun e W' ⟨he, bel⟩ => ?_
  subst he
  exact ⟨_, rfl, _, _, _, [], _, [], hW', trodAll_mk1 (shut_bool Try.underlying4 _), (trodAll_cons_mk (Below.trod laidOut qKr (of_decide_eq_true qKr) k0 bel lt0) (trodAll_cons_mk (Below.trod laidOut qKr (of_decide_eq_true qKr) k1 bel lt1) (trodAll_cons_mk (Below.trod laidOut qKr (of_decide_eq_true qKr) k2 bel lt2) trodAll_mk0))), rfl, Below.frame bel _, fun h => by cases h⟩

set_option maxHeartbeats 2000000 in
theorem closed : joinedFacts Try.checked.prog 4 Try.f4 Rows.fnExactSplitDimSpec Rows.fnExactSplitDimRow = true :=
  facts.all qKr qKr qKr qKr qKr (by as_aux_lemma => kernel_rfl) (by as_aux_lemma => kernel_rfl) (by as_aux_lemma => kernel_rfl) (by as_aux_lemma => kernel_rfl)
    (by as_aux_lemma => kernel_rfl) (by as_aux_lemma => kernel_rfl) rfl rfl rfl rfl qKr qKr (by as_aux_lemma => kernel_rfl) (by as_aux_lemma => kernel_rfl)

theorem named : Try.pinned.checked.prog.funcNamed Rows.fnExactSplitDimRow.func = some 4 := by kernel_rfl

theorem over : Rows.fnExactSplitDimRow.holds Try.pinned (OpenSpec.ofChange Rows.fnExactSplitDimSpec) :=
  OpenClaim.holds_of_wide 4 Try.f4 rfl rfl rfl rfl rfl rfl rfl ⟨rfl, rfl, rfl, rfl, rfl⟩ rfl rfl rfl rfl rfl named Try.func4 closed
    (of_decide_eq_true qKr) (by unfold Func.isWrapper; exact ⟨rfl, rfl⟩)
    (fun os started H enc _ => lifted os started H enc)

theorem proved : Rows.FnExactSplitDimSaid := over

end Go.Proofs.Ytfbbnbpobojboaa.rowSplitDim
