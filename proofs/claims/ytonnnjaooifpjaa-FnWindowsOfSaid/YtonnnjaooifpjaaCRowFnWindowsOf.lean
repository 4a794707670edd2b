/- Texts of these proofs put together: PureU, KitF, WnA, PureR, PureJ, LawFnWindowsOf, RowFnWindowsOf. No condition. -/
import Derived.Test.YtonnnjaooifpjaaD1RowFnWindowsOf
import Derived.Test.YtonnnjaooifpjaaD2RowFnWindowsOf
import Derived.Test.YtonnnjaooifpjaaM1
import Derived.Test.YtonnnjaooifpjaaM3
import Derived.Test.YtonnnjaooifpjaaM4
set_option linter.unusedVariables false
set_option linter.unusedSimpArgs false
/- Plain laws: a picked number of a dimension, and the slice of that number alone. -/
namespace Go.Proofs.Ytonnnjaooifpjaa
open Go.RowKit
set_option linter.unusedVariables false
set_option maxRecDepth 100000

theorem numL_unit (j : Int) : numL j (j + 1) 1 = [j] := numL_one (cnt_of (n := 1) (by omega) fun k => by omega)
theorem idx_unit {e j : Int} (h0 : 0 ≤ j) (h1 : j < e) : idxS e j (j + 1) 1 true true = [j] := by
  have h2 : fromI e j 1 true = j := by unfold fromI boundI; simp; omega
  have h3 : toI e (j + 1) 1 true = j + 1 := by unfold toI boundI; simp; omega
  unfold idxS; rw [h2, h3, numL_unit]
theorem slice_unit {j : Int} (h0 : 0 ≤ j) (h1 : j ≤ 60) : sliceB j (j + 1) 1 true true = true := by
  unfold sliceB inB; simp; omega
theorem offC_unit : ∀ (s t : List Int) (d : Nat) (B : Int), d < s.length → t.length = s.length → offC B (s.set d 1) (t.set d 0) = offC B (delL s d) (delL t d)
  | e :: s, x :: t, 0, B, _, _ => by
    rw [delL_zero, delL_zero, List.set_cons_zero, List.set_cons_zero, offC_cons]; simp
  | e :: s, x :: t, d+1, B, h, hl => by
    rw [delL_succ, delL_succ, List.set_cons_succ, List.set_cons_succ, offC_cons, offC_cons, offC_unit s t d B (by simpa using h) (by simpa using hl)]
  | [], _, _, _, h, _ => by simp at h
  | _ :: _, [], _, _, _, h => by simp at h
theorem prod_unit {s : List Int} {d : Nat} (h : d < s.length) : prodL (s.set d 1) = prodL (delL s d) := by
  rw [prodL_set s d 1 h]
  unfold delL
  rw [prodL_append, Int.one_mul]
theorem pick_law {b : Int} {s t : List Int} {d x : Int} {PB : Int} {PS PT : List Int} (h : pickV b s t d x = (PB, PS, PT, true)) :
    ∃ (D : Nat) (J CB : Int) (CS CT : List Int), d = D ∧ D < s.length ∧ D < t.length ∧ s.length ≤ 4 ∧ (0 ≤ J ∧ J ≤ 60) ∧ (x < 0 → J = x + s.getD D 0) ∧ (¬ x < 0 → J = x) ∧ (0 ≤ s.getD D 0 ∧ s.getD D 0 ≤ 60) ∧
      sliceV b s t (D : Int) J (J + 1) 1 true true = (CB, CS, CT, true) ∧ offA PB PS PT = offA CB CS CT ∧ PS = delL s D := by
  by_cases hc : (dimB b s t d && (decide (-(s.getD d.toNat 0) ≤ x) && decide (x < s.getD d.toNat 0))) = true
  · have h0 := h
    unfold pickV at h
    rw [if_pos hc] at h
    simp only [Bool.and_eq_true, decide_eq_true_eq] at hc
    obtain ⟨hd, h1, h2⟩ := hc
    obtain ⟨hv, g1, g2⟩ := dim_in hd
    obtain ⟨D, rfl⟩ : ∃ D : Nat, d = D := ⟨d.toNat, by omega⟩
    rw [Int.toNat_natCast] at h h1 h2
    have hD : D < s.length := by omega
    obtain ⟨v1, v2, v3, v4, v5⟩ := viewB_in hv
    have hs := view_small hv
    have he := hs.2 _ (getD_mem hD)
    generalize hJ : (if x < 0 then x + s.getD D 0 else x) = J at h
    have hJ0 : 0 ≤ J ∧ J < s.getD D 0 := by split at hJ <;> omega
    injection h with e1 h
    injection h with e2 h
    injection h with e3 _
    have hL := idx_unit hJ0.1 hJ0.2
    have hsl := slice_unit hJ0.1 (show J ≤ 60 by omega)
    have hq : (1 : Int) ≠ 0 := by omega
    have hcv := cut_view (a := J) (e := J + 1) hv hD hq (by rw [numL_unit]; intro i hi; simp at hi; omega)
    rw [numL_unit] at hcv
    have hsv : sliceV b s t (D : Int) J (J + 1) 1 true true = (cutB b s t D [J], cutS s D [J], cutT s t D [J], true) := by
      rw [slice_yes hd hsl, hL]
    obtain ⟨pv1, pv2⟩ := pick_view hv hD hJ0.1 hJ0.2
    refine ⟨D, J, _, _, _, rfl, hD, by omega, hs.1, by omega, fun hx => by rw [if_pos hx] at hJ; exact hJ.symm, fun hx => by rw [if_neg hx] at hJ; exact hJ.symm, he, hsv, ?_, e2.symm⟩
    have hN : (normL [J]).1 = J := by
      have := (slice_first hq (numL_unit J)).1 (by simp); simpa using this
    have c1 : cutB b s t D [J] = tidyB (b + J * t.getD D 0) (s.set D 1) := by unfold cutB; rw [hN]; rfl
    have c2 : cutT s t D [J] = tidyT (s.set D 1) (t.set D 0) := by unfold cutT; rfl
    have c3 : cutS s D [J] = s.set D 1 := rfl
    have hs1 : Small (s.set D 1) := small_set hs D (by omega)
    have hcc : countL (s.set D 1) = countL (delL s D) := by rw [hs1.count.1, (del_small hs D hD).count.1, prod_unit hD]
    have hvc := hcv.1
    rw [c1, c2, c3] at hvc ⊢
    rw [← e1, ← e2, ← e3]
    unfold offA
    rw [if_pos pv1, if_pos hvc, pv2]
    by_cases hz : countL (delL s D) = 0
    · rw [if_pos hz]
      exact (List.eq_nil_of_length_eq_zero (by rw [offs_count, hcc, hz]; rfl)).symm
    · rw [if_neg hz, view_C hvc]
      unfold tidyB tidyT
      rw [if_neg (by rw [hcc]; exact hz), if_neg (by rw [hcc]; exact hz), offC_unit s t D _ hD v2]
  · unfold pickV at h
    rw [if_neg hc] at h
    simp [noV] at h
end Go.Proofs.Ytonnnjaooifpjaa

/- Walks: copies of views that are rows. -/
namespace Go.Proofs.Ytonnnjaooifpjaa
open Go.RowKit
set_option linter.unusedVariables false
set_option maxRecDepth 100000

def PViewO (w : World) (b : Int) (s t : List Int) (e : Ending) (w' : World) : Prop := ∃ g1 g2 r1 r2, e = .returned (.agg #[.int .i64 b, .slice (some ⟨g1, 0, none⟩) s.length r1, .slice (some ⟨g2, 0, none⟩) t.length r2]) ∧ OwnI w' w.heap.size (.slice (some ⟨g1, 0, none⟩) s.length r1) s ∧ OwnI w' w.heap.size (.slice (some ⟨g2, 0, none⟩) t.length r2) t ∧ w.heap.size ≤ g1 ∧ g1 < w'.heap.size ∧ w.heap.size ≤ g2 ∧ g2 < w'.heap.size ∧ g1 ≠ g2 ∧ Ext w w'
set_option maxHeartbeats 1600000 in
theorem copyViewO_c (b1 : Int) (u1 v1 : Value) (s1 t1 : List Int) (w : World) (l1 m1 : Nat) (h1 : Ints w l1 u1 s1) (k1 : Ints w m1 v1 t1) :
  Calls Try.prog 94 #[.agg #[.int .i64 b1, u1, v1]] w (PViewO w b1 s1 t1) := by
 obtain ⟨p0, c0, rfl⟩ := h1.form
 obtain ⟨p1, c1, rfl⟩ := k1.form
 go_enter Try.func94, Try.ntmps94
 go_wp2_with fail
 generalize hW1 : (w.alloc (.cells #[.int .i64 b1, .slice p0 s1.length c0, .slice p1 t1.length c1] 25)).alloc (.cells #[.int .i64 0, .slice none 0 0, .slice none 0 0] 25) = w1 at *
 have Lw1 : Ext w w1 := by subst hW1; exact qXt
 have Xw1 : Ext w w1 := by subst hW1; exact Lw1
 have b10 : w1.cell? ⟨w.heap.size, 0, none⟩ = some (.int .i64 b1) := by subst hW1; exact qCl
 have b11 : w1.cell? ⟨w.heap.size, 1, none⟩ = some (.slice p0 s1.length c0) := by subst hW1; exact qCl
 have b12 : w1.cell? ⟨w.heap.size, 2, none⟩ = some (.slice p1 t1.length c1) := by subst hW1; exact qCl
 have b20 : w1.cell? ⟨w.heap.size + 1, 0, none⟩ = some (.int .i64 0) := by subst hW1; exact qCl
 have b21 : w1.cell? ⟨w.heap.size + 1, 1, none⟩ = some (.slice none 0 0) := by subst hW1; exact qCl
 have b22 : w1.cell? ⟨w.heap.size + 1, 2, none⟩ = some (.slice none 0 0) := by subst hW1; exact qCl
 have f_b20 : w1.frozen? ⟨w.heap.size + 1, 0, none⟩ = false := by subst hW1; exact qFz
 have f_b21 : w1.frozen? ⟨w.heap.size + 1, 1, none⟩ = false := by subst hW1; exact qFz
 have f_b22 : w1.frozen? ⟨w.heap.size + 1, 2, none⟩ = false := by subst hW1; exact qFz
 have z_b1 : w.heap.size < w1.heap.size := qB b10
 have z_b2 : w.heap.size + 1 < w1.heap.size := qB b20
 have s_w1 : w.heap.size ≤ w1.heap.size := Xw1.size
 clear hW1
 have Q3_b10 := Lib.hid b10
 have Q3_b11 := Lib.hid b11
 have Q3_b12 := Lib.hid b12
 have Q3_zb1 := z_b1
 have Q3_b20 := Lib.hid b20
 have Q3_f_b20 := Lib.hid f_b20
 have Q3_b21 := Lib.hid b21
 have Q3_f_b21 := Lib.hid f_b21
 have Q3_b22 := Lib.hid b22
 have Q3_f_b22 := Lib.hid f_b22
 have Q3_zb2 := z_b2
 have BL4 : Ext w1 w1 := Ext.refl _
 go_cut [] (fun  wx => ∃ (g5 : Nat) (r5 : Nat) (g9 : Nat) (r9 : Nat), Chg (w.heap.size + 1) (w.heap.size + 1 + 1) w1 wx ∧ w1.heap.size ≤ g5 ∧ g5 < wx.heap.size ∧ w1.heap.size ≤ g9 ∧ g9 < wx.heap.size ∧ g5 ≠ g9 ∧ OwnI wx w1.heap.size (.slice (some ⟨g5, 0, none⟩) s1.length r5) s1 ∧ OwnI wx w1.heap.size (.slice (some ⟨g9, 0, none⟩) t1.length r9) t1 ∧ wx.cell? ⟨w.heap.size + 1, 0, none⟩ = some (.int .i64 b1) ∧ wx.frozen? ⟨w.heap.size + 1, 0, none⟩ = false ∧ wx.cell? ⟨w.heap.size + 1, 1, none⟩ = some (.slice (some ⟨g5, 0, none⟩) s1.length r5) ∧ wx.frozen? ⟨w.heap.size + 1, 1, none⟩ = false ∧ wx.cell? ⟨w.heap.size + 1, 2, none⟩ = some (.slice (some ⟨g9, 0, none⟩) t1.length r9) ∧ wx.frozen? ⟨w.heap.size + 1, 2, none⟩ = false)
 case first =>
  have X1 : Ext w1 w1 := Ext.refl _
  refine wp_region_held_drew (S := fun w' => w'.cell? ⟨w.heap.size, 0, none⟩ = some (.int .i64 b1) ∧ w'.cell? ⟨w.heap.size, 1, none⟩ = some (.slice p0 s1.length c0) ∧ w'.cell? ⟨w.heap.size, 2, none⟩ = some (.slice p1 t1.length c1)) qKr ⟨b10, b11, b12⟩ (fun hHeld => ?_)
  refine qHk (v := ?_) 0 rfl (.inl ⟨by rfl, ?_⟩) ?_
  rotate_left
  ·
   (intro w hSw; (try dsimp only at hSw); go_simp; try with_reducible rfl)
  try simp only [Act.put, qa, qb, qc, qD, qE, qF]
  refine qHk (v := ?_) 1 rfl (.inl ⟨by rfl, ?_⟩) ?_
  rotate_left
  ·
   (intro w hSw; (try dsimp only at hSw); go_simp; try with_reducible rfl)
  try simp only [Act.put, qa, qb, qc, qD, qE, qF]
  refine qHk (v := ?_) 3 rfl (.inl ⟨by rfl, ?_⟩) ?_
  rotate_left
  ·
   (intro w hSw; (try dsimp only at hSw); go_simp; try with_reducible rfl)
  try simp only [Act.put, qa, qb, qc, qD, qE, qF]
  refine qHk (v := ?_) 4 rfl (.inl ⟨by rfl, ?_⟩) ?_
  rotate_left
  ·
   (intro w hSw; (try dsimp only at hSw); go_simp; try with_reducible rfl)
  try simp only [Act.put, qa, qb, qc, qD, qE, qF]
  refine qHk (v := ?_) 7 rfl (.inl ⟨by rfl, ?_⟩) ?_
  rotate_left
  ·
   (intro w hSw; (try dsimp only at hSw); go_simp; try with_reducible rfl)
  try simp only [Act.put, qa, qb, qc, qD, qE, qF]
  refine qHk (v := ?_) 8 rfl (.inl ⟨by rfl, ?_⟩) ?_
  rotate_left
  ·
   (intro w hSw; (try dsimp only at hSw); go_simp; try with_reducible rfl)
  try simp only [Act.put, qa, qb, qc, qD, qE, qF]
  refine wpAnyH_ready (rs := [2, 6]) qKr (by simp) ?_
  refine AllReadyH.cons rfl (fun K hK => ?_) (AllReadyH.cons rfl (fun K hK => ?_) AllReadyH.nil)
  ·
   try simp only [Act.put, qa, qb, qc, qD, qE, qF]
   go_simp
   refine hK.out _ (w1.drew.alloc (.cells #[] 3)) ⟨(show Ext w1 (w1.drew.alloc (.cells #[] 3)) from qXt).cell b10, (show Ext w1 (w1.drew.alloc (.cells #[] 3)) from qXt).cell b11, (show Ext w1 (w1.drew.alloc (.cells #[] 3)) from qXt).cell b12⟩ (fun hHeld => ?_)
   clear hK K
   try simp only [Act.put, qa, qb, qc, qD, qE, qF]
   generalize hW2 : w1.drew.alloc (.cells #[] 3) = w1_1 at *
   have S_w1_1 : w1.heap.size < w1_1.heap.size := by subst hW2; simp
   have hx7 : Ext w1 w1_1 := by subst hW2; exact qXt
   replace X1 := X1.trans hx7
   clear hx7
   have O1_2 : OwnI w1_1 w1.heap.size (.slice (some ⟨w1.heap.size, 0, none⟩) 0 0) [] := by subst hW2; exact OwnI.lit0 _ _ (by simp)
   have Yw1_1 := Ext.refl w1_1
   clear hW2
   refine wpAnyH_ready (rs := [5, 6]) qKr (by simp) ?_
   refine AllReadyH.cons rfl (fun K hK => ?_) (AllReadyH.cons rfl (fun K hK => ?_) AllReadyH.nil)
   ·
    refine step_app0O rfl (.tmp 5) (.tmp 7) rfl rfl rfl (O1_2.ext Yw1_1) (by omega) (by exact ((h1.ext Xw1).ext (show Ext w1 w1_1 from qXt))) ?_
    intro g1_6 r1_7 w1_3 O1_4 x1_5 Eg1_6 Hg1_6
    have S_w1_3 : w1_1.heap.size ≤ w1_3.heap.size := x1_5.size
    replace Yw1_1 := Yw1_1.trans x1_5
    replace X1 := X1.trans x1_5
    have Yw1_3 := Ext.refl w1_3
    clear x1_5
    refine hK.out _ w1_3 ⟨(show Ext w1 w1_3 from qXt).cell b10, (show Ext w1 w1_3 from qXt).cell b11, (show Ext w1 w1_3 from qXt).cell b12⟩ (fun hHeld => ?_)
    clear hK K
    try simp only [Act.put, qa, qb, qc, qD, qE, qF]
    refine qHr 6 rfl (fun K hK => ?_)
    try simp only [Act.put, qa, qb, qc, qD, qE, qF]
    go_simp
    refine hK.out _ (w1_3.alloc (.cells #[] 3)) ⟨(show Ext w1 (w1_3.alloc (.cells #[] 3)) from qXt).cell b10, (show Ext w1 (w1_3.alloc (.cells #[] 3)) from qXt).cell b11, (show Ext w1 (w1_3.alloc (.cells #[] 3)) from qXt).cell b12⟩ (fun hHeld => ?_)
    clear hK K
    try simp only [Act.put, qa, qb, qc, qD, qE, qF]
    generalize hW3 : w1_3.alloc (.cells #[] 3) = w1_8 at *
    have S_w1_8 : w1_3.heap.size < w1_8.heap.size := by subst hW3; simp
    have hx7 : Ext w1_3 w1_8 := by subst hW3; exact qXt
    replace Yw1_3 := Yw1_3.trans hx7
    replace X1 := X1.trans hx7
    clear hx7
    have O1_9 : OwnI w1_8 w1_3.heap.size (.slice (some ⟨w1_3.heap.size, 0, none⟩) 0 0) [] := by subst hW3; exact OwnI.lit0 _ _ (by simp)
    have Yw1_8 := Ext.refl w1_8
    clear hW3
    refine qHr 9 rfl (fun K hK => ?_)
    refine step_app0O rfl (.tmp 9) (.tmp 11) rfl rfl rfl (O1_9.ext Yw1_8) (by omega) (by exact ((k1.ext Xw1).ext (show Ext w1 w1_8 from qXt))) ?_
    intro g1_13 r1_14 w1_10 O1_11 x1_12 Eg1_13 Hg1_13
    have S_w1_10 : w1_8.heap.size ≤ w1_10.heap.size := x1_12.size
    replace Yw1_3 := Yw1_3.trans x1_12
    replace Yw1_8 := Yw1_8.trans x1_12
    replace X1 := X1.trans x1_12
    have Yw1_10 := Ext.refl w1_10
    clear x1_12
    refine hK.out _ w1_10 ⟨(show Ext w1 w1_10 from qXt).cell b10, (show Ext w1 w1_10 from qXt).cell b11, (show Ext w1 w1_10 from qXt).cell b12⟩ (fun hHeld => ?_)
    clear hK K
    try simp only [Act.put, qa, qb, qc, qD, qE, qF]
    refine qHk (v := ?_) 10 rfl (.inl ⟨by rfl, ?_⟩) ?_
    rotate_left
    ·
     (intro w hSw; (try dsimp only at hSw); go_simp; try with_reducible rfl)
    try simp only [Act.put, qa, qb, qc, qD, qE, qF]
    refine qHr 11 rfl (fun K hK => ?_)
    try simp only [Act.put, qa, qb, qc, qD, qE, qF]
    replace b20 := X1.cell b20
    replace f_b20 := X1.frz z_b2 f_b20
    replace b21 := X1.cell b21
    replace f_b21 := X1.frz z_b2 f_b21
    replace b22 := X1.cell b22
    replace f_b22 := X1.frz z_b2 f_b22
    go_simp
    have zz := X1.size
    have K1 : Chg (w.heap.size + 1) (w.heap.size + 1 + 1) w1_10 (((w1_10.setCell ⟨w.heap.size + 1, 0, none⟩ (.int .i64 b1)).setCell ⟨w.heap.size + 1, 1, none⟩ (.slice (some ⟨g1_6, 0, none⟩) s1.length r1_7)).setCell ⟨w.heap.size + 1, 2, none⟩ (.slice (some ⟨g1_13, 0, none⟩) t1.length r1_14)) := (Chg.setCell (p := ⟨w.heap.size + 1, 2, none⟩) (Chg.setCell (p := ⟨w.heap.size + 1, 1, none⟩) (Chg.setCell (p := ⟨w.heap.size + 1, 0, none⟩) (Chg.refl (w.heap.size + 1) ((w.heap.size + 1) + 1) w1_10) (Nat.le_refl _) (Nat.lt_succ_self _) _) (Nat.le_refl _) (Nat.lt_succ_self _) _) (Nat.le_refl _) (Nat.lt_succ_self _) _)
    have n_b20 : (((w1_10.setCell ⟨w.heap.size + 1, 0, none⟩ (.int .i64 b1)).setCell ⟨w.heap.size + 1, 1, none⟩ (.slice (some ⟨g1_6, 0, none⟩) s1.length r1_7)).setCell ⟨w.heap.size + 1, 2, none⟩ (.slice (some ⟨g1_13, 0, none⟩) t1.length r1_14)).cell? ⟨w.heap.size + 1, 0, none⟩ = some (.int .i64 b1) := by go_simp
    replace f_b20 : (((w1_10.setCell ⟨w.heap.size + 1, 0, none⟩ (.int .i64 b1)).setCell ⟨w.heap.size + 1, 1, none⟩ (.slice (some ⟨g1_6, 0, none⟩) s1.length r1_7)).setCell ⟨w.heap.size + 1, 2, none⟩ (.slice (some ⟨g1_13, 0, none⟩) t1.length r1_14)).frozen? ⟨w.heap.size + 1, 0, none⟩ = false := by go_simp
    have n_b21 : (((w1_10.setCell ⟨w.heap.size + 1, 0, none⟩ (.int .i64 b1)).setCell ⟨w.heap.size + 1, 1, none⟩ (.slice (some ⟨g1_6, 0, none⟩) s1.length r1_7)).setCell ⟨w.heap.size + 1, 2, none⟩ (.slice (some ⟨g1_13, 0, none⟩) t1.length r1_14)).cell? ⟨w.heap.size + 1, 1, none⟩ = some (.slice (some ⟨g1_6, 0, none⟩) s1.length r1_7) := by go_simp
    replace f_b21 : (((w1_10.setCell ⟨w.heap.size + 1, 0, none⟩ (.int .i64 b1)).setCell ⟨w.heap.size + 1, 1, none⟩ (.slice (some ⟨g1_6, 0, none⟩) s1.length r1_7)).setCell ⟨w.heap.size + 1, 2, none⟩ (.slice (some ⟨g1_13, 0, none⟩) t1.length r1_14)).frozen? ⟨w.heap.size + 1, 1, none⟩ = false := by go_simp
    have n_b22 : (((w1_10.setCell ⟨w.heap.size + 1, 0, none⟩ (.int .i64 b1)).setCell ⟨w.heap.size + 1, 1, none⟩ (.slice (some ⟨g1_6, 0, none⟩) s1.length r1_7)).setCell ⟨w.heap.size + 1, 2, none⟩ (.slice (some ⟨g1_13, 0, none⟩) t1.length r1_14)).cell? ⟨w.heap.size + 1, 2, none⟩ = some (.slice (some ⟨g1_13, 0, none⟩) t1.length r1_14) := by go_simp
    replace f_b22 : (((w1_10.setCell ⟨w.heap.size + 1, 0, none⟩ (.int .i64 b1)).setCell ⟨w.heap.size + 1, 1, none⟩ (.slice (some ⟨g1_6, 0, none⟩) s1.length r1_7)).setCell ⟨w.heap.size + 1, 2, none⟩ (.slice (some ⟨g1_13, 0, none⟩) t1.length r1_14)).frozen? ⟨w.heap.size + 1, 2, none⟩ = false := by go_simp
    replace O1_4 := (O1_4.ext Yw1_3).chgN K1 (by omega)
    replace O1_11 := (O1_11.ext Yw1_10).chgN K1 (by omega)
    have C1 : Chg (w.heap.size + 1) (w.heap.size + 1 + 1) w1 (((w1_10.setCell ⟨w.heap.size + 1, 0, none⟩ (.int .i64 b1)).setCell ⟨w.heap.size + 1, 1, none⟩ (.slice (some ⟨g1_6, 0, none⟩) s1.length r1_7)).setCell ⟨w.heap.size + 1, 2, none⟩ (.slice (some ⟨g1_13, 0, none⟩) t1.length r1_14)) := (Chg.of_ext X1).trans K1
    clear zz K1
    have S_st : w1_10.heap.size ≤ (((w1_10.setCell ⟨w.heap.size + 1, 0, none⟩ (.int .i64 b1)).setCell ⟨w.heap.size + 1, 1, none⟩ (.slice (some ⟨g1_6, 0, none⟩) s1.length r1_7)).setCell ⟨w.heap.size + 1, 2, none⟩ (.slice (some ⟨g1_13, 0, none⟩) t1.length r1_14)).heap.size := by simp
    refine hK.out _ ((((w1_10.setCell ⟨w.heap.size + 1, 0, none⟩ (.int .i64 b1)).setCell ⟨w.heap.size + 1, 1, none⟩ (.slice (some ⟨g1_6, 0, none⟩) s1.length r1_7)).setCell ⟨w.heap.size + 1, 2, none⟩ (.slice (some ⟨g1_13, 0, none⟩) t1.length r1_14))) ⟨C1.cell (by omega) b10, C1.cell (by omega) b11, C1.cell (by omega) b12⟩ (fun hHeld => ?_)
    clear hK K
    try simp only [Act.put, qa, qb, qc, qD, qE, qF]
    refine wpAnyH_done qKr ?_ _
    clear hHeld
    have zz := X1.size
    go_step
    go_step
    go_meet
    case rel => exact ⟨g1_6, r1_7, g1_13, r1_14, C1, (by omega), (by omega), (by omega), (by omega), (by omega), (O1_4).lower (by omega), (O1_11).lower (by omega), n_b20, f_b20, n_b21, f_b21, n_b22, f_b22⟩
   ·
    try simp only [Act.put, qa, qb, qc, qD, qE, qF]
    go_simp
    refine hK.out _ (w1_1.alloc (.cells #[] 3)) ⟨(show Ext w1 (w1_1.alloc (.cells #[] 3)) from qXt).cell b10, (show Ext w1 (w1_1.alloc (.cells #[] 3)) from qXt).cell b11, (show Ext w1 (w1_1.alloc (.cells #[] 3)) from qXt).cell b12⟩ (fun hHeld => ?_)
    clear hK K
    try simp only [Act.put, qa, qb, qc, qD, qE, qF]
    generalize hW4 : w1_1.alloc (.cells #[] 3) = w1_15 at *
    have S_w1_15 : w1_1.heap.size < w1_15.heap.size := by subst hW4; simp
    have hx7 : Ext w1_1 w1_15 := by subst hW4; exact qXt
    replace Yw1_1 := Yw1_1.trans hx7
    replace X1 := X1.trans hx7
    clear hx7
    have O1_16 : OwnI w1_15 w1_1.heap.size (.slice (some ⟨w1_1.heap.size, 0, none⟩) 0 0) [] := by subst hW4; exact OwnI.lit0 _ _ (by simp)
    have Yw1_15 := Ext.refl w1_15
    clear hW4
    refine qHr 5 rfl (fun K hK => ?_)
    refine step_app0O rfl (.tmp 5) (.tmp 7) rfl rfl rfl (O1_2.ext Yw1_1) (by omega) (by exact ((h1.ext Xw1).ext (show Ext w1 w1_15 from qXt))) ?_
    intro g1_20 r1_21 w1_17 O1_18 x1_19 Eg1_20 Hg1_20
    have S_w1_17 : w1_15.heap.size ≤ w1_17.heap.size := x1_19.size
    replace Yw1_1 := Yw1_1.trans x1_19
    replace Yw1_15 := Yw1_15.trans x1_19
    replace X1 := X1.trans x1_19
    have Yw1_17 := Ext.refl w1_17
    clear x1_19
    refine hK.out _ w1_17 ⟨(show Ext w1 w1_17 from qXt).cell b10, (show Ext w1 w1_17 from qXt).cell b11, (show Ext w1 w1_17 from qXt).cell b12⟩ (fun hHeld => ?_)
    clear hK K
    try simp only [Act.put, qa, qb, qc, qD, qE, qF]
    refine qHr 9 rfl (fun K hK => ?_)
    refine step_app0O rfl (.tmp 9) (.tmp 11) rfl rfl rfl (O1_16.ext Yw1_15) (by omega) (by exact ((k1.ext Xw1).ext (show Ext w1 w1_17 from qXt))) ?_
    intro g1_25 r1_26 w1_22 O1_23 x1_24 Eg1_25 Hg1_25
    have S_w1_22 : w1_17.heap.size ≤ w1_22.heap.size := x1_24.size
    replace Yw1_15 := Yw1_15.trans x1_24
    replace Yw1_17 := Yw1_17.trans x1_24
    replace X1 := X1.trans x1_24
    have Yw1_22 := Ext.refl w1_22
    clear x1_24
    refine hK.out _ w1_22 ⟨(show Ext w1 w1_22 from qXt).cell b10, (show Ext w1 w1_22 from qXt).cell b11, (show Ext w1 w1_22 from qXt).cell b12⟩ (fun hHeld => ?_)
    clear hK K
    try simp only [Act.put, qa, qb, qc, qD, qE, qF]
    refine qHk (v := ?_) 10 rfl (.inl ⟨by rfl, ?_⟩) ?_
    rotate_left
    ·
     (intro w hSw; (try dsimp only at hSw); go_simp; try with_reducible rfl)
    try simp only [Act.put, qa, qb, qc, qD, qE, qF]
    refine qHr 11 rfl (fun K hK => ?_)
    try simp only [Act.put, qa, qb, qc, qD, qE, qF]
    replace b20 := X1.cell b20
    replace f_b20 := X1.frz z_b2 f_b20
    replace b21 := X1.cell b21
    replace f_b21 := X1.frz z_b2 f_b21
    replace b22 := X1.cell b22
    replace f_b22 := X1.frz z_b2 f_b22
    go_simp
    have zz := X1.size
    have K1 : Chg (w.heap.size + 1) (w.heap.size + 1 + 1) w1_22 (((w1_22.setCell ⟨w.heap.size + 1, 0, none⟩ (.int .i64 b1)).setCell ⟨w.heap.size + 1, 1, none⟩ (.slice (some ⟨g1_20, 0, none⟩) s1.length r1_21)).setCell ⟨w.heap.size + 1, 2, none⟩ (.slice (some ⟨g1_25, 0, none⟩) t1.length r1_26)) := (Chg.setCell (p := ⟨w.heap.size + 1, 2, none⟩) (Chg.setCell (p := ⟨w.heap.size + 1, 1, none⟩) (Chg.setCell (p := ⟨w.heap.size + 1, 0, none⟩) (Chg.refl (w.heap.size + 1) ((w.heap.size + 1) + 1) w1_22) (Nat.le_refl _) (Nat.lt_succ_self _) _) (Nat.le_refl _) (Nat.lt_succ_self _) _) (Nat.le_refl _) (Nat.lt_succ_self _) _)
    have n_b20 : (((w1_22.setCell ⟨w.heap.size + 1, 0, none⟩ (.int .i64 b1)).setCell ⟨w.heap.size + 1, 1, none⟩ (.slice (some ⟨g1_20, 0, none⟩) s1.length r1_21)).setCell ⟨w.heap.size + 1, 2, none⟩ (.slice (some ⟨g1_25, 0, none⟩) t1.length r1_26)).cell? ⟨w.heap.size + 1, 0, none⟩ = some (.int .i64 b1) := by go_simp
    replace f_b20 : (((w1_22.setCell ⟨w.heap.size + 1, 0, none⟩ (.int .i64 b1)).setCell ⟨w.heap.size + 1, 1, none⟩ (.slice (some ⟨g1_20, 0, none⟩) s1.length r1_21)).setCell ⟨w.heap.size + 1, 2, none⟩ (.slice (some ⟨g1_25, 0, none⟩) t1.length r1_26)).frozen? ⟨w.heap.size + 1, 0, none⟩ = false := by go_simp
    have n_b21 : (((w1_22.setCell ⟨w.heap.size + 1, 0, none⟩ (.int .i64 b1)).setCell ⟨w.heap.size + 1, 1, none⟩ (.slice (some ⟨g1_20, 0, none⟩) s1.length r1_21)).setCell ⟨w.heap.size + 1, 2, none⟩ (.slice (some ⟨g1_25, 0, none⟩) t1.length r1_26)).cell? ⟨w.heap.size + 1, 1, none⟩ = some (.slice (some ⟨g1_20, 0, none⟩) s1.length r1_21) := by go_simp
    replace f_b21 : (((w1_22.setCell ⟨w.heap.size + 1, 0, none⟩ (.int .i64 b1)).setCell ⟨w.heap.size + 1, 1, none⟩ (.slice (some ⟨g1_20, 0, none⟩) s1.length r1_21)).setCell ⟨w.heap.size + 1, 2, none⟩ (.slice (some ⟨g1_25, 0, none⟩) t1.length r1_26)).frozen? ⟨w.heap.size + 1, 1, none⟩ = false := by go_simp
    have n_b22 : (((w1_22.setCell ⟨w.heap.size + 1, 0, none⟩ (.int .i64 b1)).setCell ⟨w.heap.size + 1, 1, none⟩ (.slice (some ⟨g1_20, 0, none⟩) s1.length r1_21)).setCell ⟨w.heap.size + 1, 2, none⟩ (.slice (some ⟨g1_25, 0, none⟩) t1.length r1_26)).cell? ⟨w.heap.size + 1, 2, none⟩ = some (.slice (some ⟨g1_25, 0, none⟩) t1.length r1_26) := by go_simp
    replace f_b22 : (((w1_22.setCell ⟨w.heap.size + 1, 0, none⟩ (.int .i64 b1)).setCell ⟨w.heap.size + 1, 1, none⟩ (.slice (some ⟨g1_20, 0, none⟩) s1.length r1_21)).setCell ⟨w.heap.size + 1, 2, none⟩ (.slice (some ⟨g1_25, 0, none⟩) t1.length r1_26)).frozen? ⟨w.heap.size + 1, 2, none⟩ = false := by go_simp
    replace O1_18 := (O1_18.ext Yw1_17).chgN K1 (by omega)
    replace O1_23 := (O1_23.ext Yw1_22).chgN K1 (by omega)
    have C1 : Chg (w.heap.size + 1) (w.heap.size + 1 + 1) w1 (((w1_22.setCell ⟨w.heap.size + 1, 0, none⟩ (.int .i64 b1)).setCell ⟨w.heap.size + 1, 1, none⟩ (.slice (some ⟨g1_20, 0, none⟩) s1.length r1_21)).setCell ⟨w.heap.size + 1, 2, none⟩ (.slice (some ⟨g1_25, 0, none⟩) t1.length r1_26)) := (Chg.of_ext X1).trans K1
    clear zz K1
    have S_st : w1_22.heap.size ≤ (((w1_22.setCell ⟨w.heap.size + 1, 0, none⟩ (.int .i64 b1)).setCell ⟨w.heap.size + 1, 1, none⟩ (.slice (some ⟨g1_20, 0, none⟩) s1.length r1_21)).setCell ⟨w.heap.size + 1, 2, none⟩ (.slice (some ⟨g1_25, 0, none⟩) t1.length r1_26)).heap.size := by simp
    refine hK.out _ ((((w1_22.setCell ⟨w.heap.size + 1, 0, none⟩ (.int .i64 b1)).setCell ⟨w.heap.size + 1, 1, none⟩ (.slice (some ⟨g1_20, 0, none⟩) s1.length r1_21)).setCell ⟨w.heap.size + 1, 2, none⟩ (.slice (some ⟨g1_25, 0, none⟩) t1.length r1_26))) ⟨C1.cell (by omega) b10, C1.cell (by omega) b11, C1.cell (by omega) b12⟩ (fun hHeld => ?_)
    clear hK K
    try simp only [Act.put, qa, qb, qc, qD, qE, qF]
    refine wpAnyH_done qKr ?_ _
    clear hHeld
    have zz := X1.size
    go_step
    go_step
    go_meet
    case rel => exact ⟨g1_20, r1_21, g1_25, r1_26, C1, (by omega), (by omega), (by omega), (by omega), (by omega), (O1_18).lower (by omega), (O1_23).lower (by omega), n_b20, f_b20, n_b21, f_b21, n_b22, f_b22⟩
  ·
   try simp only [Act.put, qa, qb, qc, qD, qE, qF]
   go_simp
   refine hK.out _ (w1.drew.alloc (.cells #[] 3)) ⟨(show Ext w1 (w1.drew.alloc (.cells #[] 3)) from qXt).cell b10, (show Ext w1 (w1.drew.alloc (.cells #[] 3)) from qXt).cell b11, (show Ext w1 (w1.drew.alloc (.cells #[] 3)) from qXt).cell b12⟩ (fun hHeld => ?_)
   clear hK K
   try simp only [Act.put, qa, qb, qc, qD, qE, qF]
   generalize hW5 : w1.drew.alloc (.cells #[] 3) = w1_27 at *
   have S_w1_27 : w1.heap.size < w1_27.heap.size := by subst hW5; simp
   have hx7 : Ext w1 w1_27 := by subst hW5; exact qXt
   replace X1 := X1.trans hx7
   clear hx7
   have O1_28 : OwnI w1_27 w1.heap.size (.slice (some ⟨w1.heap.size, 0, none⟩) 0 0) [] := by subst hW5; exact OwnI.lit0 _ _ (by simp)
   have Yw1_27 := Ext.refl w1_27
   clear hW5
   refine qHr 2 rfl (fun K hK => ?_)
   try simp only [Act.put, qa, qb, qc, qD, qE, qF]
   go_simp
   refine hK.out _ (w1_27.alloc (.cells #[] 3)) ⟨(show Ext w1 (w1_27.alloc (.cells #[] 3)) from qXt).cell b10, (show Ext w1 (w1_27.alloc (.cells #[] 3)) from qXt).cell b11, (show Ext w1 (w1_27.alloc (.cells #[] 3)) from qXt).cell b12⟩ (fun hHeld => ?_)
   clear hK K
   try simp only [Act.put, qa, qb, qc, qD, qE, qF]
   generalize hW6 : w1_27.alloc (.cells #[] 3) = w1_29 at *
   have S_w1_29 : w1_27.heap.size < w1_29.heap.size := by subst hW6; simp
   have hx7 : Ext w1_27 w1_29 := by subst hW6; exact qXt
   replace Yw1_27 := Yw1_27.trans hx7
   replace X1 := X1.trans hx7
   clear hx7
   have O1_30 : OwnI w1_29 w1_27.heap.size (.slice (some ⟨w1_27.heap.size, 0, none⟩) 0 0) [] := by subst hW6; exact OwnI.lit0 _ _ (by simp)
   have Yw1_29 := Ext.refl w1_29
   clear hW6
   refine qHr 5 rfl (fun K hK => ?_)
   refine step_app0O rfl (.tmp 5) (.tmp 7) rfl rfl rfl (O1_30.ext Yw1_29) (by omega) (by exact ((h1.ext Xw1).ext (show Ext w1 w1_29 from qXt))) ?_
   intro g1_34 r1_35 w1_31 O1_32 x1_33 Eg1_34 Hg1_34
   have S_w1_31 : w1_29.heap.size ≤ w1_31.heap.size := x1_33.size
   replace Yw1_27 := Yw1_27.trans x1_33
   replace Yw1_29 := Yw1_29.trans x1_33
   replace X1 := X1.trans x1_33
   have Yw1_31 := Ext.refl w1_31
   clear x1_33
   refine hK.out _ w1_31 ⟨(show Ext w1 w1_31 from qXt).cell b10, (show Ext w1 w1_31 from qXt).cell b11, (show Ext w1 w1_31 from qXt).cell b12⟩ (fun hHeld => ?_)
   clear hK K
   try simp only [Act.put, qa, qb, qc, qD, qE, qF]
   refine qHr 9 rfl (fun K hK => ?_)
   refine step_app0O rfl (.tmp 9) (.tmp 11) rfl rfl rfl (O1_28.ext Yw1_27) (by omega) (by exact ((k1.ext Xw1).ext (show Ext w1 w1_31 from qXt))) ?_
   intro g1_39 r1_40 w1_36 O1_37 x1_38 Eg1_39 Hg1_39
   have S_w1_36 : w1_31.heap.size ≤ w1_36.heap.size := x1_38.size
   replace Yw1_27 := Yw1_27.trans x1_38
   replace Yw1_31 := Yw1_31.trans x1_38
   replace X1 := X1.trans x1_38
   have Yw1_36 := Ext.refl w1_36
   clear x1_38
   refine hK.out _ w1_36 ⟨(show Ext w1 w1_36 from qXt).cell b10, (show Ext w1 w1_36 from qXt).cell b11, (show Ext w1 w1_36 from qXt).cell b12⟩ (fun hHeld => ?_)
   clear hK K
   try simp only [Act.put, qa, qb, qc, qD, qE, qF]
   refine qHk (v := ?_) 10 rfl (.inl ⟨by rfl, ?_⟩) ?_
   rotate_left
   ·
    (intro w hSw; (try dsimp only at hSw); go_simp; try with_reducible rfl)
   try simp only [Act.put, qa, qb, qc, qD, qE, qF]
   refine qHr 11 rfl (fun K hK => ?_)
   try simp only [Act.put, qa, qb, qc, qD, qE, qF]
   replace b20 := X1.cell b20
   replace f_b20 := X1.frz z_b2 f_b20
   replace b21 := X1.cell b21
   replace f_b21 := X1.frz z_b2 f_b21
   replace b22 := X1.cell b22
   replace f_b22 := X1.frz z_b2 f_b22
   go_simp
   have zz := X1.size
   have K1 : Chg (w.heap.size + 1) (w.heap.size + 1 + 1) w1_36 (((w1_36.setCell ⟨w.heap.size + 1, 0, none⟩ (.int .i64 b1)).setCell ⟨w.heap.size + 1, 1, none⟩ (.slice (some ⟨g1_34, 0, none⟩) s1.length r1_35)).setCell ⟨w.heap.size + 1, 2, none⟩ (.slice (some ⟨g1_39, 0, none⟩) t1.length r1_40)) := (Chg.setCell (p := ⟨w.heap.size + 1, 2, none⟩) (Chg.setCell (p := ⟨w.heap.size + 1, 1, none⟩) (Chg.setCell (p := ⟨w.heap.size + 1, 0, none⟩) (Chg.refl (w.heap.size + 1) ((w.heap.size + 1) + 1) w1_36) (Nat.le_refl _) (Nat.lt_succ_self _) _) (Nat.le_refl _) (Nat.lt_succ_self _) _) (Nat.le_refl _) (Nat.lt_succ_self _) _)
   have n_b20 : (((w1_36.setCell ⟨w.heap.size + 1, 0, none⟩ (.int .i64 b1)).setCell ⟨w.heap.size + 1, 1, none⟩ (.slice (some ⟨g1_34, 0, none⟩) s1.length r1_35)).setCell ⟨w.heap.size + 1, 2, none⟩ (.slice (some ⟨g1_39, 0, none⟩) t1.length r1_40)).cell? ⟨w.heap.size + 1, 0, none⟩ = some (.int .i64 b1) := by go_simp
   replace f_b20 : (((w1_36.setCell ⟨w.heap.size + 1, 0, none⟩ (.int .i64 b1)).setCell ⟨w.heap.size + 1, 1, none⟩ (.slice (some ⟨g1_34, 0, none⟩) s1.length r1_35)).setCell ⟨w.heap.size + 1, 2, none⟩ (.slice (some ⟨g1_39, 0, none⟩) t1.length r1_40)).frozen? ⟨w.heap.size + 1, 0, none⟩ = false := by go_simp
   have n_b21 : (((w1_36.setCell ⟨w.heap.size + 1, 0, none⟩ (.int .i64 b1)).setCell ⟨w.heap.size + 1, 1, none⟩ (.slice (some ⟨g1_34, 0, none⟩) s1.length r1_35)).setCell ⟨w.heap.size + 1, 2, none⟩ (.slice (some ⟨g1_39, 0, none⟩) t1.length r1_40)).cell? ⟨w.heap.size + 1, 1, none⟩ = some (.slice (some ⟨g1_34, 0, none⟩) s1.length r1_35) := by go_simp
   replace f_b21 : (((w1_36.setCell ⟨w.heap.size + 1, 0, none⟩ (.int .i64 b1)).setCell ⟨w.heap.size + 1, 1, none⟩ (.slice (some ⟨g1_34, 0, none⟩) s1.length r1_35)).setCell ⟨w.heap.size + 1, 2, none⟩ (.slice (some ⟨g1_39, 0, none⟩) t1.length r1_40)).frozen? ⟨w.heap.size + 1, 1, none⟩ = false := by go_simp
   have n_b22 : (((w1_36.setCell ⟨w.heap.size + 1, 0, none⟩ (.int .i64 b1)).setCell ⟨w.heap.size + 1, 1, none⟩ (.slice (some ⟨g1_34, 0, none⟩) s1.length r1_35)).setCell ⟨w.heap.size + 1, 2, none⟩ (.slice (some ⟨g1_39, 0, none⟩) t1.length r1_40)).cell? ⟨w.heap.size + 1, 2, none⟩ = some (.slice (some ⟨g1_39, 0, none⟩) t1.length r1_40) := by go_simp
   replace f_b22 : (((w1_36.setCell ⟨w.heap.size + 1, 0, none⟩ (.int .i64 b1)).setCell ⟨w.heap.size + 1, 1, none⟩ (.slice (some ⟨g1_34, 0, none⟩) s1.length r1_35)).setCell ⟨w.heap.size + 1, 2, none⟩ (.slice (some ⟨g1_39, 0, none⟩) t1.length r1_40)).frozen? ⟨w.heap.size + 1, 2, none⟩ = false := by go_simp
   replace O1_32 := (O1_32.ext Yw1_31).chgN K1 (by omega)
   replace O1_37 := (O1_37.ext Yw1_36).chgN K1 (by omega)
   have C1 : Chg (w.heap.size + 1) (w.heap.size + 1 + 1) w1 (((w1_36.setCell ⟨w.heap.size + 1, 0, none⟩ (.int .i64 b1)).setCell ⟨w.heap.size + 1, 1, none⟩ (.slice (some ⟨g1_34, 0, none⟩) s1.length r1_35)).setCell ⟨w.heap.size + 1, 2, none⟩ (.slice (some ⟨g1_39, 0, none⟩) t1.length r1_40)) := (Chg.of_ext X1).trans K1
   clear zz K1
   have S_st : w1_36.heap.size ≤ (((w1_36.setCell ⟨w.heap.size + 1, 0, none⟩ (.int .i64 b1)).setCell ⟨w.heap.size + 1, 1, none⟩ (.slice (some ⟨g1_34, 0, none⟩) s1.length r1_35)).setCell ⟨w.heap.size + 1, 2, none⟩ (.slice (some ⟨g1_39, 0, none⟩) t1.length r1_40)).heap.size := by simp
   refine hK.out _ ((((w1_36.setCell ⟨w.heap.size + 1, 0, none⟩ (.int .i64 b1)).setCell ⟨w.heap.size + 1, 1, none⟩ (.slice (some ⟨g1_34, 0, none⟩) s1.length r1_35)).setCell ⟨w.heap.size + 1, 2, none⟩ (.slice (some ⟨g1_39, 0, none⟩) t1.length r1_40))) ⟨C1.cell (by omega) b10, C1.cell (by omega) b11, C1.cell (by omega) b12⟩ (fun hHeld => ?_)
   clear hK K
   try simp only [Act.put, qa, qb, qc, qD, qE, qF]
   refine wpAnyH_done qKr ?_ _
   clear hHeld
   have zz := X1.size
   go_step
   go_step
   go_meet
   case rel => exact ⟨g1_34, r1_35, g1_39, r1_40, C1, (by omega), (by omega), (by omega), (by omega), (by omega), (O1_32).lower (by omega), (O1_37).lower (by omega), n_b20, f_b20, n_b21, f_b21, n_b22, f_b22⟩
 case rest =>
  generalize wc = wc5 at hcut ⊢
  obtain ⟨g7, r8, g9, r10, xx6, Gg7, Hg7, Gg9, Hg9, Dg7g9, O11, O12, N_b20, M_b20, N_b21, M_b21, N_b22, M_b22⟩ := hcut
  have zc_wc5 := xx6.size
  have Xwc5 : Ext w wc5 := Ext.chg Xw1 xx6 (by omega)
  replace b10 := xx6.cell (by omega) b10
  replace b11 := xx6.cell (by omega) b11
  replace b12 := xx6.cell (by omega) b12
  replace b20 := N_b20
  clear N_b20
  replace f_b20 := M_b20
  clear M_b20
  replace b21 := N_b21
  clear N_b21
  replace f_b21 := M_b21
  clear M_b21
  replace b22 := N_b22
  clear N_b22
  replace f_b22 := M_b22
  clear M_b22
  have z_b1 : w.heap.size < wc5.heap.size := qB b10
  have z_b2 : w.heap.size + 1 < wc5.heap.size := qB b20
  have s_wc5 : w.heap.size ≤ wc5.heap.size := Xwc5.size
  clear xx6
  go_wp2_with fail
  refine bodyPost_ret (v := .agg #[.int .i64 b1, .slice (some ⟨g7, 0, none⟩) s1.length r8, .slice (some ⟨g9, 0, none⟩) t1.length r10]) (by simp only [results, Try.results94]; go_simp) rfl ?_
  exact ⟨g7, g9, _, _, rfl, O11.lower (by omega), O12.lower (by omega), by omega, by omega, by omega, by omega, by omega, (Xwc5.trans qXt)⟩


end Go.Proofs.Ytonnnjaooifpjaa

/- Walks: WindowsOf of the program. -/
namespace Go.Proofs.Ytonnnjaooifpjaa
open Go.RowKit
set_option linter.unusedVariables false
set_option maxRecDepth 100000


theorem win_no0 {b : Int} {s t : List Int} {d n : Int} (h : dimB b s t d = false) : winV b s t d n = noV := by
 unfold dimB at h
 unfold winV
 rw [if_neg]
 intro h2
 simp only [Bool.and_eq_true] at h2
 rw [h2.1, h2.2.1] at h; cases h
theorem win_no1 {b : Int} {s t : List Int} {D : Nat} {n e : Int} (he : s.getD D 0 = e) (h : n < 1 ∨ e < n) : winV b s t (D : Int) n = noV := by
 unfold winV inB
 rw [Int.toNat_natCast, he, if_neg]
 intro h2
 simp only [Bool.and_eq_true, decide_eq_true_eq] at h2
 omega
theorem win_no2 {b : Int} {s t : List Int} {d n : Int} (hl : s.length = 4) : winV b s t d n = noV := by
 unfold winV
 split
 ·
  unfold madeV
  rw [if_neg]
  intro h2
  have := (view_small h2).1
  simp at this; omega
 ·
  rfl
theorem win_yes {b : Int} {s t : List Int} {D : Nat} {n e x m : Int} (h : dimB b s t (D : Int) = true) (he : s.getD D 0 = e) (hx : t.getD D 0 = x) (h1 : 1 ≤ n) (h2 : n ≤ e) (hm : m = e - n + 1) :
  winV b s t (D : Int) n = madeV b (s.set D m ++ [n]) (t ++ [x]) := by
 subst hm
 unfold dimB at h
 rw [Bool.and_eq_true] at h
 unfold winV
 rw [Int.toNat_natCast, he, hx, h.1, h.2, if_pos (by unfold inB; simp only [Bool.true_and, Bool.and_eq_true, decide_eq_true_eq]; exact ⟨h1, h2⟩)]

set_option maxHeartbeats 6400000 in
theorem implWindowsOf_c (b1 : Int) (u1 v1 : Value) (s1 t1 : List Int) (d n : Int) (w : World) (l1 m1 : Nat) (h1 : Ints w l1 u1 s1) (k1 : Ints w m1 v1 t1) :
  Calls Try.prog 46 #[.agg #[.int .i64 b1, u1, v1], .int .i64 d, .int .i64 n] w (PVX w (winV b1 s1 t1 d n)) := by
 obtain ⟨p0, c0, rfl⟩ := h1.form
 obtain ⟨p1, c1, rfl⟩ := k1.form
 go_enter Try.func46, Try.ntmps46
 go_wp2_with fail
 refine (hasDim_c b1 (.slice p0 s1.length c0) (.slice p1 t1.length c1) s1 t1 d _ _ _ (h1.ext qXt) (k1.ext qXt)).mono ?_
 rintro e w1 ⟨rfl, xw1⟩
 have Lw1 : Ext w w1 := Ext.trans qXt xw1
 have Xw1 : Ext w w1 := Lw1
 have b10 : w1.cell? ⟨w.heap.size, 0, none⟩ = some (.int .i64 b1) := xw1.cell qCl
 have b11 : w1.cell? ⟨w.heap.size, 1, none⟩ = some (.slice p0 s1.length c0) := xw1.cell qCl
 have b12 : w1.cell? ⟨w.heap.size, 2, none⟩ = some (.slice p1 t1.length c1) := xw1.cell qCl
 have b20 : w1.cell? ⟨w.heap.size + 1, 0, none⟩ = some (.int .i64 0) := xw1.cell qCl
 have b21 : w1.cell? ⟨w.heap.size + 1, 1, none⟩ = some (.slice none 0 0) := xw1.cell qCl
 have b22 : w1.cell? ⟨w.heap.size + 1, 2, none⟩ = some (.slice none 0 0) := xw1.cell qCl
 have f_b20 : w1.frozen? ⟨w.heap.size + 1, 0, none⟩ = false := xw1.frz (by simp <;> omega) qFz
 have f_b21 : w1.frozen? ⟨w.heap.size + 1, 1, none⟩ = false := xw1.frz (by simp <;> omega) qFz
 have f_b22 : w1.frozen? ⟨w.heap.size + 1, 2, none⟩ = false := xw1.frz (by simp <;> omega) qFz
 have z_b1 : w.heap.size < w1.heap.size := qB b10
 have z_b2 : w.heap.size + 1 < w1.heap.size := qB b20
 have s_w1 : w.heap.size ≤ w1.heap.size := Xw1.size
 clear xw1
 cases hB3 : dimB b1 s1 t1 d
 ·
  replace hB3 := Lib.hid hB3
  go_wp2_with fail
  generalize hW1 : (((w1.setCell ⟨w.heap.size + 1, 0, none⟩ (.int .i64 0)).setCell ⟨w.heap.size + 1, 1, none⟩ (.slice none 0 0)).setCell ⟨w.heap.size + 1, 2, none⟩ (.slice none 0 0)) = w2 at *
  have Kw2 : Chg (w.heap.size + 1) (w.heap.size + 1 + 1) w1 w2 := by subst hW1; exact qCh
  have Xw2 : Ext w w2 := by subst hW1; exact qXt
  replace b10 := Kw2.cell (by omega) b10
  replace b11 := Kw2.cell (by omega) b11
  replace b12 := Kw2.cell (by omega) b12
  replace b20 : w2.cell? ⟨w.heap.size + 1, 0, none⟩ = some (.int .i64 0) := by subst hW1; go_simp
  replace f_b20 : w2.frozen? ⟨w.heap.size + 1, 0, none⟩ = false := by subst hW1; first | (simp only [World.frozen?_setCell]; assumption) | go_simp
  replace b21 : w2.cell? ⟨w.heap.size + 1, 1, none⟩ = some (.slice none 0 0) := by subst hW1; go_simp
  replace f_b21 : w2.frozen? ⟨w.heap.size + 1, 1, none⟩ = false := by subst hW1; first | (simp only [World.frozen?_setCell]; assumption) | go_simp
  replace b22 : w2.cell? ⟨w.heap.size + 1, 2, none⟩ = some (.slice none 0 0) := by subst hW1; go_simp
  replace f_b22 : w2.frozen? ⟨w.heap.size + 1, 2, none⟩ = false := by subst hW1; first | (simp only [World.frozen?_setCell]; assumption) | go_simp
  clear Kw2
  have z_b1 : w.heap.size < w2.heap.size := qB b10
  have z_b2 : w.heap.size + 1 < w2.heap.size := qB b20
  have s_w2 : w.heap.size ≤ w2.heap.size := Xw2.size
  clear hW1
  refine bodyPost_ret (v := .tuple #[.agg #[.int .i64 0, .slice none 0 0, .slice none 0 0], .bool false]) (by simp only [results, Try.results46]; go_simp) rfl ?_
  rw [show winV b1 s1 t1 d n = noV from win_no0 hB3.out]
  exact PVWB.no (Xw2.trans qXt)
 ·
  replace hB3 := Lib.hid hB3
  obtain ⟨hvv, hd0, hd1⟩ := dim_in hB3.out
  obtain ⟨D, rfl⟩ : ∃ D : Nat, d = D := ⟨d.toNat, by omega⟩
  have hDN : D < s1.length := by omega
  obtain ⟨-, hts, -, ht60, -⟩ := viewB_in hvv
  have hs4 := view_small hvv
  have hs60 := Lib.hid hs4.2
  have hs4 := hs4.1
  have hDT : D < t1.length := by omega
  have ht4 : t1.length ≤ 4 := by omega
  have hdl4 : (delL s1 D).length ≤ 4 := by rw [delL_len _ _ hDN]; omega
  replace hts := Lib.hid hts
  replace ht60 := Lib.hid ht60
  replace hvv := Lib.hid hvv
  have hne1 : s1 ≠ [] := fun h => by rw [h] at hDN; simp at hDN
  replace hne1 := Lib.hid hne1
  by_cases hc4 : (n : Int) < (1 : Int)
  ·
   go_wp2_with fail
   generalize hW2 : (((w1.setCell ⟨w.heap.size + 1, 0, none⟩ (.int .i64 0)).setCell ⟨w.heap.size + 1, 1, none⟩ (.slice none 0 0)).setCell ⟨w.heap.size + 1, 2, none⟩ (.slice none 0 0)) = w2 at *
   have Kw2 : Chg (w.heap.size + 1) (w.heap.size + 1 + 1) w1 w2 := by subst hW2; exact qCh
   have Xw2 : Ext w w2 := by subst hW2; exact qXt
   replace b10 := Kw2.cell (by omega) b10
   replace b11 := Kw2.cell (by omega) b11
   replace b12 := Kw2.cell (by omega) b12
   replace b20 : w2.cell? ⟨w.heap.size + 1, 0, none⟩ = some (.int .i64 0) := by subst hW2; go_simp
   replace f_b20 : w2.frozen? ⟨w.heap.size + 1, 0, none⟩ = false := by subst hW2; first | (simp only [World.frozen?_setCell]; assumption) | go_simp
   replace b21 : w2.cell? ⟨w.heap.size + 1, 1, none⟩ = some (.slice none 0 0) := by subst hW2; go_simp
   replace f_b21 : w2.frozen? ⟨w.heap.size + 1, 1, none⟩ = false := by subst hW2; first | (simp only [World.frozen?_setCell]; assumption) | go_simp
   replace b22 : w2.cell? ⟨w.heap.size + 1, 2, none⟩ = some (.slice none 0 0) := by subst hW2; go_simp
   replace f_b22 : w2.frozen? ⟨w.heap.size + 1, 2, none⟩ = false := by subst hW2; first | (simp only [World.frozen?_setCell]; assumption) | go_simp
   clear Kw2
   have z_b1 : w.heap.size < w2.heap.size := qB b10
   have z_b2 : w.heap.size + 1 < w2.heap.size := qB b20
   have s_w2 : w.heap.size ≤ w2.heap.size := Xw2.size
   clear hW2
   refine bodyPost_ret (v := .tuple #[.agg #[.int .i64 0, .slice none 0 0, .slice none 0 0], .bool false]) (by simp only [results, Try.results46]; go_simp) rfl ?_
   rw [show winV b1 s1 t1 (D : Int) n = noV from win_no1 rfl (.inl (by omega))]
   exact PVWB.no (Xw2.trans qXt)
  ·
   have hN_e7 : D < s1.length := hDN
   have hI_e7 : (D : Int) < (s1.length : Int) := by omega
   obtain ⟨bl5, ol6, rfl, e70⟩ := h1.at D hDN
   have y_e7 : bl5 < w.heap.size := qB e70
   replace e70 := Xw1.cell e70
   obtain ⟨v8, hv8⟩ : ∃ v, s1.getD D 0 = v := ⟨_, rfl⟩
   rw [hv8] at e70
   replace hv8 := Lib.hid hv8
   have z_e7 : bl5 < w1.heap.size := qB e70
   have h60v8 := hs60.out _ (getD_mem hDN)
   rw [hv8.out] at h60v8
   by_cases hc9 : (v8 : Int) < (n : Int)
   ·
    go_wp2_with fail
    generalize hW3 : (((w1.setCell ⟨w.heap.size + 1, 0, none⟩ (.int .i64 0)).setCell ⟨w.heap.size + 1, 1, none⟩ (.slice none 0 0)).setCell ⟨w.heap.size + 1, 2, none⟩ (.slice none 0 0)) = w2 at *
    have Kw2 : Chg (w.heap.size + 1) (w.heap.size + 1 + 1) w1 w2 := by subst hW3; exact qCh
    have Xw2 : Ext w w2 := by subst hW3; exact qXt
    replace b10 := Kw2.cell (by omega) b10
    replace b11 := Kw2.cell (by omega) b11
    replace b12 := Kw2.cell (by omega) b12
    replace b20 : w2.cell? ⟨w.heap.size + 1, 0, none⟩ = some (.int .i64 0) := by subst hW3; go_simp
    replace f_b20 : w2.frozen? ⟨w.heap.size + 1, 0, none⟩ = false := by subst hW3; first | (simp only [World.frozen?_setCell]; assumption) | go_simp
    replace b21 : w2.cell? ⟨w.heap.size + 1, 1, none⟩ = some (.slice none 0 0) := by subst hW3; go_simp
    replace f_b21 : w2.frozen? ⟨w.heap.size + 1, 1, none⟩ = false := by subst hW3; first | (simp only [World.frozen?_setCell]; assumption) | go_simp
    replace b22 : w2.cell? ⟨w.heap.size + 1, 2, none⟩ = some (.slice none 0 0) := by subst hW3; go_simp
    replace f_b22 : w2.frozen? ⟨w.heap.size + 1, 2, none⟩ = false := by subst hW3; first | (simp only [World.frozen?_setCell]; assumption) | go_simp
    replace e70 := Kw2.cell (by omega) e70
    clear Kw2
    have z_b1 : w.heap.size < w2.heap.size := qB b10
    have z_b2 : w.heap.size + 1 < w2.heap.size := qB b20
    have z_e7 : bl5 < w2.heap.size := qB e70
    have s_w2 : w.heap.size ≤ w2.heap.size := Xw2.size
    clear hW3
    refine bodyPost_ret (v := .tuple #[.agg #[.int .i64 0, .slice none 0 0, .slice none 0 0], .bool false]) (by simp only [results, Try.results46]; go_simp) rfl ?_
    rw [show winV b1 s1 t1 (D : Int) n = noV from win_no1 hv8.out (by omega)]
    exact PVWB.no (Xw2.trans qXt)
   ·
    by_cases hc10 : (s1.length : Int) = (4 : Int)
    ·
     have hc10e : ((s1.length : Int) == (4 : Int)) = true := by simpa using hc10
     have hc10n : ((s1.length : Int) != (4 : Int)) = false := by simpa using hc10
     replace hc10 := Lib.hid hc10
     go_wp2_with fail
     generalize hW4 : (((w1.setCell ⟨w.heap.size + 1, 0, none⟩ (.int .i64 0)).setCell ⟨w.heap.size + 1, 1, none⟩ (.slice none 0 0)).setCell ⟨w.heap.size + 1, 2, none⟩ (.slice none 0 0)) = w2 at *
     have Kw2 : Chg (w.heap.size + 1) (w.heap.size + 1 + 1) w1 w2 := by subst hW4; exact qCh
     have Xw2 : Ext w w2 := by subst hW4; exact qXt
     replace b10 := Kw2.cell (by omega) b10
     replace b11 := Kw2.cell (by omega) b11
     replace b12 := Kw2.cell (by omega) b12
     replace b20 : w2.cell? ⟨w.heap.size + 1, 0, none⟩ = some (.int .i64 0) := by subst hW4; go_simp
     replace f_b20 : w2.frozen? ⟨w.heap.size + 1, 0, none⟩ = false := by subst hW4; first | (simp only [World.frozen?_setCell]; assumption) | go_simp
     replace b21 : w2.cell? ⟨w.heap.size + 1, 1, none⟩ = some (.slice none 0 0) := by subst hW4; go_simp
     replace f_b21 : w2.frozen? ⟨w.heap.size + 1, 1, none⟩ = false := by subst hW4; first | (simp only [World.frozen?_setCell]; assumption) | go_simp
     replace b22 : w2.cell? ⟨w.heap.size + 1, 2, none⟩ = some (.slice none 0 0) := by subst hW4; go_simp
     replace f_b22 : w2.frozen? ⟨w.heap.size + 1, 2, none⟩ = false := by subst hW4; first | (simp only [World.frozen?_setCell]; assumption) | go_simp
     replace e70 := Kw2.cell (by omega) e70
     clear Kw2
     have z_b1 : w.heap.size < w2.heap.size := qB b10
     have z_b2 : w.heap.size + 1 < w2.heap.size := qB b20
     have z_e7 : bl5 < w2.heap.size := qB e70
     have s_w2 : w.heap.size ≤ w2.heap.size := Xw2.size
     clear hW4
     refine bodyPost_ret (v := .tuple #[.agg #[.int .i64 0, .slice none 0 0, .slice none 0 0], .bool false]) (by simp only [results, Try.results46]; go_simp) rfl ?_
     rw [show winV b1 s1 t1 (D : Int) n = noV from win_no2 (by have := hc10.out; omega)]
     exact PVWB.no (Xw2.trans qXt)
    ·
     have hc10e : ((s1.length : Int) == (4 : Int)) = false := by simpa using hc10
     have hc10n : ((s1.length : Int) != (4 : Int)) = true := by simpa using hc10
     replace hc10 := Lib.hid hc10
     go_wp2_with fail
     have Q17_b10 := Lib.hid b10
     have Q17_b11 := Lib.hid b11
     have Q17_b12 := Lib.hid b12
     have Q17_zb1 := z_b1
     have Q17_b20 := Lib.hid b20
     have Q17_f_b20 := Lib.hid f_b20
     have Q17_b21 := Lib.hid b21
     have Q17_f_b21 := Lib.hid f_b21
     have Q17_b22 := Lib.hid b22
     have Q17_f_b22 := Lib.hid f_b22
     have Q17_zb2 := z_b2
     have Q17_e70 := Lib.hid e70
     have Q17_ze7 := z_e7
     have BL18 : Ext w1 w1 := Ext.refl _
     refine (copyViewO_c b1 (.slice (some ⟨bl5, ol6, none⟩) s1.length c0) (.slice p1 t1.length c1) s1 t1 _ _ _ (h1.ext (Xw1.trans qXt)) (k1.ext (Xw1.trans qXt))).mono ?_
     rintro e w2 ⟨gr11, gr12, rr13, rr14, rfl, O15, O16, Ggr11, Ggr11', Ggr12, Ggr12', hggr11, xw2⟩
     have Lw2 : Ext w1 w2 := Ext.trans qXt xw2
     have Xw2 : Ext w w2 := Xw1.trans Lw2
     replace b10 := Lw2.cell b10
     replace b11 := Lw2.cell b11
     replace b12 := Lw2.cell b12
     replace b20 := Lw2.cell b20
     replace b21 := Lw2.cell b21
     replace b22 := Lw2.cell b22
     replace f_b20 := Lw2.frz z_b2 f_b20
     replace f_b21 := Lw2.frz z_b2 f_b21
     replace f_b22 := Lw2.frz z_b2 f_b22
     replace e70 := Lw2.cell e70
     have z_b1 : w.heap.size < w2.heap.size := qB b10
     have z_b2 : w.heap.size + 1 < w2.heap.size := qB b20
     have z_e7 : bl5 < w2.heap.size := qB e70
     have s_w2 : w.heap.size ≤ w2.heap.size := Xw2.size
     have BL18_w2 : Ext w1 w2 := BL18.trans Lw2
     clear xw2
     have Q19_b10 := Lib.hid b10
     have Q19_b11 := Lib.hid b11
     have Q19_b12 := Lib.hid b12
     have Q19_zb1 := z_b1
     have Q19_b20 := Lib.hid b20
     have Q19_f_b20 := Lib.hid f_b20
     have Q19_b21 := Lib.hid b21
     have Q19_f_b21 := Lib.hid f_b21
     have Q19_b22 := Lib.hid b22
     have Q19_f_b22 := Lib.hid f_b22
     have Q19_zb2 := z_b2
     have Q19_e70 := Lib.hid e70
     have Q19_ze7 := z_e7
     have Q19_O15 := Lib.hid O15
     have Q19_O16 := Lib.hid O16
     have BL20 : Ext w2 w2 := Ext.refl _
     go_upto_region 4 with fail
     generalize hW5 : w2.alloc (.cells #[.int .i64 b1, .slice (some ⟨gr11, 0, none⟩) s1.length rr13, .slice (some ⟨gr12, 0, none⟩) t1.length rr14] 25) = w3 at *
     have Lw3 : Ext w2 w3 := by subst hW5; exact qXt
     have Xw3 : Ext w w3 := Xw2.trans Lw3
     replace b10 := Lw3.cell b10
     replace b11 := Lw3.cell b11
     replace b12 := Lw3.cell b12
     replace b20 := Lw3.cell b20
     replace b21 := Lw3.cell b21
     replace b22 := Lw3.cell b22
     replace f_b20 := Lw3.frz z_b2 f_b20
     replace f_b21 := Lw3.frz z_b2 f_b21
     replace f_b22 := Lw3.frz z_b2 f_b22
     replace e70 := Lw3.cell e70
     have b210 : w3.cell? ⟨w2.heap.size, 0, none⟩ = some (.int .i64 b1) := by subst hW5; exact qCl
     have b211 : w3.cell? ⟨w2.heap.size, 1, none⟩ = some (.slice (some ⟨gr11, 0, none⟩) s1.length rr13) := by subst hW5; exact qCl
     have b212 : w3.cell? ⟨w2.heap.size, 2, none⟩ = some (.slice (some ⟨gr12, 0, none⟩) t1.length rr14) := by subst hW5; exact qCl
     have f_b210 : w3.frozen? ⟨w2.heap.size, 0, none⟩ = false := by subst hW5; exact qFz
     have f_b211 : w3.frozen? ⟨w2.heap.size, 1, none⟩ = false := by subst hW5; exact qFz
     have f_b212 : w3.frozen? ⟨w2.heap.size, 2, none⟩ = false := by subst hW5; exact qFz
     have z_b1 : w.heap.size < w3.heap.size := qB b10
     have z_b2 : w.heap.size + 1 < w3.heap.size := qB b20
     have z_e7 : bl5 < w3.heap.size := qB e70
     have z_b21 : w2.heap.size < w3.heap.size := qB b210
     replace O15 := O15.ext Lw3
     replace O16 := O16.ext Lw3
     have s_w3 : w.heap.size ≤ w3.heap.size := Xw3.size
     have BL18_w3 : Ext w1 w3 := BL18_w2.trans Lw3
     have BL20_w3 : Ext w2 w3 := BL20.trans Lw3
     clear hW5
     have hN_e24 : D < s1.length := hDN
     have hI_e24 : (D : Int) < (s1.length : Int) := by omega
     obtain ⟨b_e24, o_e24, h_e24, e240⟩ := (O15.ints (by first | omega | (simp only [List.length_set]; omega))).at D hDN
     cases h_e24
     rw [Nat.zero_add] at e240
     obtain ⟨v25, hv25⟩ : ∃ v, s1.getD D 0 = v := ⟨_, rfl⟩
     rw [hv25] at e240
     replace hv25 := Lib.hid hv25
     have y_e24 : gr11 < w3.heap.size := qB e240
     have z_e24 := y_e24
     have h60v25 := hs60.out _ (getD_mem hDN)
     rw [hv25.out] at h60v25
     have A26 := O15.cell D hDN
     obtain ⟨A26a, A26b⟩ := A26
     go_upto_region 5 with fail
     clear e70 z_e7
     clear e240 z_e24
     generalize hW6 : (w3.setCell ⟨gr11, D, none⟩ (.int .i64 (v25 - (n - 1)))) = w4 at *
     have Kw4 : Chg (gr11) (gr11 + 1) w3 w4 := by subst hW6; exact qCh
     have Xw4 : Ext w w4 := by subst hW6; exact qXt
     have BL18_w4 : Ext w1 w4 := by subst hW6; exact qXt
     replace b10 := BL18_w4.cell Q17_b10.out
     replace b11 := BL18_w4.cell Q17_b11.out
     replace b12 := BL18_w4.cell Q17_b12.out
     replace b20 := BL18_w4.cell Q17_b20.out
     replace f_b20 := BL18_w4.frz Q17_zb2 Q17_f_b20.out
     replace b21 := BL18_w4.cell Q17_b21.out
     replace f_b21 := BL18_w4.frz Q17_zb2 Q17_f_b21.out
     replace b22 := BL18_w4.cell Q17_b22.out
     replace f_b22 := BL18_w4.frz Q17_zb2 Q17_f_b22.out
     replace b210 := Kw4.cell (by omega) b210
     replace f_b210 := Kw4.frzO (by omega) z_b21 f_b210
     replace b211 := Kw4.cell (by omega) b211
     replace f_b211 := Kw4.frzO (by omega) z_b21 f_b211
     replace b212 := Kw4.cell (by omega) b212
     replace f_b212 := Kw4.frzO (by omega) z_b21 f_b212
     have n_O15 := O15.set D (v25 - (n - 1)) (by first | omega | (simp; omega) | (rw [putUp_len]; simp; omega) | (rw [addUp_len]; omega))
     rw [hW6] at n_O15
     replace O15 := n_O15
     clear n_O15
     replace O16 := O16.chgN Kw4 (by omega)
     clear Kw4
     have z_b1 : w.heap.size < w4.heap.size := qB b10
     have z_b2 : w.heap.size + 1 < w4.heap.size := qB b20
     have z_b21 : w2.heap.size < w4.heap.size := qB b210
     have s_w4 : w.heap.size ≤ w4.heap.size := Xw4.size
     clear hW6
     clear A26a A26b
     have EE : Ext w4 ((w4).alloc (.cells #[.int .i64 n] 3)) := qXt
     have SS : Ints ((w4).alloc (.cells #[.int .i64 n] 3)) 0 (.slice (some ⟨w4.heap.size, 0, none⟩) 1 1) [n] := by simpa using Ints.one (w4) 0 n (Nat.zero_le _)
     go_wp2_with (
      at_builtin
      refine wpList_app rfl (.tmp 45) (.tmp 47) rfl rfl rfl (O15.ext EE) SS (by simp only [List.length_cons, List.length_nil, List.length_set, List.length_append]; omega) (by simp <;> omega) ?_
      intro vw5 w5 ho hgr hbl hvb
      obtain ⟨gr27, nn28, rr29, rfl, hnnn28, Ggr27, Ggr27'⟩ := ho.row2 (by simp)
      have Bgr27 := own_or hvb
      simp only [World.size_alloc] at Bgr27
      have Kw5 : Chg gr11 (gr11 + 1) w4 w5 := chg_grown hgr
      have zc_w5 := Kw5.size
      clear hgr hbl hvb EE SS
      have Xw5 : Ext w w5 := Ext.chg Xw4 Kw5 (by omega)
      replace b10 := Kw5.cell (by omega) b10
      replace b11 := Kw5.cell (by omega) b11
      replace b12 := Kw5.cell (by omega) b12
      replace b20 := Kw5.cell (by omega) b20
      replace f_b20 := Kw5.frzO (by omega) z_b2 f_b20
      replace b21 := Kw5.cell (by omega) b21
      replace f_b21 := Kw5.frzO (by omega) z_b2 f_b21
      replace b22 := Kw5.cell (by omega) b22
      replace f_b22 := Kw5.frzO (by omega) z_b2 f_b22
      replace b210 := Kw5.cell (by omega) b210
      replace f_b210 := Kw5.frzO (by omega) z_b21 f_b210
      replace b211 := Kw5.cell (by omega) b211
      replace f_b211 := Kw5.frzO (by omega) z_b21 f_b211
      replace b212 := Kw5.cell (by omega) b212
      replace f_b212 := Kw5.frzO (by omega) z_b21 f_b212
      have BL18_w5 : Ext w1 w5 := Ext.chg BL18_w4 Kw5 (by omega)
      have z_b1 : w.heap.size < w5.heap.size := qB b10
      have z_b2 : w.heap.size + 1 < w5.heap.size := qB b20
      have z_b21 : w2.heap.size < w5.heap.size := qB b210
      replace O16 := O16.chgN Kw5 (by omega)
      clear O15
      have O15 := ho
      clear ho Kw5
      have s_w5 : w.heap.size ≤ w5.heap.size := Xw5.size)
     go_wp2_with fail
     generalize hW7 : (w5.setCell ⟨w2.heap.size, 1, none⟩ (.slice (some ⟨gr27, 0, none⟩) nn28 rr29)) = w6 at *
     have Kw6 : Chg (w2.heap.size) (w2.heap.size + 1) w5 w6 := by subst hW7; exact qCh
     have Xw6 : Ext w w6 := by subst hW7; exact qXt
     have BL18_w6 : Ext w1 w6 := by subst hW7; exact qXt
     replace b10 := BL18_w6.cell Q17_b10.out
     replace b11 := BL18_w6.cell Q17_b11.out
     replace b12 := BL18_w6.cell Q17_b12.out
     replace b20 := BL18_w6.cell Q17_b20.out
     replace f_b20 := BL18_w6.frz Q17_zb2 Q17_f_b20.out
     replace b21 := BL18_w6.cell Q17_b21.out
     replace f_b21 := BL18_w6.frz Q17_zb2 Q17_f_b21.out
     replace b22 := BL18_w6.cell Q17_b22.out
     replace f_b22 := BL18_w6.frz Q17_zb2 Q17_f_b22.out
     replace b210 : w6.cell? ⟨w2.heap.size, 0, none⟩ = some (.int .i64 b1) := by subst hW7; go_simp
     replace f_b210 : w6.frozen? ⟨w2.heap.size, 0, none⟩ = false := by subst hW7; first | (simp only [World.frozen?_setCell]; assumption) | go_simp
     replace b211 : w6.cell? ⟨w2.heap.size, 1, none⟩ = some (.slice (some ⟨gr27, 0, none⟩) nn28 rr29) := by subst hW7; go_simp
     replace f_b211 : w6.frozen? ⟨w2.heap.size, 1, none⟩ = false := by subst hW7; first | (simp only [World.frozen?_setCell]; assumption) | go_simp
     replace b212 : w6.cell? ⟨w2.heap.size, 2, none⟩ = some (.slice (some ⟨gr12, 0, none⟩) t1.length rr14) := by subst hW7; go_simp
     replace f_b212 : w6.frozen? ⟨w2.heap.size, 2, none⟩ = false := by subst hW7; first | (simp only [World.frozen?_setCell]; assumption) | go_simp
     replace O15 := O15.chgN Kw6 (by omega)
     replace O16 := O16.chgN Kw6 (by omega)
     clear Kw6
     have z_b1 : w.heap.size < w6.heap.size := qB b10
     have z_b2 : w.heap.size + 1 < w6.heap.size := qB b20
     have z_b21 : w2.heap.size < w6.heap.size := qB b210
     have s_w6 : w.heap.size ≤ w6.heap.size := Xw6.size
     clear hW7
     have hN_e32 : D < t1.length := hDT
     have hI_e32 : (D : Int) < (t1.length : Int) := by omega
     obtain ⟨bl30, ol31, rfl, e320⟩ := k1.at D hDT
     have y_e32 : bl30 < w.heap.size := qB e320
     replace e320 := Xw6.cell e320
     obtain ⟨v33, hv33⟩ : ∃ v, t1.getD D 0 = v := ⟨_, rfl⟩
     rw [hv33] at e320
     replace hv33 := Lib.hid hv33
     have z_e32 : bl30 < w6.heap.size := qB e320
     have h60v33 := ht60.out _ (getD_mem hDT)
     rw [hv33.out] at h60v33
     refine wp_region_tail (S := fun w' => w'.cell? ⟨w.heap.size, 2, none⟩ = some (.slice (some ⟨bl30, ol31, none⟩) t1.length c1) ∧ w'.cell? ⟨w2.heap.size, 2, none⟩ = some (.slice (some ⟨gr12, 0, none⟩) t1.length rr14) ∧ w'.cell? ⟨bl30, ol31 + D, none⟩ = some (.int .i64 v33)) (fun i => decide (10 ≤ i)) qKr ⟨b12, b212, e320⟩ (fun hHeld => ?_)
     refine qTk (v := ?_) 0 rfl (.inl ⟨by rfl, ?_⟩) ?_
     rotate_left
     ·
      (intro w hSw; (try dsimp only at hSw); go_simp; try with_reducible rfl)
     try simp only [Act.put, qa, qb, qc, qD, qE, qF]
     refine qTk (v := ?_) 1 rfl (.inl ⟨by rfl, ?_⟩) ?_
     rotate_left
     ·
      (intro w hSw; (try dsimp only at hSw); go_simp; try with_reducible rfl)
     try simp only [Act.put, qa, qb, qc, qD, qE, qF]
     refine qTk (v := ?_) 2 rfl (.inl ⟨by rfl, ?_⟩) ?_
     rotate_left
     ·
      (intro w hSw; (try dsimp only at hSw); go_simp; try with_reducible rfl)
     try simp only [Act.put, qa, qb, qc, qD, qE, qF]
     refine qTk (v := ?_) 3 rfl (.inl ⟨by rfl, ?_⟩) ?_
     rotate_left
     ·
      (intro w hSw; (try dsimp only at hSw); go_simp; try with_reducible rfl)
     try simp only [Act.put, qa, qb, qc, qD, qE, qF]
     refine qTk (v := ?_) 4 rfl (.inl ⟨by rfl, ?_⟩) ?_
     rotate_left
     ·
      (intro w hSw; (try dsimp only at hSw); go_simp; try with_reducible rfl)
     try simp only [Act.put, qa, qb, qc, qD, qE, qF]
     refine qTk (v := ?_) 5 rfl (.inl ⟨by rfl, ?_⟩) ?_
     rotate_left
     ·
      (intro w hSw; (try dsimp only at hSw); go_simp; try with_reducible rfl)
     try simp only [Act.put, qa, qb, qc, qD, qE, qF]
     refine qTk (v := ?_) 6 rfl (.inl ⟨by rfl, ?_⟩) ?_
     rotate_left
     ·
      (intro w hSw; (try dsimp only at hSw); go_simp; try with_reducible rfl)
     try simp only [Act.put, qa, qb, qc, qD, qE, qF]
     refine wpTail_one (i := 7) qKr rfl rfl (fun K hK => ?_)
     try simp only [Act.put, qa, qb, qc, qD, qE, qF]
     go_simp
     refine hK.out _ (w6.drew.alloc (.cells #[.int .i64 v33] 3)) ⟨(show Ext w6 (w6.drew.alloc (.cells #[.int .i64 v33] 3)) from qXt).cell b12, (show Ext w6 (w6.drew.alloc (.cells #[.int .i64 v33] 3)) from qXt).cell b212, (show Ext w6 (w6.drew.alloc (.cells #[.int .i64 v33] 3)) from qXt).cell e320⟩ (fun hHeld => ?_)
     clear hK K
     try simp only [Act.put, qa, qb, qc, qD, qE, qF]
     refine wpTail_one (i := 8) qKr rfl rfl (fun K hK => ?_)
     have EE : Ext w6 ((w6.drew).alloc (.cells #[.int .i64 v33] 3)) := qXt
     have SS : Ints ((w6.drew).alloc (.cells #[.int .i64 v33] 3)) 0 (.slice (some ⟨w6.heap.size, 0, none⟩) 1 1) [v33] := by simpa using Ints.one (w6.drew) 0 v33 (Nat.zero_le _)
     refine step_app rfl (.tmp 51) (.tmp 57) rfl rfl rfl (by exact O16.ext EE) (by exact SS) (by simp only [List.length_cons, List.length_nil, List.length_set, List.length_append]; omega) (by simp <;> omega) ?_
     intro vw7 w7 ho hgr hbl hvb
     obtain ⟨gr37, nn38, rr39, rfl, hnnn38, Ggr37, Ggr37'⟩ := ho.row2 (by simp)
     have Bgr37 := own_or hvb
     simp only [World.size_alloc, World.size_drew] at Bgr37
     have Kw7 : Chg gr12 (gr12 + 1) w6 w7 := chg_grownD hgr
     have zc_w7 := Kw7.size
     clear hgr hbl hvb EE SS
     have Xw7 : Ext w w7 := Ext.chg Xw6 Kw7 (by omega)
     replace b10 := Kw7.cell (by omega) b10
     replace b11 := Kw7.cell (by omega) b11
     replace b12 := Kw7.cell (by omega) b12
     replace b20 := Kw7.cell (by omega) b20
     replace f_b20 := Kw7.frzO (by omega) z_b2 f_b20
     replace b21 := Kw7.cell (by omega) b21
     replace f_b21 := Kw7.frzO (by omega) z_b2 f_b21
     replace b22 := Kw7.cell (by omega) b22
     replace f_b22 := Kw7.frzO (by omega) z_b2 f_b22
     replace b210 := Kw7.cell (by omega) b210
     replace f_b210 := Kw7.frzO (by omega) z_b21 f_b210
     replace b211 := Kw7.cell (by omega) b211
     replace f_b211 := Kw7.frzO (by omega) z_b21 f_b211
     replace b212 := Kw7.cell (by omega) b212
     replace f_b212 := Kw7.frzO (by omega) z_b21 f_b212
     replace e320 := Kw7.cell (by omega) e320
     have BL18_w7 : Ext w1 w7 := Ext.chg BL18_w6 Kw7 (by omega)
     have z_b1 : w.heap.size < w7.heap.size := qB b10
     have z_b2 : w.heap.size + 1 < w7.heap.size := qB b20
     have z_b21 : w2.heap.size < w7.heap.size := qB b210
     have z_e32 : bl30 < w7.heap.size := qB e320
     replace O15 := O15.chgN Kw7 (by omega)
     clear O16
     have O16 := ho
     clear ho Kw7
     have s_w7 : w.heap.size ≤ w7.heap.size := Xw7.size
     refine hK.out _ _ ⟨b12, b212, e320⟩ (fun hHeld => ?_)
     clear hK K
     try simp only [Act.put, qa, qb, qc, qD, qE, qF]
     refine qTk (v := ?_) 9 rfl (.inl ⟨by rfl, ?_⟩) ?_
     rotate_left
     ·
      (intro w hSw; (try dsimp only at hSw); go_simp; try with_reducible rfl)
     try simp only [Act.put, qa, qb, qc, qD, qE, qF]
     refine wpTail_last (i := 10) qKr rfl rfl (fun K hK => ?_)
     try simp only [Act.put, qa, qb, qc, qD, qE, qF]
     go_simp
     refine hK.out _ _ ?_
     clear hK K
     try simp only [Act.put, qa, qb, qc, qD, qE, qF]
     refine wpTail_done qKr ?_ _
     clear hHeld 
     generalize hW8 : (w7.setCell ⟨w2.heap.size, 2, none⟩ (.slice (some ⟨gr37, 0, none⟩) nn38 rr39)) = w8 at *
     have Kw8 : Chg (w2.heap.size) (w2.heap.size + 1) w7 w8 := by subst hW8; exact qCh
     have Xw8 : Ext w w8 := by subst hW8; exact qXt
     have BL18_w8 : Ext w1 w8 := by subst hW8; exact qXt
     replace b10 := Kw8.cell (by omega) b10
     replace b11 := Kw8.cell (by omega) b11
     replace b12 := Kw8.cell (by omega) b12
     replace b20 := BL18_w8.cell Q17_b20.out
     replace f_b20 := BL18_w8.frz Q17_zb2 Q17_f_b20.out
     replace b21 := BL18_w8.cell Q17_b21.out
     replace f_b21 := BL18_w8.frz Q17_zb2 Q17_f_b21.out
     replace b22 := BL18_w8.cell Q17_b22.out
     replace f_b22 := BL18_w8.frz Q17_zb2 Q17_f_b22.out
     replace b210 : w8.cell? ⟨w2.heap.size, 0, none⟩ = some (.int .i64 b1) := by subst hW8; go_simp
     replace f_b210 : w8.frozen? ⟨w2.heap.size, 0, none⟩ = false := by subst hW8; first | (simp only [World.frozen?_setCell]; assumption) | go_simp
     replace b211 : w8.cell? ⟨w2.heap.size, 1, none⟩ = some (.slice (some ⟨gr27, 0, none⟩) nn28 rr29) := by subst hW8; go_simp
     replace f_b211 : w8.frozen? ⟨w2.heap.size, 1, none⟩ = false := by subst hW8; first | (simp only [World.frozen?_setCell]; assumption) | go_simp
     replace b212 : w8.cell? ⟨w2.heap.size, 2, none⟩ = some (.slice (some ⟨gr37, 0, none⟩) nn38 rr39) := by subst hW8; go_simp
     replace f_b212 : w8.frozen? ⟨w2.heap.size, 2, none⟩ = false := by subst hW8; first | (simp only [World.frozen?_setCell]; assumption) | go_simp
     replace e320 := Kw8.cell (by omega) e320
     replace O15 := O15.chgN Kw8 (by omega)
     replace O16 := O16.chgN Kw8 (by omega)
     clear Kw8
     have z_b1 : w.heap.size < w8.heap.size := qB b10
     have z_b2 : w.heap.size + 1 < w8.heap.size := qB b20
     have z_b21 : w2.heap.size < w8.heap.size := qB b210
     have z_e32 : bl30 < w8.heap.size := qB e320
     have s_w8 : w.heap.size ≤ w8.heap.size := Xw8.size
     clear hW8
     go_wp2_with fail
     refine (isView_c b1 (.slice (some ⟨gr27, 0, none⟩) nn28 rr29) (.slice (some ⟨gr37, 0, none⟩) nn38 rr39) (s1.set D (v25 - (n - 1)) ++ [n]) (t1 ++ [v33]) _ _ _ ((O15.ints (by simp only [List.length_cons, List.length_nil, List.length_set, List.length_append]; omega)).ext qXt) ((O16.ints (by simp only [List.length_cons, List.length_nil, List.length_set, List.length_append]; omega)).ext qXt)).mono ?_
     rintro e w9 ⟨rfl, xw9⟩
     have Lw9 : Ext w8 w9 := Ext.trans qXt xw9
     have Xw9 : Ext w w9 := Xw8.trans Lw9
     replace b10 := Lw9.cell b10
     replace b11 := Lw9.cell b11
     replace b12 := Lw9.cell b12
     replace b20 := Lw9.cell b20
     replace b21 := Lw9.cell b21
     replace b22 := Lw9.cell b22
     replace f_b20 := Lw9.frz z_b2 f_b20
     replace f_b21 := Lw9.frz z_b2 f_b21
     replace f_b22 := Lw9.frz z_b2 f_b22
     replace b210 := Lw9.cell b210
     replace b211 := Lw9.cell b211
     replace b212 := Lw9.cell b212
     replace f_b210 := Lw9.frz z_b21 f_b210
     replace f_b211 := Lw9.frz z_b21 f_b211
     replace f_b212 := Lw9.frz z_b21 f_b212
     replace e320 := Lw9.cell e320
     have z_b1 : w.heap.size < w9.heap.size := qB b10
     have z_b2 : w.heap.size + 1 < w9.heap.size := qB b20
     have z_b21 : w2.heap.size < w9.heap.size := qB b210
     have z_e32 : bl30 < w9.heap.size := qB e320
     replace O15 := O15.ext Lw9
     replace O16 := O16.ext Lw9
     have s_w9 : w.heap.size ≤ w9.heap.size := Xw9.size
     have BL18_w9 : Ext w1 w9 := BL18_w8.trans Lw9
     clear xw9
     cases hB40 : viewB b1 (s1.set D (v25 - (n - 1)) ++ [n]) (t1 ++ [v33])
     ·
      replace hB40 := Lib.hid hB40
      go_wp2_with fail
      generalize hW9 : (((w9.setCell ⟨w.heap.size + 1, 0, none⟩ (.int .i64 0)).setCell ⟨w.heap.size + 1, 1, none⟩ (.slice none 0 0)).setCell ⟨w.heap.size + 1, 2, none⟩ (.slice none 0 0)) = w10 at *
      have Kw10 : Chg (w.heap.size + 1) (w.heap.size + 1 + 1) w9 w10 := by subst hW9; exact qCh
      have Xw10 : Ext w w10 := by subst hW9; exact qXt
      replace b10 := Kw10.cell (by omega) b10
      replace b11 := Kw10.cell (by omega) b11
      replace b12 := Kw10.cell (by omega) b12
      replace b20 : w10.cell? ⟨w.heap.size + 1, 0, none⟩ = some (.int .i64 0) := by subst hW9; go_simp
      replace f_b20 : w10.frozen? ⟨w.heap.size + 1, 0, none⟩ = false := by subst hW9; first | (simp only [World.frozen?_setCell]; assumption) | go_simp
      replace b21 : w10.cell? ⟨w.heap.size + 1, 1, none⟩ = some (.slice none 0 0) := by subst hW9; go_simp
      replace f_b21 : w10.frozen? ⟨w.heap.size + 1, 1, none⟩ = false := by subst hW9; first | (simp only [World.frozen?_setCell]; assumption) | go_simp
      replace b22 : w10.cell? ⟨w.heap.size + 1, 2, none⟩ = some (.slice none 0 0) := by subst hW9; go_simp
      replace f_b22 : w10.frozen? ⟨w.heap.size + 1, 2, none⟩ = false := by subst hW9; first | (simp only [World.frozen?_setCell]; assumption) | go_simp
      replace b210 := Kw10.cell (by omega) b210
      replace f_b210 := Kw10.frzO (by omega) z_b21 f_b210
      replace b211 := Kw10.cell (by omega) b211
      replace f_b211 := Kw10.frzO (by omega) z_b21 f_b211
      replace b212 := Kw10.cell (by omega) b212
      replace f_b212 := Kw10.frzO (by omega) z_b21 f_b212
      replace e320 := Kw10.cell (by omega) e320
      replace O15 := O15.chgN Kw10 (by omega)
      replace O16 := O16.chgN Kw10 (by omega)
      clear Kw10
      have z_b1 : w.heap.size < w10.heap.size := qB b10
      have z_b2 : w.heap.size + 1 < w10.heap.size := qB b20
      have z_b21 : w2.heap.size < w10.heap.size := qB b210
      have z_e32 : bl30 < w10.heap.size := qB e320
      have s_w10 : w.heap.size ≤ w10.heap.size := Xw10.size
      clear hW9
      refine bodyPost_ret (v := .tuple #[.agg #[.int .i64 0, .slice none 0 0, .slice none 0 0], .bool false]) (by simp only [results, Try.results46]; go_simp) rfl ?_
      have h9 := hv8.out.symm.trans hv25.out
      rw [win_yes (m := v25 - (n - 1)) hB3.out hv25.out hv33.out (by omega) (by omega) (by omega)]
      rw [show madeV b1 (s1.set D (v25 - (n - 1)) ++ [n]) (t1 ++ [v33]) = noV from by unfold madeV; rw [hB40.out]; rfl]
      exact PVWB.no (Xw10.trans qXt)
     ·
      replace hB40 := Lib.hid hB40
      go_wp2_with fail
      generalize hW10 : (((w9.setCell ⟨w.heap.size + 1, 0, none⟩ (.int .i64 b1)).setCell ⟨w.heap.size + 1, 1, none⟩ (.slice (some ⟨gr27, 0, none⟩) nn28 rr29)).setCell ⟨w.heap.size + 1, 2, none⟩ (.slice (some ⟨gr37, 0, none⟩) nn38 rr39)) = w10 at *
      have Kw10 : Chg (w.heap.size + 1) (w.heap.size + 1 + 1) w9 w10 := by subst hW10; exact qCh
      have Xw10 : Ext w w10 := by subst hW10; exact qXt
      replace b10 := Kw10.cell (by omega) b10
      replace b11 := Kw10.cell (by omega) b11
      replace b12 := Kw10.cell (by omega) b12
      replace b20 : w10.cell? ⟨w.heap.size + 1, 0, none⟩ = some (.int .i64 b1) := by subst hW10; go_simp
      replace f_b20 : w10.frozen? ⟨w.heap.size + 1, 0, none⟩ = false := by subst hW10; first | (simp only [World.frozen?_setCell]; assumption) | go_simp
      replace b21 : w10.cell? ⟨w.heap.size + 1, 1, none⟩ = some (.slice (some ⟨gr27, 0, none⟩) nn28 rr29) := by subst hW10; go_simp
      replace f_b21 : w10.frozen? ⟨w.heap.size + 1, 1, none⟩ = false := by subst hW10; first | (simp only [World.frozen?_setCell]; assumption) | go_simp
      replace b22 : w10.cell? ⟨w.heap.size + 1, 2, none⟩ = some (.slice (some ⟨gr37, 0, none⟩) nn38 rr39) := by subst hW10; go_simp
      replace f_b22 : w10.frozen? ⟨w.heap.size + 1, 2, none⟩ = false := by subst hW10; first | (simp only [World.frozen?_setCell]; assumption) | go_simp
      replace b210 := Kw10.cell (by omega) b210
      replace f_b210 := Kw10.frzO (by omega) z_b21 f_b210
      replace b211 := Kw10.cell (by omega) b211
      replace f_b211 := Kw10.frzO (by omega) z_b21 f_b211
      replace b212 := Kw10.cell (by omega) b212
      replace f_b212 := Kw10.frzO (by omega) z_b21 f_b212
      replace e320 := Kw10.cell (by omega) e320
      replace O15 := O15.chgN Kw10 (by omega)
      replace O16 := O16.chgN Kw10 (by omega)
      clear Kw10
      have z_b1 : w.heap.size < w10.heap.size := qB b10
      have z_b2 : w.heap.size + 1 < w10.heap.size := qB b20
      have z_b21 : w2.heap.size < w10.heap.size := qB b210
      have z_e32 : bl30 < w10.heap.size := qB e320
      have s_w10 : w.heap.size ≤ w10.heap.size := Xw10.size
      clear hW10
      refine bodyPost_ret (v := .tuple #[.agg #[.int .i64 b1, .slice (some ⟨gr27, 0, none⟩) nn28 rr29, .slice (some ⟨gr37, 0, none⟩) nn38 rr39], .bool true]) (by simp only [results, Try.results46]; go_simp) rfl ?_
      have h9 := hv8.out.symm.trans hv25.out
      rw [win_yes (m := v25 - (n - 1)) hB3.out hv25.out hv33.out (by omega) (by omega) (by omega)]
      rw [show madeV b1 (s1.set D (v25 - (n - 1)) ++ [n]) (t1 ++ [v33]) = (b1, s1.set D (v25 - (n - 1)) ++ [n], t1 ++ [v33], true) from by unfold madeV; rw [hB40.out]; rfl]
      exact ⟨_, _, rfl, (O15.ints (by simp only [List.length_cons, List.length_nil, List.length_set, List.length_append]; omega)).lower (by omega), (O16.ints (by simp only [List.length_cons, List.length_nil, List.length_set, List.length_append]; omega)).lower (by omega), (Xw10.trans qXt)⟩


end Go.Proofs.Ytonnnjaooifpjaa

/- Plain laws: orders and their inverses, cells of views with their dimensions in another order. -/
namespace Go.Proofs.Ytonnnjaooifpjaa
open Go.RowKit
set_option linter.unusedVariables false
set_option maxRecDepth 100000

theorem permV_in {b : Int} {s t ord : List Int} (h : (permV b s t ord).2.2.2 = true) : viewB b s t = true ∧ orderB ord s.length = true ∧ permV b s t ord = (b, takL s ord, takL t ord, true) ∧ viewB b (takL s ord) (takL t ord) = true := by
  cases hv : viewB b s t with
  | false => exact absurd h (by unfold permV; rw [hv]; simp [noV])
  | true =>
    cases ho : orderB ord s.length with
    | false => exact absurd h (by unfold permV; rw [hv, ho]; simp [noV])
    | true =>
      have h2 := (perm_view hv ho).1
      exact ⟨rfl, rfl, by unfold permV madeV; rw [hv, ho, h2]; rfl, h2⟩
theorem takL_get (L ord : List Int) (i : Nat) (hi : i < ord.length) : (takL L ord).getD i 0 = L.getD (ord.getD i 0).toNat 0 := by
  unfold takL; simp [hi]
/-- the inverse of an order -/
def invO (ord : List Int) : List Int := putL (List.replicate ord.length 0) ord (upL ord.length)
theorem inv_len (ord : List Int) : (invO ord).length = ord.length := by unfold invO putL; rw [putUp_len]; simp
theorem upL_get (n i : Nat) (h : i < n) : (upL n).getD i 0 = (i : Int) := by simp [upL, h]
theorem inv_at {ord : List Int} {n : Nat} (ho : orderB ord n = true) (i : Nat) (hi : i < n) : (invO ord).getD (ord.getD i 0).toNat 0 = (i : Int) := by
  obtain ⟨h1, h2, h3⟩ := orderB_in ho
  unfold invO
  rw [put_last _ _ _ (fun x hx => by have := h2 x hx; simp; omega) i (by omega) ?_, upL_get _ _ (by omega)]
  cases hc : (ord.drop (i + 1)).contains (ord.getD i 0) with
  | false => rfl
  | true =>
    have hm := List.contains_iff_mem.1 hc
    have hd : ord.drop i = ord.getD i 0 :: ord.drop (i+1) := by rw [List.drop_eq_getElem_cons (by omega)]; simp [show i < ord.length by omega]
    have hn : (ord.drop i).Nodup := h3.sublist (List.drop_sublist _ _)
    rw [hd, List.nodup_cons] at hn
    exact absurd hm hn.1
theorem ord_idx {ord : List Int} {n : Nat} (ho : orderB ord n = true) (j : Nat) (hj : j < n) : ∃ i, i < n ∧ ord.getD i 0 = (j : Int) := by
  have hm : (j : Int) ∈ ord := (order_perm ho).mem_iff.2 ((upL_mem n j).2 (by omega))
  obtain ⟨i, hi, he⟩ := List.mem_iff_getElem.1 hm
  have := (orderB_in ho).1
  exact ⟨i, by omega, by simp [hi, he]⟩
theorem inv_take {ord L : List Int} {n : Nat} (ho : orderB ord n = true) (hL : L.length = n) : takL (takL L ord) (invO ord) = L := by
  have h1 := (orderB_in ho).1
  apply List.ext_getElem
  · rw [takL_len, inv_len]; omega
  · intro j h2 h3
    have hj : j < n := by omega
    obtain ⟨i, hi, he⟩ := ord_idx ho j hj
    have e1 : (takL (takL L ord) (invO ord))[j] = (takL (takL L ord) (invO ord)).getD j 0 := by simp [h2]
    have e2 := inv_at ho i hi
    rw [he, Int.toNat_natCast] at e2
    rw [e1, takL_get _ _ _ (by rw [inv_len]; omega), e2, Int.toNat_natCast, takL_get _ _ _ (by omega), he, Int.toNat_natCast]
    simp [h3]
theorem inv_order {ord : List Int} {n : Nat} (ho : orderB ord n = true) : orderB (invO ord) n = true := by
  have h1 := (orderB_in ho).1
  have hv : ∀ j, j < n → ∃ i, i < n ∧ (invO ord).getD j 0 = (i : Int) ∧ ord.getD i 0 = (j : Int) := by
    intro j hj
    obtain ⟨i, hi, he⟩ := ord_idx ho j hj
    have e2 := inv_at ho i hi
    rw [he, Int.toNat_natCast] at e2
    exact ⟨i, hi, e2, he⟩
  have hl := inv_len ord
  have hg : ∀ j (h : j < (invO ord).length), (invO ord)[j] = (invO ord).getD j 0 := fun j h => by simp [h]
  refine order_of (perm_of_sub _ _ ?_ (upL_nodup n) ?_ (by rw [hl, h1, upL_len]))
  · rw [List.nodup_iff_pairwise_ne, List.pairwise_iff_getElem]
    intro i j hi hj hij he
    rw [hg i hi, hg j hj] at he
    obtain ⟨a, ha, a1, a2⟩ := hv i (by omega)
    obtain ⟨c, hc, c1, c2⟩ := hv j (by omega)
    rw [a1, c1] at he
    have : a = c := by omega
    subst this
    rw [a2] at c2; omega
  · intro x hx
    obtain ⟨j, hj, he⟩ := List.mem_iff_getElem.1 hx
    obtain ⟨i, hi, e1, _⟩ := hv j (by omega)
    rw [← he, hg j hj, e1, upL_mem]; omega
theorem dotC_sum : ∀ (r t : List Int) (b : Int), dotC b r t = b + ((r.zip t).map fun p => p.1 * p.2).sum
  | [], t, b => by cases t <;> simp [dotC]
  | x :: r, [], b => by simp [dotC]
  | x :: r, y :: t, b => by simp only [dotC, List.zip_cons_cons, List.map_cons, List.sum_cons]; rw [dotC_sum r t b]; omega
theorem dot_perm {b : Int} {r t ord : List Int} (hl : t.length = r.length) (ho : orderB ord r.length = true) : dotC b (takL r ord) (takL t ord) = dotC b r t := by
  rw [dotC_sum, dotC_sum, perm_sum ((zip_perm hl ho).map _)]
theorem ix_perm {s r ord : List Int} (h : IxOf s r) (ho : orderB ord s.length = true) : IxOf (takL s ord) (takL r ord) := by
  have hl := h.len
  rw [ixOf_ok _ _ (by rw [takL_len, takL_len])]
  rw [ixOf_ok _ _ hl] at h
  intro j hj
  rw [takL_len] at hj
  rw [takL_get _ _ _ hj, takL_get _ _ _ hj]
  have := (orderB_in ho).2.1 _ (getD_mem hj)
  exact h _ (by omega)
theorem perm_law {b : Int} {s t ord : List Int} (h : (permV b s t ord).2.2.2 = true) :
    permV b s t ord = (b, takL s ord, takL t ord, true) ∧ ord.length = s.length ∧ s.length ≤ 4 ∧ (∀ x ∈ ord, 0 ≤ x ∧ x < s.length) ∧ t.length = s.length ∧
    permV b (takL s ord) (takL t ord) (invO ord) = (b, s, t, true) ∧ shapeB s = true ∧ (0 ≤ countL s ∧ countL s ≤ 60) ∧
    (∀ k : Nat, (k : Int) < countL s → (idxA s k).length = s.length ∧ okA b (takL s ord) (takL t ord) (takL (idxA s k) ord) = true ∧ okA b s t (idxA s k) = true ∧ atA b (takL s ord) (takL t ord) (takL (idxA s k) ord) = atA b s t (idxA s k)) := by
  obtain ⟨hv, ho, he, hv2⟩ := permV_in h
  obtain ⟨h1, h2, h3⟩ := orderB_in ho
  have hs := view_small hv
  obtain ⟨g1, g2, -⟩ := viewB_in hv
  have hc := shapeB_in g1
  have hlt : t.length = s.length := g2
  have hp2 : permV b (takL s ord) (takL t ord) (invO ord) = (b, s, t, true) := by
    unfold permV madeV
    rw [hv2, takL_len, h1, inv_order ho, inv_take ho rfl, inv_take ho hlt, hv]; rfl
  refine ⟨he, h1, hs.1, h2, hlt, hp2, g1, by omega, fun k hk => ?_⟩
  have hix : IxOf s (unrL s k).1 := ix_unr s (hs.count.2.2.2 (by omega)) k
  have ei : idxA s (k : Int) = (unrL s k).1 := by unfold idxA; rw [g1, if_pos (by simp only [Bool.true_and, Bool.and_eq_true, decide_eq_true_eq]; omega)]
  rw [ei]
  have hix2 := ix_perm hix ho
  have o1 : okA b s t (unrL s k).1 = true := by unfold okA; rw [hv, (ixB_iff _ _).2 hix]; rfl
  have o2 : okA b (takL s ord) (takL t ord) (takL (unrL s k).1 ord) = true := by unfold okA; rw [hv2, (ixB_iff _ _).2 hix2]; rfl
  have hil := hix.len
  refine ⟨hil, o2, o1, ?_⟩
  unfold atA
  rw [if_pos o1, if_pos o2, dot_ix hv hix, dot_ix hv2 hix2]
  exact dot_perm (by omega) (by rw [hil]; exact ho)

end Go.Proofs.Ytonnnjaooifpjaa

/- Plain laws: windows of a dimension are slices of it. -/
namespace Go.Proofs.Ytonnnjaooifpjaa
open Go.RowKit
set_option linter.unusedVariables false
set_option maxRecDepth 100000

theorem mask_snoc : ∀ (s t : List Int) (e x : Int), t.length = s.length → maskR (s ++ [e]) (t ++ [x]) = maskR s t ++ [if 1 < e then x else 0]
  | [], [], e, x, _ => rfl
  | f :: s, y :: t, e, x, h => by rw [List.cons_append, List.cons_append, maskR, maskR, List.cons_append, mask_snoc s t e x (by simpa using h)]
  | [], y :: t, _, _, h => by simp at h
  | f :: s, [], _, _, h => by simp at h
theorem off_last {b : Int} {s t : List Int} {e x y : Int} (hl : t.length = s.length) (h : e ≤ 1 ∨ x = y) : offC b (s ++ [e]) (t ++ [x]) = offC b (s ++ [e]) (t ++ [y]) := by
  rcases h with h | rfl
  · rw [← mask_off (s ++ [e]) (t ++ [x]) b (by simp [hl]), ← mask_off (s ++ [e]) (t ++ [y]) b (by simp [hl]), mask_snoc s t e x hl, mask_snoc s t e y hl, if_neg (by omega), if_neg (by omega)]
  · rfl
theorem del_snoc (l : List Int) (D : Nat) (y : Int) (h : D < l.length) : delL (l ++ [y]) D = delL l D ++ [y] := by
  unfold delL
  rw [List.take_append_of_le_length (by omega), List.drop_append_of_le_length (by omega), List.append_assoc]
theorem del_set (l : List Int) (D : Nat) (y : Int) : delL (l.set D y) D = delL l D := by
  unfold delL
  rw [List.take_set_of_le (Nat.le_refl _), List.drop_set_of_lt (by omega)]
theorem del_map (f : Int → Int) (l : List Int) (D : Nat) : (delL l D).map f = delL (l.map f) D := by unfold delL; rw [List.map_append, List.map_take, List.map_drop]
theorem del_perm (l : List Int) (D : Nat) (h : D < l.length) : (delL l D ++ [l.getD D 0]).Perm l := by
  conv => rhs; rw [← List.take_append_drop D l, List.drop_eq_getElem_cons h]
  unfold delL
  rw [List.append_assoc, getD_get h]
  exact List.Perm.append_left _ (List.perm_append_singleton _ _)
theorem last_order (n D : Nat) (h : D < n) : orderB (delL (upL n) D ++ [(D : Int)]) n = true := by
  have := del_perm (upL n) D (by rw [upL_len]; exact h)
  rw [upL_get n D h] at this
  exact order_of this
theorem last_take (L : List Int) (D : Nat) (h : D < L.length) : takL L (delL (upL L.length) D ++ [(D : Int)]) = delL L D ++ [L.getD D 0] := by
  have e : ∀ l : List Int, takL L l = l.map fun i => L.getD i.toNat 0 := fun l => rfl
  rw [e, List.map_append, del_map, ← e, take_up]; simp
theorem idx_win {e i n : Int} (h0 : 0 ≤ i) (h1 : 1 ≤ n) (h2 : i + n ≤ e) : idxS e i (i + n) 1 true true = numL i (i + n) 1 := by
  have h3 : fromI e i 1 true = i := by unfold fromI boundI; simp; omega
  have h4 : toI e (i + n) 1 true = i + n := by unfold toI boundI; simp; omega
  unfold idxS; rw [h3, h4]
theorem win_len {i n : Int} (h1 : 1 ≤ n) : ((numL i (i + n) 1).length : Int) = n := by
  rw [numL_len]; unfold cntL
  rw [if_pos (by omega)]; simp; omega
theorem win_mem {i n e : Int} (h0 : 0 ≤ i) (h1 : 1 ≤ n) (h2 : i + n ≤ e) : ∀ k ∈ numL i (i + n) 1, 0 ≤ k ∧ k < e := by
  intro k hk
  have hl := win_len (i := i) h1
  rw [numL_len] at hl
  unfold numL at hk
  obtain ⟨q, hq, rfl⟩ := List.mem_map.1 hk
  have := List.mem_range.1 hq
  omega
theorem count_snoc {s : List Int} {D : Nat} {n : Int} (h1 : Small (s.set D n)) (h2 : Small (delL s D ++ [n])) (hD : D < s.length) : countL (delL s D ++ [n]) = countL (s.set D n) := by
  rw [h1.count.1, h2.count.1, prodL_append, prodL_set s D n hD]
  unfold delL
  rw [prodL_append]
  show prodL (s.take D) * prodL (s.drop (D+1)) * (n * 1) = _
  rw [Int.mul_one, Int.mul_assoc, Int.mul_comm (prodL (s.drop (D+1))) n]
theorem win_law {b : Int} {s t : List Int} {d n : Int} {PB : Int} {PS PT : List Int} (h : winV b s t d n = (PB, PS, PT, true)) :
    ∃ D : Nat, d = (D : Int) ∧ D < s.length ∧ s.length ≤ 3 ∧ D < PS.length ∧ 1 ≤ n ∧ n ≤ s.getD D 0 ∧ s.getD D 0 ≤ 60 ∧ PS.getD D 0 = s.getD D 0 - n + 1 ∧ viewB b s t = true ∧
      ∀ i : Nat, (i : Int) < PS.getD D 0 → ∃ QB QS QT RB RS RT UB US UT, pickV PB PS PT (D : Int) (i : Int) = (QB, QS, QT, true) ∧ sliceV b s t (D : Int) (i : Int) ((i : Int) + n) 1 true true = (RB, RS, RT, true) ∧
        permV RB RS RT (delL (upL s.length) D ++ [(D : Int)]) = (UB, US, UT, true) ∧ sameV QB QS QT UB US UT = true := by
  unfold winV at h
  split at h
  · rename_i h1
    simp only [Bool.and_eq_true, inB, decide_eq_true_eq] at h1
    obtain ⟨hv, ⟨hd0, hd1⟩, hn1, hn2⟩ := h1
    obtain ⟨D, rfl⟩ : ∃ D : Nat, d = D := ⟨d.toNat, by omega⟩
    rw [Int.toNat_natCast] at h hn2
    have hD : D < s.length := by omega
    obtain ⟨g1, g2, g3, g4, g5⟩ := viewB_in hv
    have hs := view_small hv
    have hDt : D < t.length := by omega
    have he := hs.2 _ (getD_mem hD)
    obtain ⟨e, hse⟩ : ∃ e, s.getD D 0 = e := ⟨_, rfl⟩
    obtain ⟨x, htx⟩ : ∃ x, t.getD D 0 = x := ⟨_, rfl⟩
    rw [hse] at h hn2 he
    rw [htx] at h
    unfold madeV at h
    split at h
    · rename_i hw
      cases h
      have hw4 := (view_small hw).1
      rw [List.length_append, List.length_set, List.length_singleton] at hw4
      have hSl : D < (s.set D (e - n + 1) ++ [n]).length := by rw [List.length_append, List.length_set, List.length_singleton]; omega
      have hS : (s.set D (e - n + 1) ++ [n]).getD D 0 = e - n + 1 := by
        rw [List.getD_eq_getElem?_getD, List.getElem?_append_left (by simpa using hD)]; simp [hD]
      have hT : (t ++ [x]).getD D 0 = x := by
        rw [List.getD_eq_getElem?_getD, List.getElem?_append_left hDt, ← List.getD_eq_getElem?_getD, htx]
      have hdS : delL (s.set D (e - n + 1) ++ [n]) D = delL s D ++ [n] := by rw [del_snoc _ _ _ (by simpa using hD), del_set]
      have hdT : delL (t ++ [x]) D = delL t D ++ [x] := del_snoc _ _ _ hDt
      refine ⟨D, rfl, hD, by omega, hSl, hn1, by rw [hse]; exact hn2, by rw [hse]; exact he.2, by rw [hse]; exact hS, hv, fun i hi => ?_⟩
      rw [hS] at hi
      have hdim : dimB b (s.set D (e - n + 1) ++ [n]) (t ++ [x]) (D : Int) = true := by unfold dimB inB; rw [hw]; simp; omega
      have hdim2 : dimB b s t (D : Int) = true := by unfold dimB inB; rw [hv]; simp; omega
      have hp := pick_yes (i := (i : Int)) (j := (i : Int)) hdim hS hT (by rw [if_neg (by omega)]) (by omega) hi
      obtain ⟨pv1, pv2⟩ := pick_view hw hSl (show (0 : Int) ≤ i by omega) (by rw [hS]; exact hi)
      rw [hT] at pv1 pv2
      rw [hdS, hdT] at hp pv1 pv2
      have hsl : sliceB (i : Int) ((i : Int) + n) 1 true true = true := by unfold sliceB inB; simp; omega
      have hq := slice_yes hdim2 hsl
      rw [hse, idx_win (show (0 : Int) ≤ i by omega) hn1 (show (i : Int) + n ≤ e by omega)] at hq
      have hcv := (cut_view hv hD (show (1 : Int) ≠ 0 by omega) (a := (i : Int)) (e := (i : Int) + n) (by rw [hse]; exact win_mem (by omega) hn1 (by omega))).1
      have hLl := win_len (i := (i : Int)) hn1
      obtain ⟨n1, n2, n3⟩ := norm_two (a := (i : Int)) (b := (i : Int) + n) (s := 1) (by omega)
      generalize numL (i : Int) ((i : Int) + n) 1 = L at *
      have hn0 := n1 (by omega)
      have eS : cutS s D L = s.set D n := by unfold cutS; rw [hLl]
      have eB : cutB b s t D L = tidyB (b + (i : Int) * x) (s.set D n) := by unfold cutB; rw [hn0, hLl, htx]
      obtain ⟨X, hX⟩ : ∃ X, (if L.length ≤ 1 then 0 else (normL L).2.2 * x) = X := ⟨_, rfl⟩
      have eT : cutT s t D L = tidyT (s.set D n) (t.set D X) := by unfold cutT; rw [hLl, htx, hX]
      have hXx : n ≤ 1 ∨ x = X := by
        by_cases h2 : L.length ≤ 1
        · left; omega
        · right; rw [if_neg h2, n3 (by omega), Int.one_mul] at hX; exact hX
      rw [eS, eB, eT] at hq hcv
      have hsn := small_set hs D (x := n) (by omega)
      have hcnt := count_snoc hsn (view_small pv1) hD
      obtain ⟨RT, hRT⟩ : ∃ RT, tidyT (s.set D n) (t.set D X) = RT := ⟨_, rfl⟩
      obtain ⟨RB, hRB⟩ : ∃ RB, tidyB (b + (i : Int) * x) (s.set D n) = RB := ⟨_, rfl⟩
      rw [hRT, hRB] at hq hcv
      have hord : orderB (delL (upL s.length) D ++ [(D : Int)]) (s.set D n).length = true := by rw [List.length_set]; exact last_order _ _ hD
      obtain ⟨pm, -⟩ := perm_view hcv hord
      have tS : takL (s.set D n) (delL (upL s.length) D ++ [(D : Int)]) = delL s D ++ [n] := by
        have := last_take (s.set D n) D (by simpa using hD)
        rw [List.length_set, del_set] at this
        rw [this]; simp [hD]
      have hRTl : RT.length = s.length := by have := (viewB_in hcv).2.1; rw [List.length_set] at this; exact this
      have tT : takL RT (delL (upL s.length) D ++ [(D : Int)]) = delL RT D ++ [RT.getD D 0] := by
        have := last_take RT D (by omega)
        rw [hRTl] at this
        exact this
      have hpv : permV RB (s.set D n) RT (delL (upL s.length) D ++ [(D : Int)]) = (RB, delL s D ++ [n], delL RT D ++ [RT.getD D 0], true) := by
        unfold permV madeV
        rw [hcv, hord, pm, tS, tT]; rfl
      rw [tS, tT] at pm
      refine ⟨_, _, _, _, _, _, _, _, _, hp, hq, hpv, sameV_of pv1 pm ?_⟩
      by_cases hz : countL (s.set D n) = 0
      · rw [offs_none (by rw [hcnt]; exact hz), offs_none (by rw [hcnt]; exact hz)]
      · rw [pv2, if_neg (by rw [hcnt]; exact hz), view_C pm]
        unfold tidyT at hRT; unfold tidyB at hRB
        rw [if_neg hz] at hRT hRB
        subst hRT; subst hRB
        rw [del_set, show (t.set D X).getD D 0 = X by simp [hDt]]
        exact off_last (by rw [delL_len _ _ hDt, delL_len _ _ hD]; omega) hXx
    · unfold noV at h; cases h
  · unfold noV at h; cases h
end Go.Proofs.Ytonnnjaooifpjaa

/- FnWindowsOf returns true for all bytes: no condition. -/
namespace Go.Proofs.Ytonnnjaooifpjaa
open Go.RowKit
set_option linter.unusedVariables false
set_option maxRecDepth 100000

set_option maxHeartbeats 6400000 in
theorem lawFnWindowsOf_c (a : Option Addr) (n cap : Nat) (w : World) (hb : BysIn w a n cap) :
  Calls Try.prog 8 #[.slice a n cap] w fun e w' => e = .returned (.bool true) ∧ Ext w w' := by
 have hcm := hb.1
 have hcm2 := hb.2.1
 unfold maxLen at hcm2
 go_enter Try.func8, Try.ntmps8
 by_cases hc1 : (1048576 : Int) < (n : Int)
 ·
  go_wp2_with fail
  go_ret
  exact ⟨rfl, qXo⟩
 ·
  go_wp2_with fail
  refine (drawWindowsOf_c a n cap _ hb).mono ?_
  rintro e w1 ⟨b, s, t, p1, p2, r1, r2, d, x, rfl, i1, i2, l1, l2, hd5, hx5, xw1⟩
  have Lw1 : Ext w w1 := Ext.trans qXt xw1
  have Xw1 : Ext w w1 := Lw1
  have s_w1 : w.heap.size ≤ w1.heap.size := Xw1.size
  clear xw1
  clear hb
  obtain ⟨PB, PS, PT, PO, hP⟩ : ∃ PB PS PT PO, winV b s t d x = (PB, PS, PT, PO) := ⟨_, _, _, _, rfl⟩
  cases PO
  ·
   replace hP := Lib.hid hP
   go_wp2_with fail
   refine (pvx_eq hP.out (implWindowsOf_c b (.slice p1 s.length r1) (.slice p2 t.length r2) s t d x _ _ _ (i1.ext qXt) (i2.ext qXt))).mono ?_
   rintro e w2 ⟨fv3u, fv3v, rfl, i4u, i4v, xw2⟩
   have Lw2 : Ext w1 w2 := Ext.trans qXt xw2
   have Xw2 : Ext w w2 := Xw1.trans Lw2
   have b20 : w2.cell? ⟨w1.heap.size, 0, none⟩ = some (.int .i64 b) := xw2.cell qCl
   have b21 : w2.cell? ⟨w1.heap.size, 1, none⟩ = some (.slice p1 s.length r1) := xw2.cell qCl
   have b22 : w2.cell? ⟨w1.heap.size, 2, none⟩ = some (.slice p2 t.length r2) := xw2.cell qCl
   have z_b2 : w1.heap.size < w2.heap.size := qB b20
   replace i1 := i1.ext Lw2
   replace i2 := i2.ext Lw2
   have s_w2 : w.heap.size ≤ w2.heap.size := Xw2.size
   clear xw2
   try simp only [World.size_alloc, World.size_drew] at i4u
   try simp only [World.size_alloc, World.size_drew] at i4v
   obtain ⟨afv3u, cfv3u, rfl⟩ := i4u.form
   obtain ⟨afv3v, cfv3v, rfl⟩ := i4v.form
   go_wp2_with fail
   refine (pv_eq hP.out (specWindowsOf_c b (.slice p1 s.length r1) (.slice p2 t.length r2) s t d x _ _ _ (i1.ext qXt) (i2.ext qXt) (by omega))).mono ?_
   rintro e w3 ⟨fv6u, fv6v, rfl, i7u, i7v, -, -, -, xw3⟩
   have Lw3 : Ext w2 w3 := Ext.trans qXt xw3
   have Xw3 : Ext w w3 := Xw2.trans Lw3
   replace b20 := Lw3.cell b20
   replace b21 := Lw3.cell b21
   replace b22 := Lw3.cell b22
   have b50 : w3.cell? ⟨w2.heap.size, 0, none⟩ = some (.int .i64 PB) := xw3.cell qCl
   have b51 : w3.cell? ⟨w2.heap.size, 1, none⟩ = some (.slice afv3u PS.length cfv3u) := xw3.cell qCl
   have b52 : w3.cell? ⟨w2.heap.size, 2, none⟩ = some (.slice afv3v PT.length cfv3v) := xw3.cell qCl
   have z_b2 : w1.heap.size < w3.heap.size := qB b20
   have z_b5 : w2.heap.size < w3.heap.size := qB b50
   replace i1 := i1.ext Lw3
   replace i2 := i2.ext Lw3
   replace i4u := i4u.ext Lw3
   replace i4v := i4v.ext Lw3
   have s_w3 : w.heap.size ≤ w3.heap.size := Xw3.size
   clear xw3
   try simp only [World.size_alloc, World.size_drew] at i7u
   try simp only [World.size_alloc, World.size_drew] at i7v
   obtain ⟨afv6u, cfv6u, rfl⟩ := i7u.form
   obtain ⟨afv6v, cfv6v, rfl⟩ := i7v.form
   go_wp2_with fail
   refine (leqView_c PB (.slice afv3u PS.length cfv3u) (.slice afv3v PT.length cfv3v) (.slice afv6u PS.length cfv6u) (.slice afv6v PT.length cfv6v) PS PT _ _ _ _ _ (i4u.ext qXt) (i4v.ext qXt) (i7u.ext qXt) (i7v.ext qXt)).mono ?_
   rintro e w4 ⟨rfl, xw4⟩
   have Lw4 : Ext w3 w4 := Ext.trans qXt xw4
   have Xw4 : Ext w w4 := Xw3.trans Lw4
   replace b20 := Lw4.cell b20
   replace b21 := Lw4.cell b21
   replace b22 := Lw4.cell b22
   replace b50 := Lw4.cell b50
   replace b51 := Lw4.cell b51
   replace b52 := Lw4.cell b52
   have b80 : w4.cell? ⟨w3.heap.size, 0, none⟩ = some (.int .i64 PB) := xw4.cell qCl
   have b81 : w4.cell? ⟨w3.heap.size, 1, none⟩ = some (.slice afv6u PS.length cfv6u) := xw4.cell qCl
   have b82 : w4.cell? ⟨w3.heap.size, 2, none⟩ = some (.slice afv6v PT.length cfv6v) := xw4.cell qCl
   have z_b2 : w1.heap.size < w4.heap.size := qB b20
   have z_b5 : w2.heap.size < w4.heap.size := qB b50
   have z_b8 : w3.heap.size < w4.heap.size := qB b80
   replace i1 := i1.ext Lw4
   replace i2 := i2.ext Lw4
   replace i4u := i4u.ext Lw4
   replace i4v := i4v.ext Lw4
   replace i7u := i7u.ext Lw4
   replace i7v := i7v.ext Lw4
   have s_w4 : w.heap.size ≤ w4.heap.size := Xw4.size
   clear xw4
   go_wp2_with fail
   refine (leqView_c PB (.slice afv3u PS.length cfv3u) (.slice afv3v PT.length cfv3v) (.slice afv6u PS.length cfv6u) (.slice afv6v PT.length cfv6v) PS PT _ _ _ _ _ (i4u.ext qXt) (i4v.ext qXt) (i7u.ext qXt) (i7v.ext qXt)).mono ?_
   rintro e w5 ⟨rfl, xw5⟩
   have Lw5 : Ext w4 w5 := Ext.trans qXt xw5
   have Xw5 : Ext w w5 := Xw4.trans Lw5
   replace b20 := Lw5.cell b20
   replace b21 := Lw5.cell b21
   replace b22 := Lw5.cell b22
   replace b50 := Lw5.cell b50
   replace b51 := Lw5.cell b51
   replace b52 := Lw5.cell b52
   replace b80 := Lw5.cell b80
   replace b81 := Lw5.cell b81
   replace b82 := Lw5.cell b82
   have z_b2 : w1.heap.size < w5.heap.size := qB b20
   have z_b5 : w2.heap.size < w5.heap.size := qB b50
   have z_b8 : w3.heap.size < w5.heap.size := qB b80
   replace i1 := i1.ext Lw5
   replace i2 := i2.ext Lw5
   replace i4u := i4u.ext Lw5
   replace i4v := i4v.ext Lw5
   replace i7u := i7u.ext Lw5
   replace i7v := i7v.ext Lw5
   have s_w5 : w.heap.size ≤ w5.heap.size := Xw5.size
   clear xw5
   go_wp2_with fail
   go_ret
   exact ⟨rfl, (Xw5.trans qXt)⟩
  ·
   obtain ⟨D, rfl, hDs, hs3, hDN, hx1, hxe, he60, hE, hvv, hfin⟩ := win_law hP
   obtain ⟨W, hW⟩ : ∃ W, upL s.length = W := ⟨_, rfl⟩
   have hWl : W.length = s.length := by rw [← hW, upL_len]
   have hDW : D < W.length := by omega
   have hdW : (delL W D).length ≤ 4 := by rw [delL_len _ _ hDW]; omega
   rw [hW] at hfin
   obtain ⟨E, hEE⟩ : ∃ E, PS.getD D 0 = E := ⟨_, rfl⟩
   rw [hEE] at hE hfin
   have hE60 : E ≤ 60 := by omega
   have hE0 : 0 ≤ E := by omega
   have hx60 : x ≤ 60 := by omega
   replace hE := Lib.hid hE
   replace hxe := Lib.hid hxe
   replace he60 := Lib.hid he60
   replace hEE := Lib.hid hEE
   replace hfin := Lib.hid hfin
   replace hW := Lib.hid hW
   replace hWl := Lib.hid hWl
   replace hP := Lib.hid hP
   go_wp2_with fail
   refine (pvx_eq hP.out (implWindowsOf_c b (.slice p1 s.length r1) (.slice p2 t.length r2) s t (D : Int) x _ _ _ (i1.ext qXt) (i2.ext qXt))).mono ?_
   rintro e w2 ⟨fv10u, fv10v, rfl, i11u, i11v, xw2⟩
   have Lw2 : Ext w1 w2 := Ext.trans qXt xw2
   have Xw2 : Ext w w2 := Xw1.trans Lw2
   have b90 : w2.cell? ⟨w1.heap.size, 0, none⟩ = some (.int .i64 b) := xw2.cell qCl
   have b91 : w2.cell? ⟨w1.heap.size, 1, none⟩ = some (.slice p1 s.length r1) := xw2.cell qCl
   have b92 : w2.cell? ⟨w1.heap.size, 2, none⟩ = some (.slice p2 t.length r2) := xw2.cell qCl
   have z_b9 : w1.heap.size < w2.heap.size := qB b90
   replace i1 := i1.ext Lw2
   replace i2 := i2.ext Lw2
   have s_w2 : w.heap.size ≤ w2.heap.size := Xw2.size
   clear xw2
   try simp only [World.size_alloc, World.size_drew] at i11u
   try simp only [World.size_alloc, World.size_drew] at i11v
   obtain ⟨afv10u, cfv10u, rfl⟩ := i11u.form
   obtain ⟨afv10v, cfv10v, rfl⟩ := i11v.form
   go_wp2_with fail
   refine (pv_eq hP.out (specWindowsOf_c b (.slice p1 s.length r1) (.slice p2 t.length r2) s t (D : Int) x _ _ _ (i1.ext qXt) (i2.ext qXt) (by omega))).mono ?_
   rintro e w3 ⟨fv13u, fv13v, rfl, i14u, i14v, -, -, -, xw3⟩
   have Lw3 : Ext w2 w3 := Ext.trans qXt xw3
   have Xw3 : Ext w w3 := Xw2.trans Lw3
   replace b90 := Lw3.cell b90
   replace b91 := Lw3.cell b91
   replace b92 := Lw3.cell b92
   have b120 : w3.cell? ⟨w2.heap.size, 0, none⟩ = some (.int .i64 PB) := xw3.cell qCl
   have b121 : w3.cell? ⟨w2.heap.size, 1, none⟩ = some (.slice afv10u PS.length cfv10u) := xw3.cell qCl
   have b122 : w3.cell? ⟨w2.heap.size, 2, none⟩ = some (.slice afv10v PT.length cfv10v) := xw3.cell qCl
   have z_b9 : w1.heap.size < w3.heap.size := qB b90
   have z_b12 : w2.heap.size < w3.heap.size := qB b120
   replace i1 := i1.ext Lw3
   replace i2 := i2.ext Lw3
   replace i11u := i11u.ext Lw3
   replace i11v := i11v.ext Lw3
   have s_w3 : w.heap.size ≤ w3.heap.size := Xw3.size
   clear xw3
   try simp only [World.size_alloc, World.size_drew] at i14u
   try simp only [World.size_alloc, World.size_drew] at i14v
   obtain ⟨afv13u, cfv13u, rfl⟩ := i14u.form
   obtain ⟨afv13v, cfv13v, rfl⟩ := i14v.form
   go_wp2_with fail
   refine (leqView_c PB (.slice afv10u PS.length cfv10u) (.slice afv10v PT.length cfv10v) (.slice afv13u PS.length cfv13u) (.slice afv13v PT.length cfv13v) PS PT _ _ _ _ _ (i11u.ext qXt) (i11v.ext qXt) (i14u.ext qXt) (i14v.ext qXt)).mono ?_
   rintro e w4 ⟨rfl, xw4⟩
   have Lw4 : Ext w3 w4 := Ext.trans qXt xw4
   have Xw4 : Ext w w4 := Xw3.trans Lw4
   replace b90 := Lw4.cell b90
   replace b91 := Lw4.cell b91
   replace b92 := Lw4.cell b92
   replace b120 := Lw4.cell b120
   replace b121 := Lw4.cell b121
   replace b122 := Lw4.cell b122
   have b150 : w4.cell? ⟨w3.heap.size, 0, none⟩ = some (.int .i64 PB) := xw4.cell qCl
   have b151 : w4.cell? ⟨w3.heap.size, 1, none⟩ = some (.slice afv13u PS.length cfv13u) := xw4.cell qCl
   have b152 : w4.cell? ⟨w3.heap.size, 2, none⟩ = some (.slice afv13v PT.length cfv13v) := xw4.cell qCl
   have z_b9 : w1.heap.size < w4.heap.size := qB b90
   have z_b12 : w2.heap.size < w4.heap.size := qB b120
   have z_b15 : w3.heap.size < w4.heap.size := qB b150
   replace i1 := i1.ext Lw4
   replace i2 := i2.ext Lw4
   replace i11u := i11u.ext Lw4
   replace i11v := i11v.ext Lw4
   replace i14u := i14u.ext Lw4
   replace i14v := i14v.ext Lw4
   have s_w4 : w.heap.size ≤ w4.heap.size := Xw4.size
   clear xw4
   go_wp2_with fail
   go_loopw [10, 11, 12, 13, 14, 15, 16, 17] (fun i y1 y2 y3 y4 y5 y6 y7 wb => ∃ (q : Nat), (q : Int) ≤ E ∧ i = .int .i64 q ∧ Ext w4 wb) (fun i _ _ _ _ _ _ _ _ => E.toNat - (intOf i).toNat)
   case atStart => exact ⟨0, by omega, rfl, qXt⟩
   case round =>
    generalize wr = wb at hrel ⊢
    obtain ⟨q, hq, rfl, Lwb⟩ := hrel
    have Xwb : Ext w wb := Xw4.trans Lwb
    have s_wb : w.heap.size ≤ wb.heap.size := Xwb.size
    have t_wb : w4.heap.size ≤ wb.heap.size := Lwb.size
    replace b90 := Lwb.cell b90
    replace b91 := Lwb.cell b91
    replace b92 := Lwb.cell b92
    replace b120 := Lwb.cell b120
    replace b121 := Lwb.cell b121
    replace b122 := Lwb.cell b122
    replace b150 := Lwb.cell b150
    replace b151 := Lwb.cell b151
    replace b152 := Lwb.cell b152
    have z_b9 : w1.heap.size < wb.heap.size := qB b90
    have z_b12 : w2.heap.size < wb.heap.size := qB b120
    have z_b15 : w3.heap.size < wb.heap.size := qB b150
    replace i1 := i1.ext Lwb
    replace i2 := i2.ext Lwb
    replace i11u := i11u.ext Lwb
    replace i11v := i11v.ext Lwb
    replace i14u := i14u.ext Lwb
    replace i14v := i14v.ext Lwb
    have Bwb : Ext w4 wb := Lwb
    by_cases hlt : (q : Int) < E
    ·
     obtain ⟨QB, QS, QT, RB, RS, RT, UB, US, UT, hf1, hf2, hf3, hf4⟩ := hfin.out q hlt
     replace hf1 := Lib.hid hf1
     replace hf2 := Lib.hid hf2
     replace hf3 := Lib.hid hf3
     replace hf4 := Lib.hid hf4
     have hN_e18 : D < PS.length := hDN
     have hI_e18 : (D : Int) < (PS.length : Int) := by omega
     obtain ⟨bl16, ol17, rfl, e180⟩ := i11u.at D hDN
     obtain ⟨v19, hv19⟩ : ∃ v, PS.getD D 0 = v := ⟨_, rfl⟩
     rw [hv19] at e180
     replace hv19 := Lib.hid hv19
     have y_e18 : bl16 < wb.heap.size := qB e180
     have z_e18 := y_e18
     obtain rfl : E = v19 := hEE.out.symm.trans hv19.out
     go_wp2_with fail
     refine (pvx_eq hf1.out (implPickDim_c PB (.slice (some ⟨bl16, ol17, none⟩) PS.length cfv10u) (.slice afv10v PT.length cfv10v) PS PT (D : Int) (q : Int) _ _ _ (i11u.ext qXt) (i11v.ext qXt) (by omega))).mono ?_
     rintro e w5 ⟨fv20u, fv20v, rfl, i21u, i21v, xw5⟩
     have Lw5 : Ext wb w5 := Ext.trans qXt xw5
     have Xw5 : Ext w w5 := Xwb.trans Lw5
     replace b90 := Lw5.cell b90
     replace b91 := Lw5.cell b91
     replace b92 := Lw5.cell b92
     replace b120 := Lw5.cell b120
     replace b121 := Lw5.cell b121
     replace b122 := Lw5.cell b122
     replace b150 := Lw5.cell b150
     replace b151 := Lw5.cell b151
     replace b152 := Lw5.cell b152
     replace e180 := Lw5.cell e180
     have z_b9 : w1.heap.size < w5.heap.size := qB b90
     have z_b12 : w2.heap.size < w5.heap.size := qB b120
     have z_b15 : w3.heap.size < w5.heap.size := qB b150
     have z_e18 : bl16 < w5.heap.size := qB e180
     replace i1 := i1.ext Lw5
     replace i2 := i2.ext Lw5
     replace i11u := i11u.ext Lw5
     replace i11v := i11v.ext Lw5
     replace i14u := i14u.ext Lw5
     replace i14v := i14v.ext Lw5
     have s_w5 : w.heap.size ≤ w5.heap.size := Xw5.size
     have Bwb_w5 : Ext w4 w5 := Bwb.trans Lw5
     clear xw5
     obtain ⟨afv20u, cfv20u, rfl⟩ := i21u.form
     obtain ⟨afv20v, cfv20v, rfl⟩ := i21v.form
     go_wp2_with fail
     refine (pvx_eq hf2.out (implSliceDim_c b (.slice p1 s.length r1) (.slice p2 t.length r2) s t (D : Int) (q : Int) ((q : Int) + x) 1 true true _ _ _ (i1.ext qXt) (i2.ext qXt))).mono ?_
     rintro e w6 ⟨fv23u, fv23v, rfl, i24u, i24v, xw6⟩
     have Lw6 : Ext w5 w6 := Ext.trans qXt xw6
     have Xw6 : Ext w w6 := Xw5.trans Lw6
     replace b90 := Lw6.cell b90
     replace b91 := Lw6.cell b91
     replace b92 := Lw6.cell b92
     replace b120 := Lw6.cell b120
     replace b121 := Lw6.cell b121
     replace b122 := Lw6.cell b122
     replace b150 := Lw6.cell b150
     replace b151 := Lw6.cell b151
     replace b152 := Lw6.cell b152
     replace e180 := Lw6.cell e180
     have b220 : w6.cell? ⟨w5.heap.size, 0, none⟩ = some (.int .i64 QB) := xw6.cell qCl
     have b221 : w6.cell? ⟨w5.heap.size, 1, none⟩ = some (.slice afv20u QS.length cfv20u) := xw6.cell qCl
     have b222 : w6.cell? ⟨w5.heap.size, 2, none⟩ = some (.slice afv20v QT.length cfv20v) := xw6.cell qCl
     have z_b9 : w1.heap.size < w6.heap.size := qB b90
     have z_b12 : w2.heap.size < w6.heap.size := qB b120
     have z_b15 : w3.heap.size < w6.heap.size := qB b150
     have z_e18 : bl16 < w6.heap.size := qB e180
     have z_b22 : w5.heap.size < w6.heap.size := qB b220
     replace i1 := i1.ext Lw6
     replace i2 := i2.ext Lw6
     replace i11u := i11u.ext Lw6
     replace i11v := i11v.ext Lw6
     replace i14u := i14u.ext Lw6
     replace i14v := i14v.ext Lw6
     replace i21u := i21u.ext Lw6
     replace i21v := i21v.ext Lw6
     have s_w6 : w.heap.size ≤ w6.heap.size := Xw6.size
     have Bwb_w6 : Ext w4 w6 := Bwb_w5.trans Lw6
     clear xw6
     try simp only [World.size_alloc, World.size_drew] at i24u
     try simp only [World.size_alloc, World.size_drew] at i24v
     obtain ⟨afv23u, cfv23u, rfl⟩ := i24u.form
     obtain ⟨afv23v, cfv23v, rfl⟩ := i24v.form
     go_wp2_with fail
     refine (pi_eq hW.out (lupTo_c s.length _ (by omega))).mono ?_
     rintro e w7 ⟨fv26, rfl, i27, -, xw7⟩
     have Lw7 : Ext w6 w7 := Ext.trans qXt xw7
     have Xw7 : Ext w w7 := Xw6.trans Lw7
     replace b90 := Lw7.cell b90
     replace b91 := Lw7.cell b91
     replace b92 := Lw7.cell b92
     replace b120 := Lw7.cell b120
     replace b121 := Lw7.cell b121
     replace b122 := Lw7.cell b122
     replace b150 := Lw7.cell b150
     replace b151 := Lw7.cell b151
     replace b152 := Lw7.cell b152
     replace e180 := Lw7.cell e180
     replace b220 := Lw7.cell b220
     replace b221 := Lw7.cell b221
     replace b222 := Lw7.cell b222
     have b250 : w7.cell? ⟨w6.heap.size, 0, none⟩ = some (.int .i64 RB) := xw7.cell qCl
     have b251 : w7.cell? ⟨w6.heap.size, 1, none⟩ = some (.slice afv23u RS.length cfv23u) := xw7.cell qCl
     have b252 : w7.cell? ⟨w6.heap.size, 2, none⟩ = some (.slice afv23v RT.length cfv23v) := xw7.cell qCl
     have z_b9 : w1.heap.size < w7.heap.size := qB b90
     have z_b12 : w2.heap.size < w7.heap.size := qB b120
     have z_b15 : w3.heap.size < w7.heap.size := qB b150
     have z_e18 : bl16 < w7.heap.size := qB e180
     have z_b22 : w5.heap.size < w7.heap.size := qB b220
     have z_b25 : w6.heap.size < w7.heap.size := qB b250
     replace i1 := i1.ext Lw7
     replace i2 := i2.ext Lw7
     replace i11u := i11u.ext Lw7
     replace i11v := i11v.ext Lw7
     replace i14u := i14u.ext Lw7
     replace i14v := i14v.ext Lw7
     replace i21u := i21u.ext Lw7
     replace i21v := i21v.ext Lw7
     replace i24u := i24u.ext Lw7
     replace i24v := i24v.ext Lw7
     have s_w7 : w.heap.size ≤ w7.heap.size := Xw7.size
     have Bwb_w7 : Ext w4 w7 := Bwb_w6.trans Lw7
     clear xw7
     try simp only [World.size_alloc, World.size_drew] at i27
     obtain ⟨afv26, cfv26, rfl⟩ := i27.form
     go_wp2_with fail
     have zBwb_mw7 := (Bwb_w7).size
     have Q31_b90 := Lib.hid b90
     have Q31_b91 := Lib.hid b91
     have Q31_b92 := Lib.hid b92
     have Q31_zb9 := z_b9
     have Q31_b120 := Lib.hid b120
     have Q31_b121 := Lib.hid b121
     have Q31_b122 := Lib.hid b122
     have Q31_zb12 := z_b12
     have Q31_b150 := Lib.hid b150
     have Q31_b151 := Lib.hid b151
     have Q31_b152 := Lib.hid b152
     have Q31_zb15 := z_b15
     have Q31_e180 := Lib.hid e180
     have Q31_ze18 := z_e18
     have Q31_b220 := Lib.hid b220
     have Q31_b221 := Lib.hid b221
     have Q31_b222 := Lib.hid b222
     have Q31_zb22 := z_b22
     have Q31_b250 := Lib.hid b250
     have Q31_b251 := Lib.hid b251
     have Q31_b252 := Lib.hid b252
     have Q31_zb25 := z_b25
     have Q31_i1 := Lib.hid i1
     have Q31_i2 := Lib.hid i2
     have Q31_i11u := Lib.hid i11u
     have Q31_i11v := Lib.hid i11v
     have Q31_i14u := Lib.hid i14u
     have Q31_i14v := Lib.hid i14v
     have Q31_i21u := Lib.hid i21u
     have Q31_i21v := Lib.hid i21v
     have Q31_i24u := Lib.hid i24u
     have Q31_i24v := Lib.hid i24v
     have Q31_i27 := Lib.hid i27
     have BL32 : Ext w7 w7 := Ext.refl _
     refine (lwithoutO_c W (.slice afv26 W.length cfv26) D _ _ (i27.ext qXt) hDW (by have := hWl.out; omega)).mono ?_
     rintro e w8 ⟨gr29, rr30, rfl, O28, Ggr29, Ggr29', xw8⟩
     have Lw8 : Ext w7 w8 := Ext.trans qXt xw8
     have Xw8 : Ext w w8 := Xw7.trans Lw8
     replace b90 := Lw8.cell b90
     replace b91 := Lw8.cell b91
     replace b92 := Lw8.cell b92
     replace b120 := Lw8.cell b120
     replace b121 := Lw8.cell b121
     replace b122 := Lw8.cell b122
     replace b150 := Lw8.cell b150
     replace b151 := Lw8.cell b151
     replace b152 := Lw8.cell b152
     replace e180 := Lw8.cell e180
     replace b220 := Lw8.cell b220
     replace b221 := Lw8.cell b221
     replace b222 := Lw8.cell b222
     replace b250 := Lw8.cell b250
     replace b251 := Lw8.cell b251
     replace b252 := Lw8.cell b252
     have z_b9 : w1.heap.size < w8.heap.size := qB b90
     have z_b12 : w2.heap.size < w8.heap.size := qB b120
     have z_b15 : w3.heap.size < w8.heap.size := qB b150
     have z_e18 : bl16 < w8.heap.size := qB e180
     have z_b22 : w5.heap.size < w8.heap.size := qB b220
     have z_b25 : w6.heap.size < w8.heap.size := qB b250
     replace i1 := i1.ext Lw8
     replace i2 := i2.ext Lw8
     replace i11u := i11u.ext Lw8
     replace i11v := i11v.ext Lw8
     replace i14u := i14u.ext Lw8
     replace i14v := i14v.ext Lw8
     replace i21u := i21u.ext Lw8
     replace i21v := i21v.ext Lw8
     replace i24u := i24u.ext Lw8
     replace i24v := i24v.ext Lw8
     replace i27 := i27.ext Lw8
     have s_w8 : w.heap.size ≤ w8.heap.size := Xw8.size
     have Bwb_w8 : Ext w4 w8 := Bwb_w7.trans Lw8
     have BL32_w8 : Ext w7 w8 := BL32.trans Lw8
     clear xw8
     have EE : Ext w8 ((w8).alloc (.cells #[.int .i64 (D : Int)] 3)) := qXt
     have SS : Ints ((w8).alloc (.cells #[.int .i64 (D : Int)] 3)) 0 (.slice (some ⟨w8.heap.size, 0, none⟩) 1 1) [(D : Int)] := by simpa using Ints.one (w8) 0 (D : Int) (Nat.zero_le _)
     go_wp2_with (
      at_builtin
      refine wpList_app rfl (.tmp 94) (.tmp 96) rfl rfl rfl (O28.ext EE) SS (by simp only [List.length_cons, List.length_nil, List.length_set, List.length_append]; omega) (by simp <;> omega) ?_
      intro vw9 w9 ho hgr hbl hvb
      obtain ⟨gr33, nn34, rr35, rfl, hnnn34, Ggr33, Ggr33'⟩ := ho.row2 (by simp)
      have Bgr33 := own_or hvb
      simp only [World.size_alloc] at Bgr33
      have Kw9 : Chg gr29 (gr29 + 1) w8 w9 := chg_grown hgr
      have zc_w9 := Kw9.size
      clear hgr hbl hvb EE SS
      have Xw9 : Ext w w9 := Ext.chg Xw8 Kw9 (by omega)
      replace b90 := Kw9.cell (by omega) b90
      replace b91 := Kw9.cell (by omega) b91
      replace b92 := Kw9.cell (by omega) b92
      replace b120 := Kw9.cell (by omega) b120
      replace b121 := Kw9.cell (by omega) b121
      replace b122 := Kw9.cell (by omega) b122
      replace b150 := Kw9.cell (by omega) b150
      replace b151 := Kw9.cell (by omega) b151
      replace b152 := Kw9.cell (by omega) b152
      replace e180 := Kw9.cell (by omega) e180
      replace b220 := Kw9.cell (by omega) b220
      replace b221 := Kw9.cell (by omega) b221
      replace b222 := Kw9.cell (by omega) b222
      replace b250 := Kw9.cell (by omega) b250
      replace b251 := Kw9.cell (by omega) b251
      replace b252 := Kw9.cell (by omega) b252
      have Bwb_w9 : Ext w4 w9 := Ext.chg Bwb_w8 Kw9 (by omega)
      have BL32_w9 : Ext w7 w9 := Ext.chg BL32_w8 Kw9 (by omega)
      have z_b9 : w1.heap.size < w9.heap.size := qB b90
      have z_b12 : w2.heap.size < w9.heap.size := qB b120
      have z_b15 : w3.heap.size < w9.heap.size := qB b150
      have z_e18 : bl16 < w9.heap.size := qB e180
      have z_b22 : w5.heap.size < w9.heap.size := qB b220
      have z_b25 : w6.heap.size < w9.heap.size := qB b250
      replace i1 := Q31_i1.out.ext BL32_w9
      replace i2 := Q31_i2.out.ext BL32_w9
      replace i11u := Q31_i11u.out.ext BL32_w9
      replace i11v := Q31_i11v.out.ext BL32_w9
      replace i14u := Q31_i14u.out.ext BL32_w9
      replace i14v := Q31_i14v.out.ext BL32_w9
      replace i21u := Q31_i21u.out.ext BL32_w9
      replace i21v := Q31_i21v.out.ext BL32_w9
      replace i24u := Q31_i24u.out.ext BL32_w9
      replace i24v := Q31_i24v.out.ext BL32_w9
      replace i27 := Q31_i27.out.ext BL32_w9
      clear O28
      have O28 := ho
      clear ho Kw9
      have s_w9 : w.heap.size ≤ w9.heap.size := Xw9.size)
     go_wp2_with fail
     refine (pv_eq hf3.out (implPermuteDims_c RB (.slice afv23u RS.length cfv23u) (.slice afv23v RT.length cfv23v) RS RT (.slice (some ⟨gr33, 0, none⟩) nn34 rr35) (delL W D ++ [(D : Int)]) _ _ _ (i24u.ext qXt) (i24v.ext qXt) _ ((O28.ints (by simp only [List.length_cons, List.length_nil, List.length_set, List.length_append]; omega)).ext qXt))).mono ?_
     rintro e w10 ⟨fv36u, fv36v, rfl, i37u, i37v, -, -, -, xw10⟩
     have Lw10 : Ext w9 w10 := Ext.trans qXt xw10
     have Xw10 : Ext w w10 := Xw9.trans Lw10
     replace b90 := Lw10.cell b90
     replace b91 := Lw10.cell b91
     replace b92 := Lw10.cell b92
     replace b120 := Lw10.cell b120
     replace b121 := Lw10.cell b121
     replace b122 := Lw10.cell b122
     replace b150 := Lw10.cell b150
     replace b151 := Lw10.cell b151
     replace b152 := Lw10.cell b152
     replace e180 := Lw10.cell e180
     replace b220 := Lw10.cell b220
     replace b221 := Lw10.cell b221
     replace b222 := Lw10.cell b222
     replace b250 := Lw10.cell b250
     replace b251 := Lw10.cell b251
     replace b252 := Lw10.cell b252
     have z_b9 : w1.heap.size < w10.heap.size := qB b90
     have z_b12 : w2.heap.size < w10.heap.size := qB b120
     have z_b15 : w3.heap.size < w10.heap.size := qB b150
     have z_e18 : bl16 < w10.heap.size := qB e180
     have z_b22 : w5.heap.size < w10.heap.size := qB b220
     have z_b25 : w6.heap.size < w10.heap.size := qB b250
     replace i1 := i1.ext Lw10
     replace i2 := i2.ext Lw10
     replace i11u := i11u.ext Lw10
     replace i11v := i11v.ext Lw10
     replace i14u := i14u.ext Lw10
     replace i14v := i14v.ext Lw10
     replace i21u := i21u.ext Lw10
     replace i21v := i21v.ext Lw10
     replace i24u := i24u.ext Lw10
     replace i24v := i24v.ext Lw10
     replace i27 := i27.ext Lw10
     replace O28 := O28.ext Lw10
     have s_w10 : w.heap.size ≤ w10.heap.size := Xw10.size
     have Bwb_w10 : Ext w4 w10 := Bwb_w9.trans Lw10
     have BL32_w10 : Ext w7 w10 := BL32_w9.trans Lw10
     clear xw10
     obtain ⟨afv36u, cfv36u, rfl⟩ := i37u.form
     obtain ⟨afv36v, cfv36v, rfl⟩ := i37v.form
     go_wp2_with fail
     refine (implSameView_c QB (.slice afv20u QS.length cfv20u) (.slice afv20v QT.length cfv20v) QS QT UB (.slice afv36u US.length cfv36u) (.slice afv36v UT.length cfv36v) US UT _ _ _ (i21u.ext qXt) (i21v.ext qXt) _ _ (i37u.ext qXt) (i37v.ext qXt)).mono ?_
     rintro e w11 ⟨rfl, xw11⟩
     have Lw11 : Ext w10 w11 := Ext.trans qXt xw11
     have Xw11 : Ext w w11 := Xw10.trans Lw11
     replace b90 := Lw11.cell b90
     replace b91 := Lw11.cell b91
     replace b92 := Lw11.cell b92
     replace b120 := Lw11.cell b120
     replace b121 := Lw11.cell b121
     replace b122 := Lw11.cell b122
     replace b150 := Lw11.cell b150
     replace b151 := Lw11.cell b151
     replace b152 := Lw11.cell b152
     replace e180 := Lw11.cell e180
     replace b220 := Lw11.cell b220
     replace b221 := Lw11.cell b221
     replace b222 := Lw11.cell b222
     replace b250 := Lw11.cell b250
     replace b251 := Lw11.cell b251
     replace b252 := Lw11.cell b252
     have b380 : w11.cell? ⟨w10.heap.size, 0, none⟩ = some (.int .i64 UB) := xw11.cell qCl
     have b381 : w11.cell? ⟨w10.heap.size, 1, none⟩ = some (.slice afv36u US.length cfv36u) := xw11.cell qCl
     have b382 : w11.cell? ⟨w10.heap.size, 2, none⟩ = some (.slice afv36v UT.length cfv36v) := xw11.cell qCl
     have z_b9 : w1.heap.size < w11.heap.size := qB b90
     have z_b12 : w2.heap.size < w11.heap.size := qB b120
     have z_b15 : w3.heap.size < w11.heap.size := qB b150
     have z_e18 : bl16 < w11.heap.size := qB e180
     have z_b22 : w5.heap.size < w11.heap.size := qB b220
     have z_b25 : w6.heap.size < w11.heap.size := qB b250
     have z_b38 : w10.heap.size < w11.heap.size := qB b380
     replace i1 := i1.ext Lw11
     replace i2 := i2.ext Lw11
     replace i11u := i11u.ext Lw11
     replace i11v := i11v.ext Lw11
     replace i14u := i14u.ext Lw11
     replace i14v := i14v.ext Lw11
     replace i21u := i21u.ext Lw11
     replace i21v := i21v.ext Lw11
     replace i24u := i24u.ext Lw11
     replace i24v := i24v.ext Lw11
     replace i27 := i27.ext Lw11
     replace O28 := O28.ext Lw11
     replace i37u := i37u.ext Lw11
     replace i37v := i37v.ext Lw11
     have s_w11 : w.heap.size ≤ w11.heap.size := Xw11.size
     have Bwb_w11 : Ext w4 w11 := Bwb_w10.trans Lw11
     have BL32_w11 : Ext w7 w11 := BL32_w10.trans Lw11
     clear xw11
     rw [hf4.out]
     go_wp2_with fail
     go_roundw
     case rel => exact ⟨q + 1, by omega, by go_num, (Bwb_w11.trans qXt)⟩
     case measure => simp [intOf]; omega
    ·
     have hN_e41 : D < PS.length := hDN
     have hI_e41 : (D : Int) < (PS.length : Int) := by omega
     obtain ⟨bl39, ol40, rfl, e410⟩ := i11u.at D hDN
     obtain ⟨v42, hv42⟩ : ∃ v, PS.getD D 0 = v := ⟨_, rfl⟩
     rw [hv42] at e410
     replace hv42 := Lib.hid hv42
     have y_e41 : bl39 < wb.heap.size := qB e410
     have z_e41 := y_e41
     obtain rfl : E = v42 := hEE.out.symm.trans hv42.out
     go_wp2_with fail
     have hN_e48 : D < s.length := hDs
     have hI_e48 : (D : Int) < (s.length : Int) := by omega
     obtain ⟨bl46, ol47, rfl, e480⟩ := i1.at D hDs
     obtain ⟨v49, hv49⟩ : ∃ v, s.getD D 0 = v := ⟨_, rfl⟩
     rw [hv49] at e480
     replace hv49 := Lib.hid hv49
     have y_e48 : bl46 < wb.heap.size := qB e480
     have z_e48 := y_e48
     have hs8 := hxe.out
     have hs9 := he60.out
     have hs7 := hE.out
     rw [hv49.out] at hs8 hs9 hs7
     replace hs7 := Lib.hid hs7
     refine wp_region_tail (S := fun w' => w'.cell? ⟨w1.heap.size, 1, none⟩ = some (.slice (some ⟨bl46, ol47, none⟩) s.length r1) ∧ w'.cell? ⟨w2.heap.size, 1, none⟩ = some (.slice (some ⟨bl39, ol40, none⟩) PS.length cfv10u) ∧ w'.cell? ⟨bl39, ol40 + D, none⟩ = some (.int .i64 E) ∧ w'.cell? ⟨bl46, ol47 + D, none⟩ = some (.int .i64 v49)) (fun i => decide (15 ≤ i)) qKr ⟨b91, b121, e410, e480⟩ (fun hHeld => ?_)
     refine qTk (v := ?_) 0 rfl (.inl ⟨by rfl, ?_⟩) ?_
     rotate_left
     ·
      (intro w hSw; (try dsimp only at hSw); go_simp; try with_reducible rfl)
     try simp only [Act.put, qa, qb, qc, qD, qE, qF]
     refine qTk (v := ?_) 1 rfl (.inl ⟨by rfl, ?_⟩) ?_
     rotate_left
     ·
      (intro w hSw; (try dsimp only at hSw); go_simp; try with_reducible rfl)
     try simp only [Act.put, qa, qb, qc, qD, qE, qF]
     refine qTk (v := ?_) 2 rfl (.inl ⟨by rfl, ?_⟩) ?_
     rotate_left
     ·
      (intro w hSw; (try dsimp only at hSw); go_simp; try with_reducible rfl)
     try simp only [Act.put, qa, qb, qc, qD, qE, qF]
     refine qTk (v := ?_) 3 rfl (.inl ⟨by rfl, ?_⟩) ?_
     rotate_left
     ·
      (intro w hSw; (try dsimp only at hSw); go_simp; try with_reducible rfl)
     try simp only [Act.put, qa, qb, qc, qD, qE, qF]
     refine qTk (v := ?_) 4 rfl (.inl ⟨by rfl, ?_⟩) ?_
     rotate_left
     ·
      (intro w hSw; (try dsimp only at hSw); go_simp; try with_reducible rfl)
     try simp only [Act.put, qa, qb, qc, qD, qE, qF]
     refine qTk (v := ?_) 5 rfl (.inl ⟨by rfl, ?_⟩) ?_
     rotate_left
     ·
      (intro w hSw; (try dsimp only at hSw); go_simp; try with_reducible rfl)
     try simp only [Act.put, qa, qb, qc, qD, qE, qF]
     refine qTk (v := ?_) 6 rfl (.inl ⟨by rfl, ?_⟩) ?_
     rotate_left
     ·
      (intro w hSw; (try dsimp only at hSw); go_simp; try with_reducible rfl)
     try simp only [Act.put, qa, qb, qc, qD, qE, qF]
     refine qTk (v := ?_) 7 rfl (.inl ⟨by rfl, ?_⟩) ?_
     rotate_left
     ·
      (intro w hSw; (try dsimp only at hSw); go_simp; try with_reducible rfl)
     try simp only [Act.put, qa, qb, qc, qD, qE, qF]
     refine qTk (v := ?_) 8 rfl (.inl ⟨by rfl, ?_⟩) ?_
     rotate_left
     ·
      (intro w hSw; (try dsimp only at hSw); go_simp; try with_reducible rfl)
     try simp only [Act.put, qa, qb, qc, qD, qE, qF]
     refine qTk (v := ?_) 9 rfl (.inl ⟨by rfl, ?_⟩) ?_
     rotate_left
     ·
      (intro w hSw; (try dsimp only at hSw); go_simp; try with_reducible rfl)
     try simp only [Act.put, qa, qb, qc, qD, qE, qF]
     refine qTk (v := ?_) 10 rfl (.inl ⟨by rfl, ?_⟩) ?_
     rotate_left
     ·
      (intro w hSw; (try dsimp only at hSw); go_simp; try with_reducible rfl)
     try simp only [Act.put, qa, qb, qc, qD, qE, qF]
     have hw56 : IntKind.i64.wrap (v49 - x) = v49 - x := IntWalk.i64_in _ (by omega)
     refine qTk (v := ?_) 11 rfl (.inl ⟨by rfl, ?_⟩) ?_
     rotate_left
     ·
      (intro w hSw; (try dsimp only at hSw); go_simp; try with_reducible rfl)
     try simp only [Act.put, qa, qb, qc, qD, qE, qF]
     have hw57 : IntKind.i64.wrap ((v49 - x) + 1) = (v49 - x) + 1 := IntWalk.i64_in _ (by omega)
     refine qTk (v := ?_) 12 rfl (.inl ⟨by rfl, ?_⟩) ?_
     rotate_left
     ·
      (intro w hSw; (try dsimp only at hSw); go_simp; try with_reducible rfl)
     try simp only [Act.put, qa, qb, qc, qD, qE, qF]
     have hq58e : ((E : Int) == ((v49 - x) + 1 : Int)) = true := by have h7 : (E : Int) = ((v49 - x) + 1 : Int) := (by have := hs7.out; omega); simpa using h7
     have hq58n : ((E : Int) != ((v49 - x) + 1 : Int)) = false := by have h7 : (E : Int) = ((v49 - x) + 1 : Int) := (by have := hs7.out; omega); simpa using h7
     refine qTk (v := ?_) 13 rfl (.inl ⟨by rfl, ?_⟩) ?_
     rotate_left
     ·
      (intro w hSw; (try dsimp only at hSw); go_simp; try with_reducible rfl)
     try simp only [Act.put, qa, qb, qc, qD, qE, qF]
     refine qTk (v := ?_) 14 rfl (.inl ⟨by rfl, ?_⟩) ?_
     rotate_left
     ·
      (intro w hSw; (try dsimp only at hSw); go_simp; try with_reducible rfl)
     try simp only [Act.put, qa, qb, qc, qD, qE, qF]
     refine wpTail_done qKr ?_ _
     clear hHeld hw56 hw57
     go_wp2_with fail
     go_ret
     exact ⟨rfl, (Xwb.trans qXt)⟩


end Go.Proofs.Ytonnnjaooifpjaa

/- The law FnWindowsOf holds for all bytes: the call returns true, and its argument reads as it did. No condition. -/
namespace Go.Proofs.Ytonnnjaooifpjaa.rowFnWindowsOf
open Go.ChangeShapes Go.WideShapes Go.ChangeAt Go.RowKit
set_option linter.unusedVariables false

set_option maxHeartbeats 1000000 in
set_option maxRecDepth 100000 in
theorem lifted (os : Os) (started : os.Started) (H : Type) (enc : TypeId × Value → H) :
    ReturnsInHanded {} Try.checked os 8 .any (Rows.fnWindowsOfSpec.pre6 enc Try.prog Try.f8 Rows.fnWindowsOfRow.domain false) (Rows.fnWindowsOfSpec.post enc Try.prog Try.f8 false true false false) := by
  refine returnsInHanded_of_change (C := Try.checked) own started qKr Try.func8
    (ChangeSpec.witness6 (enc := enc) (C := Try.checked) false ⟨#[], #[.slice none 0 0], []⟩ 8 qKr qKr qKr qKr) ?_
  intro W base args ds gs before hval0 hW hcnd _
  have hval : ∀ (j : Nat) t v, Try.f8.params[j]? = some t → args[j]? = some v → Value.okWide Try.prog W .any base t v := hval0
  have hW' := hW
  obtain ⟨p, q, hA0, hV, rfl, hfz, hnd⟩ := hW
  have hA : DataW.TrodAll enc Try.prog W 0 (fun _ => true) true Try.f8.params.toList args.toList ds p := hA0
  rw [Try.params8] at hA hval
  obtain ⟨v0, vs0, d0, ds0, p0, q0, hargs0, rfl, rfl, h0, r0⟩ := trodAll_cons hA
  obtain ⟨rfl, rfl, rfl⟩ := trodAll_nil r0
  obtain rfl : args = #[v0] := by cases args; simp_all
  obtain ⟨rfl, rfl⟩ := trodVars_none hV
  obtain ⟨a0, len0, cap0, rfl⟩ := okWide_slice Try.underlying22 (hval 0 22 v0 rfl rfl)
  have k0 := h0
  have lt0 : ∀ x ∈ p0, x.block < W.heap.size := by obtain ⟨m, hm⟩ := k0; exact DataW.trod_lt m _ _ _ hm
  have w0 : BysIn W a0 len0 cap0 := by
    obtain ⟨fuel, hf⟩ := h0
    rcases open_ints Try.underlying22 Try.underlying5 qKr hf with ⟨hcs, _⟩ | ⟨x, l, c, zs, hcs, _, hl, hm, hz, _, hcell, hwz⟩
    · simp [Value.cells] at hcs
      obtain ⟨rfl, rfl, rfl⟩ := hcs
      exact ⟨Nat.le_refl _, by simp, fun i hi => absurd hi (by simp)⟩
    · simp [Value.cells] at hcs
      obtain ⟨rfl, rfl, rfl⟩ := hcs
      have hzl : zs.length = cap0 := by simpa using hz
      exact bys_of_cells hl hm hzl hcell hwz
  clear hA0 hval0
  refine (lawFnWindowsOf_c a0 len0 cap0 W w0).mono fun e W' ⟨he, bel⟩ => ?_
  subst he
  exact ⟨_, rfl, _, _, _, [], _, [], hW', trodAll_mk1 (shut_bool Try.underlying4 _), (trodAll_cons_mk (Below.trod laidOut qKr (of_decide_eq_true qKr) k0 bel lt0) trodAll_mk0), rfl, Below.frame bel _, fun h => by cases h⟩

set_option maxHeartbeats 2000000 in
theorem closed : joinedFacts Try.checked.prog 8 Try.f8 Rows.fnWindowsOfSpec Rows.fnWindowsOfRow = true :=
  facts.all qKr qKr qKr qKr qKr (by as_aux_lemma => kernel_rfl) (by as_aux_lemma => kernel_rfl) (by as_aux_lemma => kernel_rfl) (by as_aux_lemma => kernel_rfl)
    (by as_aux_lemma => kernel_rfl) (by as_aux_lemma => kernel_rfl) rfl rfl rfl rfl qKr qKr (by as_aux_lemma => kernel_rfl) (by as_aux_lemma => kernel_rfl)

theorem named : Try.pinned.checked.prog.funcNamed Rows.fnWindowsOfRow.func = some 8 := by kernel_rfl

theorem over : Rows.fnWindowsOfRow.holds Try.pinned (OpenSpec.ofChange Rows.fnWindowsOfSpec) :=
  OpenClaim.holds_of_wide 8 Try.f8 rfl rfl rfl rfl rfl rfl rfl ⟨rfl, rfl, rfl, rfl, rfl⟩ rfl rfl rfl rfl rfl named Try.func8 closed
    (of_decide_eq_true qKr) (by unfold Func.isWrapper; exact ⟨rfl, rfl⟩)
    (fun os started H enc _ => lifted os started H enc)

theorem proved : Rows.FnWindowsOfSaid := over

end Go.Proofs.Ytonnnjaooifpjaa.rowFnWindowsOf
