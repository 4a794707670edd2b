/- Texts of these proofs put together: DelE, DrB, DrE, DrG, PureT. No condition. -/
import Derived.Test.YtonnnjaooifpjaaD1RowFnPickDim
import Derived.Test.YtonnnjaooifpjaaM1
import Derived.Test.YtonnnjaooifpjaaM2
import Derived.Test.YtonnnjaooifpjaaM4
import Derived.Test.YtonnnjaooifpjaaM5
import Derived.Test.YtonnnjaooifpjaaM3
set_option linter.unusedVariables false
set_option linter.unusedSimpArgs false
/- Walks: PickDim of the reference. -/
namespace Go.Proofs.Ytonnnjaooifpjaa
open Go.RowKit
set_option linter.unusedVariables false
set_option maxRecDepth 100000


theorem made_yes {b : Int} {s t : List Int} (h : viewB b s t = true) : madeV b s t = (b, s, t, true) := by unfold madeV; rw [h]; rfl

set_option maxHeartbeats 3200000 in
theorem specPick_0 (b1 : Int) (u1 v1 : Value) (s1 t1 : List Int) (d i : Int) (w : World) (l1 m1 : Nat) (h1 : Ints w l1 u1 s1) (k1 : Ints w m1 v1 t1) (hdim : dimB b1 s1 t1 d = false) (hvv : viewB b1 s1 t1 = false) (hi : -1000000 ≤ i ∧ i ≤ 1000000) :
  Calls Try.prog 42 #[.agg #[.int .i64 b1, u1, v1], .int .i64 d, .int .i64 i] w (PVX w (pickV b1 s1 t1 d i)) := by
 obtain ⟨p0, c0, rfl⟩ := h1.form
 obtain ⟨p1, c1, rfl⟩ := k1.form
 replace hvv := Lib.hid hvv
 replace hdim := Lib.hid hdim
 go_enter Try.func42, Try.ntmps42
 go_wp2_with fail
 have Lw1 : Ext w ((w.alloc (.cells #[.int .i64 b1, .slice p0 s1.length c0, .slice p1 t1.length c1] 25)).alloc (.cells #[.int .i64 0, .slice none 0 0, .slice none 0 0] 25)) := qXt
 have Xw1 : Ext w ((w.alloc (.cells #[.int .i64 b1, .slice p0 s1.length c0, .slice p1 t1.length c1] 25)).alloc (.cells #[.int .i64 0, .slice none 0 0, .slice none 0 0] 25)) := Lw1
 have b10 : ((w.alloc (.cells #[.int .i64 b1, .slice p0 s1.length c0, .slice p1 t1.length c1] 25)).alloc (.cells #[.int .i64 0, .slice none 0 0, .slice none 0 0] 25)).cell? ⟨w.heap.size, 0, none⟩ = some (.int .i64 b1) := qCl
 have b11 : ((w.alloc (.cells #[.int .i64 b1, .slice p0 s1.length c0, .slice p1 t1.length c1] 25)).alloc (.cells #[.int .i64 0, .slice none 0 0, .slice none 0 0] 25)).cell? ⟨w.heap.size, 1, none⟩ = some (.slice p0 s1.length c0) := qCl
 have b12 : ((w.alloc (.cells #[.int .i64 b1, .slice p0 s1.length c0, .slice p1 t1.length c1] 25)).alloc (.cells #[.int .i64 0, .slice none 0 0, .slice none 0 0] 25)).cell? ⟨w.heap.size, 2, none⟩ = some (.slice p1 t1.length c1) := qCl
 have b20 : ((w.alloc (.cells #[.int .i64 b1, .slice p0 s1.length c0, .slice p1 t1.length c1] 25)).alloc (.cells #[.int .i64 0, .slice none 0 0, .slice none 0 0] 25)).cell? ⟨w.heap.size + 1, 0, none⟩ = some (.int .i64 0) := qCl
 have b21 : ((w.alloc (.cells #[.int .i64 b1, .slice p0 s1.length c0, .slice p1 t1.length c1] 25)).alloc (.cells #[.int .i64 0, .slice none 0 0, .slice none 0 0] 25)).cell? ⟨w.heap.size + 1, 1, none⟩ = some (.slice none 0 0) := qCl
 have b22 : ((w.alloc (.cells #[.int .i64 b1, .slice p0 s1.length c0, .slice p1 t1.length c1] 25)).alloc (.cells #[.int .i64 0, .slice none 0 0, .slice none 0 0] 25)).cell? ⟨w.heap.size + 1, 2, none⟩ = some (.slice none 0 0) := qCl
 have f_b20 : ((w.alloc (.cells #[.int .i64 b1, .slice p0 s1.length c0, .slice p1 t1.length c1] 25)).alloc (.cells #[.int .i64 0, .slice none 0 0, .slice none 0 0] 25)).frozen? ⟨w.heap.size + 1, 0, none⟩ = false := qFz
 have f_b21 : ((w.alloc (.cells #[.int .i64 b1, .slice p0 s1.length c0, .slice p1 t1.length c1] 25)).alloc (.cells #[.int .i64 0, .slice none 0 0, .slice none 0 0] 25)).frozen? ⟨w.heap.size + 1, 1, none⟩ = false := qFz
 have f_b22 : ((w.alloc (.cells #[.int .i64 b1, .slice p0 s1.length c0, .slice p1 t1.length c1] 25)).alloc (.cells #[.int .i64 0, .slice none 0 0, .slice none 0 0] 25)).frozen? ⟨w.heap.size + 1, 2, none⟩ = false := qFz
 have z_b1 : w.heap.size < ((w.alloc (.cells #[.int .i64 b1, .slice p0 s1.length c0, .slice p1 t1.length c1] 25)).alloc (.cells #[.int .i64 0, .slice none 0 0, .slice none 0 0] 25)).heap.size := qB b10
 have z_b2 : w.heap.size + 1 < ((w.alloc (.cells #[.int .i64 b1, .slice p0 s1.length c0, .slice p1 t1.length c1] 25)).alloc (.cells #[.int .i64 0, .slice none 0 0, .slice none 0 0] 25)).heap.size := qB b20
 have s_w1 : w.heap.size ≤ ((w.alloc (.cells #[.int .i64 b1, .slice p0 s1.length c0, .slice p1 t1.length c1] 25)).alloc (.cells #[.int .i64 0, .slice none 0 0, .slice none 0 0] 25)).heap.size := Xw1.size
 generalize (w.alloc (.cells #[.int .i64 b1, .slice p0 s1.length c0, .slice p1 t1.length c1] 25)).alloc (.cells #[.int .i64 0, .slice none 0 0, .slice none 0 0] 25) = w1 at *
 refine wp_region_tail (S := fun w' => w'.cell? ⟨w.heap.size, 0, none⟩ = some (.int .i64 b1) ∧ w'.cell? ⟨w.heap.size, 1, none⟩ = some (.slice p0 s1.length c0) ∧ w'.cell? ⟨w.heap.size, 2, none⟩ = some (.slice p1 t1.length c1) ∧ w'.cell? ⟨w.heap.size + 1, 0, none⟩ = some (.int .i64 0) ∧ w'.cell? ⟨w.heap.size + 1, 1, none⟩ = some (.slice none 0 0) ∧ w'.cell? ⟨w.heap.size + 1, 2, none⟩ = some (.slice none 0 0)) (fun i => decide (26 ≤ i)) qKr ⟨b10, b11, b12, b20, b21, b22⟩ (fun hHeld => ?_)
 refine wpTail_take (i := 0) (v := ?_) rfl qKr qKr qKr rfl qKr (fun _ _ _ h => h) (Or.inl ⟨by rfl, ?_⟩) (by assumption) ?_
 rotate_left
 ·
  (intro w hSw; (try dsimp only at hSw); go_simp; try with_reducible rfl)
 try simp only [Act.put, qA1, qA2, qA3, qA4, qA5, qA6]
 refine wpTail_one (i := 1) qKr rfl rfl (fun K hK => ?_)
 try simp only [Act.put, qA1, qA2, qA3, qA4, qA5, qA6]
 go_simp
 refine (validView_c b1 (.slice p0 s1.length c0) (.slice p1 t1.length c1) s1 t1 _ _ _ (h1.ext (Xw1.trans qXt)) (k1.ext (Xw1.trans qXt))).mono ?_
 rintro e w2 ⟨rfl, xw2⟩
 have Lw2 : Ext w1 w2 := Ext.trans qXt xw2
 have Xw2 : Ext w w2 := Xw1.trans Lw2
 replace b10 := Lw2.cell b10
 replace b11 := Lw2.cell b11
 replace b12 := Lw2.cell b12
 replace b20 := Lw2.cell b20
 replace b21 := Lw2.cell b21
 replace b22 := Lw2.cell b22
 replace f_b20 := Lw2.frz z_b2 f_b20
 replace f_b21 := Lw2.frz z_b2 f_b21
 replace f_b22 := Lw2.frz z_b2 f_b22
 have z_b1 : w.heap.size < w2.heap.size := qB b10
 have z_b2 : w.heap.size + 1 < w2.heap.size := qB b20
 have s_w2 : w.heap.size ≤ w2.heap.size := Xw2.size
 clear xw2
 rw [hvv.out]
 refine hK.out _ _ ⟨b10, b11, b12, b20, b21, b22⟩ (fun hHeld => ?_)
 clear hK K
 try simp only [Act.put, qA1, qA2, qA3, qA4, qA5, qA6]
 refine wpTail_take (i := 2) (v := ?_) rfl qKr qKr qKr rfl qKr (fun _ _ _ h => h) (Or.inl ⟨by rfl, ?_⟩) (by assumption) ?_
 rotate_left
 ·
  (intro w hSw; (try dsimp only at hSw); go_simp; try with_reducible rfl)
 try simp only [Act.put, qA1, qA2, qA3, qA4, qA5, qA6]
 refine wpTail_take (i := 3) (v := ?_) rfl qKr qKr qKr rfl qKr (fun _ _ _ h => h) (Or.inl ⟨by rfl, ?_⟩) (by assumption) ?_
 rotate_left
 ·
  (intro w hSw; (try dsimp only at hSw); go_simp; try with_reducible rfl)
 try simp only [Act.put, qA1, qA2, qA3, qA4, qA5, qA6]
 refine wpTail_take (i := 4) (v := undef) rfl qKr qKr qKr rfl qKr (fun _ _ _ h => h) (Or.inr ⟨by rfl, rfl⟩) (by assumption) ?_
 try simp only [Act.put, qA1, qA2, qA3, qA4, qA5, qA6]
 refine wpTail_take (i := 5) (v := undef) rfl qKr qKr qKr rfl qKr (fun _ _ _ h => h) (Or.inr ⟨by rfl, rfl⟩) (by assumption) ?_
 try simp only [Act.put, qA1, qA2, qA3, qA4, qA5, qA6]
 refine wpTail_take (i := 6) (v := undef) rfl qKr qKr qKr rfl qKr (fun _ _ _ h => h) (Or.inr ⟨by rfl, rfl⟩) (by assumption) ?_
 try simp only [Act.put, qA1, qA2, qA3, qA4, qA5, qA6]
 refine wpTail_take (i := 7) (v := undef) rfl qKr qKr qKr rfl qKr (fun _ _ _ h => h) (Or.inr ⟨by rfl, rfl⟩) (by assumption) ?_
 try simp only [Act.put, qA1, qA2, qA3, qA4, qA5, qA6]
 refine wpTail_take (i := 8) (v := ?_) rfl qKr qKr qKr rfl qKr (fun _ _ _ h => h) (Or.inl ⟨by rfl, ?_⟩) (by assumption) ?_
 rotate_left
 ·
  (intro w hSw; (try dsimp only at hSw); go_simp; try with_reducible rfl)
 try simp only [Act.put, qA1, qA2, qA3, qA4, qA5, qA6]
 refine wpTail_take (i := 9) (v := ?_) rfl qKr qKr qKr rfl qKr (fun _ _ _ h => h) (Or.inl ⟨by rfl, ?_⟩) (by assumption) ?_
 rotate_left
 ·
  (intro w hSw; (try dsimp only at hSw); go_simp; try with_reducible rfl)
 try simp only [Act.put, qA1, qA2, qA3, qA4, qA5, qA6]
 refine wpTail_take (i := 10) (v := undef) rfl qKr qKr qKr rfl qKr (fun _ _ _ h => h) (Or.inr ⟨by rfl, rfl⟩) (by assumption) ?_
 try simp only [Act.put, qA1, qA2, qA3, qA4, qA5, qA6]
 refine wpTail_take (i := 11) (v := undef) rfl qKr qKr qKr rfl qKr (fun _ _ _ h => h) (Or.inr ⟨by rfl, rfl⟩) (by assumption) ?_
 try simp only [Act.put, qA1, qA2, qA3, qA4, qA5, qA6]
 refine wpTail_take (i := 12) (v := undef) rfl qKr qKr qKr rfl qKr (fun _ _ _ h => h) (Or.inr ⟨by rfl, rfl⟩) (by assumption) ?_
 try simp only [Act.put, qA1, qA2, qA3, qA4, qA5, qA6]
 refine wpTail_take (i := 13) (v := undef) rfl qKr qKr qKr rfl qKr (fun _ _ _ h => h) (Or.inr ⟨by rfl, rfl⟩) (by assumption) ?_
 try simp only [Act.put, qA1, qA2, qA3, qA4, qA5, qA6]
 refine wpTail_take (i := 14) (v := undef) rfl qKr qKr qKr rfl qKr (fun _ _ _ h => h) (Or.inr ⟨by rfl, rfl⟩) (by assumption) ?_
 try simp only [Act.put, qA1, qA2, qA3, qA4, qA5, qA6]
 refine wpTail_take (i := 15) (v := undef) rfl qKr qKr qKr rfl qKr (fun _ _ _ h => h) (Or.inr ⟨by rfl, rfl⟩) (by assumption) ?_
 try simp only [Act.put, qA1, qA2, qA3, qA4, qA5, qA6]
 refine wpTail_take (i := 16) (v := undef) rfl qKr qKr qKr rfl qKr (fun _ _ _ h => h) (Or.inr ⟨by rfl, rfl⟩) (by assumption) ?_
 try simp only [Act.put, qA1, qA2, qA3, qA4, qA5, qA6]
 refine wpTail_take (i := 17) (v := undef) rfl qKr qKr qKr rfl qKr (fun _ _ _ h => h) (Or.inr ⟨by rfl, rfl⟩) (by assumption) ?_
 try simp only [Act.put, qA1, qA2, qA3, qA4, qA5, qA6]
 refine wpTail_take (i := 18) (v := undef) rfl qKr qKr qKr rfl qKr (fun _ _ _ h => h) (Or.inr ⟨by rfl, rfl⟩) (by assumption) ?_
 try simp only [Act.put, qA1, qA2, qA3, qA4, qA5, qA6]
 refine wpTail_take (i := 19) (v := undef) rfl qKr qKr qKr rfl qKr (fun _ _ _ h => h) (Or.inr ⟨by rfl, rfl⟩) (by assumption) ?_
 try simp only [Act.put, qA1, qA2, qA3, qA4, qA5, qA6]
 refine wpTail_take (i := 20) (v := undef) rfl qKr qKr qKr rfl qKr (fun _ _ _ h => h) (Or.inr ⟨by rfl, rfl⟩) (by assumption) ?_
 try simp only [Act.put, qA1, qA2, qA3, qA4, qA5, qA6]
 refine wpTail_take (i := 21) (v := undef) rfl qKr qKr qKr rfl qKr (fun _ _ _ h => h) (Or.inr ⟨by rfl, rfl⟩) (by assumption) ?_
 try simp only [Act.put, qA1, qA2, qA3, qA4, qA5, qA6]
 refine wpTail_take (i := 22) (v := undef) rfl qKr qKr qKr rfl qKr (fun _ _ _ h => h) (Or.inr ⟨by rfl, rfl⟩) (by assumption) ?_
 try simp only [Act.put, qA1, qA2, qA3, qA4, qA5, qA6]
 refine wpTail_take (i := 23) (v := undef) rfl qKr qKr qKr rfl qKr (fun _ _ _ h => h) (Or.inr ⟨by rfl, rfl⟩) (by assumption) ?_
 try simp only [Act.put, qA1, qA2, qA3, qA4, qA5, qA6]
 refine wpTail_take (i := 24) (v := undef) rfl qKr qKr qKr rfl qKr (fun _ _ _ h => h) (Or.inr ⟨by rfl, rfl⟩) (by assumption) ?_
 try simp only [Act.put, qA1, qA2, qA3, qA4, qA5, qA6]
 refine wpTail_take (i := 25) (v := ?_) rfl qKr qKr qKr rfl qKr (fun _ _ _ h => h) (Or.inl ⟨by rfl, ?_⟩) (by assumption) ?_
 rotate_left
 ·
  (intro w hSw; (try dsimp only at hSw); go_simp; try with_reducible rfl)
 try simp only [Act.put, qA1, qA2, qA3, qA4, qA5, qA6]
 refine wpTail_done qKr ?_ _
 clear hHeld 
 go_wp2_with fail
 have Kw3 : Chg (w.heap.size + 1) (w.heap.size + 1 + 1) w2 (((w2.setCell ⟨w.heap.size + 1, 0, none⟩ (.int .i64 0)).setCell ⟨w.heap.size + 1, 1, none⟩ (.slice none 0 0)).setCell ⟨w.heap.size + 1, 2, none⟩ (.slice none 0 0)) := (Chg.setCell (p := ⟨w.heap.size + 1, 2, none⟩) (Chg.setCell (p := ⟨w.heap.size + 1, 1, none⟩) (Chg.setCell (p := ⟨w.heap.size + 1, 0, none⟩) (Chg.refl (w.heap.size + 1) (w.heap.size + 1 + 1) _) (Nat.le_refl _) (Nat.lt_succ_self _) (.int .i64 0)) (Nat.le_refl _) (Nat.lt_succ_self _) (.slice none 0 0)) (Nat.le_refl _) (Nat.lt_succ_self _) (.slice none 0 0))
 have Xw3 : Ext w (((w2.setCell ⟨w.heap.size + 1, 0, none⟩ (.int .i64 0)).setCell ⟨w.heap.size + 1, 1, none⟩ (.slice none 0 0)).setCell ⟨w.heap.size + 1, 2, none⟩ (.slice none 0 0)) := (Ext.setCell (p := ⟨w.heap.size + 1, 2, none⟩) (Ext.setCell (p := ⟨w.heap.size + 1, 1, none⟩) (Ext.setCell (p := ⟨w.heap.size + 1, 0, none⟩) Xw2 qSo (.int .i64 0)) qSo (.slice none 0 0)) qSo (.slice none 0 0))
 replace b10 := Kw3.cell (by omega) b10
 replace b11 := Kw3.cell (by omega) b11
 replace b12 := Kw3.cell (by omega) b12
 have n_b20 : (((w2.setCell ⟨w.heap.size + 1, 0, none⟩ (.int .i64 0)).setCell ⟨w.heap.size + 1, 1, none⟩ (.slice none 0 0)).setCell ⟨w.heap.size + 1, 2, none⟩ (.slice none 0 0)).cell? ⟨w.heap.size + 1, 0, none⟩ = some (.int .i64 0) := by go_simp
 have n_f_b20 : (((w2.setCell ⟨w.heap.size + 1, 0, none⟩ (.int .i64 0)).setCell ⟨w.heap.size + 1, 1, none⟩ (.slice none 0 0)).setCell ⟨w.heap.size + 1, 2, none⟩ (.slice none 0 0)).frozen? ⟨w.heap.size + 1, 0, none⟩ = false := by go_simp
 have n_b21 : (((w2.setCell ⟨w.heap.size + 1, 0, none⟩ (.int .i64 0)).setCell ⟨w.heap.size + 1, 1, none⟩ (.slice none 0 0)).setCell ⟨w.heap.size + 1, 2, none⟩ (.slice none 0 0)).cell? ⟨w.heap.size + 1, 1, none⟩ = some (.slice none 0 0) := by go_simp
 have n_f_b21 : (((w2.setCell ⟨w.heap.size + 1, 0, none⟩ (.int .i64 0)).setCell ⟨w.heap.size + 1, 1, none⟩ (.slice none 0 0)).setCell ⟨w.heap.size + 1, 2, none⟩ (.slice none 0 0)).frozen? ⟨w.heap.size + 1, 1, none⟩ = false := by go_simp
 have n_b22 : (((w2.setCell ⟨w.heap.size + 1, 0, none⟩ (.int .i64 0)).setCell ⟨w.heap.size + 1, 1, none⟩ (.slice none 0 0)).setCell ⟨w.heap.size + 1, 2, none⟩ (.slice none 0 0)).cell? ⟨w.heap.size + 1, 2, none⟩ = some (.slice none 0 0) := by go_simp
 have n_f_b22 : (((w2.setCell ⟨w.heap.size + 1, 0, none⟩ (.int .i64 0)).setCell ⟨w.heap.size + 1, 1, none⟩ (.slice none 0 0)).setCell ⟨w.heap.size + 1, 2, none⟩ (.slice none 0 0)).frozen? ⟨w.heap.size + 1, 2, none⟩ = false := by go_simp
 replace b20 := n_b20
 clear n_b20
 replace f_b20 := n_f_b20
 clear n_f_b20
 replace b21 := n_b21
 clear n_b21
 replace f_b21 := n_f_b21
 clear n_f_b21
 replace b22 := n_b22
 clear n_b22
 replace f_b22 := n_f_b22
 clear n_f_b22
 clear Kw3
 have z_b1 : w.heap.size < (((w2.setCell ⟨w.heap.size + 1, 0, none⟩ (.int .i64 0)).setCell ⟨w.heap.size + 1, 1, none⟩ (.slice none 0 0)).setCell ⟨w.heap.size + 1, 2, none⟩ (.slice none 0 0)).heap.size := qB b10
 have z_b2 : w.heap.size + 1 < (((w2.setCell ⟨w.heap.size + 1, 0, none⟩ (.int .i64 0)).setCell ⟨w.heap.size + 1, 1, none⟩ (.slice none 0 0)).setCell ⟨w.heap.size + 1, 2, none⟩ (.slice none 0 0)).heap.size := qB b20
 have s_w3 : w.heap.size ≤ (((w2.setCell ⟨w.heap.size + 1, 0, none⟩ (.int .i64 0)).setCell ⟨w.heap.size + 1, 1, none⟩ (.slice none 0 0)).setCell ⟨w.heap.size + 1, 2, none⟩ (.slice none 0 0)).heap.size := Xw3.size
 generalize (((w2.setCell ⟨w.heap.size + 1, 0, none⟩ (.int .i64 0)).setCell ⟨w.heap.size + 1, 1, none⟩ (.slice none 0 0)).setCell ⟨w.heap.size + 1, 2, none⟩ (.slice none 0 0)) = w3 at *
 refine bodyPost_ret (v := .tuple #[.agg #[.int .i64 0, .slice none 0 0, .slice none 0 0], .bool false]) (by simp only [results, Try.results42]; go_simp) rfl ?_
 rw [show pickV b1 s1 t1 d i = noV from pick_no0 hdim.out]
 exact PVWB.no (Xw3.trans qXt)

set_option maxHeartbeats 3200000 in
theorem specPick_1 (b1 : Int) (u1 v1 : Value) (s1 t1 : List Int) (d i : Int) (w : World) (l1 m1 : Nat) (h1 : Ints w l1 u1 s1) (k1 : Ints w m1 v1 t1) (hdim : dimB b1 s1 t1 d = false) (hvv : viewB b1 s1 t1 = true) (hin : inB 0 ((s1.length : Int) - 1) d = false) (hi : -1000000 ≤ i ∧ i ≤ 1000000) :
  Calls Try.prog 42 #[.agg #[.int .i64 b1, u1, v1], .int .i64 d, .int .i64 i] w (PVX w (pickV b1 s1 t1 d i)) := by
 obtain ⟨p0, c0, rfl⟩ := h1.form
 obtain ⟨p1, c1, rfl⟩ := k1.form
 have hs4 := (view_small hvv).1
 replace hin := Lib.hid hin
 replace hvv := Lib.hid hvv
 replace hdim := Lib.hid hdim
 go_enter Try.func42, Try.ntmps42
 go_wp2_with fail
 have Lw1 : Ext w ((w.alloc (.cells #[.int .i64 b1, .slice p0 s1.length c0, .slice p1 t1.length c1] 25)).alloc (.cells #[.int .i64 0, .slice none 0 0, .slice none 0 0] 25)) := qXt
 have Xw1 : Ext w ((w.alloc (.cells #[.int .i64 b1, .slice p0 s1.length c0, .slice p1 t1.length c1] 25)).alloc (.cells #[.int .i64 0, .slice none 0 0, .slice none 0 0] 25)) := Lw1
 have b10 : ((w.alloc (.cells #[.int .i64 b1, .slice p0 s1.length c0, .slice p1 t1.length c1] 25)).alloc (.cells #[.int .i64 0, .slice none 0 0, .slice none 0 0] 25)).cell? ⟨w.heap.size, 0, none⟩ = some (.int .i64 b1) := qCl
 have b11 : ((w.alloc (.cells #[.int .i64 b1, .slice p0 s1.length c0, .slice p1 t1.length c1] 25)).alloc (.cells #[.int .i64 0, .slice none 0 0, .slice none 0 0] 25)).cell? ⟨w.heap.size, 1, none⟩ = some (.slice p0 s1.length c0) := qCl
 have b12 : ((w.alloc (.cells #[.int .i64 b1, .slice p0 s1.length c0, .slice p1 t1.length c1] 25)).alloc (.cells #[.int .i64 0, .slice none 0 0, .slice none 0 0] 25)).cell? ⟨w.heap.size, 2, none⟩ = some (.slice p1 t1.length c1) := qCl
 have b20 : ((w.alloc (.cells #[.int .i64 b1, .slice p0 s1.length c0, .slice p1 t1.length c1] 25)).alloc (.cells #[.int .i64 0, .slice none 0 0, .slice none 0 0] 25)).cell? ⟨w.heap.size + 1, 0, none⟩ = some (.int .i64 0) := qCl
 have b21 : ((w.alloc (.cells #[.int .i64 b1, .slice p0 s1.length c0, .slice p1 t1.length c1] 25)).alloc (.cells #[.int .i64 0, .slice none 0 0, .slice none 0 0] 25)).cell? ⟨w.heap.size + 1, 1, none⟩ = some (.slice none 0 0) := qCl
 have b22 : ((w.alloc (.cells #[.int .i64 b1, .slice p0 s1.length c0, .slice p1 t1.length c1] 25)).alloc (.cells #[.int .i64 0, .slice none 0 0, .slice none 0 0] 25)).cell? ⟨w.heap.size + 1, 2, none⟩ = some (.slice none 0 0) := qCl
 have f_b20 : ((w.alloc (.cells #[.int .i64 b1, .slice p0 s1.length c0, .slice p1 t1.length c1] 25)).alloc (.cells #[.int .i64 0, .slice none 0 0, .slice none 0 0] 25)).frozen? ⟨w.heap.size + 1, 0, none⟩ = false := qFz
 have f_b21 : ((w.alloc (.cells #[.int .i64 b1, .slice p0 s1.length c0, .slice p1 t1.length c1] 25)).alloc (.cells #[.int .i64 0, .slice none 0 0, .slice none 0 0] 25)).frozen? ⟨w.heap.size + 1, 1, none⟩ = false := qFz
 have f_b22 : ((w.alloc (.cells #[.int .i64 b1, .slice p0 s1.length c0, .slice p1 t1.length c1] 25)).alloc (.cells #[.int .i64 0, .slice none 0 0, .slice none 0 0] 25)).frozen? ⟨w.heap.size + 1, 2, none⟩ = false := qFz
 have z_b1 : w.heap.size < ((w.alloc (.cells #[.int .i64 b1, .slice p0 s1.length c0, .slice p1 t1.length c1] 25)).alloc (.cells #[.int .i64 0, .slice none 0 0, .slice none 0 0] 25)).heap.size := qB b10
 have z_b2 : w.heap.size + 1 < ((w.alloc (.cells #[.int .i64 b1, .slice p0 s1.length c0, .slice p1 t1.length c1] 25)).alloc (.cells #[.int .i64 0, .slice none 0 0, .slice none 0 0] 25)).heap.size := qB b20
 have s_w1 : w.heap.size ≤ ((w.alloc (.cells #[.int .i64 b1, .slice p0 s1.length c0, .slice p1 t1.length c1] 25)).alloc (.cells #[.int .i64 0, .slice none 0 0, .slice none 0 0] 25)).heap.size := Xw1.size
 generalize (w.alloc (.cells #[.int .i64 b1, .slice p0 s1.length c0, .slice p1 t1.length c1] 25)).alloc (.cells #[.int .i64 0, .slice none 0 0, .slice none 0 0] 25) = w1 at *
 refine wp_region_tail (S := fun w' => w'.cell? ⟨w.heap.size, 0, none⟩ = some (.int .i64 b1) ∧ w'.cell? ⟨w.heap.size, 1, none⟩ = some (.slice p0 s1.length c0) ∧ w'.cell? ⟨w.heap.size, 2, none⟩ = some (.slice p1 t1.length c1) ∧ w'.cell? ⟨w.heap.size + 1, 0, none⟩ = some (.int .i64 0) ∧ w'.cell? ⟨w.heap.size + 1, 1, none⟩ = some (.slice none 0 0) ∧ w'.cell? ⟨w.heap.size + 1, 2, none⟩ = some (.slice none 0 0)) (fun i => decide (26 ≤ i)) qKr ⟨b10, b11, b12, b20, b21, b22⟩ (fun hHeld => ?_)
 refine wpTail_take (i := 0) (v := ?_) rfl qKr qKr qKr rfl qKr (fun _ _ _ h => h) (Or.inl ⟨by rfl, ?_⟩) (by assumption) ?_
 rotate_left
 ·
  (intro w hSw; (try dsimp only at hSw); go_simp; try with_reducible rfl)
 try simp only [Act.put, qA1, qA2, qA3, qA4, qA5, qA6]
 refine wpTail_one (i := 1) qKr rfl rfl (fun K hK => ?_)
 try simp only [Act.put, qA1, qA2, qA3, qA4, qA5, qA6]
 go_simp
 refine (validView_c b1 (.slice p0 s1.length c0) (.slice p1 t1.length c1) s1 t1 _ _ _ (h1.ext (Xw1.trans qXt)) (k1.ext (Xw1.trans qXt))).mono ?_
 rintro e w2 ⟨rfl, xw2⟩
 have Lw2 : Ext w1 w2 := Ext.trans qXt xw2
 have Xw2 : Ext w w2 := Xw1.trans Lw2
 replace b10 := Lw2.cell b10
 replace b11 := Lw2.cell b11
 replace b12 := Lw2.cell b12
 replace b20 := Lw2.cell b20
 replace b21 := Lw2.cell b21
 replace b22 := Lw2.cell b22
 replace f_b20 := Lw2.frz z_b2 f_b20
 replace f_b21 := Lw2.frz z_b2 f_b21
 replace f_b22 := Lw2.frz z_b2 f_b22
 have z_b1 : w.heap.size < w2.heap.size := qB b10
 have z_b2 : w.heap.size + 1 < w2.heap.size := qB b20
 have s_w2 : w.heap.size ≤ w2.heap.size := Xw2.size
 clear xw2
 rw [hvv.out]
 refine hK.out _ _ ⟨b10, b11, b12, b20, b21, b22⟩ (fun hHeld => ?_)
 clear hK K
 try simp only [Act.put, qA1, qA2, qA3, qA4, qA5, qA6]
 refine wpTail_take (i := 2) (v := ?_) rfl qKr qKr qKr rfl qKr (fun _ _ _ h => h) (Or.inl ⟨by rfl, ?_⟩) (by assumption) ?_
 rotate_left
 ·
  (intro w hSw; (try dsimp only at hSw); go_simp; try with_reducible rfl)
 try simp only [Act.put, qA1, qA2, qA3, qA4, qA5, qA6]
 refine wpTail_take (i := 3) (v := ?_) rfl qKr qKr qKr rfl qKr (fun _ _ _ h => h) (Or.inl ⟨by rfl, ?_⟩) (by assumption) ?_
 rotate_left
 ·
  (intro w hSw; (try dsimp only at hSw); go_simp; try with_reducible rfl)
 try simp only [Act.put, qA1, qA2, qA3, qA4, qA5, qA6]
 refine wpTail_take (i := 4) (v := ?_) rfl qKr qKr qKr rfl qKr (fun _ _ _ h => h) (Or.inl ⟨by rfl, ?_⟩) (by assumption) ?_
 rotate_left
 ·
  (intro w hSw; (try dsimp only at hSw); go_simp; try with_reducible rfl)
 try simp only [Act.put, qA1, qA2, qA3, qA4, qA5, qA6]
 refine wpTail_take (i := 5) (v := ?_) rfl qKr qKr qKr rfl qKr (fun _ _ _ h => h) (Or.inl ⟨by rfl, ?_⟩) (by assumption) ?_
 rotate_left
 ·
  (intro w hSw; (try dsimp only at hSw); go_simp; try with_reducible rfl)
 try simp only [Act.put, qA1, qA2, qA3, qA4, qA5, qA6]
 refine wpTail_one (i := 6) qKr rfl rfl (fun K hK => ?_)
 try simp only [Act.put, qA1, qA2, qA3, qA4, qA5, qA6]
 go_simp
 refine (isDim_c b1 (.slice p0 s1.length c0) (.slice p1 t1.length c1) s1 t1 d _ _ _ (h1.ext (Xw2.trans qXt)) (k1.ext (Xw2.trans qXt)) hs4).mono ?_
 rintro e w3 ⟨rfl, xw3⟩
 have Lw3 : Ext w2 w3 := Ext.trans qXt xw3
 have Xw3 : Ext w w3 := Xw2.trans Lw3
 replace b10 := Lw3.cell b10
 replace b11 := Lw3.cell b11
 replace b12 := Lw3.cell b12
 replace b20 := Lw3.cell b20
 replace b21 := Lw3.cell b21
 replace b22 := Lw3.cell b22
 replace f_b20 := Lw3.frz z_b2 f_b20
 replace f_b21 := Lw3.frz z_b2 f_b21
 replace f_b22 := Lw3.frz z_b2 f_b22
 have z_b1 : w.heap.size < w3.heap.size := qB b10
 have z_b2 : w.heap.size + 1 < w3.heap.size := qB b20
 have s_w3 : w.heap.size ≤ w3.heap.size := Xw3.size
 clear xw3
 rw [hin.out]
 refine hK.out _ _ ⟨b10, b11, b12, b20, b21, b22⟩ (fun hHeld => ?_)
 clear hK K
 try simp only [Act.put, qA1, qA2, qA3, qA4, qA5, qA6]
 refine wpTail_take (i := 7) (v := ?_) rfl qKr qKr qKr rfl qKr (fun _ _ _ h => h) (Or.inl ⟨by rfl, ?_⟩) (by assumption) ?_
 rotate_left
 ·
  (intro w hSw; (try dsimp only at hSw); go_simp; try with_reducible rfl)
 try simp only [Act.put, qA1, qA2, qA3, qA4, qA5, qA6]
 refine wpTail_take (i := 8) (v := ?_) rfl qKr qKr qKr rfl qKr (fun _ _ _ h => h) (Or.inl ⟨by rfl, ?_⟩) (by assumption) ?_
 rotate_left
 ·
  (intro w hSw; (try dsimp only at hSw); go_simp; try with_reducible rfl)
 try simp only [Act.put, qA1, qA2, qA3, qA4, qA5, qA6]
 refine wpTail_take (i := 9) (v := ?_) rfl qKr qKr qKr rfl qKr (fun _ _ _ h => h) (Or.inl ⟨by rfl, ?_⟩) (by assumption) ?_
 rotate_left
 ·
  (intro w hSw; (try dsimp only at hSw); go_simp; try with_reducible rfl)
 try simp only [Act.put, qA1, qA2, qA3, qA4, qA5, qA6]
 refine wpTail_take (i := 10) (v := undef) rfl qKr qKr qKr rfl qKr (fun _ _ _ h => h) (Or.inr ⟨by rfl, rfl⟩) (by assumption) ?_
 try simp only [Act.put, qA1, qA2, qA3, qA4, qA5, qA6]
 refine wpTail_take (i := 11) (v := undef) rfl qKr qKr qKr rfl qKr (fun _ _ _ h => h) (Or.inr ⟨by rfl, rfl⟩) (by assumption) ?_
 try simp only [Act.put, qA1, qA2, qA3, qA4, qA5, qA6]
 refine wpTail_take (i := 12) (v := undef) rfl qKr qKr qKr rfl qKr (fun _ _ _ h => h) (Or.inr ⟨by rfl, rfl⟩) (by assumption) ?_
 try simp only [Act.put, qA1, qA2, qA3, qA4, qA5, qA6]
 refine wpTail_take (i := 13) (v := undef) rfl qKr qKr qKr rfl qKr (fun _ _ _ h => h) (Or.inr ⟨by rfl, rfl⟩) (by assumption) ?_
 try simp only [Act.put, qA1, qA2, qA3, qA4, qA5, qA6]
 refine wpTail_take (i := 14) (v := undef) rfl qKr qKr qKr rfl qKr (fun _ _ _ h => h) (Or.inr ⟨by rfl, rfl⟩) (by assumption) ?_
 try simp only [Act.put, qA1, qA2, qA3, qA4, qA5, qA6]
 refine wpTail_take (i := 15) (v := undef) rfl qKr qKr qKr rfl qKr (fun _ _ _ h => h) (Or.inr ⟨by rfl, rfl⟩) (by assumption) ?_
 try simp only [Act.put, qA1, qA2, qA3, qA4, qA5, qA6]
 refine wpTail_take (i := 16) (v := undef) rfl qKr qKr qKr rfl qKr (fun _ _ _ h => h) (Or.inr ⟨by rfl, rfl⟩) (by assumption) ?_
 try simp only [Act.put, qA1, qA2, qA3, qA4, qA5, qA6]
 refine wpTail_take (i := 17) (v := undef) rfl qKr qKr qKr rfl qKr (fun _ _ _ h => h) (Or.inr ⟨by rfl, rfl⟩) (by assumption) ?_
 try simp only [Act.put, qA1, qA2, qA3, qA4, qA5, qA6]
 refine wpTail_take (i := 18) (v := undef) rfl qKr qKr qKr rfl qKr (fun _ _ _ h => h) (Or.inr ⟨by rfl, rfl⟩) (by assumption) ?_
 try simp only [Act.put, qA1, qA2, qA3, qA4, qA5, qA6]
 refine wpTail_take (i := 19) (v := undef) rfl qKr qKr qKr rfl qKr (fun _ _ _ h => h) (Or.inr ⟨by rfl, rfl⟩) (by assumption) ?_
 try simp only [Act.put, qA1, qA2, qA3, qA4, qA5, qA6]
 refine wpTail_take (i := 20) (v := undef) rfl qKr qKr qKr rfl qKr (fun _ _ _ h => h) (Or.inr ⟨by rfl, rfl⟩) (by assumption) ?_
 try simp only [Act.put, qA1, qA2, qA3, qA4, qA5, qA6]
 refine wpTail_take (i := 21) (v := undef) rfl qKr qKr qKr rfl qKr (fun _ _ _ h => h) (Or.inr ⟨by rfl, rfl⟩) (by assumption) ?_
 try simp only [Act.put, qA1, qA2, qA3, qA4, qA5, qA6]
 refine wpTail_take (i := 22) (v := undef) rfl qKr qKr qKr rfl qKr (fun _ _ _ h => h) (Or.inr ⟨by rfl, rfl⟩) (by assumption) ?_
 try simp only [Act.put, qA1, qA2, qA3, qA4, qA5, qA6]
 refine wpTail_take (i := 23) (v := undef) rfl qKr qKr qKr rfl qKr (fun _ _ _ h => h) (Or.inr ⟨by rfl, rfl⟩) (by assumption) ?_
 try simp only [Act.put, qA1, qA2, qA3, qA4, qA5, qA6]
 refine wpTail_take (i := 24) (v := undef) rfl qKr qKr qKr rfl qKr (fun _ _ _ h => h) (Or.inr ⟨by rfl, rfl⟩) (by assumption) ?_
 try simp only [Act.put, qA1, qA2, qA3, qA4, qA5, qA6]
 refine wpTail_take (i := 25) (v := ?_) rfl qKr qKr qKr rfl qKr (fun _ _ _ h => h) (Or.inl ⟨by rfl, ?_⟩) (by assumption) ?_
 rotate_left
 ·
  (intro w hSw; (try dsimp only at hSw); go_simp; try with_reducible rfl)
 try simp only [Act.put, qA1, qA2, qA3, qA4, qA5, qA6]
 refine wpTail_done qKr ?_ _
 clear hHeld 
 go_wp2_with fail
 have Kw4 : Chg (w.heap.size + 1) (w.heap.size + 1 + 1) w3 (((w3.setCell ⟨w.heap.size + 1, 0, none⟩ (.int .i64 0)).setCell ⟨w.heap.size + 1, 1, none⟩ (.slice none 0 0)).setCell ⟨w.heap.size + 1, 2, none⟩ (.slice none 0 0)) := (Chg.setCell (p := ⟨w.heap.size + 1, 2, none⟩) (Chg.setCell (p := ⟨w.heap.size + 1, 1, none⟩) (Chg.setCell (p := ⟨w.heap.size + 1, 0, none⟩) (Chg.refl (w.heap.size + 1) (w.heap.size + 1 + 1) _) (Nat.le_refl _) (Nat.lt_succ_self _) (.int .i64 0)) (Nat.le_refl _) (Nat.lt_succ_self _) (.slice none 0 0)) (Nat.le_refl _) (Nat.lt_succ_self _) (.slice none 0 0))
 have Xw4 : Ext w (((w3.setCell ⟨w.heap.size + 1, 0, none⟩ (.int .i64 0)).setCell ⟨w.heap.size + 1, 1, none⟩ (.slice none 0 0)).setCell ⟨w.heap.size + 1, 2, none⟩ (.slice none 0 0)) := (Ext.setCell (p := ⟨w.heap.size + 1, 2, none⟩) (Ext.setCell (p := ⟨w.heap.size + 1, 1, none⟩) (Ext.setCell (p := ⟨w.heap.size + 1, 0, none⟩) Xw3 qSo (.int .i64 0)) qSo (.slice none 0 0)) qSo (.slice none 0 0))
 replace b10 := Kw4.cell (by omega) b10
 replace b11 := Kw4.cell (by omega) b11
 replace b12 := Kw4.cell (by omega) b12
 have n_b20 : (((w3.setCell ⟨w.heap.size + 1, 0, none⟩ (.int .i64 0)).setCell ⟨w.heap.size + 1, 1, none⟩ (.slice none 0 0)).setCell ⟨w.heap.size + 1, 2, none⟩ (.slice none 0 0)).cell? ⟨w.heap.size + 1, 0, none⟩ = some (.int .i64 0) := by go_simp
 have n_f_b20 : (((w3.setCell ⟨w.heap.size + 1, 0, none⟩ (.int .i64 0)).setCell ⟨w.heap.size + 1, 1, none⟩ (.slice none 0 0)).setCell ⟨w.heap.size + 1, 2, none⟩ (.slice none 0 0)).frozen? ⟨w.heap.size + 1, 0, none⟩ = false := by go_simp
 have n_b21 : (((w3.setCell ⟨w.heap.size + 1, 0, none⟩ (.int .i64 0)).setCell ⟨w.heap.size + 1, 1, none⟩ (.slice none 0 0)).setCell ⟨w.heap.size + 1, 2, none⟩ (.slice none 0 0)).cell? ⟨w.heap.size + 1, 1, none⟩ = some (.slice none 0 0) := by go_simp
 have n_f_b21 : (((w3.setCell ⟨w.heap.size + 1, 0, none⟩ (.int .i64 0)).setCell ⟨w.heap.size + 1, 1, none⟩ (.slice none 0 0)).setCell ⟨w.heap.size + 1, 2, none⟩ (.slice none 0 0)).frozen? ⟨w.heap.size + 1, 1, none⟩ = false := by go_simp
 have n_b22 : (((w3.setCell ⟨w.heap.size + 1, 0, none⟩ (.int .i64 0)).setCell ⟨w.heap.size + 1, 1, none⟩ (.slice none 0 0)).setCell ⟨w.heap.size + 1, 2, none⟩ (.slice none 0 0)).cell? ⟨w.heap.size + 1, 2, none⟩ = some (.slice none 0 0) := by go_simp
 have n_f_b22 : (((w3.setCell ⟨w.heap.size + 1, 0, none⟩ (.int .i64 0)).setCell ⟨w.heap.size + 1, 1, none⟩ (.slice none 0 0)).setCell ⟨w.heap.size + 1, 2, none⟩ (.slice none 0 0)).frozen? ⟨w.heap.size + 1, 2, none⟩ = false := by go_simp
 replace b20 := n_b20
 clear n_b20
 replace f_b20 := n_f_b20
 clear n_f_b20
 replace b21 := n_b21
 clear n_b21
 replace f_b21 := n_f_b21
 clear n_f_b21
 replace b22 := n_b22
 clear n_b22
 replace f_b22 := n_f_b22
 clear n_f_b22
 clear Kw4
 have z_b1 : w.heap.size < (((w3.setCell ⟨w.heap.size + 1, 0, none⟩ (.int .i64 0)).setCell ⟨w.heap.size + 1, 1, none⟩ (.slice none 0 0)).setCell ⟨w.heap.size + 1, 2, none⟩ (.slice none 0 0)).heap.size := qB b10
 have z_b2 : w.heap.size + 1 < (((w3.setCell ⟨w.heap.size + 1, 0, none⟩ (.int .i64 0)).setCell ⟨w.heap.size + 1, 1, none⟩ (.slice none 0 0)).setCell ⟨w.heap.size + 1, 2, none⟩ (.slice none 0 0)).heap.size := qB b20
 have s_w4 : w.heap.size ≤ (((w3.setCell ⟨w.heap.size + 1, 0, none⟩ (.int .i64 0)).setCell ⟨w.heap.size + 1, 1, none⟩ (.slice none 0 0)).setCell ⟨w.heap.size + 1, 2, none⟩ (.slice none 0 0)).heap.size := Xw4.size
 generalize (((w3.setCell ⟨w.heap.size + 1, 0, none⟩ (.int .i64 0)).setCell ⟨w.heap.size + 1, 1, none⟩ (.slice none 0 0)).setCell ⟨w.heap.size + 1, 2, none⟩ (.slice none 0 0)) = w4 at *
 refine bodyPost_ret (v := .tuple #[.agg #[.int .i64 0, .slice none 0 0, .slice none 0 0], .bool false]) (by simp only [results, Try.results42]; go_simp) rfl ?_
 rw [show pickV b1 s1 t1 d i = noV from pick_no0 hdim.out]
 exact PVWB.no (Xw4.trans qXt)

set_option maxHeartbeats 3200000 in
theorem specPick_2 (b1 : Int) (u1 v1 : Value) (s1 t1 : List Int) (D : Nat) (i : Int) (w : World) (l1 m1 : Nat) (h1 : Ints w l1 u1 s1) (k1 : Ints w m1 v1 t1) (hdim : dimB b1 s1 t1 (D : Int) = true) (hi : -1000000 ≤ i ∧ i ≤ 1000000) :
  Calls Try.prog 42 #[.agg #[.int .i64 b1, u1, v1], .int .i64 (D : Int), .int .i64 i] w (PVX w (pickV b1 s1 t1 (D : Int) i)) := by
 obtain ⟨p0, c0, rfl⟩ := h1.form
 obtain ⟨p1, c1, rfl⟩ := k1.form
 obtain ⟨hvv, hd0, hd1⟩ := dim_in hdim
 have hDN : D < s1.length := by omega
 obtain ⟨-, hts, -, ht60, -⟩ := viewB_in hvv
 have hs4 := view_small hvv
 have hs60 := Lib.hid hs4.2
 have hs4 := hs4.1
 have hDT : D < t1.length := by omega
 have ht4 : t1.length ≤ 4 := by omega
 have hdl4 : (delL s1 D).length ≤ 4 := by rw [delL_len _ _ hDN]; omega
 have hin : inB 0 ((s1.length : Int) - 1) (D : Int) = true := by unfold inB; simp; omega
 replace hts := Lib.hid hts
 replace ht60 := Lib.hid ht60
 replace hin := Lib.hid hin
 replace hvv := Lib.hid hvv
 replace hdim := Lib.hid hdim
 go_enter Try.func42, Try.ntmps42
 go_wp2_with fail
 have Lw1 : Ext w ((w.alloc (.cells #[.int .i64 b1, .slice p0 s1.length c0, .slice p1 t1.length c1] 25)).alloc (.cells #[.int .i64 0, .slice none 0 0, .slice none 0 0] 25)) := qXt
 have Xw1 : Ext w ((w.alloc (.cells #[.int .i64 b1, .slice p0 s1.length c0, .slice p1 t1.length c1] 25)).alloc (.cells #[.int .i64 0, .slice none 0 0, .slice none 0 0] 25)) := Lw1
 have b10 : ((w.alloc (.cells #[.int .i64 b1, .slice p0 s1.length c0, .slice p1 t1.length c1] 25)).alloc (.cells #[.int .i64 0, .slice none 0 0, .slice none 0 0] 25)).cell? ⟨w.heap.size, 0, none⟩ = some (.int .i64 b1) := qCl
 have b11 : ((w.alloc (.cells #[.int .i64 b1, .slice p0 s1.length c0, .slice p1 t1.length c1] 25)).alloc (.cells #[.int .i64 0, .slice none 0 0, .slice none 0 0] 25)).cell? ⟨w.heap.size, 1, none⟩ = some (.slice p0 s1.length c0) := qCl
 have b12 : ((w.alloc (.cells #[.int .i64 b1, .slice p0 s1.length c0, .slice p1 t1.length c1] 25)).alloc (.cells #[.int .i64 0, .slice none 0 0, .slice none 0 0] 25)).cell? ⟨w.heap.size, 2, none⟩ = some (.slice p1 t1.length c1) := qCl
 have b20 : ((w.alloc (.cells #[.int .i64 b1, .slice p0 s1.length c0, .slice p1 t1.length c1] 25)).alloc (.cells #[.int .i64 0, .slice none 0 0, .slice none 0 0] 25)).cell? ⟨w.heap.size + 1, 0, none⟩ = some (.int .i64 0) := qCl
 have b21 : ((w.alloc (.cells #[.int .i64 b1, .slice p0 s1.length c0, .slice p1 t1.length c1] 25)).alloc (.cells #[.int .i64 0, .slice none 0 0, .slice none 0 0] 25)).cell? ⟨w.heap.size + 1, 1, none⟩ = some (.slice none 0 0) := qCl
 have b22 : ((w.alloc (.cells #[.int .i64 b1, .slice p0 s1.length c0, .slice p1 t1.length c1] 25)).alloc (.cells #[.int .i64 0, .slice none 0 0, .slice none 0 0] 25)).cell? ⟨w.heap.size + 1, 2, none⟩ = some (.slice none 0 0) := qCl
 have f_b20 : ((w.alloc (.cells #[.int .i64 b1, .slice p0 s1.length c0, .slice p1 t1.length c1] 25)).alloc (.cells #[.int .i64 0, .slice none 0 0, .slice none 0 0] 25)).frozen? ⟨w.heap.size + 1, 0, none⟩ = false := qFz
 have f_b21 : ((w.alloc (.cells #[.int .i64 b1, .slice p0 s1.length c0, .slice p1 t1.length c1] 25)).alloc (.cells #[.int .i64 0, .slice none 0 0, .slice none 0 0] 25)).frozen? ⟨w.heap.size + 1, 1, none⟩ = false := qFz
 have f_b22 : ((w.alloc (.cells #[.int .i64 b1, .slice p0 s1.length c0, .slice p1 t1.length c1] 25)).alloc (.cells #[.int .i64 0, .slice none 0 0, .slice none 0 0] 25)).frozen? ⟨w.heap.size + 1, 2, none⟩ = false := qFz
 have z_b1 : w.heap.size < ((w.alloc (.cells #[.int .i64 b1, .slice p0 s1.length c0, .slice p1 t1.length c1] 25)).alloc (.cells #[.int .i64 0, .slice none 0 0, .slice none 0 0] 25)).heap.size := qB b10
 have z_b2 : w.heap.size + 1 < ((w.alloc (.cells #[.int .i64 b1, .slice p0 s1.length c0, .slice p1 t1.length c1] 25)).alloc (.cells #[.int .i64 0, .slice none 0 0, .slice none 0 0] 25)).heap.size := qB b20
 have s_w1 : w.heap.size ≤ ((w.alloc (.cells #[.int .i64 b1, .slice p0 s1.length c0, .slice p1 t1.length c1] 25)).alloc (.cells #[.int .i64 0, .slice none 0 0, .slice none 0 0] 25)).heap.size := Xw1.size
 generalize (w.alloc (.cells #[.int .i64 b1, .slice p0 s1.length c0, .slice p1 t1.length c1] 25)).alloc (.cells #[.int .i64 0, .slice none 0 0, .slice none 0 0] 25) = w1 at *
 have hN_e5 : D < s1.length := (by omega)
 have hI_e5 : (D : Int) < (s1.length : Int) := by omega
 obtain ⟨bl3, ol4, rfl, e50⟩ := h1.at D (by omega)
 have y_e5 : bl3 < w.heap.size := qB e50
 replace e50 := Xw1.cell e50
 obtain ⟨v6, hv6⟩ : ∃ v, s1.getD D 0 = v := ⟨_, rfl⟩
 rw [hv6] at e50
 replace hv6 := Lib.hid hv6
 have z_e5 : bl3 < w1.heap.size := qB e50
 have h60v6 := hs60.out _ (getD_mem hDN)
 rw [hv6.out] at h60v6
 refine wp_region_tail (S := fun w' => w'.cell? ⟨w.heap.size, 0, none⟩ = some (.int .i64 b1) ∧ w'.cell? ⟨w.heap.size, 1, none⟩ = some (.slice (some ⟨bl3, ol4, none⟩) s1.length c0) ∧ w'.cell? ⟨w.heap.size, 2, none⟩ = some (.slice p1 t1.length c1) ∧ w'.cell? ⟨w.heap.size + 1, 0, none⟩ = some (.int .i64 0) ∧ w'.cell? ⟨w.heap.size + 1, 1, none⟩ = some (.slice none 0 0) ∧ w'.cell? ⟨w.heap.size + 1, 2, none⟩ = some (.slice none 0 0) ∧ w'.cell? ⟨bl3, ol4 + D, none⟩ = some (.int .i64 v6)) (fun i => decide (26 ≤ i)) qKr ⟨b10, b11, b12, b20, b21, b22, e50⟩ (fun hHeld => ?_)
 refine wpTail_take (i := 0) (v := ?_) rfl qKr qKr qKr rfl qKr (fun _ _ _ h => h) (Or.inl ⟨by rfl, ?_⟩) (by assumption) ?_
 rotate_left
 ·
  (intro w hSw; (try dsimp only at hSw); go_simp; try with_reducible rfl)
 try simp only [Act.put, qA1, qA2, qA3, qA4, qA5, qA6]
 refine wpTail_one (i := 1) qKr rfl rfl (fun K hK => ?_)
 try simp only [Act.put, qA1, qA2, qA3, qA4, qA5, qA6]
 go_simp
 refine (validView_c b1 (.slice (some ⟨bl3, ol4, none⟩) s1.length c0) (.slice p1 t1.length c1) s1 t1 _ _ _ (h1.ext (Xw1.trans qXt)) (k1.ext (Xw1.trans qXt))).mono ?_
 rintro e w2 ⟨rfl, xw2⟩
 have Lw2 : Ext w1 w2 := Ext.trans qXt xw2
 have Xw2 : Ext w w2 := Xw1.trans Lw2
 replace b10 := Lw2.cell b10
 replace b11 := Lw2.cell b11
 replace b12 := Lw2.cell b12
 replace b20 := Lw2.cell b20
 replace b21 := Lw2.cell b21
 replace b22 := Lw2.cell b22
 replace f_b20 := Lw2.frz z_b2 f_b20
 replace f_b21 := Lw2.frz z_b2 f_b21
 replace f_b22 := Lw2.frz z_b2 f_b22
 replace e50 := Lw2.cell e50
 have z_b1 : w.heap.size < w2.heap.size := qB b10
 have z_b2 : w.heap.size + 1 < w2.heap.size := qB b20
 have z_e5 : bl3 < w2.heap.size := qB e50
 have s_w2 : w.heap.size ≤ w2.heap.size := Xw2.size
 clear xw2
 rw [hvv.out]
 refine hK.out _ _ ⟨b10, b11, b12, b20, b21, b22, e50⟩ (fun hHeld => ?_)
 clear hK K
 try simp only [Act.put, qA1, qA2, qA3, qA4, qA5, qA6]
 refine wpTail_take (i := 2) (v := ?_) rfl qKr qKr qKr rfl qKr (fun _ _ _ h => h) (Or.inl ⟨by rfl, ?_⟩) (by assumption) ?_
 rotate_left
 ·
  (intro w hSw; (try dsimp only at hSw); go_simp; try with_reducible rfl)
 try simp only [Act.put, qA1, qA2, qA3, qA4, qA5, qA6]
 refine wpTail_take (i := 3) (v := ?_) rfl qKr qKr qKr rfl qKr (fun _ _ _ h => h) (Or.inl ⟨by rfl, ?_⟩) (by assumption) ?_
 rotate_left
 ·
  (intro w hSw; (try dsimp only at hSw); go_simp; try with_reducible rfl)
 try simp only [Act.put, qA1, qA2, qA3, qA4, qA5, qA6]
 refine wpTail_take (i := 4) (v := ?_) rfl qKr qKr qKr rfl qKr (fun _ _ _ h => h) (Or.inl ⟨by rfl, ?_⟩) (by assumption) ?_
 rotate_left
 ·
  (intro w hSw; (try dsimp only at hSw); go_simp; try with_reducible rfl)
 try simp only [Act.put, qA1, qA2, qA3, qA4, qA5, qA6]
 refine wpTail_take (i := 5) (v := ?_) rfl qKr qKr qKr rfl qKr (fun _ _ _ h => h) (Or.inl ⟨by rfl, ?_⟩) (by assumption) ?_
 rotate_left
 ·
  (intro w hSw; (try dsimp only at hSw); go_simp; try with_reducible rfl)
 try simp only [Act.put, qA1, qA2, qA3, qA4, qA5, qA6]
 refine wpTail_one (i := 6) qKr rfl rfl (fun K hK => ?_)
 try simp only [Act.put, qA1, qA2, qA3, qA4, qA5, qA6]
 go_simp
 refine (isDim_c b1 (.slice (some ⟨bl3, ol4, none⟩) s1.length c0) (.slice p1 t1.length c1) s1 t1 (D : Int) _ _ _ (h1.ext (Xw2.trans qXt)) (k1.ext (Xw2.trans qXt)) hs4).mono ?_
 rintro e w3 ⟨rfl, xw3⟩
 have Lw3 : Ext w2 w3 := Ext.trans qXt xw3
 have Xw3 : Ext w w3 := Xw2.trans Lw3
 replace b10 := Lw3.cell b10
 replace b11 := Lw3.cell b11
 replace b12 := Lw3.cell b12
 replace b20 := Lw3.cell b20
 replace b21 := Lw3.cell b21
 replace b22 := Lw3.cell b22
 replace f_b20 := Lw3.frz z_b2 f_b20
 replace f_b21 := Lw3.frz z_b2 f_b21
 replace f_b22 := Lw3.frz z_b2 f_b22
 replace e50 := Lw3.cell e50
 have z_b1 : w.heap.size < w3.heap.size := qB b10
 have z_b2 : w.heap.size + 1 < w3.heap.size := qB b20
 have z_e5 : bl3 < w3.heap.size := qB e50
 have s_w3 : w.heap.size ≤ w3.heap.size := Xw3.size
 clear xw3
 rw [hin.out]
 refine hK.out _ _ ⟨b10, b11, b12, b20, b21, b22, e50⟩ (fun hHeld => ?_)
 clear hK K
 try simp only [Act.put, qA1, qA2, qA3, qA4, qA5, qA6]
 refine wpTail_take (i := 7) (v := ?_) rfl qKr qKr qKr rfl qKr (fun _ _ _ h => h) (Or.inl ⟨by rfl, ?_⟩) (by assumption) ?_
 rotate_left
 ·
  (intro w hSw; (try dsimp only at hSw); go_simp; try with_reducible rfl)
 try simp only [Act.put, qA1, qA2, qA3, qA4, qA5, qA6]
 refine wpTail_take (i := 8) (v := ?_) rfl qKr qKr qKr rfl qKr (fun _ _ _ h => h) (Or.inl ⟨by rfl, ?_⟩) (by assumption) ?_
 rotate_left
 ·
  (intro w hSw; (try dsimp only at hSw); go_simp; try with_reducible rfl)
 try simp only [Act.put, qA1, qA2, qA3, qA4, qA5, qA6]
 refine wpTail_take (i := 9) (v := ?_) rfl qKr qKr qKr rfl qKr (fun _ _ _ h => h) (Or.inl ⟨by rfl, ?_⟩) (by assumption) ?_
 rotate_left
 ·
  (intro w hSw; (try dsimp only at hSw); go_simp; try with_reducible rfl)
 try simp only [Act.put, qA1, qA2, qA3, qA4, qA5, qA6]
 refine wpTail_take (i := 10) (v := ?_) rfl qKr qKr qKr rfl qKr (fun _ _ _ h => h) (Or.inl ⟨by rfl, ?_⟩) (by assumption) ?_
 rotate_left
 ·
  (intro w hSw; (try dsimp only at hSw); go_simp; try with_reducible rfl)
 try simp only [Act.put, qA1, qA2, qA3, qA4, qA5, qA6]
 refine wpTail_take (i := 11) (v := ?_) rfl qKr qKr qKr rfl qKr (fun _ _ _ h => h) (Or.inl ⟨by rfl, ?_⟩) (by assumption) ?_
 rotate_left
 ·
  (intro w hSw; (try dsimp only at hSw); go_simp; try with_reducible rfl)
 try simp only [Act.put, qA1, qA2, qA3, qA4, qA5, qA6]
 refine wpTail_take (i := 12) (v := ?_) rfl qKr qKr qKr rfl qKr (fun _ _ _ h => h) (Or.inl ⟨by rfl, ?_⟩) (by assumption) ?_
 rotate_left
 ·
  (intro w hSw; (try dsimp only at hSw); go_simp; try with_reducible rfl)
 try simp only [Act.put, qA1, qA2, qA3, qA4, qA5, qA6]
 refine wpTail_take (i := 13) (v := ?_) rfl qKr qKr qKr rfl qKr (fun _ _ _ h => h) (Or.inl ⟨by rfl, ?_⟩) (by assumption) ?_
 rotate_left
 ·
  (intro w hSw; (try dsimp only at hSw); go_simp; try with_reducible rfl)
 try simp only [Act.put, qA1, qA2, qA3, qA4, qA5, qA6]
 refine wpTail_take (i := 14) (v := ?_) rfl qKr qKr qKr rfl qKr (fun _ _ _ h => h) (Or.inl ⟨by rfl, ?_⟩) (by assumption) ?_
 rotate_left
 ·
  (intro w hSw; (try dsimp only at hSw); go_simp; try with_reducible rfl)
 try simp only [Act.put, qA1, qA2, qA3, qA4, qA5, qA6]
 refine wpTail_take (i := 15) (v := ?_) rfl qKr qKr qKr rfl qKr (fun _ _ _ h => h) (Or.inl ⟨by rfl, ?_⟩) (by assumption) ?_
 rotate_left
 ·
  (intro w hSw; (try dsimp only at hSw); go_simp; try with_reducible rfl)
 try simp only [Act.put, qA1, qA2, qA3, qA4, qA5, qA6]
 have hw13 : IntKind.i64.wrap (-v6) = -v6 := IntWalk.i64_in _ (by omega)
 refine wpTail_take (i := 16) (v := ?_) rfl qKr qKr qKr rfl qKr (fun _ _ _ h => h) (Or.inl ⟨by rfl, ?_⟩) (by assumption) ?_
 rotate_left
 ·
  (intro w hSw; (try dsimp only at hSw); go_simp; try with_reducible rfl)
 try simp only [Act.put, qA1, qA2, qA3, qA4, qA5, qA6]
 refine wpTail_take (i := 17) (v := ?_) rfl qKr qKr qKr rfl qKr (fun _ _ _ h => h) (Or.inl ⟨by rfl, ?_⟩) (by assumption) ?_
 rotate_left
 ·
  (intro w hSw; (try dsimp only at hSw); go_simp; try with_reducible rfl)
 try simp only [Act.put, qA1, qA2, qA3, qA4, qA5, qA6]
 refine wpTail_take (i := 18) (v := ?_) rfl qKr qKr qKr rfl qKr (fun _ _ _ h => h) (Or.inl ⟨by rfl, ?_⟩) (by assumption) ?_
 rotate_left
 ·
  (intro w hSw; (try dsimp only at hSw); go_simp; try with_reducible rfl)
 try simp only [Act.put, qA1, qA2, qA3, qA4, qA5, qA6]
 refine wpTail_take (i := 19) (v := ?_) rfl qKr qKr qKr rfl qKr (fun _ _ _ h => h) (Or.inl ⟨by rfl, ?_⟩) (by assumption) ?_
 rotate_left
 ·
  (intro w hSw; (try dsimp only at hSw); go_simp; try with_reducible rfl)
 try simp only [Act.put, qA1, qA2, qA3, qA4, qA5, qA6]
 refine wpTail_take (i := 20) (v := ?_) rfl qKr qKr qKr rfl qKr (fun _ _ _ h => h) (Or.inl ⟨by rfl, ?_⟩) (by assumption) ?_
 rotate_left
 ·
  (intro w hSw; (try dsimp only at hSw); go_simp; try with_reducible rfl)
 try simp only [Act.put, qA1, qA2, qA3, qA4, qA5, qA6]
 refine wpTail_take (i := 21) (v := ?_) rfl qKr qKr qKr rfl qKr (fun _ _ _ h => h) (Or.inl ⟨by rfl, ?_⟩) (by assumption) ?_
 rotate_left
 ·
  (intro w hSw; (try dsimp only at hSw); go_simp; try with_reducible rfl)
 try simp only [Act.put, qA1, qA2, qA3, qA4, qA5, qA6]
 have hw17 : IntKind.i64.wrap (v6 - 1) = v6 - 1 := IntWalk.i64_in _ (by omega)
 refine wpTail_take (i := 22) (v := ?_) rfl qKr qKr qKr rfl qKr (fun _ _ _ h => h) (Or.inl ⟨by rfl, ?_⟩) (by assumption) ?_
 rotate_left
 ·
  (intro w hSw; (try dsimp only at hSw); go_simp; try with_reducible rfl)
 try simp only [Act.put, qA1, qA2, qA3, qA4, qA5, qA6]
 refine wpTail_one (i := 23) qKr rfl rfl (fun K hK => ?_)
 try simp only [Act.put, qA1, qA2, qA3, qA4, qA5, qA6]
 go_simp
 refine (inRange_c i (-v6) (v6 - 1) _).mono ?_
 rintro e w' ⟨rfl, rfl⟩
 cases hB18 : inB (-v6) (v6 - 1) i
 ·
  replace hB18 := Lib.hid hB18
  refine hK.out _ _ ⟨b10, b11, b12, b20, b21, b22, e50⟩ (fun hHeld => ?_)
  clear hK K
  try simp only [Act.put, qA1, qA2, qA3, qA4, qA5, qA6]
  refine wpTail_take (i := 24) (v := ?_) rfl qKr qKr qKr rfl qKr (fun _ _ _ h => h) (Or.inl ⟨by rfl, ?_⟩) (by assumption) ?_
  rotate_left
  ·
   (intro w hSw; (try dsimp only at hSw); go_simp; try with_reducible rfl)
  try simp only [Act.put, qA1, qA2, qA3, qA4, qA5, qA6]
  refine wpTail_take (i := 25) (v := ?_) rfl qKr qKr qKr rfl qKr (fun _ _ _ h => h) (Or.inl ⟨by rfl, ?_⟩) (by assumption) ?_
  rotate_left
  ·
   (intro w hSw; (try dsimp only at hSw); go_simp; try with_reducible rfl)
  try simp only [Act.put, qA1, qA2, qA3, qA4, qA5, qA6]
  refine wpTail_done qKr ?_ _
  clear hHeld hw13 hw17
  go_wp2_with fail
  have Kw4 : Chg (w.heap.size + 1) (w.heap.size + 1 + 1) w3 (((w3.setCell ⟨w.heap.size + 1, 0, none⟩ (.int .i64 0)).setCell ⟨w.heap.size + 1, 1, none⟩ (.slice none 0 0)).setCell ⟨w.heap.size + 1, 2, none⟩ (.slice none 0 0)) := (Chg.setCell (p := ⟨w.heap.size + 1, 2, none⟩) (Chg.setCell (p := ⟨w.heap.size + 1, 1, none⟩) (Chg.setCell (p := ⟨w.heap.size + 1, 0, none⟩) (Chg.refl (w.heap.size + 1) (w.heap.size + 1 + 1) _) (Nat.le_refl _) (Nat.lt_succ_self _) (.int .i64 0)) (Nat.le_refl _) (Nat.lt_succ_self _) (.slice none 0 0)) (Nat.le_refl _) (Nat.lt_succ_self _) (.slice none 0 0))
  have Xw4 : Ext w (((w3.setCell ⟨w.heap.size + 1, 0, none⟩ (.int .i64 0)).setCell ⟨w.heap.size + 1, 1, none⟩ (.slice none 0 0)).setCell ⟨w.heap.size + 1, 2, none⟩ (.slice none 0 0)) := (Ext.setCell (p := ⟨w.heap.size + 1, 2, none⟩) (Ext.setCell (p := ⟨w.heap.size + 1, 1, none⟩) (Ext.setCell (p := ⟨w.heap.size + 1, 0, none⟩) Xw3 qSo (.int .i64 0)) qSo (.slice none 0 0)) qSo (.slice none 0 0))
  replace b10 := Kw4.cell (by omega) b10
  replace b11 := Kw4.cell (by omega) b11
  replace b12 := Kw4.cell (by omega) b12
  have n_b20 : (((w3.setCell ⟨w.heap.size + 1, 0, none⟩ (.int .i64 0)).setCell ⟨w.heap.size + 1, 1, none⟩ (.slice none 0 0)).setCell ⟨w.heap.size + 1, 2, none⟩ (.slice none 0 0)).cell? ⟨w.heap.size + 1, 0, none⟩ = some (.int .i64 0) := by go_simp
  have n_f_b20 : (((w3.setCell ⟨w.heap.size + 1, 0, none⟩ (.int .i64 0)).setCell ⟨w.heap.size + 1, 1, none⟩ (.slice none 0 0)).setCell ⟨w.heap.size + 1, 2, none⟩ (.slice none 0 0)).frozen? ⟨w.heap.size + 1, 0, none⟩ = false := by go_simp
  have n_b21 : (((w3.setCell ⟨w.heap.size + 1, 0, none⟩ (.int .i64 0)).setCell ⟨w.heap.size + 1, 1, none⟩ (.slice none 0 0)).setCell ⟨w.heap.size + 1, 2, none⟩ (.slice none 0 0)).cell? ⟨w.heap.size + 1, 1, none⟩ = some (.slice none 0 0) := by go_simp
  have n_f_b21 : (((w3.setCell ⟨w.heap.size + 1, 0, none⟩ (.int .i64 0)).setCell ⟨w.heap.size + 1, 1, none⟩ (.slice none 0 0)).setCell ⟨w.heap.size + 1, 2, none⟩ (.slice none 0 0)).frozen? ⟨w.heap.size + 1, 1, none⟩ = false := by go_simp
  have n_b22 : (((w3.setCell ⟨w.heap.size + 1, 0, none⟩ (.int .i64 0)).setCell ⟨w.heap.size + 1, 1, none⟩ (.slice none 0 0)).setCell ⟨w.heap.size + 1, 2, none⟩ (.slice none 0 0)).cell? ⟨w.heap.size + 1, 2, none⟩ = some (.slice none 0 0) := by go_simp
  have n_f_b22 : (((w3.setCell ⟨w.heap.size + 1, 0, none⟩ (.int .i64 0)).setCell ⟨w.heap.size + 1, 1, none⟩ (.slice none 0 0)).setCell ⟨w.heap.size + 1, 2, none⟩ (.slice none 0 0)).frozen? ⟨w.heap.size + 1, 2, none⟩ = false := by go_simp
  replace b20 := n_b20
  clear n_b20
  replace f_b20 := n_f_b20
  clear n_f_b20
  replace b21 := n_b21
  clear n_b21
  replace f_b21 := n_f_b21
  clear n_f_b21
  replace b22 := n_b22
  clear n_b22
  replace f_b22 := n_f_b22
  clear n_f_b22
  replace e50 := Kw4.cell (by omega) e50
  clear Kw4
  have z_b1 : w.heap.size < (((w3.setCell ⟨w.heap.size + 1, 0, none⟩ (.int .i64 0)).setCell ⟨w.heap.size + 1, 1, none⟩ (.slice none 0 0)).setCell ⟨w.heap.size + 1, 2, none⟩ (.slice none 0 0)).heap.size := qB b10
  have z_b2 : w.heap.size + 1 < (((w3.setCell ⟨w.heap.size + 1, 0, none⟩ (.int .i64 0)).setCell ⟨w.heap.size + 1, 1, none⟩ (.slice none 0 0)).setCell ⟨w.heap.size + 1, 2, none⟩ (.slice none 0 0)).heap.size := qB b20
  have z_e5 : bl3 < (((w3.setCell ⟨w.heap.size + 1, 0, none⟩ (.int .i64 0)).setCell ⟨w.heap.size + 1, 1, none⟩ (.slice none 0 0)).setCell ⟨w.heap.size + 1, 2, none⟩ (.slice none 0 0)).heap.size := qB e50
  have s_w4 : w.heap.size ≤ (((w3.setCell ⟨w.heap.size + 1, 0, none⟩ (.int .i64 0)).setCell ⟨w.heap.size + 1, 1, none⟩ (.slice none 0 0)).setCell ⟨w.heap.size + 1, 2, none⟩ (.slice none 0 0)).heap.size := Xw4.size
  generalize (((w3.setCell ⟨w.heap.size + 1, 0, none⟩ (.int .i64 0)).setCell ⟨w.heap.size + 1, 1, none⟩ (.slice none 0 0)).setCell ⟨w.heap.size + 1, 2, none⟩ (.slice none 0 0)) = w4 at *
  refine bodyPost_ret (v := .tuple #[.agg #[.int .i64 0, .slice none 0 0, .slice none 0 0], .bool false]) (by simp only [results, Try.results42]; go_simp) rfl ?_
  rw [show pickV b1 s1 t1 (D : Int) i = noV from pick_no1 hv6.out (by have := hB18.out; simp only [inB, decide_eq_false_iff_not] at this; omega)]
  exact PVWB.no (Xw4.trans qXt)
 ·
  replace hB18 := Lib.hid hB18
  have hin7 := hB18.out
  simp only [inB, decide_eq_true_eq] at hin7
  refine hK.out _ _ ⟨b10, b11, b12, b20, b21, b22, e50⟩ (fun hHeld => ?_)
  clear hK K
  try simp only [Act.put, qA1, qA2, qA3, qA4, qA5, qA6]
  refine wpTail_take (i := 24) (v := ?_) rfl qKr qKr qKr rfl qKr (fun _ _ _ h => h) (Or.inl ⟨by rfl, ?_⟩) (by assumption) ?_
  rotate_left
  ·
   (intro w hSw; (try dsimp only at hSw); go_simp; try with_reducible rfl)
  try simp only [Act.put, qA1, qA2, qA3, qA4, qA5, qA6]
  refine wpTail_take (i := 25) (v := ?_) rfl qKr qKr qKr rfl qKr (fun _ _ _ h => h) (Or.inl ⟨by rfl, ?_⟩) (by assumption) ?_
  rotate_left
  ·
   (intro w hSw; (try dsimp only at hSw); go_simp; try with_reducible rfl)
  try simp only [Act.put, qA1, qA2, qA3, qA4, qA5, qA6]
  refine wpTail_done qKr ?_ _
  clear hHeld hw13 hw17
  by_cases hc19 : (i : Int) < (0 : Int)
  ·
   go_wp2_with fail
   have hN_e25 : D < t1.length := (by omega)
   have hI_e25 : (D : Int) < (t1.length : Int) := by omega
   obtain ⟨bl23, ol24, rfl, e250⟩ := k1.at D (by omega)
   have y_e25 : bl23 < w.heap.size := qB e250
   replace e250 := Xw3.cell e250
   obtain ⟨v26, hv26⟩ : ∃ v, t1.getD D 0 = v := ⟨_, rfl⟩
   rw [hv26] at e250
   replace hv26 := Lib.hid hv26
   have z_e25 : bl23 < w3.heap.size := qB e250
   have h60v26 := ht60.out _ (getD_mem hDT)
   rw [hv26.out] at h60v26
   have hjb := mul_bd (x := (i + v6)) (t := v26) (by omega) (by omega) (show (0 : Int) ≤ 60 by omega) h60v26.1 h60v26.2
   have hb60 := (viewB_in hvv.out).2.2.1
   have hpv := (pick_view hvv.out hDN (show 0 ≤ (i + v6) by omega) (show (i + v6) < s1.getD D 0 by rw [hv6.out]; omega)).1
   rw [hv26.out] at hpv
   replace hpv := Lib.hid hpv
   go_cut [8] (fun s8 wx => ∃ (g : Nat) (afv32 : Option Addr) (cfv32 : Nat) (afv34 : Option Addr) (cfv34 : Nat), s8 = .pointer (some ⟨g, 0, none⟩) ∧ Ext w3 wx ∧ w3.heap.size ≤ g ∧ wx.cell? ⟨g, 0, none⟩ = some (.int .i64 (b1 + ((i + v6) * v26))) ∧ wx.cell? ⟨g, 1, none⟩ = some (.slice afv32 ((delL s1 D).length) cfv32) ∧ wx.cell? ⟨g, 2, none⟩ = some (.slice afv34 ((delL t1 D).length) cfv34) ∧ wx.frozen? ⟨g, 0, none⟩ = false ∧ wx.frozen? ⟨g, 1, none⟩ = false ∧ wx.frozen? ⟨g, 2, none⟩ = false ∧ Ints wx w3.heap.size (.slice afv32 ((delL s1 D).length) cfv32) (delL s1 D) ∧ Ints wx w3.heap.size (.slice afv34 ((delL t1 D).length) cfv34) (delL t1 D))
   case first =>
    have BD5 : Ext w3 w3 := Ext.refl _
    refine wp_region_held_drew (S := fun w' => w'.cell? ⟨w.heap.size, 0, none⟩ = some (.int .i64 b1) ∧ w'.cell? ⟨w.heap.size, 1, none⟩ = some (.slice (some ⟨bl3, ol4, none⟩) s1.length c0) ∧ w'.cell? ⟨w.heap.size, 2, none⟩ = some (.slice (some ⟨bl23, ol24, none⟩) t1.length c1) ∧ w'.cell? ⟨w.heap.size + 1, 0, none⟩ = some (.int .i64 0) ∧ w'.cell? ⟨w.heap.size + 1, 1, none⟩ = some (.slice none 0 0) ∧ w'.cell? ⟨w.heap.size + 1, 2, none⟩ = some (.slice none 0 0) ∧ w'.cell? ⟨bl3, ol4 + D, none⟩ = some (.int .i64 v6) ∧ w'.cell? ⟨bl23, ol24 + D, none⟩ = some (.int .i64 v26)) qKr ⟨b10, b11, b12, b20, b21, b22, e50, e250⟩ (fun hHeld => ?_)
    refine wpAnyH_take (i := 0) (v := ?_) rfl qKr qKr qKr (fun _ _ _ h => h) (Or.inl ⟨by rfl, ?_⟩) (by assumption) ?_
    rotate_left
    ·
     (intro w hSw; (try dsimp only at hSw); go_simp; try with_reducible rfl)
    try simp only [Act.put, qA1, qA2, qA3, qA4, qA5, qA6]
    refine wpAnyH_take (i := 1) (v := ?_) rfl qKr qKr qKr (fun _ _ _ h => h) (Or.inl ⟨by rfl, ?_⟩) (by assumption) ?_
    rotate_left
    ·
     (intro w hSw; (try dsimp only at hSw); go_simp; try with_reducible rfl)
    try simp only [Act.put, qA1, qA2, qA3, qA4, qA5, qA6]
    refine wpAnyH_take (i := 2) (v := ?_) rfl qKr qKr qKr (fun _ _ _ h => h) (Or.inl ⟨by rfl, ?_⟩) (by assumption) ?_
    rotate_left
    ·
     (intro w hSw; (try dsimp only at hSw); go_simp; try with_reducible rfl)
    try simp only [Act.put, qA1, qA2, qA3, qA4, qA5, qA6]
    refine wpAnyH_take (i := 3) (v := ?_) rfl qKr qKr qKr (fun _ _ _ h => h) (Or.inl ⟨by rfl, ?_⟩) (by assumption) ?_
    rotate_left
    ·
     (intro w hSw; (try dsimp only at hSw); go_simp; try with_reducible rfl)
    try simp only [Act.put, qA1, qA2, qA3, qA4, qA5, qA6]
    refine wpAnyH_take (i := 4) (v := ?_) rfl qKr qKr qKr (fun _ _ _ h => h) (Or.inl ⟨by rfl, ?_⟩) (by assumption) ?_
    rotate_left
    ·
     (intro w hSw; (try dsimp only at hSw); go_simp; try with_reducible rfl)
    try simp only [Act.put, qA1, qA2, qA3, qA4, qA5, qA6]
    refine wpAnyH_take (i := 5) (v := ?_) rfl qKr qKr qKr (fun _ _ _ h => h) (Or.inl ⟨by rfl, ?_⟩) (by assumption) ?_
    rotate_left
    ·
     (intro w hSw; (try dsimp only at hSw); go_simp; try with_reducible rfl)
    try simp only [Act.put, qA1, qA2, qA3, qA4, qA5, qA6]
    refine wpAnyH_take (i := 6) (v := ?_) rfl qKr qKr qKr (fun _ _ _ h => h) (Or.inl ⟨by rfl, ?_⟩) (by assumption) ?_
    rotate_left
    ·
     (intro w hSw; (try dsimp only at hSw); go_simp; try with_reducible rfl)
    try simp only [Act.put, qA1, qA2, qA3, qA4, qA5, qA6]
    refine wpAnyH_take (i := 7) (v := ?_) rfl qKr qKr qKr (fun _ _ _ h => h) (Or.inl ⟨by rfl, ?_⟩) (by assumption) ?_
    rotate_left
    ·
     (intro w hSw; (try dsimp only at hSw); go_simp; try with_reducible rfl)
    try simp only [Act.put, qA1, qA2, qA3, qA4, qA5, qA6]
    have hw30 : IntKind.i64.wrap ((i + v6) * v26) = (i + v6) * v26 := IntWalk.i64_in _ (by omega)
    refine wpAnyH_take (i := 8) (v := ?_) rfl qKr qKr qKr (fun _ _ _ h => h) (Or.inl ⟨by rfl, ?_⟩) (by assumption) ?_
    rotate_left
    ·
     (intro w hSw; (try dsimp only at hSw); go_simp; try with_reducible rfl)
    try simp only [Act.put, qA1, qA2, qA3, qA4, qA5, qA6]
    have hw31 : IntKind.i64.wrap (b1 + ((i + v6) * v26)) = b1 + ((i + v6) * v26) := IntWalk.i64_in _ (by omega)
    refine wpAnyH_take (i := 9) (v := ?_) rfl qKr qKr qKr (fun _ _ _ h => h) (Or.inl ⟨by rfl, ?_⟩) (by assumption) ?_
    rotate_left
    ·
     (intro w hSw; (try dsimp only at hSw); go_simp; try with_reducible rfl)
    try simp only [Act.put, qA1, qA2, qA3, qA4, qA5, qA6]
    refine wpAnyH_take (i := 10) (v := ?_) rfl qKr qKr qKr (fun _ _ _ h => h) (Or.inl ⟨by rfl, ?_⟩) (by assumption) ?_
    rotate_left
    ·
     (intro w hSw; (try dsimp only at hSw); go_simp; try with_reducible rfl)
    try simp only [Act.put, qA1, qA2, qA3, qA4, qA5, qA6]
    refine wpAnyH_take (i := 11) (v := ?_) rfl qKr qKr qKr (fun _ _ _ h => h) (Or.inl ⟨by rfl, ?_⟩) (by assumption) ?_
    rotate_left
    ·
     (intro w hSw; (try dsimp only at hSw); go_simp; try with_reducible rfl)
    try simp only [Act.put, qA1, qA2, qA3, qA4, qA5, qA6]
    refine wpAnyH_take (i := 12) (v := ?_) rfl qKr qKr qKr (fun _ _ _ h => h) (Or.inl ⟨by rfl, ?_⟩) (by assumption) ?_
    rotate_left
    ·
     (intro w hSw; (try dsimp only at hSw); go_simp; try with_reducible rfl)
    try simp only [Act.put, qA1, qA2, qA3, qA4, qA5, qA6]
    refine wpAnyH_take (i := 14) (v := ?_) rfl qKr qKr qKr (fun _ _ _ h => h) (Or.inl ⟨by rfl, ?_⟩) (by assumption) ?_
    rotate_left
    ·
     (intro w hSw; (try dsimp only at hSw); go_simp; try with_reducible rfl)
    try simp only [Act.put, qA1, qA2, qA3, qA4, qA5, qA6]
    refine wpAnyH_take (i := 15) (v := ?_) rfl qKr qKr qKr (fun _ _ _ h => h) (Or.inl ⟨by rfl, ?_⟩) (by assumption) ?_
    rotate_left
    ·
     (intro w hSw; (try dsimp only at hSw); go_simp; try with_reducible rfl)
    try simp only [Act.put, qA1, qA2, qA3, qA4, qA5, qA6]
    refine wpAnyH_take (i := 16) (v := ?_) rfl qKr qKr qKr (fun _ _ _ h => h) (Or.inl ⟨by rfl, ?_⟩) (by assumption) ?_
    rotate_left
    ·
     (intro w hSw; (try dsimp only at hSw); go_simp; try with_reducible rfl)
    try simp only [Act.put, qA1, qA2, qA3, qA4, qA5, qA6]
    refine wpAnyH_ready (rs := [13, 19]) qKr (by simp) ?_
    refine AllReadyH.cons rfl (fun K hK => ?_) (AllReadyH.cons rfl (fun K hK => ?_) AllReadyH.nil)
    ·
     try simp only [Act.put, qA1, qA2, qA3, qA4, qA5, qA6]
     go_simp
     refine (swithout_c s1 (.slice (some ⟨bl3, ol4, none⟩) s1.length c0) D _ _ (h1.ext (Xw3.trans qXt)) hDN (by omega)).mono ?_
     rintro e w4 ⟨fv32, rfl, i33, -, xw4⟩
     have Lw4 : Ext w3 w4 := Ext.trans qXt xw4
     have Xw4 : Ext w w4 := Xw3.trans Lw4
     replace b10 := Lw4.cell b10
     replace b11 := Lw4.cell b11
     replace b12 := Lw4.cell b12
     replace b20 := Lw4.cell b20
     replace b21 := Lw4.cell b21
     replace b22 := Lw4.cell b22
     replace f_b20 := Lw4.frz z_b2 f_b20
     replace f_b21 := Lw4.frz z_b2 f_b21
     replace f_b22 := Lw4.frz z_b2 f_b22
     replace e50 := Lw4.cell e50
     replace e250 := Lw4.cell e250
     have z_b1 : w.heap.size < w4.heap.size := qB b10
     have z_b2 : w.heap.size + 1 < w4.heap.size := qB b20
     have z_e5 : bl3 < w4.heap.size := qB e50
     have z_e25 : bl23 < w4.heap.size := qB e250
     have s_w4 : w.heap.size ≤ w4.heap.size := Xw4.size
     have BD5_w4 : Ext w3 w4 := BD5.trans Lw4
     clear xw4
     try simp only [World.size_alloc, World.size_drew] at i33
     obtain ⟨afv32, cfv32, rfl⟩ := i33.form
     have zD_w4 := (BD5_w4).size
     refine hK.out _ _ ⟨b10, b11, b12, b20, b21, b22, e50, e250⟩ (fun hHeld => ?_)
     clear hK K
     try simp only [Act.put, qA1, qA2, qA3, qA4, qA5, qA6]
     refine wpAnyH_ready (rs := [17, 19]) qKr (by simp) ?_
     refine AllReadyH.cons rfl (fun K hK => ?_) (AllReadyH.cons rfl (fun K hK => ?_) AllReadyH.nil)
     ·
      try simp only [Act.put, qA1, qA2, qA3, qA4, qA5, qA6]
      go_simp
      refine (swithout_c t1 (.slice (some ⟨bl23, ol24, none⟩) t1.length c1) D _ _ (k1.ext (Xw4.trans qXt)) hDT (by omega)).mono ?_
      rintro e w5 ⟨fv34, rfl, i35, -, xw5⟩
      have Lw5 : Ext w4 w5 := Ext.trans qXt xw5
      have Xw5 : Ext w w5 := Xw4.trans Lw5
      replace b10 := Lw5.cell b10
      replace b11 := Lw5.cell b11
      replace b12 := Lw5.cell b12
      replace b20 := Lw5.cell b20
      replace b21 := Lw5.cell b21
      replace b22 := Lw5.cell b22
      replace f_b20 := Lw5.frz z_b2 f_b20
      replace f_b21 := Lw5.frz z_b2 f_b21
      replace f_b22 := Lw5.frz z_b2 f_b22
      replace e50 := Lw5.cell e50
      replace e250 := Lw5.cell e250
      have z_b1 : w.heap.size < w5.heap.size := qB b10
      have z_b2 : w.heap.size + 1 < w5.heap.size := qB b20
      have z_e5 : bl3 < w5.heap.size := qB e50
      have z_e25 : bl23 < w5.heap.size := qB e250
      replace i33 := i33.ext Lw5
      have s_w5 : w.heap.size ≤ w5.heap.size := Xw5.size
      have BD5_w5 : Ext w3 w5 := BD5_w4.trans Lw5
      clear xw5
      try simp only [World.size_alloc, World.size_drew] at i35
      obtain ⟨afv34, cfv34, rfl⟩ := i35.form
      have zD_w5 := (BD5_w5).size
      refine hK.out _ _ ⟨b10, b11, b12, b20, b21, b22, e50, e250⟩ (fun hHeld => ?_)
      clear hK K
      try simp only [Act.put, qA1, qA2, qA3, qA4, qA5, qA6]
      refine wpAnyH_take (i := 18) (v := ?_) rfl qKr qKr qKr (fun _ _ _ h => h) (Or.inl ⟨by rfl, ?_⟩) (by assumption) ?_
      rotate_left
      ·
       (intro w hSw; (try dsimp only at hSw); go_simp; try with_reducible rfl)
      try simp only [Act.put, qA1, qA2, qA3, qA4, qA5, qA6]
      refine wpAnyH_ready (rs := [19]) qKr (by simp) ?_
      refine AllReadyH.cons rfl (fun K hK => ?_) AllReadyH.nil
      try simp only [Act.put, qA1, qA2, qA3, qA4, qA5, qA6]
      go_simp
      have Q36_b10 := Lib.hid b10
      have Q36_b11 := Lib.hid b11
      have Q36_b12 := Lib.hid b12
      have Q36_zb1 := z_b1
      have Q36_b20 := Lib.hid b20
      have Q36_f_b20 := Lib.hid f_b20
      have Q36_b21 := Lib.hid b21
      have Q36_f_b21 := Lib.hid f_b21
      have Q36_b22 := Lib.hid b22
      have Q36_f_b22 := Lib.hid f_b22
      have Q36_zb2 := z_b2
      have Q36_e50 := Lib.hid e50
      have Q36_ze5 := z_e5
      have Q36_e250 := Lib.hid e250
      have Q36_ze25 := z_e25
      have Q36_i33 := Lib.hid i33
      have Q36_i35 := Lib.hid i35
      have BL37 : Ext w5 w5 := Ext.refl _
      have Q38_b10 := Lib.hid b10
      have Q38_b11 := Lib.hid b11
      have Q38_b12 := Lib.hid b12
      have Q38_zb1 := z_b1
      have Q38_b20 := Lib.hid b20
      have Q38_f_b20 := Lib.hid f_b20
      have Q38_b21 := Lib.hid b21
      have Q38_f_b21 := Lib.hid f_b21
      have Q38_b22 := Lib.hid b22
      have Q38_f_b22 := Lib.hid f_b22
      have Q38_zb2 := z_b2
      have Q38_e50 := Lib.hid e50
      have Q38_ze5 := z_e5
      have Q38_e250 := Lib.hid e250
      have Q38_ze25 := z_e25
      have Q38_i33 := Lib.hid i33
      have Q38_i35 := Lib.hid i35
      have BL39 : Ext w5 w5 := Ext.refl _
      refine hK.out _ _ ⟨(show Ext w5 _ from qXt).cell b10, (show Ext w5 _ from qXt).cell b11, (show Ext w5 _ from qXt).cell b12, (show Ext w5 _ from qXt).cell b20, (show Ext w5 _ from qXt).cell b21, (show Ext w5 _ from qXt).cell b22, (show Ext w5 _ from qXt).cell e50, (show Ext w5 _ from qXt).cell e250⟩ (fun hHeld => ?_)
      clear hK K
      try simp only [Act.put, qA1, qA2, qA3, qA4, qA5, qA6]
      refine wpAnyH_ready (rs := [20]) qKr (by simp) ?_
      refine AllReadyH.cons rfl (fun K hK => ?_) AllReadyH.nil
      try simp only [Act.put, qA1, qA2, qA3, qA4, qA5, qA6]
      go_simp
      have Lw6 : Ext w5 (w5.alloc (.cells #[.int .i64 (b1 + ((i + v6) * v26)), .slice afv32 ((delL s1 D).length) cfv32, .slice afv34 ((delL t1 D).length) cfv34] 25)) := qXt
      have Xw6 : Ext w (w5.alloc (.cells #[.int .i64 (b1 + ((i + v6) * v26)), .slice afv32 ((delL s1 D).length) cfv32, .slice afv34 ((delL t1 D).length) cfv34] 25)) := Xw5.trans Lw6
      replace b10 := Lw6.cell b10
      replace b11 := Lw6.cell b11
      replace b12 := Lw6.cell b12
      replace b20 := Lw6.cell b20
      replace b21 := Lw6.cell b21
      replace b22 := Lw6.cell b22
      replace f_b20 := Lw6.frz z_b2 f_b20
      replace f_b21 := Lw6.frz z_b2 f_b21
      replace f_b22 := Lw6.frz z_b2 f_b22
      replace e50 := Lw6.cell e50
      replace e250 := Lw6.cell e250
      have b400 : (w5.alloc (.cells #[.int .i64 (b1 + ((i + v6) * v26)), .slice afv32 ((delL s1 D).length) cfv32, .slice afv34 ((delL t1 D).length) cfv34] 25)).cell? ⟨w5.heap.size, 0, none⟩ = some (.int .i64 (b1 + ((i + v6) * v26))) := qCl
      have b401 : (w5.alloc (.cells #[.int .i64 (b1 + ((i + v6) * v26)), .slice afv32 ((delL s1 D).length) cfv32, .slice afv34 ((delL t1 D).length) cfv34] 25)).cell? ⟨w5.heap.size, 1, none⟩ = some (.slice afv32 ((delL s1 D).length) cfv32) := qCl
      have b402 : (w5.alloc (.cells #[.int .i64 (b1 + ((i + v6) * v26)), .slice afv32 ((delL s1 D).length) cfv32, .slice afv34 ((delL t1 D).length) cfv34] 25)).cell? ⟨w5.heap.size, 2, none⟩ = some (.slice afv34 ((delL t1 D).length) cfv34) := qCl
      have f_b400 : (w5.alloc (.cells #[.int .i64 (b1 + ((i + v6) * v26)), .slice afv32 ((delL s1 D).length) cfv32, .slice afv34 ((delL t1 D).length) cfv34] 25)).frozen? ⟨w5.heap.size, 0, none⟩ = false := qFz
      have f_b401 : (w5.alloc (.cells #[.int .i64 (b1 + ((i + v6) * v26)), .slice afv32 ((delL s1 D).length) cfv32, .slice afv34 ((delL t1 D).length) cfv34] 25)).frozen? ⟨w5.heap.size, 1, none⟩ = false := qFz
      have f_b402 : (w5.alloc (.cells #[.int .i64 (b1 + ((i + v6) * v26)), .slice afv32 ((delL s1 D).length) cfv32, .slice afv34 ((delL t1 D).length) cfv34] 25)).frozen? ⟨w5.heap.size, 2, none⟩ = false := qFz
      have z_b1 : w.heap.size < (w5.alloc (.cells #[.int .i64 (b1 + ((i + v6) * v26)), .slice afv32 ((delL s1 D).length) cfv32, .slice afv34 ((delL t1 D).length) cfv34] 25)).heap.size := qB b10
      have z_b2 : w.heap.size + 1 < (w5.alloc (.cells #[.int .i64 (b1 + ((i + v6) * v26)), .slice afv32 ((delL s1 D).length) cfv32, .slice afv34 ((delL t1 D).length) cfv34] 25)).heap.size := qB b20
      have z_e5 : bl3 < (w5.alloc (.cells #[.int .i64 (b1 + ((i + v6) * v26)), .slice afv32 ((delL s1 D).length) cfv32, .slice afv34 ((delL t1 D).length) cfv34] 25)).heap.size := qB e50
      have z_e25 : bl23 < (w5.alloc (.cells #[.int .i64 (b1 + ((i + v6) * v26)), .slice afv32 ((delL s1 D).length) cfv32, .slice afv34 ((delL t1 D).length) cfv34] 25)).heap.size := qB e250
      have z_b40 : w5.heap.size < (w5.alloc (.cells #[.int .i64 (b1 + ((i + v6) * v26)), .slice afv32 ((delL s1 D).length) cfv32, .slice afv34 ((delL t1 D).length) cfv34] 25)).heap.size := qB b400
      replace i33 := i33.ext Lw6
      replace i35 := i35.ext Lw6
      have s_w6 : w.heap.size ≤ (w5.alloc (.cells #[.int .i64 (b1 + ((i + v6) * v26)), .slice afv32 ((delL s1 D).length) cfv32, .slice afv34 ((delL t1 D).length) cfv34] 25)).heap.size := Xw6.size
      have BD5_w6 : Ext w3 (w5.alloc (.cells #[.int .i64 (b1 + ((i + v6) * v26)), .slice afv32 ((delL s1 D).length) cfv32, .slice afv34 ((delL t1 D).length) cfv34] 25)) := BD5_w5.trans Lw6
      have BL37_w6 : Ext w5 (w5.alloc (.cells #[.int .i64 (b1 + ((i + v6) * v26)), .slice afv32 ((delL s1 D).length) cfv32, .slice afv34 ((delL t1 D).length) cfv34] 25)) := BL37.trans Lw6
      have BL39_w6 : Ext w5 (w5.alloc (.cells #[.int .i64 (b1 + ((i + v6) * v26)), .slice afv32 ((delL s1 D).length) cfv32, .slice afv34 ((delL t1 D).length) cfv34] 25)) := BL39.trans Lw6
      generalize w5.alloc (.cells #[.int .i64 (b1 + ((i + v6) * v26)), .slice afv32 ((delL s1 D).length) cfv32, .slice afv34 ((delL t1 D).length) cfv34] 25) = w6 at *
      refine hK.out _ _ ⟨b10, b11, b12, b20, b21, b22, e50, e250⟩ (fun hHeld => ?_)
      clear hK K
      try simp only [Act.put, qA1, qA2, qA3, qA4, qA5, qA6]
      refine wpAnyH_done qKr ?_ _
      clear hHeld
      go_step
      go_step
      go_meet
      case rel => exact ⟨_, _, _, _, _, rfl, BD5_w6, (by omega), b400, b401, b402, f_b400, f_b401, f_b402, i33.lower (by omega), i35.lower (by omega)⟩
     ·
      try simp only [Act.put, qA1, qA2, qA3, qA4, qA5, qA6]
      go_simp
      have Q41_b10 := Lib.hid b10
      have Q41_b11 := Lib.hid b11
      have Q41_b12 := Lib.hid b12
      have Q41_zb1 := z_b1
      have Q41_b20 := Lib.hid b20
      have Q41_f_b20 := Lib.hid f_b20
      have Q41_b21 := Lib.hid b21
      have Q41_f_b21 := Lib.hid f_b21
      have Q41_b22 := Lib.hid b22
      have Q41_f_b22 := Lib.hid f_b22
      have Q41_zb2 := z_b2
      have Q41_e50 := Lib.hid e50
      have Q41_ze5 := z_e5
      have Q41_e250 := Lib.hid e250
      have Q41_ze25 := z_e25
      have Q41_i33 := Lib.hid i33
      have BL42 : Ext w4 w4 := Ext.refl _
      have Q43_b10 := Lib.hid b10
      have Q43_b11 := Lib.hid b11
      have Q43_b12 := Lib.hid b12
      have Q43_zb1 := z_b1
      have Q43_b20 := Lib.hid b20
      have Q43_f_b20 := Lib.hid f_b20
      have Q43_b21 := Lib.hid b21
      have Q43_f_b21 := Lib.hid f_b21
      have Q43_b22 := Lib.hid b22
      have Q43_f_b22 := Lib.hid f_b22
      have Q43_zb2 := z_b2
      have Q43_e50 := Lib.hid e50
      have Q43_ze5 := z_e5
      have Q43_e250 := Lib.hid e250
      have Q43_ze25 := z_e25
      have Q43_i33 := Lib.hid i33
      have BL44 : Ext w4 w4 := Ext.refl _
      refine hK.out _ _ ⟨(show Ext w4 _ from qXt).cell b10, (show Ext w4 _ from qXt).cell b11, (show Ext w4 _ from qXt).cell b12, (show Ext w4 _ from qXt).cell b20, (show Ext w4 _ from qXt).cell b21, (show Ext w4 _ from qXt).cell b22, (show Ext w4 _ from qXt).cell e50, (show Ext w4 _ from qXt).cell e250⟩ (fun hHeld => ?_)
      clear hK K
      try simp only [Act.put, qA1, qA2, qA3, qA4, qA5, qA6]
      refine wpAnyH_ready (rs := [17]) qKr (by simp) ?_
      refine AllReadyH.cons rfl (fun K hK => ?_) AllReadyH.nil
      try simp only [Act.put, qA1, qA2, qA3, qA4, qA5, qA6]
      go_simp
      refine (swithout_c t1 (.slice (some ⟨bl23, ol24, none⟩) t1.length c1) D _ _ (k1.ext (Xw4.trans qXt)) hDT (by omega)).mono ?_
      rintro e w5 ⟨fv46, rfl, i47, -, xw5⟩
      have Lw5 : Ext w4 w5 := Ext.trans qXt xw5
      have Xw5 : Ext w w5 := Xw4.trans Lw5
      replace b10 := Lw5.cell b10
      replace b11 := Lw5.cell b11
      replace b12 := Lw5.cell b12
      replace b20 := Lw5.cell b20
      replace b21 := Lw5.cell b21
      replace b22 := Lw5.cell b22
      replace f_b20 := Lw5.frz z_b2 f_b20
      replace f_b21 := Lw5.frz z_b2 f_b21
      replace f_b22 := Lw5.frz z_b2 f_b22
      replace e50 := Lw5.cell e50
      replace e250 := Lw5.cell e250
      have b450 : w5.cell? ⟨w4.heap.size, 0, none⟩ = some (.int .i64 0) := xw5.cell qCl
      have b451 : w5.cell? ⟨w4.heap.size, 1, none⟩ = some (.slice none 0 0) := xw5.cell qCl
      have b452 : w5.cell? ⟨w4.heap.size, 2, none⟩ = some (.slice none 0 0) := xw5.cell qCl
      have f_b450 : w5.frozen? ⟨w4.heap.size, 0, none⟩ = false := xw5.frz (by simp <;> omega) qFz
      have f_b451 : w5.frozen? ⟨w4.heap.size, 1, none⟩ = false := xw5.frz (by simp <;> omega) qFz
      have f_b452 : w5.frozen? ⟨w4.heap.size, 2, none⟩ = false := xw5.frz (by simp <;> omega) qFz
      have z_b1 : w.heap.size < w5.heap.size := qB b10
      have z_b2 : w.heap.size + 1 < w5.heap.size := qB b20
      have z_e5 : bl3 < w5.heap.size := qB e50
      have z_e25 : bl23 < w5.heap.size := qB e250
      have z_b45 : w4.heap.size < w5.heap.size := qB b450
      replace i33 := i33.ext Lw5
      have s_w5 : w.heap.size ≤ w5.heap.size := Xw5.size
      have BD5_w5 : Ext w3 w5 := BD5_w4.trans Lw5
      have BL42_w5 : Ext w4 w5 := BL42.trans Lw5
      have BL44_w5 : Ext w4 w5 := BL44.trans Lw5
      clear xw5
      try simp only [World.size_alloc, World.size_drew] at i47
      obtain ⟨afv46, cfv46, rfl⟩ := i47.form
      have zD_w5 := (BD5_w5).size
      refine hK.out _ _ ⟨b10, b11, b12, b20, b21, b22, e50, e250⟩ (fun hHeld => ?_)
      clear hK K
      try simp only [Act.put, qA1, qA2, qA3, qA4, qA5, qA6]
      refine wpAnyH_take (i := 18) (v := ?_) rfl qKr qKr qKr (fun _ _ _ h => h) (Or.inl ⟨by rfl, ?_⟩) (by assumption) ?_
      rotate_left
      ·
       (intro w hSw; (try dsimp only at hSw); go_simp; try with_reducible rfl)
      try simp only [Act.put, qA1, qA2, qA3, qA4, qA5, qA6]
      refine wpAnyH_ready (rs := [20]) qKr (by simp) ?_
      refine AllReadyH.cons rfl (fun K hK => ?_) AllReadyH.nil
      try simp only [Act.put, qA1, qA2, qA3, qA4, qA5, qA6]
      go_simp
      have Kw6 : Chg (w4.heap.size) (w4.heap.size + 1) w5 (((w5.setCell ⟨w4.heap.size, 0, none⟩ (.int .i64 (b1 + ((i + v6) * v26)))).setCell ⟨w4.heap.size, 1, none⟩ (.slice afv32 ((delL s1 D).length) cfv32)).setCell ⟨w4.heap.size, 2, none⟩ (.slice afv46 ((delL t1 D).length) cfv46)) := (Chg.setCell (p := ⟨w4.heap.size, 2, none⟩) (Chg.setCell (p := ⟨w4.heap.size, 1, none⟩) (Chg.setCell (p := ⟨w4.heap.size, 0, none⟩) (Chg.refl (w4.heap.size) (w4.heap.size + 1) _) (Nat.le_refl _) (Nat.lt_succ_self _) (.int .i64 (b1 + ((i + v6) * v26)))) (Nat.le_refl _) (Nat.lt_succ_self _) (.slice afv32 ((delL s1 D).length) cfv32)) (Nat.le_refl _) (Nat.lt_succ_self _) (.slice afv46 ((delL t1 D).length) cfv46))
      have Xw6 : Ext w (((w5.setCell ⟨w4.heap.size, 0, none⟩ (.int .i64 (b1 + ((i + v6) * v26)))).setCell ⟨w4.heap.size, 1, none⟩ (.slice afv32 ((delL s1 D).length) cfv32)).setCell ⟨w4.heap.size, 2, none⟩ (.slice afv46 ((delL t1 D).length) cfv46)) := (Ext.setCell (p := ⟨w4.heap.size, 2, none⟩) (Ext.setCell (p := ⟨w4.heap.size, 1, none⟩) (Ext.setCell (p := ⟨w4.heap.size, 0, none⟩) Xw5 qSo (.int .i64 (b1 + ((i + v6) * v26)))) qSo (.slice afv32 ((delL s1 D).length) cfv32)) qSo (.slice afv46 ((delL t1 D).length) cfv46))
      have BD5_w6 : Ext w3 (((w5.setCell ⟨w4.heap.size, 0, none⟩ (.int .i64 (b1 + ((i + v6) * v26)))).setCell ⟨w4.heap.size, 1, none⟩ (.slice afv32 ((delL s1 D).length) cfv32)).setCell ⟨w4.heap.size, 2, none⟩ (.slice afv46 ((delL t1 D).length) cfv46)) := (Ext.setCell (p := ⟨w4.heap.size, 2, none⟩) (Ext.setCell (p := ⟨w4.heap.size, 1, none⟩) (Ext.setCell (p := ⟨w4.heap.size, 0, none⟩) BD5_w5 qSo (.int .i64 (b1 + ((i + v6) * v26)))) qSo (.slice afv32 ((delL s1 D).length) cfv32)) qSo (.slice afv46 ((delL t1 D).length) cfv46))
      have BL42_w6 : Ext w4 (((w5.setCell ⟨w4.heap.size, 0, none⟩ (.int .i64 (b1 + ((i + v6) * v26)))).setCell ⟨w4.heap.size, 1, none⟩ (.slice afv32 ((delL s1 D).length) cfv32)).setCell ⟨w4.heap.size, 2, none⟩ (.slice afv46 ((delL t1 D).length) cfv46)) := (Ext.setCell (p := ⟨w4.heap.size, 2, none⟩) (Ext.setCell (p := ⟨w4.heap.size, 1, none⟩) (Ext.setCell (p := ⟨w4.heap.size, 0, none⟩) BL42_w5 qSo (.int .i64 (b1 + ((i + v6) * v26)))) qSo (.slice afv32 ((delL s1 D).length) cfv32)) qSo (.slice afv46 ((delL t1 D).length) cfv46))
      replace b10 := BL42_w6.cell Q41_b10.out
      replace b11 := BL42_w6.cell Q41_b11.out
      replace b12 := BL42_w6.cell Q41_b12.out
      replace b20 := BL42_w6.cell Q41_b20.out
      replace f_b20 := BL42_w6.frz Q41_zb2 Q41_f_b20.out
      replace b21 := BL42_w6.cell Q41_b21.out
      replace f_b21 := BL42_w6.frz Q41_zb2 Q41_f_b21.out
      replace b22 := BL42_w6.cell Q41_b22.out
      replace f_b22 := BL42_w6.frz Q41_zb2 Q41_f_b22.out
      replace e50 := BL42_w6.cell Q41_e50.out
      replace e250 := BL42_w6.cell Q41_e250.out
      have n_b450 : (((w5.setCell ⟨w4.heap.size, 0, none⟩ (.int .i64 (b1 + ((i + v6) * v26)))).setCell ⟨w4.heap.size, 1, none⟩ (.slice afv32 ((delL s1 D).length) cfv32)).setCell ⟨w4.heap.size, 2, none⟩ (.slice afv46 ((delL t1 D).length) cfv46)).cell? ⟨w4.heap.size, 0, none⟩ = some (.int .i64 (b1 + ((i + v6) * v26))) := by go_simp
      have n_f_b450 : (((w5.setCell ⟨w4.heap.size, 0, none⟩ (.int .i64 (b1 + ((i + v6) * v26)))).setCell ⟨w4.heap.size, 1, none⟩ (.slice afv32 ((delL s1 D).length) cfv32)).setCell ⟨w4.heap.size, 2, none⟩ (.slice afv46 ((delL t1 D).length) cfv46)).frozen? ⟨w4.heap.size, 0, none⟩ = false := by go_simp
      have n_b451 : (((w5.setCell ⟨w4.heap.size, 0, none⟩ (.int .i64 (b1 + ((i + v6) * v26)))).setCell ⟨w4.heap.size, 1, none⟩ (.slice afv32 ((delL s1 D).length) cfv32)).setCell ⟨w4.heap.size, 2, none⟩ (.slice afv46 ((delL t1 D).length) cfv46)).cell? ⟨w4.heap.size, 1, none⟩ = some (.slice afv32 ((delL s1 D).length) cfv32) := by go_simp
      have n_f_b451 : (((w5.setCell ⟨w4.heap.size, 0, none⟩ (.int .i64 (b1 + ((i + v6) * v26)))).setCell ⟨w4.heap.size, 1, none⟩ (.slice afv32 ((delL s1 D).length) cfv32)).setCell ⟨w4.heap.size, 2, none⟩ (.slice afv46 ((delL t1 D).length) cfv46)).frozen? ⟨w4.heap.size, 1, none⟩ = false := by go_simp
      have n_b452 : (((w5.setCell ⟨w4.heap.size, 0, none⟩ (.int .i64 (b1 + ((i + v6) * v26)))).setCell ⟨w4.heap.size, 1, none⟩ (.slice afv32 ((delL s1 D).length) cfv32)).setCell ⟨w4.heap.size, 2, none⟩ (.slice afv46 ((delL t1 D).length) cfv46)).cell? ⟨w4.heap.size, 2, none⟩ = some (.slice afv46 ((delL t1 D).length) cfv46) := by go_simp
      have n_f_b452 : (((w5.setCell ⟨w4.heap.size, 0, none⟩ (.int .i64 (b1 + ((i + v6) * v26)))).setCell ⟨w4.heap.size, 1, none⟩ (.slice afv32 ((delL s1 D).length) cfv32)).setCell ⟨w4.heap.size, 2, none⟩ (.slice afv46 ((delL t1 D).length) cfv46)).frozen? ⟨w4.heap.size, 2, none⟩ = false := by go_simp
      replace b450 := n_b450
      clear n_b450
      replace f_b450 := n_f_b450
      clear n_f_b450
      replace b451 := n_b451
      clear n_b451
      replace f_b451 := n_f_b451
      clear n_f_b451
      replace b452 := n_b452
      clear n_b452
      replace f_b452 := n_f_b452
      clear n_f_b452
      replace i33 := (Q41_i33.out).ext BL42_w6
      replace i47 := i47.chg Kw6 (by omega)
      clear Kw6
      have z_b1 : w.heap.size < (((w5.setCell ⟨w4.heap.size, 0, none⟩ (.int .i64 (b1 + ((i + v6) * v26)))).setCell ⟨w4.heap.size, 1, none⟩ (.slice afv32 ((delL s1 D).length) cfv32)).setCell ⟨w4.heap.size, 2, none⟩ (.slice afv46 ((delL t1 D).length) cfv46)).heap.size := qB b10
      have z_b2 : w.heap.size + 1 < (((w5.setCell ⟨w4.heap.size, 0, none⟩ (.int .i64 (b1 + ((i + v6) * v26)))).setCell ⟨w4.heap.size, 1, none⟩ (.slice afv32 ((delL s1 D).length) cfv32)).setCell ⟨w4.heap.size, 2, none⟩ (.slice afv46 ((delL t1 D).length) cfv46)).heap.size := qB b20
      have z_e5 : bl3 < (((w5.setCell ⟨w4.heap.size, 0, none⟩ (.int .i64 (b1 + ((i + v6) * v26)))).setCell ⟨w4.heap.size, 1, none⟩ (.slice afv32 ((delL s1 D).length) cfv32)).setCell ⟨w4.heap.size, 2, none⟩ (.slice afv46 ((delL t1 D).length) cfv46)).heap.size := qB e50
      have z_e25 : bl23 < (((w5.setCell ⟨w4.heap.size, 0, none⟩ (.int .i64 (b1 + ((i + v6) * v26)))).setCell ⟨w4.heap.size, 1, none⟩ (.slice afv32 ((delL s1 D).length) cfv32)).setCell ⟨w4.heap.size, 2, none⟩ (.slice afv46 ((delL t1 D).length) cfv46)).heap.size := qB e250
      have z_b45 : w4.heap.size < (((w5.setCell ⟨w4.heap.size, 0, none⟩ (.int .i64 (b1 + ((i + v6) * v26)))).setCell ⟨w4.heap.size, 1, none⟩ (.slice afv32 ((delL s1 D).length) cfv32)).setCell ⟨w4.heap.size, 2, none⟩ (.slice afv46 ((delL t1 D).length) cfv46)).heap.size := qB b450
      have s_w6 : w.heap.size ≤ (((w5.setCell ⟨w4.heap.size, 0, none⟩ (.int .i64 (b1 + ((i + v6) * v26)))).setCell ⟨w4.heap.size, 1, none⟩ (.slice afv32 ((delL s1 D).length) cfv32)).setCell ⟨w4.heap.size, 2, none⟩ (.slice afv46 ((delL t1 D).length) cfv46)).heap.size := Xw6.size
      generalize (((w5.setCell ⟨w4.heap.size, 0, none⟩ (.int .i64 (b1 + ((i + v6) * v26)))).setCell ⟨w4.heap.size, 1, none⟩ (.slice afv32 ((delL s1 D).length) cfv32)).setCell ⟨w4.heap.size, 2, none⟩ (.slice afv46 ((delL t1 D).length) cfv46)) = w6 at *
      refine hK.out _ _ ⟨b10, b11, b12, b20, b21, b22, e50, e250⟩ (fun hHeld => ?_)
      clear hK K
      try simp only [Act.put, qA1, qA2, qA3, qA4, qA5, qA6]
      refine wpAnyH_done qKr ?_ _
      clear hHeld
      go_step
      go_step
      go_meet
      case rel => exact ⟨_, _, _, _, _, rfl, BD5_w6, (by omega), b450, b451, b452, f_b450, f_b451, f_b452, i33.lower (by omega), i47.lower (by omega)⟩
    ·
     try simp only [Act.put, qA1, qA2, qA3, qA4, qA5, qA6]
     go_simp
     have Q48_b10 := Lib.hid b10
     have Q48_b11 := Lib.hid b11
     have Q48_b12 := Lib.hid b12
     have Q48_zb1 := z_b1
     have Q48_b20 := Lib.hid b20
     have Q48_f_b20 := Lib.hid f_b20
     have Q48_b21 := Lib.hid b21
     have Q48_f_b21 := Lib.hid f_b21
     have Q48_b22 := Lib.hid b22
     have Q48_f_b22 := Lib.hid f_b22
     have Q48_zb2 := z_b2
     have Q48_e50 := Lib.hid e50
     have Q48_ze5 := z_e5
     have Q48_e250 := Lib.hid e250
     have Q48_ze25 := z_e25
     have BL49 : Ext w3 w3 := Ext.refl _
     refine hK.out _ _ ⟨(show Ext w3 _ from qXt).cell b10, (show Ext w3 _ from qXt).cell b11, (show Ext w3 _ from qXt).cell b12, (show Ext w3 _ from qXt).cell b20, (show Ext w3 _ from qXt).cell b21, (show Ext w3 _ from qXt).cell b22, (show Ext w3 _ from qXt).cell e50, (show Ext w3 _ from qXt).cell e250⟩ (fun hHeld => ?_)
     clear hK K
     try simp only [Act.put, qA1, qA2, qA3, qA4, qA5, qA6]
     refine wpAnyH_ready (rs := [13]) qKr (by simp) ?_
     refine AllReadyH.cons rfl (fun K hK => ?_) AllReadyH.nil
     try simp only [Act.put, qA1, qA2, qA3, qA4, qA5, qA6]
     go_simp
     refine (swithout_c s1 (.slice (some ⟨bl3, ol4, none⟩) s1.length c0) D _ _ (h1.ext (Xw3.trans qXt)) hDN (by omega)).mono ?_
     rintro e w4 ⟨fv51, rfl, i52, -, xw4⟩
     have Lw4 : Ext w3 w4 := Ext.trans qXt xw4
     have Xw4 : Ext w w4 := Xw3.trans Lw4
     replace b10 := Lw4.cell b10
     replace b11 := Lw4.cell b11
     replace b12 := Lw4.cell b12
     replace b20 := Lw4.cell b20
     replace b21 := Lw4.cell b21
     replace b22 := Lw4.cell b22
     replace f_b20 := Lw4.frz z_b2 f_b20
     replace f_b21 := Lw4.frz z_b2 f_b21
     replace f_b22 := Lw4.frz z_b2 f_b22
     replace e50 := Lw4.cell e50
     replace e250 := Lw4.cell e250
     have b500 : w4.cell? ⟨w3.heap.size, 0, none⟩ = some (.int .i64 0) := xw4.cell qCl
     have b501 : w4.cell? ⟨w3.heap.size, 1, none⟩ = some (.slice none 0 0) := xw4.cell qCl
     have b502 : w4.cell? ⟨w3.heap.size, 2, none⟩ = some (.slice none 0 0) := xw4.cell qCl
     have f_b500 : w4.frozen? ⟨w3.heap.size, 0, none⟩ = false := xw4.frz (by simp <;> omega) qFz
     have f_b501 : w4.frozen? ⟨w3.heap.size, 1, none⟩ = false := xw4.frz (by simp <;> omega) qFz
     have f_b502 : w4.frozen? ⟨w3.heap.size, 2, none⟩ = false := xw4.frz (by simp <;> omega) qFz
     have z_b1 : w.heap.size < w4.heap.size := qB b10
     have z_b2 : w.heap.size + 1 < w4.heap.size := qB b20
     have z_e5 : bl3 < w4.heap.size := qB e50
     have z_e25 : bl23 < w4.heap.size := qB e250
     have z_b50 : w3.heap.size < w4.heap.size := qB b500
     have s_w4 : w.heap.size ≤ w4.heap.size := Xw4.size
     have BD5_w4 : Ext w3 w4 := BD5.trans Lw4
     have BL49_w4 : Ext w3 w4 := BL49.trans Lw4
     clear xw4
     try simp only [World.size_alloc, World.size_drew] at i52
     obtain ⟨afv51, cfv51, rfl⟩ := i52.form
     have zD_w4 := (BD5_w4).size
     refine hK.out _ _ ⟨b10, b11, b12, b20, b21, b22, e50, e250⟩ (fun hHeld => ?_)
     clear hK K
     try simp only [Act.put, qA1, qA2, qA3, qA4, qA5, qA6]
     refine wpAnyH_ready (rs := [17]) qKr (by simp) ?_
     refine AllReadyH.cons rfl (fun K hK => ?_) AllReadyH.nil
     try simp only [Act.put, qA1, qA2, qA3, qA4, qA5, qA6]
     go_simp
     refine (swithout_c t1 (.slice (some ⟨bl23, ol24, none⟩) t1.length c1) D _ _ (k1.ext (Xw4.trans qXt)) hDT (by omega)).mono ?_
     rintro e w5 ⟨fv53, rfl, i54, -, xw5⟩
     have Lw5 : Ext w4 w5 := Ext.trans qXt xw5
     have Xw5 : Ext w w5 := Xw4.trans Lw5
     replace b10 := Lw5.cell b10
     replace b11 := Lw5.cell b11
     replace b12 := Lw5.cell b12
     replace b20 := Lw5.cell b20
     replace b21 := Lw5.cell b21
     replace b22 := Lw5.cell b22
     replace f_b20 := Lw5.frz z_b2 f_b20
     replace f_b21 := Lw5.frz z_b2 f_b21
     replace f_b22 := Lw5.frz z_b2 f_b22
     replace e50 := Lw5.cell e50
     replace e250 := Lw5.cell e250
     replace b500 := Lw5.cell b500
     replace b501 := Lw5.cell b501
     replace b502 := Lw5.cell b502
     replace f_b500 := Lw5.frz z_b50 f_b500
     replace f_b501 := Lw5.frz z_b50 f_b501
     replace f_b502 := Lw5.frz z_b50 f_b502
     have z_b1 : w.heap.size < w5.heap.size := qB b10
     have z_b2 : w.heap.size + 1 < w5.heap.size := qB b20
     have z_e5 : bl3 < w5.heap.size := qB e50
     have z_e25 : bl23 < w5.heap.size := qB e250
     have z_b50 : w3.heap.size < w5.heap.size := qB b500
     replace i52 := i52.ext Lw5
     have s_w5 : w.heap.size ≤ w5.heap.size := Xw5.size
     have BD5_w5 : Ext w3 w5 := BD5_w4.trans Lw5
     have BL49_w5 : Ext w3 w5 := BL49_w4.trans Lw5
     clear xw5
     try simp only [World.size_alloc, World.size_drew] at i54
     obtain ⟨afv53, cfv53, rfl⟩ := i54.form
     have zD_w5 := (BD5_w5).size
     refine hK.out _ _ ⟨b10, b11, b12, b20, b21, b22, e50, e250⟩ (fun hHeld => ?_)
     clear hK K
     try simp only [Act.put, qA1, qA2, qA3, qA4, qA5, qA6]
     refine wpAnyH_take (i := 18) (v := ?_) rfl qKr qKr qKr (fun _ _ _ h => h) (Or.inl ⟨by rfl, ?_⟩) (by assumption) ?_
     rotate_left
     ·
      (intro w hSw; (try dsimp only at hSw); go_simp; try with_reducible rfl)
     try simp only [Act.put, qA1, qA2, qA3, qA4, qA5, qA6]
     refine wpAnyH_ready (rs := [20]) qKr (by simp) ?_
     refine AllReadyH.cons rfl (fun K hK => ?_) AllReadyH.nil
     try simp only [Act.put, qA1, qA2, qA3, qA4, qA5, qA6]
     go_simp
     have Kw6 : Chg (w3.heap.size) (w3.heap.size + 1) w5 (((w5.setCell ⟨w3.heap.size, 0, none⟩ (.int .i64 (b1 + ((i + v6) * v26)))).setCell ⟨w3.heap.size, 1, none⟩ (.slice afv51 ((delL s1 D).length) cfv51)).setCell ⟨w3.heap.size, 2, none⟩ (.slice afv53 ((delL t1 D).length) cfv53)) := (Chg.setCell (p := ⟨w3.heap.size, 2, none⟩) (Chg.setCell (p := ⟨w3.heap.size, 1, none⟩) (Chg.setCell (p := ⟨w3.heap.size, 0, none⟩) (Chg.refl (w3.heap.size) (w3.heap.size + 1) _) (Nat.le_refl _) (Nat.lt_succ_self _) (.int .i64 (b1 + ((i + v6) * v26)))) (Nat.le_refl _) (Nat.lt_succ_self _) (.slice afv51 ((delL s1 D).length) cfv51)) (Nat.le_refl _) (Nat.lt_succ_self _) (.slice afv53 ((delL t1 D).length) cfv53))
     have Xw6 : Ext w (((w5.setCell ⟨w3.heap.size, 0, none⟩ (.int .i64 (b1 + ((i + v6) * v26)))).setCell ⟨w3.heap.size, 1, none⟩ (.slice afv51 ((delL s1 D).length) cfv51)).setCell ⟨w3.heap.size, 2, none⟩ (.slice afv53 ((delL t1 D).length) cfv53)) := (Ext.setCell (p := ⟨w3.heap.size, 2, none⟩) (Ext.setCell (p := ⟨w3.heap.size, 1, none⟩) (Ext.setCell (p := ⟨w3.heap.size, 0, none⟩) Xw5 qSo (.int .i64 (b1 + ((i + v6) * v26)))) qSo (.slice afv51 ((delL s1 D).length) cfv51)) qSo (.slice afv53 ((delL t1 D).length) cfv53))
     have BD5_w6 : Ext w3 (((w5.setCell ⟨w3.heap.size, 0, none⟩ (.int .i64 (b1 + ((i + v6) * v26)))).setCell ⟨w3.heap.size, 1, none⟩ (.slice afv51 ((delL s1 D).length) cfv51)).setCell ⟨w3.heap.size, 2, none⟩ (.slice afv53 ((delL t1 D).length) cfv53)) := (Ext.setCell (p := ⟨w3.heap.size, 2, none⟩) (Ext.setCell (p := ⟨w3.heap.size, 1, none⟩) (Ext.setCell (p := ⟨w3.heap.size, 0, none⟩) BD5_w5 qSo (.int .i64 (b1 + ((i + v6) * v26)))) qSo (.slice afv51 ((delL s1 D).length) cfv51)) qSo (.slice afv53 ((delL t1 D).length) cfv53))
     have BL49_w6 : Ext w3 (((w5.setCell ⟨w3.heap.size, 0, none⟩ (.int .i64 (b1 + ((i + v6) * v26)))).setCell ⟨w3.heap.size, 1, none⟩ (.slice afv51 ((delL s1 D).length) cfv51)).setCell ⟨w3.heap.size, 2, none⟩ (.slice afv53 ((delL t1 D).length) cfv53)) := (Ext.setCell (p := ⟨w3.heap.size, 2, none⟩) (Ext.setCell (p := ⟨w3.heap.size, 1, none⟩) (Ext.setCell (p := ⟨w3.heap.size, 0, none⟩) BL49_w5 qSo (.int .i64 (b1 + ((i + v6) * v26)))) qSo (.slice afv51 ((delL s1 D).length) cfv51)) qSo (.slice afv53 ((delL t1 D).length) cfv53))
     replace b10 := BL49_w6.cell Q48_b10.out
     replace b11 := BL49_w6.cell Q48_b11.out
     replace b12 := BL49_w6.cell Q48_b12.out
     replace b20 := BL49_w6.cell Q48_b20.out
     replace f_b20 := BL49_w6.frz Q48_zb2 Q48_f_b20.out
     replace b21 := BL49_w6.cell Q48_b21.out
     replace f_b21 := BL49_w6.frz Q48_zb2 Q48_f_b21.out
     replace b22 := BL49_w6.cell Q48_b22.out
     replace f_b22 := BL49_w6.frz Q48_zb2 Q48_f_b22.out
     replace e50 := BL49_w6.cell Q48_e50.out
     replace e250 := BL49_w6.cell Q48_e250.out
     have n_b500 : (((w5.setCell ⟨w3.heap.size, 0, none⟩ (.int .i64 (b1 + ((i + v6) * v26)))).setCell ⟨w3.heap.size, 1, none⟩ (.slice afv51 ((delL s1 D).length) cfv51)).setCell ⟨w3.heap.size, 2, none⟩ (.slice afv53 ((delL t1 D).length) cfv53)).cell? ⟨w3.heap.size, 0, none⟩ = some (.int .i64 (b1 + ((i + v6) * v26))) := by go_simp
     have n_f_b500 : (((w5.setCell ⟨w3.heap.size, 0, none⟩ (.int .i64 (b1 + ((i + v6) * v26)))).setCell ⟨w3.heap.size, 1, none⟩ (.slice afv51 ((delL s1 D).length) cfv51)).setCell ⟨w3.heap.size, 2, none⟩ (.slice afv53 ((delL t1 D).length) cfv53)).frozen? ⟨w3.heap.size, 0, none⟩ = false := by go_simp
     have n_b501 : (((w5.setCell ⟨w3.heap.size, 0, none⟩ (.int .i64 (b1 + ((i + v6) * v26)))).setCell ⟨w3.heap.size, 1, none⟩ (.slice afv51 ((delL s1 D).length) cfv51)).setCell ⟨w3.heap.size, 2, none⟩ (.slice afv53 ((delL t1 D).length) cfv53)).cell? ⟨w3.heap.size, 1, none⟩ = some (.slice afv51 ((delL s1 D).length) cfv51) := by go_simp
     have n_f_b501 : (((w5.setCell ⟨w3.heap.size, 0, none⟩ (.int .i64 (b1 + ((i + v6) * v26)))).setCell ⟨w3.heap.size, 1, none⟩ (.slice afv51 ((delL s1 D).length) cfv51)).setCell ⟨w3.heap.size, 2, none⟩ (.slice afv53 ((delL t1 D).length) cfv53)).frozen? ⟨w3.heap.size, 1, none⟩ = false := by go_simp
     have n_b502 : (((w5.setCell ⟨w3.heap.size, 0, none⟩ (.int .i64 (b1 + ((i + v6) * v26)))).setCell ⟨w3.heap.size, 1, none⟩ (.slice afv51 ((delL s1 D).length) cfv51)).setCell ⟨w3.heap.size, 2, none⟩ (.slice afv53 ((delL t1 D).length) cfv53)).cell? ⟨w3.heap.size, 2, none⟩ = some (.slice afv53 ((delL t1 D).length) cfv53) := by go_simp
     have n_f_b502 : (((w5.setCell ⟨w3.heap.size, 0, none⟩ (.int .i64 (b1 + ((i + v6) * v26)))).setCell ⟨w3.heap.size, 1, none⟩ (.slice afv51 ((delL s1 D).length) cfv51)).setCell ⟨w3.heap.size, 2, none⟩ (.slice afv53 ((delL t1 D).length) cfv53)).frozen? ⟨w3.heap.size, 2, none⟩ = false := by go_simp
     replace b500 := n_b500
     clear n_b500
     replace f_b500 := n_f_b500
     clear n_f_b500
     replace b501 := n_b501
     clear n_b501
     replace f_b501 := n_f_b501
     clear n_f_b501
     replace b502 := n_b502
     clear n_b502
     replace f_b502 := n_f_b502
     clear n_f_b502
     replace i52 := i52.chg Kw6 (by omega)
     replace i54 := i54.chg Kw6 (by omega)
     clear Kw6
     have z_b1 : w.heap.size < (((w5.setCell ⟨w3.heap.size, 0, none⟩ (.int .i64 (b1 + ((i + v6) * v26)))).setCell ⟨w3.heap.size, 1, none⟩ (.slice afv51 ((delL s1 D).length) cfv51)).setCell ⟨w3.heap.size, 2, none⟩ (.slice afv53 ((delL t1 D).length) cfv53)).heap.size := qB b10
     have z_b2 : w.heap.size + 1 < (((w5.setCell ⟨w3.heap.size, 0, none⟩ (.int .i64 (b1 + ((i + v6) * v26)))).setCell ⟨w3.heap.size, 1, none⟩ (.slice afv51 ((delL s1 D).length) cfv51)).setCell ⟨w3.heap.size, 2, none⟩ (.slice afv53 ((delL t1 D).length) cfv53)).heap.size := qB b20
     have z_e5 : bl3 < (((w5.setCell ⟨w3.heap.size, 0, none⟩ (.int .i64 (b1 + ((i + v6) * v26)))).setCell ⟨w3.heap.size, 1, none⟩ (.slice afv51 ((delL s1 D).length) cfv51)).setCell ⟨w3.heap.size, 2, none⟩ (.slice afv53 ((delL t1 D).length) cfv53)).heap.size := qB e50
     have z_e25 : bl23 < (((w5.setCell ⟨w3.heap.size, 0, none⟩ (.int .i64 (b1 + ((i + v6) * v26)))).setCell ⟨w3.heap.size, 1, none⟩ (.slice afv51 ((delL s1 D).length) cfv51)).setCell ⟨w3.heap.size, 2, none⟩ (.slice afv53 ((delL t1 D).length) cfv53)).heap.size := qB e250
     have z_b50 : w3.heap.size < (((w5.setCell ⟨w3.heap.size, 0, none⟩ (.int .i64 (b1 + ((i + v6) * v26)))).setCell ⟨w3.heap.size, 1, none⟩ (.slice afv51 ((delL s1 D).length) cfv51)).setCell ⟨w3.heap.size, 2, none⟩ (.slice afv53 ((delL t1 D).length) cfv53)).heap.size := qB b500
     have s_w6 : w.heap.size ≤ (((w5.setCell ⟨w3.heap.size, 0, none⟩ (.int .i64 (b1 + ((i + v6) * v26)))).setCell ⟨w3.heap.size, 1, none⟩ (.slice afv51 ((delL s1 D).length) cfv51)).setCell ⟨w3.heap.size, 2, none⟩ (.slice afv53 ((delL t1 D).length) cfv53)).heap.size := Xw6.size
     generalize (((w5.setCell ⟨w3.heap.size, 0, none⟩ (.int .i64 (b1 + ((i + v6) * v26)))).setCell ⟨w3.heap.size, 1, none⟩ (.slice afv51 ((delL s1 D).length) cfv51)).setCell ⟨w3.heap.size, 2, none⟩ (.slice afv53 ((delL t1 D).length) cfv53)) = w6 at *
     refine hK.out _ _ ⟨b10, b11, b12, b20, b21, b22, e50, e250⟩ (fun hHeld => ?_)
     clear hK K
     try simp only [Act.put, qA1, qA2, qA3, qA4, qA5, qA6]
     refine wpAnyH_done qKr ?_ _
     clear hHeld
     go_step
     go_step
     go_meet
     case rel => exact ⟨_, _, _, _, _, rfl, BD5_w6, (by omega), b500, b501, b502, f_b500, f_b501, f_b502, i52.lower (by omega), i54.lower (by omega)⟩
   case rest =>
    generalize wc = wc56 at hcut ⊢
    obtain ⟨g57, af61, cf62, af63, cf64, rfl, xx58, hg_b55, b550, b551, b552, f_b550, f_b551, f_b552, i59, i60⟩ := hcut
    have Lwc56 : Ext w3 wc56 := Ext.trans qXt xx58
    have Xwc56 : Ext w wc56 := Xw3.trans Lwc56
    replace b10 := Lwc56.cell b10
    replace b11 := Lwc56.cell b11
    replace b12 := Lwc56.cell b12
    replace b20 := Lwc56.cell b20
    replace b21 := Lwc56.cell b21
    replace b22 := Lwc56.cell b22
    replace f_b20 := Lwc56.frz z_b2 f_b20
    replace f_b21 := Lwc56.frz z_b2 f_b21
    replace f_b22 := Lwc56.frz z_b2 f_b22
    replace e50 := Lwc56.cell e50
    replace e250 := Lwc56.cell e250
    have z_b1 : w.heap.size < wc56.heap.size := qB b10
    have z_b2 : w.heap.size + 1 < wc56.heap.size := qB b20
    have z_e5 : bl3 < wc56.heap.size := qB e50
    have z_e25 : bl23 < wc56.heap.size := qB e250
    have s_wc56 : w.heap.size ≤ wc56.heap.size := Xwc56.size
    clear xx58
    have z_b55 : g57 < wc56.heap.size := qB b550
    go_wp2_with fail
    by_cases hcl65 : countL (delL s1 D) = 0
    ·
     refine (tidy_0 (b1 + ((i + v6) * v26)) _ _ (delL s1 D) _ _ (i59.ext qXt) hcl65).mono ?_
     rintro e w4 ⟨svO66, rfl, O66, xw4⟩
     have Lw4 : Ext wc56 w4 := Ext.trans qXt xw4
     have Xw4 : Ext w w4 := Xwc56.trans Lw4
     replace b10 := Lw4.cell b10
     replace b11 := Lw4.cell b11
     replace b12 := Lw4.cell b12
     replace b20 := Lw4.cell b20
     replace b21 := Lw4.cell b21
     replace b22 := Lw4.cell b22
     replace f_b20 := Lw4.frz z_b2 f_b20
     replace f_b21 := Lw4.frz z_b2 f_b21
     replace f_b22 := Lw4.frz z_b2 f_b22
     replace e50 := Lw4.cell e50
     replace e250 := Lw4.cell e250
     replace b550 := Lw4.cell b550
     replace b551 := Lw4.cell b551
     replace b552 := Lw4.cell b552
     replace f_b550 := Lw4.frz z_b55 f_b550
     replace f_b551 := Lw4.frz z_b55 f_b551
     replace f_b552 := Lw4.frz z_b55 f_b552
     have z_b1 : w.heap.size < w4.heap.size := qB b10
     have z_b2 : w.heap.size + 1 < w4.heap.size := qB b20
     have z_e5 : bl3 < w4.heap.size := qB e50
     have z_e25 : bl23 < w4.heap.size := qB e250
     have z_b55 : g57 < w4.heap.size := qB b550
     replace i59 := i59.ext Lw4
     replace i60 := i60.ext Lw4
     have s_w4 : w.heap.size ≤ w4.heap.size := Xw4.size
     clear xw4
     obtain ⟨aa67, cc68, rfl⟩ := (O66.ints (by simp; omega)).form
     rw [List.length_replicate] at O66 ⊢
     obtain ⟨TT, hTT⟩ : ∃ x, List.replicate (delL s1 D).length (0 : Int) = x := ⟨_, rfl⟩
     replace hTT := Lib.hid hTT
     have hmd : Hid (madeV 0 (delL s1 D) (List.replicate (delL s1 D).length 0) = (0, delL s1 D, TT, true)) := Lib.hid (by rw [← hTT.out]; exact made_yes (by have h7 := hpv.out; unfold tidyB tidyT at h7; rw [if_pos hcl65, if_pos hcl65] at h7; exact h7))
     go_wp2_with fail
     refine (pv_eq hmd.out (made_c 0 (.slice af61 ((delL s1 D).length) cf62) (.slice aa67 ((delL s1 D).length) cc68) (delL s1 D) (List.replicate (delL s1 D).length 0) _ _ _ (i59.ext qXt) ((O66.ints (by simp; omega)).ext qXt))).mono ?_
     rintro e w5 ⟨fv69u, fv69v, rfl, i70u, i70v, -, -, -, xw5⟩
     have Lw5 : Ext w4 w5 := Ext.trans qXt xw5
     have Xw5 : Ext w w5 := Xw4.trans Lw5
     replace b10 := Lw5.cell b10
     replace b11 := Lw5.cell b11
     replace b12 := Lw5.cell b12
     replace b20 := Lw5.cell b20
     replace b21 := Lw5.cell b21
     replace b22 := Lw5.cell b22
     replace f_b20 := Lw5.frz z_b2 f_b20
     replace f_b21 := Lw5.frz z_b2 f_b21
     replace f_b22 := Lw5.frz z_b2 f_b22
     replace e50 := Lw5.cell e50
     replace e250 := Lw5.cell e250
     replace b550 := Lw5.cell b550
     replace b551 := Lw5.cell b551
     replace b552 := Lw5.cell b552
     replace f_b550 := Lw5.frz z_b55 f_b550
     replace f_b551 := Lw5.frz z_b55 f_b551
     replace f_b552 := Lw5.frz z_b55 f_b552
     have z_b1 : w.heap.size < w5.heap.size := qB b10
     have z_b2 : w.heap.size + 1 < w5.heap.size := qB b20
     have z_e5 : bl3 < w5.heap.size := qB e50
     have z_e25 : bl23 < w5.heap.size := qB e250
     have z_b55 : g57 < w5.heap.size := qB b550
     replace i59 := i59.ext Lw5
     replace i60 := i60.ext Lw5
     replace O66 := O66.ext Lw5
     have s_w5 : w.heap.size ≤ w5.heap.size := Xw5.size
     clear xw5
     try simp only [World.size_alloc, World.size_drew] at i70u i70v
     obtain ⟨afv69u, cfv69u, rfl⟩ := i70u.form
     obtain ⟨afv69v, cfv69v, rfl⟩ := i70v.form
     go_wp2_with fail
     have Kw6 : Chg (w.heap.size + 1) (w.heap.size + 1 + 1) w5 (((w5.setCell ⟨w.heap.size + 1, 0, none⟩ (.int .i64 0)).setCell ⟨w.heap.size + 1, 1, none⟩ (.slice afv69u ((delL s1 D).length) cfv69u)).setCell ⟨w.heap.size + 1, 2, none⟩ (.slice afv69v TT.length cfv69v)) := (Chg.setCell (p := ⟨w.heap.size + 1, 2, none⟩) (Chg.setCell (p := ⟨w.heap.size + 1, 1, none⟩) (Chg.setCell (p := ⟨w.heap.size + 1, 0, none⟩) (Chg.refl (w.heap.size + 1) (w.heap.size + 1 + 1) _) (Nat.le_refl _) (Nat.lt_succ_self _) (.int .i64 0)) (Nat.le_refl _) (Nat.lt_succ_self _) (.slice afv69u ((delL s1 D).length) cfv69u)) (Nat.le_refl _) (Nat.lt_succ_self _) (.slice afv69v TT.length cfv69v))
     have Xw6 : Ext w (((w5.setCell ⟨w.heap.size + 1, 0, none⟩ (.int .i64 0)).setCell ⟨w.heap.size + 1, 1, none⟩ (.slice afv69u ((delL s1 D).length) cfv69u)).setCell ⟨w.heap.size + 1, 2, none⟩ (.slice afv69v TT.length cfv69v)) := (Ext.setCell (p := ⟨w.heap.size + 1, 2, none⟩) (Ext.setCell (p := ⟨w.heap.size + 1, 1, none⟩) (Ext.setCell (p := ⟨w.heap.size + 1, 0, none⟩) Xw5 qSo (.int .i64 0)) qSo (.slice afv69u ((delL s1 D).length) cfv69u)) qSo (.slice afv69v TT.length cfv69v))
     replace b10 := Kw6.cell (by omega) b10
     replace b11 := Kw6.cell (by omega) b11
     replace b12 := Kw6.cell (by omega) b12
     have n_b20 : (((w5.setCell ⟨w.heap.size + 1, 0, none⟩ (.int .i64 0)).setCell ⟨w.heap.size + 1, 1, none⟩ (.slice afv69u ((delL s1 D).length) cfv69u)).setCell ⟨w.heap.size + 1, 2, none⟩ (.slice afv69v TT.length cfv69v)).cell? ⟨w.heap.size + 1, 0, none⟩ = some (.int .i64 0) := by go_simp
     have n_f_b20 : (((w5.setCell ⟨w.heap.size + 1, 0, none⟩ (.int .i64 0)).setCell ⟨w.heap.size + 1, 1, none⟩ (.slice afv69u ((delL s1 D).length) cfv69u)).setCell ⟨w.heap.size + 1, 2, none⟩ (.slice afv69v TT.length cfv69v)).frozen? ⟨w.heap.size + 1, 0, none⟩ = false := by go_simp
     have n_b21 : (((w5.setCell ⟨w.heap.size + 1, 0, none⟩ (.int .i64 0)).setCell ⟨w.heap.size + 1, 1, none⟩ (.slice afv69u ((delL s1 D).length) cfv69u)).setCell ⟨w.heap.size + 1, 2, none⟩ (.slice afv69v TT.length cfv69v)).cell? ⟨w.heap.size + 1, 1, none⟩ = some (.slice afv69u ((delL s1 D).length) cfv69u) := by go_simp
     have n_f_b21 : (((w5.setCell ⟨w.heap.size + 1, 0, none⟩ (.int .i64 0)).setCell ⟨w.heap.size + 1, 1, none⟩ (.slice afv69u ((delL s1 D).length) cfv69u)).setCell ⟨w.heap.size + 1, 2, none⟩ (.slice afv69v TT.length cfv69v)).frozen? ⟨w.heap.size + 1, 1, none⟩ = false := by go_simp
     have n_b22 : (((w5.setCell ⟨w.heap.size + 1, 0, none⟩ (.int .i64 0)).setCell ⟨w.heap.size + 1, 1, none⟩ (.slice afv69u ((delL s1 D).length) cfv69u)).setCell ⟨w.heap.size + 1, 2, none⟩ (.slice afv69v TT.length cfv69v)).cell? ⟨w.heap.size + 1, 2, none⟩ = some (.slice afv69v TT.length cfv69v) := by go_simp
     have n_f_b22 : (((w5.setCell ⟨w.heap.size + 1, 0, none⟩ (.int .i64 0)).setCell ⟨w.heap.size + 1, 1, none⟩ (.slice afv69u ((delL s1 D).length) cfv69u)).setCell ⟨w.heap.size + 1, 2, none⟩ (.slice afv69v TT.length cfv69v)).frozen? ⟨w.heap.size + 1, 2, none⟩ = false := by go_simp
     replace b20 := n_b20
     clear n_b20
     replace f_b20 := n_f_b20
     clear n_f_b20
     replace b21 := n_b21
     clear n_b21
     replace f_b21 := n_f_b21
     clear n_f_b21
     replace b22 := n_b22
     clear n_b22
     replace f_b22 := n_f_b22
     clear n_f_b22
     replace e50 := Kw6.cell (by omega) e50
     replace e250 := Kw6.cell (by omega) e250
     replace b550 := Kw6.cell (by omega) b550
     replace f_b550 := Kw6.frzO (by omega) z_b55 f_b550
     replace b551 := Kw6.cell (by omega) b551
     replace f_b551 := Kw6.frzO (by omega) z_b55 f_b551
     replace b552 := Kw6.cell (by omega) b552
     replace f_b552 := Kw6.frzO (by omega) z_b55 f_b552
     replace i59 := i59.chg Kw6 (by omega)
     replace i60 := i60.chg Kw6 (by omega)
     replace O66 := O66.chg Kw6 (by omega)
     replace i70u := i70u.chg Kw6 (by omega)
     replace i70v := i70v.chg Kw6 (by omega)
     clear Kw6
     have z_b1 : w.heap.size < (((w5.setCell ⟨w.heap.size + 1, 0, none⟩ (.int .i64 0)).setCell ⟨w.heap.size + 1, 1, none⟩ (.slice afv69u ((delL s1 D).length) cfv69u)).setCell ⟨w.heap.size + 1, 2, none⟩ (.slice afv69v TT.length cfv69v)).heap.size := qB b10
     have z_b2 : w.heap.size + 1 < (((w5.setCell ⟨w.heap.size + 1, 0, none⟩ (.int .i64 0)).setCell ⟨w.heap.size + 1, 1, none⟩ (.slice afv69u ((delL s1 D).length) cfv69u)).setCell ⟨w.heap.size + 1, 2, none⟩ (.slice afv69v TT.length cfv69v)).heap.size := qB b20
     have z_e5 : bl3 < (((w5.setCell ⟨w.heap.size + 1, 0, none⟩ (.int .i64 0)).setCell ⟨w.heap.size + 1, 1, none⟩ (.slice afv69u ((delL s1 D).length) cfv69u)).setCell ⟨w.heap.size + 1, 2, none⟩ (.slice afv69v TT.length cfv69v)).heap.size := qB e50
     have z_e25 : bl23 < (((w5.setCell ⟨w.heap.size + 1, 0, none⟩ (.int .i64 0)).setCell ⟨w.heap.size + 1, 1, none⟩ (.slice afv69u ((delL s1 D).length) cfv69u)).setCell ⟨w.heap.size + 1, 2, none⟩ (.slice afv69v TT.length cfv69v)).heap.size := qB e250
     have z_b55 : g57 < (((w5.setCell ⟨w.heap.size + 1, 0, none⟩ (.int .i64 0)).setCell ⟨w.heap.size + 1, 1, none⟩ (.slice afv69u ((delL s1 D).length) cfv69u)).setCell ⟨w.heap.size + 1, 2, none⟩ (.slice afv69v TT.length cfv69v)).heap.size := qB b550
     have s_w6 : w.heap.size ≤ (((w5.setCell ⟨w.heap.size + 1, 0, none⟩ (.int .i64 0)).setCell ⟨w.heap.size + 1, 1, none⟩ (.slice afv69u ((delL s1 D).length) cfv69u)).setCell ⟨w.heap.size + 1, 2, none⟩ (.slice afv69v TT.length cfv69v)).heap.size := Xw6.size
     generalize (((w5.setCell ⟨w.heap.size + 1, 0, none⟩ (.int .i64 0)).setCell ⟨w.heap.size + 1, 1, none⟩ (.slice afv69u ((delL s1 D).length) cfv69u)).setCell ⟨w.heap.size + 1, 2, none⟩ (.slice afv69v TT.length cfv69v)) = w6 at *
     refine bodyPost_ret (v := .tuple #[.agg #[.int .i64 0, .slice afv69u ((delL s1 D).length) cfv69u, .slice afv69v TT.length cfv69v], .bool true]) (by simp only [results, Try.results42]; go_simp) rfl ?_
     rw [pick_yes (j := (i + v6)) hdim.out hv6.out hv26.out (by split <;> omega) (by omega) (by omega)]
     refine ⟨.slice afv69u ((delL s1 D).length) cfv69u, .slice afv69v TT.length cfv69v, ?_, i70u.lower (by omega), ?_, Xw6⟩
     ·
      rw [show tidyB (b1 + (i + v6) * v26) (delL s1 D) = 0 by unfold tidyB; rw [if_pos hcl65]]
     ·
      rw [show tidyT (delL s1 D) (delL t1 D) = TT by unfold tidyT; rw [if_pos hcl65]; exact hTT.out]
      exact i70v.lower (by omega)
    ·
     refine (tidy_1 (b1 + ((i + v6) * v26)) _ _ (delL s1 D) (delL t1 D) _ _ _ (i59.ext qXt) (i60.ext qXt) hcl65).mono ?_
     rintro e w4 ⟨rfl, xw4⟩
     have Lw4 : Ext wc56 w4 := Ext.trans qXt xw4
     have Xw4 : Ext w w4 := Xwc56.trans Lw4
     replace b10 := Lw4.cell b10
     replace b11 := Lw4.cell b11
     replace b12 := Lw4.cell b12
     replace b20 := Lw4.cell b20
     replace b21 := Lw4.cell b21
     replace b22 := Lw4.cell b22
     replace f_b20 := Lw4.frz z_b2 f_b20
     replace f_b21 := Lw4.frz z_b2 f_b21
     replace f_b22 := Lw4.frz z_b2 f_b22
     replace e50 := Lw4.cell e50
     replace e250 := Lw4.cell e250
     replace b550 := Lw4.cell b550
     replace b551 := Lw4.cell b551
     replace b552 := Lw4.cell b552
     replace f_b550 := Lw4.frz z_b55 f_b550
     replace f_b551 := Lw4.frz z_b55 f_b551
     replace f_b552 := Lw4.frz z_b55 f_b552
     have z_b1 : w.heap.size < w4.heap.size := qB b10
     have z_b2 : w.heap.size + 1 < w4.heap.size := qB b20
     have z_e5 : bl3 < w4.heap.size := qB e50
     have z_e25 : bl23 < w4.heap.size := qB e250
     have z_b55 : g57 < w4.heap.size := qB b550
     replace i59 := i59.ext Lw4
     replace i60 := i60.ext Lw4
     have s_w4 : w.heap.size ≤ w4.heap.size := Xw4.size
     clear xw4
     have hmd : Hid (madeV (b1 + (i + v6) * v26) (delL s1 D) (delL t1 D) = (b1 + (i + v6) * v26, delL s1 D, delL t1 D, true)) := Lib.hid (made_yes (by have h7 := hpv.out; unfold tidyB tidyT at h7; rw [if_neg hcl65, if_neg hcl65] at h7; exact h7))
     go_wp2_with fail
     refine (pv_eq hmd.out (made_c (b1 + ((i + v6) * v26)) (.slice af61 ((delL s1 D).length) cf62) (.slice af63 ((delL t1 D).length) cf64) (delL s1 D) (delL t1 D) _ _ _ (i59.ext qXt) (i60.ext qXt))).mono ?_
     rintro e w5 ⟨fv71u, fv71v, rfl, i72u, i72v, -, -, -, xw5⟩
     have Lw5 : Ext w4 w5 := Ext.trans qXt xw5
     have Xw5 : Ext w w5 := Xw4.trans Lw5
     replace b10 := Lw5.cell b10
     replace b11 := Lw5.cell b11
     replace b12 := Lw5.cell b12
     replace b20 := Lw5.cell b20
     replace b21 := Lw5.cell b21
     replace b22 := Lw5.cell b22
     replace f_b20 := Lw5.frz z_b2 f_b20
     replace f_b21 := Lw5.frz z_b2 f_b21
     replace f_b22 := Lw5.frz z_b2 f_b22
     replace e50 := Lw5.cell e50
     replace e250 := Lw5.cell e250
     replace b550 := Lw5.cell b550
     replace b551 := Lw5.cell b551
     replace b552 := Lw5.cell b552
     replace f_b550 := Lw5.frz z_b55 f_b550
     replace f_b551 := Lw5.frz z_b55 f_b551
     replace f_b552 := Lw5.frz z_b55 f_b552
     have z_b1 : w.heap.size < w5.heap.size := qB b10
     have z_b2 : w.heap.size + 1 < w5.heap.size := qB b20
     have z_e5 : bl3 < w5.heap.size := qB e50
     have z_e25 : bl23 < w5.heap.size := qB e250
     have z_b55 : g57 < w5.heap.size := qB b550
     replace i59 := i59.ext Lw5
     replace i60 := i60.ext Lw5
     have s_w5 : w.heap.size ≤ w5.heap.size := Xw5.size
     clear xw5
     try simp only [World.size_alloc, World.size_drew] at i72u i72v
     obtain ⟨afv71u, cfv71u, rfl⟩ := i72u.form
     obtain ⟨afv71v, cfv71v, rfl⟩ := i72v.form
     go_wp2_with fail
     have Kw6 : Chg (w.heap.size + 1) (w.heap.size + 1 + 1) w5 (((w5.setCell ⟨w.heap.size + 1, 0, none⟩ (.int .i64 (b1 + (i + v6) * v26))).setCell ⟨w.heap.size + 1, 1, none⟩ (.slice afv71u ((delL s1 D).length) cfv71u)).setCell ⟨w.heap.size + 1, 2, none⟩ (.slice afv71v ((delL t1 D).length) cfv71v)) := (Chg.setCell (p := ⟨w.heap.size + 1, 2, none⟩) (Chg.setCell (p := ⟨w.heap.size + 1, 1, none⟩) (Chg.setCell (p := ⟨w.heap.size + 1, 0, none⟩) (Chg.refl (w.heap.size + 1) (w.heap.size + 1 + 1) _) (Nat.le_refl _) (Nat.lt_succ_self _) (.int .i64 (b1 + (i + v6) * v26))) (Nat.le_refl _) (Nat.lt_succ_self _) (.slice afv71u ((delL s1 D).length) cfv71u)) (Nat.le_refl _) (Nat.lt_succ_self _) (.slice afv71v ((delL t1 D).length) cfv71v))
     have Xw6 : Ext w (((w5.setCell ⟨w.heap.size + 1, 0, none⟩ (.int .i64 (b1 + (i + v6) * v26))).setCell ⟨w.heap.size + 1, 1, none⟩ (.slice afv71u ((delL s1 D).length) cfv71u)).setCell ⟨w.heap.size + 1, 2, none⟩ (.slice afv71v ((delL t1 D).length) cfv71v)) := (Ext.setCell (p := ⟨w.heap.size + 1, 2, none⟩) (Ext.setCell (p := ⟨w.heap.size + 1, 1, none⟩) (Ext.setCell (p := ⟨w.heap.size + 1, 0, none⟩) Xw5 qSo (.int .i64 (b1 + (i + v6) * v26))) qSo (.slice afv71u ((delL s1 D).length) cfv71u)) qSo (.slice afv71v ((delL t1 D).length) cfv71v))
     replace b10 := Kw6.cell (by omega) b10
     replace b11 := Kw6.cell (by omega) b11
     replace b12 := Kw6.cell (by omega) b12
     have n_b20 : (((w5.setCell ⟨w.heap.size + 1, 0, none⟩ (.int .i64 (b1 + (i + v6) * v26))).setCell ⟨w.heap.size + 1, 1, none⟩ (.slice afv71u ((delL s1 D).length) cfv71u)).setCell ⟨w.heap.size + 1, 2, none⟩ (.slice afv71v ((delL t1 D).length) cfv71v)).cell? ⟨w.heap.size + 1, 0, none⟩ = some (.int .i64 (b1 + (i + v6) * v26)) := by go_simp
     have n_f_b20 : (((w5.setCell ⟨w.heap.size + 1, 0, none⟩ (.int .i64 (b1 + (i + v6) * v26))).setCell ⟨w.heap.size + 1, 1, none⟩ (.slice afv71u ((delL s1 D).length) cfv71u)).setCell ⟨w.heap.size + 1, 2, none⟩ (.slice afv71v ((delL t1 D).length) cfv71v)).frozen? ⟨w.heap.size + 1, 0, none⟩ = false := by go_simp
     have n_b21 : (((w5.setCell ⟨w.heap.size + 1, 0, none⟩ (.int .i64 (b1 + (i + v6) * v26))).setCell ⟨w.heap.size + 1, 1, none⟩ (.slice afv71u ((delL s1 D).length) cfv71u)).setCell ⟨w.heap.size + 1, 2, none⟩ (.slice afv71v ((delL t1 D).length) cfv71v)).cell? ⟨w.heap.size + 1, 1, none⟩ = some (.slice afv71u ((delL s1 D).length) cfv71u) := by go_simp
     have n_f_b21 : (((w5.setCell ⟨w.heap.size + 1, 0, none⟩ (.int .i64 (b1 + (i + v6) * v26))).setCell ⟨w.heap.size + 1, 1, none⟩ (.slice afv71u ((delL s1 D).length) cfv71u)).setCell ⟨w.heap.size + 1, 2, none⟩ (.slice afv71v ((delL t1 D).length) cfv71v)).frozen? ⟨w.heap.size + 1, 1, none⟩ = false := by go_simp
     have n_b22 : (((w5.setCell ⟨w.heap.size + 1, 0, none⟩ (.int .i64 (b1 + (i + v6) * v26))).setCell ⟨w.heap.size + 1, 1, none⟩ (.slice afv71u ((delL s1 D).length) cfv71u)).setCell ⟨w.heap.size + 1, 2, none⟩ (.slice afv71v ((delL t1 D).length) cfv71v)).cell? ⟨w.heap.size + 1, 2, none⟩ = some (.slice afv71v ((delL t1 D).length) cfv71v) := by go_simp
     have n_f_b22 : (((w5.setCell ⟨w.heap.size + 1, 0, none⟩ (.int .i64 (b1 + (i + v6) * v26))).setCell ⟨w.heap.size + 1, 1, none⟩ (.slice afv71u ((delL s1 D).length) cfv71u)).setCell ⟨w.heap.size + 1, 2, none⟩ (.slice afv71v ((delL t1 D).length) cfv71v)).frozen? ⟨w.heap.size + 1, 2, none⟩ = false := by go_simp
     replace b20 := n_b20
     clear n_b20
     replace f_b20 := n_f_b20
     clear n_f_b20
     replace b21 := n_b21
     clear n_b21
     replace f_b21 := n_f_b21
     clear n_f_b21
     replace b22 := n_b22
     clear n_b22
     replace f_b22 := n_f_b22
     clear n_f_b22
     replace e50 := Kw6.cell (by omega) e50
     replace e250 := Kw6.cell (by omega) e250
     replace b550 := Kw6.cell (by omega) b550
     replace f_b550 := Kw6.frzO (by omega) z_b55 f_b550
     replace b551 := Kw6.cell (by omega) b551
     replace f_b551 := Kw6.frzO (by omega) z_b55 f_b551
     replace b552 := Kw6.cell (by omega) b552
     replace f_b552 := Kw6.frzO (by omega) z_b55 f_b552
     replace i59 := i59.chg Kw6 (by omega)
     replace i60 := i60.chg Kw6 (by omega)
     replace i72u := i72u.chg Kw6 (by omega)
     replace i72v := i72v.chg Kw6 (by omega)
     clear Kw6
     have z_b1 : w.heap.size < (((w5.setCell ⟨w.heap.size + 1, 0, none⟩ (.int .i64 (b1 + (i + v6) * v26))).setCell ⟨w.heap.size + 1, 1, none⟩ (.slice afv71u ((delL s1 D).length) cfv71u)).setCell ⟨w.heap.size + 1, 2, none⟩ (.slice afv71v ((delL t1 D).length) cfv71v)).heap.size := qB b10
     have z_b2 : w.heap.size + 1 < (((w5.setCell ⟨w.heap.size + 1, 0, none⟩ (.int .i64 (b1 + (i + v6) * v26))).setCell ⟨w.heap.size + 1, 1, none⟩ (.slice afv71u ((delL s1 D).length) cfv71u)).setCell ⟨w.heap.size + 1, 2, none⟩ (.slice afv71v ((delL t1 D).length) cfv71v)).heap.size := qB b20
     have z_e5 : bl3 < (((w5.setCell ⟨w.heap.size + 1, 0, none⟩ (.int .i64 (b1 + (i + v6) * v26))).setCell ⟨w.heap.size + 1, 1, none⟩ (.slice afv71u ((delL s1 D).length) cfv71u)).setCell ⟨w.heap.size + 1, 2, none⟩ (.slice afv71v ((delL t1 D).length) cfv71v)).heap.size := qB e50
     have z_e25 : bl23 < (((w5.setCell ⟨w.heap.size + 1, 0, none⟩ (.int .i64 (b1 + (i + v6) * v26))).setCell ⟨w.heap.size + 1, 1, none⟩ (.slice afv71u ((delL s1 D).length) cfv71u)).setCell ⟨w.heap.size + 1, 2, none⟩ (.slice afv71v ((delL t1 D).length) cfv71v)).heap.size := qB e250
     have z_b55 : g57 < (((w5.setCell ⟨w.heap.size + 1, 0, none⟩ (.int .i64 (b1 + (i + v6) * v26))).setCell ⟨w.heap.size + 1, 1, none⟩ (.slice afv71u ((delL s1 D).length) cfv71u)).setCell ⟨w.heap.size + 1, 2, none⟩ (.slice afv71v ((delL t1 D).length) cfv71v)).heap.size := qB b550
     have s_w6 : w.heap.size ≤ (((w5.setCell ⟨w.heap.size + 1, 0, none⟩ (.int .i64 (b1 + (i + v6) * v26))).setCell ⟨w.heap.size + 1, 1, none⟩ (.slice afv71u ((delL s1 D).length) cfv71u)).setCell ⟨w.heap.size + 1, 2, none⟩ (.slice afv71v ((delL t1 D).length) cfv71v)).heap.size := Xw6.size
     generalize (((w5.setCell ⟨w.heap.size + 1, 0, none⟩ (.int .i64 (b1 + (i + v6) * v26))).setCell ⟨w.heap.size + 1, 1, none⟩ (.slice afv71u ((delL s1 D).length) cfv71u)).setCell ⟨w.heap.size + 1, 2, none⟩ (.slice afv71v ((delL t1 D).length) cfv71v)) = w6 at *
     refine bodyPost_ret (v := .tuple #[.agg #[.int .i64 (b1 + (i + v6) * v26), .slice afv71u ((delL s1 D).length) cfv71u, .slice afv71v ((delL t1 D).length) cfv71v], .bool true]) (by simp only [results, Try.results42]; go_simp) rfl ?_
     rw [pick_yes (j := (i + v6)) hdim.out hv6.out hv26.out (by split <;> omega) (by omega) (by omega)]
     refine ⟨.slice afv71u ((delL s1 D).length) cfv71u, .slice afv71v ((delL t1 D).length) cfv71v, ?_, i72u.lower (by omega), ?_, Xw6⟩
     ·
      rw [show tidyB (b1 + (i + v6) * v26) (delL s1 D) = b1 + (i + v6) * v26 by unfold tidyB; rw [if_neg hcl65]]
     ·
      rw [show tidyT (delL s1 D) (delL t1 D) = delL t1 D by unfold tidyT; rw [if_neg hcl65]]
      exact i72v.lower (by omega)
  ·
   go_wp2_with fail
   have hN_e75 : D < t1.length := (by omega)
   have hI_e75 : (D : Int) < (t1.length : Int) := by omega
   obtain ⟨bl73, ol74, rfl, e750⟩ := k1.at D (by omega)
   have y_e75 : bl73 < w.heap.size := qB e750
   replace e750 := Xw3.cell e750
   obtain ⟨v76, hv76⟩ : ∃ v, t1.getD D 0 = v := ⟨_, rfl⟩
   rw [hv76] at e750
   replace hv76 := Lib.hid hv76
   have z_e75 : bl73 < w3.heap.size := qB e750
   have h60v76 := ht60.out _ (getD_mem hDT)
   rw [hv76.out] at h60v76
   have hjb := mul_bd (x := i) (t := v76) (by omega) (by omega) (show (0 : Int) ≤ 60 by omega) h60v76.1 h60v76.2
   have hb60 := (viewB_in hvv.out).2.2.1
   have hpv := (pick_view hvv.out hDN (show 0 ≤ i by omega) (show i < s1.getD D 0 by rw [hv6.out]; omega)).1
   rw [hv76.out] at hpv
   replace hpv := Lib.hid hpv
   go_cut [8] (fun s8 wx => ∃ (g : Nat) (afv82 : Option Addr) (cfv82 : Nat) (afv84 : Option Addr) (cfv84 : Nat), s8 = .pointer (some ⟨g, 0, none⟩) ∧ Ext w3 wx ∧ w3.heap.size ≤ g ∧ wx.cell? ⟨g, 0, none⟩ = some (.int .i64 (b1 + (i * v76))) ∧ wx.cell? ⟨g, 1, none⟩ = some (.slice afv82 ((delL s1 D).length) cfv82) ∧ wx.cell? ⟨g, 2, none⟩ = some (.slice afv84 ((delL t1 D).length) cfv84) ∧ wx.frozen? ⟨g, 0, none⟩ = false ∧ wx.frozen? ⟨g, 1, none⟩ = false ∧ wx.frozen? ⟨g, 2, none⟩ = false ∧ Ints wx w3.heap.size (.slice afv82 ((delL s1 D).length) cfv82) (delL s1 D) ∧ Ints wx w3.heap.size (.slice afv84 ((delL t1 D).length) cfv84) (delL t1 D))
   case first =>
    have BD5 : Ext w3 w3 := Ext.refl _
    refine wp_region_held_drew (S := fun w' => w'.cell? ⟨w.heap.size, 0, none⟩ = some (.int .i64 b1) ∧ w'.cell? ⟨w.heap.size, 1, none⟩ = some (.slice (some ⟨bl3, ol4, none⟩) s1.length c0) ∧ w'.cell? ⟨w.heap.size, 2, none⟩ = some (.slice (some ⟨bl73, ol74, none⟩) t1.length c1) ∧ w'.cell? ⟨w.heap.size + 1, 0, none⟩ = some (.int .i64 0) ∧ w'.cell? ⟨w.heap.size + 1, 1, none⟩ = some (.slice none 0 0) ∧ w'.cell? ⟨w.heap.size + 1, 2, none⟩ = some (.slice none 0 0) ∧ w'.cell? ⟨bl3, ol4 + D, none⟩ = some (.int .i64 v6) ∧ w'.cell? ⟨bl73, ol74 + D, none⟩ = some (.int .i64 v76)) qKr ⟨b10, b11, b12, b20, b21, b22, e50, e750⟩ (fun hHeld => ?_)
    refine wpAnyH_take (i := 0) (v := ?_) rfl qKr qKr qKr (fun _ _ _ h => h) (Or.inl ⟨by rfl, ?_⟩) (by assumption) ?_
    rotate_left
    ·
     (intro w hSw; (try dsimp only at hSw); go_simp; try with_reducible rfl)
    try simp only [Act.put, qA1, qA2, qA3, qA4, qA5, qA6]
    refine wpAnyH_take (i := 1) (v := ?_) rfl qKr qKr qKr (fun _ _ _ h => h) (Or.inl ⟨by rfl, ?_⟩) (by assumption) ?_
    rotate_left
    ·
     (intro w hSw; (try dsimp only at hSw); go_simp; try with_reducible rfl)
    try simp only [Act.put, qA1, qA2, qA3, qA4, qA5, qA6]
    refine wpAnyH_take (i := 2) (v := ?_) rfl qKr qKr qKr (fun _ _ _ h => h) (Or.inl ⟨by rfl, ?_⟩) (by assumption) ?_
    rotate_left
    ·
     (intro w hSw; (try dsimp only at hSw); go_simp; try with_reducible rfl)
    try simp only [Act.put, qA1, qA2, qA3, qA4, qA5, qA6]
    refine wpAnyH_take (i := 3) (v := ?_) rfl qKr qKr qKr (fun _ _ _ h => h) (Or.inl ⟨by rfl, ?_⟩) (by assumption) ?_
    rotate_left
    ·
     (intro w hSw; (try dsimp only at hSw); go_simp; try with_reducible rfl)
    try simp only [Act.put, qA1, qA2, qA3, qA4, qA5, qA6]
    refine wpAnyH_take (i := 4) (v := ?_) rfl qKr qKr qKr (fun _ _ _ h => h) (Or.inl ⟨by rfl, ?_⟩) (by assumption) ?_
    rotate_left
    ·
     (intro w hSw; (try dsimp only at hSw); go_simp; try with_reducible rfl)
    try simp only [Act.put, qA1, qA2, qA3, qA4, qA5, qA6]
    refine wpAnyH_take (i := 5) (v := ?_) rfl qKr qKr qKr (fun _ _ _ h => h) (Or.inl ⟨by rfl, ?_⟩) (by assumption) ?_
    rotate_left
    ·
     (intro w hSw; (try dsimp only at hSw); go_simp; try with_reducible rfl)
    try simp only [Act.put, qA1, qA2, qA3, qA4, qA5, qA6]
    refine wpAnyH_take (i := 6) (v := ?_) rfl qKr qKr qKr (fun _ _ _ h => h) (Or.inl ⟨by rfl, ?_⟩) (by assumption) ?_
    rotate_left
    ·
     (intro w hSw; (try dsimp only at hSw); go_simp; try with_reducible rfl)
    try simp only [Act.put, qA1, qA2, qA3, qA4, qA5, qA6]
    refine wpAnyH_take (i := 7) (v := ?_) rfl qKr qKr qKr (fun _ _ _ h => h) (Or.inl ⟨by rfl, ?_⟩) (by assumption) ?_
    rotate_left
    ·
     (intro w hSw; (try dsimp only at hSw); go_simp; try with_reducible rfl)
    try simp only [Act.put, qA1, qA2, qA3, qA4, qA5, qA6]
    have hw80 : IntKind.i64.wrap (i * v76) = i * v76 := IntWalk.i64_in _ (by omega)
    refine wpAnyH_take (i := 8) (v := ?_) rfl qKr qKr qKr (fun _ _ _ h => h) (Or.inl ⟨by rfl, ?_⟩) (by assumption) ?_
    rotate_left
    ·
     (intro w hSw; (try dsimp only at hSw); go_simp; try with_reducible rfl)
    try simp only [Act.put, qA1, qA2, qA3, qA4, qA5, qA6]
    have hw81 : IntKind.i64.wrap (b1 + (i * v76)) = b1 + (i * v76) := IntWalk.i64_in _ (by omega)
    refine wpAnyH_take (i := 9) (v := ?_) rfl qKr qKr qKr (fun _ _ _ h => h) (Or.inl ⟨by rfl, ?_⟩) (by assumption) ?_
    rotate_left
    ·
     (intro w hSw; (try dsimp only at hSw); go_simp; try with_reducible rfl)
    try simp only [Act.put, qA1, qA2, qA3, qA4, qA5, qA6]
    refine wpAnyH_take (i := 10) (v := ?_) rfl qKr qKr qKr (fun _ _ _ h => h) (Or.inl ⟨by rfl, ?_⟩) (by assumption) ?_
    rotate_left
    ·
     (intro w hSw; (try dsimp only at hSw); go_simp; try with_reducible rfl)
    try simp only [Act.put, qA1, qA2, qA3, qA4, qA5, qA6]
    refine wpAnyH_take (i := 11) (v := ?_) rfl qKr qKr qKr (fun _ _ _ h => h) (Or.inl ⟨by rfl, ?_⟩) (by assumption) ?_
    rotate_left
    ·
     (intro w hSw; (try dsimp only at hSw); go_simp; try with_reducible rfl)
    try simp only [Act.put, qA1, qA2, qA3, qA4, qA5, qA6]
    refine wpAnyH_take (i := 12) (v := ?_) rfl qKr qKr qKr (fun _ _ _ h => h) (Or.inl ⟨by rfl, ?_⟩) (by assumption) ?_
    rotate_left
    ·
     (intro w hSw; (try dsimp only at hSw); go_simp; try with_reducible rfl)
    try simp only [Act.put, qA1, qA2, qA3, qA4, qA5, qA6]
    refine wpAnyH_take (i := 14) (v := ?_) rfl qKr qKr qKr (fun _ _ _ h => h) (Or.inl ⟨by rfl, ?_⟩) (by assumption) ?_
    rotate_left
    ·
     (intro w hSw; (try dsimp only at hSw); go_simp; try with_reducible rfl)
    try simp only [Act.put, qA1, qA2, qA3, qA4, qA5, qA6]
    refine wpAnyH_take (i := 15) (v := ?_) rfl qKr qKr qKr (fun _ _ _ h => h) (Or.inl ⟨by rfl, ?_⟩) (by assumption) ?_
    rotate_left
    ·
     (intro w hSw; (try dsimp only at hSw); go_simp; try with_reducible rfl)
    try simp only [Act.put, qA1, qA2, qA3, qA4, qA5, qA6]
    refine wpAnyH_take (i := 16) (v := ?_) rfl qKr qKr qKr (fun _ _ _ h => h) (Or.inl ⟨by rfl, ?_⟩) (by assumption) ?_
    rotate_left
    ·
     (intro w hSw; (try dsimp only at hSw); go_simp; try with_reducible rfl)
    try simp only [Act.put, qA1, qA2, qA3, qA4, qA5, qA6]
    refine wpAnyH_ready (rs := [13, 19]) qKr (by simp) ?_
    refine AllReadyH.cons rfl (fun K hK => ?_) (AllReadyH.cons rfl (fun K hK => ?_) AllReadyH.nil)
    ·
     try simp only [Act.put, qA1, qA2, qA3, qA4, qA5, qA6]
     go_simp
     refine (swithout_c s1 (.slice (some ⟨bl3, ol4, none⟩) s1.length c0) D _ _ (h1.ext (Xw3.trans qXt)) hDN (by omega)).mono ?_
     rintro e w4 ⟨fv82, rfl, i83, -, xw4⟩
     have Lw4 : Ext w3 w4 := Ext.trans qXt xw4
     have Xw4 : Ext w w4 := Xw3.trans Lw4
     replace b10 := Lw4.cell b10
     replace b11 := Lw4.cell b11
     replace b12 := Lw4.cell b12
     replace b20 := Lw4.cell b20
     replace b21 := Lw4.cell b21
     replace b22 := Lw4.cell b22
     replace f_b20 := Lw4.frz z_b2 f_b20
     replace f_b21 := Lw4.frz z_b2 f_b21
     replace f_b22 := Lw4.frz z_b2 f_b22
     replace e50 := Lw4.cell e50
     replace e750 := Lw4.cell e750
     have z_b1 : w.heap.size < w4.heap.size := qB b10
     have z_b2 : w.heap.size + 1 < w4.heap.size := qB b20
     have z_e5 : bl3 < w4.heap.size := qB e50
     have z_e75 : bl73 < w4.heap.size := qB e750
     have s_w4 : w.heap.size ≤ w4.heap.size := Xw4.size
     have BD5_w4 : Ext w3 w4 := BD5.trans Lw4
     clear xw4
     try simp only [World.size_alloc, World.size_drew] at i83
     obtain ⟨afv82, cfv82, rfl⟩ := i83.form
     have zD_w4 := (BD5_w4).size
     refine hK.out _ _ ⟨b10, b11, b12, b20, b21, b22, e50, e750⟩ (fun hHeld => ?_)
     clear hK K
     try simp only [Act.put, qA1, qA2, qA3, qA4, qA5, qA6]
     refine wpAnyH_ready (rs := [17, 19]) qKr (by simp) ?_
     refine AllReadyH.cons rfl (fun K hK => ?_) (AllReadyH.cons rfl (fun K hK => ?_) AllReadyH.nil)
     ·
      try simp only [Act.put, qA1, qA2, qA3, qA4, qA5, qA6]
      go_simp
      refine (swithout_c t1 (.slice (some ⟨bl73, ol74, none⟩) t1.length c1) D _ _ (k1.ext (Xw4.trans qXt)) hDT (by omega)).mono ?_
      rintro e w5 ⟨fv84, rfl, i85, -, xw5⟩
      have Lw5 : Ext w4 w5 := Ext.trans qXt xw5
      have Xw5 : Ext w w5 := Xw4.trans Lw5
      replace b10 := Lw5.cell b10
      replace b11 := Lw5.cell b11
      replace b12 := Lw5.cell b12
      replace b20 := Lw5.cell b20
      replace b21 := Lw5.cell b21
      replace b22 := Lw5.cell b22
      replace f_b20 := Lw5.frz z_b2 f_b20
      replace f_b21 := Lw5.frz z_b2 f_b21
      replace f_b22 := Lw5.frz z_b2 f_b22
      replace e50 := Lw5.cell e50
      replace e750 := Lw5.cell e750
      have z_b1 : w.heap.size < w5.heap.size := qB b10
      have z_b2 : w.heap.size + 1 < w5.heap.size := qB b20
      have z_e5 : bl3 < w5.heap.size := qB e50
      have z_e75 : bl73 < w5.heap.size := qB e750
      replace i83 := i83.ext Lw5
      have s_w5 : w.heap.size ≤ w5.heap.size := Xw5.size
      have BD5_w5 : Ext w3 w5 := BD5_w4.trans Lw5
      clear xw5
      try simp only [World.size_alloc, World.size_drew] at i85
      obtain ⟨afv84, cfv84, rfl⟩ := i85.form
      have zD_w5 := (BD5_w5).size
      refine hK.out _ _ ⟨b10, b11, b12, b20, b21, b22, e50, e750⟩ (fun hHeld => ?_)
      clear hK K
      try simp only [Act.put, qA1, qA2, qA3, qA4, qA5, qA6]
      refine wpAnyH_take (i := 18) (v := ?_) rfl qKr qKr qKr (fun _ _ _ h => h) (Or.inl ⟨by rfl, ?_⟩) (by assumption) ?_
      rotate_left
      ·
       (intro w hSw; (try dsimp only at hSw); go_simp; try with_reducible rfl)
      try simp only [Act.put, qA1, qA2, qA3, qA4, qA5, qA6]
      refine wpAnyH_ready (rs := [19]) qKr (by simp) ?_
      refine AllReadyH.cons rfl (fun K hK => ?_) AllReadyH.nil
      try simp only [Act.put, qA1, qA2, qA3, qA4, qA5, qA6]
      go_simp
      have Q86_b10 := Lib.hid b10
      have Q86_b11 := Lib.hid b11
      have Q86_b12 := Lib.hid b12
      have Q86_zb1 := z_b1
      have Q86_b20 := Lib.hid b20
      have Q86_f_b20 := Lib.hid f_b20
      have Q86_b21 := Lib.hid b21
      have Q86_f_b21 := Lib.hid f_b21
      have Q86_b22 := Lib.hid b22
      have Q86_f_b22 := Lib.hid f_b22
      have Q86_zb2 := z_b2
      have Q86_e50 := Lib.hid e50
      have Q86_ze5 := z_e5
      have Q86_e750 := Lib.hid e750
      have Q86_ze75 := z_e75
      have Q86_i83 := Lib.hid i83
      have Q86_i85 := Lib.hid i85
      have BL87 : Ext w5 w5 := Ext.refl _
      have Q88_b10 := Lib.hid b10
      have Q88_b11 := Lib.hid b11
      have Q88_b12 := Lib.hid b12
      have Q88_zb1 := z_b1
      have Q88_b20 := Lib.hid b20
      have Q88_f_b20 := Lib.hid f_b20
      have Q88_b21 := Lib.hid b21
      have Q88_f_b21 := Lib.hid f_b21
      have Q88_b22 := Lib.hid b22
      have Q88_f_b22 := Lib.hid f_b22
      have Q88_zb2 := z_b2
      have Q88_e50 := Lib.hid e50
      have Q88_ze5 := z_e5
      have Q88_e750 := Lib.hid e750
      have Q88_ze75 := z_e75
      have Q88_i83 := Lib.hid i83
      have Q88_i85 := Lib.hid i85
      have BL89 : Ext w5 w5 := Ext.refl _
      refine hK.out _ _ ⟨(show Ext w5 _ from qXt).cell b10, (show Ext w5 _ from qXt).cell b11, (show Ext w5 _ from qXt).cell b12, (show Ext w5 _ from qXt).cell b20, (show Ext w5 _ from qXt).cell b21, (show Ext w5 _ from qXt).cell b22, (show Ext w5 _ from qXt).cell e50, (show Ext w5 _ from qXt).cell e750⟩ (fun hHeld => ?_)
      clear hK K
      try simp only [Act.put, qA1, qA2, qA3, qA4, qA5, qA6]
      refine wpAnyH_ready (rs := [20]) qKr (by simp) ?_
      refine AllReadyH.cons rfl (fun K hK => ?_) AllReadyH.nil
      try simp only [Act.put, qA1, qA2, qA3, qA4, qA5, qA6]
      go_simp
      have Lw6 : Ext w5 (w5.alloc (.cells #[.int .i64 (b1 + (i * v76)), .slice afv82 ((delL s1 D).length) cfv82, .slice afv84 ((delL t1 D).length) cfv84] 25)) := qXt
      have Xw6 : Ext w (w5.alloc (.cells #[.int .i64 (b1 + (i * v76)), .slice afv82 ((delL s1 D).length) cfv82, .slice afv84 ((delL t1 D).length) cfv84] 25)) := Xw5.trans Lw6
      replace b10 := Lw6.cell b10
      replace b11 := Lw6.cell b11
      replace b12 := Lw6.cell b12
      replace b20 := Lw6.cell b20
      replace b21 := Lw6.cell b21
      replace b22 := Lw6.cell b22
      replace f_b20 := Lw6.frz z_b2 f_b20
      replace f_b21 := Lw6.frz z_b2 f_b21
      replace f_b22 := Lw6.frz z_b2 f_b22
      replace e50 := Lw6.cell e50
      replace e750 := Lw6.cell e750
      have b900 : (w5.alloc (.cells #[.int .i64 (b1 + (i * v76)), .slice afv82 ((delL s1 D).length) cfv82, .slice afv84 ((delL t1 D).length) cfv84] 25)).cell? ⟨w5.heap.size, 0, none⟩ = some (.int .i64 (b1 + (i * v76))) := qCl
      have b901 : (w5.alloc (.cells #[.int .i64 (b1 + (i * v76)), .slice afv82 ((delL s1 D).length) cfv82, .slice afv84 ((delL t1 D).length) cfv84] 25)).cell? ⟨w5.heap.size, 1, none⟩ = some (.slice afv82 ((delL s1 D).length) cfv82) := qCl
      have b902 : (w5.alloc (.cells #[.int .i64 (b1 + (i * v76)), .slice afv82 ((delL s1 D).length) cfv82, .slice afv84 ((delL t1 D).length) cfv84] 25)).cell? ⟨w5.heap.size, 2, none⟩ = some (.slice afv84 ((delL t1 D).length) cfv84) := qCl
      have f_b900 : (w5.alloc (.cells #[.int .i64 (b1 + (i * v76)), .slice afv82 ((delL s1 D).length) cfv82, .slice afv84 ((delL t1 D).length) cfv84] 25)).frozen? ⟨w5.heap.size, 0, none⟩ = false := qFz
      have f_b901 : (w5.alloc (.cells #[.int .i64 (b1 + (i * v76)), .slice afv82 ((delL s1 D).length) cfv82, .slice afv84 ((delL t1 D).length) cfv84] 25)).frozen? ⟨w5.heap.size, 1, none⟩ = false := qFz
      have f_b902 : (w5.alloc (.cells #[.int .i64 (b1 + (i * v76)), .slice afv82 ((delL s1 D).length) cfv82, .slice afv84 ((delL t1 D).length) cfv84] 25)).frozen? ⟨w5.heap.size, 2, none⟩ = false := qFz
      have z_b1 : w.heap.size < (w5.alloc (.cells #[.int .i64 (b1 + (i * v76)), .slice afv82 ((delL s1 D).length) cfv82, .slice afv84 ((delL t1 D).length) cfv84] 25)).heap.size := qB b10
      have z_b2 : w.heap.size + 1 < (w5.alloc (.cells #[.int .i64 (b1 + (i * v76)), .slice afv82 ((delL s1 D).length) cfv82, .slice afv84 ((delL t1 D).length) cfv84] 25)).heap.size := qB b20
      have z_e5 : bl3 < (w5.alloc (.cells #[.int .i64 (b1 + (i * v76)), .slice afv82 ((delL s1 D).length) cfv82, .slice afv84 ((delL t1 D).length) cfv84] 25)).heap.size := qB e50
      have z_e75 : bl73 < (w5.alloc (.cells #[.int .i64 (b1 + (i * v76)), .slice afv82 ((delL s1 D).length) cfv82, .slice afv84 ((delL t1 D).length) cfv84] 25)).heap.size := qB e750
      have z_b90 : w5.heap.size < (w5.alloc (.cells #[.int .i64 (b1 + (i * v76)), .slice afv82 ((delL s1 D).length) cfv82, .slice afv84 ((delL t1 D).length) cfv84] 25)).heap.size := qB b900
      replace i83 := i83.ext Lw6
      replace i85 := i85.ext Lw6
      have s_w6 : w.heap.size ≤ (w5.alloc (.cells #[.int .i64 (b1 + (i * v76)), .slice afv82 ((delL s1 D).length) cfv82, .slice afv84 ((delL t1 D).length) cfv84] 25)).heap.size := Xw6.size
      have BD5_w6 : Ext w3 (w5.alloc (.cells #[.int .i64 (b1 + (i * v76)), .slice afv82 ((delL s1 D).length) cfv82, .slice afv84 ((delL t1 D).length) cfv84] 25)) := BD5_w5.trans Lw6
      have BL87_w6 : Ext w5 (w5.alloc (.cells #[.int .i64 (b1 + (i * v76)), .slice afv82 ((delL s1 D).length) cfv82, .slice afv84 ((delL t1 D).length) cfv84] 25)) := BL87.trans Lw6
      have BL89_w6 : Ext w5 (w5.alloc (.cells #[.int .i64 (b1 + (i * v76)), .slice afv82 ((delL s1 D).length) cfv82, .slice afv84 ((delL t1 D).length) cfv84] 25)) := BL89.trans Lw6
      generalize w5.alloc (.cells #[.int .i64 (b1 + (i * v76)), .slice afv82 ((delL s1 D).length) cfv82, .slice afv84 ((delL t1 D).length) cfv84] 25) = w6 at *
      refine hK.out _ _ ⟨b10, b11, b12, b20, b21, b22, e50, e750⟩ (fun hHeld => ?_)
      clear hK K
      try simp only [Act.put, qA1, qA2, qA3, qA4, qA5, qA6]
      refine wpAnyH_done qKr ?_ _
      clear hHeld
      go_step
      go_step
      go_meet
      case rel => exact ⟨_, _, _, _, _, rfl, BD5_w6, (by omega), b900, b901, b902, f_b900, f_b901, f_b902, i83.lower (by omega), i85.lower (by omega)⟩
     ·
      try simp only [Act.put, qA1, qA2, qA3, qA4, qA5, qA6]
      go_simp
      have Q91_b10 := Lib.hid b10
      have Q91_b11 := Lib.hid b11
      have Q91_b12 := Lib.hid b12
      have Q91_zb1 := z_b1
      have Q91_b20 := Lib.hid b20
      have Q91_f_b20 := Lib.hid f_b20
      have Q91_b21 := Lib.hid b21
      have Q91_f_b21 := Lib.hid f_b21
      have Q91_b22 := Lib.hid b22
      have Q91_f_b22 := Lib.hid f_b22
      have Q91_zb2 := z_b2
      have Q91_e50 := Lib.hid e50
      have Q91_ze5 := z_e5
      have Q91_e750 := Lib.hid e750
      have Q91_ze75 := z_e75
      have Q91_i83 := Lib.hid i83
      have BL92 : Ext w4 w4 := Ext.refl _
      have Q93_b10 := Lib.hid b10
      have Q93_b11 := Lib.hid b11
      have Q93_b12 := Lib.hid b12
      have Q93_zb1 := z_b1
      have Q93_b20 := Lib.hid b20
      have Q93_f_b20 := Lib.hid f_b20
      have Q93_b21 := Lib.hid b21
      have Q93_f_b21 := Lib.hid f_b21
      have Q93_b22 := Lib.hid b22
      have Q93_f_b22 := Lib.hid f_b22
      have Q93_zb2 := z_b2
      have Q93_e50 := Lib.hid e50
      have Q93_ze5 := z_e5
      have Q93_e750 := Lib.hid e750
      have Q93_ze75 := z_e75
      have Q93_i83 := Lib.hid i83
      have BL94 : Ext w4 w4 := Ext.refl _
      refine hK.out _ _ ⟨(show Ext w4 _ from qXt).cell b10, (show Ext w4 _ from qXt).cell b11, (show Ext w4 _ from qXt).cell b12, (show Ext w4 _ from qXt).cell b20, (show Ext w4 _ from qXt).cell b21, (show Ext w4 _ from qXt).cell b22, (show Ext w4 _ from qXt).cell e50, (show Ext w4 _ from qXt).cell e750⟩ (fun hHeld => ?_)
      clear hK K
      try simp only [Act.put, qA1, qA2, qA3, qA4, qA5, qA6]
      refine wpAnyH_ready (rs := [17]) qKr (by simp) ?_
      refine AllReadyH.cons rfl (fun K hK => ?_) AllReadyH.nil
      try simp only [Act.put, qA1, qA2, qA3, qA4, qA5, qA6]
      go_simp
      refine (swithout_c t1 (.slice (some ⟨bl73, ol74, none⟩) t1.length c1) D _ _ (k1.ext (Xw4.trans qXt)) hDT (by omega)).mono ?_
      rintro e w5 ⟨fv96, rfl, i97, -, xw5⟩
      have Lw5 : Ext w4 w5 := Ext.trans qXt xw5
      have Xw5 : Ext w w5 := Xw4.trans Lw5
      replace b10 := Lw5.cell b10
      replace b11 := Lw5.cell b11
      replace b12 := Lw5.cell b12
      replace b20 := Lw5.cell b20
      replace b21 := Lw5.cell b21
      replace b22 := Lw5.cell b22
      replace f_b20 := Lw5.frz z_b2 f_b20
      replace f_b21 := Lw5.frz z_b2 f_b21
      replace f_b22 := Lw5.frz z_b2 f_b22
      replace e50 := Lw5.cell e50
      replace e750 := Lw5.cell e750
      have b950 : w5.cell? ⟨w4.heap.size, 0, none⟩ = some (.int .i64 0) := xw5.cell qCl
      have b951 : w5.cell? ⟨w4.heap.size, 1, none⟩ = some (.slice none 0 0) := xw5.cell qCl
      have b952 : w5.cell? ⟨w4.heap.size, 2, none⟩ = some (.slice none 0 0) := xw5.cell qCl
      have f_b950 : w5.frozen? ⟨w4.heap.size, 0, none⟩ = false := xw5.frz (by simp <;> omega) qFz
      have f_b951 : w5.frozen? ⟨w4.heap.size, 1, none⟩ = false := xw5.frz (by simp <;> omega) qFz
      have f_b952 : w5.frozen? ⟨w4.heap.size, 2, none⟩ = false := xw5.frz (by simp <;> omega) qFz
      have z_b1 : w.heap.size < w5.heap.size := qB b10
      have z_b2 : w.heap.size + 1 < w5.heap.size := qB b20
      have z_e5 : bl3 < w5.heap.size := qB e50
      have z_e75 : bl73 < w5.heap.size := qB e750
      have z_b95 : w4.heap.size < w5.heap.size := qB b950
      replace i83 := i83.ext Lw5
      have s_w5 : w.heap.size ≤ w5.heap.size := Xw5.size
      have BD5_w5 : Ext w3 w5 := BD5_w4.trans Lw5
      have BL92_w5 : Ext w4 w5 := BL92.trans Lw5
      have BL94_w5 : Ext w4 w5 := BL94.trans Lw5
      clear xw5
      try simp only [World.size_alloc, World.size_drew] at i97
      obtain ⟨afv96, cfv96, rfl⟩ := i97.form
      have zD_w5 := (BD5_w5).size
      refine hK.out _ _ ⟨b10, b11, b12, b20, b21, b22, e50, e750⟩ (fun hHeld => ?_)
      clear hK K
      try simp only [Act.put, qA1, qA2, qA3, qA4, qA5, qA6]
      refine wpAnyH_take (i := 18) (v := ?_) rfl qKr qKr qKr (fun _ _ _ h => h) (Or.inl ⟨by rfl, ?_⟩) (by assumption) ?_
      rotate_left
      ·
       (intro w hSw; (try dsimp only at hSw); go_simp; try with_reducible rfl)
      try simp only [Act.put, qA1, qA2, qA3, qA4, qA5, qA6]
      refine wpAnyH_ready (rs := [20]) qKr (by simp) ?_
      refine AllReadyH.cons rfl (fun K hK => ?_) AllReadyH.nil
      try simp only [Act.put, qA1, qA2, qA3, qA4, qA5, qA6]
      go_simp
      have Kw6 : Chg (w4.heap.size) (w4.heap.size + 1) w5 (((w5.setCell ⟨w4.heap.size, 0, none⟩ (.int .i64 (b1 + (i * v76)))).setCell ⟨w4.heap.size, 1, none⟩ (.slice afv82 ((delL s1 D).length) cfv82)).setCell ⟨w4.heap.size, 2, none⟩ (.slice afv96 ((delL t1 D).length) cfv96)) := (Chg.setCell (p := ⟨w4.heap.size, 2, none⟩) (Chg.setCell (p := ⟨w4.heap.size, 1, none⟩) (Chg.setCell (p := ⟨w4.heap.size, 0, none⟩) (Chg.refl (w4.heap.size) (w4.heap.size + 1) _) (Nat.le_refl _) (Nat.lt_succ_self _) (.int .i64 (b1 + (i * v76)))) (Nat.le_refl _) (Nat.lt_succ_self _) (.slice afv82 ((delL s1 D).length) cfv82)) (Nat.le_refl _) (Nat.lt_succ_self _) (.slice afv96 ((delL t1 D).length) cfv96))
      have Xw6 : Ext w (((w5.setCell ⟨w4.heap.size, 0, none⟩ (.int .i64 (b1 + (i * v76)))).setCell ⟨w4.heap.size, 1, none⟩ (.slice afv82 ((delL s1 D).length) cfv82)).setCell ⟨w4.heap.size, 2, none⟩ (.slice afv96 ((delL t1 D).length) cfv96)) := (Ext.setCell (p := ⟨w4.heap.size, 2, none⟩) (Ext.setCell (p := ⟨w4.heap.size, 1, none⟩) (Ext.setCell (p := ⟨w4.heap.size, 0, none⟩) Xw5 qSo (.int .i64 (b1 + (i * v76)))) qSo (.slice afv82 ((delL s1 D).length) cfv82)) qSo (.slice afv96 ((delL t1 D).length) cfv96))
      have BD5_w6 : Ext w3 (((w5.setCell ⟨w4.heap.size, 0, none⟩ (.int .i64 (b1 + (i * v76)))).setCell ⟨w4.heap.size, 1, none⟩ (.slice afv82 ((delL s1 D).length) cfv82)).setCell ⟨w4.heap.size, 2, none⟩ (.slice afv96 ((delL t1 D).length) cfv96)) := (Ext.setCell (p := ⟨w4.heap.size, 2, none⟩) (Ext.setCell (p := ⟨w4.heap.size, 1, none⟩) (Ext.setCell (p := ⟨w4.heap.size, 0, none⟩) BD5_w5 qSo (.int .i64 (b1 + (i * v76)))) qSo (.slice afv82 ((delL s1 D).length) cfv82)) qSo (.slice afv96 ((delL t1 D).length) cfv96))
      have BL92_w6 : Ext w4 (((w5.setCell ⟨w4.heap.size, 0, none⟩ (.int .i64 (b1 + (i * v76)))).setCell ⟨w4.heap.size, 1, none⟩ (.slice afv82 ((delL s1 D).length) cfv82)).setCell ⟨w4.heap.size, 2, none⟩ (.slice afv96 ((delL t1 D).length) cfv96)) := (Ext.setCell (p := ⟨w4.heap.size, 2, none⟩) (Ext.setCell (p := ⟨w4.heap.size, 1, none⟩) (Ext.setCell (p := ⟨w4.heap.size, 0, none⟩) BL92_w5 qSo (.int .i64 (b1 + (i * v76)))) qSo (.slice afv82 ((delL s1 D).length) cfv82)) qSo (.slice afv96 ((delL t1 D).length) cfv96))
      replace b10 := BL92_w6.cell Q91_b10.out
      replace b11 := BL92_w6.cell Q91_b11.out
      replace b12 := BL92_w6.cell Q91_b12.out
      replace b20 := BL92_w6.cell Q91_b20.out
      replace f_b20 := BL92_w6.frz Q91_zb2 Q91_f_b20.out
      replace b21 := BL92_w6.cell Q91_b21.out
      replace f_b21 := BL92_w6.frz Q91_zb2 Q91_f_b21.out
      replace b22 := BL92_w6.cell Q91_b22.out
      replace f_b22 := BL92_w6.frz Q91_zb2 Q91_f_b22.out
      replace e50 := BL92_w6.cell Q91_e50.out
      replace e750 := BL92_w6.cell Q91_e750.out
      have n_b950 : (((w5.setCell ⟨w4.heap.size, 0, none⟩ (.int .i64 (b1 + (i * v76)))).setCell ⟨w4.heap.size, 1, none⟩ (.slice afv82 ((delL s1 D).length) cfv82)).setCell ⟨w4.heap.size, 2, none⟩ (.slice afv96 ((delL t1 D).length) cfv96)).cell? ⟨w4.heap.size, 0, none⟩ = some (.int .i64 (b1 + (i * v76))) := by go_simp
      have n_f_b950 : (((w5.setCell ⟨w4.heap.size, 0, none⟩ (.int .i64 (b1 + (i * v76)))).setCell ⟨w4.heap.size, 1, none⟩ (.slice afv82 ((delL s1 D).length) cfv82)).setCell ⟨w4.heap.size, 2, none⟩ (.slice afv96 ((delL t1 D).length) cfv96)).frozen? ⟨w4.heap.size, 0, none⟩ = false := by go_simp
      have n_b951 : (((w5.setCell ⟨w4.heap.size, 0, none⟩ (.int .i64 (b1 + (i * v76)))).setCell ⟨w4.heap.size, 1, none⟩ (.slice afv82 ((delL s1 D).length) cfv82)).setCell ⟨w4.heap.size, 2, none⟩ (.slice afv96 ((delL t1 D).length) cfv96)).cell? ⟨w4.heap.size, 1, none⟩ = some (.slice afv82 ((delL s1 D).length) cfv82) := by go_simp
      have n_f_b951 : (((w5.setCell ⟨w4.heap.size, 0, none⟩ (.int .i64 (b1 + (i * v76)))).setCell ⟨w4.heap.size, 1, none⟩ (.slice afv82 ((delL s1 D).length) cfv82)).setCell ⟨w4.heap.size, 2, none⟩ (.slice afv96 ((delL t1 D).length) cfv96)).frozen? ⟨w4.heap.size, 1, none⟩ = false := by go_simp
      have n_b952 : (((w5.setCell ⟨w4.heap.size, 0, none⟩ (.int .i64 (b1 + (i * v76)))).setCell ⟨w4.heap.size, 1, none⟩ (.slice afv82 ((delL s1 D).length) cfv82)).setCell ⟨w4.heap.size, 2, none⟩ (.slice afv96 ((delL t1 D).length) cfv96)).cell? ⟨w4.heap.size, 2, none⟩ = some (.slice afv96 ((delL t1 D).length) cfv96) := by go_simp
      have n_f_b952 : (((w5.setCell ⟨w4.heap.size, 0, none⟩ (.int .i64 (b1 + (i * v76)))).setCell ⟨w4.heap.size, 1, none⟩ (.slice afv82 ((delL s1 D).length) cfv82)).setCell ⟨w4.heap.size, 2, none⟩ (.slice afv96 ((delL t1 D).length) cfv96)).frozen? ⟨w4.heap.size, 2, none⟩ = false := by go_simp
      replace b950 := n_b950
      clear n_b950
      replace f_b950 := n_f_b950
      clear n_f_b950
      replace b951 := n_b951
      clear n_b951
      replace f_b951 := n_f_b951
      clear n_f_b951
      replace b952 := n_b952
      clear n_b952
      replace f_b952 := n_f_b952
      clear n_f_b952
      replace i83 := (Q91_i83.out).ext BL92_w6
      replace i97 := i97.chg Kw6 (by omega)
      clear Kw6
      have z_b1 : w.heap.size < (((w5.setCell ⟨w4.heap.size, 0, none⟩ (.int .i64 (b1 + (i * v76)))).setCell ⟨w4.heap.size, 1, none⟩ (.slice afv82 ((delL s1 D).length) cfv82)).setCell ⟨w4.heap.size, 2, none⟩ (.slice afv96 ((delL t1 D).length) cfv96)).heap.size := qB b10
      have z_b2 : w.heap.size + 1 < (((w5.setCell ⟨w4.heap.size, 0, none⟩ (.int .i64 (b1 + (i * v76)))).setCell ⟨w4.heap.size, 1, none⟩ (.slice afv82 ((delL s1 D).length) cfv82)).setCell ⟨w4.heap.size, 2, none⟩ (.slice afv96 ((delL t1 D).length) cfv96)).heap.size := qB b20
      have z_e5 : bl3 < (((w5.setCell ⟨w4.heap.size, 0, none⟩ (.int .i64 (b1 + (i * v76)))).setCell ⟨w4.heap.size, 1, none⟩ (.slice afv82 ((delL s1 D).length) cfv82)).setCell ⟨w4.heap.size, 2, none⟩ (.slice afv96 ((delL t1 D).length) cfv96)).heap.size := qB e50
      have z_e75 : bl73 < (((w5.setCell ⟨w4.heap.size, 0, none⟩ (.int .i64 (b1 + (i * v76)))).setCell ⟨w4.heap.size, 1, none⟩ (.slice afv82 ((delL s1 D).length) cfv82)).setCell ⟨w4.heap.size, 2, none⟩ (.slice afv96 ((delL t1 D).length) cfv96)).heap.size := qB e750
      have z_b95 : w4.heap.size < (((w5.setCell ⟨w4.heap.size, 0, none⟩ (.int .i64 (b1 + (i * v76)))).setCell ⟨w4.heap.size, 1, none⟩ (.slice afv82 ((delL s1 D).length) cfv82)).setCell ⟨w4.heap.size, 2, none⟩ (.slice afv96 ((delL t1 D).length) cfv96)).heap.size := qB b950
      have s_w6 : w.heap.size ≤ (((w5.setCell ⟨w4.heap.size, 0, none⟩ (.int .i64 (b1 + (i * v76)))).setCell ⟨w4.heap.size, 1, none⟩ (.slice afv82 ((delL s1 D).length) cfv82)).setCell ⟨w4.heap.size, 2, none⟩ (.slice afv96 ((delL t1 D).length) cfv96)).heap.size := Xw6.size
      generalize (((w5.setCell ⟨w4.heap.size, 0, none⟩ (.int .i64 (b1 + (i * v76)))).setCell ⟨w4.heap.size, 1, none⟩ (.slice afv82 ((delL s1 D).length) cfv82)).setCell ⟨w4.heap.size, 2, none⟩ (.slice afv96 ((delL t1 D).length) cfv96)) = w6 at *
      refine hK.out _ _ ⟨b10, b11, b12, b20, b21, b22, e50, e750⟩ (fun hHeld => ?_)
      clear hK K
      try simp only [Act.put, qA1, qA2, qA3, qA4, qA5, qA6]
      refine wpAnyH_done qKr ?_ _
      clear hHeld
      go_step
      go_step
      go_meet
      case rel => exact ⟨_, _, _, _, _, rfl, BD5_w6, (by omega), b950, b951, b952, f_b950, f_b951, f_b952, i83.lower (by omega), i97.lower (by omega)⟩
    ·
     try simp only [Act.put, qA1, qA2, qA3, qA4, qA5, qA6]
     go_simp
     have Q98_b10 := Lib.hid b10
     have Q98_b11 := Lib.hid b11
     have Q98_b12 := Lib.hid b12
     have Q98_zb1 := z_b1
     have Q98_b20 := Lib.hid b20
     have Q98_f_b20 := Lib.hid f_b20
     have Q98_b21 := Lib.hid b21
     have Q98_f_b21 := Lib.hid f_b21
     have Q98_b22 := Lib.hid b22
     have Q98_f_b22 := Lib.hid f_b22
     have Q98_zb2 := z_b2
     have Q98_e50 := Lib.hid e50
     have Q98_ze5 := z_e5
     have Q98_e750 := Lib.hid e750
     have Q98_ze75 := z_e75
     have BL99 : Ext w3 w3 := Ext.refl _
     refine hK.out _ _ ⟨(show Ext w3 _ from qXt).cell b10, (show Ext w3 _ from qXt).cell b11, (show Ext w3 _ from qXt).cell b12, (show Ext w3 _ from qXt).cell b20, (show Ext w3 _ from qXt).cell b21, (show Ext w3 _ from qXt).cell b22, (show Ext w3 _ from qXt).cell e50, (show Ext w3 _ from qXt).cell e750⟩ (fun hHeld => ?_)
     clear hK K
     try simp only [Act.put, qA1, qA2, qA3, qA4, qA5, qA6]
     refine wpAnyH_ready (rs := [13]) qKr (by simp) ?_
     refine AllReadyH.cons rfl (fun K hK => ?_) AllReadyH.nil
     try simp only [Act.put, qA1, qA2, qA3, qA4, qA5, qA6]
     go_simp
     refine (swithout_c s1 (.slice (some ⟨bl3, ol4, none⟩) s1.length c0) D _ _ (h1.ext (Xw3.trans qXt)) hDN (by omega)).mono ?_
     rintro e w4 ⟨fv101, rfl, i102, -, xw4⟩
     have Lw4 : Ext w3 w4 := Ext.trans qXt xw4
     have Xw4 : Ext w w4 := Xw3.trans Lw4
     replace b10 := Lw4.cell b10
     replace b11 := Lw4.cell b11
     replace b12 := Lw4.cell b12
     replace b20 := Lw4.cell b20
     replace b21 := Lw4.cell b21
     replace b22 := Lw4.cell b22
     replace f_b20 := Lw4.frz z_b2 f_b20
     replace f_b21 := Lw4.frz z_b2 f_b21
     replace f_b22 := Lw4.frz z_b2 f_b22
     replace e50 := Lw4.cell e50
     replace e750 := Lw4.cell e750
     have b1000 : w4.cell? ⟨w3.heap.size, 0, none⟩ = some (.int .i64 0) := xw4.cell qCl
     have b1001 : w4.cell? ⟨w3.heap.size, 1, none⟩ = some (.slice none 0 0) := xw4.cell qCl
     have b1002 : w4.cell? ⟨w3.heap.size, 2, none⟩ = some (.slice none 0 0) := xw4.cell qCl
     have f_b1000 : w4.frozen? ⟨w3.heap.size, 0, none⟩ = false := xw4.frz (by simp <;> omega) qFz
     have f_b1001 : w4.frozen? ⟨w3.heap.size, 1, none⟩ = false := xw4.frz (by simp <;> omega) qFz
     have f_b1002 : w4.frozen? ⟨w3.heap.size, 2, none⟩ = false := xw4.frz (by simp <;> omega) qFz
     have z_b1 : w.heap.size < w4.heap.size := qB b10
     have z_b2 : w.heap.size + 1 < w4.heap.size := qB b20
     have z_e5 : bl3 < w4.heap.size := qB e50
     have z_e75 : bl73 < w4.heap.size := qB e750
     have z_b100 : w3.heap.size < w4.heap.size := qB b1000
     have s_w4 : w.heap.size ≤ w4.heap.size := Xw4.size
     have BD5_w4 : Ext w3 w4 := BD5.trans Lw4
     have BL99_w4 : Ext w3 w4 := BL99.trans Lw4
     clear xw4
     try simp only [World.size_alloc, World.size_drew] at i102
     obtain ⟨afv101, cfv101, rfl⟩ := i102.form
     have zD_w4 := (BD5_w4).size
     refine hK.out _ _ ⟨b10, b11, b12, b20, b21, b22, e50, e750⟩ (fun hHeld => ?_)
     clear hK K
     try simp only [Act.put, qA1, qA2, qA3, qA4, qA5, qA6]
     refine wpAnyH_ready (rs := [17]) qKr (by simp) ?_
     refine AllReadyH.cons rfl (fun K hK => ?_) AllReadyH.nil
     try simp only [Act.put, qA1, qA2, qA3, qA4, qA5, qA6]
     go_simp
     refine (swithout_c t1 (.slice (some ⟨bl73, ol74, none⟩) t1.length c1) D _ _ (k1.ext (Xw4.trans qXt)) hDT (by omega)).mono ?_
     rintro e w5 ⟨fv103, rfl, i104, -, xw5⟩
     have Lw5 : Ext w4 w5 := Ext.trans qXt xw5
     have Xw5 : Ext w w5 := Xw4.trans Lw5
     replace b10 := Lw5.cell b10
     replace b11 := Lw5.cell b11
     replace b12 := Lw5.cell b12
     replace b20 := Lw5.cell b20
     replace b21 := Lw5.cell b21
     replace b22 := Lw5.cell b22
     replace f_b20 := Lw5.frz z_b2 f_b20
     replace f_b21 := Lw5.frz z_b2 f_b21
     replace f_b22 := Lw5.frz z_b2 f_b22
     replace e50 := Lw5.cell e50
     replace e750 := Lw5.cell e750
     replace b1000 := Lw5.cell b1000
     replace b1001 := Lw5.cell b1001
     replace b1002 := Lw5.cell b1002
     replace f_b1000 := Lw5.frz z_b100 f_b1000
     replace f_b1001 := Lw5.frz z_b100 f_b1001
     replace f_b1002 := Lw5.frz z_b100 f_b1002
     have z_b1 : w.heap.size < w5.heap.size := qB b10
     have z_b2 : w.heap.size + 1 < w5.heap.size := qB b20
     have z_e5 : bl3 < w5.heap.size := qB e50
     have z_e75 : bl73 < w5.heap.size := qB e750
     have z_b100 : w3.heap.size < w5.heap.size := qB b1000
     replace i102 := i102.ext Lw5
     have s_w5 : w.heap.size ≤ w5.heap.size := Xw5.size
     have BD5_w5 : Ext w3 w5 := BD5_w4.trans Lw5
     have BL99_w5 : Ext w3 w5 := BL99_w4.trans Lw5
     clear xw5
     try simp only [World.size_alloc, World.size_drew] at i104
     obtain ⟨afv103, cfv103, rfl⟩ := i104.form
     have zD_w5 := (BD5_w5).size
     refine hK.out _ _ ⟨b10, b11, b12, b20, b21, b22, e50, e750⟩ (fun hHeld => ?_)
     clear hK K
     try simp only [Act.put, qA1, qA2, qA3, qA4, qA5, qA6]
     refine wpAnyH_take (i := 18) (v := ?_) rfl qKr qKr qKr (fun _ _ _ h => h) (Or.inl ⟨by rfl, ?_⟩) (by assumption) ?_
     rotate_left
     ·
      (intro w hSw; (try dsimp only at hSw); go_simp; try with_reducible rfl)
     try simp only [Act.put, qA1, qA2, qA3, qA4, qA5, qA6]
     refine wpAnyH_ready (rs := [20]) qKr (by simp) ?_
     refine AllReadyH.cons rfl (fun K hK => ?_) AllReadyH.nil
     try simp only [Act.put, qA1, qA2, qA3, qA4, qA5, qA6]
     go_simp
     have Kw6 : Chg (w3.heap.size) (w3.heap.size + 1) w5 (((w5.setCell ⟨w3.heap.size, 0, none⟩ (.int .i64 (b1 + (i * v76)))).setCell ⟨w3.heap.size, 1, none⟩ (.slice afv101 ((delL s1 D).length) cfv101)).setCell ⟨w3.heap.size, 2, none⟩ (.slice afv103 ((delL t1 D).length) cfv103)) := (Chg.setCell (p := ⟨w3.heap.size, 2, none⟩) (Chg.setCell (p := ⟨w3.heap.size, 1, none⟩) (Chg.setCell (p := ⟨w3.heap.size, 0, none⟩) (Chg.refl (w3.heap.size) (w3.heap.size + 1) _) (Nat.le_refl _) (Nat.lt_succ_self _) (.int .i64 (b1 + (i * v76)))) (Nat.le_refl _) (Nat.lt_succ_self _) (.slice afv101 ((delL s1 D).length) cfv101)) (Nat.le_refl _) (Nat.lt_succ_self _) (.slice afv103 ((delL t1 D).length) cfv103))
     have Xw6 : Ext w (((w5.setCell ⟨w3.heap.size, 0, none⟩ (.int .i64 (b1 + (i * v76)))).setCell ⟨w3.heap.size, 1, none⟩ (.slice afv101 ((delL s1 D).length) cfv101)).setCell ⟨w3.heap.size, 2, none⟩ (.slice afv103 ((delL t1 D).length) cfv103)) := (Ext.setCell (p := ⟨w3.heap.size, 2, none⟩) (Ext.setCell (p := ⟨w3.heap.size, 1, none⟩) (Ext.setCell (p := ⟨w3.heap.size, 0, none⟩) Xw5 qSo (.int .i64 (b1 + (i * v76)))) qSo (.slice afv101 ((delL s1 D).length) cfv101)) qSo (.slice afv103 ((delL t1 D).length) cfv103))
     have BD5_w6 : Ext w3 (((w5.setCell ⟨w3.heap.size, 0, none⟩ (.int .i64 (b1 + (i * v76)))).setCell ⟨w3.heap.size, 1, none⟩ (.slice afv101 ((delL s1 D).length) cfv101)).setCell ⟨w3.heap.size, 2, none⟩ (.slice afv103 ((delL t1 D).length) cfv103)) := (Ext.setCell (p := ⟨w3.heap.size, 2, none⟩) (Ext.setCell (p := ⟨w3.heap.size, 1, none⟩) (Ext.setCell (p := ⟨w3.heap.size, 0, none⟩) BD5_w5 qSo (.int .i64 (b1 + (i * v76)))) qSo (.slice afv101 ((delL s1 D).length) cfv101)) qSo (.slice afv103 ((delL t1 D).length) cfv103))
     have BL99_w6 : Ext w3 (((w5.setCell ⟨w3.heap.size, 0, none⟩ (.int .i64 (b1 + (i * v76)))).setCell ⟨w3.heap.size, 1, none⟩ (.slice afv101 ((delL s1 D).length) cfv101)).setCell ⟨w3.heap.size, 2, none⟩ (.slice afv103 ((delL t1 D).length) cfv103)) := (Ext.setCell (p := ⟨w3.heap.size, 2, none⟩) (Ext.setCell (p := ⟨w3.heap.size, 1, none⟩) (Ext.setCell (p := ⟨w3.heap.size, 0, none⟩) BL99_w5 qSo (.int .i64 (b1 + (i * v76)))) qSo (.slice afv101 ((delL s1 D).length) cfv101)) qSo (.slice afv103 ((delL t1 D).length) cfv103))
     replace b10 := BL99_w6.cell Q98_b10.out
     replace b11 := BL99_w6.cell Q98_b11.out
     replace b12 := BL99_w6.cell Q98_b12.out
     replace b20 := BL99_w6.cell Q98_b20.out
     replace f_b20 := BL99_w6.frz Q98_zb2 Q98_f_b20.out
     replace b21 := BL99_w6.cell Q98_b21.out
     replace f_b21 := BL99_w6.frz Q98_zb2 Q98_f_b21.out
     replace b22 := BL99_w6.cell Q98_b22.out
     replace f_b22 := BL99_w6.frz Q98_zb2 Q98_f_b22.out
     replace e50 := BL99_w6.cell Q98_e50.out
     replace e750 := BL99_w6.cell Q98_e750.out
     have n_b1000 : (((w5.setCell ⟨w3.heap.size, 0, none⟩ (.int .i64 (b1 + (i * v76)))).setCell ⟨w3.heap.size, 1, none⟩ (.slice afv101 ((delL s1 D).length) cfv101)).setCell ⟨w3.heap.size, 2, none⟩ (.slice afv103 ((delL t1 D).length) cfv103)).cell? ⟨w3.heap.size, 0, none⟩ = some (.int .i64 (b1 + (i * v76))) := by go_simp
     have n_f_b1000 : (((w5.setCell ⟨w3.heap.size, 0, none⟩ (.int .i64 (b1 + (i * v76)))).setCell ⟨w3.heap.size, 1, none⟩ (.slice afv101 ((delL s1 D).length) cfv101)).setCell ⟨w3.heap.size, 2, none⟩ (.slice afv103 ((delL t1 D).length) cfv103)).frozen? ⟨w3.heap.size, 0, none⟩ = false := by go_simp
     have n_b1001 : (((w5.setCell ⟨w3.heap.size, 0, none⟩ (.int .i64 (b1 + (i * v76)))).setCell ⟨w3.heap.size, 1, none⟩ (.slice afv101 ((delL s1 D).length) cfv101)).setCell ⟨w3.heap.size, 2, none⟩ (.slice afv103 ((delL t1 D).length) cfv103)).cell? ⟨w3.heap.size, 1, none⟩ = some (.slice afv101 ((delL s1 D).length) cfv101) := by go_simp
     have n_f_b1001 : (((w5.setCell ⟨w3.heap.size, 0, none⟩ (.int .i64 (b1 + (i * v76)))).setCell ⟨w3.heap.size, 1, none⟩ (.slice afv101 ((delL s1 D).length) cfv101)).setCell ⟨w3.heap.size, 2, none⟩ (.slice afv103 ((delL t1 D).length) cfv103)).frozen? ⟨w3.heap.size, 1, none⟩ = false := by go_simp
     have n_b1002 : (((w5.setCell ⟨w3.heap.size, 0, none⟩ (.int .i64 (b1 + (i * v76)))).setCell ⟨w3.heap.size, 1, none⟩ (.slice afv101 ((delL s1 D).length) cfv101)).setCell ⟨w3.heap.size, 2, none⟩ (.slice afv103 ((delL t1 D).length) cfv103)).cell? ⟨w3.heap.size, 2, none⟩ = some (.slice afv103 ((delL t1 D).length) cfv103) := by go_simp
     have n_f_b1002 : (((w5.setCell ⟨w3.heap.size, 0, none⟩ (.int .i64 (b1 + (i * v76)))).setCell ⟨w3.heap.size, 1, none⟩ (.slice afv101 ((delL s1 D).length) cfv101)).setCell ⟨w3.heap.size, 2, none⟩ (.slice afv103 ((delL t1 D).length) cfv103)).frozen? ⟨w3.heap.size, 2, none⟩ = false := by go_simp
     replace b1000 := n_b1000
     clear n_b1000
     replace f_b1000 := n_f_b1000
     clear n_f_b1000
     replace b1001 := n_b1001
     clear n_b1001
     replace f_b1001 := n_f_b1001
     clear n_f_b1001
     replace b1002 := n_b1002
     clear n_b1002
     replace f_b1002 := n_f_b1002
     clear n_f_b1002
     replace i102 := i102.chg Kw6 (by omega)
     replace i104 := i104.chg Kw6 (by omega)
     clear Kw6
     have z_b1 : w.heap.size < (((w5.setCell ⟨w3.heap.size, 0, none⟩ (.int .i64 (b1 + (i * v76)))).setCell ⟨w3.heap.size, 1, none⟩ (.slice afv101 ((delL s1 D).length) cfv101)).setCell ⟨w3.heap.size, 2, none⟩ (.slice afv103 ((delL t1 D).length) cfv103)).heap.size := qB b10
     have z_b2 : w.heap.size + 1 < (((w5.setCell ⟨w3.heap.size, 0, none⟩ (.int .i64 (b1 + (i * v76)))).setCell ⟨w3.heap.size, 1, none⟩ (.slice afv101 ((delL s1 D).length) cfv101)).setCell ⟨w3.heap.size, 2, none⟩ (.slice afv103 ((delL t1 D).length) cfv103)).heap.size := qB b20
     have z_e5 : bl3 < (((w5.setCell ⟨w3.heap.size, 0, none⟩ (.int .i64 (b1 + (i * v76)))).setCell ⟨w3.heap.size, 1, none⟩ (.slice afv101 ((delL s1 D).length) cfv101)).setCell ⟨w3.heap.size, 2, none⟩ (.slice afv103 ((delL t1 D).length) cfv103)).heap.size := qB e50
     have z_e75 : bl73 < (((w5.setCell ⟨w3.heap.size, 0, none⟩ (.int .i64 (b1 + (i * v76)))).setCell ⟨w3.heap.size, 1, none⟩ (.slice afv101 ((delL s1 D).length) cfv101)).setCell ⟨w3.heap.size, 2, none⟩ (.slice afv103 ((delL t1 D).length) cfv103)).heap.size := qB e750
     have z_b100 : w3.heap.size < (((w5.setCell ⟨w3.heap.size, 0, none⟩ (.int .i64 (b1 + (i * v76)))).setCell ⟨w3.heap.size, 1, none⟩ (.slice afv101 ((delL s1 D).length) cfv101)).setCell ⟨w3.heap.size, 2, none⟩ (.slice afv103 ((delL t1 D).length) cfv103)).heap.size := qB b1000
     have s_w6 : w.heap.size ≤ (((w5.setCell ⟨w3.heap.size, 0, none⟩ (.int .i64 (b1 + (i * v76)))).setCell ⟨w3.heap.size, 1, none⟩ (.slice afv101 ((delL s1 D).length) cfv101)).setCell ⟨w3.heap.size, 2, none⟩ (.slice afv103 ((delL t1 D).length) cfv103)).heap.size := Xw6.size
     generalize (((w5.setCell ⟨w3.heap.size, 0, none⟩ (.int .i64 (b1 + (i * v76)))).setCell ⟨w3.heap.size, 1, none⟩ (.slice afv101 ((delL s1 D).length) cfv101)).setCell ⟨w3.heap.size, 2, none⟩ (.slice afv103 ((delL t1 D).length) cfv103)) = w6 at *
     refine hK.out _ _ ⟨b10, b11, b12, b20, b21, b22, e50, e750⟩ (fun hHeld => ?_)
     clear hK K
     try simp only [Act.put, qA1, qA2, qA3, qA4, qA5, qA6]
     refine wpAnyH_done qKr ?_ _
     clear hHeld
     go_step
     go_step
     go_meet
     case rel => exact ⟨_, _, _, _, _, rfl, BD5_w6, (by omega), b1000, b1001, b1002, f_b1000, f_b1001, f_b1002, i102.lower (by omega), i104.lower (by omega)⟩
   case rest =>
    generalize wc = wc106 at hcut ⊢
    obtain ⟨g107, af111, cf112, af113, cf114, rfl, xx108, hg_b105, b1050, b1051, b1052, f_b1050, f_b1051, f_b1052, i109, i110⟩ := hcut
    have Lwc106 : Ext w3 wc106 := Ext.trans qXt xx108
    have Xwc106 : Ext w wc106 := Xw3.trans Lwc106
    replace b10 := Lwc106.cell b10
    replace b11 := Lwc106.cell b11
    replace b12 := Lwc106.cell b12
    replace b20 := Lwc106.cell b20
    replace b21 := Lwc106.cell b21
    replace b22 := Lwc106.cell b22
    replace f_b20 := Lwc106.frz z_b2 f_b20
    replace f_b21 := Lwc106.frz z_b2 f_b21
    replace f_b22 := Lwc106.frz z_b2 f_b22
    replace e50 := Lwc106.cell e50
    replace e750 := Lwc106.cell e750
    have z_b1 : w.heap.size < wc106.heap.size := qB b10
    have z_b2 : w.heap.size + 1 < wc106.heap.size := qB b20
    have z_e5 : bl3 < wc106.heap.size := qB e50
    have z_e75 : bl73 < wc106.heap.size := qB e750
    have s_wc106 : w.heap.size ≤ wc106.heap.size := Xwc106.size
    clear xx108
    have z_b105 : g107 < wc106.heap.size := qB b1050
    go_wp2_with fail
    by_cases hcl115 : countL (delL s1 D) = 0
    ·
     refine (tidy_0 (b1 + (i * v76)) _ _ (delL s1 D) _ _ (i109.ext qXt) hcl115).mono ?_
     rintro e w4 ⟨svO116, rfl, O116, xw4⟩
     have Lw4 : Ext wc106 w4 := Ext.trans qXt xw4
     have Xw4 : Ext w w4 := Xwc106.trans Lw4
     replace b10 := Lw4.cell b10
     replace b11 := Lw4.cell b11
     replace b12 := Lw4.cell b12
     replace b20 := Lw4.cell b20
     replace b21 := Lw4.cell b21
     replace b22 := Lw4.cell b22
     replace f_b20 := Lw4.frz z_b2 f_b20
     replace f_b21 := Lw4.frz z_b2 f_b21
     replace f_b22 := Lw4.frz z_b2 f_b22
     replace e50 := Lw4.cell e50
     replace e750 := Lw4.cell e750
     replace b1050 := Lw4.cell b1050
     replace b1051 := Lw4.cell b1051
     replace b1052 := Lw4.cell b1052
     replace f_b1050 := Lw4.frz z_b105 f_b1050
     replace f_b1051 := Lw4.frz z_b105 f_b1051
     replace f_b1052 := Lw4.frz z_b105 f_b1052
     have z_b1 : w.heap.size < w4.heap.size := qB b10
     have z_b2 : w.heap.size + 1 < w4.heap.size := qB b20
     have z_e5 : bl3 < w4.heap.size := qB e50
     have z_e75 : bl73 < w4.heap.size := qB e750
     have z_b105 : g107 < w4.heap.size := qB b1050
     replace i109 := i109.ext Lw4
     replace i110 := i110.ext Lw4
     have s_w4 : w.heap.size ≤ w4.heap.size := Xw4.size
     clear xw4
     obtain ⟨aa117, cc118, rfl⟩ := (O116.ints (by simp; omega)).form
     rw [List.length_replicate] at O116 ⊢
     obtain ⟨TT, hTT⟩ : ∃ x, List.replicate (delL s1 D).length (0 : Int) = x := ⟨_, rfl⟩
     replace hTT := Lib.hid hTT
     have hmd : Hid (madeV 0 (delL s1 D) (List.replicate (delL s1 D).length 0) = (0, delL s1 D, TT, true)) := Lib.hid (by rw [← hTT.out]; exact made_yes (by have h7 := hpv.out; unfold tidyB tidyT at h7; rw [if_pos hcl115, if_pos hcl115] at h7; exact h7))
     go_wp2_with fail
     refine (pv_eq hmd.out (made_c 0 (.slice af111 ((delL s1 D).length) cf112) (.slice aa117 ((delL s1 D).length) cc118) (delL s1 D) (List.replicate (delL s1 D).length 0) _ _ _ (i109.ext qXt) ((O116.ints (by simp; omega)).ext qXt))).mono ?_
     rintro e w5 ⟨fv119u, fv119v, rfl, i120u, i120v, -, -, -, xw5⟩
     have Lw5 : Ext w4 w5 := Ext.trans qXt xw5
     have Xw5 : Ext w w5 := Xw4.trans Lw5
     replace b10 := Lw5.cell b10
     replace b11 := Lw5.cell b11
     replace b12 := Lw5.cell b12
     replace b20 := Lw5.cell b20
     replace b21 := Lw5.cell b21
     replace b22 := Lw5.cell b22
     replace f_b20 := Lw5.frz z_b2 f_b20
     replace f_b21 := Lw5.frz z_b2 f_b21
     replace f_b22 := Lw5.frz z_b2 f_b22
     replace e50 := Lw5.cell e50
     replace e750 := Lw5.cell e750
     replace b1050 := Lw5.cell b1050
     replace b1051 := Lw5.cell b1051
     replace b1052 := Lw5.cell b1052
     replace f_b1050 := Lw5.frz z_b105 f_b1050
     replace f_b1051 := Lw5.frz z_b105 f_b1051
     replace f_b1052 := Lw5.frz z_b105 f_b1052
     have z_b1 : w.heap.size < w5.heap.size := qB b10
     have z_b2 : w.heap.size + 1 < w5.heap.size := qB b20
     have z_e5 : bl3 < w5.heap.size := qB e50
     have z_e75 : bl73 < w5.heap.size := qB e750
     have z_b105 : g107 < w5.heap.size := qB b1050
     replace i109 := i109.ext Lw5
     replace i110 := i110.ext Lw5
     replace O116 := O116.ext Lw5
     have s_w5 : w.heap.size ≤ w5.heap.size := Xw5.size
     clear xw5
     try simp only [World.size_alloc, World.size_drew] at i120u i120v
     obtain ⟨afv119u, cfv119u, rfl⟩ := i120u.form
     obtain ⟨afv119v, cfv119v, rfl⟩ := i120v.form
     go_wp2_with fail
     have Kw6 : Chg (w.heap.size + 1) (w.heap.size + 1 + 1) w5 (((w5.setCell ⟨w.heap.size + 1, 0, none⟩ (.int .i64 0)).setCell ⟨w.heap.size + 1, 1, none⟩ (.slice afv119u ((delL s1 D).length) cfv119u)).setCell ⟨w.heap.size + 1, 2, none⟩ (.slice afv119v TT.length cfv119v)) := (Chg.setCell (p := ⟨w.heap.size + 1, 2, none⟩) (Chg.setCell (p := ⟨w.heap.size + 1, 1, none⟩) (Chg.setCell (p := ⟨w.heap.size + 1, 0, none⟩) (Chg.refl (w.heap.size + 1) (w.heap.size + 1 + 1) _) (Nat.le_refl _) (Nat.lt_succ_self _) (.int .i64 0)) (Nat.le_refl _) (Nat.lt_succ_self _) (.slice afv119u ((delL s1 D).length) cfv119u)) (Nat.le_refl _) (Nat.lt_succ_self _) (.slice afv119v TT.length cfv119v))
     have Xw6 : Ext w (((w5.setCell ⟨w.heap.size + 1, 0, none⟩ (.int .i64 0)).setCell ⟨w.heap.size + 1, 1, none⟩ (.slice afv119u ((delL s1 D).length) cfv119u)).setCell ⟨w.heap.size + 1, 2, none⟩ (.slice afv119v TT.length cfv119v)) := (Ext.setCell (p := ⟨w.heap.size + 1, 2, none⟩) (Ext.setCell (p := ⟨w.heap.size + 1, 1, none⟩) (Ext.setCell (p := ⟨w.heap.size + 1, 0, none⟩) Xw5 qSo (.int .i64 0)) qSo (.slice afv119u ((delL s1 D).length) cfv119u)) qSo (.slice afv119v TT.length cfv119v))
     replace b10 := Kw6.cell (by omega) b10
     replace b11 := Kw6.cell (by omega) b11
     replace b12 := Kw6.cell (by omega) b12
     have n_b20 : (((w5.setCell ⟨w.heap.size + 1, 0, none⟩ (.int .i64 0)).setCell ⟨w.heap.size + 1, 1, none⟩ (.slice afv119u ((delL s1 D).length) cfv119u)).setCell ⟨w.heap.size + 1, 2, none⟩ (.slice afv119v TT.length cfv119v)).cell? ⟨w.heap.size + 1, 0, none⟩ = some (.int .i64 0) := by go_simp
     have n_f_b20 : (((w5.setCell ⟨w.heap.size + 1, 0, none⟩ (.int .i64 0)).setCell ⟨w.heap.size + 1, 1, none⟩ (.slice afv119u ((delL s1 D).length) cfv119u)).setCell ⟨w.heap.size + 1, 2, none⟩ (.slice afv119v TT.length cfv119v)).frozen? ⟨w.heap.size + 1, 0, none⟩ = false := by go_simp
     have n_b21 : (((w5.setCell ⟨w.heap.size + 1, 0, none⟩ (.int .i64 0)).setCell ⟨w.heap.size + 1, 1, none⟩ (.slice afv119u ((delL s1 D).length) cfv119u)).setCell ⟨w.heap.size + 1, 2, none⟩ (.slice afv119v TT.length cfv119v)).cell? ⟨w.heap.size + 1, 1, none⟩ = some (.slice afv119u ((delL s1 D).length) cfv119u) := by go_simp
     have n_f_b21 : (((w5.setCell ⟨w.heap.size + 1, 0, none⟩ (.int .i64 0)).setCell ⟨w.heap.size + 1, 1, none⟩ (.slice afv119u ((delL s1 D).length) cfv119u)).setCell ⟨w.heap.size + 1, 2, none⟩ (.slice afv119v TT.length cfv119v)).frozen? ⟨w.heap.size + 1, 1, none⟩ = false := by go_simp
     have n_b22 : (((w5.setCell ⟨w.heap.size + 1, 0, none⟩ (.int .i64 0)).setCell ⟨w.heap.size + 1, 1, none⟩ (.slice afv119u ((delL s1 D).length) cfv119u)).setCell ⟨w.heap.size + 1, 2, none⟩ (.slice afv119v TT.length cfv119v)).cell? ⟨w.heap.size + 1, 2, none⟩ = some (.slice afv119v TT.length cfv119v) := by go_simp
     have n_f_b22 : (((w5.setCell ⟨w.heap.size + 1, 0, none⟩ (.int .i64 0)).setCell ⟨w.heap.size + 1, 1, none⟩ (.slice afv119u ((delL s1 D).length) cfv119u)).setCell ⟨w.heap.size + 1, 2, none⟩ (.slice afv119v TT.length cfv119v)).frozen? ⟨w.heap.size + 1, 2, none⟩ = false := by go_simp
     replace b20 := n_b20
     clear n_b20
     replace f_b20 := n_f_b20
     clear n_f_b20
     replace b21 := n_b21
     clear n_b21
     replace f_b21 := n_f_b21
     clear n_f_b21
     replace b22 := n_b22
     clear n_b22
     replace f_b22 := n_f_b22
     clear n_f_b22
     replace e50 := Kw6.cell (by omega) e50
     replace e750 := Kw6.cell (by omega) e750
     replace b1050 := Kw6.cell (by omega) b1050
     replace f_b1050 := Kw6.frzO (by omega) z_b105 f_b1050
     replace b1051 := Kw6.cell (by omega) b1051
     replace f_b1051 := Kw6.frzO (by omega) z_b105 f_b1051
     replace b1052 := Kw6.cell (by omega) b1052
     replace f_b1052 := Kw6.frzO (by omega) z_b105 f_b1052
     replace i109 := i109.chg Kw6 (by omega)
     replace i110 := i110.chg Kw6 (by omega)
     replace O116 := O116.chg Kw6 (by omega)
     replace i120u := i120u.chg Kw6 (by omega)
     replace i120v := i120v.chg Kw6 (by omega)
     clear Kw6
     have z_b1 : w.heap.size < (((w5.setCell ⟨w.heap.size + 1, 0, none⟩ (.int .i64 0)).setCell ⟨w.heap.size + 1, 1, none⟩ (.slice afv119u ((delL s1 D).length) cfv119u)).setCell ⟨w.heap.size + 1, 2, none⟩ (.slice afv119v TT.length cfv119v)).heap.size := qB b10
     have z_b2 : w.heap.size + 1 < (((w5.setCell ⟨w.heap.size + 1, 0, none⟩ (.int .i64 0)).setCell ⟨w.heap.size + 1, 1, none⟩ (.slice afv119u ((delL s1 D).length) cfv119u)).setCell ⟨w.heap.size + 1, 2, none⟩ (.slice afv119v TT.length cfv119v)).heap.size := qB b20
     have z_e5 : bl3 < (((w5.setCell ⟨w.heap.size + 1, 0, none⟩ (.int .i64 0)).setCell ⟨w.heap.size + 1, 1, none⟩ (.slice afv119u ((delL s1 D).length) cfv119u)).setCell ⟨w.heap.size + 1, 2, none⟩ (.slice afv119v TT.length cfv119v)).heap.size := qB e50
     have z_e75 : bl73 < (((w5.setCell ⟨w.heap.size + 1, 0, none⟩ (.int .i64 0)).setCell ⟨w.heap.size + 1, 1, none⟩ (.slice afv119u ((delL s1 D).length) cfv119u)).setCell ⟨w.heap.size + 1, 2, none⟩ (.slice afv119v TT.length cfv119v)).heap.size := qB e750
     have z_b105 : g107 < (((w5.setCell ⟨w.heap.size + 1, 0, none⟩ (.int .i64 0)).setCell ⟨w.heap.size + 1, 1, none⟩ (.slice afv119u ((delL s1 D).length) cfv119u)).setCell ⟨w.heap.size + 1, 2, none⟩ (.slice afv119v TT.length cfv119v)).heap.size := qB b1050
     have s_w6 : w.heap.size ≤ (((w5.setCell ⟨w.heap.size + 1, 0, none⟩ (.int .i64 0)).setCell ⟨w.heap.size + 1, 1, none⟩ (.slice afv119u ((delL s1 D).length) cfv119u)).setCell ⟨w.heap.size + 1, 2, none⟩ (.slice afv119v TT.length cfv119v)).heap.size := Xw6.size
     generalize (((w5.setCell ⟨w.heap.size + 1, 0, none⟩ (.int .i64 0)).setCell ⟨w.heap.size + 1, 1, none⟩ (.slice afv119u ((delL s1 D).length) cfv119u)).setCell ⟨w.heap.size + 1, 2, none⟩ (.slice afv119v TT.length cfv119v)) = w6 at *
     refine bodyPost_ret (v := .tuple #[.agg #[.int .i64 0, .slice afv119u ((delL s1 D).length) cfv119u, .slice afv119v TT.length cfv119v], .bool true]) (by simp only [results, Try.results42]; go_simp) rfl ?_
     rw [pick_yes (j := i) hdim.out hv6.out hv76.out (by split <;> omega) (by omega) (by omega)]
     refine ⟨.slice afv119u ((delL s1 D).length) cfv119u, .slice afv119v TT.length cfv119v, ?_, i120u.lower (by omega), ?_, Xw6⟩
     ·
      rw [show tidyB (b1 + i * v76) (delL s1 D) = 0 by unfold tidyB; rw [if_pos hcl115]]
     ·
      rw [show tidyT (delL s1 D) (delL t1 D) = TT by unfold tidyT; rw [if_pos hcl115]; exact hTT.out]
      exact i120v.lower (by omega)
    ·
     refine (tidy_1 (b1 + (i * v76)) _ _ (delL s1 D) (delL t1 D) _ _ _ (i109.ext qXt) (i110.ext qXt) hcl115).mono ?_
     rintro e w4 ⟨rfl, xw4⟩
     have Lw4 : Ext wc106 w4 := Ext.trans qXt xw4
     have Xw4 : Ext w w4 := Xwc106.trans Lw4
     replace b10 := Lw4.cell b10
     replace b11 := Lw4.cell b11
     replace b12 := Lw4.cell b12
     replace b20 := Lw4.cell b20
     replace b21 := Lw4.cell b21
     replace b22 := Lw4.cell b22
     replace f_b20 := Lw4.frz z_b2 f_b20
     replace f_b21 := Lw4.frz z_b2 f_b21
     replace f_b22 := Lw4.frz z_b2 f_b22
     replace e50 := Lw4.cell e50
     replace e750 := Lw4.cell e750
     replace b1050 := Lw4.cell b1050
     replace b1051 := Lw4.cell b1051
     replace b1052 := Lw4.cell b1052
     replace f_b1050 := Lw4.frz z_b105 f_b1050
     replace f_b1051 := Lw4.frz z_b105 f_b1051
     replace f_b1052 := Lw4.frz z_b105 f_b1052
     have z_b1 : w.heap.size < w4.heap.size := qB b10
     have z_b2 : w.heap.size + 1 < w4.heap.size := qB b20
     have z_e5 : bl3 < w4.heap.size := qB e50
     have z_e75 : bl73 < w4.heap.size := qB e750
     have z_b105 : g107 < w4.heap.size := qB b1050
     replace i109 := i109.ext Lw4
     replace i110 := i110.ext Lw4
     have s_w4 : w.heap.size ≤ w4.heap.size := Xw4.size
     clear xw4
     have hmd : Hid (madeV (b1 + i * v76) (delL s1 D) (delL t1 D) = (b1 + i * v76, delL s1 D, delL t1 D, true)) := Lib.hid (made_yes (by have h7 := hpv.out; unfold tidyB tidyT at h7; rw [if_neg hcl115, if_neg hcl115] at h7; exact h7))
     go_wp2_with fail
     refine (pv_eq hmd.out (made_c (b1 + (i * v76)) (.slice af111 ((delL s1 D).length) cf112) (.slice af113 ((delL t1 D).length) cf114) (delL s1 D) (delL t1 D) _ _ _ (i109.ext qXt) (i110.ext qXt))).mono ?_
     rintro e w5 ⟨fv121u, fv121v, rfl, i122u, i122v, -, -, -, xw5⟩
     have Lw5 : Ext w4 w5 := Ext.trans qXt xw5
     have Xw5 : Ext w w5 := Xw4.trans Lw5
     replace b10 := Lw5.cell b10
     replace b11 := Lw5.cell b11
     replace b12 := Lw5.cell b12
     replace b20 := Lw5.cell b20
     replace b21 := Lw5.cell b21
     replace b22 := Lw5.cell b22
     replace f_b20 := Lw5.frz z_b2 f_b20
     replace f_b21 := Lw5.frz z_b2 f_b21
     replace f_b22 := Lw5.frz z_b2 f_b22
     replace e50 := Lw5.cell e50
     replace e750 := Lw5.cell e750
     replace b1050 := Lw5.cell b1050
     replace b1051 := Lw5.cell b1051
     replace b1052 := Lw5.cell b1052
     replace f_b1050 := Lw5.frz z_b105 f_b1050
     replace f_b1051 := Lw5.frz z_b105 f_b1051
     replace f_b1052 := Lw5.frz z_b105 f_b1052
     have z_b1 : w.heap.size < w5.heap.size := qB b10
     have z_b2 : w.heap.size + 1 < w5.heap.size := qB b20
     have z_e5 : bl3 < w5.heap.size := qB e50
     have z_e75 : bl73 < w5.heap.size := qB e750
     have z_b105 : g107 < w5.heap.size := qB b1050
     replace i109 := i109.ext Lw5
     replace i110 := i110.ext Lw5
     have s_w5 : w.heap.size ≤ w5.heap.size := Xw5.size
     clear xw5
     try simp only [World.size_alloc, World.size_drew] at i122u i122v
     obtain ⟨afv121u, cfv121u, rfl⟩ := i122u.form
     obtain ⟨afv121v, cfv121v, rfl⟩ := i122v.form
     go_wp2_with fail
     have Kw6 : Chg (w.heap.size + 1) (w.heap.size + 1 + 1) w5 (((w5.setCell ⟨w.heap.size + 1, 0, none⟩ (.int .i64 (b1 + i * v76))).setCell ⟨w.heap.size + 1, 1, none⟩ (.slice afv121u ((delL s1 D).length) cfv121u)).setCell ⟨w.heap.size + 1, 2, none⟩ (.slice afv121v ((delL t1 D).length) cfv121v)) := (Chg.setCell (p := ⟨w.heap.size + 1, 2, none⟩) (Chg.setCell (p := ⟨w.heap.size + 1, 1, none⟩) (Chg.setCell (p := ⟨w.heap.size + 1, 0, none⟩) (Chg.refl (w.heap.size + 1) (w.heap.size + 1 + 1) _) (Nat.le_refl _) (Nat.lt_succ_self _) (.int .i64 (b1 + i * v76))) (Nat.le_refl _) (Nat.lt_succ_self _) (.slice afv121u ((delL s1 D).length) cfv121u)) (Nat.le_refl _) (Nat.lt_succ_self _) (.slice afv121v ((delL t1 D).length) cfv121v))
     have Xw6 : Ext w (((w5.setCell ⟨w.heap.size + 1, 0, none⟩ (.int .i64 (b1 + i * v76))).setCell ⟨w.heap.size + 1, 1, none⟩ (.slice afv121u ((delL s1 D).length) cfv121u)).setCell ⟨w.heap.size + 1, 2, none⟩ (.slice afv121v ((delL t1 D).length) cfv121v)) := (Ext.setCell (p := ⟨w.heap.size + 1, 2, none⟩) (Ext.setCell (p := ⟨w.heap.size + 1, 1, none⟩) (Ext.setCell (p := ⟨w.heap.size + 1, 0, none⟩) Xw5 qSo (.int .i64 (b1 + i * v76))) qSo (.slice afv121u ((delL s1 D).length) cfv121u)) qSo (.slice afv121v ((delL t1 D).length) cfv121v))
     replace b10 := Kw6.cell (by omega) b10
     replace b11 := Kw6.cell (by omega) b11
     replace b12 := Kw6.cell (by omega) b12
     have n_b20 : (((w5.setCell ⟨w.heap.size + 1, 0, none⟩ (.int .i64 (b1 + i * v76))).setCell ⟨w.heap.size + 1, 1, none⟩ (.slice afv121u ((delL s1 D).length) cfv121u)).setCell ⟨w.heap.size + 1, 2, none⟩ (.slice afv121v ((delL t1 D).length) cfv121v)).cell? ⟨w.heap.size + 1, 0, none⟩ = some (.int .i64 (b1 + i * v76)) := by go_simp
     have n_f_b20 : (((w5.setCell ⟨w.heap.size + 1, 0, none⟩ (.int .i64 (b1 + i * v76))).setCell ⟨w.heap.size + 1, 1, none⟩ (.slice afv121u ((delL s1 D).length) cfv121u)).setCell ⟨w.heap.size + 1, 2, none⟩ (.slice afv121v ((delL t1 D).length) cfv121v)).frozen? ⟨w.heap.size + 1, 0, none⟩ = false := by go_simp
     have n_b21 : (((w5.setCell ⟨w.heap.size + 1, 0, none⟩ (.int .i64 (b1 + i * v76))).setCell ⟨w.heap.size + 1, 1, none⟩ (.slice afv121u ((delL s1 D).length) cfv121u)).setCell ⟨w.heap.size + 1, 2, none⟩ (.slice afv121v ((delL t1 D).length) cfv121v)).cell? ⟨w.heap.size + 1, 1, none⟩ = some (.slice afv121u ((delL s1 D).length) cfv121u) := by go_simp
     have n_f_b21 : (((w5.setCell ⟨w.heap.size + 1, 0, none⟩ (.int .i64 (b1 + i * v76))).setCell ⟨w.heap.size + 1, 1, none⟩ (.slice afv121u ((delL s1 D).length) cfv121u)).setCell ⟨w.heap.size + 1, 2, none⟩ (.slice afv121v ((delL t1 D).length) cfv121v)).frozen? ⟨w.heap.size + 1, 1, none⟩ = false := by go_simp
     have n_b22 : (((w5.setCell ⟨w.heap.size + 1, 0, none⟩ (.int .i64 (b1 + i * v76))).setCell ⟨w.heap.size + 1, 1, none⟩ (.slice afv121u ((delL s1 D).length) cfv121u)).setCell ⟨w.heap.size + 1, 2, none⟩ (.slice afv121v ((delL t1 D).length) cfv121v)).cell? ⟨w.heap.size + 1, 2, none⟩ = some (.slice afv121v ((delL t1 D).length) cfv121v) := by go_simp
     have n_f_b22 : (((w5.setCell ⟨w.heap.size + 1, 0, none⟩ (.int .i64 (b1 + i * v76))).setCell ⟨w.heap.size + 1, 1, none⟩ (.slice afv121u ((delL s1 D).length) cfv121u)).setCell ⟨w.heap.size + 1, 2, none⟩ (.slice afv121v ((delL t1 D).length) cfv121v)).frozen? ⟨w.heap.size + 1, 2, none⟩ = false := by go_simp
     replace b20 := n_b20
     clear n_b20
     replace f_b20 := n_f_b20
     clear n_f_b20
     replace b21 := n_b21
     clear n_b21
     replace f_b21 := n_f_b21
     clear n_f_b21
     replace b22 := n_b22
     clear n_b22
     replace f_b22 := n_f_b22
     clear n_f_b22
     replace e50 := Kw6.cell (by omega) e50
     replace e750 := Kw6.cell (by omega) e750
     replace b1050 := Kw6.cell (by omega) b1050
     replace f_b1050 := Kw6.frzO (by omega) z_b105 f_b1050
     replace b1051 := Kw6.cell (by omega) b1051
     replace f_b1051 := Kw6.frzO (by omega) z_b105 f_b1051
     replace b1052 := Kw6.cell (by omega) b1052
     replace f_b1052 := Kw6.frzO (by omega) z_b105 f_b1052
     replace i109 := i109.chg Kw6 (by omega)
     replace i110 := i110.chg Kw6 (by omega)
     replace i122u := i122u.chg Kw6 (by omega)
     replace i122v := i122v.chg Kw6 (by omega)
     clear Kw6
     have z_b1 : w.heap.size < (((w5.setCell ⟨w.heap.size + 1, 0, none⟩ (.int .i64 (b1 + i * v76))).setCell ⟨w.heap.size + 1, 1, none⟩ (.slice afv121u ((delL s1 D).length) cfv121u)).setCell ⟨w.heap.size + 1, 2, none⟩ (.slice afv121v ((delL t1 D).length) cfv121v)).heap.size := qB b10
     have z_b2 : w.heap.size + 1 < (((w5.setCell ⟨w.heap.size + 1, 0, none⟩ (.int .i64 (b1 + i * v76))).setCell ⟨w.heap.size + 1, 1, none⟩ (.slice afv121u ((delL s1 D).length) cfv121u)).setCell ⟨w.heap.size + 1, 2, none⟩ (.slice afv121v ((delL t1 D).length) cfv121v)).heap.size := qB b20
     have z_e5 : bl3 < (((w5.setCell ⟨w.heap.size + 1, 0, none⟩ (.int .i64 (b1 + i * v76))).setCell ⟨w.heap.size + 1, 1, none⟩ (.slice afv121u ((delL s1 D).length) cfv121u)).setCell ⟨w.heap.size + 1, 2, none⟩ (.slice afv121v ((delL t1 D).length) cfv121v)).heap.size := qB e50
     have z_e75 : bl73 < (((w5.setCell ⟨w.heap.size + 1, 0, none⟩ (.int .i64 (b1 + i * v76))).setCell ⟨w.heap.size + 1, 1, none⟩ (.slice afv121u ((delL s1 D).length) cfv121u)).setCell ⟨w.heap.size + 1, 2, none⟩ (.slice afv121v ((delL t1 D).length) cfv121v)).heap.size := qB e750
     have z_b105 : g107 < (((w5.setCell ⟨w.heap.size + 1, 0, none⟩ (.int .i64 (b1 + i * v76))).setCell ⟨w.heap.size + 1, 1, none⟩ (.slice afv121u ((delL s1 D).length) cfv121u)).setCell ⟨w.heap.size + 1, 2, none⟩ (.slice afv121v ((delL t1 D).length) cfv121v)).heap.size := qB b1050
     have s_w6 : w.heap.size ≤ (((w5.setCell ⟨w.heap.size + 1, 0, none⟩ (.int .i64 (b1 + i * v76))).setCell ⟨w.heap.size + 1, 1, none⟩ (.slice afv121u ((delL s1 D).length) cfv121u)).setCell ⟨w.heap.size + 1, 2, none⟩ (.slice afv121v ((delL t1 D).length) cfv121v)).heap.size := Xw6.size
     generalize (((w5.setCell ⟨w.heap.size + 1, 0, none⟩ (.int .i64 (b1 + i * v76))).setCell ⟨w.heap.size + 1, 1, none⟩ (.slice afv121u ((delL s1 D).length) cfv121u)).setCell ⟨w.heap.size + 1, 2, none⟩ (.slice afv121v ((delL t1 D).length) cfv121v)) = w6 at *
     refine bodyPost_ret (v := .tuple #[.agg #[.int .i64 (b1 + i * v76), .slice afv121u ((delL s1 D).length) cfv121u, .slice afv121v ((delL t1 D).length) cfv121v], .bool true]) (by simp only [results, Try.results42]; go_simp) rfl ?_
     rw [pick_yes (j := i) hdim.out hv6.out hv76.out (by split <;> omega) (by omega) (by omega)]
     refine ⟨.slice afv121u ((delL s1 D).length) cfv121u, .slice afv121v ((delL t1 D).length) cfv121v, ?_, i122u.lower (by omega), ?_, Xw6⟩
     ·
      rw [show tidyB (b1 + i * v76) (delL s1 D) = b1 + i * v76 by unfold tidyB; rw [if_neg hcl115]]
     ·
      rw [show tidyT (delL s1 D) (delL t1 D) = delL t1 D by unfold tidyT; rw [if_neg hcl115]]
      exact i122v.lower (by omega)

set_option maxHeartbeats 1600000 in
theorem specPickDim_c (b1 : Int) (u1 v1 : Value) (s1 t1 : List Int) (d i : Int) (w : World) (l1 m1 : Nat) (h1 : Ints w l1 u1 s1) (k1 : Ints w m1 v1 t1) (hi : -1000000 ≤ i ∧ i ≤ 1000000) :
  Calls Try.prog 42 #[.agg #[.int .i64 b1, u1, v1], .int .i64 d, .int .i64 i] w (PVX w (pickV b1 s1 t1 d i)) := by
 cases hdim : dimB b1 s1 t1 d with
 | false =>
  cases hvv : viewB b1 s1 t1 with
  | false => exact specPick_0 b1 u1 v1 s1 t1 d i w l1 m1 h1 k1 hdim hvv hi
  | true => exact specPick_1 b1 u1 v1 s1 t1 d i w l1 m1 h1 k1 hdim hvv (by unfold dimB at hdim; rw [hvv] at hdim; simpa using hdim) hi
 | true =>
  obtain ⟨_, h0, _⟩ := dim_in hdim
  obtain ⟨D, rfl⟩ : ∃ D : Nat, d = D := ⟨d.toNat, by omega⟩
  exact specPick_2 b1 u1 v1 s1 t1 D i w l1 m1 h1 k1 hdim hi


end Go.Proofs.Ytonnnjaooifpjaa

/- Walks: drawn memories, views of memories, values. -/
namespace Go.Proofs.Ytonnnjaooifpjaa
open Go.RowKit
set_option linter.unusedVariables false
set_option maxRecDepth 100000

theorem Ints.len_eq {w : World} {lo : Nat} {p : Option Addr} {n r : Nat} {s : List Int} (h : Ints w lo (.slice p n r) s) : n = s.length := by
  obtain ⟨a, c, e⟩ := h.form; simp at e; exact e.2.1
def PMem (rb k : Nat) (w : World) (e : Ending) (w' : World) : Prop := ∃ v xs, e = .returned v ∧ OwnI w' w.heap.size v xs ∧ xs.length ≤ 60 ∧ Rd w' rb k ∧ Chg rb (rb + 1) w w'
set_option maxHeartbeats 3200000 in
theorem someMemory_c (rb k : Nat) (w : World) (hr : Rd w rb k) (hk : k ≤ 700000) :
    Calls Try.prog 132 #[.pointer (some ⟨rb, 0, none⟩)] w (PMem rb (k + 70) w) := by
  have hlt := hr.lt
  go_enter Try.func132, Try.ntmps132
  go_wp2_with fail
  refine (oneLit_c _ _ _ rb _ _ (by repeat (first | (with_reducible exact hr) | (with_reducible apply Rd.drewN) | (with_reducible apply Rd.drew) | (with_reducible apply Rd.alloc) | ((with_reducible apply Rd.set2); (· first | assumption | (simp; omega) | (simp; done) | omega)))) (by omega) (by rfl) (by rfl) (by constructor <;> simp) (by first | rfl | simp)).mono ?_
  rintro e w1 ⟨n, rfl, hn, hr1, hC1⟩
  have hn' : 5 ≤ n ∧ n ≤ 60 := by simp [litL] at hn; omega
  clear hn
  obtain ⟨m, rfl⟩ : ∃ m : Nat, n = m := ⟨n.toNat, by omega⟩
  have ho1 : OwnI w1 w.heap.size (.slice (some ⟨w.heap.size, 0, none⟩) 0 0) [] := ((OwnI.lit0 w w.heap.size (Nat.le_refl _)).ext qXo).chg hC1 hlt
  have hX1 : Chg rb (rb + 1) w w1 := Chg.trans (Chg.of_ext qXo) hC1
  clear hC1
  go_wp2_with fail
  go_loopw [3, 4] (fun v i wr => ∃ (q m : Nat) (xs : List Int), i = .int .i64 m ∧ (xs.length + m ≤ 60 ∧ 1 ≤ xs.length + m) ∧ OwnI wr w.heap.size v xs ∧ Rd wr rb q ∧ q + m ≤ k + 62 ∧ Chg rb (rb + 1) w wr) (fun _ i _ => (intOf i).toNat)
  case atStart => exact ⟨k + 1, m, [], rfl, by simp; omega, ho1, hr1, by omega, hX1⟩
  case round =>
    obtain ⟨q, m, xs, rfl, hl, ho, hr, hq, hX⟩ := hrel
    have hz : w.heap.size ≤ wr.heap.size := hX.size
    cases m with
    | succ m =>
      have hI : (0 : Int) < ((m + 1 : Nat) : Int) := by omega
      have hI2 : ((m + 1 : Nat) : Int) - 1 = (m : Int) := by omega
      go_wp2_with fail
      refine (pick1_c _ rb _ _ hr (by omega) (by omega)).mono ?_
      rintro e w2 ⟨x, rfl, hx, hr2, hC2⟩
      have ho2 := ho.chg hC2 hlt
      have hX2 : Chg rb (rb + 1) w w2 := hX.trans hC2
      have hz2 : w.heap.size ≤ w2.heap.size := hX2.size
      clear hC2 hX ho hr hx
      replace ho2 := Lib.hid ho2
      replace hX2 := Lib.hid hX2
      replace hr2 := Lib.hid hr2
      go_wp2_with (at_builtin; refine wpList_app rfl (.tmp 13) (.tmp 16) rfl rfl rfl (ho2.out.ext ((Ext.refl _).alloc _)) (Ints.one _ 0 _ (Nat.zero_le _)) (by simp only [List.length_cons, List.length_nil]; omega) (by simp; omega) ?_; intro v' w3 ho3 _ hb3 _; replace ho3 := Lib.hid ho3)
      go_roundw
      case rel => exact ⟨q + 1, m, xs ++ [x], by first | rfl | go_num, by simp; omega, ho3.out, (hr2.out.alloc _).below hb3 hlt, by omega, Rch.below (hX2.out.ext qXo) hb3⟩
      case measure => simp [intOf]
    | zero =>
      have hne : xs ≠ [] := by intro h; subst h; simp at hl
      obtain ⟨g, n2, c, rfl, hn2, G, G'⟩ := ho.row2 hne
      have hlx : 0 < xs.length := by omega
      have hnI : Hid ((0 : Int) < (n2 : Int)) := Lib.hid (by have := hn2.out; omega)
      replace hne := Lib.hid hne
      go_wp2_with fail
      refine (pick1_c _ rb _ _ hr (by omega) (by omega)).mono ?_
      rintro e w2 ⟨x, rfl, hx, hr2, hC2⟩
      have ho2 := ho.chg hC2 hlt
      have hX2 : Chg rb (rb + 1) w w2 := hX.trans hC2
      clear hC2 hX ho hr hx
      by_cases hx0 : x = 0
      · subst hx0
        go_wp2_with fail
        refine (oneLit_c _ _ _ rb _ _ (by exact hr2) (by omega) (by rfl) (by rfl) (by constructor <;> simp) (by first | rfl | simp)).mono ?_
        rintro e w3 ⟨y, rfl, hy, hr3, hC3⟩
        have ho3 := (ho2.ext qXo).chg hC3 hlt
        have hX3 : Chg rb (rb + 1) w w3 := (hX2.ext qXo).trans hC3
        have hz3 := hX3.size
        clear hC3 hX2 ho2 hr2 hy
        obtain ⟨A1, A2⟩ := ho3.cell 0 hlx
        have hnI' := hnI.out
        replace ho3 := Lib.hid ho3
        go_wp2_with fail
        go_ret
        exact ⟨_, xs.set 0 y, rfl, ho3.out.set 0 y hlx, by simp; omega, (Rd.set2 (by simp; omega) hr3).mono (by omega), Rch.set hX3 (by simp; omega) _⟩
      · have hxe : (x == 0) = false := by simpa using hx0
        replace hx0 := Lib.hid hx0
        replace ho2 := Lib.hid ho2
        go_wp2_with fail
        go_ret
        exact ⟨_, xs, rfl, ho2.out, by omega, hr2.mono (by omega), hX2⟩

/-- a memory and a view are drawn -/
def PMV (lo : Nat) (e : Ending) (w' : World) : Prop := ∃ (mem : List Int) (p0 : Option Addr) (n0 r0 : Nat) (b : Int) (s t : List Int) (p1 p2 : Option Addr) (n1 r1 n2 r2 : Nat), e = .returned (.tuple #[.slice p0 n0 r0, .agg #[.int .i64 b, .slice p1 n1 r1, .slice p2 n2 r2]]) ∧ mem.length ≤ 60 ∧
  Ints w' lo (.slice p0 n0 r0) mem ∧ Ints w' lo (.slice p1 n1 r1) s ∧ Ints w' lo (.slice p2 n2 r2) t ∧ s.length ≤ 4 ∧ t.length ≤ 5
set_option maxHeartbeats 3200000 in
theorem memView_c (rb k : Nat) (w : World) (hr : Rd w rb k) (hk : k ≤ 600000) :
    Calls Try.prog 78 #[.pointer (some ⟨rb, 0, none⟩)] w (fun e w' => PMV w.heap.size e w' ∧ Rd w' rb (k + 280) ∧ Chg rb (rb + 1) w w') := by
  have hlt := hr.lt
  go_enter Try.func78, Try.ntmps78
  go_wp2_with fail
  refine (someMemory_c rb k _ (hr.alloc _) (by omega)).mono ?_
  rintro e w1 ⟨v, mem, rfl, o0, hml, hr1, C1⟩
  have i0 := (o0.ints (by omega)).lower (show w.heap.size + 1 ≤ _ by simp)
  clear o0
  obtain ⟨p0, n0, r0, rfl⟩ := i0.any
  have E0 : Ext w (w.alloc (.cells #[.int .i64 0, .slice none 0 0, .slice none 0 0] 25)) := qXt
  have X1 : Chg rb (rb + 1) w w1 := (Chg.of_ext E0).trans C1
  have q0 : w1.cell? ⟨w.heap.size, 0, none⟩ = some (.int .i64 0) := C1.cell (.inr (by omega)) (by simp)
  have q1 : w1.cell? ⟨w.heap.size, 1, none⟩ = some (.slice none 0 0) := C1.cell (.inr (by omega)) (by simp)
  have q2 : w1.cell? ⟨w.heap.size, 2, none⟩ = some (.slice none 0 0) := C1.cell (.inr (by omega)) (by simp)
  have f0 : w1.frozen? ⟨w.heap.size, 0, none⟩ = false := C1.frzO (.inr (by omega)) (by simp) (by simp)
  have f1 : w1.frozen? ⟨w.heap.size, 1, none⟩ = false := C1.frzO (.inr (by omega)) (by simp) (by simp)
  have f2 : w1.frozen? ⟨w.heap.size, 2, none⟩ = false := C1.frzO (.inr (by omega)) (by simp) (by simp)
  have z1 : w.heap.size < w1.heap.size := qB q0
  clear C1 E0 hr
  go_wp2_with fail
  refine (someView_c _ _ _ hr1 (by omega)).mono ?_
  rintro e w2 ⟨b, s, t, p1, p2, n1, r1, n2, r2, rfl, i1, i2, l1, l2, hr2, C⟩
  have X2 : Chg rb (rb + 1) w w2 := X1.trans C
  replace i0 := i0.chg C (by omega)
  replace q0 := C.cell (.inr (by omega)) q0
  replace q1 := C.cell (.inr (by omega)) q1
  replace q2 := C.cell (.inr (by omega)) q2
  replace f0 := C.frzO (.inr (by omega)) (by omega) f0
  replace f1 := C.frzO (.inr (by omega)) (by omega) f1
  replace f2 := C.frzO (.inr (by omega)) (by omega) f2
  have z2 : w.heap.size < w2.heap.size := qB q0
  have z12 := C.size
  clear C X1 hr1
  go_wp2_with fail
  refine bodyPost_ret (v := .tuple #[.slice p0 n0 r0, .agg #[.int .i64 b, .slice p1 n1 r1, .slice p2 n2 r2]]) (by simp only [results, Try.results78]; go_simp) rfl ?_
  have K := Chg.three (lo := w.heap.size) w2 (.int .i64 b) (.slice p1 n1 r1) (.slice p2 n2 r2)
  replace i1 := i1.chg K (by omega)
  replace i2 := i2.chg K (by omega)
  exact ⟨⟨mem, p0, n0, r0, b, s, t, p1, p2, n1, r1, n2, r2, rfl, hml, (i0.chg K (by omega)).lower (by omega), i1.lower (by omega), i2.lower (by omega), l1, l2⟩, (Rd.set2 (by simp; omega) (Rd.set2 (by simp; omega) (Rd.set2 (by simp; omega) hr2))).mono (by omega), Rch.set (Rch.set (Rch.set X2 (by simp) _) (by simp) _) (by simp) _⟩
def PMemView (w : World) (e : Ending) (w' : World) : Prop := PMV w.heap.size e w' ∧ Ext w w'

end Go.Proofs.Ytonnnjaooifpjaa

/- Walks: views and memories are drawn. -/
namespace Go.Proofs.Ytonnnjaooifpjaa
open Go.RowKit
set_option linter.unusedVariables false
set_option maxRecDepth 100000

set_option maxHeartbeats 3200000 in
theorem drawIsCol_c (a : Option Addr) (n cap : Nat) (w : World) (hb : BysIn w a n cap) :
    Calls Try.prog 15 #[.slice a n cap] w (PDraw w) := by
  go_enter Try.func15, Try.ntmps15
  go_wp2_with fail
  refine (newReader_c a n cap _ (hb.ext qXt)).mono ?_
  rintro e w1 ⟨rfl, hr, x1⟩
  simp only [World.size_alloc] at hr
  have X1 : Ext w w1 := Ext.trans qXt x1
  have q0 : w1.cell? ⟨w.heap.size, 0, none⟩ = some (.int .i64 0) := x1.cell (by simp)
  have q1 : w1.cell? ⟨w.heap.size, 1, none⟩ = some (.slice none 0 0) := x1.cell (by simp)
  have q2 : w1.cell? ⟨w.heap.size, 2, none⟩ = some (.slice none 0 0) := x1.cell (by simp)
  have f0 : w1.frozen? ⟨w.heap.size, 0, none⟩ = false := x1.frz (by simp) (by simp)
  have f1 : w1.frozen? ⟨w.heap.size, 1, none⟩ = false := x1.frz (by simp) (by simp)
  have f2 : w1.frozen? ⟨w.heap.size, 2, none⟩ = false := x1.frz (by simp) (by simp)
  have z1 := hr.lt
  clear hb x1
  go_wp2_with fail
  refine (someView_c _ 0 _ hr (by omega)).mono ?_
  rintro e w2 ⟨b, s, t, p1, p2, n1, r1, n2, r2, rfl, i1, i2, l1, l2, hr2, C⟩
  have X2 : Ext w w2 := Rch.toExt' C (by omega) X1
  replace q0 := C.cell (.inl (by omega)) q0
  replace q1 := C.cell (.inl (by omega)) q1
  replace q2 := C.cell (.inl (by omega)) q2
  replace f0 := C.frzO (.inl (by omega)) (by omega) f0
  replace f1 := C.frzO (.inl (by omega)) (by omega) f1
  replace f2 := C.frzO (.inl (by omega)) (by omega) f2
  have z2 : w.heap.size < w2.heap.size := qB q0
  clear C X1 hr
  go_wp2_with fail
  refine bodyPost_ret (v := .agg #[.int .i64 b, .slice p1 n1 r1, .slice p2 n2 r2]) (by simp only [results, Try.results15]; go_simp) rfl ?_
  have K := Chg.three (lo := w.heap.size) w2 (.int .i64 b) (.slice p1 n1 r1) (.slice p2 n2 r2)
  replace i1 := i1.chg K (by omega)
  replace i2 := i2.chg K (by omega)
  have X9 : Ext w (((w2.setCell ⟨w.heap.size, 0, none⟩ (.int .i64 b)).setCell ⟨w.heap.size, 1, none⟩ (.slice p1 n1 r1)).setCell ⟨w.heap.size, 2, none⟩ (.slice p2 n2 r2)) := Ext.chg (lo := w.heap.size) (hi := w.heap.size + 1) X2 K (Nat.le_refl _)
  exact ⟨b, s, t, p1, p2, n1, r1, n2, r2, rfl, i1.lower (by omega), i2.lower (by omega), l1, l2, X9⟩


set_option maxHeartbeats 3200000 in
theorem drawTensorOf_c (a : Option Addr) (n cap : Nat) (w : World) (hb : BysIn w a n cap) :
    Calls Try.prog 23 #[.slice a n cap] w (PMemView w) := by
  go_enter Try.func23, Try.ntmps23
  go_wp2_with fail
  refine (newReader_c a n cap _ (hb.ext qXt)).mono ?_
  rintro e w1 ⟨rfl, hr, x1⟩
  simp only [World.size_alloc] at hr
  have X1 : Ext w w1 := Ext.trans qXt x1
  have q0 : w1.cell? ⟨w.heap.size, 0, none⟩ = some (.int .i64 0) := x1.cell (by simp)
  have q1 : w1.cell? ⟨w.heap.size, 1, none⟩ = some (.slice none 0 0) := x1.cell (by simp)
  have q2 : w1.cell? ⟨w.heap.size, 2, none⟩ = some (.slice none 0 0) := x1.cell (by simp)
  have f0 : w1.frozen? ⟨w.heap.size, 0, none⟩ = false := x1.frz (by simp) (by simp)
  have f1 : w1.frozen? ⟨w.heap.size, 1, none⟩ = false := x1.frz (by simp) (by simp)
  have f2 : w1.frozen? ⟨w.heap.size, 2, none⟩ = false := x1.frz (by simp) (by simp)
  have z1 := hr.lt
  clear hb x1
  go_wp2_with fail
  refine (memView_c _ 0 _ hr (by omega)).mono ?_
  rintro e w2 ⟨⟨mem, p0, n0, r0, b, s, t, p1, p2, n1, r1, n2, r2, rfl, hml, i0, i1, i2, l1, l2⟩, hr2, C⟩
  have X2 : Ext w w2 := Rch.toExt' C (by omega) X1
  replace q0 := C.cell (.inl (by omega)) q0
  replace q1 := C.cell (.inl (by omega)) q1
  replace q2 := C.cell (.inl (by omega)) q2
  replace f0 := C.frzO (.inl (by omega)) (by omega) f0
  replace f1 := C.frzO (.inl (by omega)) (by omega) f1
  replace f2 := C.frzO (.inl (by omega)) (by omega) f2
  have z2 : w.heap.size < w2.heap.size := qB q0
  clear C X1 hr
  go_wp2_with fail
  refine bodyPost_ret (v := .tuple #[.slice p0 n0 r0, .agg #[.int .i64 b, .slice p1 n1 r1, .slice p2 n2 r2]]) (by simp only [results, Try.results23]; go_simp) rfl ?_
  have K := Chg.three (lo := w.heap.size) w2 (.int .i64 b) (.slice p1 n1 r1) (.slice p2 n2 r2)
  replace i0 := i0.chg K (by omega)
  replace i1 := i1.chg K (by omega)
  replace i2 := i2.chg K (by omega)
  have X9 : Ext w (((w2.setCell ⟨w.heap.size, 0, none⟩ (.int .i64 b)).setCell ⟨w.heap.size, 1, none⟩ (.slice p1 n1 r1)).setCell ⟨w.heap.size, 2, none⟩ (.slice p2 n2 r2)) := Ext.chg (lo := w.heap.size) (hi := w.heap.size + 1) X2 K (Nat.le_refl _)
  exact ⟨⟨mem, p0, n0, r0, b, s, t, p1, p2, n1, r1, n2, r2, rfl, hml, i0.lower (by omega), i1.lower (by omega), i2.lower (by omega), l1, l2⟩, X9⟩


end Go.Proofs.Ytonnnjaooifpjaa

/- Walks: a view and a dimension are drawn. -/
namespace Go.Proofs.Ytonnnjaooifpjaa
open Go.RowKit
set_option linter.unusedVariables false
set_option maxRecDepth 100000

def SDim (rb k : Nat) (w : World) (e : Ending) (w' : World) : Prop := ∃ (b : Int) (s t : List Int) (p1 p2 : Option Addr) (r1 r2 : Nat) (x : Int), e = .returned (.tuple #[.agg #[.int .i64 b, .slice p1 s.length r1, .slice p2 t.length r2], .int .i64 x]) ∧
 Ints w' w.heap.size (.slice p1 s.length r1) s ∧ Ints w' w.heap.size (.slice p2 t.length r2) t ∧ s.length ≤ 4 ∧ t.length ≤ 5 ∧ (-1 ≤ x ∧ x ≤ 5) ∧ Rd w' rb k ∧ Chg rb (rb + 1) w w'
set_option maxHeartbeats 3200000 in
theorem dimOf_c (rb k : Nat) (w : World) (hr : Rd w rb k) (hk : k ≤ 600000) :
  Calls Try.prog 88 #[.pointer (some ⟨rb, 0, none⟩)] w (SDim rb (k + 300) w) := by
 have hlt := hr.lt
 go_enter Try.func88, Try.ntmps88
 go_wp2_with fail
 have Lw1 : Ext w (w.alloc (.cells #[.int .i64 0, .slice none 0 0, .slice none 0 0] 25)) := qXt
 have Xw1 : Rch rb w (w.alloc (.cells #[.int .i64 0, .slice none 0 0, .slice none 0 0] 25)) := Rch.ext (Rch.refl rb w) Lw1
 replace hr := hr.ext Lw1
 have q0 : (w.alloc (.cells #[.int .i64 0, .slice none 0 0, .slice none 0 0] 25)).cell? ⟨w.heap.size, 0, none⟩ = some (.int .i64 0) := qCl
 have q1 : (w.alloc (.cells #[.int .i64 0, .slice none 0 0, .slice none 0 0] 25)).cell? ⟨w.heap.size, 1, none⟩ = some (.slice none 0 0) := qCl
 have q2 : (w.alloc (.cells #[.int .i64 0, .slice none 0 0, .slice none 0 0] 25)).cell? ⟨w.heap.size, 2, none⟩ = some (.slice none 0 0) := qCl
 have f_q0 : (w.alloc (.cells #[.int .i64 0, .slice none 0 0, .slice none 0 0] 25)).frozen? ⟨w.heap.size, 0, none⟩ = false := qFz
 have f_q1 : (w.alloc (.cells #[.int .i64 0, .slice none 0 0, .slice none 0 0] 25)).frozen? ⟨w.heap.size, 1, none⟩ = false := qFz
 have f_q2 : (w.alloc (.cells #[.int .i64 0, .slice none 0 0, .slice none 0 0] 25)).frozen? ⟨w.heap.size, 2, none⟩ = false := qFz
 have z_q : w.heap.size < (w.alloc (.cells #[.int .i64 0, .slice none 0 0, .slice none 0 0] 25)).heap.size := qB q0
 have s_w1 : w.heap.size ≤ (w.alloc (.cells #[.int .i64 0, .slice none 0 0, .slice none 0 0] 25)).heap.size := Xw1.size
 generalize w.alloc (.cells #[.int .i64 0, .slice none 0 0, .slice none 0 0] 25) = w1 at *
 refine (someView_c rb k _ hr (by omega)).mono ?_
 rintro e w2 ⟨b, s, t, p1, p2, n1, r1, n2, r2, rfl, i1, i2, l1, l2, Rw2, Cw2⟩
 have zc_w2 := Cw2.size
 have Xw2 : Rch rb w w2 := Rch.step (Xw1) Cw2
 replace q0 := Cw2.cell (by omega) q0
 replace f_q0 := Cw2.frzO (by omega) (by omega) f_q0
 replace q1 := Cw2.cell (by omega) q1
 replace f_q1 := Cw2.frzO (by omega) (by omega) f_q1
 replace q2 := Cw2.cell (by omega) q2
 replace f_q2 := Cw2.frzO (by omega) (by omega) f_q2
 have z_q : w.heap.size < w2.heap.size := qB q0
 have s_w2 : w.heap.size ≤ w2.heap.size := Xw2.size
 clear hr Cw2
 obtain rfl := i1.len_eq
 obtain rfl := i2.len_eq
 go_wp2_with fail
 have Lw3 : Ext w2 (w2.alloc (.cells #[.int .i64 b, .slice p1 s.length r1, .slice p2 t.length r2] 25)) := qXt
 have Xw3 : Rch rb w (w2.alloc (.cells #[.int .i64 b, .slice p1 s.length r1, .slice p2 t.length r2] 25)) := Rch.ext Xw2 Lw3
 replace Rw2 := Rw2.ext Lw3
 replace q0 := Lw3.cell q0
 replace q1 := Lw3.cell q1
 replace q2 := Lw3.cell q2
 replace f_q0 := Lw3.frz z_q f_q0
 replace f_q1 := Lw3.frz z_q f_q1
 replace f_q2 := Lw3.frz z_q f_q2
 have v0 : (w2.alloc (.cells #[.int .i64 b, .slice p1 s.length r1, .slice p2 t.length r2] 25)).cell? ⟨w2.heap.size, 0, none⟩ = some (.int .i64 b) := qCl
 have v1 : (w2.alloc (.cells #[.int .i64 b, .slice p1 s.length r1, .slice p2 t.length r2] 25)).cell? ⟨w2.heap.size, 1, none⟩ = some (.slice p1 s.length r1) := qCl
 have v2 : (w2.alloc (.cells #[.int .i64 b, .slice p1 s.length r1, .slice p2 t.length r2] 25)).cell? ⟨w2.heap.size, 2, none⟩ = some (.slice p2 t.length r2) := qCl
 have z_q : w.heap.size < (w2.alloc (.cells #[.int .i64 b, .slice p1 s.length r1, .slice p2 t.length r2] 25)).heap.size := qB q0
 have z_v : w2.heap.size < (w2.alloc (.cells #[.int .i64 b, .slice p1 s.length r1, .slice p2 t.length r2] 25)).heap.size := qB v0
 replace i1 := i1.ext Lw3
 replace i2 := i2.ext Lw3
 have s_w3 : w.heap.size ≤ (w2.alloc (.cells #[.int .i64 b, .slice p1 s.length r1, .slice p2 t.length r2] 25)).heap.size := Xw3.size
 generalize w2.alloc (.cells #[.int .i64 b, .slice p1 s.length r1, .slice p2 t.length r2] 25) = w3 at *
 go_wp2_with fail
 have hw0 : IntKind.i64.wrap ((s.length : Int) + 1) = (s.length : Int) + 1 := IntWalk.i64_in _ (by omega)
 refine wp_region_held_drew (S := fun w' => w'.cell? ⟨w2.heap.size, 0, none⟩ = some (.int .i64 b) ∧ w'.cell? ⟨w2.heap.size, 1, none⟩ = some (.slice p1 s.length r1) ∧ w'.cell? ⟨w2.heap.size, 2, none⟩ = some (.slice p2 t.length r2)) qKr ⟨v0, v1, v2⟩ (fun hHeld => ?_)
 refine wpAnyH_take (i := 0) (v := ?_) rfl qKr qKr qKr (fun _ _ _ h => h) (Or.inl ⟨by rfl, ?_⟩) (by assumption) ?_
 rotate_left
 ·
  (intro w hSw; (try dsimp only at hSw); go_simp; try with_reducible rfl)
 try simp only [Act.put, qA1, qA2, qA3, qA4, qA5, qA6]
 refine wpAnyH_take (i := 1) (v := ?_) rfl qKr qKr qKr (fun _ _ _ h => h) (Or.inl ⟨by rfl, ?_⟩) (by assumption) ?_
 rotate_left
 ·
  (intro w hSw; (try dsimp only at hSw); go_simp; try with_reducible rfl)
 try simp only [Act.put, qA1, qA2, qA3, qA4, qA5, qA6]
 refine wpAnyH_take (i := 2) (v := ?_) rfl qKr qKr qKr (fun _ _ _ h => h) (Or.inl ⟨by rfl, ?_⟩) (by assumption) ?_
 rotate_left
 ·
  (intro w hSw; (try dsimp only at hSw); go_simp; try with_reducible rfl)
 try simp only [Act.put, qA1, qA2, qA3, qA4, qA5, qA6]
 refine wpAnyH_take (i := 3) (v := ?_) rfl qKr qKr qKr (fun _ _ _ h => h) (Or.inl ⟨by rfl, ?_⟩) (by assumption) ?_
 rotate_left
 ·
  (intro w hSw; (try dsimp only at hSw); go_simp; try with_reducible rfl)
 try simp only [Act.put, qA1, qA2, qA3, qA4, qA5, qA6]
 refine wpAnyH_take (i := 4) (v := ?_) rfl qKr qKr qKr (fun _ _ _ h => h) (Or.inl ⟨by rfl, ?_⟩) (by assumption) ?_
 rotate_left
 ·
  (intro w hSw; (try dsimp only at hSw); go_simp; try with_reducible rfl)
 try simp only [Act.put, qA1, qA2, qA3, qA4, qA5, qA6]
 refine wpAnyH_take (i := 5) (v := ?_) rfl qKr qKr qKr (fun _ _ _ h => h) (Or.inl ⟨by rfl, ?_⟩) (by assumption) ?_
 rotate_left
 ·
  (intro w hSw; (try dsimp only at hSw); go_simp; try with_reducible rfl)
 try simp only [Act.put, qA1, qA2, qA3, qA4, qA5, qA6]
 refine wpAnyH_take (i := 6) (v := ?_) rfl qKr qKr qKr (fun _ _ _ h => h) (Or.inl ⟨by rfl, ?_⟩) (by assumption) ?_
 rotate_left
 ·
  (intro w hSw; (try dsimp only at hSw); go_simp; try with_reducible rfl)
 try simp only [Act.put, qA1, qA2, qA3, qA4, qA5, qA6]
 refine wpAnyH_take (i := 8) (v := ?_) rfl qKr qKr qKr (fun _ _ _ h => h) (Or.inl ⟨by rfl, ?_⟩) (by assumption) ?_
 rotate_left
 ·
  (intro w hSw; (try dsimp only at hSw); go_simp; try with_reducible rfl)
 try simp only [Act.put, qA1, qA2, qA3, qA4, qA5, qA6]
 refine wpAnyH_take (i := 9) (v := ?_) rfl qKr qKr qKr (fun _ _ _ h => h) (Or.inl ⟨by rfl, ?_⟩) (by assumption) ?_
 rotate_left
 ·
  (intro w hSw; (try dsimp only at hSw); go_simp; try with_reducible rfl)
 try simp only [Act.put, qA1, qA2, qA3, qA4, qA5, qA6]
 refine wpAnyH_take (i := 10) (v := ?_) rfl qKr qKr qKr (fun _ _ _ h => h) (Or.inl ⟨by rfl, ?_⟩) (by assumption) ?_
 rotate_left
 ·
  (intro w hSw; (try dsimp only at hSw); go_simp; try with_reducible rfl)
 try simp only [Act.put, qA1, qA2, qA3, qA4, qA5, qA6]
 refine wpAnyH_take (i := 11) (v := ?_) rfl qKr qKr qKr (fun _ _ _ h => h) (Or.inl ⟨by rfl, ?_⟩) (by assumption) ?_
 rotate_left
 ·
  (intro w hSw; (try dsimp only at hSw); go_simp; try with_reducible rfl)
 try simp only [Act.put, qA1, qA2, qA3, qA4, qA5, qA6]
 refine wpAnyH_take (i := 12) (v := ?_) rfl qKr qKr qKr (fun _ _ _ h => h) (Or.inl ⟨by rfl, ?_⟩) (by assumption) ?_
 rotate_left
 ·
  (intro w hSw; (try dsimp only at hSw); go_simp; try with_reducible rfl)
 try simp only [Act.put, qA1, qA2, qA3, qA4, qA5, qA6]
 refine wpAnyH_ready (rs := [7]) qKr (by simp) ?_
 refine AllReadyH.cons rfl (fun K hK => ?_) AllReadyH.nil
 try simp only [Act.put, qA1, qA2, qA3, qA4, qA5, qA6]
 go_simp
 refine (pick1_c ((s.length : Int) + 1) rb _ _ (Rw2.ext qXt) (by omega) (by omega)).mono ?_
 rintro e w4 ⟨x1, rfl, hx1, Rw4, Cw4⟩
 have Ew4 : Ext w3 (w3.drew) := qXt
 have e_w4 := Ew4.size
 have zc_w4 := Cw4.size
 simp only [World.size_drew, World.size_alloc] at zc_w4
 have Xw4 : Rch rb w w4 := Rch.step (Rch.ext Xw3 Ew4) Cw4
 replace q0 := Cw4.cell (by omega) (Ew4.cell q0)
 replace f_q0 := Cw4.frzO (by omega) (by omega) (Ew4.frz z_q f_q0)
 replace q1 := Cw4.cell (by omega) (Ew4.cell q1)
 replace f_q1 := Cw4.frzO (by omega) (by omega) (Ew4.frz z_q f_q1)
 replace q2 := Cw4.cell (by omega) (Ew4.cell q2)
 replace f_q2 := Cw4.frzO (by omega) (by omega) (Ew4.frz z_q f_q2)
 replace v0 := Cw4.cell (by omega) (Ew4.cell v0)
 replace v1 := Cw4.cell (by omega) (Ew4.cell v1)
 replace v2 := Cw4.cell (by omega) (Ew4.cell v2)
 have z_q : w.heap.size < w4.heap.size := qB q0
 have z_v : w2.heap.size < w4.heap.size := qB v0
 replace i1 := (i1.ext Ew4).chg Cw4 (by omega)
 replace i2 := (i2.ext Ew4).chg Cw4 (by omega)
 have s_w4 : w.heap.size ≤ w4.heap.size := Xw4.size
 clear Rw2 Cw4 Ew4
 refine hK.out _ _ ⟨v0, v1, v2⟩ (fun hHeld => ?_)
 clear hK K
 try simp only [Act.put, qA1, qA2, qA3, qA4, qA5, qA6]
 refine wpAnyH_ready (rs := [13]) qKr (by simp) ?_
 refine AllReadyH.cons rfl (fun K hK => ?_) AllReadyH.nil
 try simp only [Act.put, qA1, qA2, qA3, qA4, qA5, qA6]
 go_simp
 refine (pick1_c ((s.length : Int) + 1) rb _ _ Rw4 (by omega) (by omega)).mono ?_
 rintro e w5 ⟨x2, rfl, hx2, Rw5, Cw5⟩
 have zc_w5 := Cw5.size
 have Xw5 : Rch rb w w5 := Rch.step (Xw4) Cw5
 replace q0 := Cw5.cell (by omega) q0
 replace f_q0 := Cw5.frzO (by omega) (by omega) f_q0
 replace q1 := Cw5.cell (by omega) q1
 replace f_q1 := Cw5.frzO (by omega) (by omega) f_q1
 replace q2 := Cw5.cell (by omega) q2
 replace f_q2 := Cw5.frzO (by omega) (by omega) f_q2
 replace v0 := Cw5.cell (by omega) v0
 replace v1 := Cw5.cell (by omega) v1
 replace v2 := Cw5.cell (by omega) v2
 have z_q : w.heap.size < w5.heap.size := qB q0
 have z_v : w2.heap.size < w5.heap.size := qB v0
 replace i1 := i1.chg Cw5 (by omega)
 replace i2 := i2.chg Cw5 (by omega)
 have s_w5 : w.heap.size ≤ w5.heap.size := Xw5.size
 clear Rw4 Cw5
 refine hK.out _ _ ⟨v0, v1, v2⟩ (fun hHeld => ?_)
 clear hK K
 try simp only [Act.put, qA1, qA2, qA3, qA4, qA5, qA6]
 refine wpAnyH_ready (rs := [14]) qKr (by simp) ?_
 refine AllReadyH.cons rfl (fun K hK => ?_) AllReadyH.nil
 try simp only [Act.put, qA1, qA2, qA3, qA4, qA5, qA6]
 go_simp
 skip
 refine hK.out _ _ ⟨(show Ext w5 _ from qXt).cell v0, (show Ext w5 _ from qXt).cell v1, (show Ext w5 _ from qXt).cell v2⟩ (fun hHeld => ?_)
 clear hK K
 try simp only [Act.put, qA1, qA2, qA3, qA4, qA5, qA6]
 refine wpAnyH_ready (rs := [15]) qKr (by simp) ?_
 refine AllReadyH.cons rfl (fun K hK => ?_) AllReadyH.nil
 try simp only [Act.put, qA1, qA2, qA3, qA4, qA5, qA6]
 go_simp
 refine (oneLit_c _ _ _ rb _ _ Rw5 (by omega) (by rfl) (by rfl) (by constructor <;> simp) (by first | rfl | simp)).mono ?_
 rintro e w6 ⟨x, rfl, hx, Rw6, Cw6⟩
 have Ew6 : Ext w5 (w5.alloc (.cells #[.int .i64 0, .int .i64 x1, .int .i64 1, .int .i64 x2, .int .i64 (-1)] 3)) := qXt
 have e_w6 := Ew6.size
 have zc_w6 := Cw6.size
 have Xw6 : Rch rb w w6 := Rch.step (Rch.ext Xw5 Ew6) Cw6
 replace q0 := Cw6.cell (by omega) (Ew6.cell q0)
 replace f_q0 := Cw6.frzO (by omega) (by omega) (Ew6.frz z_q f_q0)
 replace q1 := Cw6.cell (by omega) (Ew6.cell q1)
 replace f_q1 := Cw6.frzO (by omega) (by omega) (Ew6.frz z_q f_q1)
 replace q2 := Cw6.cell (by omega) (Ew6.cell q2)
 replace f_q2 := Cw6.frzO (by omega) (by omega) (Ew6.frz z_q f_q2)
 replace v0 := Cw6.cell (by omega) (Ew6.cell v0)
 replace v1 := Cw6.cell (by omega) (Ew6.cell v1)
 replace v2 := Cw6.cell (by omega) (Ew6.cell v2)
 have z_q : w.heap.size < w6.heap.size := qB q0
 have z_v : w2.heap.size < w6.heap.size := qB v0
 replace i1 := (i1.ext Ew6).chg Cw6 (by omega)
 replace i2 := (i2.ext Ew6).chg Cw6 (by omega)
 have s_w6 : w.heap.size ≤ w6.heap.size := Xw6.size
 clear Rw5 Cw6 Ew6
 replace hx : -1 ≤ x ∧ x ≤ 5 := by simp [litL] at hx; omega
 refine hK.out _ _ ⟨v0, v1, v2⟩ (fun hHeld => ?_)
 clear hK K
 try simp only [Act.put, qA1, qA2, qA3, qA4, qA5, qA6]
 refine wpAnyH_ready (rs := [16]) qKr (by simp) ?_
 refine AllReadyH.cons rfl (fun K hK => ?_) AllReadyH.nil
 try simp only [Act.put, qA1, qA2, qA3, qA4, qA5, qA6]
 go_simp
 have Kw7 : Chg (w.heap.size) (w.heap.size + 1) w6 (((w6.setCell ⟨w.heap.size, 0, none⟩ (.int .i64 b)).setCell ⟨w.heap.size, 1, none⟩ (.slice p1 s.length r1)).setCell ⟨w.heap.size, 2, none⟩ (.slice p2 t.length r2)) := (Chg.setCell (p := ⟨w.heap.size, 2, none⟩) (Chg.setCell (p := ⟨w.heap.size, 1, none⟩) (Chg.setCell (p := ⟨w.heap.size, 0, none⟩) (Chg.refl (w.heap.size) (w.heap.size + 1) _) (Nat.le_refl _) (Nat.lt_succ_self _) (.int .i64 b)) (Nat.le_refl _) (Nat.lt_succ_self _) (.slice p1 s.length r1)) (Nat.le_refl _) (Nat.lt_succ_self _) (.slice p2 t.length r2))
 have Xw7 : Rch rb w (((w6.setCell ⟨w.heap.size, 0, none⟩ (.int .i64 b)).setCell ⟨w.heap.size, 1, none⟩ (.slice p1 s.length r1)).setCell ⟨w.heap.size, 2, none⟩ (.slice p2 t.length r2)) := (Rch.set (a := ⟨w.heap.size, 2, none⟩) (Rch.set (a := ⟨w.heap.size, 1, none⟩) (Rch.set (a := ⟨w.heap.size, 0, none⟩) Xw6 qSo (.int .i64 b)) qSo (.slice p1 s.length r1)) qSo (.slice p2 t.length r2))
 replace Rw6 := (Rd.set2 (a := ⟨w.heap.size, 2, none⟩) (u := .slice p2 t.length r2) (show rb < w.heap.size by omega) (Rd.set2 (a := ⟨w.heap.size, 1, none⟩) (u := .slice p1 s.length r1) (show rb < w.heap.size by omega) (Rd.set2 (a := ⟨w.heap.size, 0, none⟩) (u := .int .i64 b) (show rb < w.heap.size by omega) Rw6)))
 have n_q0 : (((w6.setCell ⟨w.heap.size, 0, none⟩ (.int .i64 b)).setCell ⟨w.heap.size, 1, none⟩ (.slice p1 s.length r1)).setCell ⟨w.heap.size, 2, none⟩ (.slice p2 t.length r2)).cell? ⟨w.heap.size, 0, none⟩ = some (.int .i64 b) := by go_simp
 have n_f_q0 : (((w6.setCell ⟨w.heap.size, 0, none⟩ (.int .i64 b)).setCell ⟨w.heap.size, 1, none⟩ (.slice p1 s.length r1)).setCell ⟨w.heap.size, 2, none⟩ (.slice p2 t.length r2)).frozen? ⟨w.heap.size, 0, none⟩ = false := by go_simp
 have n_q1 : (((w6.setCell ⟨w.heap.size, 0, none⟩ (.int .i64 b)).setCell ⟨w.heap.size, 1, none⟩ (.slice p1 s.length r1)).setCell ⟨w.heap.size, 2, none⟩ (.slice p2 t.length r2)).cell? ⟨w.heap.size, 1, none⟩ = some (.slice p1 s.length r1) := by go_simp
 have n_f_q1 : (((w6.setCell ⟨w.heap.size, 0, none⟩ (.int .i64 b)).setCell ⟨w.heap.size, 1, none⟩ (.slice p1 s.length r1)).setCell ⟨w.heap.size, 2, none⟩ (.slice p2 t.length r2)).frozen? ⟨w.heap.size, 1, none⟩ = false := by go_simp
 have n_q2 : (((w6.setCell ⟨w.heap.size, 0, none⟩ (.int .i64 b)).setCell ⟨w.heap.size, 1, none⟩ (.slice p1 s.length r1)).setCell ⟨w.heap.size, 2, none⟩ (.slice p2 t.length r2)).cell? ⟨w.heap.size, 2, none⟩ = some (.slice p2 t.length r2) := by go_simp
 have n_f_q2 : (((w6.setCell ⟨w.heap.size, 0, none⟩ (.int .i64 b)).setCell ⟨w.heap.size, 1, none⟩ (.slice p1 s.length r1)).setCell ⟨w.heap.size, 2, none⟩ (.slice p2 t.length r2)).frozen? ⟨w.heap.size, 2, none⟩ = false := by go_simp
 replace q0 := n_q0
 clear n_q0
 replace f_q0 := n_f_q0
 clear n_f_q0
 replace q1 := n_q1
 clear n_q1
 replace f_q1 := n_f_q1
 clear n_f_q1
 replace q2 := n_q2
 clear n_q2
 replace f_q2 := n_f_q2
 clear n_f_q2
 replace v0 := Kw7.cell (by omega) v0
 replace v1 := Kw7.cell (by omega) v1
 replace v2 := Kw7.cell (by omega) v2
 replace i1 := i1.chg Kw7 (by omega)
 replace i2 := i2.chg Kw7 (by omega)
 clear Kw7
 have z_q : w.heap.size < (((w6.setCell ⟨w.heap.size, 0, none⟩ (.int .i64 b)).setCell ⟨w.heap.size, 1, none⟩ (.slice p1 s.length r1)).setCell ⟨w.heap.size, 2, none⟩ (.slice p2 t.length r2)).heap.size := qB q0
 have z_v : w2.heap.size < (((w6.setCell ⟨w.heap.size, 0, none⟩ (.int .i64 b)).setCell ⟨w.heap.size, 1, none⟩ (.slice p1 s.length r1)).setCell ⟨w.heap.size, 2, none⟩ (.slice p2 t.length r2)).heap.size := qB v0
 have s_w7 : w.heap.size ≤ (((w6.setCell ⟨w.heap.size, 0, none⟩ (.int .i64 b)).setCell ⟨w.heap.size, 1, none⟩ (.slice p1 s.length r1)).setCell ⟨w.heap.size, 2, none⟩ (.slice p2 t.length r2)).heap.size := Xw7.size
 generalize (((w6.setCell ⟨w.heap.size, 0, none⟩ (.int .i64 b)).setCell ⟨w.heap.size, 1, none⟩ (.slice p1 s.length r1)).setCell ⟨w.heap.size, 2, none⟩ (.slice p2 t.length r2)) = w7 at *
 refine hK.out _ _ ⟨v0, v1, v2⟩ (fun hHeld => ?_)
 clear hK K
 try simp only [Act.put, qA1, qA2, qA3, qA4, qA5, qA6]
 refine wpAnyH_take (i := 17) (v := ?_) rfl qKr qKr qKr (fun _ _ _ h => h) (Or.inl ⟨by rfl, ?_⟩) (by assumption) ?_
 rotate_left
 ·
  (intro w hSw; (try dsimp only at hSw); go_simp; try with_reducible rfl)
 try simp only [Act.put, qA1, qA2, qA3, qA4, qA5, qA6]
 refine wpAnyH_done qKr ?_ _
 clear hHeld hw0
 go_wp2_with fail
 refine bodyPost_ret (v := .tuple #[.agg #[.int .i64 b, .slice p1 s.length r1, .slice p2 t.length r2], .int .i64 x]) (by simp only [results, Try.results88]; go_simp) rfl ?_
 exact ⟨b, s, t, p1, p2, r1, r2, x, rfl, i1.lower (by omega), i2.lower (by omega), l1, l2, hx, Rw6.mono (by omega), Xw7⟩

/-- a view, a dimension and a number are drawn -/
def PVDI (w : World) (e : Ending) (w' : World) : Prop := ∃ (b : Int) (s t : List Int) (p1 p2 : Option Addr) (r1 r2 : Nat) (d x : Int), e = .returned (.tuple #[.agg #[.int .i64 b, .slice p1 s.length r1, .slice p2 t.length r2], .int .i64 d, .int .i64 x]) ∧
 Ints w' w.heap.size (.slice p1 s.length r1) s ∧ Ints w' w.heap.size (.slice p2 t.length r2) t ∧ s.length ≤ 4 ∧ t.length ≤ 5 ∧ (-1 ≤ d ∧ d ≤ 5) ∧ (-100 ≤ x ∧ x ≤ 100) ∧ Ext w w'
set_option maxHeartbeats 3200000 in
theorem drawPickDim_c (a : Option Addr) (n cap : Nat) (w : World) (hb : BysIn w a n cap) :
  Calls Try.prog 41 #[.slice a n cap] w (PVDI w) := by
 go_enter Try.func41, Try.ntmps41
 go_wp2_with fail
 refine (newReader_c a n cap _ (hb.ext qXt)).mono ?_
 rintro e w1 ⟨rfl, hr, xw1⟩
 have Lw1 : Ext w w1 := Ext.trans qXt xw1
 have Xw1 : Ext w w1 := Lw1
 have q0 : w1.cell? ⟨w.heap.size, 0, none⟩ = some (.int .i64 0) := xw1.cell qCl
 have q1 : w1.cell? ⟨w.heap.size, 1, none⟩ = some (.slice none 0 0) := xw1.cell qCl
 have q2 : w1.cell? ⟨w.heap.size, 2, none⟩ = some (.slice none 0 0) := xw1.cell qCl
 have f_q0 : w1.frozen? ⟨w.heap.size, 0, none⟩ = false := xw1.frz (by simp <;> omega) qFz
 have f_q1 : w1.frozen? ⟨w.heap.size, 1, none⟩ = false := xw1.frz (by simp <;> omega) qFz
 have f_q2 : w1.frozen? ⟨w.heap.size, 2, none⟩ = false := xw1.frz (by simp <;> omega) qFz
 have z_q : w.heap.size < w1.heap.size := qB q0
 have s_w1 : w.heap.size ≤ w1.heap.size := Xw1.size
 clear xw1
 simp only [World.size_alloc] at hr
 have z1 := hr.lt
 clear hb
 go_wp2_with fail
 refine (dimOf_c _ 0 _ hr (by omega)).mono ?_
 rintro e w2 ⟨b, s, t, p1, p2, r1, r2, d, rfl, i1, i2, l1, l2, hd, Rw2, Cw2⟩
 have zc_w2 := Cw2.size
 have Xw2 : Ext w w2 := Rch.toExt' Cw2 (by omega) (Xw1)
 replace q0 := Cw2.cell (by omega) q0
 replace f_q0 := Cw2.frzO (by omega) (by omega) f_q0
 replace q1 := Cw2.cell (by omega) q1
 replace f_q1 := Cw2.frzO (by omega) (by omega) f_q1
 replace q2 := Cw2.cell (by omega) q2
 replace f_q2 := Cw2.frzO (by omega) (by omega) f_q2
 have z_q : w.heap.size < w2.heap.size := qB q0
 have s_w2 : w.heap.size ≤ w2.heap.size := Xw2.size
 clear hr Cw2
 go_wp2_with fail
 have Lw3 : Ext w2 (w2.alloc (.cells #[.int .i64 b, .slice p1 s.length r1, .slice p2 t.length r2] 25)) := qXt
 have Xw3 : Ext w (w2.alloc (.cells #[.int .i64 b, .slice p1 s.length r1, .slice p2 t.length r2] 25)) := Xw2.trans Lw3
 replace Rw2 := Rw2.ext Lw3
 replace q0 := Lw3.cell q0
 replace q1 := Lw3.cell q1
 replace q2 := Lw3.cell q2
 replace f_q0 := Lw3.frz z_q f_q0
 replace f_q1 := Lw3.frz z_q f_q1
 replace f_q2 := Lw3.frz z_q f_q2
 have v0 : (w2.alloc (.cells #[.int .i64 b, .slice p1 s.length r1, .slice p2 t.length r2] 25)).cell? ⟨w2.heap.size, 0, none⟩ = some (.int .i64 b) := qCl
 have v1 : (w2.alloc (.cells #[.int .i64 b, .slice p1 s.length r1, .slice p2 t.length r2] 25)).cell? ⟨w2.heap.size, 1, none⟩ = some (.slice p1 s.length r1) := qCl
 have v2 : (w2.alloc (.cells #[.int .i64 b, .slice p1 s.length r1, .slice p2 t.length r2] 25)).cell? ⟨w2.heap.size, 2, none⟩ = some (.slice p2 t.length r2) := qCl
 have z_q : w.heap.size < (w2.alloc (.cells #[.int .i64 b, .slice p1 s.length r1, .slice p2 t.length r2] 25)).heap.size := qB q0
 have z_v : w2.heap.size < (w2.alloc (.cells #[.int .i64 b, .slice p1 s.length r1, .slice p2 t.length r2] 25)).heap.size := qB v0
 replace i1 := i1.ext Lw3
 replace i2 := i2.ext Lw3
 have s_w3 : w.heap.size ≤ (w2.alloc (.cells #[.int .i64 b, .slice p1 s.length r1, .slice p2 t.length r2] 25)).heap.size := Xw3.size
 generalize w2.alloc (.cells #[.int .i64 b, .slice p1 s.length r1, .slice p2 t.length r2] 25) = w3 at *
 go_wp2_with fail
 refine wp_region_held_drew (S := fun w' => w'.cell? ⟨w2.heap.size, 0, none⟩ = some (.int .i64 b) ∧ w'.cell? ⟨w2.heap.size, 1, none⟩ = some (.slice p1 s.length r1) ∧ w'.cell? ⟨w2.heap.size, 2, none⟩ = some (.slice p2 t.length r2)) qKr ⟨v0, v1, v2⟩ (fun hHeld => ?_)
 refine wpAnyH_take (i := 0) (v := ?_) rfl qKr qKr qKr (fun _ _ _ h => h) (Or.inl ⟨by rfl, ?_⟩) (by assumption) ?_
 rotate_left
 ·
  (intro w hSw; (try dsimp only at hSw); go_simp; try with_reducible rfl)
 try simp only [Act.put, qA1, qA2, qA3, qA4, qA5, qA6]
 refine wpAnyH_take (i := 1) (v := ?_) rfl qKr qKr qKr (fun _ _ _ h => h) (Or.inl ⟨by rfl, ?_⟩) (by assumption) ?_
 rotate_left
 ·
  (intro w hSw; (try dsimp only at hSw); go_simp; try with_reducible rfl)
 try simp only [Act.put, qA1, qA2, qA3, qA4, qA5, qA6]
 refine wpAnyH_take (i := 2) (v := ?_) rfl qKr qKr qKr (fun _ _ _ h => h) (Or.inl ⟨by rfl, ?_⟩) (by assumption) ?_
 rotate_left
 ·
  (intro w hSw; (try dsimp only at hSw); go_simp; try with_reducible rfl)
 try simp only [Act.put, qA1, qA2, qA3, qA4, qA5, qA6]
 refine wpAnyH_ready (rs := [3]) qKr (by simp) ?_
 refine AllReadyH.cons rfl (fun K hK => ?_) AllReadyH.nil
 try simp only [Act.put, qA1, qA2, qA3, qA4, qA5, qA6]
 go_simp
 skip
 refine hK.out _ _ ⟨(show Ext w3 _ from qXt).cell v0, (show Ext w3 _ from qXt).cell v1, (show Ext w3 _ from qXt).cell v2⟩ (fun hHeld => ?_)
 clear hK K
 try simp only [Act.put, qA1, qA2, qA3, qA4, qA5, qA6]
 refine wpAnyH_ready (rs := [4]) qKr (by simp) ?_
 refine AllReadyH.cons rfl (fun K hK => ?_) AllReadyH.nil
 try simp only [Act.put, qA1, qA2, qA3, qA4, qA5, qA6]
 go_simp
 refine (oneLit_c #[.int .i64 0, .int .i64 1, .int .i64 (-1), .int .i64 2, .int .i64 (-2), .int .i64 5] 6 _ _ _ w3.drew (Rw2.ext qXt) (by omega) (by rfl) (by rfl) (by constructor <;> simp) (by first | rfl | simp)).mono ?_
 rintro e w4 ⟨x, rfl, hx, Rw4, Cw4⟩
 have Ew4 : Ext w3 (w3.drew.alloc (.cells #[.int .i64 0, .int .i64 1, .int .i64 (-1), .int .i64 2, .int .i64 (-2), .int .i64 5] 3)) := qXt
 have e_w4 := Ew4.size
 have zc_w4 := Cw4.size
 simp only [World.size_drew, World.size_alloc] at zc_w4
 have Xw4 : Ext w w4 := Rch.toExt' Cw4 (by omega) (Xw3.trans Ew4)
 replace q0 := Cw4.cell (by omega) (Ew4.cell q0)
 replace f_q0 := Cw4.frzO (by omega) (by omega) (Ew4.frz z_q f_q0)
 replace q1 := Cw4.cell (by omega) (Ew4.cell q1)
 replace f_q1 := Cw4.frzO (by omega) (by omega) (Ew4.frz z_q f_q1)
 replace q2 := Cw4.cell (by omega) (Ew4.cell q2)
 replace f_q2 := Cw4.frzO (by omega) (by omega) (Ew4.frz z_q f_q2)
 replace v0 := Cw4.cell (by omega) (Ew4.cell v0)
 replace v1 := Cw4.cell (by omega) (Ew4.cell v1)
 replace v2 := Cw4.cell (by omega) (Ew4.cell v2)
 have z_q : w.heap.size < w4.heap.size := qB q0
 have z_v : w2.heap.size < w4.heap.size := qB v0
 replace i1 := (i1.ext Ew4).chg Cw4 (by omega)
 replace i2 := (i2.ext Ew4).chg Cw4 (by omega)
 have s_w4 : w.heap.size ≤ w4.heap.size := Xw4.size
 clear Rw2 Cw4 Ew4
 replace hx : -100 ≤ x ∧ x ≤ 100 := by simp [litL] at hx; omega
 refine hK.out _ _ ⟨v0, v1, v2⟩ (fun hHeld => ?_)
 clear hK K
 try simp only [Act.put, qA1, qA2, qA3, qA4, qA5, qA6]
 refine wpAnyH_ready (rs := [5]) qKr (by simp) ?_
 refine AllReadyH.cons rfl (fun K hK => ?_) AllReadyH.nil
 try simp only [Act.put, qA1, qA2, qA3, qA4, qA5, qA6]
 go_simp
 have Kw5 : Chg (w.heap.size) (w.heap.size + 1) w4 (((w4.setCell ⟨w.heap.size, 0, none⟩ (.int .i64 b)).setCell ⟨w.heap.size, 1, none⟩ (.slice p1 s.length r1)).setCell ⟨w.heap.size, 2, none⟩ (.slice p2 t.length r2)) := (Chg.setCell (p := ⟨w.heap.size, 2, none⟩) (Chg.setCell (p := ⟨w.heap.size, 1, none⟩) (Chg.setCell (p := ⟨w.heap.size, 0, none⟩) (Chg.refl (w.heap.size) (w.heap.size + 1) _) (Nat.le_refl _) (Nat.lt_succ_self _) (.int .i64 b)) (Nat.le_refl _) (Nat.lt_succ_self _) (.slice p1 s.length r1)) (Nat.le_refl _) (Nat.lt_succ_self _) (.slice p2 t.length r2))
 have Xw5 : Ext w (((w4.setCell ⟨w.heap.size, 0, none⟩ (.int .i64 b)).setCell ⟨w.heap.size, 1, none⟩ (.slice p1 s.length r1)).setCell ⟨w.heap.size, 2, none⟩ (.slice p2 t.length r2)) := (Ext.setCell (p := ⟨w.heap.size, 2, none⟩) (Ext.setCell (p := ⟨w.heap.size, 1, none⟩) (Ext.setCell (p := ⟨w.heap.size, 0, none⟩) Xw4 qSo (.int .i64 b)) qSo (.slice p1 s.length r1)) qSo (.slice p2 t.length r2))
 have n_q0 : (((w4.setCell ⟨w.heap.size, 0, none⟩ (.int .i64 b)).setCell ⟨w.heap.size, 1, none⟩ (.slice p1 s.length r1)).setCell ⟨w.heap.size, 2, none⟩ (.slice p2 t.length r2)).cell? ⟨w.heap.size, 0, none⟩ = some (.int .i64 b) := by go_simp
 have n_f_q0 : (((w4.setCell ⟨w.heap.size, 0, none⟩ (.int .i64 b)).setCell ⟨w.heap.size, 1, none⟩ (.slice p1 s.length r1)).setCell ⟨w.heap.size, 2, none⟩ (.slice p2 t.length r2)).frozen? ⟨w.heap.size, 0, none⟩ = false := by go_simp
 have n_q1 : (((w4.setCell ⟨w.heap.size, 0, none⟩ (.int .i64 b)).setCell ⟨w.heap.size, 1, none⟩ (.slice p1 s.length r1)).setCell ⟨w.heap.size, 2, none⟩ (.slice p2 t.length r2)).cell? ⟨w.heap.size, 1, none⟩ = some (.slice p1 s.length r1) := by go_simp
 have n_f_q1 : (((w4.setCell ⟨w.heap.size, 0, none⟩ (.int .i64 b)).setCell ⟨w.heap.size, 1, none⟩ (.slice p1 s.length r1)).setCell ⟨w.heap.size, 2, none⟩ (.slice p2 t.length r2)).frozen? ⟨w.heap.size, 1, none⟩ = false := by go_simp
 have n_q2 : (((w4.setCell ⟨w.heap.size, 0, none⟩ (.int .i64 b)).setCell ⟨w.heap.size, 1, none⟩ (.slice p1 s.length r1)).setCell ⟨w.heap.size, 2, none⟩ (.slice p2 t.length r2)).cell? ⟨w.heap.size, 2, none⟩ = some (.slice p2 t.length r2) := by go_simp
 have n_f_q2 : (((w4.setCell ⟨w.heap.size, 0, none⟩ (.int .i64 b)).setCell ⟨w.heap.size, 1, none⟩ (.slice p1 s.length r1)).setCell ⟨w.heap.size, 2, none⟩ (.slice p2 t.length r2)).frozen? ⟨w.heap.size, 2, none⟩ = false := by go_simp
 replace q0 := n_q0
 clear n_q0
 replace f_q0 := n_f_q0
 clear n_f_q0
 replace q1 := n_q1
 clear n_q1
 replace f_q1 := n_f_q1
 clear n_f_q1
 replace q2 := n_q2
 clear n_q2
 replace f_q2 := n_f_q2
 clear n_f_q2
 replace v0 := Kw5.cell (by omega) v0
 replace v1 := Kw5.cell (by omega) v1
 replace v2 := Kw5.cell (by omega) v2
 replace i1 := i1.chg Kw5 (by omega)
 replace i2 := i2.chg Kw5 (by omega)
 clear Kw5
 have z_q : w.heap.size < (((w4.setCell ⟨w.heap.size, 0, none⟩ (.int .i64 b)).setCell ⟨w.heap.size, 1, none⟩ (.slice p1 s.length r1)).setCell ⟨w.heap.size, 2, none⟩ (.slice p2 t.length r2)).heap.size := qB q0
 have z_v : w2.heap.size < (((w4.setCell ⟨w.heap.size, 0, none⟩ (.int .i64 b)).setCell ⟨w.heap.size, 1, none⟩ (.slice p1 s.length r1)).setCell ⟨w.heap.size, 2, none⟩ (.slice p2 t.length r2)).heap.size := qB v0
 have s_w5 : w.heap.size ≤ (((w4.setCell ⟨w.heap.size, 0, none⟩ (.int .i64 b)).setCell ⟨w.heap.size, 1, none⟩ (.slice p1 s.length r1)).setCell ⟨w.heap.size, 2, none⟩ (.slice p2 t.length r2)).heap.size := Xw5.size
 generalize (((w4.setCell ⟨w.heap.size, 0, none⟩ (.int .i64 b)).setCell ⟨w.heap.size, 1, none⟩ (.slice p1 s.length r1)).setCell ⟨w.heap.size, 2, none⟩ (.slice p2 t.length r2)) = w5 at *
 refine hK.out _ _ ⟨v0, v1, v2⟩ (fun hHeld => ?_)
 clear hK K
 try simp only [Act.put, qA1, qA2, qA3, qA4, qA5, qA6]
 refine wpAnyH_take (i := 6) (v := ?_) rfl qKr qKr qKr (fun _ _ _ h => h) (Or.inl ⟨by rfl, ?_⟩) (by assumption) ?_
 rotate_left
 ·
  (intro w hSw; (try dsimp only at hSw); go_simp; try with_reducible rfl)
 try simp only [Act.put, qA1, qA2, qA3, qA4, qA5, qA6]
 refine wpAnyH_take (i := 7) (v := ?_) rfl qKr qKr qKr (fun _ _ _ h => h) (Or.inl ⟨by rfl, ?_⟩) (by assumption) ?_
 rotate_left
 ·
  (intro w hSw; (try dsimp only at hSw); go_simp; try with_reducible rfl)
 try simp only [Act.put, qA1, qA2, qA3, qA4, qA5, qA6]
 refine wpAnyH_done qKr ?_ _
 clear hHeld
 go_wp2_with fail
 refine bodyPost_ret (v := .tuple #[.agg #[.int .i64 b, .slice p1 s.length r1, .slice p2 t.length r2], .int .i64 d, .int .i64 x]) (by simp only [results, Try.results41]; go_simp) rfl ?_
 exact ⟨b, s, t, p1, p2, r1, r2, d, x, rfl, i1.lower (by omega), i2.lower (by omega), l1, l2, hd, hx, Xw5⟩

end Go.Proofs.Ytonnnjaooifpjaa

/- Plain laws: what a slice takes of a dimension, as the program reckons it. -/
namespace Go.Proofs.Ytonnnjaooifpjaa
open Go.RowKit
set_option linter.unusedVariables false
set_option maxRecDepth 100000

theorem numL_one {a b s : Int} (hn : cntL a b s = 1) : numL a b s = [a] := by unfold numL; rw [hn]; simp
theorem slice_first {a b q : Int} {L : List Int} (hq : q ≠ 0) (hL : numL a b q = L) : (L.length ≠ 0 → (normL L).1 = L.getD 0 0) ∧ (2 ≤ L.length → (normL L).2.2 = L.getD 1 0 - L.getD 0 0) := by
  subst hL
  have h := norm_two (a := a) (b := b) hq
  rw [numL_len] at h ⊢
  refine ⟨fun hn => ?_, fun hn => ?_⟩
  · rw [h.1 hn]
    match hc : cntL a b q with
    | 0 => exact absurd hc hn
    | 1 => rw [numL_one hc]; rfl
    | m + 2 => rw [numL_two hc]; rfl
  · rw [h.2.2 hn]
    match hc : cntL a b q with
    | 0 => omega
    | 1 => omega
    | m + 2 => rw [numL_two hc]; simp; omega
theorem count_zero_mem {xs : List Int} (hs : Small xs) (h : (0 : Int) ∈ xs) : countL xs = 0 := by
  have hc := hs.count
  by_cases h0 : countL xs = 0
  · exact h0
  · have := hc.2.2.2 (by omega) 0 h; omega
/-- base and strides that the program reckons, ahead of 'cleared' -/
theorem cut_prog {b : Int} {s t : List Int} {d : Nat} {a e q x : Int} {L : List Int} (hs : Small s) (hd : d < s.length) (hq : q ≠ 0) (hL : numL a e q = L) (hx : t.getD d 0 = x) :
    (∀ B : Int, (L.length = 0 ∨ B = b + x * L.getD 0 0) → cutB b s t d L = tidyB B (s.set d L.length)) ∧
    (∀ X : Int, (if 2 ≤ L.length then X = x * (L.getD 1 0 - L.getD 0 0) else X = 0) → cutT s t d L = tidyT (s.set d L.length) (t.set d X)) := by
  obtain ⟨h1, h2⟩ := slice_first hq hL
  have hz : L.length = 0 → countL (s.set d L.length) = 0 := fun h => by
    rw [h]
    exact count_zero_mem (small_set hs d (by omega)) (List.mem_iff_getElem.2 ⟨d, by simpa using hd, by simp⟩)
  refine ⟨fun B hB => ?_, fun X hX => ?_⟩
  · unfold cutB tidyB
    split
    · rfl
    · rename_i hc
      by_cases hl : L.length = 0
      · exact absurd (hz hl) hc
      · rcases hB with hB | hB
        · exact absurd hB hl
        · rw [hx, hB, h1 hl, Int.mul_comm]
  · unfold cutT
    congr 2
    by_cases hl : 2 ≤ L.length
    · rw [if_neg (by omega), hx, h2 hl]; rw [if_pos hl] at hX; rw [hX, Int.mul_comm]
    · rw [if_pos (by omega)]; rw [if_neg hl] at hX; exact hX.symm
end Go.Proofs.Ytonnnjaooifpjaa
