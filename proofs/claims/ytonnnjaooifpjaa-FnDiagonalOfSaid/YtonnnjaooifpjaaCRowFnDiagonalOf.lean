/- Texts of these proofs put together: DgB, DrB, DrE, DrG, DrL, LvK, LvM, LvU, LawFnDiagonalOf, RowFnDiagonalOf. No condition. -/
import Derived.Test.YtonnnjaooifpjaaD1RowFnDiagonalOf
import Derived.Test.YtonnnjaooifpjaaM1
import Derived.Test.YtonnnjaooifpjaaM2
import Derived.Test.YtonnnjaooifpjaaM3
import Derived.Test.YtonnnjaooifpjaaM4
set_option linter.unusedVariables false
set_option linter.unusedSimpArgs false
/- Walks: DiagonalOf of the reference. -/
namespace Go.Proofs.Ytonnnjaooifpjaa
open Go.RowKit
set_option linter.unusedVariables false
set_option maxRecDepth 100000

set_option maxHeartbeats 6400000 in
theorem specDia_0 (b1 : Int) (u1 v1 : Value) (s1 t1 : List Int) (d f : Int) (w : World) (l1 m1 : Nat) (h1 : Ints w l1 u1 s1) (k1 : Ints w m1 v1 t1) (hdim : dimB b1 s1 t1 d = false) (hvv : viewB b1 s1 t1 = false) :
  Calls Try.prog 65 #[.agg #[.int .i64 b1, u1, v1], .int .i64 d, .int .i64 f] w (PVX w (diaV b1 s1 t1 d f)) := by
 obtain ⟨p0, c0, rfl⟩ := h1.form
 obtain ⟨p1, c1, rfl⟩ := k1.form
 replace hvv := Lib.hid hvv
 replace hdim := Lib.hid hdim
 go_enter Try.func65, Try.ntmps65
 go_wp2_with fail
 generalize hW1 : (w.alloc (.cells #[.int .i64 b1, .slice p0 s1.length c0, .slice p1 t1.length c1] 25)).alloc (.cells #[.int .i64 0, .slice none 0 0, .slice none 0 0] 25) = w1 at *
 have Lw1 : Ext w w1 := by subst hW1; exact qXt
 have Xw1 : Ext w w1 := by subst hW1; exact Lw1
 have b10 : w1.cell? ⟨w.heap.size, 0, none⟩ = some (.int .i64 b1) := by subst hW1; exact qCl
 have b11 : w1.cell? ⟨w.heap.size, 1, none⟩ = some (.slice p0 s1.length c0) := by subst hW1; exact qCl
 have b12 : w1.cell? ⟨w.heap.size, 2, none⟩ = some (.slice p1 t1.length c1) := by subst hW1; exact qCl
 have b20 : w1.cell? ⟨w.heap.size + 1, 0, none⟩ = some (.int .i64 0) := by subst hW1; exact qCl
 have b21 : w1.cell? ⟨w.heap.size + 1, 1, none⟩ = some (.slice none 0 0) := by subst hW1; exact qCl
 have b22 : w1.cell? ⟨w.heap.size + 1, 2, none⟩ = some (.slice none 0 0) := by subst hW1; exact qCl
 have f_b20 : w1.frozen? ⟨w.heap.size + 1, 0, none⟩ = false := by subst hW1; exact qFz
 have f_b21 : w1.frozen? ⟨w.heap.size + 1, 1, none⟩ = false := by subst hW1; exact qFz
 have f_b22 : w1.frozen? ⟨w.heap.size + 1, 2, none⟩ = false := by subst hW1; exact qFz
 have z_b1 : w.heap.size < w1.heap.size := qB b10
 have z_b2 : w.heap.size + 1 < w1.heap.size := qB b20
 have s_w1 : w.heap.size ≤ w1.heap.size := Xw1.size
 clear hW1
 refine wp_region_tail (S := fun w' => w'.cell? ⟨w.heap.size, 0, none⟩ = some (.int .i64 b1) ∧ w'.cell? ⟨w.heap.size, 1, none⟩ = some (.slice p0 s1.length c0) ∧ w'.cell? ⟨w.heap.size, 2, none⟩ = some (.slice p1 t1.length c1)) (fun i => decide (33 ≤ i)) qKr ⟨b10, b11, b12⟩ (fun hHeld => ?_)
 refine qTk (v := ?_) 0 rfl (.inl ⟨by rfl, ?_⟩) ?_
 rotate_left
 ·
  (intro w hSw; (try dsimp only at hSw); go_simp; try with_reducible rfl)
 try simp only [Act.put, qa, qb, qc, qD, qE, qF]
 refine wpTail_one (i := 1) qKr rfl rfl (fun K hK => ?_)
 try simp only [Act.put, qa, qb, qc, qD, qE, qF]
 go_simp
 refine (validView_c b1 (.slice p0 s1.length c0) (.slice p1 t1.length c1) s1 t1 _ _ _ (h1.ext (Xw1.trans qXt)) (k1.ext (Xw1.trans qXt))).mono ?_
 rintro e w2 ⟨rfl, xw2⟩
 have Lw2 : Ext w1 w2 := Ext.trans qXt xw2
 have Xw2 : Ext w w2 := Xw1.trans Lw2
 replace b10 := Lw2.cell b10
 replace b11 := Lw2.cell b11
 replace b12 := Lw2.cell b12
 replace b20 := Lw2.cell b20
 replace b21 := Lw2.cell b21
 replace b22 := Lw2.cell b22
 replace f_b20 := Lw2.frz z_b2 f_b20
 replace f_b21 := Lw2.frz z_b2 f_b21
 replace f_b22 := Lw2.frz z_b2 f_b22
 have z_b1 : w.heap.size < w2.heap.size := qB b10
 have z_b2 : w.heap.size + 1 < w2.heap.size := qB b20
 have s_w2 : w.heap.size ≤ w2.heap.size := Xw2.size
 clear xw2
 rw [hvv.out]
 refine hK.out _ _ ⟨b10, b11, b12⟩ (fun hHeld => ?_)
 clear hK K
 try simp only [Act.put, qa, qb, qc, qD, qE, qF]
 refine qTk (v := ?_) 2 rfl (.inl ⟨by rfl, ?_⟩) ?_
 rotate_left
 ·
  (intro w hSw; (try dsimp only at hSw); go_simp; try with_reducible rfl)
 try simp only [Act.put, qa, qb, qc, qD, qE, qF]
 refine qTk (v := ?_) 3 rfl (.inl ⟨by rfl, ?_⟩) ?_
 rotate_left
 ·
  (intro w hSw; (try dsimp only at hSw); go_simp; try with_reducible rfl)
 try simp only [Act.put, qa, qb, qc, qD, qE, qF]
 refine qTs 4 rfl (.inr ⟨by rfl, rfl⟩) ?_
 try simp only [Act.put, qa, qb, qc, qD, qE, qF]
 refine qTs 5 rfl (.inr ⟨by rfl, rfl⟩) ?_
 try simp only [Act.put, qa, qb, qc, qD, qE, qF]
 refine qTs 6 rfl (.inr ⟨by rfl, rfl⟩) ?_
 try simp only [Act.put, qa, qb, qc, qD, qE, qF]
 refine qTs 7 rfl (.inr ⟨by rfl, rfl⟩) ?_
 try simp only [Act.put, qa, qb, qc, qD, qE, qF]
 refine qTk (v := ?_) 8 rfl (.inl ⟨by rfl, ?_⟩) ?_
 rotate_left
 ·
  (intro w hSw; (try dsimp only at hSw); go_simp; try with_reducible rfl)
 try simp only [Act.put, qa, qb, qc, qD, qE, qF]
 refine qTk (v := ?_) 9 rfl (.inl ⟨by rfl, ?_⟩) ?_
 rotate_left
 ·
  (intro w hSw; (try dsimp only at hSw); go_simp; try with_reducible rfl)
 try simp only [Act.put, qa, qb, qc, qD, qE, qF]
 refine qTs 10 rfl (.inr ⟨by rfl, rfl⟩) ?_
 try simp only [Act.put, qa, qb, qc, qD, qE, qF]
 refine qTs 11 rfl (.inr ⟨by rfl, rfl⟩) ?_
 try simp only [Act.put, qa, qb, qc, qD, qE, qF]
 refine qTs 12 rfl (.inr ⟨by rfl, rfl⟩) ?_
 try simp only [Act.put, qa, qb, qc, qD, qE, qF]
 refine qTs 13 rfl (.inr ⟨by rfl, rfl⟩) ?_
 try simp only [Act.put, qa, qb, qc, qD, qE, qF]
 refine qTk (v := ?_) 14 rfl (.inl ⟨by rfl, ?_⟩) ?_
 rotate_left
 ·
  (intro w hSw; (try dsimp only at hSw); go_simp; try with_reducible rfl)
 try simp only [Act.put, qa, qb, qc, qD, qE, qF]
 refine qTk (v := ?_) 15 rfl (.inl ⟨by rfl, ?_⟩) ?_
 rotate_left
 ·
  (intro w hSw; (try dsimp only at hSw); go_simp; try with_reducible rfl)
 try simp only [Act.put, qa, qb, qc, qD, qE, qF]
 refine qTs 16 rfl (.inr ⟨by rfl, rfl⟩) ?_
 try simp only [Act.put, qa, qb, qc, qD, qE, qF]
 refine qTs 17 rfl (.inr ⟨by rfl, rfl⟩) ?_
 try simp only [Act.put, qa, qb, qc, qD, qE, qF]
 refine qTs 18 rfl (.inr ⟨by rfl, rfl⟩) ?_
 try simp only [Act.put, qa, qb, qc, qD, qE, qF]
 refine qTk (v := ?_) 19 rfl (.inl ⟨by rfl, ?_⟩) ?_
 rotate_left
 ·
  (intro w hSw; (try dsimp only at hSw); go_simp; try with_reducible rfl)
 try simp only [Act.put, qa, qb, qc, qD, qE, qF]
 refine qTk (v := ?_) 20 rfl (.inl ⟨by rfl, ?_⟩) ?_
 rotate_left
 ·
  (intro w hSw; (try dsimp only at hSw); go_simp; try with_reducible rfl)
 try simp only [Act.put, qa, qb, qc, qD, qE, qF]
 refine qTs 21 rfl (.inr ⟨by rfl, rfl⟩) ?_
 try simp only [Act.put, qa, qb, qc, qD, qE, qF]
 refine qTs 22 rfl (.inr ⟨by rfl, rfl⟩) ?_
 try simp only [Act.put, qa, qb, qc, qD, qE, qF]
 refine qTs 23 rfl (.inr ⟨by rfl, rfl⟩) ?_
 try simp only [Act.put, qa, qb, qc, qD, qE, qF]
 refine qTs 24 rfl (.inr ⟨by rfl, rfl⟩) ?_
 try simp only [Act.put, qa, qb, qc, qD, qE, qF]
 refine qTs 25 rfl (.inr ⟨by rfl, rfl⟩) ?_
 try simp only [Act.put, qa, qb, qc, qD, qE, qF]
 refine qTs 26 rfl (.inr ⟨by rfl, rfl⟩) ?_
 try simp only [Act.put, qa, qb, qc, qD, qE, qF]
 refine qTs 27 rfl (.inr ⟨by rfl, rfl⟩) ?_
 try simp only [Act.put, qa, qb, qc, qD, qE, qF]
 refine qTs 28 rfl (.inr ⟨by rfl, rfl⟩) ?_
 try simp only [Act.put, qa, qb, qc, qD, qE, qF]
 refine qTs 29 rfl (.inr ⟨by rfl, rfl⟩) ?_
 try simp only [Act.put, qa, qb, qc, qD, qE, qF]
 refine qTs 30 rfl (.inr ⟨by rfl, rfl⟩) ?_
 try simp only [Act.put, qa, qb, qc, qD, qE, qF]
 refine qTs 31 rfl (.inr ⟨by rfl, rfl⟩) ?_
 try simp only [Act.put, qa, qb, qc, qD, qE, qF]
 refine qTk (v := ?_) 32 rfl (.inl ⟨by rfl, ?_⟩) ?_
 rotate_left
 ·
  (intro w hSw; (try dsimp only at hSw); go_simp; try with_reducible rfl)
 try simp only [Act.put, qa, qb, qc, qD, qE, qF]
 refine wpTail_done qKr ?_ _
 clear hHeld 
 go_wp2_with fail
 generalize hW2 : (((w2.setCell ⟨w.heap.size + 1, 0, none⟩ (.int .i64 0)).setCell ⟨w.heap.size + 1, 1, none⟩ (.slice none 0 0)).setCell ⟨w.heap.size + 1, 2, none⟩ (.slice none 0 0)) = w3 at *
 have Kw3 : Chg (w.heap.size + 1) (w.heap.size + 1 + 1) w2 w3 := by subst hW2; exact qCh
 have Xw3 : Ext w w3 := by subst hW2; exact qXt
 replace b10 := Kw3.cell (by omega) b10
 replace b11 := Kw3.cell (by omega) b11
 replace b12 := Kw3.cell (by omega) b12
 replace b20 : w3.cell? ⟨w.heap.size + 1, 0, none⟩ = some (.int .i64 0) := by subst hW2; go_simp
 replace f_b20 : w3.frozen? ⟨w.heap.size + 1, 0, none⟩ = false := by subst hW2; first | (simp only [World.frozen?_setCell]; with_reducible assumption) | go_simp
 replace b21 : w3.cell? ⟨w.heap.size + 1, 1, none⟩ = some (.slice none 0 0) := by subst hW2; go_simp
 replace f_b21 : w3.frozen? ⟨w.heap.size + 1, 1, none⟩ = false := by subst hW2; first | (simp only [World.frozen?_setCell]; with_reducible assumption) | go_simp
 replace b22 : w3.cell? ⟨w.heap.size + 1, 2, none⟩ = some (.slice none 0 0) := by subst hW2; go_simp
 replace f_b22 : w3.frozen? ⟨w.heap.size + 1, 2, none⟩ = false := by subst hW2; first | (simp only [World.frozen?_setCell]; with_reducible assumption) | go_simp
 clear Kw3
 have z_b1 : w.heap.size < w3.heap.size := qB b10
 have z_b2 : w.heap.size + 1 < w3.heap.size := qB b20
 have s_w3 : w.heap.size ≤ w3.heap.size := Xw3.size
 clear hW2
 refine bodyPost_ret (v := .tuple #[.agg #[.int .i64 0, .slice none 0 0, .slice none 0 0], .bool false]) (by simp only [results, Try.results65]; go_simp) rfl ?_
 rw [show diaV b1 s1 t1 d f = noV from dia_no1 hdim.out]
 exact PVWB.no (Xw3.trans qXt)

set_option maxHeartbeats 6400000 in
theorem specDia_1 (b1 : Int) (u1 v1 : Value) (s1 t1 : List Int) (d f : Int) (w : World) (l1 m1 : Nat) (h1 : Ints w l1 u1 s1) (k1 : Ints w m1 v1 t1) (hdim : dimB b1 s1 t1 d = false) (hvv : viewB b1 s1 t1 = true) (hin : inB 0 ((s1.length : Int) - 1) d = false) :
  Calls Try.prog 65 #[.agg #[.int .i64 b1, u1, v1], .int .i64 d, .int .i64 f] w (PVX w (diaV b1 s1 t1 d f)) := by
 obtain ⟨p0, c0, rfl⟩ := h1.form
 obtain ⟨p1, c1, rfl⟩ := k1.form
 have hs4 := (view_small hvv).1
 replace hvv := Lib.hid hvv
 replace hin := Lib.hid hin
 replace hdim := Lib.hid hdim
 go_enter Try.func65, Try.ntmps65
 go_wp2_with fail
 generalize hW3 : (w.alloc (.cells #[.int .i64 b1, .slice p0 s1.length c0, .slice p1 t1.length c1] 25)).alloc (.cells #[.int .i64 0, .slice none 0 0, .slice none 0 0] 25) = w1 at *
 have Lw1 : Ext w w1 := by subst hW3; exact qXt
 have Xw1 : Ext w w1 := by subst hW3; exact Lw1
 have b10 : w1.cell? ⟨w.heap.size, 0, none⟩ = some (.int .i64 b1) := by subst hW3; exact qCl
 have b11 : w1.cell? ⟨w.heap.size, 1, none⟩ = some (.slice p0 s1.length c0) := by subst hW3; exact qCl
 have b12 : w1.cell? ⟨w.heap.size, 2, none⟩ = some (.slice p1 t1.length c1) := by subst hW3; exact qCl
 have b20 : w1.cell? ⟨w.heap.size + 1, 0, none⟩ = some (.int .i64 0) := by subst hW3; exact qCl
 have b21 : w1.cell? ⟨w.heap.size + 1, 1, none⟩ = some (.slice none 0 0) := by subst hW3; exact qCl
 have b22 : w1.cell? ⟨w.heap.size + 1, 2, none⟩ = some (.slice none 0 0) := by subst hW3; exact qCl
 have f_b20 : w1.frozen? ⟨w.heap.size + 1, 0, none⟩ = false := by subst hW3; exact qFz
 have f_b21 : w1.frozen? ⟨w.heap.size + 1, 1, none⟩ = false := by subst hW3; exact qFz
 have f_b22 : w1.frozen? ⟨w.heap.size + 1, 2, none⟩ = false := by subst hW3; exact qFz
 have z_b1 : w.heap.size < w1.heap.size := qB b10
 have z_b2 : w.heap.size + 1 < w1.heap.size := qB b20
 have s_w1 : w.heap.size ≤ w1.heap.size := Xw1.size
 clear hW3
 refine wp_region_tail (S := fun w' => w'.cell? ⟨w.heap.size, 0, none⟩ = some (.int .i64 b1) ∧ w'.cell? ⟨w.heap.size, 1, none⟩ = some (.slice p0 s1.length c0) ∧ w'.cell? ⟨w.heap.size, 2, none⟩ = some (.slice p1 t1.length c1)) (fun i => decide (33 ≤ i)) qKr ⟨b10, b11, b12⟩ (fun hHeld => ?_)
 refine qTk (v := ?_) 0 rfl (.inl ⟨by rfl, ?_⟩) ?_
 rotate_left
 ·
  (intro w hSw; (try dsimp only at hSw); go_simp; try with_reducible rfl)
 try simp only [Act.put, qa, qb, qc, qD, qE, qF]
 refine wpTail_one (i := 1) qKr rfl rfl (fun K hK => ?_)
 try simp only [Act.put, qa, qb, qc, qD, qE, qF]
 go_simp
 refine (validView_c b1 (.slice p0 s1.length c0) (.slice p1 t1.length c1) s1 t1 _ _ _ (h1.ext (Xw1.trans qXt)) (k1.ext (Xw1.trans qXt))).mono ?_
 rintro e w2 ⟨rfl, xw2⟩
 have Lw2 : Ext w1 w2 := Ext.trans qXt xw2
 have Xw2 : Ext w w2 := Xw1.trans Lw2
 replace b10 := Lw2.cell b10
 replace b11 := Lw2.cell b11
 replace b12 := Lw2.cell b12
 replace b20 := Lw2.cell b20
 replace b21 := Lw2.cell b21
 replace b22 := Lw2.cell b22
 replace f_b20 := Lw2.frz z_b2 f_b20
 replace f_b21 := Lw2.frz z_b2 f_b21
 replace f_b22 := Lw2.frz z_b2 f_b22
 have z_b1 : w.heap.size < w2.heap.size := qB b10
 have z_b2 : w.heap.size + 1 < w2.heap.size := qB b20
 have s_w2 : w.heap.size ≤ w2.heap.size := Xw2.size
 clear xw2
 rw [hvv.out]
 refine hK.out _ _ ⟨b10, b11, b12⟩ (fun hHeld => ?_)
 clear hK K
 try simp only [Act.put, qa, qb, qc, qD, qE, qF]
 refine qTk (v := ?_) 2 rfl (.inl ⟨by rfl, ?_⟩) ?_
 rotate_left
 ·
  (intro w hSw; (try dsimp only at hSw); go_simp; try with_reducible rfl)
 try simp only [Act.put, qa, qb, qc, qD, qE, qF]
 refine qTk (v := ?_) 3 rfl (.inl ⟨by rfl, ?_⟩) ?_
 rotate_left
 ·
  (intro w hSw; (try dsimp only at hSw); go_simp; try with_reducible rfl)
 try simp only [Act.put, qa, qb, qc, qD, qE, qF]
 refine qTk (v := ?_) 4 rfl (.inl ⟨by rfl, ?_⟩) ?_
 rotate_left
 ·
  (intro w hSw; (try dsimp only at hSw); go_simp; try with_reducible rfl)
 try simp only [Act.put, qa, qb, qc, qD, qE, qF]
 refine qTk (v := ?_) 5 rfl (.inl ⟨by rfl, ?_⟩) ?_
 rotate_left
 ·
  (intro w hSw; (try dsimp only at hSw); go_simp; try with_reducible rfl)
 try simp only [Act.put, qa, qb, qc, qD, qE, qF]
 refine wpTail_one (i := 6) qKr rfl rfl (fun K hK => ?_)
 try simp only [Act.put, qa, qb, qc, qD, qE, qF]
 go_simp
 refine (isDim_c b1 (.slice p0 s1.length c0) (.slice p1 t1.length c1) s1 t1 d _ _ _ (h1.ext (Xw2.trans qXt)) (k1.ext (Xw2.trans qXt)) hs4).mono ?_
 rintro e w3 ⟨rfl, xw3⟩
 have Lw3 : Ext w2 w3 := Ext.trans qXt xw3
 have Xw3 : Ext w w3 := Xw2.trans Lw3
 replace b10 := Lw3.cell b10
 replace b11 := Lw3.cell b11
 replace b12 := Lw3.cell b12
 replace b20 := Lw3.cell b20
 replace b21 := Lw3.cell b21
 replace b22 := Lw3.cell b22
 replace f_b20 := Lw3.frz z_b2 f_b20
 replace f_b21 := Lw3.frz z_b2 f_b21
 replace f_b22 := Lw3.frz z_b2 f_b22
 have z_b1 : w.heap.size < w3.heap.size := qB b10
 have z_b2 : w.heap.size + 1 < w3.heap.size := qB b20
 have s_w3 : w.heap.size ≤ w3.heap.size := Xw3.size
 clear xw3
 rw [hin.out]
 refine hK.out _ _ ⟨b10, b11, b12⟩ (fun hHeld => ?_)
 clear hK K
 try simp only [Act.put, qa, qb, qc, qD, qE, qF]
 refine qTk (v := ?_) 7 rfl (.inl ⟨by rfl, ?_⟩) ?_
 rotate_left
 ·
  (intro w hSw; (try dsimp only at hSw); go_simp; try with_reducible rfl)
 try simp only [Act.put, qa, qb, qc, qD, qE, qF]
 refine qTk (v := ?_) 8 rfl (.inl ⟨by rfl, ?_⟩) ?_
 rotate_left
 ·
  (intro w hSw; (try dsimp only at hSw); go_simp; try with_reducible rfl)
 try simp only [Act.put, qa, qb, qc, qD, qE, qF]
 refine qTk (v := ?_) 9 rfl (.inl ⟨by rfl, ?_⟩) ?_
 rotate_left
 ·
  (intro w hSw; (try dsimp only at hSw); go_simp; try with_reducible rfl)
 try simp only [Act.put, qa, qb, qc, qD, qE, qF]
 refine qTs 10 rfl (.inr ⟨by rfl, rfl⟩) ?_
 try simp only [Act.put, qa, qb, qc, qD, qE, qF]
 refine qTs 11 rfl (.inr ⟨by rfl, rfl⟩) ?_
 try simp only [Act.put, qa, qb, qc, qD, qE, qF]
 refine qTs 12 rfl (.inr ⟨by rfl, rfl⟩) ?_
 try simp only [Act.put, qa, qb, qc, qD, qE, qF]
 refine qTs 13 rfl (.inr ⟨by rfl, rfl⟩) ?_
 try simp only [Act.put, qa, qb, qc, qD, qE, qF]
 refine qTk (v := ?_) 14 rfl (.inl ⟨by rfl, ?_⟩) ?_
 rotate_left
 ·
  (intro w hSw; (try dsimp only at hSw); go_simp; try with_reducible rfl)
 try simp only [Act.put, qa, qb, qc, qD, qE, qF]
 refine qTk (v := ?_) 15 rfl (.inl ⟨by rfl, ?_⟩) ?_
 rotate_left
 ·
  (intro w hSw; (try dsimp only at hSw); go_simp; try with_reducible rfl)
 try simp only [Act.put, qa, qb, qc, qD, qE, qF]
 refine qTs 16 rfl (.inr ⟨by rfl, rfl⟩) ?_
 try simp only [Act.put, qa, qb, qc, qD, qE, qF]
 refine qTs 17 rfl (.inr ⟨by rfl, rfl⟩) ?_
 try simp only [Act.put, qa, qb, qc, qD, qE, qF]
 refine qTs 18 rfl (.inr ⟨by rfl, rfl⟩) ?_
 try simp only [Act.put, qa, qb, qc, qD, qE, qF]
 refine qTk (v := ?_) 19 rfl (.inl ⟨by rfl, ?_⟩) ?_
 rotate_left
 ·
  (intro w hSw; (try dsimp only at hSw); go_simp; try with_reducible rfl)
 try simp only [Act.put, qa, qb, qc, qD, qE, qF]
 refine qTk (v := ?_) 20 rfl (.inl ⟨by rfl, ?_⟩) ?_
 rotate_left
 ·
  (intro w hSw; (try dsimp only at hSw); go_simp; try with_reducible rfl)
 try simp only [Act.put, qa, qb, qc, qD, qE, qF]
 refine qTs 21 rfl (.inr ⟨by rfl, rfl⟩) ?_
 try simp only [Act.put, qa, qb, qc, qD, qE, qF]
 refine qTs 22 rfl (.inr ⟨by rfl, rfl⟩) ?_
 try simp only [Act.put, qa, qb, qc, qD, qE, qF]
 refine qTs 23 rfl (.inr ⟨by rfl, rfl⟩) ?_
 try simp only [Act.put, qa, qb, qc, qD, qE, qF]
 refine qTs 24 rfl (.inr ⟨by rfl, rfl⟩) ?_
 try simp only [Act.put, qa, qb, qc, qD, qE, qF]
 refine qTs 25 rfl (.inr ⟨by rfl, rfl⟩) ?_
 try simp only [Act.put, qa, qb, qc, qD, qE, qF]
 refine qTs 26 rfl (.inr ⟨by rfl, rfl⟩) ?_
 try simp only [Act.put, qa, qb, qc, qD, qE, qF]
 refine qTs 27 rfl (.inr ⟨by rfl, rfl⟩) ?_
 try simp only [Act.put, qa, qb, qc, qD, qE, qF]
 refine qTs 28 rfl (.inr ⟨by rfl, rfl⟩) ?_
 try simp only [Act.put, qa, qb, qc, qD, qE, qF]
 refine qTs 29 rfl (.inr ⟨by rfl, rfl⟩) ?_
 try simp only [Act.put, qa, qb, qc, qD, qE, qF]
 refine qTs 30 rfl (.inr ⟨by rfl, rfl⟩) ?_
 try simp only [Act.put, qa, qb, qc, qD, qE, qF]
 refine qTs 31 rfl (.inr ⟨by rfl, rfl⟩) ?_
 try simp only [Act.put, qa, qb, qc, qD, qE, qF]
 refine qTk (v := ?_) 32 rfl (.inl ⟨by rfl, ?_⟩) ?_
 rotate_left
 ·
  (intro w hSw; (try dsimp only at hSw); go_simp; try with_reducible rfl)
 try simp only [Act.put, qa, qb, qc, qD, qE, qF]
 refine wpTail_done qKr ?_ _
 clear hHeld 
 go_wp2_with fail
 generalize hW4 : (((w3.setCell ⟨w.heap.size + 1, 0, none⟩ (.int .i64 0)).setCell ⟨w.heap.size + 1, 1, none⟩ (.slice none 0 0)).setCell ⟨w.heap.size + 1, 2, none⟩ (.slice none 0 0)) = w4 at *
 have Kw4 : Chg (w.heap.size + 1) (w.heap.size + 1 + 1) w3 w4 := by subst hW4; exact qCh
 have Xw4 : Ext w w4 := by subst hW4; exact qXt
 replace b10 := Kw4.cell (by omega) b10
 replace b11 := Kw4.cell (by omega) b11
 replace b12 := Kw4.cell (by omega) b12
 replace b20 : w4.cell? ⟨w.heap.size + 1, 0, none⟩ = some (.int .i64 0) := by subst hW4; go_simp
 replace f_b20 : w4.frozen? ⟨w.heap.size + 1, 0, none⟩ = false := by subst hW4; first | (simp only [World.frozen?_setCell]; with_reducible assumption) | go_simp
 replace b21 : w4.cell? ⟨w.heap.size + 1, 1, none⟩ = some (.slice none 0 0) := by subst hW4; go_simp
 replace f_b21 : w4.frozen? ⟨w.heap.size + 1, 1, none⟩ = false := by subst hW4; first | (simp only [World.frozen?_setCell]; with_reducible assumption) | go_simp
 replace b22 : w4.cell? ⟨w.heap.size + 1, 2, none⟩ = some (.slice none 0 0) := by subst hW4; go_simp
 replace f_b22 : w4.frozen? ⟨w.heap.size + 1, 2, none⟩ = false := by subst hW4; first | (simp only [World.frozen?_setCell]; with_reducible assumption) | go_simp
 clear Kw4
 have z_b1 : w.heap.size < w4.heap.size := qB b10
 have z_b2 : w.heap.size + 1 < w4.heap.size := qB b20
 have s_w4 : w.heap.size ≤ w4.heap.size := Xw4.size
 clear hW4
 refine bodyPost_ret (v := .tuple #[.agg #[.int .i64 0, .slice none 0 0, .slice none 0 0], .bool false]) (by simp only [results, Try.results65]; go_simp) rfl ?_
 rw [show diaV b1 s1 t1 d f = noV from dia_no1 hdim.out]
 exact PVWB.no (Xw4.trans qXt)

set_option maxHeartbeats 6400000 in
theorem specDia_2 (b1 : Int) (u1 v1 : Value) (s1 t1 : List Int) (D : Nat) (f : Int) (w : World) (l1 m1 : Nat) (h1 : Ints w l1 u1 s1) (k1 : Ints w m1 v1 t1) (hdim : dimB b1 s1 t1 (D : Int) = true) (hin : inB 0 ((s1.length : Int) - 1) (D : Int) = true) (hdim2 : dimB b1 s1 t1 f = false) (hin2 : inB 0 ((s1.length : Int) - 1) f = false) :
  Calls Try.prog 65 #[.agg #[.int .i64 b1, u1, v1], .int .i64 (D : Int), .int .i64 f] w (PVX w (diaV b1 s1 t1 (D : Int) f)) := by
 obtain ⟨p0, c0, rfl⟩ := h1.form
 obtain ⟨p1, c1, rfl⟩ := k1.form
 obtain ⟨hvv, hd0, hd1⟩ := dim_in hdim
 have hDN : D < s1.length := by omega
 obtain ⟨-, hts, -, ht60, -⟩ := viewB_in hvv
 have hs4 := view_small hvv
 have hs60 := Lib.hid hs4.2
 have hs4 := hs4.1
 have hDT : D < t1.length := by omega
 have ht4 : t1.length ≤ 4 := by omega
 replace hts := Lib.hid hts
 replace ht60 := Lib.hid ht60
 replace hvv := Lib.hid hvv
 replace hin := Lib.hid hin
 replace hin2 := Lib.hid hin2
 replace hdim2 := Lib.hid hdim2
 replace hdim := Lib.hid hdim
 go_enter Try.func65, Try.ntmps65
 go_wp2_with fail
 generalize hW5 : (w.alloc (.cells #[.int .i64 b1, .slice p0 s1.length c0, .slice p1 t1.length c1] 25)).alloc (.cells #[.int .i64 0, .slice none 0 0, .slice none 0 0] 25) = w1 at *
 have Lw1 : Ext w w1 := by subst hW5; exact qXt
 have Xw1 : Ext w w1 := by subst hW5; exact Lw1
 have b10 : w1.cell? ⟨w.heap.size, 0, none⟩ = some (.int .i64 b1) := by subst hW5; exact qCl
 have b11 : w1.cell? ⟨w.heap.size, 1, none⟩ = some (.slice p0 s1.length c0) := by subst hW5; exact qCl
 have b12 : w1.cell? ⟨w.heap.size, 2, none⟩ = some (.slice p1 t1.length c1) := by subst hW5; exact qCl
 have b20 : w1.cell? ⟨w.heap.size + 1, 0, none⟩ = some (.int .i64 0) := by subst hW5; exact qCl
 have b21 : w1.cell? ⟨w.heap.size + 1, 1, none⟩ = some (.slice none 0 0) := by subst hW5; exact qCl
 have b22 : w1.cell? ⟨w.heap.size + 1, 2, none⟩ = some (.slice none 0 0) := by subst hW5; exact qCl
 have f_b20 : w1.frozen? ⟨w.heap.size + 1, 0, none⟩ = false := by subst hW5; exact qFz
 have f_b21 : w1.frozen? ⟨w.heap.size + 1, 1, none⟩ = false := by subst hW5; exact qFz
 have f_b22 : w1.frozen? ⟨w.heap.size + 1, 2, none⟩ = false := by subst hW5; exact qFz
 have z_b1 : w.heap.size < w1.heap.size := qB b10
 have z_b2 : w.heap.size + 1 < w1.heap.size := qB b20
 have s_w1 : w.heap.size ≤ w1.heap.size := Xw1.size
 clear hW5
 refine wp_region_tail (S := fun w' => w'.cell? ⟨w.heap.size, 0, none⟩ = some (.int .i64 b1) ∧ w'.cell? ⟨w.heap.size, 1, none⟩ = some (.slice p0 s1.length c0) ∧ w'.cell? ⟨w.heap.size, 2, none⟩ = some (.slice p1 t1.length c1)) (fun i => decide (33 ≤ i)) qKr ⟨b10, b11, b12⟩ (fun hHeld => ?_)
 refine qTk (v := ?_) 0 rfl (.inl ⟨by rfl, ?_⟩) ?_
 rotate_left
 ·
  (intro w hSw; (try dsimp only at hSw); go_simp; try with_reducible rfl)
 try simp only [Act.put, qa, qb, qc, qD, qE, qF]
 refine wpTail_one (i := 1) qKr rfl rfl (fun K hK => ?_)
 try simp only [Act.put, qa, qb, qc, qD, qE, qF]
 go_simp
 refine (validView_c b1 (.slice p0 s1.length c0) (.slice p1 t1.length c1) s1 t1 _ _ _ (h1.ext (Xw1.trans qXt)) (k1.ext (Xw1.trans qXt))).mono ?_
 rintro e w2 ⟨rfl, xw2⟩
 have Lw2 : Ext w1 w2 := Ext.trans qXt xw2
 have Xw2 : Ext w w2 := Xw1.trans Lw2
 replace b10 := Lw2.cell b10
 replace b11 := Lw2.cell b11
 replace b12 := Lw2.cell b12
 replace b20 := Lw2.cell b20
 replace b21 := Lw2.cell b21
 replace b22 := Lw2.cell b22
 replace f_b20 := Lw2.frz z_b2 f_b20
 replace f_b21 := Lw2.frz z_b2 f_b21
 replace f_b22 := Lw2.frz z_b2 f_b22
 have z_b1 : w.heap.size < w2.heap.size := qB b10
 have z_b2 : w.heap.size + 1 < w2.heap.size := qB b20
 have s_w2 : w.heap.size ≤ w2.heap.size := Xw2.size
 clear xw2
 rw [hvv.out]
 refine hK.out _ _ ⟨b10, b11, b12⟩ (fun hHeld => ?_)
 clear hK K
 try simp only [Act.put, qa, qb, qc, qD, qE, qF]
 refine qTk (v := ?_) 2 rfl (.inl ⟨by rfl, ?_⟩) ?_
 rotate_left
 ·
  (intro w hSw; (try dsimp only at hSw); go_simp; try with_reducible rfl)
 try simp only [Act.put, qa, qb, qc, qD, qE, qF]
 refine qTk (v := ?_) 3 rfl (.inl ⟨by rfl, ?_⟩) ?_
 rotate_left
 ·
  (intro w hSw; (try dsimp only at hSw); go_simp; try with_reducible rfl)
 try simp only [Act.put, qa, qb, qc, qD, qE, qF]
 refine qTk (v := ?_) 4 rfl (.inl ⟨by rfl, ?_⟩) ?_
 rotate_left
 ·
  (intro w hSw; (try dsimp only at hSw); go_simp; try with_reducible rfl)
 try simp only [Act.put, qa, qb, qc, qD, qE, qF]
 refine qTk (v := ?_) 5 rfl (.inl ⟨by rfl, ?_⟩) ?_
 rotate_left
 ·
  (intro w hSw; (try dsimp only at hSw); go_simp; try with_reducible rfl)
 try simp only [Act.put, qa, qb, qc, qD, qE, qF]
 refine wpTail_one (i := 6) qKr rfl rfl (fun K hK => ?_)
 try simp only [Act.put, qa, qb, qc, qD, qE, qF]
 go_simp
 refine (isDim_c b1 (.slice p0 s1.length c0) (.slice p1 t1.length c1) s1 t1 (D : Int) _ _ _ (h1.ext (Xw2.trans qXt)) (k1.ext (Xw2.trans qXt)) hs4).mono ?_
 rintro e w3 ⟨rfl, xw3⟩
 have Lw3 : Ext w2 w3 := Ext.trans qXt xw3
 have Xw3 : Ext w w3 := Xw2.trans Lw3
 replace b10 := Lw3.cell b10
 replace b11 := Lw3.cell b11
 replace b12 := Lw3.cell b12
 replace b20 := Lw3.cell b20
 replace b21 := Lw3.cell b21
 replace b22 := Lw3.cell b22
 replace f_b20 := Lw3.frz z_b2 f_b20
 replace f_b21 := Lw3.frz z_b2 f_b21
 replace f_b22 := Lw3.frz z_b2 f_b22
 have z_b1 : w.heap.size < w3.heap.size := qB b10
 have z_b2 : w.heap.size + 1 < w3.heap.size := qB b20
 have s_w3 : w.heap.size ≤ w3.heap.size := Xw3.size
 clear xw3
 rw [hin.out]
 refine hK.out _ _ ⟨b10, b11, b12⟩ (fun hHeld => ?_)
 clear hK K
 try simp only [Act.put, qa, qb, qc, qD, qE, qF]
 refine qTk (v := ?_) 7 rfl (.inl ⟨by rfl, ?_⟩) ?_
 rotate_left
 ·
  (intro w hSw; (try dsimp only at hSw); go_simp; try with_reducible rfl)
 try simp only [Act.put, qa, qb, qc, qD, qE, qF]
 refine qTk (v := ?_) 8 rfl (.inl ⟨by rfl, ?_⟩) ?_
 rotate_left
 ·
  (intro w hSw; (try dsimp only at hSw); go_simp; try with_reducible rfl)
 try simp only [Act.put, qa, qb, qc, qD, qE, qF]
 refine qTk (v := ?_) 9 rfl (.inl ⟨by rfl, ?_⟩) ?_
 rotate_left
 ·
  (intro w hSw; (try dsimp only at hSw); go_simp; try with_reducible rfl)
 try simp only [Act.put, qa, qb, qc, qD, qE, qF]
 refine qTk (v := ?_) 10 rfl (.inl ⟨by rfl, ?_⟩) ?_
 rotate_left
 ·
  (intro w hSw; (try dsimp only at hSw); go_simp; try with_reducible rfl)
 try simp only [Act.put, qa, qb, qc, qD, qE, qF]
 refine qTk (v := ?_) 11 rfl (.inl ⟨by rfl, ?_⟩) ?_
 rotate_left
 ·
  (intro w hSw; (try dsimp only at hSw); go_simp; try with_reducible rfl)
 try simp only [Act.put, qa, qb, qc, qD, qE, qF]
 refine wpTail_one (i := 12) qKr rfl rfl (fun K hK => ?_)
 try simp only [Act.put, qa, qb, qc, qD, qE, qF]
 go_simp
 refine (isDim_c b1 (.slice p0 s1.length c0) (.slice p1 t1.length c1) s1 t1 f _ _ _ (h1.ext (Xw3.trans qXt)) (k1.ext (Xw3.trans qXt)) hs4).mono ?_
 rintro e w4 ⟨rfl, xw4⟩
 have Lw4 : Ext w3 w4 := Ext.trans qXt xw4
 have Xw4 : Ext w w4 := Xw3.trans Lw4
 replace b10 := Lw4.cell b10
 replace b11 := Lw4.cell b11
 replace b12 := Lw4.cell b12
 replace b20 := Lw4.cell b20
 replace b21 := Lw4.cell b21
 replace b22 := Lw4.cell b22
 replace f_b20 := Lw4.frz z_b2 f_b20
 replace f_b21 := Lw4.frz z_b2 f_b21
 replace f_b22 := Lw4.frz z_b2 f_b22
 have z_b1 : w.heap.size < w4.heap.size := qB b10
 have z_b2 : w.heap.size + 1 < w4.heap.size := qB b20
 have s_w4 : w.heap.size ≤ w4.heap.size := Xw4.size
 clear xw4
 rw [hin2.out]
 refine hK.out _ _ ⟨b10, b11, b12⟩ (fun hHeld => ?_)
 clear hK K
 try simp only [Act.put, qa, qb, qc, qD, qE, qF]
 refine qTk (v := ?_) 13 rfl (.inl ⟨by rfl, ?_⟩) ?_
 rotate_left
 ·
  (intro w hSw; (try dsimp only at hSw); go_simp; try with_reducible rfl)
 try simp only [Act.put, qa, qb, qc, qD, qE, qF]
 refine qTk (v := ?_) 14 rfl (.inl ⟨by rfl, ?_⟩) ?_
 rotate_left
 ·
  (intro w hSw; (try dsimp only at hSw); go_simp; try with_reducible rfl)
 try simp only [Act.put, qa, qb, qc, qD, qE, qF]
 refine qTk (v := ?_) 15 rfl (.inl ⟨by rfl, ?_⟩) ?_
 rotate_left
 ·
  (intro w hSw; (try dsimp only at hSw); go_simp; try with_reducible rfl)
 try simp only [Act.put, qa, qb, qc, qD, qE, qF]
 refine qTs 16 rfl (.inr ⟨by rfl, rfl⟩) ?_
 try simp only [Act.put, qa, qb, qc, qD, qE, qF]
 refine qTs 17 rfl (.inr ⟨by rfl, rfl⟩) ?_
 try simp only [Act.put, qa, qb, qc, qD, qE, qF]
 refine qTs 18 rfl (.inr ⟨by rfl, rfl⟩) ?_
 try simp only [Act.put, qa, qb, qc, qD, qE, qF]
 refine qTk (v := ?_) 19 rfl (.inl ⟨by rfl, ?_⟩) ?_
 rotate_left
 ·
  (intro w hSw; (try dsimp only at hSw); go_simp; try with_reducible rfl)
 try simp only [Act.put, qa, qb, qc, qD, qE, qF]
 refine qTk (v := ?_) 20 rfl (.inl ⟨by rfl, ?_⟩) ?_
 rotate_left
 ·
  (intro w hSw; (try dsimp only at hSw); go_simp; try with_reducible rfl)
 try simp only [Act.put, qa, qb, qc, qD, qE, qF]
 refine qTs 21 rfl (.inr ⟨by rfl, rfl⟩) ?_
 try simp only [Act.put, qa, qb, qc, qD, qE, qF]
 refine qTs 22 rfl (.inr ⟨by rfl, rfl⟩) ?_
 try simp only [Act.put, qa, qb, qc, qD, qE, qF]
 refine qTs 23 rfl (.inr ⟨by rfl, rfl⟩) ?_
 try simp only [Act.put, qa, qb, qc, qD, qE, qF]
 refine qTs 24 rfl (.inr ⟨by rfl, rfl⟩) ?_
 try simp only [Act.put, qa, qb, qc, qD, qE, qF]
 refine qTs 25 rfl (.inr ⟨by rfl, rfl⟩) ?_
 try simp only [Act.put, qa, qb, qc, qD, qE, qF]
 refine qTs 26 rfl (.inr ⟨by rfl, rfl⟩) ?_
 try simp only [Act.put, qa, qb, qc, qD, qE, qF]
 refine qTs 27 rfl (.inr ⟨by rfl, rfl⟩) ?_
 try simp only [Act.put, qa, qb, qc, qD, qE, qF]
 refine qTs 28 rfl (.inr ⟨by rfl, rfl⟩) ?_
 try simp only [Act.put, qa, qb, qc, qD, qE, qF]
 refine qTs 29 rfl (.inr ⟨by rfl, rfl⟩) ?_
 try simp only [Act.put, qa, qb, qc, qD, qE, qF]
 refine qTs 30 rfl (.inr ⟨by rfl, rfl⟩) ?_
 try simp only [Act.put, qa, qb, qc, qD, qE, qF]
 refine qTs 31 rfl (.inr ⟨by rfl, rfl⟩) ?_
 try simp only [Act.put, qa, qb, qc, qD, qE, qF]
 refine qTk (v := ?_) 32 rfl (.inl ⟨by rfl, ?_⟩) ?_
 rotate_left
 ·
  (intro w hSw; (try dsimp only at hSw); go_simp; try with_reducible rfl)
 try simp only [Act.put, qa, qb, qc, qD, qE, qF]
 refine wpTail_done qKr ?_ _
 clear hHeld 
 go_wp2_with fail
 generalize hW6 : (((w4.setCell ⟨w.heap.size + 1, 0, none⟩ (.int .i64 0)).setCell ⟨w.heap.size + 1, 1, none⟩ (.slice none 0 0)).setCell ⟨w.heap.size + 1, 2, none⟩ (.slice none 0 0)) = w5 at *
 have Kw5 : Chg (w.heap.size + 1) (w.heap.size + 1 + 1) w4 w5 := by subst hW6; exact qCh
 have Xw5 : Ext w w5 := by subst hW6; exact qXt
 replace b10 := Kw5.cell (by omega) b10
 replace b11 := Kw5.cell (by omega) b11
 replace b12 := Kw5.cell (by omega) b12
 replace b20 : w5.cell? ⟨w.heap.size + 1, 0, none⟩ = some (.int .i64 0) := by subst hW6; go_simp
 replace f_b20 : w5.frozen? ⟨w.heap.size + 1, 0, none⟩ = false := by subst hW6; first | (simp only [World.frozen?_setCell]; with_reducible assumption) | go_simp
 replace b21 : w5.cell? ⟨w.heap.size + 1, 1, none⟩ = some (.slice none 0 0) := by subst hW6; go_simp
 replace f_b21 : w5.frozen? ⟨w.heap.size + 1, 1, none⟩ = false := by subst hW6; first | (simp only [World.frozen?_setCell]; with_reducible assumption) | go_simp
 replace b22 : w5.cell? ⟨w.heap.size + 1, 2, none⟩ = some (.slice none 0 0) := by subst hW6; go_simp
 replace f_b22 : w5.frozen? ⟨w.heap.size + 1, 2, none⟩ = false := by subst hW6; first | (simp only [World.frozen?_setCell]; with_reducible assumption) | go_simp
 clear Kw5
 have z_b1 : w.heap.size < w5.heap.size := qB b10
 have z_b2 : w.heap.size + 1 < w5.heap.size := qB b20
 have s_w5 : w.heap.size ≤ w5.heap.size := Xw5.size
 clear hW6
 refine bodyPost_ret (v := .tuple #[.agg #[.int .i64 0, .slice none 0 0, .slice none 0 0], .bool false]) (by simp only [results, Try.results65]; go_simp) rfl ?_
 rw [show diaV b1 s1 t1 (D : Int) f = noV from dia_no2 hdim2.out]
 exact PVWB.no (Xw5.trans qXt)

set_option maxHeartbeats 6400000 in
theorem specDia_3 (b1 : Int) (u1 v1 : Value) (s1 t1 : List Int) (D C : Nat) (w : World) (l1 m1 : Nat) (h1 : Ints w l1 u1 s1) (k1 : Ints w m1 v1 t1) (hdim : dimB b1 s1 t1 (D : Int) = true) (hin : inB 0 ((s1.length : Int) - 1) (D : Int) = true) (hdim2 : dimB b1 s1 t1 (C : Int) = true) (hin2 : inB 0 ((s1.length : Int) - 1) (C : Int) = true) (hne : (D : Int) = (C : Int)) :
  Calls Try.prog 65 #[.agg #[.int .i64 b1, u1, v1], .int .i64 (D : Int), .int .i64 (C : Int)] w (PVX w (diaV b1 s1 t1 (D : Int) (C : Int))) := by
 obtain ⟨p0, c0, rfl⟩ := h1.form
 obtain ⟨p1, c1, rfl⟩ := k1.form
 obtain ⟨hvv, hd0, hd1⟩ := dim_in hdim
 have hDN : D < s1.length := by omega
 obtain ⟨-, hts, -, ht60, -⟩ := viewB_in hvv
 have hs4 := view_small hvv
 have hs60 := Lib.hid hs4.2
 have hs4 := hs4.1
 have hDT : D < t1.length := by omega
 have ht4 : t1.length ≤ 4 := by omega
 obtain ⟨-, hf0, hf1⟩ := dim_in hdim2
 have hCN : C < s1.length := by omega
 have hCT : C < t1.length := by omega
 have hdc4 : (delL s1 C).length ≤ 4 := by rw [delL_len _ _ hCN]; omega
 replace hts := Lib.hid hts
 replace ht60 := Lib.hid ht60
 replace hvv := Lib.hid hvv
 replace hin := Lib.hid hin
 replace hin2 := Lib.hid hin2
 replace hdim2 := Lib.hid hdim2
 have hnee : ((D : Int) == (C : Int)) = true := by simpa using hne
 have hnen : ((D : Int) != (C : Int)) = false := by simpa using hne
 replace hne := Lib.hid hne
 replace hdim := Lib.hid hdim
 go_enter Try.func65, Try.ntmps65
 go_wp2_with fail
 generalize hW7 : (w.alloc (.cells #[.int .i64 b1, .slice p0 s1.length c0, .slice p1 t1.length c1] 25)).alloc (.cells #[.int .i64 0, .slice none 0 0, .slice none 0 0] 25) = w1 at *
 have Lw1 : Ext w w1 := by subst hW7; exact qXt
 have Xw1 : Ext w w1 := by subst hW7; exact Lw1
 have b10 : w1.cell? ⟨w.heap.size, 0, none⟩ = some (.int .i64 b1) := by subst hW7; exact qCl
 have b11 : w1.cell? ⟨w.heap.size, 1, none⟩ = some (.slice p0 s1.length c0) := by subst hW7; exact qCl
 have b12 : w1.cell? ⟨w.heap.size, 2, none⟩ = some (.slice p1 t1.length c1) := by subst hW7; exact qCl
 have b20 : w1.cell? ⟨w.heap.size + 1, 0, none⟩ = some (.int .i64 0) := by subst hW7; exact qCl
 have b21 : w1.cell? ⟨w.heap.size + 1, 1, none⟩ = some (.slice none 0 0) := by subst hW7; exact qCl
 have b22 : w1.cell? ⟨w.heap.size + 1, 2, none⟩ = some (.slice none 0 0) := by subst hW7; exact qCl
 have f_b20 : w1.frozen? ⟨w.heap.size + 1, 0, none⟩ = false := by subst hW7; exact qFz
 have f_b21 : w1.frozen? ⟨w.heap.size + 1, 1, none⟩ = false := by subst hW7; exact qFz
 have f_b22 : w1.frozen? ⟨w.heap.size + 1, 2, none⟩ = false := by subst hW7; exact qFz
 have z_b1 : w.heap.size < w1.heap.size := qB b10
 have z_b2 : w.heap.size + 1 < w1.heap.size := qB b20
 have s_w1 : w.heap.size ≤ w1.heap.size := Xw1.size
 clear hW7
 refine wp_region_tail (S := fun w' => w'.cell? ⟨w.heap.size, 0, none⟩ = some (.int .i64 b1) ∧ w'.cell? ⟨w.heap.size, 1, none⟩ = some (.slice p0 s1.length c0) ∧ w'.cell? ⟨w.heap.size, 2, none⟩ = some (.slice p1 t1.length c1)) (fun i => decide (33 ≤ i)) qKr ⟨b10, b11, b12⟩ (fun hHeld => ?_)
 refine qTk (v := ?_) 0 rfl (.inl ⟨by rfl, ?_⟩) ?_
 rotate_left
 ·
  (intro w hSw; (try dsimp only at hSw); go_simp; try with_reducible rfl)
 try simp only [Act.put, qa, qb, qc, qD, qE, qF]
 refine wpTail_one (i := 1) qKr rfl rfl (fun K hK => ?_)
 try simp only [Act.put, qa, qb, qc, qD, qE, qF]
 go_simp
 refine (validView_c b1 (.slice p0 s1.length c0) (.slice p1 t1.length c1) s1 t1 _ _ _ (h1.ext (Xw1.trans qXt)) (k1.ext (Xw1.trans qXt))).mono ?_
 rintro e w2 ⟨rfl, xw2⟩
 have Lw2 : Ext w1 w2 := Ext.trans qXt xw2
 have Xw2 : Ext w w2 := Xw1.trans Lw2
 replace b10 := Lw2.cell b10
 replace b11 := Lw2.cell b11
 replace b12 := Lw2.cell b12
 replace b20 := Lw2.cell b20
 replace b21 := Lw2.cell b21
 replace b22 := Lw2.cell b22
 replace f_b20 := Lw2.frz z_b2 f_b20
 replace f_b21 := Lw2.frz z_b2 f_b21
 replace f_b22 := Lw2.frz z_b2 f_b22
 have z_b1 : w.heap.size < w2.heap.size := qB b10
 have z_b2 : w.heap.size + 1 < w2.heap.size := qB b20
 have s_w2 : w.heap.size ≤ w2.heap.size := Xw2.size
 clear xw2
 rw [hvv.out]
 refine hK.out _ _ ⟨b10, b11, b12⟩ (fun hHeld => ?_)
 clear hK K
 try simp only [Act.put, qa, qb, qc, qD, qE, qF]
 refine qTk (v := ?_) 2 rfl (.inl ⟨by rfl, ?_⟩) ?_
 rotate_left
 ·
  (intro w hSw; (try dsimp only at hSw); go_simp; try with_reducible rfl)
 try simp only [Act.put, qa, qb, qc, qD, qE, qF]
 refine qTk (v := ?_) 3 rfl (.inl ⟨by rfl, ?_⟩) ?_
 rotate_left
 ·
  (intro w hSw; (try dsimp only at hSw); go_simp; try with_reducible rfl)
 try simp only [Act.put, qa, qb, qc, qD, qE, qF]
 refine qTk (v := ?_) 4 rfl (.inl ⟨by rfl, ?_⟩) ?_
 rotate_left
 ·
  (intro w hSw; (try dsimp only at hSw); go_simp; try with_reducible rfl)
 try simp only [Act.put, qa, qb, qc, qD, qE, qF]
 refine qTk (v := ?_) 5 rfl (.inl ⟨by rfl, ?_⟩) ?_
 rotate_left
 ·
  (intro w hSw; (try dsimp only at hSw); go_simp; try with_reducible rfl)
 try simp only [Act.put, qa, qb, qc, qD, qE, qF]
 refine wpTail_one (i := 6) qKr rfl rfl (fun K hK => ?_)
 try simp only [Act.put, qa, qb, qc, qD, qE, qF]
 go_simp
 refine (isDim_c b1 (.slice p0 s1.length c0) (.slice p1 t1.length c1) s1 t1 (D : Int) _ _ _ (h1.ext (Xw2.trans qXt)) (k1.ext (Xw2.trans qXt)) hs4).mono ?_
 rintro e w3 ⟨rfl, xw3⟩
 have Lw3 : Ext w2 w3 := Ext.trans qXt xw3
 have Xw3 : Ext w w3 := Xw2.trans Lw3
 replace b10 := Lw3.cell b10
 replace b11 := Lw3.cell b11
 replace b12 := Lw3.cell b12
 replace b20 := Lw3.cell b20
 replace b21 := Lw3.cell b21
 replace b22 := Lw3.cell b22
 replace f_b20 := Lw3.frz z_b2 f_b20
 replace f_b21 := Lw3.frz z_b2 f_b21
 replace f_b22 := Lw3.frz z_b2 f_b22
 have z_b1 : w.heap.size < w3.heap.size := qB b10
 have z_b2 : w.heap.size + 1 < w3.heap.size := qB b20
 have s_w3 : w.heap.size ≤ w3.heap.size := Xw3.size
 clear xw3
 rw [hin.out]
 refine hK.out _ _ ⟨b10, b11, b12⟩ (fun hHeld => ?_)
 clear hK K
 try simp only [Act.put, qa, qb, qc, qD, qE, qF]
 refine qTk (v := ?_) 7 rfl (.inl ⟨by rfl, ?_⟩) ?_
 rotate_left
 ·
  (intro w hSw; (try dsimp only at hSw); go_simp; try with_reducible rfl)
 try simp only [Act.put, qa, qb, qc, qD, qE, qF]
 refine qTk (v := ?_) 8 rfl (.inl ⟨by rfl, ?_⟩) ?_
 rotate_left
 ·
  (intro w hSw; (try dsimp only at hSw); go_simp; try with_reducible rfl)
 try simp only [Act.put, qa, qb, qc, qD, qE, qF]
 refine qTk (v := ?_) 9 rfl (.inl ⟨by rfl, ?_⟩) ?_
 rotate_left
 ·
  (intro w hSw; (try dsimp only at hSw); go_simp; try with_reducible rfl)
 try simp only [Act.put, qa, qb, qc, qD, qE, qF]
 refine qTk (v := ?_) 10 rfl (.inl ⟨by rfl, ?_⟩) ?_
 rotate_left
 ·
  (intro w hSw; (try dsimp only at hSw); go_simp; try with_reducible rfl)
 try simp only [Act.put, qa, qb, qc, qD, qE, qF]
 refine qTk (v := ?_) 11 rfl (.inl ⟨by rfl, ?_⟩) ?_
 rotate_left
 ·
  (intro w hSw; (try dsimp only at hSw); go_simp; try with_reducible rfl)
 try simp only [Act.put, qa, qb, qc, qD, qE, qF]
 refine wpTail_one (i := 12) qKr rfl rfl (fun K hK => ?_)
 try simp only [Act.put, qa, qb, qc, qD, qE, qF]
 go_simp
 refine (isDim_c b1 (.slice p0 s1.length c0) (.slice p1 t1.length c1) s1 t1 (C : Int) _ _ _ (h1.ext (Xw3.trans qXt)) (k1.ext (Xw3.trans qXt)) hs4).mono ?_
 rintro e w4 ⟨rfl, xw4⟩
 have Lw4 : Ext w3 w4 := Ext.trans qXt xw4
 have Xw4 : Ext w w4 := Xw3.trans Lw4
 replace b10 := Lw4.cell b10
 replace b11 := Lw4.cell b11
 replace b12 := Lw4.cell b12
 replace b20 := Lw4.cell b20
 replace b21 := Lw4.cell b21
 replace b22 := Lw4.cell b22
 replace f_b20 := Lw4.frz z_b2 f_b20
 replace f_b21 := Lw4.frz z_b2 f_b21
 replace f_b22 := Lw4.frz z_b2 f_b22
 have z_b1 : w.heap.size < w4.heap.size := qB b10
 have z_b2 : w.heap.size + 1 < w4.heap.size := qB b20
 have s_w4 : w.heap.size ≤ w4.heap.size := Xw4.size
 clear xw4
 rw [hin2.out]
 refine hK.out _ _ ⟨b10, b11, b12⟩ (fun hHeld => ?_)
 clear hK K
 try simp only [Act.put, qa, qb, qc, qD, qE, qF]
 refine qTk (v := ?_) 13 rfl (.inl ⟨by rfl, ?_⟩) ?_
 rotate_left
 ·
  (intro w hSw; (try dsimp only at hSw); go_simp; try with_reducible rfl)
 try simp only [Act.put, qa, qb, qc, qD, qE, qF]
 refine qTk (v := ?_) 14 rfl (.inl ⟨by rfl, ?_⟩) ?_
 rotate_left
 ·
  (intro w hSw; (try dsimp only at hSw); go_simp; try with_reducible rfl)
 try simp only [Act.put, qa, qb, qc, qD, qE, qF]
 refine qTk (v := ?_) 15 rfl (.inl ⟨by rfl, ?_⟩) ?_
 rotate_left
 ·
  (intro w hSw; (try dsimp only at hSw); go_simp; try with_reducible rfl)
 try simp only [Act.put, qa, qb, qc, qD, qE, qF]
 refine qTk (v := ?_) 16 rfl (.inl ⟨by rfl, ?_⟩) ?_
 rotate_left
 ·
  (intro w hSw; (try dsimp only at hSw); go_simp; try with_reducible rfl)
 try simp only [Act.put, qa, qb, qc, qD, qE, qF]
 refine qTk (v := ?_) 17 rfl (.inl ⟨by rfl, ?_⟩) ?_
 rotate_left
 ·
  (intro w hSw; (try dsimp only at hSw); go_simp; try with_reducible rfl)
 try simp only [Act.put, qa, qb, qc, qD, qE, qF]
 refine qTk (v := ?_) 18 rfl (.inl ⟨by rfl, ?_⟩) ?_
 rotate_left
 ·
  (intro w hSw; (try dsimp only at hSw); go_simp; try with_reducible rfl)
 try simp only [Act.put, qa, qb, qc, qD, qE, qF]
 refine qTk (v := ?_) 19 rfl (.inl ⟨by rfl, ?_⟩) ?_
 rotate_left
 ·
  (intro w hSw; (try dsimp only at hSw); go_simp; try with_reducible rfl)
 try simp only [Act.put, qa, qb, qc, qD, qE, qF]
 refine qTk (v := ?_) 20 rfl (.inl ⟨by rfl, ?_⟩) ?_
 rotate_left
 ·
  (intro w hSw; (try dsimp only at hSw); go_simp; try with_reducible rfl)
 try simp only [Act.put, qa, qb, qc, qD, qE, qF]
 refine qTs 21 rfl (.inr ⟨by rfl, rfl⟩) ?_
 try simp only [Act.put, qa, qb, qc, qD, qE, qF]
 refine qTs 22 rfl (.inr ⟨by rfl, rfl⟩) ?_
 try simp only [Act.put, qa, qb, qc, qD, qE, qF]
 refine qTs 23 rfl (.inr ⟨by rfl, rfl⟩) ?_
 try simp only [Act.put, qa, qb, qc, qD, qE, qF]
 refine qTs 24 rfl (.inr ⟨by rfl, rfl⟩) ?_
 try simp only [Act.put, qa, qb, qc, qD, qE, qF]
 refine qTs 25 rfl (.inr ⟨by rfl, rfl⟩) ?_
 try simp only [Act.put, qa, qb, qc, qD, qE, qF]
 refine qTs 26 rfl (.inr ⟨by rfl, rfl⟩) ?_
 try simp only [Act.put, qa, qb, qc, qD, qE, qF]
 refine qTs 27 rfl (.inr ⟨by rfl, rfl⟩) ?_
 try simp only [Act.put, qa, qb, qc, qD, qE, qF]
 refine qTs 28 rfl (.inr ⟨by rfl, rfl⟩) ?_
 try simp only [Act.put, qa, qb, qc, qD, qE, qF]
 refine qTs 29 rfl (.inr ⟨by rfl, rfl⟩) ?_
 try simp only [Act.put, qa, qb, qc, qD, qE, qF]
 refine qTs 30 rfl (.inr ⟨by rfl, rfl⟩) ?_
 try simp only [Act.put, qa, qb, qc, qD, qE, qF]
 refine qTs 31 rfl (.inr ⟨by rfl, rfl⟩) ?_
 try simp only [Act.put, qa, qb, qc, qD, qE, qF]
 refine qTk (v := ?_) 32 rfl (.inl ⟨by rfl, ?_⟩) ?_
 rotate_left
 ·
  (intro w hSw; (try dsimp only at hSw); go_simp; try with_reducible rfl)
 try simp only [Act.put, qa, qb, qc, qD, qE, qF]
 refine wpTail_done qKr ?_ _
 clear hHeld 
 go_wp2_with fail
 generalize hW8 : (((w4.setCell ⟨w.heap.size + 1, 0, none⟩ (.int .i64 0)).setCell ⟨w.heap.size + 1, 1, none⟩ (.slice none 0 0)).setCell ⟨w.heap.size + 1, 2, none⟩ (.slice none 0 0)) = w5 at *
 have Kw5 : Chg (w.heap.size + 1) (w.heap.size + 1 + 1) w4 w5 := by subst hW8; exact qCh
 have Xw5 : Ext w w5 := by subst hW8; exact qXt
 replace b10 := Kw5.cell (by omega) b10
 replace b11 := Kw5.cell (by omega) b11
 replace b12 := Kw5.cell (by omega) b12
 replace b20 : w5.cell? ⟨w.heap.size + 1, 0, none⟩ = some (.int .i64 0) := by subst hW8; go_simp
 replace f_b20 : w5.frozen? ⟨w.heap.size + 1, 0, none⟩ = false := by subst hW8; first | (simp only [World.frozen?_setCell]; with_reducible assumption) | go_simp
 replace b21 : w5.cell? ⟨w.heap.size + 1, 1, none⟩ = some (.slice none 0 0) := by subst hW8; go_simp
 replace f_b21 : w5.frozen? ⟨w.heap.size + 1, 1, none⟩ = false := by subst hW8; first | (simp only [World.frozen?_setCell]; with_reducible assumption) | go_simp
 replace b22 : w5.cell? ⟨w.heap.size + 1, 2, none⟩ = some (.slice none 0 0) := by subst hW8; go_simp
 replace f_b22 : w5.frozen? ⟨w.heap.size + 1, 2, none⟩ = false := by subst hW8; first | (simp only [World.frozen?_setCell]; with_reducible assumption) | go_simp
 clear Kw5
 have z_b1 : w.heap.size < w5.heap.size := qB b10
 have z_b2 : w.heap.size + 1 < w5.heap.size := qB b20
 have s_w5 : w.heap.size ≤ w5.heap.size := Xw5.size
 clear hW8
 refine bodyPost_ret (v := .tuple #[.agg #[.int .i64 0, .slice none 0 0, .slice none 0 0], .bool false]) (by simp only [results, Try.results65]; go_simp) rfl ?_
 rw [show diaV b1 s1 t1 (D : Int) (C : Int) = noV from dia_no3 hne.out]
 exact PVWB.no (Xw5.trans qXt)

set_option maxHeartbeats 6400000 in
theorem specDia_4 (b1 : Int) (u1 v1 : Value) (s1 t1 : List Int) (D C : Nat) (w : World) (l1 m1 : Nat) (h1 : Ints w l1 u1 s1) (k1 : Ints w m1 v1 t1) (hdim : dimB b1 s1 t1 (D : Int) = true) (hin : inB 0 ((s1.length : Int) - 1) (D : Int) = true) (hdim2 : dimB b1 s1 t1 (C : Int) = true) (hin2 : inB 0 ((s1.length : Int) - 1) (C : Int) = true) (hne : ¬ (D : Int) = (C : Int)) :
  Calls Try.prog 65 #[.agg #[.int .i64 b1, u1, v1], .int .i64 (D : Int), .int .i64 (C : Int)] w (PVX w (diaV b1 s1 t1 (D : Int) (C : Int))) := by
 obtain ⟨p0, c0, rfl⟩ := h1.form
 obtain ⟨p1, c1, rfl⟩ := k1.form
 obtain ⟨hvv, hd0, hd1⟩ := dim_in hdim
 have hDN : D < s1.length := by omega
 obtain ⟨-, hts, -, ht60, -⟩ := viewB_in hvv
 have hs4 := view_small hvv
 have hs60 := Lib.hid hs4.2
 have hs4 := hs4.1
 have hDT : D < t1.length := by omega
 have ht4 : t1.length ≤ 4 := by omega
 obtain ⟨-, hf0, hf1⟩ := dim_in hdim2
 have hCN : C < s1.length := by omega
 have hCT : C < t1.length := by omega
 have hdc4 : (delL s1 C).length ≤ 4 := by rw [delL_len _ _ hCN]; omega
 replace hts := Lib.hid hts
 replace ht60 := Lib.hid ht60
 replace hvv := Lib.hid hvv
 replace hin := Lib.hid hin
 replace hin2 := Lib.hid hin2
 replace hdim2 := Lib.hid hdim2
 have hnee : ((D : Int) == (C : Int)) = false := by simpa using hne
 have hnen : ((D : Int) != (C : Int)) = true := by simpa using hne
 replace hne := Lib.hid hne
 replace hdim := Lib.hid hdim
 go_enter Try.func65, Try.ntmps65
 go_wp2_with fail
 generalize hW9 : (w.alloc (.cells #[.int .i64 b1, .slice p0 s1.length c0, .slice p1 t1.length c1] 25)).alloc (.cells #[.int .i64 0, .slice none 0 0, .slice none 0 0] 25) = w1 at *
 have Lw1 : Ext w w1 := by subst hW9; exact qXt
 have Xw1 : Ext w w1 := by subst hW9; exact Lw1
 have b10 : w1.cell? ⟨w.heap.size, 0, none⟩ = some (.int .i64 b1) := by subst hW9; exact qCl
 have b11 : w1.cell? ⟨w.heap.size, 1, none⟩ = some (.slice p0 s1.length c0) := by subst hW9; exact qCl
 have b12 : w1.cell? ⟨w.heap.size, 2, none⟩ = some (.slice p1 t1.length c1) := by subst hW9; exact qCl
 have b20 : w1.cell? ⟨w.heap.size + 1, 0, none⟩ = some (.int .i64 0) := by subst hW9; exact qCl
 have b21 : w1.cell? ⟨w.heap.size + 1, 1, none⟩ = some (.slice none 0 0) := by subst hW9; exact qCl
 have b22 : w1.cell? ⟨w.heap.size + 1, 2, none⟩ = some (.slice none 0 0) := by subst hW9; exact qCl
 have f_b20 : w1.frozen? ⟨w.heap.size + 1, 0, none⟩ = false := by subst hW9; exact qFz
 have f_b21 : w1.frozen? ⟨w.heap.size + 1, 1, none⟩ = false := by subst hW9; exact qFz
 have f_b22 : w1.frozen? ⟨w.heap.size + 1, 2, none⟩ = false := by subst hW9; exact qFz
 have z_b1 : w.heap.size < w1.heap.size := qB b10
 have z_b2 : w.heap.size + 1 < w1.heap.size := qB b20
 have s_w1 : w.heap.size ≤ w1.heap.size := Xw1.size
 clear hW9
 have hN_e5 : D < s1.length := (by simpa using hDN)
 have hI_e5 : (D : Int) < (s1.length : Int) := by omega
 obtain ⟨bl3, ol4, rfl, e50⟩ := h1.at D (by simpa using hDN)
 have y_e5 : bl3 < w.heap.size := qB e50
 replace e50 := Xw1.cell e50
 obtain ⟨v6, hv6⟩ : ∃ v, s1.getD D 0 = v := ⟨_, rfl⟩
 rw [hv6] at e50
 replace hv6 := Lib.hid hv6
 have z_e5 : bl3 < w1.heap.size := qB e50
 have h60v6 := hs60.out _ (getD_mem (show D < s1.length by omega))
 rw [hv6.out] at h60v6
 have hN_e9 : C < s1.length := (by simpa using hCN)
 have hI_e9 : (C : Int) < (s1.length : Int) := by omega
 obtain ⟨b_e9, o_e9, h_e9, e90⟩ := h1.at C (by simpa using hCN)
 cases h_e9
 have y_e9 : bl3 < w.heap.size := qB e90
 replace e90 := Xw1.cell e90
 obtain ⟨v10, hv10⟩ : ∃ v, s1.getD C 0 = v := ⟨_, rfl⟩
 rw [hv10] at e90
 replace hv10 := Lib.hid hv10
 have z_e9 : bl3 < w1.heap.size := qB e90
 have h60v10 := hs60.out _ (getD_mem (show C < s1.length by omega))
 rw [hv10.out] at h60v10
 refine wp_region_tail (S := fun w' => w'.cell? ⟨w.heap.size, 0, none⟩ = some (.int .i64 b1) ∧ w'.cell? ⟨w.heap.size, 1, none⟩ = some (.slice (some ⟨bl3, ol4, none⟩) s1.length c0) ∧ w'.cell? ⟨w.heap.size, 2, none⟩ = some (.slice p1 t1.length c1) ∧ w'.cell? ⟨bl3, ol4 + D, none⟩ = some (.int .i64 v6) ∧ w'.cell? ⟨bl3, ol4 + C, none⟩ = some (.int .i64 v10)) (fun i => decide (33 ≤ i)) qKr ⟨b10, b11, b12, e50, e90⟩ (fun hHeld => ?_)
 refine qTk (v := ?_) 0 rfl (.inl ⟨by rfl, ?_⟩) ?_
 rotate_left
 ·
  (intro w hSw; (try dsimp only at hSw); go_simp; try with_reducible rfl)
 try simp only [Act.put, qa, qb, qc, qD, qE, qF]
 refine wpTail_one (i := 1) qKr rfl rfl (fun K hK => ?_)
 try simp only [Act.put, qa, qb, qc, qD, qE, qF]
 go_simp
 refine (validView_c b1 (.slice (some ⟨bl3, ol4, none⟩) s1.length c0) (.slice p1 t1.length c1) s1 t1 _ _ _ (h1.ext (Xw1.trans qXt)) (k1.ext (Xw1.trans qXt))).mono ?_
 rintro e w2 ⟨rfl, xw2⟩
 have Lw2 : Ext w1 w2 := Ext.trans qXt xw2
 have Xw2 : Ext w w2 := Xw1.trans Lw2
 replace b10 := Lw2.cell b10
 replace b11 := Lw2.cell b11
 replace b12 := Lw2.cell b12
 replace b20 := Lw2.cell b20
 replace b21 := Lw2.cell b21
 replace b22 := Lw2.cell b22
 replace f_b20 := Lw2.frz z_b2 f_b20
 replace f_b21 := Lw2.frz z_b2 f_b21
 replace f_b22 := Lw2.frz z_b2 f_b22
 replace e50 := Lw2.cell e50
 replace e90 := Lw2.cell e90
 have z_b1 : w.heap.size < w2.heap.size := qB b10
 have z_b2 : w.heap.size + 1 < w2.heap.size := qB b20
 have z_e5 : bl3 < w2.heap.size := qB e50
 have z_e9 : bl3 < w2.heap.size := qB e90
 have s_w2 : w.heap.size ≤ w2.heap.size := Xw2.size
 clear xw2
 rw [hvv.out]
 refine hK.out _ _ ⟨b10, b11, b12, e50, e90⟩ (fun hHeld => ?_)
 clear hK K
 try simp only [Act.put, qa, qb, qc, qD, qE, qF]
 refine qTk (v := ?_) 2 rfl (.inl ⟨by rfl, ?_⟩) ?_
 rotate_left
 ·
  (intro w hSw; (try dsimp only at hSw); go_simp; try with_reducible rfl)
 try simp only [Act.put, qa, qb, qc, qD, qE, qF]
 refine qTk (v := ?_) 3 rfl (.inl ⟨by rfl, ?_⟩) ?_
 rotate_left
 ·
  (intro w hSw; (try dsimp only at hSw); go_simp; try with_reducible rfl)
 try simp only [Act.put, qa, qb, qc, qD, qE, qF]
 refine qTk (v := ?_) 4 rfl (.inl ⟨by rfl, ?_⟩) ?_
 rotate_left
 ·
  (intro w hSw; (try dsimp only at hSw); go_simp; try with_reducible rfl)
 try simp only [Act.put, qa, qb, qc, qD, qE, qF]
 refine qTk (v := ?_) 5 rfl (.inl ⟨by rfl, ?_⟩) ?_
 rotate_left
 ·
  (intro w hSw; (try dsimp only at hSw); go_simp; try with_reducible rfl)
 try simp only [Act.put, qa, qb, qc, qD, qE, qF]
 refine wpTail_one (i := 6) qKr rfl rfl (fun K hK => ?_)
 try simp only [Act.put, qa, qb, qc, qD, qE, qF]
 go_simp
 refine (isDim_c b1 (.slice (some ⟨bl3, ol4, none⟩) s1.length c0) (.slice p1 t1.length c1) s1 t1 (D : Int) _ _ _ (h1.ext (Xw2.trans qXt)) (k1.ext (Xw2.trans qXt)) hs4).mono ?_
 rintro e w3 ⟨rfl, xw3⟩
 have Lw3 : Ext w2 w3 := Ext.trans qXt xw3
 have Xw3 : Ext w w3 := Xw2.trans Lw3
 replace b10 := Lw3.cell b10
 replace b11 := Lw3.cell b11
 replace b12 := Lw3.cell b12
 replace b20 := Lw3.cell b20
 replace b21 := Lw3.cell b21
 replace b22 := Lw3.cell b22
 replace f_b20 := Lw3.frz z_b2 f_b20
 replace f_b21 := Lw3.frz z_b2 f_b21
 replace f_b22 := Lw3.frz z_b2 f_b22
 replace e50 := Lw3.cell e50
 replace e90 := Lw3.cell e90
 have z_b1 : w.heap.size < w3.heap.size := qB b10
 have z_b2 : w.heap.size + 1 < w3.heap.size := qB b20
 have z_e5 : bl3 < w3.heap.size := qB e50
 have z_e9 : bl3 < w3.heap.size := qB e90
 have s_w3 : w.heap.size ≤ w3.heap.size := Xw3.size
 clear xw3
 rw [hin.out]
 refine hK.out _ _ ⟨b10, b11, b12, e50, e90⟩ (fun hHeld => ?_)
 clear hK K
 try simp only [Act.put, qa, qb, qc, qD, qE, qF]
 refine qTk (v := ?_) 7 rfl (.inl ⟨by rfl, ?_⟩) ?_
 rotate_left
 ·
  (intro w hSw; (try dsimp only at hSw); go_simp; try with_reducible rfl)
 try simp only [Act.put, qa, qb, qc, qD, qE, qF]
 refine qTk (v := ?_) 8 rfl (.inl ⟨by rfl, ?_⟩) ?_
 rotate_left
 ·
  (intro w hSw; (try dsimp only at hSw); go_simp; try with_reducible rfl)
 try simp only [Act.put, qa, qb, qc, qD, qE, qF]
 refine qTk (v := ?_) 9 rfl (.inl ⟨by rfl, ?_⟩) ?_
 rotate_left
 ·
  (intro w hSw; (try dsimp only at hSw); go_simp; try with_reducible rfl)
 try simp only [Act.put, qa, qb, qc, qD, qE, qF]
 refine qTk (v := ?_) 10 rfl (.inl ⟨by rfl, ?_⟩) ?_
 rotate_left
 ·
  (intro w hSw; (try dsimp only at hSw); go_simp; try with_reducible rfl)
 try simp only [Act.put, qa, qb, qc, qD, qE, qF]
 refine qTk (v := ?_) 11 rfl (.inl ⟨by rfl, ?_⟩) ?_
 rotate_left
 ·
  (intro w hSw; (try dsimp only at hSw); go_simp; try with_reducible rfl)
 try simp only [Act.put, qa, qb, qc, qD, qE, qF]
 refine wpTail_one (i := 12) qKr rfl rfl (fun K hK => ?_)
 try simp only [Act.put, qa, qb, qc, qD, qE, qF]
 go_simp
 refine (isDim_c b1 (.slice (some ⟨bl3, ol4, none⟩) s1.length c0) (.slice p1 t1.length c1) s1 t1 (C : Int) _ _ _ (h1.ext (Xw3.trans qXt)) (k1.ext (Xw3.trans qXt)) hs4).mono ?_
 rintro e w4 ⟨rfl, xw4⟩
 have Lw4 : Ext w3 w4 := Ext.trans qXt xw4
 have Xw4 : Ext w w4 := Xw3.trans Lw4
 replace b10 := Lw4.cell b10
 replace b11 := Lw4.cell b11
 replace b12 := Lw4.cell b12
 replace b20 := Lw4.cell b20
 replace b21 := Lw4.cell b21
 replace b22 := Lw4.cell b22
 replace f_b20 := Lw4.frz z_b2 f_b20
 replace f_b21 := Lw4.frz z_b2 f_b21
 replace f_b22 := Lw4.frz z_b2 f_b22
 replace e50 := Lw4.cell e50
 replace e90 := Lw4.cell e90
 have z_b1 : w.heap.size < w4.heap.size := qB b10
 have z_b2 : w.heap.size + 1 < w4.heap.size := qB b20
 have z_e5 : bl3 < w4.heap.size := qB e50
 have z_e9 : bl3 < w4.heap.size := qB e90
 have s_w4 : w.heap.size ≤ w4.heap.size := Xw4.size
 clear xw4
 rw [hin2.out]
 refine hK.out _ _ ⟨b10, b11, b12, e50, e90⟩ (fun hHeld => ?_)
 clear hK K
 try simp only [Act.put, qa, qb, qc, qD, qE, qF]
 refine qTk (v := ?_) 13 rfl (.inl ⟨by rfl, ?_⟩) ?_
 rotate_left
 ·
  (intro w hSw; (try dsimp only at hSw); go_simp; try with_reducible rfl)
 try simp only [Act.put, qa, qb, qc, qD, qE, qF]
 refine qTk (v := ?_) 14 rfl (.inl ⟨by rfl, ?_⟩) ?_
 rotate_left
 ·
  (intro w hSw; (try dsimp only at hSw); go_simp; try with_reducible rfl)
 try simp only [Act.put, qa, qb, qc, qD, qE, qF]
 refine qTk (v := ?_) 15 rfl (.inl ⟨by rfl, ?_⟩) ?_
 rotate_left
 ·
  (intro w hSw; (try dsimp only at hSw); go_simp; try with_reducible rfl)
 try simp only [Act.put, qa, qb, qc, qD, qE, qF]
 refine qTk (v := ?_) 16 rfl (.inl ⟨by rfl, ?_⟩) ?_
 rotate_left
 ·
  (intro w hSw; (try dsimp only at hSw); go_simp; try with_reducible rfl)
 try simp only [Act.put, qa, qb, qc, qD, qE, qF]
 refine qTk (v := ?_) 17 rfl (.inl ⟨by rfl, ?_⟩) ?_
 rotate_left
 ·
  (intro w hSw; (try dsimp only at hSw); go_simp; try with_reducible rfl)
 try simp only [Act.put, qa, qb, qc, qD, qE, qF]
 refine qTk (v := ?_) 18 rfl (.inl ⟨by rfl, ?_⟩) ?_
 rotate_left
 ·
  (intro w hSw; (try dsimp only at hSw); go_simp; try with_reducible rfl)
 try simp only [Act.put, qa, qb, qc, qD, qE, qF]
 refine qTk (v := ?_) 19 rfl (.inl ⟨by rfl, ?_⟩) ?_
 rotate_left
 ·
  (intro w hSw; (try dsimp only at hSw); go_simp; try with_reducible rfl)
 try simp only [Act.put, qa, qb, qc, qD, qE, qF]
 refine qTk (v := ?_) 20 rfl (.inl ⟨by rfl, ?_⟩) ?_
 rotate_left
 ·
  (intro w hSw; (try dsimp only at hSw); go_simp; try with_reducible rfl)
 try simp only [Act.put, qa, qb, qc, qD, qE, qF]
 refine qTk (v := ?_) 21 rfl (.inl ⟨by rfl, ?_⟩) ?_
 rotate_left
 ·
  (intro w hSw; (try dsimp only at hSw); go_simp; try with_reducible rfl)
 try simp only [Act.put, qa, qb, qc, qD, qE, qF]
 refine qTk (v := ?_) 22 rfl (.inl ⟨by rfl, ?_⟩) ?_
 rotate_left
 ·
  (intro w hSw; (try dsimp only at hSw); go_simp; try with_reducible rfl)
 try simp only [Act.put, qa, qb, qc, qD, qE, qF]
 refine qTk (v := ?_) 23 rfl (.inl ⟨by rfl, ?_⟩) ?_
 rotate_left
 ·
  (intro w hSw; (try dsimp only at hSw); go_simp; try with_reducible rfl)
 try simp only [Act.put, qa, qb, qc, qD, qE, qF]
 refine qTk (v := ?_) 24 rfl (.inl ⟨by rfl, ?_⟩) ?_
 rotate_left
 ·
  (intro w hSw; (try dsimp only at hSw); go_simp; try with_reducible rfl)
 try simp only [Act.put, qa, qb, qc, qD, qE, qF]
 refine qTk (v := ?_) 25 rfl (.inl ⟨by rfl, ?_⟩) ?_
 rotate_left
 ·
  (intro w hSw; (try dsimp only at hSw); go_simp; try with_reducible rfl)
 try simp only [Act.put, qa, qb, qc, qD, qE, qF]
 refine qTk (v := ?_) 26 rfl (.inl ⟨by rfl, ?_⟩) ?_
 rotate_left
 ·
  (intro w hSw; (try dsimp only at hSw); go_simp; try with_reducible rfl)
 try simp only [Act.put, qa, qb, qc, qD, qE, qF]
 refine qTk (v := ?_) 27 rfl (.inl ⟨by rfl, ?_⟩) ?_
 rotate_left
 ·
  (intro w hSw; (try dsimp only at hSw); go_simp; try with_reducible rfl)
 try simp only [Act.put, qa, qb, qc, qD, qE, qF]
 refine qTk (v := ?_) 28 rfl (.inl ⟨by rfl, ?_⟩) ?_
 rotate_left
 ·
  (intro w hSw; (try dsimp only at hSw); go_simp; try with_reducible rfl)
 try simp only [Act.put, qa, qb, qc, qD, qE, qF]
 refine qTk (v := ?_) 29 rfl (.inl ⟨by rfl, ?_⟩) ?_
 rotate_left
 ·
  (intro w hSw; (try dsimp only at hSw); go_simp; try with_reducible rfl)
 try simp only [Act.put, qa, qb, qc, qD, qE, qF]
 refine qTk (v := ?_) 30 rfl (.inl ⟨by rfl, ?_⟩) ?_
 rotate_left
 ·
  (intro w hSw; (try dsimp only at hSw); go_simp; try with_reducible rfl)
 try simp only [Act.put, qa, qb, qc, qD, qE, qF]
 by_cases hc17 : (v6 : Int) = (v10 : Int)
 ·
  have hc17e : ((v6 : Int) == (v10 : Int)) = true := by simpa using hc17
  have hc17n : ((v6 : Int) != (v10 : Int)) = false := by simpa using hc17
  replace hc17 := Lib.hid hc17
  refine qTk (v := ?_) 31 rfl (.inl ⟨by rfl, ?_⟩) ?_
  rotate_left
  ·
   (intro w hSw; (try dsimp only at hSw); go_simp; try with_reducible rfl)
  try simp only [Act.put, qa, qb, qc, qD, qE, qF]
  refine qTk (v := ?_) 32 rfl (.inl ⟨by rfl, ?_⟩) ?_
  rotate_left
  ·
   (intro w hSw; (try dsimp only at hSw); go_simp; try with_reducible rfl)
  try simp only [Act.put, qa, qb, qc, qD, qE, qF]
  refine wpTail_done qKr ?_ _
  clear hHeld 
  go_wp2_with fail
  have Q24_b10 := Lib.hid b10
  have Q24_b11 := Lib.hid b11
  have Q24_b12 := Lib.hid b12
  have Q24_zb1 := z_b1
  have Q24_b20 := Lib.hid b20
  have Q24_f_b20 := Lib.hid f_b20
  have Q24_b21 := Lib.hid b21
  have Q24_f_b21 := Lib.hid f_b21
  have Q24_b22 := Lib.hid b22
  have Q24_f_b22 := Lib.hid f_b22
  have Q24_zb2 := z_b2
  have Q24_e50 := Lib.hid e50
  have Q24_ze5 := z_e5
  have Q24_e90 := Lib.hid e90
  have Q24_ze9 := z_e9
  have BL25 : Ext w4 w4 := Ext.refl _
  refine (scopyViewO_c b1 (.slice (some ⟨bl3, ol4, none⟩) s1.length c0) (.slice p1 t1.length c1) s1 t1 _ _ _ (h1.ext (Xw4.trans qXt)) (k1.ext (Xw4.trans qXt))).mono ?_
  rintro e w5 ⟨gr18, gr19, rr20, rr21, rfl, O22, O23, Ggr18, Ggr18', Ggr19, Ggr19', hggr18, xw5⟩
  have Lw5 : Ext w4 w5 := Ext.trans qXt xw5
  have Xw5 : Ext w w5 := Xw4.trans Lw5
  replace b10 := Lw5.cell b10
  replace b11 := Lw5.cell b11
  replace b12 := Lw5.cell b12
  replace b20 := Lw5.cell b20
  replace b21 := Lw5.cell b21
  replace b22 := Lw5.cell b22
  replace f_b20 := Lw5.frz z_b2 f_b20
  replace f_b21 := Lw5.frz z_b2 f_b21
  replace f_b22 := Lw5.frz z_b2 f_b22
  replace e50 := Lw5.cell e50
  replace e90 := Lw5.cell e90
  have z_b1 : w.heap.size < w5.heap.size := qB b10
  have z_b2 : w.heap.size + 1 < w5.heap.size := qB b20
  have z_e5 : bl3 < w5.heap.size := qB e50
  have z_e9 : bl3 < w5.heap.size := qB e90
  have s_w5 : w.heap.size ≤ w5.heap.size := Xw5.size
  have BL25_w5 : Ext w4 w5 := BL25.trans Lw5
  clear xw5
  have Q26_b10 := Lib.hid b10
  have Q26_b11 := Lib.hid b11
  have Q26_b12 := Lib.hid b12
  have Q26_zb1 := z_b1
  have Q26_b20 := Lib.hid b20
  have Q26_f_b20 := Lib.hid f_b20
  have Q26_b21 := Lib.hid b21
  have Q26_f_b21 := Lib.hid f_b21
  have Q26_b22 := Lib.hid b22
  have Q26_f_b22 := Lib.hid f_b22
  have Q26_zb2 := z_b2
  have Q26_e50 := Lib.hid e50
  have Q26_ze5 := z_e5
  have Q26_e90 := Lib.hid e90
  have Q26_ze9 := z_e9
  have Q26_O22 := Lib.hid O22
  have Q26_O23 := Lib.hid O23
  have BL27 : Ext w5 w5 := Ext.refl _
  go_wp2_with fail
  generalize hW10 : w5.alloc (.cells #[.int .i64 b1, .slice (some ⟨gr18, 0, none⟩) s1.length rr20, .slice (some ⟨gr19, 0, none⟩) t1.length rr21] 25) = w6 at *
  have Lw6 : Ext w5 w6 := by subst hW10; exact qXt
  have Xw6 : Ext w w6 := Xw5.trans Lw6
  replace b10 := Lw6.cell b10
  replace b11 := Lw6.cell b11
  replace b12 := Lw6.cell b12
  replace b20 := Lw6.cell b20
  replace b21 := Lw6.cell b21
  replace b22 := Lw6.cell b22
  replace f_b20 := Lw6.frz z_b2 f_b20
  replace f_b21 := Lw6.frz z_b2 f_b21
  replace f_b22 := Lw6.frz z_b2 f_b22
  replace e50 := Lw6.cell e50
  replace e90 := Lw6.cell e90
  have b280 : w6.cell? ⟨w5.heap.size, 0, none⟩ = some (.int .i64 b1) := by subst hW10; exact qCl
  have b281 : w6.cell? ⟨w5.heap.size, 1, none⟩ = some (.slice (some ⟨gr18, 0, none⟩) s1.length rr20) := by subst hW10; exact qCl
  have b282 : w6.cell? ⟨w5.heap.size, 2, none⟩ = some (.slice (some ⟨gr19, 0, none⟩) t1.length rr21) := by subst hW10; exact qCl
  have f_b280 : w6.frozen? ⟨w5.heap.size, 0, none⟩ = false := by subst hW10; exact qFz
  have f_b281 : w6.frozen? ⟨w5.heap.size, 1, none⟩ = false := by subst hW10; exact qFz
  have f_b282 : w6.frozen? ⟨w5.heap.size, 2, none⟩ = false := by subst hW10; exact qFz
  have z_b1 : w.heap.size < w6.heap.size := qB b10
  have z_b2 : w.heap.size + 1 < w6.heap.size := qB b20
  have z_e5 : bl3 < w6.heap.size := qB e50
  have z_e9 : bl3 < w6.heap.size := qB e90
  have z_b28 : w5.heap.size < w6.heap.size := qB b280
  replace O22 := O22.ext Lw6
  replace O23 := O23.ext Lw6
  have s_w6 : w.heap.size ≤ w6.heap.size := Xw6.size
  have BL25_w6 : Ext w4 w6 := BL25_w5.trans Lw6
  have BL27_w6 : Ext w5 w6 := BL27.trans Lw6
  clear hW10
  have hN_e31 : D < t1.length := (by simpa using hDT)
  have hI_e31 : (D : Int) < (t1.length : Int) := by omega
  obtain ⟨bl29, ol30, rfl, e310⟩ := k1.at D (by simpa using hDT)
  have y_e31 : bl29 < w.heap.size := qB e310
  replace e310 := Xw6.cell e310
  obtain ⟨v32, hv32⟩ : ∃ v, t1.getD D 0 = v := ⟨_, rfl⟩
  rw [hv32] at e310
  replace hv32 := Lib.hid hv32
  have z_e31 : bl29 < w6.heap.size := qB e310
  have h60v32 := dia_bd ht60.out (show D < t1.length by omega)
  rw [hv32.out] at h60v32
  have hN_e35 : C < t1.length := (by simpa using hCT)
  have hI_e35 : (C : Int) < (t1.length : Int) := by omega
  obtain ⟨b_e35, o_e35, h_e35, e350⟩ := k1.at C (by simpa using hCT)
  cases h_e35
  have y_e35 : bl29 < w.heap.size := qB e350
  replace e350 := Xw6.cell e350
  obtain ⟨v36, hv36⟩ : ∃ v, t1.getD C 0 = v := ⟨_, rfl⟩
  rw [hv36] at e350
  replace hv36 := Lib.hid hv36
  have z_e35 : bl29 < w6.heap.size := qB e350
  have h60v36 := dia_bd ht60.out (show C < t1.length by omega)
  rw [hv36.out] at h60v36
  have A37 := O23.cell D (by simpa using hDT)
  obtain ⟨A37a, A37b⟩ := A37
  refine wp_region_tail (S := fun w' => w'.cell? ⟨w.heap.size, 2, none⟩ = some (.slice (some ⟨bl29, ol30, none⟩) t1.length c1) ∧ w'.cell? ⟨w5.heap.size, 2, none⟩ = some (.slice (some ⟨gr19, 0, none⟩) t1.length rr21) ∧ w'.cell? ⟨bl29, ol30 + D, none⟩ = some (.int .i64 v32) ∧ w'.cell? ⟨bl29, ol30 + C, none⟩ = some (.int .i64 v36)) (fun i => decide (15 ≤ i)) qKr ⟨b12, b282, e310, e350⟩ (fun hHeld => ?_)
  refine qTk (v := ?_) 0 rfl (.inl ⟨by rfl, ?_⟩) ?_
  rotate_left
  ·
   (intro w hSw; (try dsimp only at hSw); go_simp; try with_reducible rfl)
  try simp only [Act.put, qa, qb, qc, qD, qE, qF]
  refine qTk (v := ?_) 1 rfl (.inl ⟨by rfl, ?_⟩) ?_
  rotate_left
  ·
   (intro w hSw; (try dsimp only at hSw); go_simp; try with_reducible rfl)
  try simp only [Act.put, qa, qb, qc, qD, qE, qF]
  refine qTk (v := ?_) 2 rfl (.inl ⟨by rfl, ?_⟩) ?_
  rotate_left
  ·
   (intro w hSw; (try dsimp only at hSw); go_simp; try with_reducible rfl)
  try simp only [Act.put, qa, qb, qc, qD, qE, qF]
  refine qTk (v := ?_) 3 rfl (.inl ⟨by rfl, ?_⟩) ?_
  rotate_left
  ·
   (intro w hSw; (try dsimp only at hSw); go_simp; try with_reducible rfl)
  try simp only [Act.put, qa, qb, qc, qD, qE, qF]
  refine qTk (v := ?_) 4 rfl (.inl ⟨by rfl, ?_⟩) ?_
  rotate_left
  ·
   (intro w hSw; (try dsimp only at hSw); go_simp; try with_reducible rfl)
  try simp only [Act.put, qa, qb, qc, qD, qE, qF]
  refine qTk (v := ?_) 5 rfl (.inl ⟨by rfl, ?_⟩) ?_
  rotate_left
  ·
   (intro w hSw; (try dsimp only at hSw); go_simp; try with_reducible rfl)
  try simp only [Act.put, qa, qb, qc, qD, qE, qF]
  refine qTk (v := ?_) 6 rfl (.inl ⟨by rfl, ?_⟩) ?_
  rotate_left
  ·
   (intro w hSw; (try dsimp only at hSw); go_simp; try with_reducible rfl)
  try simp only [Act.put, qa, qb, qc, qD, qE, qF]
  refine qTk (v := ?_) 7 rfl (.inl ⟨by rfl, ?_⟩) ?_
  rotate_left
  ·
   (intro w hSw; (try dsimp only at hSw); go_simp; try with_reducible rfl)
  try simp only [Act.put, qa, qb, qc, qD, qE, qF]
  refine qTk (v := ?_) 8 rfl (.inl ⟨by rfl, ?_⟩) ?_
  rotate_left
  ·
   (intro w hSw; (try dsimp only at hSw); go_simp; try with_reducible rfl)
  try simp only [Act.put, qa, qb, qc, qD, qE, qF]
  refine qTk (v := ?_) 9 rfl (.inl ⟨by rfl, ?_⟩) ?_
  rotate_left
  ·
   (intro w hSw; (try dsimp only at hSw); go_simp; try with_reducible rfl)
  try simp only [Act.put, qa, qb, qc, qD, qE, qF]
  refine qTk (v := ?_) 10 rfl (.inl ⟨by rfl, ?_⟩) ?_
  rotate_left
  ·
   (intro w hSw; (try dsimp only at hSw); go_simp; try with_reducible rfl)
  try simp only [Act.put, qa, qb, qc, qD, qE, qF]
  refine qTk (v := ?_) 11 rfl (.inl ⟨by rfl, ?_⟩) ?_
  rotate_left
  ·
   (intro w hSw; (try dsimp only at hSw); go_simp; try with_reducible rfl)
  try simp only [Act.put, qa, qb, qc, qD, qE, qF]
  refine qTk (v := ?_) 12 rfl (.inl ⟨by rfl, ?_⟩) ?_
  rotate_left
  ·
   (intro w hSw; (try dsimp only at hSw); go_simp; try with_reducible rfl)
  try simp only [Act.put, qa, qb, qc, qD, qE, qF]
  have hw44 : IntKind.i64.wrap (v32 + v36) = v32 + v36 := IntWalk.i64_in _ (by omega)
  refine qTk (v := ?_) 13 rfl (.inl ⟨by rfl, ?_⟩) ?_
  rotate_left
  ·
   (intro w hSw; (try dsimp only at hSw); go_simp; try with_reducible rfl)
  try simp only [Act.put, qa, qb, qc, qD, qE, qF]
  refine qTk (v := ?_) 14 rfl (.inl ⟨by rfl, ?_⟩) ?_
  rotate_left
  ·
   (intro w hSw; (try dsimp only at hSw); go_simp; try with_reducible rfl)
  try simp only [Act.put, qa, qb, qc, qD, qE, qF]
  refine wpTail_last (i := 15) qKr rfl rfl (fun K hK => ?_)
  try simp only [Act.put, qa, qb, qc, qD, qE, qF]
  go_simp
  refine hK.out _ _ ?_
  clear hK K
  try simp only [Act.put, qa, qb, qc, qD, qE, qF]
  refine wpTail_done qKr ?_ _
  clear hHeld hw44
  clear e50 z_e5
  clear e90 z_e9
  clear e310 z_e31
  clear e350 z_e35
  generalize hW11 : ((w6.setCell ⟨gr19, D, none⟩ (.int .i64 (v32 + v36))).drew) = w7 at *
  have Kw7 : Chg (gr19) (gr19 + 1) w6 w7 := by subst hW11; exact qCh
  have Xw7 : Ext w w7 := by subst hW11; exact qXt
  have BL25_w7 : Ext w4 w7 := by subst hW11; exact qXt
  replace b10 := Kw7.cell (by omega) b10
  replace b11 := Kw7.cell (by omega) b11
  replace b12 := Kw7.cell (by omega) b12
  replace b20 := BL25_w7.cell Q24_b20.out
  replace f_b20 := BL25_w7.frz Q24_zb2 Q24_f_b20.out
  replace b21 := BL25_w7.cell Q24_b21.out
  replace f_b21 := BL25_w7.frz Q24_zb2 Q24_f_b21.out
  replace b22 := BL25_w7.cell Q24_b22.out
  replace f_b22 := BL25_w7.frz Q24_zb2 Q24_f_b22.out
  replace b280 := Kw7.cell (by omega) b280
  replace f_b280 := Kw7.frzO (by omega) z_b28 f_b280
  replace b281 := Kw7.cell (by omega) b281
  replace f_b281 := Kw7.frzO (by omega) z_b28 f_b281
  replace b282 := Kw7.cell (by omega) b282
  replace f_b282 := Kw7.frzO (by omega) z_b28 f_b282
  replace O22 := O22.chgN Kw7 (by omega)
  have n_O23 := O23.setD D (v32 + v36) (by first | omega | (simp; omega) | (rw [putUp_len]; simp; omega) | (rw [addUp_len]; omega))
  rw [hW11] at n_O23
  replace O23 := n_O23
  clear n_O23
  clear Kw7
  have z_b1 : w.heap.size < w7.heap.size := qB b10
  have z_b2 : w.heap.size + 1 < w7.heap.size := qB b20
  have z_b28 : w5.heap.size < w7.heap.size := qB b280
  have s_w7 : w.heap.size ≤ w7.heap.size := Xw7.size
  clear hW11
  clear A37a A37b
  have hN_e47 : D < s1.length := (by simpa using hDN)
  have hI_e47 : (D : Int) < (s1.length : Int) := by omega
  obtain ⟨b_e47, o_e47, h_e47, e470⟩ := h1.at D (by simpa using hDN)
  cases h_e47
  have y_e47 : bl3 < w.heap.size := qB e470
  replace e470 := Xw7.cell e470
  rw [hv6.out] at e470
  have z_e47 : bl3 < w7.heap.size := qB e470
  by_cases hc48 : (v6 : Int) ≤ (1 : Int)
  ·
   have A49 := O23.cell D (by simpa using hDT)
   obtain ⟨A49a, A49b⟩ := A49
   go_wp2_with fail
   clear e470 z_e47
   generalize hW12 : (w7.setCell ⟨gr19, D, none⟩ (.int .i64 0)) = w8 at *
   have Kw8 : Chg (gr19) (gr19 + 1) w7 w8 := by subst hW12; exact qCh
   have Xw8 : Ext w w8 := by subst hW12; exact qXt
   have BL25_w8 : Ext w4 w8 := by subst hW12; exact qXt
   replace b10 := Kw8.cell (by omega) b10
   replace b11 := Kw8.cell (by omega) b11
   replace b12 := Kw8.cell (by omega) b12
   replace b20 := BL25_w8.cell Q24_b20.out
   replace f_b20 := BL25_w8.frz Q24_zb2 Q24_f_b20.out
   replace b21 := BL25_w8.cell Q24_b21.out
   replace f_b21 := BL25_w8.frz Q24_zb2 Q24_f_b21.out
   replace b22 := BL25_w8.cell Q24_b22.out
   replace f_b22 := BL25_w8.frz Q24_zb2 Q24_f_b22.out
   replace b280 := Kw8.cell (by omega) b280
   replace f_b280 := Kw8.frzO (by omega) z_b28 f_b280
   replace b281 := Kw8.cell (by omega) b281
   replace f_b281 := Kw8.frzO (by omega) z_b28 f_b281
   replace b282 := Kw8.cell (by omega) b282
   replace f_b282 := Kw8.frzO (by omega) z_b28 f_b282
   replace O22 := O22.chgN Kw8 (by omega)
   have n_O23 := O23.set D (0) (by first | omega | (simp; omega) | (rw [putUp_len]; simp; omega) | (rw [addUp_len]; omega))
   rw [hW12] at n_O23
   replace O23 := n_O23
   clear n_O23
   clear Kw8
   have z_b1 : w.heap.size < w8.heap.size := qB b10
   have z_b2 : w.heap.size + 1 < w8.heap.size := qB b20
   have z_b28 : w5.heap.size < w8.heap.size := qB b280
   have s_w8 : w.heap.size ≤ w8.heap.size := Xw8.size
   clear hW12
   clear A49a A49b
   rw [List.set_set] at O23
   go_wp2_with fail
   refine (swithout_c s1 (.slice (some ⟨gr18, 0, none⟩) s1.length rr20) C _ _ ((O22.ints (by first | omega | (simp only [List.length_set]; omega))).ext qXt) hCN (by omega)).mono ?_
   rintro e w9 ⟨fv50, rfl, i51, -, xw9⟩
   have Lw9 : Ext w8 w9 := Ext.trans qXt xw9
   have Xw9 : Ext w w9 := Xw8.trans Lw9
   replace b10 := Lw9.cell b10
   replace b11 := Lw9.cell b11
   replace b12 := Lw9.cell b12
   replace b20 := Lw9.cell b20
   replace b21 := Lw9.cell b21
   replace b22 := Lw9.cell b22
   replace f_b20 := Lw9.frz z_b2 f_b20
   replace f_b21 := Lw9.frz z_b2 f_b21
   replace f_b22 := Lw9.frz z_b2 f_b22
   replace b280 := Lw9.cell b280
   replace b281 := Lw9.cell b281
   replace b282 := Lw9.cell b282
   replace f_b280 := Lw9.frz z_b28 f_b280
   replace f_b281 := Lw9.frz z_b28 f_b281
   replace f_b282 := Lw9.frz z_b28 f_b282
   have z_b1 : w.heap.size < w9.heap.size := qB b10
   have z_b2 : w.heap.size + 1 < w9.heap.size := qB b20
   have z_b28 : w5.heap.size < w9.heap.size := qB b280
   replace O22 := O22.ext Lw9
   replace O23 := O23.ext Lw9
   have s_w9 : w.heap.size ≤ w9.heap.size := Xw9.size
   have BL25_w9 : Ext w4 w9 := BL25_w8.trans Lw9
   clear xw9
   obtain ⟨afv50, cfv50, rfl⟩ := i51.form
   go_upto_region 8 with fail
   generalize hW13 : (w9.setCell ⟨w5.heap.size, 1, none⟩ (.slice afv50 ((delL s1 C).length) cfv50)) = w10 at *
   have Kw10 : Chg (w5.heap.size) (w5.heap.size + 1) w9 w10 := by subst hW13; exact qCh
   have Xw10 : Ext w w10 := by subst hW13; exact qXt
   have BL25_w10 : Ext w4 w10 := by subst hW13; exact qXt
   replace b10 := Kw10.cell (by omega) b10
   replace b11 := Kw10.cell (by omega) b11
   replace b12 := Kw10.cell (by omega) b12
   replace b20 := BL25_w10.cell Q24_b20.out
   replace f_b20 := BL25_w10.frz Q24_zb2 Q24_f_b20.out
   replace b21 := BL25_w10.cell Q24_b21.out
   replace f_b21 := BL25_w10.frz Q24_zb2 Q24_f_b21.out
   replace b22 := BL25_w10.cell Q24_b22.out
   replace f_b22 := BL25_w10.frz Q24_zb2 Q24_f_b22.out
   replace b280 : w10.cell? ⟨w5.heap.size, 0, none⟩ = some (.int .i64 b1) := by subst hW13; go_simp
   replace f_b280 : w10.frozen? ⟨w5.heap.size, 0, none⟩ = false := by subst hW13; first | (simp only [World.frozen?_setCell]; with_reducible assumption) | go_simp
   replace b281 : w10.cell? ⟨w5.heap.size, 1, none⟩ = some (.slice afv50 ((delL s1 C).length) cfv50) := by subst hW13; go_simp
   replace f_b281 : w10.frozen? ⟨w5.heap.size, 1, none⟩ = false := by subst hW13; first | (simp only [World.frozen?_setCell]; with_reducible assumption) | go_simp
   replace b282 : w10.cell? ⟨w5.heap.size, 2, none⟩ = some (.slice (some ⟨gr19, 0, none⟩) t1.length rr21) := by subst hW13; go_simp
   replace f_b282 : w10.frozen? ⟨w5.heap.size, 2, none⟩ = false := by subst hW13; first | (simp only [World.frozen?_setCell]; with_reducible assumption) | go_simp
   replace O22 := O22.chgN Kw10 (by omega)
   replace O23 := O23.chgN Kw10 (by omega)
   replace i51 := i51.chg Kw10 (by omega)
   clear Kw10
   have z_b1 : w.heap.size < w10.heap.size := qB b10
   have z_b2 : w.heap.size + 1 < w10.heap.size := qB b20
   have z_b28 : w5.heap.size < w10.heap.size := qB b280
   have s_w10 : w.heap.size ≤ w10.heap.size := Xw10.size
   clear hW13
   go_wp2_with fail
   refine (swithout_c (t1.set D 0) (.slice (some ⟨gr19, 0, none⟩) t1.length rr21) C _ _ ((O23.ints (by first | omega | (simp only [List.length_set]; omega))).ext qXt) (by simpa using hCT) (by simp only [List.length_set]; omega)).mono ?_
   rintro e w11 ⟨fv52, rfl, i53, -, xw11⟩
   have Lw11 : Ext w10 w11 := Ext.trans qXt xw11
   have Xw11 : Ext w w11 := Xw10.trans Lw11
   replace b10 := Lw11.cell b10
   replace b11 := Lw11.cell b11
   replace b12 := Lw11.cell b12
   replace b20 := Lw11.cell b20
   replace b21 := Lw11.cell b21
   replace b22 := Lw11.cell b22
   replace f_b20 := Lw11.frz z_b2 f_b20
   replace f_b21 := Lw11.frz z_b2 f_b21
   replace f_b22 := Lw11.frz z_b2 f_b22
   replace b280 := Lw11.cell b280
   replace b281 := Lw11.cell b281
   replace b282 := Lw11.cell b282
   replace f_b280 := Lw11.frz z_b28 f_b280
   replace f_b281 := Lw11.frz z_b28 f_b281
   replace f_b282 := Lw11.frz z_b28 f_b282
   have z_b1 : w.heap.size < w11.heap.size := qB b10
   have z_b2 : w.heap.size + 1 < w11.heap.size := qB b20
   have z_b28 : w5.heap.size < w11.heap.size := qB b280
   replace O22 := O22.ext Lw11
   replace O23 := O23.ext Lw11
   replace i51 := i51.ext Lw11
   have s_w11 : w.heap.size ≤ w11.heap.size := Xw11.size
   have BL25_w11 : Ext w4 w11 := BL25_w10.trans Lw11
   clear xw11
   obtain ⟨afv52, cfv52, rfl⟩ := i53.form
   go_upto_region 9 with fail
   generalize hW14 : (w11.setCell ⟨w5.heap.size, 2, none⟩ (.slice afv52 ((delL (t1.set D 0) C).length) cfv52)) = w12 at *
   have Kw12 : Chg (w5.heap.size) (w5.heap.size + 1) w11 w12 := by subst hW14; exact qCh
   have Xw12 : Ext w w12 := by subst hW14; exact qXt
   have BL25_w12 : Ext w4 w12 := by subst hW14; exact qXt
   replace b10 := Kw12.cell (by omega) b10
   replace b11 := Kw12.cell (by omega) b11
   replace b12 := Kw12.cell (by omega) b12
   replace b20 := BL25_w12.cell Q24_b20.out
   replace f_b20 := BL25_w12.frz Q24_zb2 Q24_f_b20.out
   replace b21 := BL25_w12.cell Q24_b21.out
   replace f_b21 := BL25_w12.frz Q24_zb2 Q24_f_b21.out
   replace b22 := BL25_w12.cell Q24_b22.out
   replace f_b22 := BL25_w12.frz Q24_zb2 Q24_f_b22.out
   replace b280 : w12.cell? ⟨w5.heap.size, 0, none⟩ = some (.int .i64 b1) := by subst hW14; go_simp
   replace f_b280 : w12.frozen? ⟨w5.heap.size, 0, none⟩ = false := by subst hW14; first | (simp only [World.frozen?_setCell]; with_reducible assumption) | go_simp
   replace b281 : w12.cell? ⟨w5.heap.size, 1, none⟩ = some (.slice afv50 ((delL s1 C).length) cfv50) := by subst hW14; go_simp
   replace f_b281 : w12.frozen? ⟨w5.heap.size, 1, none⟩ = false := by subst hW14; first | (simp only [World.frozen?_setCell]; with_reducible assumption) | go_simp
   replace b282 : w12.cell? ⟨w5.heap.size, 2, none⟩ = some (.slice afv52 ((delL (t1.set D 0) C).length) cfv52) := by subst hW14; go_simp
   replace f_b282 : w12.frozen? ⟨w5.heap.size, 2, none⟩ = false := by subst hW14; first | (simp only [World.frozen?_setCell]; with_reducible assumption) | go_simp
   replace O22 := O22.chgN Kw12 (by omega)
   replace O23 := O23.chgN Kw12 (by omega)
   replace i51 := i51.chg Kw12 (by omega)
   replace i53 := i53.chg Kw12 (by omega)
   clear Kw12
   have z_b1 : w.heap.size < w12.heap.size := qB b10
   have z_b2 : w.heap.size + 1 < w12.heap.size := qB b20
   have z_b28 : w5.heap.size < w12.heap.size := qB b280
   have s_w12 : w.heap.size ≤ w12.heap.size := Xw12.size
   clear hW14
   go_wp2_with fail
   by_cases hcl54 : countL (delL s1 C) = 0
   ·
    refine (tidy_0 b1 _ _ (delL s1 C) _ _ (i51.ext qXt) hcl54).mono ?_
    rintro e w13 ⟨svO55, rfl, O55, xw13⟩
    have Lw13 : Ext w12 w13 := Ext.trans qXt xw13
    have Xw13 : Ext w w13 := Xw12.trans Lw13
    replace b10 := Lw13.cell b10
    replace b11 := Lw13.cell b11
    replace b12 := Lw13.cell b12
    replace b20 := Lw13.cell b20
    replace b21 := Lw13.cell b21
    replace b22 := Lw13.cell b22
    replace f_b20 := Lw13.frz z_b2 f_b20
    replace f_b21 := Lw13.frz z_b2 f_b21
    replace f_b22 := Lw13.frz z_b2 f_b22
    replace b280 := Lw13.cell b280
    replace b281 := Lw13.cell b281
    replace b282 := Lw13.cell b282
    replace f_b280 := Lw13.frz z_b28 f_b280
    replace f_b281 := Lw13.frz z_b28 f_b281
    replace f_b282 := Lw13.frz z_b28 f_b282
    have z_b1 : w.heap.size < w13.heap.size := qB b10
    have z_b2 : w.heap.size + 1 < w13.heap.size := qB b20
    have z_b28 : w5.heap.size < w13.heap.size := qB b280
    replace O22 := O22.ext Lw13
    replace O23 := O23.ext Lw13
    replace i51 := i51.ext Lw13
    replace i53 := i53.ext Lw13
    have s_w13 : w.heap.size ≤ w13.heap.size := Xw13.size
    have BL25_w13 : Ext w4 w13 := BL25_w12.trans Lw13
    clear xw13
    obtain ⟨aa56, cc57, rfl⟩ := (O55.ints (by simp; omega)).form
    rw [List.length_replicate] at O55 ⊢
    have hdv := (dia_view hvv.out (A := D) (C := C) (by have := hne.out; omega) hDN hCN (by rw [hv6.out, hv10.out]; exact hc17.out)).1
    rw [show diaT s1 t1 D C = t1.set D 0 by unfold diaT; rw [hv6.out, hv32.out, hv36.out]; exact congrArg _ (if_pos (by omega))] at hdv
    unfold tidyB tidyT at hdv
    rw [if_pos hcl54, if_pos hcl54] at hdv
    obtain ⟨TT, hTT⟩ : ∃ x, List.replicate (delL s1 C).length (0 : Int) = x := ⟨_, rfl⟩
    replace hTT := Lib.hid hTT
    rw [hTT.out] at hdv
    have hmd : Hid (madeV 0 (delL s1 C) (List.replicate (delL s1 C).length 0) = (0, delL s1 C, TT, true)) := Lib.hid (by rw [hTT.out]; exact made_yes hdv)
    replace hdv := Lib.hid hdv
    go_wp2_with fail
    refine (pv_eq hmd.out (made_c 0 (.slice afv50 ((delL s1 C).length) cfv50) (.slice aa56 ((delL s1 C).length) cc57) (delL s1 C) (List.replicate ((delL s1 C).length) 0) _ _ _ (i51.ext qXt) ((O55.ints (by simp; omega)).ext qXt))).mono ?_
    rintro e w14 ⟨fv58u, fv58v, rfl, i59u, i59v, -, -, -, xw14⟩
    have Lw14 : Ext w13 w14 := Ext.trans qXt xw14
    have Xw14 : Ext w w14 := Xw13.trans Lw14
    replace b10 := Lw14.cell b10
    replace b11 := Lw14.cell b11
    replace b12 := Lw14.cell b12
    replace b20 := Lw14.cell b20
    replace b21 := Lw14.cell b21
    replace b22 := Lw14.cell b22
    replace f_b20 := Lw14.frz z_b2 f_b20
    replace f_b21 := Lw14.frz z_b2 f_b21
    replace f_b22 := Lw14.frz z_b2 f_b22
    replace b280 := Lw14.cell b280
    replace b281 := Lw14.cell b281
    replace b282 := Lw14.cell b282
    replace f_b280 := Lw14.frz z_b28 f_b280
    replace f_b281 := Lw14.frz z_b28 f_b281
    replace f_b282 := Lw14.frz z_b28 f_b282
    have z_b1 : w.heap.size < w14.heap.size := qB b10
    have z_b2 : w.heap.size + 1 < w14.heap.size := qB b20
    have z_b28 : w5.heap.size < w14.heap.size := qB b280
    replace O22 := O22.ext Lw14
    replace O23 := O23.ext Lw14
    replace i51 := i51.ext Lw14
    replace i53 := i53.ext Lw14
    replace O55 := O55.ext Lw14
    have s_w14 : w.heap.size ≤ w14.heap.size := Xw14.size
    have BL25_w14 : Ext w4 w14 := BL25_w13.trans Lw14
    clear xw14
    obtain ⟨afv58u, cfv58u, rfl⟩ := i59u.form
    obtain ⟨afv58v, cfv58v, rfl⟩ := i59v.form
    go_wp2_with fail
    generalize hW15 : (((w14.setCell ⟨w.heap.size + 1, 0, none⟩ (.int .i64 0)).setCell ⟨w.heap.size + 1, 1, none⟩ (.slice afv58u ((delL s1 C).length) cfv58u)).setCell ⟨w.heap.size + 1, 2, none⟩ (.slice afv58v TT.length cfv58v)) = w15 at *
    have Kw15 : Chg (w.heap.size + 1) (w.heap.size + 1 + 1) w14 w15 := by subst hW15; exact qCh
    have Xw15 : Ext w w15 := by subst hW15; exact qXt
    replace b10 := Kw15.cell (by omega) b10
    replace b11 := Kw15.cell (by omega) b11
    replace b12 := Kw15.cell (by omega) b12
    replace b20 : w15.cell? ⟨w.heap.size + 1, 0, none⟩ = some (.int .i64 0) := by subst hW15; go_simp
    replace f_b20 : w15.frozen? ⟨w.heap.size + 1, 0, none⟩ = false := by subst hW15; first | (simp only [World.frozen?_setCell]; with_reducible assumption) | go_simp
    replace b21 : w15.cell? ⟨w.heap.size + 1, 1, none⟩ = some (.slice afv58u ((delL s1 C).length) cfv58u) := by subst hW15; go_simp
    replace f_b21 : w15.frozen? ⟨w.heap.size + 1, 1, none⟩ = false := by subst hW15; first | (simp only [World.frozen?_setCell]; with_reducible assumption) | go_simp
    replace b22 : w15.cell? ⟨w.heap.size + 1, 2, none⟩ = some (.slice afv58v TT.length cfv58v) := by subst hW15; go_simp
    replace f_b22 : w15.frozen? ⟨w.heap.size + 1, 2, none⟩ = false := by subst hW15; first | (simp only [World.frozen?_setCell]; with_reducible assumption) | go_simp
    replace b280 := Kw15.cell (by omega) b280
    replace f_b280 := Kw15.frzO (by omega) z_b28 f_b280
    replace b281 := Kw15.cell (by omega) b281
    replace f_b281 := Kw15.frzO (by omega) z_b28 f_b281
    replace b282 := Kw15.cell (by omega) b282
    replace f_b282 := Kw15.frzO (by omega) z_b28 f_b282
    replace O22 := O22.chgN Kw15 (by omega)
    replace O23 := O23.chgN Kw15 (by omega)
    replace i51 := i51.chg Kw15 (by omega)
    replace i53 := i53.chg Kw15 (by omega)
    replace O55 := O55.chg Kw15 (by omega)
    replace i59u := i59u.chg Kw15 (by omega)
    replace i59v := i59v.chg Kw15 (by omega)
    clear Kw15
    have z_b1 : w.heap.size < w15.heap.size := qB b10
    have z_b2 : w.heap.size + 1 < w15.heap.size := qB b20
    have z_b28 : w5.heap.size < w15.heap.size := qB b280
    have s_w15 : w.heap.size ≤ w15.heap.size := Xw15.size
    clear hW15
    refine bodyPost_ret (v := .tuple #[.agg #[.int .i64 0, .slice afv58u ((delL s1 C).length) cfv58u, .slice afv58v TT.length cfv58v], .bool true]) (by simp only [results, Try.results65]; go_simp) rfl ?_
    have hdg := dia_yes (dia_ok hdim.out hdim2.out hne.out hv6.out hv10.out hc17.out)
    rw [hdg]
    have hdt : diaT s1 t1 D C = t1.set D 0 := by unfold diaT; rw [hv6.out, hv32.out, hv36.out]; exact congrArg _ (if_pos (by omega))
    refine ⟨.slice afv58u ((delL s1 C).length) cfv58u, .slice afv58v TT.length cfv58v, ?_, i59u.lower (by omega), ?_, (Xw15.trans qXt)⟩
    ·
     rw [show tidyB b1 (delL s1 C) = 0 by unfold tidyB; rw [if_pos hcl54]]
    ·
     rw [hdt, show tidyT (delL s1 C) (delL (t1.set D 0) C) = TT by unfold tidyT; rw [if_pos hcl54]; exact hTT.out]
     exact i59v.lower (by omega)
   ·
    refine (tidy_1 b1 _ _ (delL s1 C) (delL (t1.set D 0) C) _ _ _ (i51.ext qXt) (i53.ext qXt) hcl54).mono ?_
    rintro e w13 ⟨rfl, xw13⟩
    have Lw13 : Ext w12 w13 := Ext.trans qXt xw13
    have Xw13 : Ext w w13 := Xw12.trans Lw13
    replace b10 := Lw13.cell b10
    replace b11 := Lw13.cell b11
    replace b12 := Lw13.cell b12
    replace b20 := Lw13.cell b20
    replace b21 := Lw13.cell b21
    replace b22 := Lw13.cell b22
    replace f_b20 := Lw13.frz z_b2 f_b20
    replace f_b21 := Lw13.frz z_b2 f_b21
    replace f_b22 := Lw13.frz z_b2 f_b22
    replace b280 := Lw13.cell b280
    replace b281 := Lw13.cell b281
    replace b282 := Lw13.cell b282
    replace f_b280 := Lw13.frz z_b28 f_b280
    replace f_b281 := Lw13.frz z_b28 f_b281
    replace f_b282 := Lw13.frz z_b28 f_b282
    have z_b1 : w.heap.size < w13.heap.size := qB b10
    have z_b2 : w.heap.size + 1 < w13.heap.size := qB b20
    have z_b28 : w5.heap.size < w13.heap.size := qB b280
    replace O22 := O22.ext Lw13
    replace O23 := O23.ext Lw13
    replace i51 := i51.ext Lw13
    replace i53 := i53.ext Lw13
    have s_w13 : w.heap.size ≤ w13.heap.size := Xw13.size
    have BL25_w13 : Ext w4 w13 := BL25_w12.trans Lw13
    clear xw13
    have hdv := (dia_view hvv.out (A := D) (C := C) (by have := hne.out; omega) hDN hCN (by rw [hv6.out, hv10.out]; exact hc17.out)).1
    rw [show diaT s1 t1 D C = t1.set D 0 by unfold diaT; rw [hv6.out, hv32.out, hv36.out]; exact congrArg _ (if_pos (by omega))] at hdv
    unfold tidyB tidyT at hdv
    rw [if_neg hcl54, if_neg hcl54] at hdv
    have hmd : Hid (madeV (b1) (delL s1 C) (delL (t1.set D 0) C) = (b1, delL s1 C, delL (t1.set D 0) C, true)) := Lib.hid (made_yes hdv)
    replace hdv := Lib.hid hdv
    go_wp2_with fail
    refine (pv_eq hmd.out (made_c b1 (.slice afv50 ((delL s1 C).length) cfv50) (.slice afv52 ((delL (t1.set D 0) C).length) cfv52) (delL s1 C) (delL (t1.set D 0) C) _ _ _ (i51.ext qXt) (i53.ext qXt))).mono ?_
    rintro e w14 ⟨fv60u, fv60v, rfl, i61u, i61v, -, -, -, xw14⟩
    have Lw14 : Ext w13 w14 := Ext.trans qXt xw14
    have Xw14 : Ext w w14 := Xw13.trans Lw14
    replace b10 := Lw14.cell b10
    replace b11 := Lw14.cell b11
    replace b12 := Lw14.cell b12
    replace b20 := Lw14.cell b20
    replace b21 := Lw14.cell b21
    replace b22 := Lw14.cell b22
    replace f_b20 := Lw14.frz z_b2 f_b20
    replace f_b21 := Lw14.frz z_b2 f_b21
    replace f_b22 := Lw14.frz z_b2 f_b22
    replace b280 := Lw14.cell b280
    replace b281 := Lw14.cell b281
    replace b282 := Lw14.cell b282
    replace f_b280 := Lw14.frz z_b28 f_b280
    replace f_b281 := Lw14.frz z_b28 f_b281
    replace f_b282 := Lw14.frz z_b28 f_b282
    have z_b1 : w.heap.size < w14.heap.size := qB b10
    have z_b2 : w.heap.size + 1 < w14.heap.size := qB b20
    have z_b28 : w5.heap.size < w14.heap.size := qB b280
    replace O22 := O22.ext Lw14
    replace O23 := O23.ext Lw14
    replace i51 := i51.ext Lw14
    replace i53 := i53.ext Lw14
    have s_w14 : w.heap.size ≤ w14.heap.size := Xw14.size
    have BL25_w14 : Ext w4 w14 := BL25_w13.trans Lw14
    clear xw14
    obtain ⟨afv60u, cfv60u, rfl⟩ := i61u.form
    obtain ⟨afv60v, cfv60v, rfl⟩ := i61v.form
    go_wp2_with fail
    generalize hW16 : (((w14.setCell ⟨w.heap.size + 1, 0, none⟩ (.int .i64 b1)).setCell ⟨w.heap.size + 1, 1, none⟩ (.slice afv60u ((delL s1 C).length) cfv60u)).setCell ⟨w.heap.size + 1, 2, none⟩ (.slice afv60v ((delL (t1.set D 0) C).length) cfv60v)) = w15 at *
    have Kw15 : Chg (w.heap.size + 1) (w.heap.size + 1 + 1) w14 w15 := by subst hW16; exact qCh
    have Xw15 : Ext w w15 := by subst hW16; exact qXt
    replace b10 := Kw15.cell (by omega) b10
    replace b11 := Kw15.cell (by omega) b11
    replace b12 := Kw15.cell (by omega) b12
    replace b20 : w15.cell? ⟨w.heap.size + 1, 0, none⟩ = some (.int .i64 b1) := by subst hW16; go_simp
    replace f_b20 : w15.frozen? ⟨w.heap.size + 1, 0, none⟩ = false := by subst hW16; first | (simp only [World.frozen?_setCell]; with_reducible assumption) | go_simp
    replace b21 : w15.cell? ⟨w.heap.size + 1, 1, none⟩ = some (.slice afv60u ((delL s1 C).length) cfv60u) := by subst hW16; go_simp
    replace f_b21 : w15.frozen? ⟨w.heap.size + 1, 1, none⟩ = false := by subst hW16; first | (simp only [World.frozen?_setCell]; with_reducible assumption) | go_simp
    replace b22 : w15.cell? ⟨w.heap.size + 1, 2, none⟩ = some (.slice afv60v ((delL (t1.set D 0) C).length) cfv60v) := by subst hW16; go_simp
    replace f_b22 : w15.frozen? ⟨w.heap.size + 1, 2, none⟩ = false := by subst hW16; first | (simp only [World.frozen?_setCell]; with_reducible assumption) | go_simp
    replace b280 := Kw15.cell (by omega) b280
    replace f_b280 := Kw15.frzO (by omega) z_b28 f_b280
    replace b281 := Kw15.cell (by omega) b281
    replace f_b281 := Kw15.frzO (by omega) z_b28 f_b281
    replace b282 := Kw15.cell (by omega) b282
    replace f_b282 := Kw15.frzO (by omega) z_b28 f_b282
    replace O22 := O22.chgN Kw15 (by omega)
    replace O23 := O23.chgN Kw15 (by omega)
    replace i51 := i51.chg Kw15 (by omega)
    replace i53 := i53.chg Kw15 (by omega)
    replace i61u := i61u.chg Kw15 (by omega)
    replace i61v := i61v.chg Kw15 (by omega)
    clear Kw15
    have z_b1 : w.heap.size < w15.heap.size := qB b10
    have z_b2 : w.heap.size + 1 < w15.heap.size := qB b20
    have z_b28 : w5.heap.size < w15.heap.size := qB b280
    have s_w15 : w.heap.size ≤ w15.heap.size := Xw15.size
    clear hW16
    refine bodyPost_ret (v := .tuple #[.agg #[.int .i64 b1, .slice afv60u ((delL s1 C).length) cfv60u, .slice afv60v ((delL (t1.set D 0) C).length) cfv60v], .bool true]) (by simp only [results, Try.results65]; go_simp) rfl ?_
    have hdg := dia_yes (dia_ok hdim.out hdim2.out hne.out hv6.out hv10.out hc17.out)
    rw [hdg]
    have hdt : diaT s1 t1 D C = t1.set D 0 := by unfold diaT; rw [hv6.out, hv32.out, hv36.out]; exact congrArg _ (if_pos (by omega))
    refine ⟨.slice afv60u ((delL s1 C).length) cfv60u, .slice afv60v ((delL (t1.set D 0) C).length) cfv60v, ?_, i61u.lower (by omega), ?_, (Xw15.trans qXt)⟩
    ·
     rw [show tidyB b1 (delL s1 C) = b1 by unfold tidyB; rw [if_neg hcl54]]
    ·
     rw [hdt, show tidyT (delL s1 C) (delL (t1.set D 0) C) = delL (t1.set D 0) C by unfold tidyT; rw [if_neg hcl54]]
     exact i61v.lower (by omega)
  ·
   go_wp2_with fail
   go_wp2_with fail
   refine (swithout_c s1 (.slice (some ⟨gr18, 0, none⟩) s1.length rr20) C _ _ ((O22.ints (by first | omega | (simp only [List.length_set]; omega))).ext qXt) hCN (by omega)).mono ?_
   rintro e w8 ⟨fv62, rfl, i63, -, xw8⟩
   have Lw8 : Ext w7 w8 := Ext.trans qXt xw8
   have Xw8 : Ext w w8 := Xw7.trans Lw8
   replace b10 := Lw8.cell b10
   replace b11 := Lw8.cell b11
   replace b12 := Lw8.cell b12
   replace b20 := Lw8.cell b20
   replace b21 := Lw8.cell b21
   replace b22 := Lw8.cell b22
   replace f_b20 := Lw8.frz z_b2 f_b20
   replace f_b21 := Lw8.frz z_b2 f_b21
   replace f_b22 := Lw8.frz z_b2 f_b22
   replace b280 := Lw8.cell b280
   replace b281 := Lw8.cell b281
   replace b282 := Lw8.cell b282
   replace f_b280 := Lw8.frz z_b28 f_b280
   replace f_b281 := Lw8.frz z_b28 f_b281
   replace f_b282 := Lw8.frz z_b28 f_b282
   replace e470 := Lw8.cell e470
   have z_b1 : w.heap.size < w8.heap.size := qB b10
   have z_b2 : w.heap.size + 1 < w8.heap.size := qB b20
   have z_b28 : w5.heap.size < w8.heap.size := qB b280
   have z_e47 : bl3 < w8.heap.size := qB e470
   replace O22 := O22.ext Lw8
   replace O23 := O23.ext Lw8
   have s_w8 : w.heap.size ≤ w8.heap.size := Xw8.size
   have BL25_w8 : Ext w4 w8 := BL25_w7.trans Lw8
   clear xw8
   obtain ⟨afv62, cfv62, rfl⟩ := i63.form
   go_upto_region 8 with fail
   generalize hW17 : (w8.setCell ⟨w5.heap.size, 1, none⟩ (.slice afv62 ((delL s1 C).length) cfv62)) = w9 at *
   have Kw9 : Chg (w5.heap.size) (w5.heap.size + 1) w8 w9 := by subst hW17; exact qCh
   have Xw9 : Ext w w9 := by subst hW17; exact qXt
   have BL25_w9 : Ext w4 w9 := by subst hW17; exact qXt
   replace b10 := Kw9.cell (by omega) b10
   replace b11 := Kw9.cell (by omega) b11
   replace b12 := Kw9.cell (by omega) b12
   replace b20 := BL25_w9.cell Q24_b20.out
   replace f_b20 := BL25_w9.frz Q24_zb2 Q24_f_b20.out
   replace b21 := BL25_w9.cell Q24_b21.out
   replace f_b21 := BL25_w9.frz Q24_zb2 Q24_f_b21.out
   replace b22 := BL25_w9.cell Q24_b22.out
   replace f_b22 := BL25_w9.frz Q24_zb2 Q24_f_b22.out
   replace b280 : w9.cell? ⟨w5.heap.size, 0, none⟩ = some (.int .i64 b1) := by subst hW17; go_simp
   replace f_b280 : w9.frozen? ⟨w5.heap.size, 0, none⟩ = false := by subst hW17; first | (simp only [World.frozen?_setCell]; with_reducible assumption) | go_simp
   replace b281 : w9.cell? ⟨w5.heap.size, 1, none⟩ = some (.slice afv62 ((delL s1 C).length) cfv62) := by subst hW17; go_simp
   replace f_b281 : w9.frozen? ⟨w5.heap.size, 1, none⟩ = false := by subst hW17; first | (simp only [World.frozen?_setCell]; with_reducible assumption) | go_simp
   replace b282 : w9.cell? ⟨w5.heap.size, 2, none⟩ = some (.slice (some ⟨gr19, 0, none⟩) t1.length rr21) := by subst hW17; go_simp
   replace f_b282 : w9.frozen? ⟨w5.heap.size, 2, none⟩ = false := by subst hW17; first | (simp only [World.frozen?_setCell]; with_reducible assumption) | go_simp
   replace e470 := Kw9.cell (by omega) e470
   replace O22 := O22.chgN Kw9 (by omega)
   replace O23 := O23.chgN Kw9 (by omega)
   replace i63 := i63.chg Kw9 (by omega)
   clear Kw9
   have z_b1 : w.heap.size < w9.heap.size := qB b10
   have z_b2 : w.heap.size + 1 < w9.heap.size := qB b20
   have z_b28 : w5.heap.size < w9.heap.size := qB b280
   have z_e47 : bl3 < w9.heap.size := qB e470
   have s_w9 : w.heap.size ≤ w9.heap.size := Xw9.size
   clear hW17
   go_wp2_with fail
   refine (swithout_c (t1.set D (v32 + v36)) (.slice (some ⟨gr19, 0, none⟩) t1.length rr21) C _ _ ((O23.ints (by first | omega | (simp only [List.length_set]; omega))).ext qXt) (by simpa using hCT) (by simp only [List.length_set]; omega)).mono ?_
   rintro e w10 ⟨fv64, rfl, i65, -, xw10⟩
   have Lw10 : Ext w9 w10 := Ext.trans qXt xw10
   have Xw10 : Ext w w10 := Xw9.trans Lw10
   replace b10 := Lw10.cell b10
   replace b11 := Lw10.cell b11
   replace b12 := Lw10.cell b12
   replace b20 := Lw10.cell b20
   replace b21 := Lw10.cell b21
   replace b22 := Lw10.cell b22
   replace f_b20 := Lw10.frz z_b2 f_b20
   replace f_b21 := Lw10.frz z_b2 f_b21
   replace f_b22 := Lw10.frz z_b2 f_b22
   replace b280 := Lw10.cell b280
   replace b281 := Lw10.cell b281
   replace b282 := Lw10.cell b282
   replace f_b280 := Lw10.frz z_b28 f_b280
   replace f_b281 := Lw10.frz z_b28 f_b281
   replace f_b282 := Lw10.frz z_b28 f_b282
   replace e470 := Lw10.cell e470
   have z_b1 : w.heap.size < w10.heap.size := qB b10
   have z_b2 : w.heap.size + 1 < w10.heap.size := qB b20
   have z_b28 : w5.heap.size < w10.heap.size := qB b280
   have z_e47 : bl3 < w10.heap.size := qB e470
   replace O22 := O22.ext Lw10
   replace O23 := O23.ext Lw10
   replace i63 := i63.ext Lw10
   have s_w10 : w.heap.size ≤ w10.heap.size := Xw10.size
   have BL25_w10 : Ext w4 w10 := BL25_w9.trans Lw10
   clear xw10
   obtain ⟨afv64, cfv64, rfl⟩ := i65.form
   go_upto_region 9 with fail
   generalize hW18 : (w10.setCell ⟨w5.heap.size, 2, none⟩ (.slice afv64 ((delL (t1.set D (v32 + v36)) C).length) cfv64)) = w11 at *
   have Kw11 : Chg (w5.heap.size) (w5.heap.size + 1) w10 w11 := by subst hW18; exact qCh
   have Xw11 : Ext w w11 := by subst hW18; exact qXt
   have BL25_w11 : Ext w4 w11 := by subst hW18; exact qXt
   replace b10 := Kw11.cell (by omega) b10
   replace b11 := Kw11.cell (by omega) b11
   replace b12 := Kw11.cell (by omega) b12
   replace b20 := BL25_w11.cell Q24_b20.out
   replace f_b20 := BL25_w11.frz Q24_zb2 Q24_f_b20.out
   replace b21 := BL25_w11.cell Q24_b21.out
   replace f_b21 := BL25_w11.frz Q24_zb2 Q24_f_b21.out
   replace b22 := BL25_w11.cell Q24_b22.out
   replace f_b22 := BL25_w11.frz Q24_zb2 Q24_f_b22.out
   replace b280 : w11.cell? ⟨w5.heap.size, 0, none⟩ = some (.int .i64 b1) := by subst hW18; go_simp
   replace f_b280 : w11.frozen? ⟨w5.heap.size, 0, none⟩ = false := by subst hW18; first | (simp only [World.frozen?_setCell]; with_reducible assumption) | go_simp
   replace b281 : w11.cell? ⟨w5.heap.size, 1, none⟩ = some (.slice afv62 ((delL s1 C).length) cfv62) := by subst hW18; go_simp
   replace f_b281 : w11.frozen? ⟨w5.heap.size, 1, none⟩ = false := by subst hW18; first | (simp only [World.frozen?_setCell]; with_reducible assumption) | go_simp
   replace b282 : w11.cell? ⟨w5.heap.size, 2, none⟩ = some (.slice afv64 ((delL (t1.set D (v32 + v36)) C).length) cfv64) := by subst hW18; go_simp
   replace f_b282 : w11.frozen? ⟨w5.heap.size, 2, none⟩ = false := by subst hW18; first | (simp only [World.frozen?_setCell]; with_reducible assumption) | go_simp
   replace e470 := Kw11.cell (by omega) e470
   replace O22 := O22.chgN Kw11 (by omega)
   replace O23 := O23.chgN Kw11 (by omega)
   replace i63 := i63.chg Kw11 (by omega)
   replace i65 := i65.chg Kw11 (by omega)
   clear Kw11
   have z_b1 : w.heap.size < w11.heap.size := qB b10
   have z_b2 : w.heap.size + 1 < w11.heap.size := qB b20
   have z_b28 : w5.heap.size < w11.heap.size := qB b280
   have z_e47 : bl3 < w11.heap.size := qB e470
   have s_w11 : w.heap.size ≤ w11.heap.size := Xw11.size
   clear hW18
   go_wp2_with fail
   by_cases hcl66 : countL (delL s1 C) = 0
   ·
    refine (tidy_0 b1 _ _ (delL s1 C) _ _ (i63.ext qXt) hcl66).mono ?_
    rintro e w12 ⟨svO67, rfl, O67, xw12⟩
    have Lw12 : Ext w11 w12 := Ext.trans qXt xw12
    have Xw12 : Ext w w12 := Xw11.trans Lw12
    replace b10 := Lw12.cell b10
    replace b11 := Lw12.cell b11
    replace b12 := Lw12.cell b12
    replace b20 := Lw12.cell b20
    replace b21 := Lw12.cell b21
    replace b22 := Lw12.cell b22
    replace f_b20 := Lw12.frz z_b2 f_b20
    replace f_b21 := Lw12.frz z_b2 f_b21
    replace f_b22 := Lw12.frz z_b2 f_b22
    replace b280 := Lw12.cell b280
    replace b281 := Lw12.cell b281
    replace b282 := Lw12.cell b282
    replace f_b280 := Lw12.frz z_b28 f_b280
    replace f_b281 := Lw12.frz z_b28 f_b281
    replace f_b282 := Lw12.frz z_b28 f_b282
    replace e470 := Lw12.cell e470
    have z_b1 : w.heap.size < w12.heap.size := qB b10
    have z_b2 : w.heap.size + 1 < w12.heap.size := qB b20
    have z_b28 : w5.heap.size < w12.heap.size := qB b280
    have z_e47 : bl3 < w12.heap.size := qB e470
    replace O22 := O22.ext Lw12
    replace O23 := O23.ext Lw12
    replace i63 := i63.ext Lw12
    replace i65 := i65.ext Lw12
    have s_w12 : w.heap.size ≤ w12.heap.size := Xw12.size
    have BL25_w12 : Ext w4 w12 := BL25_w11.trans Lw12
    clear xw12
    obtain ⟨aa68, cc69, rfl⟩ := (O67.ints (by simp; omega)).form
    rw [List.length_replicate] at O67 ⊢
    have hdv := (dia_view hvv.out (A := D) (C := C) (by have := hne.out; omega) hDN hCN (by rw [hv6.out, hv10.out]; exact hc17.out)).1
    rw [show diaT s1 t1 D C = t1.set D (v32 + v36) by unfold diaT; rw [hv6.out, hv32.out, hv36.out]; exact congrArg _ (if_neg (by omega))] at hdv
    unfold tidyB tidyT at hdv
    rw [if_pos hcl66, if_pos hcl66] at hdv
    obtain ⟨TT, hTT⟩ : ∃ x, List.replicate (delL s1 C).length (0 : Int) = x := ⟨_, rfl⟩
    replace hTT := Lib.hid hTT
    rw [hTT.out] at hdv
    have hmd : Hid (madeV 0 (delL s1 C) (List.replicate (delL s1 C).length 0) = (0, delL s1 C, TT, true)) := Lib.hid (by rw [hTT.out]; exact made_yes hdv)
    replace hdv := Lib.hid hdv
    go_wp2_with fail
    refine (pv_eq hmd.out (made_c 0 (.slice afv62 ((delL s1 C).length) cfv62) (.slice aa68 ((delL s1 C).length) cc69) (delL s1 C) (List.replicate ((delL s1 C).length) 0) _ _ _ (i63.ext qXt) ((O67.ints (by simp; omega)).ext qXt))).mono ?_
    rintro e w13 ⟨fv70u, fv70v, rfl, i71u, i71v, -, -, -, xw13⟩
    have Lw13 : Ext w12 w13 := Ext.trans qXt xw13
    have Xw13 : Ext w w13 := Xw12.trans Lw13
    replace b10 := Lw13.cell b10
    replace b11 := Lw13.cell b11
    replace b12 := Lw13.cell b12
    replace b20 := Lw13.cell b20
    replace b21 := Lw13.cell b21
    replace b22 := Lw13.cell b22
    replace f_b20 := Lw13.frz z_b2 f_b20
    replace f_b21 := Lw13.frz z_b2 f_b21
    replace f_b22 := Lw13.frz z_b2 f_b22
    replace b280 := Lw13.cell b280
    replace b281 := Lw13.cell b281
    replace b282 := Lw13.cell b282
    replace f_b280 := Lw13.frz z_b28 f_b280
    replace f_b281 := Lw13.frz z_b28 f_b281
    replace f_b282 := Lw13.frz z_b28 f_b282
    replace e470 := Lw13.cell e470
    have z_b1 : w.heap.size < w13.heap.size := qB b10
    have z_b2 : w.heap.size + 1 < w13.heap.size := qB b20
    have z_b28 : w5.heap.size < w13.heap.size := qB b280
    have z_e47 : bl3 < w13.heap.size := qB e470
    replace O22 := O22.ext Lw13
    replace O23 := O23.ext Lw13
    replace i63 := i63.ext Lw13
    replace i65 := i65.ext Lw13
    replace O67 := O67.ext Lw13
    have s_w13 : w.heap.size ≤ w13.heap.size := Xw13.size
    have BL25_w13 : Ext w4 w13 := BL25_w12.trans Lw13
    clear xw13
    obtain ⟨afv70u, cfv70u, rfl⟩ := i71u.form
    obtain ⟨afv70v, cfv70v, rfl⟩ := i71v.form
    go_wp2_with fail
    generalize hW19 : (((w13.setCell ⟨w.heap.size + 1, 0, none⟩ (.int .i64 0)).setCell ⟨w.heap.size + 1, 1, none⟩ (.slice afv70u ((delL s1 C).length) cfv70u)).setCell ⟨w.heap.size + 1, 2, none⟩ (.slice afv70v TT.length cfv70v)) = w14 at *
    have Kw14 : Chg (w.heap.size + 1) (w.heap.size + 1 + 1) w13 w14 := by subst hW19; exact qCh
    have Xw14 : Ext w w14 := by subst hW19; exact qXt
    replace b10 := Kw14.cell (by omega) b10
    replace b11 := Kw14.cell (by omega) b11
    replace b12 := Kw14.cell (by omega) b12
    replace b20 : w14.cell? ⟨w.heap.size + 1, 0, none⟩ = some (.int .i64 0) := by subst hW19; go_simp
    replace f_b20 : w14.frozen? ⟨w.heap.size + 1, 0, none⟩ = false := by subst hW19; first | (simp only [World.frozen?_setCell]; with_reducible assumption) | go_simp
    replace b21 : w14.cell? ⟨w.heap.size + 1, 1, none⟩ = some (.slice afv70u ((delL s1 C).length) cfv70u) := by subst hW19; go_simp
    replace f_b21 : w14.frozen? ⟨w.heap.size + 1, 1, none⟩ = false := by subst hW19; first | (simp only [World.frozen?_setCell]; with_reducible assumption) | go_simp
    replace b22 : w14.cell? ⟨w.heap.size + 1, 2, none⟩ = some (.slice afv70v TT.length cfv70v) := by subst hW19; go_simp
    replace f_b22 : w14.frozen? ⟨w.heap.size + 1, 2, none⟩ = false := by subst hW19; first | (simp only [World.frozen?_setCell]; with_reducible assumption) | go_simp
    replace b280 := Kw14.cell (by omega) b280
    replace f_b280 := Kw14.frzO (by omega) z_b28 f_b280
    replace b281 := Kw14.cell (by omega) b281
    replace f_b281 := Kw14.frzO (by omega) z_b28 f_b281
    replace b282 := Kw14.cell (by omega) b282
    replace f_b282 := Kw14.frzO (by omega) z_b28 f_b282
    replace e470 := Kw14.cell (by omega) e470
    replace O22 := O22.chgN Kw14 (by omega)
    replace O23 := O23.chgN Kw14 (by omega)
    replace i63 := i63.chg Kw14 (by omega)
    replace i65 := i65.chg Kw14 (by omega)
    replace O67 := O67.chg Kw14 (by omega)
    replace i71u := i71u.chg Kw14 (by omega)
    replace i71v := i71v.chg Kw14 (by omega)
    clear Kw14
    have z_b1 : w.heap.size < w14.heap.size := qB b10
    have z_b2 : w.heap.size + 1 < w14.heap.size := qB b20
    have z_b28 : w5.heap.size < w14.heap.size := qB b280
    have z_e47 : bl3 < w14.heap.size := qB e470
    have s_w14 : w.heap.size ≤ w14.heap.size := Xw14.size
    clear hW19
    refine bodyPost_ret (v := .tuple #[.agg #[.int .i64 0, .slice afv70u ((delL s1 C).length) cfv70u, .slice afv70v TT.length cfv70v], .bool true]) (by simp only [results, Try.results65]; go_simp) rfl ?_
    have hdg := dia_yes (dia_ok hdim.out hdim2.out hne.out hv6.out hv10.out hc17.out)
    rw [hdg]
    have hdt : diaT s1 t1 D C = t1.set D (v32 + v36) := by unfold diaT; rw [hv6.out, hv32.out, hv36.out]; exact congrArg _ (if_neg (by omega))
    refine ⟨.slice afv70u ((delL s1 C).length) cfv70u, .slice afv70v TT.length cfv70v, ?_, i71u.lower (by omega), ?_, (Xw14.trans qXt)⟩
    ·
     rw [show tidyB b1 (delL s1 C) = 0 by unfold tidyB; rw [if_pos hcl66]]
    ·
     rw [hdt, show tidyT (delL s1 C) (delL (t1.set D (v32 + v36)) C) = TT by unfold tidyT; rw [if_pos hcl66]; exact hTT.out]
     exact i71v.lower (by omega)
   ·
    refine (tidy_1 b1 _ _ (delL s1 C) (delL (t1.set D (v32 + v36)) C) _ _ _ (i63.ext qXt) (i65.ext qXt) hcl66).mono ?_
    rintro e w12 ⟨rfl, xw12⟩
    have Lw12 : Ext w11 w12 := Ext.trans qXt xw12
    have Xw12 : Ext w w12 := Xw11.trans Lw12
    replace b10 := Lw12.cell b10
    replace b11 := Lw12.cell b11
    replace b12 := Lw12.cell b12
    replace b20 := Lw12.cell b20
    replace b21 := Lw12.cell b21
    replace b22 := Lw12.cell b22
    replace f_b20 := Lw12.frz z_b2 f_b20
    replace f_b21 := Lw12.frz z_b2 f_b21
    replace f_b22 := Lw12.frz z_b2 f_b22
    replace b280 := Lw12.cell b280
    replace b281 := Lw12.cell b281
    replace b282 := Lw12.cell b282
    replace f_b280 := Lw12.frz z_b28 f_b280
    replace f_b281 := Lw12.frz z_b28 f_b281
    replace f_b282 := Lw12.frz z_b28 f_b282
    replace e470 := Lw12.cell e470
    have z_b1 : w.heap.size < w12.heap.size := qB b10
    have z_b2 : w.heap.size + 1 < w12.heap.size := qB b20
    have z_b28 : w5.heap.size < w12.heap.size := qB b280
    have z_e47 : bl3 < w12.heap.size := qB e470
    replace O22 := O22.ext Lw12
    replace O23 := O23.ext Lw12
    replace i63 := i63.ext Lw12
    replace i65 := i65.ext Lw12
    have s_w12 : w.heap.size ≤ w12.heap.size := Xw12.size
    have BL25_w12 : Ext w4 w12 := BL25_w11.trans Lw12
    clear xw12
    have hdv := (dia_view hvv.out (A := D) (C := C) (by have := hne.out; omega) hDN hCN (by rw [hv6.out, hv10.out]; exact hc17.out)).1
    rw [show diaT s1 t1 D C = t1.set D (v32 + v36) by unfold diaT; rw [hv6.out, hv32.out, hv36.out]; exact congrArg _ (if_neg (by omega))] at hdv
    unfold tidyB tidyT at hdv
    rw [if_neg hcl66, if_neg hcl66] at hdv
    have hmd : Hid (madeV (b1) (delL s1 C) (delL (t1.set D (v32 + v36)) C) = (b1, delL s1 C, delL (t1.set D (v32 + v36)) C, true)) := Lib.hid (made_yes hdv)
    replace hdv := Lib.hid hdv
    go_wp2_with fail
    refine (pv_eq hmd.out (made_c b1 (.slice afv62 ((delL s1 C).length) cfv62) (.slice afv64 ((delL (t1.set D (v32 + v36)) C).length) cfv64) (delL s1 C) (delL (t1.set D (v32 + v36)) C) _ _ _ (i63.ext qXt) (i65.ext qXt))).mono ?_
    rintro e w13 ⟨fv72u, fv72v, rfl, i73u, i73v, -, -, -, xw13⟩
    have Lw13 : Ext w12 w13 := Ext.trans qXt xw13
    have Xw13 : Ext w w13 := Xw12.trans Lw13
    replace b10 := Lw13.cell b10
    replace b11 := Lw13.cell b11
    replace b12 := Lw13.cell b12
    replace b20 := Lw13.cell b20
    replace b21 := Lw13.cell b21
    replace b22 := Lw13.cell b22
    replace f_b20 := Lw13.frz z_b2 f_b20
    replace f_b21 := Lw13.frz z_b2 f_b21
    replace f_b22 := Lw13.frz z_b2 f_b22
    replace b280 := Lw13.cell b280
    replace b281 := Lw13.cell b281
    replace b282 := Lw13.cell b282
    replace f_b280 := Lw13.frz z_b28 f_b280
    replace f_b281 := Lw13.frz z_b28 f_b281
    replace f_b282 := Lw13.frz z_b28 f_b282
    replace e470 := Lw13.cell e470
    have z_b1 : w.heap.size < w13.heap.size := qB b10
    have z_b2 : w.heap.size + 1 < w13.heap.size := qB b20
    have z_b28 : w5.heap.size < w13.heap.size := qB b280
    have z_e47 : bl3 < w13.heap.size := qB e470
    replace O22 := O22.ext Lw13
    replace O23 := O23.ext Lw13
    replace i63 := i63.ext Lw13
    replace i65 := i65.ext Lw13
    have s_w13 : w.heap.size ≤ w13.heap.size := Xw13.size
    have BL25_w13 : Ext w4 w13 := BL25_w12.trans Lw13
    clear xw13
    obtain ⟨afv72u, cfv72u, rfl⟩ := i73u.form
    obtain ⟨afv72v, cfv72v, rfl⟩ := i73v.form
    go_wp2_with fail
    generalize hW20 : (((w13.setCell ⟨w.heap.size + 1, 0, none⟩ (.int .i64 b1)).setCell ⟨w.heap.size + 1, 1, none⟩ (.slice afv72u ((delL s1 C).length) cfv72u)).setCell ⟨w.heap.size + 1, 2, none⟩ (.slice afv72v ((delL (t1.set D (v32 + v36)) C).length) cfv72v)) = w14 at *
    have Kw14 : Chg (w.heap.size + 1) (w.heap.size + 1 + 1) w13 w14 := by subst hW20; exact qCh
    have Xw14 : Ext w w14 := by subst hW20; exact qXt
    replace b10 := Kw14.cell (by omega) b10
    replace b11 := Kw14.cell (by omega) b11
    replace b12 := Kw14.cell (by omega) b12
    replace b20 : w14.cell? ⟨w.heap.size + 1, 0, none⟩ = some (.int .i64 b1) := by subst hW20; go_simp
    replace f_b20 : w14.frozen? ⟨w.heap.size + 1, 0, none⟩ = false := by subst hW20; first | (simp only [World.frozen?_setCell]; with_reducible assumption) | go_simp
    replace b21 : w14.cell? ⟨w.heap.size + 1, 1, none⟩ = some (.slice afv72u ((delL s1 C).length) cfv72u) := by subst hW20; go_simp
    replace f_b21 : w14.frozen? ⟨w.heap.size + 1, 1, none⟩ = false := by subst hW20; first | (simp only [World.frozen?_setCell]; with_reducible assumption) | go_simp
    replace b22 : w14.cell? ⟨w.heap.size + 1, 2, none⟩ = some (.slice afv72v ((delL (t1.set D (v32 + v36)) C).length) cfv72v) := by subst hW20; go_simp
    replace f_b22 : w14.frozen? ⟨w.heap.size + 1, 2, none⟩ = false := by subst hW20; first | (simp only [World.frozen?_setCell]; with_reducible assumption) | go_simp
    replace b280 := Kw14.cell (by omega) b280
    replace f_b280 := Kw14.frzO (by omega) z_b28 f_b280
    replace b281 := Kw14.cell (by omega) b281
    replace f_b281 := Kw14.frzO (by omega) z_b28 f_b281
    replace b282 := Kw14.cell (by omega) b282
    replace f_b282 := Kw14.frzO (by omega) z_b28 f_b282
    replace e470 := Kw14.cell (by omega) e470
    replace O22 := O22.chgN Kw14 (by omega)
    replace O23 := O23.chgN Kw14 (by omega)
    replace i63 := i63.chg Kw14 (by omega)
    replace i65 := i65.chg Kw14 (by omega)
    replace i73u := i73u.chg Kw14 (by omega)
    replace i73v := i73v.chg Kw14 (by omega)
    clear Kw14
    have z_b1 : w.heap.size < w14.heap.size := qB b10
    have z_b2 : w.heap.size + 1 < w14.heap.size := qB b20
    have z_b28 : w5.heap.size < w14.heap.size := qB b280
    have z_e47 : bl3 < w14.heap.size := qB e470
    have s_w14 : w.heap.size ≤ w14.heap.size := Xw14.size
    clear hW20
    refine bodyPost_ret (v := .tuple #[.agg #[.int .i64 b1, .slice afv72u ((delL s1 C).length) cfv72u, .slice afv72v ((delL (t1.set D (v32 + v36)) C).length) cfv72v], .bool true]) (by simp only [results, Try.results65]; go_simp) rfl ?_
    have hdg := dia_yes (dia_ok hdim.out hdim2.out hne.out hv6.out hv10.out hc17.out)
    rw [hdg]
    have hdt : diaT s1 t1 D C = t1.set D (v32 + v36) := by unfold diaT; rw [hv6.out, hv32.out, hv36.out]; exact congrArg _ (if_neg (by omega))
    refine ⟨.slice afv72u ((delL s1 C).length) cfv72u, .slice afv72v ((delL (t1.set D (v32 + v36)) C).length) cfv72v, ?_, i73u.lower (by omega), ?_, (Xw14.trans qXt)⟩
    ·
     rw [show tidyB b1 (delL s1 C) = b1 by unfold tidyB; rw [if_neg hcl66]]
    ·
     rw [hdt, show tidyT (delL s1 C) (delL (t1.set D (v32 + v36)) C) = delL (t1.set D (v32 + v36)) C by unfold tidyT; rw [if_neg hcl66]]
     exact i73v.lower (by omega)
 ·
  have hc17e : ((v6 : Int) == (v10 : Int)) = false := by simpa using hc17
  have hc17n : ((v6 : Int) != (v10 : Int)) = true := by simpa using hc17
  replace hc17 := Lib.hid hc17
  refine qTk (v := ?_) 31 rfl (.inl ⟨by rfl, ?_⟩) ?_
  rotate_left
  ·
   (intro w hSw; (try dsimp only at hSw); go_simp; try with_reducible rfl)
  try simp only [Act.put, qa, qb, qc, qD, qE, qF]
  refine qTk (v := ?_) 32 rfl (.inl ⟨by rfl, ?_⟩) ?_
  rotate_left
  ·
   (intro w hSw; (try dsimp only at hSw); go_simp; try with_reducible rfl)
  try simp only [Act.put, qa, qb, qc, qD, qE, qF]
  refine wpTail_done qKr ?_ _
  clear hHeld 
  go_wp2_with fail
  generalize hW21 : (((w4.setCell ⟨w.heap.size + 1, 0, none⟩ (.int .i64 0)).setCell ⟨w.heap.size + 1, 1, none⟩ (.slice none 0 0)).setCell ⟨w.heap.size + 1, 2, none⟩ (.slice none 0 0)) = w5 at *
  have Kw5 : Chg (w.heap.size + 1) (w.heap.size + 1 + 1) w4 w5 := by subst hW21; exact qCh
  have Xw5 : Ext w w5 := by subst hW21; exact qXt
  replace b10 := Kw5.cell (by omega) b10
  replace b11 := Kw5.cell (by omega) b11
  replace b12 := Kw5.cell (by omega) b12
  replace b20 : w5.cell? ⟨w.heap.size + 1, 0, none⟩ = some (.int .i64 0) := by subst hW21; go_simp
  replace f_b20 : w5.frozen? ⟨w.heap.size + 1, 0, none⟩ = false := by subst hW21; first | (simp only [World.frozen?_setCell]; with_reducible assumption) | go_simp
  replace b21 : w5.cell? ⟨w.heap.size + 1, 1, none⟩ = some (.slice none 0 0) := by subst hW21; go_simp
  replace f_b21 : w5.frozen? ⟨w.heap.size + 1, 1, none⟩ = false := by subst hW21; first | (simp only [World.frozen?_setCell]; with_reducible assumption) | go_simp
  replace b22 : w5.cell? ⟨w.heap.size + 1, 2, none⟩ = some (.slice none 0 0) := by subst hW21; go_simp
  replace f_b22 : w5.frozen? ⟨w.heap.size + 1, 2, none⟩ = false := by subst hW21; first | (simp only [World.frozen?_setCell]; with_reducible assumption) | go_simp
  replace e50 := Kw5.cell (by omega) e50
  replace e90 := Kw5.cell (by omega) e90
  clear Kw5
  have z_b1 : w.heap.size < w5.heap.size := qB b10
  have z_b2 : w.heap.size + 1 < w5.heap.size := qB b20
  have z_e5 : bl3 < w5.heap.size := qB e50
  have z_e9 : bl3 < w5.heap.size := qB e90
  have s_w5 : w.heap.size ≤ w5.heap.size := Xw5.size
  clear hW21
  refine bodyPost_ret (v := .tuple #[.agg #[.int .i64 0, .slice none 0 0, .slice none 0 0], .bool false]) (by simp only [results, Try.results65]; go_simp) rfl ?_
  rw [show diaV b1 s1 t1 (D : Int) (C : Int) = noV from dia_no4 hv6.out hv10.out hc17.out]
  exact PVWB.no (Xw5.trans qXt)

set_option maxHeartbeats 1600000 in
theorem specDiagonalOf_c (b1 : Int) (u1 v1 : Value) (s1 t1 : List Int) (d f : Int) (w : World) (l1 m1 : Nat) (h1 : Ints w l1 u1 s1) (k1 : Ints w m1 v1 t1) :
  Calls Try.prog 65 #[.agg #[.int .i64 b1, u1, v1], .int .i64 d, .int .i64 f] w (PVX w (diaV b1 s1 t1 d f)) := by
 cases hdim : dimB b1 s1 t1 d with
 | false =>
  cases hvv : viewB b1 s1 t1 with
  | false => exact specDia_0 b1 u1 v1 s1 t1 d f w l1 m1 h1 k1 hdim hvv
  | true => exact specDia_1 b1 u1 v1 s1 t1 d f w l1 m1 h1 k1 hdim hvv (by unfold dimB at hdim; rw [hvv] at hdim; simpa using hdim)
 | true =>
  obtain ⟨hvv, h0, _⟩ := dim_in hdim
  obtain ⟨D, rfl⟩ : ∃ D : Nat, d = D := ⟨d.toNat, by omega⟩
  have hin : inB 0 ((s1.length : Int) - 1) (D : Int) = true := by unfold dimB at hdim; rw [hvv] at hdim; simpa using hdim
  cases hdim2 : dimB b1 s1 t1 f with
  | false => exact specDia_2 b1 u1 v1 s1 t1 D f w l1 m1 h1 k1 hdim hin hdim2 (by unfold dimB at hdim2; rw [hvv] at hdim2; simpa using hdim2)
  | true =>
   obtain ⟨_, h2, _⟩ := dim_in hdim2
   obtain ⟨C, rfl⟩ : ∃ C : Nat, f = C := ⟨f.toNat, by omega⟩
   have hin2 : inB 0 ((s1.length : Int) - 1) (C : Int) = true := by unfold dimB at hdim2; rw [hvv] at hdim2; simpa using hdim2
   by_cases hne : (D : Int) = (C : Int)
   ·
    exact specDia_3 b1 u1 v1 s1 t1 D C w l1 m1 h1 k1 hdim hin hdim2 hin2 hne
   ·
    exact specDia_4 b1 u1 v1 s1 t1 D C w l1 m1 h1 k1 hdim hin hdim2 hin2 hne


end Go.Proofs.Ytonnnjaooifpjaa

/- Walks: drawn memories, views of memories, values. -/
namespace Go.Proofs.Ytonnnjaooifpjaa
open Go.RowKit
set_option linter.unusedVariables false
set_option maxRecDepth 100000

theorem Ints.len_eq {w : World} {lo : Nat} {p : Option Addr} {n r : Nat} {s : List Int} (h : Ints w lo (.slice p n r) s) : n = s.length := by
  obtain ⟨a, c, e⟩ := h.form; simp at e; exact e.2.1
end Go.Proofs.Ytonnnjaooifpjaa

/- Walks: views and memories are drawn. -/
namespace Go.Proofs.Ytonnnjaooifpjaa
open Go.RowKit
set_option linter.unusedVariables false
set_option maxRecDepth 100000

end Go.Proofs.Ytonnnjaooifpjaa

/- Walks: a view and a dimension are drawn. -/
namespace Go.Proofs.Ytonnnjaooifpjaa
open Go.RowKit
set_option linter.unusedVariables false
set_option maxRecDepth 100000

def SDim (rb k : Nat) (w : World) (e : Ending) (w' : World) : Prop := ∃ (b : Int) (s t : List Int) (p1 p2 : Option Addr) (r1 r2 : Nat) (x : Int), e = .returned (.tuple #[.agg #[.int .i64 b, .slice p1 s.length r1, .slice p2 t.length r2], .int .i64 x]) ∧
  Ints w' w.heap.size (.slice p1 s.length r1) s ∧ Ints w' w.heap.size (.slice p2 t.length r2) t ∧ s.length ≤ 4 ∧ t.length ≤ 5 ∧ (-1 ≤ x ∧ x ≤ 5) ∧ Rd w' rb k ∧ Chg rb (rb + 1) w w'
set_option maxHeartbeats 3200000 in
theorem dimOf_c (rb k : Nat) (w : World) (hr : Rd w rb k) (hk : k ≤ 600000) :
    Calls Try.prog 88 #[.pointer (some ⟨rb, 0, none⟩)] w (SDim rb (k + 300) w) := by
  have hlt := hr.lt
  go_enter Try.func88, Try.ntmps88
  go_wp2_with fail
  generalize hW1 : w.alloc (.cells #[.int .i64 0, .slice none 0 0, .slice none 0 0] 25) = w1 at *
  have Lw1 : Ext w w1 := by subst hW1; exact qXt
  have Xw1 : Rch rb w w1 := Rch.ext (Rch.refl rb w) Lw1
  replace hr := hr.ext Lw1
  have q0 : w1.cell? ⟨w.heap.size, 0, none⟩ = some (.int .i64 0) := by subst hW1; exact qCl
  have q1 : w1.cell? ⟨w.heap.size, 1, none⟩ = some (.slice none 0 0) := by subst hW1; exact qCl
  have q2 : w1.cell? ⟨w.heap.size, 2, none⟩ = some (.slice none 0 0) := by subst hW1; exact qCl
  have f_q0 : w1.frozen? ⟨w.heap.size, 0, none⟩ = false := by subst hW1; exact qFz
  have f_q1 : w1.frozen? ⟨w.heap.size, 1, none⟩ = false := by subst hW1; exact qFz
  have f_q2 : w1.frozen? ⟨w.heap.size, 2, none⟩ = false := by subst hW1; exact qFz
  have z_q : w.heap.size < w1.heap.size := qB q0
  have s_w1 : w.heap.size ≤ w1.heap.size := Xw1.size
  clear hW1
  refine (someView_c rb k _ hr (by omega)).mono ?_
  rintro e w2 ⟨b, s, t, p1, p2, n1, r1, n2, r2, rfl, i1, i2, l1, l2, Rw2, Cw2⟩
  have zc_w2 := Cw2.size
  have Xw2 : Rch rb w w2 := Rch.step (Xw1) Cw2
  replace q0 := Cw2.cell (by omega) q0
  replace f_q0 := Cw2.frzO (by omega) (by omega) f_q0
  replace q1 := Cw2.cell (by omega) q1
  replace f_q1 := Cw2.frzO (by omega) (by omega) f_q1
  replace q2 := Cw2.cell (by omega) q2
  replace f_q2 := Cw2.frzO (by omega) (by omega) f_q2
  have z_q : w.heap.size < w2.heap.size := qB q0
  have s_w2 : w.heap.size ≤ w2.heap.size := Xw2.size
  clear hr Cw2
  obtain rfl := i1.len_eq
  obtain rfl := i2.len_eq
  go_wp2_with fail
  generalize hW2 : w2.alloc (.cells #[.int .i64 b, .slice p1 s.length r1, .slice p2 t.length r2] 25) = w3 at *
  have Lw3 : Ext w2 w3 := by subst hW2; exact qXt
  have Xw3 : Rch rb w w3 := Rch.ext Xw2 Lw3
  replace Rw2 := Rw2.ext Lw3
  replace q0 := Lw3.cell q0
  replace q1 := Lw3.cell q1
  replace q2 := Lw3.cell q2
  replace f_q0 := Lw3.frz z_q f_q0
  replace f_q1 := Lw3.frz z_q f_q1
  replace f_q2 := Lw3.frz z_q f_q2
  have v0 : w3.cell? ⟨w2.heap.size, 0, none⟩ = some (.int .i64 b) := by subst hW2; exact qCl
  have v1 : w3.cell? ⟨w2.heap.size, 1, none⟩ = some (.slice p1 s.length r1) := by subst hW2; exact qCl
  have v2 : w3.cell? ⟨w2.heap.size, 2, none⟩ = some (.slice p2 t.length r2) := by subst hW2; exact qCl
  have z_q : w.heap.size < w3.heap.size := qB q0
  have z_v : w2.heap.size < w3.heap.size := qB v0
  replace i1 := i1.ext Lw3
  replace i2 := i2.ext Lw3
  have s_w3 : w.heap.size ≤ w3.heap.size := Xw3.size
  clear hW2
  go_wp2_with fail
  have hw0 : IntKind.i64.wrap ((s.length : Int) + 1) = (s.length : Int) + 1 := IntWalk.i64_in _ (by omega)
  refine wp_region_held_drew (S := fun w' => w'.cell? ⟨w2.heap.size, 0, none⟩ = some (.int .i64 b) ∧ w'.cell? ⟨w2.heap.size, 1, none⟩ = some (.slice p1 s.length r1) ∧ w'.cell? ⟨w2.heap.size, 2, none⟩ = some (.slice p2 t.length r2)) qKr ⟨v0, v1, v2⟩ (fun hHeld => ?_)
  refine qHk (v := ?_) 0 rfl (.inl ⟨by rfl, ?_⟩) ?_
  rotate_left
  · (intro w hSw; (try dsimp only at hSw); go_simp; try with_reducible rfl)
  try simp only [Act.put, qa, qb, qc, qD, qE, qF]
  refine qHk (v := ?_) 1 rfl (.inl ⟨by rfl, ?_⟩) ?_
  rotate_left
  · (intro w hSw; (try dsimp only at hSw); go_simp; try with_reducible rfl)
  try simp only [Act.put, qa, qb, qc, qD, qE, qF]
  refine qHk (v := ?_) 2 rfl (.inl ⟨by rfl, ?_⟩) ?_
  rotate_left
  · (intro w hSw; (try dsimp only at hSw); go_simp; try with_reducible rfl)
  try simp only [Act.put, qa, qb, qc, qD, qE, qF]
  refine qHk (v := ?_) 3 rfl (.inl ⟨by rfl, ?_⟩) ?_
  rotate_left
  · (intro w hSw; (try dsimp only at hSw); go_simp; try with_reducible rfl)
  try simp only [Act.put, qa, qb, qc, qD, qE, qF]
  refine qHk (v := ?_) 4 rfl (.inl ⟨by rfl, ?_⟩) ?_
  rotate_left
  · (intro w hSw; (try dsimp only at hSw); go_simp; try with_reducible rfl)
  try simp only [Act.put, qa, qb, qc, qD, qE, qF]
  refine qHk (v := ?_) 5 rfl (.inl ⟨by rfl, ?_⟩) ?_
  rotate_left
  · (intro w hSw; (try dsimp only at hSw); go_simp; try with_reducible rfl)
  try simp only [Act.put, qa, qb, qc, qD, qE, qF]
  refine qHk (v := ?_) 6 rfl (.inl ⟨by rfl, ?_⟩) ?_
  rotate_left
  · (intro w hSw; (try dsimp only at hSw); go_simp; try with_reducible rfl)
  try simp only [Act.put, qa, qb, qc, qD, qE, qF]
  refine qHk (v := ?_) 8 rfl (.inl ⟨by rfl, ?_⟩) ?_
  rotate_left
  · (intro w hSw; (try dsimp only at hSw); go_simp; try with_reducible rfl)
  try simp only [Act.put, qa, qb, qc, qD, qE, qF]
  refine qHk (v := ?_) 9 rfl (.inl ⟨by rfl, ?_⟩) ?_
  rotate_left
  · (intro w hSw; (try dsimp only at hSw); go_simp; try with_reducible rfl)
  try simp only [Act.put, qa, qb, qc, qD, qE, qF]
  refine qHk (v := ?_) 10 rfl (.inl ⟨by rfl, ?_⟩) ?_
  rotate_left
  · (intro w hSw; (try dsimp only at hSw); go_simp; try with_reducible rfl)
  try simp only [Act.put, qa, qb, qc, qD, qE, qF]
  refine qHk (v := ?_) 11 rfl (.inl ⟨by rfl, ?_⟩) ?_
  rotate_left
  · (intro w hSw; (try dsimp only at hSw); go_simp; try with_reducible rfl)
  try simp only [Act.put, qa, qb, qc, qD, qE, qF]
  refine qHk (v := ?_) 12 rfl (.inl ⟨by rfl, ?_⟩) ?_
  rotate_left
  · (intro w hSw; (try dsimp only at hSw); go_simp; try with_reducible rfl)
  try simp only [Act.put, qa, qb, qc, qD, qE, qF]
  refine qHr 7 rfl (fun K hK => ?_)
  try simp only [Act.put, qa, qb, qc, qD, qE, qF]
  go_simp
  refine (pick1_c ((s.length : Int) + 1) rb _ _ (Rw2.ext qXt) (by omega) (by omega)).mono ?_
  rintro e w4 ⟨x1, rfl, hx1, Rw4, Cw4⟩
  have Ew4 : Ext w3 (w3.drew) := qXt
  have e_w4 := Ew4.size
  have zc_w4 := Cw4.size
  simp only [World.size_drew, World.size_alloc] at zc_w4
  have Xw4 : Rch rb w w4 := Rch.step (Rch.ext Xw3 Ew4) Cw4
  replace q0 := Cw4.cell (by omega) (Ew4.cell q0)
  replace f_q0 := Cw4.frzO (by omega) (by omega) (Ew4.frz z_q f_q0)
  replace q1 := Cw4.cell (by omega) (Ew4.cell q1)
  replace f_q1 := Cw4.frzO (by omega) (by omega) (Ew4.frz z_q f_q1)
  replace q2 := Cw4.cell (by omega) (Ew4.cell q2)
  replace f_q2 := Cw4.frzO (by omega) (by omega) (Ew4.frz z_q f_q2)
  replace v0 := Cw4.cell (by omega) (Ew4.cell v0)
  replace v1 := Cw4.cell (by omega) (Ew4.cell v1)
  replace v2 := Cw4.cell (by omega) (Ew4.cell v2)
  have z_q : w.heap.size < w4.heap.size := qB q0
  have z_v : w2.heap.size < w4.heap.size := qB v0
  replace i1 := (i1.ext Ew4).chg Cw4 (by omega)
  replace i2 := (i2.ext Ew4).chg Cw4 (by omega)
  have s_w4 : w.heap.size ≤ w4.heap.size := Xw4.size
  clear Rw2 Cw4 Ew4
  refine hK.out _ _ ⟨v0, v1, v2⟩ (fun hHeld => ?_)
  clear hK K
  try simp only [Act.put, qa, qb, qc, qD, qE, qF]
  refine qHr 13 rfl (fun K hK => ?_)
  try simp only [Act.put, qa, qb, qc, qD, qE, qF]
  go_simp
  refine (pick1_c ((s.length : Int) + 1) rb _ _ Rw4 (by omega) (by omega)).mono ?_
  rintro e w5 ⟨x2, rfl, hx2, Rw5, Cw5⟩
  have zc_w5 := Cw5.size
  have Xw5 : Rch rb w w5 := Rch.step (Xw4) Cw5
  replace q0 := Cw5.cell (by omega) q0
  replace f_q0 := Cw5.frzO (by omega) (by omega) f_q0
  replace q1 := Cw5.cell (by omega) q1
  replace f_q1 := Cw5.frzO (by omega) (by omega) f_q1
  replace q2 := Cw5.cell (by omega) q2
  replace f_q2 := Cw5.frzO (by omega) (by omega) f_q2
  replace v0 := Cw5.cell (by omega) v0
  replace v1 := Cw5.cell (by omega) v1
  replace v2 := Cw5.cell (by omega) v2
  have z_q : w.heap.size < w5.heap.size := qB q0
  have z_v : w2.heap.size < w5.heap.size := qB v0
  replace i1 := i1.chg Cw5 (by omega)
  replace i2 := i2.chg Cw5 (by omega)
  have s_w5 : w.heap.size ≤ w5.heap.size := Xw5.size
  clear Rw4 Cw5
  refine hK.out _ _ ⟨v0, v1, v2⟩ (fun hHeld => ?_)
  clear hK K
  try simp only [Act.put, qa, qb, qc, qD, qE, qF]
  refine qHr 14 rfl (fun K hK => ?_)
  try simp only [Act.put, qa, qb, qc, qD, qE, qF]
  go_simp
  skip
  refine hK.out _ _ ⟨(show Ext w5 _ from qXt).cell v0, (show Ext w5 _ from qXt).cell v1, (show Ext w5 _ from qXt).cell v2⟩ (fun hHeld => ?_)
  clear hK K
  try simp only [Act.put, qa, qb, qc, qD, qE, qF]
  refine qHr 15 rfl (fun K hK => ?_)
  try simp only [Act.put, qa, qb, qc, qD, qE, qF]
  go_simp
  refine (oneLit_c _ _ _ rb _ _ Rw5 (by omega) (by rfl) (by rfl) (by constructor <;> simp) (by first | rfl | simp)).mono ?_
  rintro e w6 ⟨x, rfl, hx, Rw6, Cw6⟩
  have Ew6 : Ext w5 (w5.alloc (.cells #[.int .i64 0, .int .i64 x1, .int .i64 1, .int .i64 x2, .int .i64 (-1)] 3)) := qXt
  have e_w6 := Ew6.size
  have zc_w6 := Cw6.size
  have Xw6 : Rch rb w w6 := Rch.step (Rch.ext Xw5 Ew6) Cw6
  replace q0 := Cw6.cell (by omega) (Ew6.cell q0)
  replace f_q0 := Cw6.frzO (by omega) (by omega) (Ew6.frz z_q f_q0)
  replace q1 := Cw6.cell (by omega) (Ew6.cell q1)
  replace f_q1 := Cw6.frzO (by omega) (by omega) (Ew6.frz z_q f_q1)
  replace q2 := Cw6.cell (by omega) (Ew6.cell q2)
  replace f_q2 := Cw6.frzO (by omega) (by omega) (Ew6.frz z_q f_q2)
  replace v0 := Cw6.cell (by omega) (Ew6.cell v0)
  replace v1 := Cw6.cell (by omega) (Ew6.cell v1)
  replace v2 := Cw6.cell (by omega) (Ew6.cell v2)
  have z_q : w.heap.size < w6.heap.size := qB q0
  have z_v : w2.heap.size < w6.heap.size := qB v0
  replace i1 := (i1.ext Ew6).chg Cw6 (by omega)
  replace i2 := (i2.ext Ew6).chg Cw6 (by omega)
  have s_w6 : w.heap.size ≤ w6.heap.size := Xw6.size
  clear Rw5 Cw6 Ew6
  replace hx : -1 ≤ x ∧ x ≤ 5 := by simp [litL] at hx; omega
  refine hK.out _ _ ⟨v0, v1, v2⟩ (fun hHeld => ?_)
  clear hK K
  try simp only [Act.put, qa, qb, qc, qD, qE, qF]
  refine qHr 16 rfl (fun K hK => ?_)
  try simp only [Act.put, qa, qb, qc, qD, qE, qF]
  go_simp
  generalize hW3 : (((w6.setCell ⟨w.heap.size, 0, none⟩ (.int .i64 b)).setCell ⟨w.heap.size, 1, none⟩ (.slice p1 s.length r1)).setCell ⟨w.heap.size, 2, none⟩ (.slice p2 t.length r2)) = w7 at *
  have Kw7 : Chg (w.heap.size) (w.heap.size + 1) w6 w7 := by subst hW3; exact qCh
  have Xw7 : Rch rb w w7 := by subst hW3; exact qRt
  replace Rw6 := (Rd.set2 (a := ⟨w.heap.size, 2, none⟩) (u := .slice p2 t.length r2) (show rb < w.heap.size by omega) (Rd.set2 (a := ⟨w.heap.size, 1, none⟩) (u := .slice p1 s.length r1) (show rb < w.heap.size by omega) (Rd.set2 (a := ⟨w.heap.size, 0, none⟩) (u := .int .i64 b) (show rb < w.heap.size by omega) Rw6)))
  rw [hW3] at Rw6
  replace q0 : w7.cell? ⟨w.heap.size, 0, none⟩ = some (.int .i64 b) := by subst hW3; go_simp
  replace f_q0 : w7.frozen? ⟨w.heap.size, 0, none⟩ = false := by subst hW3; first | (simp only [World.frozen?_setCell]; with_reducible assumption) | go_simp
  replace q1 : w7.cell? ⟨w.heap.size, 1, none⟩ = some (.slice p1 s.length r1) := by subst hW3; go_simp
  replace f_q1 : w7.frozen? ⟨w.heap.size, 1, none⟩ = false := by subst hW3; first | (simp only [World.frozen?_setCell]; with_reducible assumption) | go_simp
  replace q2 : w7.cell? ⟨w.heap.size, 2, none⟩ = some (.slice p2 t.length r2) := by subst hW3; go_simp
  replace f_q2 : w7.frozen? ⟨w.heap.size, 2, none⟩ = false := by subst hW3; first | (simp only [World.frozen?_setCell]; with_reducible assumption) | go_simp
  replace v0 := Kw7.cell (by omega) v0
  replace v1 := Kw7.cell (by omega) v1
  replace v2 := Kw7.cell (by omega) v2
  replace i1 := i1.chg Kw7 (by omega)
  replace i2 := i2.chg Kw7 (by omega)
  clear Kw7
  have z_q : w.heap.size < w7.heap.size := qB q0
  have z_v : w2.heap.size < w7.heap.size := qB v0
  have s_w7 : w.heap.size ≤ w7.heap.size := Xw7.size
  clear hW3
  refine hK.out _ _ ⟨v0, v1, v2⟩ (fun hHeld => ?_)
  clear hK K
  try simp only [Act.put, qa, qb, qc, qD, qE, qF]
  refine qHk (v := ?_) 17 rfl (.inl ⟨by rfl, ?_⟩) ?_
  rotate_left
  · (intro w hSw; (try dsimp only at hSw); go_simp; try with_reducible rfl)
  try simp only [Act.put, qa, qb, qc, qD, qE, qF]
  refine wpAnyH_done qKr ?_ _
  clear hHeld hw0
  go_wp2_with fail
  refine bodyPost_ret (v := .tuple #[.agg #[.int .i64 b, .slice p1 s.length r1, .slice p2 t.length r2], .int .i64 x]) (by simp only [results, Try.results88]; go_simp) rfl ?_
  exact ⟨b, s, t, p1, p2, r1, r2, x, rfl, i1.lower (by omega), i2.lower (by omega), l1, l2, hx, Rw6.mono (by omega), Xw7⟩

/-- a view, a dimension and a number are drawn -/
def PVDI (w : World) (e : Ending) (w' : World) : Prop := ∃ (b : Int) (s t : List Int) (p1 p2 : Option Addr) (r1 r2 : Nat) (d x : Int), e = .returned (.tuple #[.agg #[.int .i64 b, .slice p1 s.length r1, .slice p2 t.length r2], .int .i64 d, .int .i64 x]) ∧
  Ints w' w.heap.size (.slice p1 s.length r1) s ∧ Ints w' w.heap.size (.slice p2 t.length r2) t ∧ s.length ≤ 4 ∧ t.length ≤ 5 ∧ (-1 ≤ d ∧ d ≤ 5) ∧ (-100 ≤ x ∧ x ≤ 100) ∧ Ext w w'
end Go.Proofs.Ytonnnjaooifpjaa

/- Walks: a view and two of its dimensions are drawn. -/
namespace Go.Proofs.Ytonnnjaooifpjaa
open Go.RowKit
set_option linter.unusedVariables false
set_option maxRecDepth 100000

theorem lit2 (w : World) (x y : Int) : OwnI (w.alloc (.cells #[.int .i64 x, .int .i64 y] 3)) w.heap.size (.slice (some ⟨w.heap.size, 0, none⟩) 2 2) [x, y] :=
 World.ownsRow_lit w #[.int .i64 x, .int .i64 y] 2 (Nat.le_refl _) (by decide) rfl
theorem lit3 (w : World) (x y z : Int) : OwnI (w.alloc (.cells #[.int .i64 x, .int .i64 y, .int .i64 z] 3)) w.heap.size (.slice (some ⟨w.heap.size, 0, none⟩) 3 3) [x, y, z] :=
 World.ownsRow_lit w #[.int .i64 x, .int .i64 y, .int .i64 z] 3 (Nat.le_refl _) (by decide) rfl
theorem newS_len (s : List Int) : (newS s).length ≤ 4 ∧ (newT s).length = (newS s).length := by
 unfold newS newT
 cases h : shapeB s with
 | false => simp
 | true =>
  have h4 := (Small.of h).1
  simp only [if_true]
  refine ⟨h4, ?_⟩
  split
  ·
   simp
  ·
   exact rowS_len s
set_option maxHeartbeats 6400000 in
theorem drawDiagonalOf_c (a : Option Addr) (n cap : Nat) (w : World) (hb : BysIn w a n cap) :
  Calls Try.prog 63 #[.slice a n cap] w (PVDI w) := by
 go_enter Try.func63, Try.ntmps63
 go_wp2_with fail
 refine (newReader_c a n cap _ (hb.ext qXt)).mono ?_
 rintro e w1 ⟨rfl, hr, xw1⟩
 have Lw1 : Ext w w1 := Ext.trans qXt xw1
 have Xw1 : Ext w w1 := Lw1
 have q0 : w1.cell? ⟨w.heap.size, 0, none⟩ = some (.int .i64 0) := xw1.cell qCl
 have q1 : w1.cell? ⟨w.heap.size, 1, none⟩ = some (.slice none 0 0) := xw1.cell qCl
 have q2 : w1.cell? ⟨w.heap.size, 2, none⟩ = some (.slice none 0 0) := xw1.cell qCl
 have f_q0 : w1.frozen? ⟨w.heap.size, 0, none⟩ = false := xw1.frz (by simp <;> omega) qFz
 have f_q1 : w1.frozen? ⟨w.heap.size, 1, none⟩ = false := xw1.frz (by simp <;> omega) qFz
 have f_q2 : w1.frozen? ⟨w.heap.size, 2, none⟩ = false := xw1.frz (by simp <;> omega) qFz
 have z_q : w.heap.size < w1.heap.size := qB q0
 have s_w1 : w.heap.size ≤ w1.heap.size := Xw1.size
 clear xw1
 simp only [World.size_alloc] at hr
 have z1 := hr.lt
 clear hb
 go_wp2_with fail
 refine (pick1_c 2 _ 0 _ hr (by omega) (by omega)).mono ?_
 rintro e w2 ⟨x0, rfl, hx0, Rw2, Cw2⟩
 have zc_w2 := Cw2.size
 have Xw2 : Ext w w2 := Rch.toExt' Cw2 (by omega) (Xw1)
 replace q0 := Cw2.cell (by omega) q0
 replace f_q0 := Cw2.frzO (by omega) (by omega) f_q0
 replace q1 := Cw2.cell (by omega) q1
 replace f_q1 := Cw2.frzO (by omega) (by omega) f_q1
 replace q2 := Cw2.cell (by omega) q2
 replace f_q2 := Cw2.frzO (by omega) (by omega) f_q2
 have z_q : w.heap.size < w2.heap.size := qB q0
 have s_w2 : w.heap.size ≤ w2.heap.size := Xw2.size
 clear hr Cw2
 by_cases h0 : x0 = 0
 ·
  subst h0
  go_wp2_with fail
  refine (oneLit_c #[.int .i64 3, .int .i64 2, .int .i64 4, .int .i64 1, .int .i64 0] 5 _ _ _ _ Rw2 (by omega) (by rfl) (by rfl) (by constructor <;> simp) (by first | rfl | simp)).mono ?_
  rintro e w3 ⟨y, rfl, hy, Rw3, Cw3⟩
  have Ew3 : Ext w2 (w2.alloc (.cells #[.int .i64 3, .int .i64 2, .int .i64 4, .int .i64 1, .int .i64 0] 3)) := qXt
  have e_w3 := Ew3.size
  have zc_w3 := Cw3.size
  have Xw3 : Ext w w3 := Rch.toExt' Cw3 (by omega) (Xw2.trans Ew3)
  replace q0 := Cw3.cell (by omega) (Ew3.cell q0)
  replace f_q0 := Cw3.frzO (by omega) (by omega) (Ew3.frz z_q f_q0)
  replace q1 := Cw3.cell (by omega) (Ew3.cell q1)
  replace f_q1 := Cw3.frzO (by omega) (by omega) (Ew3.frz z_q f_q1)
  replace q2 := Cw3.cell (by omega) (Ew3.cell q2)
  replace f_q2 := Cw3.frzO (by omega) (by omega) (Ew3.frz z_q f_q2)
  have z_q : w.heap.size < w3.heap.size := qB q0
  have s_w3 : w.heap.size ≤ w3.heap.size := Xw3.size
  clear Rw2 Cw3 Ew3
  clear hy
  go_wp2_with fail
  have EL : Ext w3 (w3.alloc (.cells #[.int .i64 y, .int .i64 y] 3)) := qXt
  refine (newView_c [y, y] _ _ _ ((lit2 w3 y y).ints (by simp))).mono ?_
  rintro e w4 ⟨ua, va, rfl, i1a, i2a, -, -, -, xw4⟩
  have Lw4 : Ext w3 w4 := Ext.trans qXt xw4
  have Xw4 : Ext w w4 := Xw3.trans Lw4
  replace Rw3 := Rw3.ext Lw4
  replace q0 := Lw4.cell q0
  replace q1 := Lw4.cell q1
  replace q2 := Lw4.cell q2
  replace f_q0 := Lw4.frz z_q f_q0
  replace f_q1 := Lw4.frz z_q f_q1
  replace f_q2 := Lw4.frz z_q f_q2
  have z_q : w.heap.size < w4.heap.size := qB q0
  have s_w4 : w.heap.size ≤ w4.heap.size := Xw4.size
  clear xw4
  obtain ⟨hSa, hTa⟩ := newS_len [y, y]
  revert i1a i2a hSa hTa
  generalize newS [y, y] = Sa
  generalize newT [y, y] = Ta
  intro i1a i2a hSa hTa
  obtain ⟨p1a, r1a, rfl⟩ := i1a.form
  obtain ⟨p2a, r2a, rfl⟩ := i2a.form
  replace hTa := Lib.hid hTa
  replace i1a := i1a.lower (show w3.heap.size ≤ _ from EL.size)
  replace i2a := i2a.lower (show w3.heap.size ≤ _ from EL.size)
  clear EL
  have zla := Lw4.size
  go_wp2_with fail
  generalize hW1 : w4.alloc (.cells #[.int .i64 0, .slice p1a Sa.length r1a, .slice p2a Ta.length r2a] 25) = w5 at *
  have Lw5 : Ext w4 w5 := by subst hW1; exact qXt
  have Xw5 : Ext w w5 := Xw4.trans Lw5
  replace Rw3 := Rw3.ext Lw5
  replace q0 := Lw5.cell q0
  replace q1 := Lw5.cell q1
  replace q2 := Lw5.cell q2
  replace f_q0 := Lw5.frz z_q f_q0
  replace f_q1 := Lw5.frz z_q f_q1
  replace f_q2 := Lw5.frz z_q f_q2
  have v0 : w5.cell? ⟨w4.heap.size, 0, none⟩ = some (.int .i64 0) := by subst hW1; exact qCl
  have v1 : w5.cell? ⟨w4.heap.size, 1, none⟩ = some (.slice p1a Sa.length r1a) := by subst hW1; exact qCl
  have v2 : w5.cell? ⟨w4.heap.size, 2, none⟩ = some (.slice p2a Ta.length r2a) := by subst hW1; exact qCl
  have f_v0 : w5.frozen? ⟨w4.heap.size, 0, none⟩ = false := by subst hW1; exact qFz
  have f_v1 : w5.frozen? ⟨w4.heap.size, 1, none⟩ = false := by subst hW1; exact qFz
  have f_v2 : w5.frozen? ⟨w4.heap.size, 2, none⟩ = false := by subst hW1; exact qFz
  have z_q : w.heap.size < w5.heap.size := qB q0
  have z_v : w4.heap.size < w5.heap.size := qB v0
  replace i1a := i1a.ext Lw5
  replace i2a := i2a.ext Lw5
  have s_w5 : w.heap.size ≤ w5.heap.size := Xw5.size
  clear hW1
  go_wp2_with fail
  refine (pick1_c 2 _ _ _ Rw3 (by omega) (by omega)).mono ?_
  rintro e w6 ⟨x3, rfl, hx3, Rw6, Cw6⟩
  have zc_w6 := Cw6.size
  have Xw6 : Ext w w6 := Rch.toExt' Cw6 (by omega) (Xw5)
  replace q0 := Cw6.cell (by omega) q0
  replace f_q0 := Cw6.frzO (by omega) (by omega) f_q0
  replace q1 := Cw6.cell (by omega) q1
  replace f_q1 := Cw6.frzO (by omega) (by omega) f_q1
  replace q2 := Cw6.cell (by omega) q2
  replace f_q2 := Cw6.frzO (by omega) (by omega) f_q2
  replace v0 := Cw6.cell (by omega) v0
  replace f_v0 := Cw6.frzO (by omega) (by omega) f_v0
  replace v1 := Cw6.cell (by omega) v1
  replace f_v1 := Cw6.frzO (by omega) (by omega) f_v1
  replace v2 := Cw6.cell (by omega) v2
  replace f_v2 := Cw6.frzO (by omega) (by omega) f_v2
  have z_q : w.heap.size < w6.heap.size := qB q0
  have z_v : w4.heap.size < w6.heap.size := qB v0
  replace i1a := i1a.chg Cw6 (by omega)
  replace i2a := i2a.chg Cw6 (by omega)
  have s_w6 : w.heap.size ≤ w6.heap.size := Xw6.size
  clear Rw3 Cw6
  by_cases h3 : x3 = 0
  ·
   subst h3
   go_wp2_with fail
   have EL : Ext w6 (w6.alloc (.cells #[.int .i64 y, .int .i64 2, .int .i64 y] 3)) := qXt
   refine (newView_c [y, 2, y] _ _ _ ((lit3 w6 y 2 y).ints (by simp))).mono ?_
   rintro e w7 ⟨ub, vb, rfl, i1b, i2b, -, -, -, xw7⟩
   have Lw7 : Ext w6 w7 := Ext.trans qXt xw7
   have Xw7 : Ext w w7 := Xw6.trans Lw7
   replace Rw6 := Rw6.ext Lw7
   replace q0 := Lw7.cell q0
   replace q1 := Lw7.cell q1
   replace q2 := Lw7.cell q2
   replace f_q0 := Lw7.frz z_q f_q0
   replace f_q1 := Lw7.frz z_q f_q1
   replace f_q2 := Lw7.frz z_q f_q2
   replace v0 := Lw7.cell v0
   replace v1 := Lw7.cell v1
   replace v2 := Lw7.cell v2
   replace f_v0 := Lw7.frz z_v f_v0
   replace f_v1 := Lw7.frz z_v f_v1
   replace f_v2 := Lw7.frz z_v f_v2
   have z_q : w.heap.size < w7.heap.size := qB q0
   have z_v : w4.heap.size < w7.heap.size := qB v0
   replace i1a := i1a.ext Lw7
   replace i2a := i2a.ext Lw7
   have s_w7 : w.heap.size ≤ w7.heap.size := Xw7.size
   clear xw7
   obtain ⟨hSb, hTb⟩ := newS_len [y, 2, y]
   revert i1b i2b hSb hTb
   generalize newS [y, 2, y] = Sb
   generalize newT [y, 2, y] = Tb
   intro i1b i2b hSb hTb
   obtain ⟨p1b, r1b, rfl⟩ := i1b.form
   obtain ⟨p2b, r2b, rfl⟩ := i2b.form
   replace hTb := Lib.hid hTb
   replace i1b := i1b.lower (show w6.heap.size ≤ _ from EL.size)
   replace i2b := i2b.lower (show w6.heap.size ≤ _ from EL.size)
   clear EL
   have zlb := Lw7.size
   clear i1a i2a
   go_wp2_with fail
   generalize hW2 : (((w7.setCell ⟨w4.heap.size, 0, none⟩ (.int .i64 0)).setCell ⟨w4.heap.size, 1, none⟩ (.slice p1b Sb.length r1b)).setCell ⟨w4.heap.size, 2, none⟩ (.slice p2b Tb.length r2b)) = w8 at *
   have Kw8 : Chg (w4.heap.size) (w4.heap.size + 1) w7 w8 := by subst hW2; exact qCh
   have Xw8 : Ext w w8 := by subst hW2; exact qXt
   replace Rw6 := (Rd.set2 (a := ⟨w4.heap.size, 2, none⟩) (u := .slice p2b Tb.length r2b) (show (w.heap.size + 1) < w4.heap.size by omega) (Rd.set2 (a := ⟨w4.heap.size, 1, none⟩) (u := .slice p1b Sb.length r1b) (show (w.heap.size + 1) < w4.heap.size by omega) (Rd.set2 (a := ⟨w4.heap.size, 0, none⟩) (u := .int .i64 0) (show (w.heap.size + 1) < w4.heap.size by omega) Rw6)))
   rw [hW2] at Rw6
   replace q0 := Kw8.cell (by omega) q0
   replace f_q0 := Kw8.frzO (by omega) z_q f_q0
   replace q1 := Kw8.cell (by omega) q1
   replace f_q1 := Kw8.frzO (by omega) z_q f_q1
   replace q2 := Kw8.cell (by omega) q2
   replace f_q2 := Kw8.frzO (by omega) z_q f_q2
   replace v0 : w8.cell? ⟨w4.heap.size, 0, none⟩ = some (.int .i64 0) := by subst hW2; go_simp
   replace f_v0 : w8.frozen? ⟨w4.heap.size, 0, none⟩ = false := by subst hW2; first | (simp only [World.frozen?_setCell]; with_reducible assumption) | go_simp
   replace v1 : w8.cell? ⟨w4.heap.size, 1, none⟩ = some (.slice p1b Sb.length r1b) := by subst hW2; go_simp
   replace f_v1 : w8.frozen? ⟨w4.heap.size, 1, none⟩ = false := by subst hW2; first | (simp only [World.frozen?_setCell]; with_reducible assumption) | go_simp
   replace v2 : w8.cell? ⟨w4.heap.size, 2, none⟩ = some (.slice p2b Tb.length r2b) := by subst hW2; go_simp
   replace f_v2 : w8.frozen? ⟨w4.heap.size, 2, none⟩ = false := by subst hW2; first | (simp only [World.frozen?_setCell]; with_reducible assumption) | go_simp
   replace i1b := i1b.chg Kw8 (by omega)
   replace i2b := i2b.chg Kw8 (by omega)
   clear Kw8
   have z_q : w.heap.size < w8.heap.size := qB q0
   have z_v : w4.heap.size < w8.heap.size := qB v0
   have s_w8 : w.heap.size ≤ w8.heap.size := Xw8.size
   clear hW2
   go_wp2_with fail
   refine wp_region_held_drew (S := fun w' => w'.cell? ⟨w4.heap.size, 0, none⟩ = some (.int .i64 0) ∧ w'.cell? ⟨w4.heap.size, 1, none⟩ = some (.slice p1b Sb.length r1b) ∧ w'.cell? ⟨w4.heap.size, 2, none⟩ = some (.slice p2b Tb.length r2b)) qKr ⟨v0, v1, v2⟩ (fun hHeld => ?_)
   refine qHk (v := ?_) 0 rfl (.inl ⟨by rfl, ?_⟩) ?_
   rotate_left
   ·
    (intro w hSw; (try dsimp only at hSw); go_simp; try with_reducible rfl)
   try simp only [Act.put, qa, qb, qc, qD, qE, qF]
   refine qHk (v := ?_) 1 rfl (.inl ⟨by rfl, ?_⟩) ?_
   rotate_left
   ·
    (intro w hSw; (try dsimp only at hSw); go_simp; try with_reducible rfl)
   try simp only [Act.put, qa, qb, qc, qD, qE, qF]
   refine qHk (v := ?_) 2 rfl (.inl ⟨by rfl, ?_⟩) ?_
   rotate_left
   ·
    (intro w hSw; (try dsimp only at hSw); go_simp; try with_reducible rfl)
   try simp only [Act.put, qa, qb, qc, qD, qE, qF]
   refine qHk (v := ?_) 3 rfl (.inl ⟨by rfl, ?_⟩) ?_
   rotate_left
   ·
    (intro w hSw; (try dsimp only at hSw); go_simp; try with_reducible rfl)
   try simp only [Act.put, qa, qb, qc, qD, qE, qF]
   refine qHk (v := ?_) 4 rfl (.inl ⟨by rfl, ?_⟩) ?_
   rotate_left
   ·
    (intro w hSw; (try dsimp only at hSw); go_simp; try with_reducible rfl)
   try simp only [Act.put, qa, qb, qc, qD, qE, qF]
   refine qHk (v := ?_) 6 rfl (.inl ⟨by rfl, ?_⟩) ?_
   rotate_left
   ·
    (intro w hSw; (try dsimp only at hSw); go_simp; try with_reducible rfl)
   try simp only [Act.put, qa, qb, qc, qD, qE, qF]
   refine qHk (v := ?_) 7 rfl (.inl ⟨by rfl, ?_⟩) ?_
   rotate_left
   ·
    (intro w hSw; (try dsimp only at hSw); go_simp; try with_reducible rfl)
   try simp only [Act.put, qa, qb, qc, qD, qE, qF]
   refine qHk (v := ?_) 8 rfl (.inl ⟨by rfl, ?_⟩) ?_
   rotate_left
   ·
    (intro w hSw; (try dsimp only at hSw); go_simp; try with_reducible rfl)
   try simp only [Act.put, qa, qb, qc, qD, qE, qF]
   refine qHk (v := ?_) 9 rfl (.inl ⟨by rfl, ?_⟩) ?_
   rotate_left
   ·
    (intro w hSw; (try dsimp only at hSw); go_simp; try with_reducible rfl)
   try simp only [Act.put, qa, qb, qc, qD, qE, qF]
   refine qHr 5 rfl (fun K hK => ?_)
   try simp only [Act.put, qa, qb, qc, qD, qE, qF]
   go_simp
   refine (pick_c (Sb.length : Int) _ _ _ (Rw6.ext qXt) (by omega)).mono ?_
   rintro e w9 ⟨x1, rfl, hx1, Rw9, Cw9⟩
   have Ew9 : Ext w8 (w8.drew) := qXt
   have e_w9 := Ew9.size
   have zc_w9 := Cw9.size
   simp only [World.size_drew, World.size_alloc] at zc_w9
   have Xw9 : Ext w w9 := Rch.toExt' Cw9 (by omega) (Xw8.trans Ew9)
   replace q0 := Cw9.cell (by omega) (Ew9.cell q0)
   replace f_q0 := Cw9.frzO (by omega) (by omega) (Ew9.frz z_q f_q0)
   replace q1 := Cw9.cell (by omega) (Ew9.cell q1)
   replace f_q1 := Cw9.frzO (by omega) (by omega) (Ew9.frz z_q f_q1)
   replace q2 := Cw9.cell (by omega) (Ew9.cell q2)
   replace f_q2 := Cw9.frzO (by omega) (by omega) (Ew9.frz z_q f_q2)
   replace v0 := Cw9.cell (by omega) (Ew9.cell v0)
   replace f_v0 := Cw9.frzO (by omega) (by omega) (Ew9.frz z_v f_v0)
   replace v1 := Cw9.cell (by omega) (Ew9.cell v1)
   replace f_v1 := Cw9.frzO (by omega) (by omega) (Ew9.frz z_v f_v1)
   replace v2 := Cw9.cell (by omega) (Ew9.cell v2)
   replace f_v2 := Cw9.frzO (by omega) (by omega) (Ew9.frz z_v f_v2)
   have z_q : w.heap.size < w9.heap.size := qB q0
   have z_v : w4.heap.size < w9.heap.size := qB v0
   replace i1b := (i1b.ext Ew9).chg Cw9 (by omega)
   replace i2b := (i2b.ext Ew9).chg Cw9 (by omega)
   have s_w9 : w.heap.size ≤ w9.heap.size := Xw9.size
   clear Rw6 Cw9 Ew9
   refine hK.out _ _ ⟨v0, v1, v2⟩ (fun hHeld => ?_)
   clear hK K
   try simp only [Act.put, qa, qb, qc, qD, qE, qF]
   refine qHr 10 rfl (fun K hK => ?_)
   try simp only [Act.put, qa, qb, qc, qD, qE, qF]
   go_simp
   refine (pick_c (Sb.length : Int) _ _ _ Rw9 (by omega)).mono ?_
   rintro e w10 ⟨x2, rfl, hx2, Rw10, Cw10⟩
   have zc_w10 := Cw10.size
   have Xw10 : Ext w w10 := Rch.toExt' Cw10 (by omega) (Xw9)
   replace q0 := Cw10.cell (by omega) q0
   replace f_q0 := Cw10.frzO (by omega) (by omega) f_q0
   replace q1 := Cw10.cell (by omega) q1
   replace f_q1 := Cw10.frzO (by omega) (by omega) f_q1
   replace q2 := Cw10.cell (by omega) q2
   replace f_q2 := Cw10.frzO (by omega) (by omega) f_q2
   replace v0 := Cw10.cell (by omega) v0
   replace f_v0 := Cw10.frzO (by omega) (by omega) f_v0
   replace v1 := Cw10.cell (by omega) v1
   replace f_v1 := Cw10.frzO (by omega) (by omega) f_v1
   replace v2 := Cw10.cell (by omega) v2
   replace f_v2 := Cw10.frzO (by omega) (by omega) f_v2
   have z_q : w.heap.size < w10.heap.size := qB q0
   have z_v : w4.heap.size < w10.heap.size := qB v0
   replace i1b := i1b.chg Cw10 (by omega)
   replace i2b := i2b.chg Cw10 (by omega)
   have s_w10 : w.heap.size ≤ w10.heap.size := Xw10.size
   clear Rw9 Cw10
   refine hK.out _ _ ⟨v0, v1, v2⟩ (fun hHeld => ?_)
   clear hK K
   try simp only [Act.put, qa, qb, qc, qD, qE, qF]
   refine qHr 11 rfl (fun K hK => ?_)
   try simp only [Act.put, qa, qb, qc, qD, qE, qF]
   go_simp
   generalize hW3 : (((w10.setCell ⟨w.heap.size, 0, none⟩ (.int .i64 0)).setCell ⟨w.heap.size, 1, none⟩ (.slice p1b Sb.length r1b)).setCell ⟨w.heap.size, 2, none⟩ (.slice p2b Tb.length r2b)) = w11 at *
   have Kw11 : Chg (w.heap.size) (w.heap.size + 1) w10 w11 := by subst hW3; exact qCh
   have Xw11 : Ext w w11 := by subst hW3; exact qXt
   replace q0 : w11.cell? ⟨w.heap.size, 0, none⟩ = some (.int .i64 0) := by subst hW3; go_simp
   replace f_q0 : w11.frozen? ⟨w.heap.size, 0, none⟩ = false := by subst hW3; first | (simp only [World.frozen?_setCell]; with_reducible assumption) | go_simp
   replace q1 : w11.cell? ⟨w.heap.size, 1, none⟩ = some (.slice p1b Sb.length r1b) := by subst hW3; go_simp
   replace f_q1 : w11.frozen? ⟨w.heap.size, 1, none⟩ = false := by subst hW3; first | (simp only [World.frozen?_setCell]; with_reducible assumption) | go_simp
   replace q2 : w11.cell? ⟨w.heap.size, 2, none⟩ = some (.slice p2b Tb.length r2b) := by subst hW3; go_simp
   replace f_q2 : w11.frozen? ⟨w.heap.size, 2, none⟩ = false := by subst hW3; first | (simp only [World.frozen?_setCell]; with_reducible assumption) | go_simp
   replace v0 := Kw11.cell (by omega) v0
   replace f_v0 := Kw11.frzO (by omega) z_v f_v0
   replace v1 := Kw11.cell (by omega) v1
   replace f_v1 := Kw11.frzO (by omega) z_v f_v1
   replace v2 := Kw11.cell (by omega) v2
   replace f_v2 := Kw11.frzO (by omega) z_v f_v2
   replace i1b := i1b.chg Kw11 (by omega)
   replace i2b := i2b.chg Kw11 (by omega)
   clear Kw11
   have z_q : w.heap.size < w11.heap.size := qB q0
   have z_v : w4.heap.size < w11.heap.size := qB v0
   have s_w11 : w.heap.size ≤ w11.heap.size := Xw11.size
   clear hW3
   refine hK.out _ _ ⟨v0, v1, v2⟩ (fun hHeld => ?_)
   clear hK K
   try simp only [Act.put, qa, qb, qc, qD, qE, qF]
   refine qHk (v := ?_) 12 rfl (.inl ⟨by rfl, ?_⟩) ?_
   rotate_left
   ·
    (intro w hSw; (try dsimp only at hSw); go_simp; try with_reducible rfl)
   try simp only [Act.put, qa, qb, qc, qD, qE, qF]
   refine qHk (v := ?_) 13 rfl (.inl ⟨by rfl, ?_⟩) ?_
   rotate_left
   ·
    (intro w hSw; (try dsimp only at hSw); go_simp; try with_reducible rfl)
   try simp only [Act.put, qa, qb, qc, qD, qE, qF]
   refine wpAnyH_done qKr ?_ _
   clear hHeld
   go_wp2_with fail
   refine bodyPost_ret (v := .tuple #[.agg #[.int .i64 0, .slice p1b Sb.length r1b, .slice p2b Tb.length r2b], .int .i64 x1, .int .i64 x2]) (by simp only [results, Try.results63]; go_simp) rfl ?_
   exact ⟨0, Sb, Tb, p1b, p2b, r1b, r2b, x1, x2, rfl, i1b.lower (by omega), i2b.lower (by omega), hSb, (by have := hTb.out; omega), (by omega), (by omega), Xw11⟩
  ·
   have h3e : (x3 == 0) = false := by simpa using h3
   replace h3 := Lib.hid h3
   go_wp2_with fail
   refine wp_region_held_drew (S := fun w' => w'.cell? ⟨w4.heap.size, 0, none⟩ = some (.int .i64 0) ∧ w'.cell? ⟨w4.heap.size, 1, none⟩ = some (.slice p1a Sa.length r1a) ∧ w'.cell? ⟨w4.heap.size, 2, none⟩ = some (.slice p2a Ta.length r2a)) qKr ⟨v0, v1, v2⟩ (fun hHeld => ?_)
   refine qHk (v := ?_) 0 rfl (.inl ⟨by rfl, ?_⟩) ?_
   rotate_left
   ·
    (intro w hSw; (try dsimp only at hSw); go_simp; try with_reducible rfl)
   try simp only [Act.put, qa, qb, qc, qD, qE, qF]
   refine qHk (v := ?_) 1 rfl (.inl ⟨by rfl, ?_⟩) ?_
   rotate_left
   ·
    (intro w hSw; (try dsimp only at hSw); go_simp; try with_reducible rfl)
   try simp only [Act.put, qa, qb, qc, qD, qE, qF]
   refine qHk (v := ?_) 2 rfl (.inl ⟨by rfl, ?_⟩) ?_
   rotate_left
   ·
    (intro w hSw; (try dsimp only at hSw); go_simp; try with_reducible rfl)
   try simp only [Act.put, qa, qb, qc, qD, qE, qF]
   refine qHk (v := ?_) 3 rfl (.inl ⟨by rfl, ?_⟩) ?_
   rotate_left
   ·
    (intro w hSw; (try dsimp only at hSw); go_simp; try with_reducible rfl)
   try simp only [Act.put, qa, qb, qc, qD, qE, qF]
   refine qHk (v := ?_) 4 rfl (.inl ⟨by rfl, ?_⟩) ?_
   rotate_left
   ·
    (intro w hSw; (try dsimp only at hSw); go_simp; try with_reducible rfl)
   try simp only [Act.put, qa, qb, qc, qD, qE, qF]
   refine qHk (v := ?_) 6 rfl (.inl ⟨by rfl, ?_⟩) ?_
   rotate_left
   ·
    (intro w hSw; (try dsimp only at hSw); go_simp; try with_reducible rfl)
   try simp only [Act.put, qa, qb, qc, qD, qE, qF]
   refine qHk (v := ?_) 7 rfl (.inl ⟨by rfl, ?_⟩) ?_
   rotate_left
   ·
    (intro w hSw; (try dsimp only at hSw); go_simp; try with_reducible rfl)
   try simp only [Act.put, qa, qb, qc, qD, qE, qF]
   refine qHk (v := ?_) 8 rfl (.inl ⟨by rfl, ?_⟩) ?_
   rotate_left
   ·
    (intro w hSw; (try dsimp only at hSw); go_simp; try with_reducible rfl)
   try simp only [Act.put, qa, qb, qc, qD, qE, qF]
   refine qHk (v := ?_) 9 rfl (.inl ⟨by rfl, ?_⟩) ?_
   rotate_left
   ·
    (intro w hSw; (try dsimp only at hSw); go_simp; try with_reducible rfl)
   try simp only [Act.put, qa, qb, qc, qD, qE, qF]
   refine qHr 5 rfl (fun K hK => ?_)
   try simp only [Act.put, qa, qb, qc, qD, qE, qF]
   go_simp
   refine (pick_c (Sa.length : Int) _ _ _ (Rw6.ext qXt) (by omega)).mono ?_
   rintro e w7 ⟨x1, rfl, hx1, Rw7, Cw7⟩
   have Ew7 : Ext w6 (w6.drew) := qXt
   have e_w7 := Ew7.size
   have zc_w7 := Cw7.size
   simp only [World.size_drew, World.size_alloc] at zc_w7
   have Xw7 : Ext w w7 := Rch.toExt' Cw7 (by omega) (Xw6.trans Ew7)
   replace q0 := Cw7.cell (by omega) (Ew7.cell q0)
   replace f_q0 := Cw7.frzO (by omega) (by omega) (Ew7.frz z_q f_q0)
   replace q1 := Cw7.cell (by omega) (Ew7.cell q1)
   replace f_q1 := Cw7.frzO (by omega) (by omega) (Ew7.frz z_q f_q1)
   replace q2 := Cw7.cell (by omega) (Ew7.cell q2)
   replace f_q2 := Cw7.frzO (by omega) (by omega) (Ew7.frz z_q f_q2)
   replace v0 := Cw7.cell (by omega) (Ew7.cell v0)
   replace f_v0 := Cw7.frzO (by omega) (by omega) (Ew7.frz z_v f_v0)
   replace v1 := Cw7.cell (by omega) (Ew7.cell v1)
   replace f_v1 := Cw7.frzO (by omega) (by omega) (Ew7.frz z_v f_v1)
   replace v2 := Cw7.cell (by omega) (Ew7.cell v2)
   replace f_v2 := Cw7.frzO (by omega) (by omega) (Ew7.frz z_v f_v2)
   have z_q : w.heap.size < w7.heap.size := qB q0
   have z_v : w4.heap.size < w7.heap.size := qB v0
   replace i1a := (i1a.ext Ew7).chg Cw7 (by omega)
   replace i2a := (i2a.ext Ew7).chg Cw7 (by omega)
   have s_w7 : w.heap.size ≤ w7.heap.size := Xw7.size
   clear Rw6 Cw7 Ew7
   refine hK.out _ _ ⟨v0, v1, v2⟩ (fun hHeld => ?_)
   clear hK K
   try simp only [Act.put, qa, qb, qc, qD, qE, qF]
   refine qHr 10 rfl (fun K hK => ?_)
   try simp only [Act.put, qa, qb, qc, qD, qE, qF]
   go_simp
   refine (pick_c (Sa.length : Int) _ _ _ Rw7 (by omega)).mono ?_
   rintro e w8 ⟨x2, rfl, hx2, Rw8, Cw8⟩
   have zc_w8 := Cw8.size
   have Xw8 : Ext w w8 := Rch.toExt' Cw8 (by omega) (Xw7)
   replace q0 := Cw8.cell (by omega) q0
   replace f_q0 := Cw8.frzO (by omega) (by omega) f_q0
   replace q1 := Cw8.cell (by omega) q1
   replace f_q1 := Cw8.frzO (by omega) (by omega) f_q1
   replace q2 := Cw8.cell (by omega) q2
   replace f_q2 := Cw8.frzO (by omega) (by omega) f_q2
   replace v0 := Cw8.cell (by omega) v0
   replace f_v0 := Cw8.frzO (by omega) (by omega) f_v0
   replace v1 := Cw8.cell (by omega) v1
   replace f_v1 := Cw8.frzO (by omega) (by omega) f_v1
   replace v2 := Cw8.cell (by omega) v2
   replace f_v2 := Cw8.frzO (by omega) (by omega) f_v2
   have z_q : w.heap.size < w8.heap.size := qB q0
   have z_v : w4.heap.size < w8.heap.size := qB v0
   replace i1a := i1a.chg Cw8 (by omega)
   replace i2a := i2a.chg Cw8 (by omega)
   have s_w8 : w.heap.size ≤ w8.heap.size := Xw8.size
   clear Rw7 Cw8
   refine hK.out _ _ ⟨v0, v1, v2⟩ (fun hHeld => ?_)
   clear hK K
   try simp only [Act.put, qa, qb, qc, qD, qE, qF]
   refine qHr 11 rfl (fun K hK => ?_)
   try simp only [Act.put, qa, qb, qc, qD, qE, qF]
   go_simp
   generalize hW4 : (((w8.setCell ⟨w.heap.size, 0, none⟩ (.int .i64 0)).setCell ⟨w.heap.size, 1, none⟩ (.slice p1a Sa.length r1a)).setCell ⟨w.heap.size, 2, none⟩ (.slice p2a Ta.length r2a)) = w9 at *
   have Kw9 : Chg (w.heap.size) (w.heap.size + 1) w8 w9 := by subst hW4; exact qCh
   have Xw9 : Ext w w9 := by subst hW4; exact qXt
   replace q0 : w9.cell? ⟨w.heap.size, 0, none⟩ = some (.int .i64 0) := by subst hW4; go_simp
   replace f_q0 : w9.frozen? ⟨w.heap.size, 0, none⟩ = false := by subst hW4; first | (simp only [World.frozen?_setCell]; with_reducible assumption) | go_simp
   replace q1 : w9.cell? ⟨w.heap.size, 1, none⟩ = some (.slice p1a Sa.length r1a) := by subst hW4; go_simp
   replace f_q1 : w9.frozen? ⟨w.heap.size, 1, none⟩ = false := by subst hW4; first | (simp only [World.frozen?_setCell]; with_reducible assumption) | go_simp
   replace q2 : w9.cell? ⟨w.heap.size, 2, none⟩ = some (.slice p2a Ta.length r2a) := by subst hW4; go_simp
   replace f_q2 : w9.frozen? ⟨w.heap.size, 2, none⟩ = false := by subst hW4; first | (simp only [World.frozen?_setCell]; with_reducible assumption) | go_simp
   replace v0 := Kw9.cell (by omega) v0
   replace f_v0 := Kw9.frzO (by omega) z_v f_v0
   replace v1 := Kw9.cell (by omega) v1
   replace f_v1 := Kw9.frzO (by omega) z_v f_v1
   replace v2 := Kw9.cell (by omega) v2
   replace f_v2 := Kw9.frzO (by omega) z_v f_v2
   replace i1a := i1a.chg Kw9 (by omega)
   replace i2a := i2a.chg Kw9 (by omega)
   clear Kw9
   have z_q : w.heap.size < w9.heap.size := qB q0
   have z_v : w4.heap.size < w9.heap.size := qB v0
   have s_w9 : w.heap.size ≤ w9.heap.size := Xw9.size
   clear hW4
   refine hK.out _ _ ⟨v0, v1, v2⟩ (fun hHeld => ?_)
   clear hK K
   try simp only [Act.put, qa, qb, qc, qD, qE, qF]
   refine qHk (v := ?_) 12 rfl (.inl ⟨by rfl, ?_⟩) ?_
   rotate_left
   ·
    (intro w hSw; (try dsimp only at hSw); go_simp; try with_reducible rfl)
   try simp only [Act.put, qa, qb, qc, qD, qE, qF]
   refine qHk (v := ?_) 13 rfl (.inl ⟨by rfl, ?_⟩) ?_
   rotate_left
   ·
    (intro w hSw; (try dsimp only at hSw); go_simp; try with_reducible rfl)
   try simp only [Act.put, qa, qb, qc, qD, qE, qF]
   refine wpAnyH_done qKr ?_ _
   clear hHeld
   go_wp2_with fail
   refine bodyPost_ret (v := .tuple #[.agg #[.int .i64 0, .slice p1a Sa.length r1a, .slice p2a Ta.length r2a], .int .i64 x1, .int .i64 x2]) (by simp only [results, Try.results63]; go_simp) rfl ?_
   exact ⟨0, Sa, Ta, p1a, p2a, r1a, r2a, x1, x2, rfl, i1a.lower (by omega), i2a.lower (by omega), hSa, (by have := hTa.out; omega), (by omega), (by omega), Xw9⟩
 ·
  have h0e : (x0 == 0) = false := by simpa using h0
  replace h0 := Lib.hid h0
  go_wp2_with fail
  refine (dimOf_c _ _ _ Rw2 (by omega)).mono ?_
  rintro e w3 ⟨b, s, t, p1, p2, r1, r2, d, rfl, i1, i2, l1, l2, hd, Rw3, Cw3⟩
  have zc_w3 := Cw3.size
  have Xw3 : Ext w w3 := Rch.toExt' Cw3 (by omega) (Xw2)
  replace q0 := Cw3.cell (by omega) q0
  replace f_q0 := Cw3.frzO (by omega) (by omega) f_q0
  replace q1 := Cw3.cell (by omega) q1
  replace f_q1 := Cw3.frzO (by omega) (by omega) f_q1
  replace q2 := Cw3.cell (by omega) q2
  replace f_q2 := Cw3.frzO (by omega) (by omega) f_q2
  have z_q : w.heap.size < w3.heap.size := qB q0
  have s_w3 : w.heap.size ≤ w3.heap.size := Xw3.size
  clear Rw2 Cw3
  go_wp2_with fail
  generalize hW5 : w3.alloc (.cells #[.int .i64 b, .slice p1 s.length r1, .slice p2 t.length r2] 25) = w4 at *
  have Lw4 : Ext w3 w4 := by subst hW5; exact qXt
  have Xw4 : Ext w w4 := Xw3.trans Lw4
  replace Rw3 := Rw3.ext Lw4
  replace q0 := Lw4.cell q0
  replace q1 := Lw4.cell q1
  replace q2 := Lw4.cell q2
  replace f_q0 := Lw4.frz z_q f_q0
  replace f_q1 := Lw4.frz z_q f_q1
  replace f_q2 := Lw4.frz z_q f_q2
  have v0 : w4.cell? ⟨w3.heap.size, 0, none⟩ = some (.int .i64 b) := by subst hW5; exact qCl
  have v1 : w4.cell? ⟨w3.heap.size, 1, none⟩ = some (.slice p1 s.length r1) := by subst hW5; exact qCl
  have v2 : w4.cell? ⟨w3.heap.size, 2, none⟩ = some (.slice p2 t.length r2) := by subst hW5; exact qCl
  have z_q : w.heap.size < w4.heap.size := qB q0
  have z_v : w3.heap.size < w4.heap.size := qB v0
  replace i1 := i1.ext Lw4
  replace i2 := i2.ext Lw4
  have s_w4 : w.heap.size ≤ w4.heap.size := Xw4.size
  clear hW5
  go_wp2_with fail
  refine wp_region_held_drew (S := fun w' => w'.cell? ⟨w3.heap.size, 0, none⟩ = some (.int .i64 b) ∧ w'.cell? ⟨w3.heap.size, 1, none⟩ = some (.slice p1 s.length r1) ∧ w'.cell? ⟨w3.heap.size, 2, none⟩ = some (.slice p2 t.length r2)) qKr ⟨v0, v1, v2⟩ (fun hHeld => ?_)
  refine qHk (v := ?_) 0 rfl (.inl ⟨by rfl, ?_⟩) ?_
  rotate_left
  ·
   (intro w hSw; (try dsimp only at hSw); go_simp; try with_reducible rfl)
  try simp only [Act.put, qa, qb, qc, qD, qE, qF]
  refine qHk (v := ?_) 1 rfl (.inl ⟨by rfl, ?_⟩) ?_
  rotate_left
  ·
   (intro w hSw; (try dsimp only at hSw); go_simp; try with_reducible rfl)
  try simp only [Act.put, qa, qb, qc, qD, qE, qF]
  refine qHk (v := ?_) 2 rfl (.inl ⟨by rfl, ?_⟩) ?_
  rotate_left
  ·
   (intro w hSw; (try dsimp only at hSw); go_simp; try with_reducible rfl)
  try simp only [Act.put, qa, qb, qc, qD, qE, qF]
  refine qHr 3 rfl (fun K hK => ?_)
  try simp only [Act.put, qa, qb, qc, qD, qE, qF]
  go_simp
  refine (pick1_c 3 _ _ _ (Rw3.ext qXt) (by omega) (by omega)).mono ?_
  rintro e w5 ⟨x2, rfl, hx2, Rw5, Cw5⟩
  have Ew5 : Ext w4 (w4.drew) := qXt
  have e_w5 := Ew5.size
  have zc_w5 := Cw5.size
  simp only [World.size_drew, World.size_alloc] at zc_w5
  have Xw5 : Ext w w5 := Rch.toExt' Cw5 (by omega) (Xw4.trans Ew5)
  replace q0 := Cw5.cell (by omega) (Ew5.cell q0)
  replace f_q0 := Cw5.frzO (by omega) (by omega) (Ew5.frz z_q f_q0)
  replace q1 := Cw5.cell (by omega) (Ew5.cell q1)
  replace f_q1 := Cw5.frzO (by omega) (by omega) (Ew5.frz z_q f_q1)
  replace q2 := Cw5.cell (by omega) (Ew5.cell q2)
  replace f_q2 := Cw5.frzO (by omega) (by omega) (Ew5.frz z_q f_q2)
  replace v0 := Cw5.cell (by omega) (Ew5.cell v0)
  replace v1 := Cw5.cell (by omega) (Ew5.cell v1)
  replace v2 := Cw5.cell (by omega) (Ew5.cell v2)
  have z_q : w.heap.size < w5.heap.size := qB q0
  have z_v : w3.heap.size < w5.heap.size := qB v0
  replace i1 := (i1.ext Ew5).chg Cw5 (by omega)
  replace i2 := (i2.ext Ew5).chg Cw5 (by omega)
  have s_w5 : w.heap.size ≤ w5.heap.size := Xw5.size
  clear Rw3 Cw5 Ew5
  refine hK.out _ _ ⟨v0, v1, v2⟩ (fun hHeld => ?_)
  clear hK K
  try simp only [Act.put, qa, qb, qc, qD, qE, qF]
  refine qHr 4 rfl (fun K hK => ?_)
  try simp only [Act.put, qa, qb, qc, qD, qE, qF]
  go_simp
  generalize hW6 : (((w5.setCell ⟨w.heap.size, 0, none⟩ (.int .i64 b)).setCell ⟨w.heap.size, 1, none⟩ (.slice p1 s.length r1)).setCell ⟨w.heap.size, 2, none⟩ (.slice p2 t.length r2)) = w6 at *
  have Kw6 : Chg (w.heap.size) (w.heap.size + 1) w5 w6 := by subst hW6; exact qCh
  have Xw6 : Ext w w6 := by subst hW6; exact qXt
  replace q0 : w6.cell? ⟨w.heap.size, 0, none⟩ = some (.int .i64 b) := by subst hW6; go_simp
  replace f_q0 : w6.frozen? ⟨w.heap.size, 0, none⟩ = false := by subst hW6; first | (simp only [World.frozen?_setCell]; with_reducible assumption) | go_simp
  replace q1 : w6.cell? ⟨w.heap.size, 1, none⟩ = some (.slice p1 s.length r1) := by subst hW6; go_simp
  replace f_q1 : w6.frozen? ⟨w.heap.size, 1, none⟩ = false := by subst hW6; first | (simp only [World.frozen?_setCell]; with_reducible assumption) | go_simp
  replace q2 : w6.cell? ⟨w.heap.size, 2, none⟩ = some (.slice p2 t.length r2) := by subst hW6; go_simp
  replace f_q2 : w6.frozen? ⟨w.heap.size, 2, none⟩ = false := by subst hW6; first | (simp only [World.frozen?_setCell]; with_reducible assumption) | go_simp
  replace v0 := Kw6.cell (by omega) v0
  replace v1 := Kw6.cell (by omega) v1
  replace v2 := Kw6.cell (by omega) v2
  replace i1 := i1.chg Kw6 (by omega)
  replace i2 := i2.chg Kw6 (by omega)
  clear Kw6
  have z_q : w.heap.size < w6.heap.size := qB q0
  have z_v : w3.heap.size < w6.heap.size := qB v0
  have s_w6 : w.heap.size ≤ w6.heap.size := Xw6.size
  clear hW6
  refine hK.out _ _ ⟨v0, v1, v2⟩ (fun hHeld => ?_)
  clear hK K
  try simp only [Act.put, qa, qb, qc, qD, qE, qF]
  refine qHk (v := ?_) 5 rfl (.inl ⟨by rfl, ?_⟩) ?_
  rotate_left
  ·
   (intro w hSw; (try dsimp only at hSw); go_simp; try with_reducible rfl)
  try simp only [Act.put, qa, qb, qc, qD, qE, qF]
  refine qHk (v := ?_) 6 rfl (.inl ⟨by rfl, ?_⟩) ?_
  rotate_left
  ·
   (intro w hSw; (try dsimp only at hSw); go_simp; try with_reducible rfl)
  try simp only [Act.put, qa, qb, qc, qD, qE, qF]
  refine wpAnyH_done qKr ?_ _
  clear hHeld
  go_wp2_with fail
  refine bodyPost_ret (v := .tuple #[.agg #[.int .i64 b, .slice p1 s.length r1, .slice p2 t.length r2], .int .i64 d, .int .i64 x2]) (by simp only [results, Try.results63]; go_simp) rfl ?_
  exact ⟨b, s, t, p1, p2, r1, r2, d, x2, rfl, i1.lower (by omega), i2.lower (by omega), l1, l2, hd, (by omega), Xw6⟩

end Go.Proofs.Ytonnnjaooifpjaa

/- Walks: rows, sums. -/
namespace Go.Proofs.Ytonnnjaooifpjaa
open Go.RowKit
set_option linter.unusedVariables false
set_option maxRecDepth 100000

end Go.Proofs.Ytonnnjaooifpjaa

/- Walks: PermuteDims of the program. -/
namespace Go.Proofs.Ytonnnjaooifpjaa
open Go.RowKit
set_option linter.unusedVariables false
set_option maxRecDepth 100000


def OrdTo (ord : List Int) (n k : Nat) : Prop := (∀ x ∈ ord.take k, 0 ≤ x ∧ x < n) ∧ (ord.take k).Nodup
theorem take_snoc (l : List Int) (k : Nat) (h : k < l.length) : l.take (k+1) = l.take k ++ [l.getD k 0] := by
  rw [List.take_succ_eq_append_getElem h]; simp [h]
theorem OrdTo.zero (ord : List Int) (n : Nat) : OrdTo ord n 0 := ⟨by simp, by simp⟩
theorem OrdTo.succ {ord : List Int} {n k : Nat} (h : OrdTo ord n k) (hk : k < ord.length) {x : Int} (hx : ord.getD k 0 = x) (h1 : 0 ≤ x ∧ x < n) (h2 : hasB (ord.take k) x = false) : OrdTo ord n (k+1) := by
  unfold OrdTo
  rw [take_snoc ord k hk, hx]
  refine ⟨fun y hy => ?_, ?_⟩
  · rcases List.mem_append.1 hy with hy | hy
    · exact h.1 y hy
    · simp at hy; subst hy; exact h1
  · rw [List.nodup_append]
    refine ⟨h.2, by simp, fun y hy z hz e => ?_⟩
    simp at hz; subst hz; subst e
    unfold hasB at h2
    have := List.contains_iff_mem.2 hy
    rw [h2] at this; cases this
end Go.Proofs.Ytonnnjaooifpjaa

/- Helpers of the laws: a list has all numbers of another one. -/
namespace Go.Proofs.Ytonnnjaooifpjaa
open Go.RowKit
set_option linter.unusedVariables false
set_option maxRecDepth 100000

set_option maxHeartbeats 1600000 in
theorem within_c (xs ys : List Int) (a b : Value) (w : World) (la lb : Nat) (ha : Ints w la a xs) (hb : Ints w lb b ys) (hs : Hid (∀ x ∈ xs, x ∈ ys)) :
    Calls Try.prog 66 #[a, b] w fun e w' => e = .returned (.bool true) ∧ Ext w w' := by
  obtain ⟨a2, cap2, rfl⟩ := hb.form
  obtain ⟨a1, cap1, rfl, _, _, ⟨hlen, _⟩, hc1⟩ := ha
  go_enter Try.func66, Try.ntmps66
  go_wp2_with fail
  go_loopw [5] (fun i wr => ∃ k : Nat, k ≤ xs.length ∧ i = .int .i64 k ∧ Ext w wr) (fun i _ => xs.length - (intOf i).toNat)
  case atStart => exact ⟨0, Nat.zero_le _, rfl, Ext.refl _⟩
  case round =>
    obtain ⟨k, hk, rfl, Xr⟩ := hrel
    by_cases hlt : k < xs.length
    · obtain ⟨b1, off1, rfl, _, hcell1, _⟩ := hc1 k hlt
      have hk4 : (k : Int) < xs.length := by omega
      have hg : xs.getD k 0 ∈ ys := hs.out _ (by simp [hlt])
      clear hc1
      generalize xs.getD k 0 = x at *
      replace hcell1 := Xr.cell hcell1
      replace hg := Lib.hid hg
      go_wp2_with fail
      refine (isIn_c ys x _ _ _ (hb.ext qXt)).mono ?_
      rintro e w2 ⟨rfl, x2⟩
      rw [show decide (x ∈ ys) = true from decide_eq_true hg.out]
      have X2 : Ext w w2 := Xr.trans (Ext.trans qXt x2)
      clear x2
      go_wp2_with fail
      go_roundw
      case rel => exact ⟨k+1, by omega, by go_num, qXt⟩
      case measure => simp [intOf]; omega
    · obtain rfl : k = xs.length := by omega
      go_wp2_with fail
      go_ret
      exact ⟨rfl, qXt⟩
end Go.Proofs.Ytonnnjaooifpjaa

/- FnDiagonalOf returns true for all bytes: no condition. -/
namespace Go.Proofs.Ytonnnjaooifpjaa
open Go.RowKit
set_option linter.unusedVariables false
set_option maxRecDepth 100000

set_option maxHeartbeats 6400000 in
theorem lawFnDiagonalOf_c (a : Option Addr) (n cap : Nat) (w : World) (hb : BysIn w a n cap) :
  Calls Try.prog 14 #[.slice a n cap] w fun e w' => e = .returned (.bool true) ∧ Ext w w' := by
 have hcm := hb.1
 have hcm2 := hb.2.1
 unfold maxLen at hcm2
 go_enter Try.func14, Try.ntmps14
 by_cases hc1 : (1048576 : Int) < (n : Int)
 ·
  go_wp2_with fail
  go_ret
  exact ⟨rfl, qXo⟩
 ·
  go_wp2_with fail
  refine (drawDiagonalOf_c a n cap _ hb).mono ?_
  rintro e w1 ⟨b, s, t, p1, p2, r1, r2, d, f, rfl, i1, i2, l1, l2, hd5, hx5, xw1⟩
  have Lw1 : Ext w w1 := Ext.trans qXt xw1
  have Xw1 : Ext w w1 := Lw1
  have s_w1 : w.heap.size ≤ w1.heap.size := Xw1.size
  clear xw1
  clear hb
  obtain ⟨PB, PS, PT, PO, hP⟩ : ∃ PB PS PT PO, diaV b s t d f = (PB, PS, PT, PO) := ⟨_, _, _, _, rfl⟩
  cases PO
  ·
   replace hP := Lib.hid hP
   go_wp2_with fail
   refine (pvx_eq hP.out (implDiagonalOf_c b (.slice p1 s.length r1) (.slice p2 t.length r2) s t d f _ _ _ (i1.ext qXt) (i2.ext qXt))).mono ?_
   rintro e w2 ⟨fv3u, fv3v, rfl, i4u, i4v, xw2⟩
   have Lw2 : Ext w1 w2 := Ext.trans qXt xw2
   have Xw2 : Ext w w2 := Xw1.trans Lw2
   have b20 : w2.cell? ⟨w1.heap.size, 0, none⟩ = some (.int .i64 b) := xw2.cell qCl
   have b21 : w2.cell? ⟨w1.heap.size, 1, none⟩ = some (.slice p1 s.length r1) := xw2.cell qCl
   have b22 : w2.cell? ⟨w1.heap.size, 2, none⟩ = some (.slice p2 t.length r2) := xw2.cell qCl
   have z_b2 : w1.heap.size < w2.heap.size := qB b20
   replace i1 := i1.ext Lw2
   replace i2 := i2.ext Lw2
   have s_w2 : w.heap.size ≤ w2.heap.size := Xw2.size
   clear xw2
   try simp only [World.size_alloc, World.size_drew] at i4u
   try simp only [World.size_alloc, World.size_drew] at i4v
   obtain ⟨afv3u, cfv3u, rfl⟩ := i4u.form
   obtain ⟨afv3v, cfv3v, rfl⟩ := i4v.form
   go_wp2_with fail
   refine (pvx_eq hP.out (specDiagonalOf_c b (.slice p1 s.length r1) (.slice p2 t.length r2) s t d f _ _ _ (i1.ext qXt) (i2.ext qXt))).mono ?_
   rintro e w3 ⟨fv6u, fv6v, rfl, i7u, i7v, xw3⟩
   have Lw3 : Ext w2 w3 := Ext.trans qXt xw3
   have Xw3 : Ext w w3 := Xw2.trans Lw3
   replace b20 := Lw3.cell b20
   replace b21 := Lw3.cell b21
   replace b22 := Lw3.cell b22
   have b50 : w3.cell? ⟨w2.heap.size, 0, none⟩ = some (.int .i64 PB) := xw3.cell qCl
   have b51 : w3.cell? ⟨w2.heap.size, 1, none⟩ = some (.slice afv3u PS.length cfv3u) := xw3.cell qCl
   have b52 : w3.cell? ⟨w2.heap.size, 2, none⟩ = some (.slice afv3v PT.length cfv3v) := xw3.cell qCl
   have z_b2 : w1.heap.size < w3.heap.size := qB b20
   have z_b5 : w2.heap.size < w3.heap.size := qB b50
   replace i1 := i1.ext Lw3
   replace i2 := i2.ext Lw3
   replace i4u := i4u.ext Lw3
   replace i4v := i4v.ext Lw3
   have s_w3 : w.heap.size ≤ w3.heap.size := Xw3.size
   clear xw3
   try simp only [World.size_alloc, World.size_drew] at i7u
   try simp only [World.size_alloc, World.size_drew] at i7v
   obtain ⟨afv6u, cfv6u, rfl⟩ := i7u.form
   obtain ⟨afv6v, cfv6v, rfl⟩ := i7v.form
   go_wp2_with fail
   refine (leqView_c PB (.slice afv3u PS.length cfv3u) (.slice afv3v PT.length cfv3v) (.slice afv6u PS.length cfv6u) (.slice afv6v PT.length cfv6v) PS PT _ _ _ _ _ (i4u.ext qXt) (i4v.ext qXt) (i7u.ext qXt) (i7v.ext qXt)).mono ?_
   rintro e w4 ⟨rfl, xw4⟩
   have Lw4 : Ext w3 w4 := Ext.trans qXt xw4
   have Xw4 : Ext w w4 := Xw3.trans Lw4
   replace b20 := Lw4.cell b20
   replace b21 := Lw4.cell b21
   replace b22 := Lw4.cell b22
   replace b50 := Lw4.cell b50
   replace b51 := Lw4.cell b51
   replace b52 := Lw4.cell b52
   have b80 : w4.cell? ⟨w3.heap.size, 0, none⟩ = some (.int .i64 PB) := xw4.cell qCl
   have b81 : w4.cell? ⟨w3.heap.size, 1, none⟩ = some (.slice afv6u PS.length cfv6u) := xw4.cell qCl
   have b82 : w4.cell? ⟨w3.heap.size, 2, none⟩ = some (.slice afv6v PT.length cfv6v) := xw4.cell qCl
   have z_b2 : w1.heap.size < w4.heap.size := qB b20
   have z_b5 : w2.heap.size < w4.heap.size := qB b50
   have z_b8 : w3.heap.size < w4.heap.size := qB b80
   replace i1 := i1.ext Lw4
   replace i2 := i2.ext Lw4
   replace i4u := i4u.ext Lw4
   replace i4v := i4v.ext Lw4
   replace i7u := i7u.ext Lw4
   replace i7v := i7v.ext Lw4
   have s_w4 : w.heap.size ≤ w4.heap.size := Xw4.size
   clear xw4
   go_wp2_with fail
   refine (leqView_c PB (.slice afv3u PS.length cfv3u) (.slice afv3v PT.length cfv3v) (.slice afv6u PS.length cfv6u) (.slice afv6v PT.length cfv6v) PS PT _ _ _ _ _ (i4u.ext qXt) (i4v.ext qXt) (i7u.ext qXt) (i7v.ext qXt)).mono ?_
   rintro e w5 ⟨rfl, xw5⟩
   have Lw5 : Ext w4 w5 := Ext.trans qXt xw5
   have Xw5 : Ext w w5 := Xw4.trans Lw5
   replace b20 := Lw5.cell b20
   replace b21 := Lw5.cell b21
   replace b22 := Lw5.cell b22
   replace b50 := Lw5.cell b50
   replace b51 := Lw5.cell b51
   replace b52 := Lw5.cell b52
   replace b80 := Lw5.cell b80
   replace b81 := Lw5.cell b81
   replace b82 := Lw5.cell b82
   have z_b2 : w1.heap.size < w5.heap.size := qB b20
   have z_b5 : w2.heap.size < w5.heap.size := qB b50
   have z_b8 : w3.heap.size < w5.heap.size := qB b80
   replace i1 := i1.ext Lw5
   replace i2 := i2.ext Lw5
   replace i4u := i4u.ext Lw5
   replace i4v := i4v.ext Lw5
   replace i7u := i7u.ext Lw5
   replace i7v := i7v.ext Lw5
   have s_w5 : w.heap.size ≤ w5.heap.size := Xw5.size
   clear xw5
   go_wp2_with fail
   go_ret
   exact ⟨rfl, (Xw5.trans qXt)⟩
  ·
   obtain ⟨D, C, rfl, rfl, hne7, hDs, hCs, hvv, hpv, hpm, heq⟩ := dia_law hP
   obtain ⟨P, hPP⟩ : ∃ P, offsL PB PS PT = P := ⟨_, rfl⟩
   obtain ⟨Q, hQ⟩ : ∃ Q, diaL b s t D C (countL s).toNat = Q := ⟨_, rfl⟩
   rw [hPP, hQ] at hpm heq
   have hoA : offA PB PS PT = P := by rw [offA_of hpv, hPP]
   have hsm := view_small hvv
   have hcn : cntA s = countL s := cntA_of (viewB_in hvv).1
   have hc0 := hsm.count.2.1
   have hc60 := (shapeB_in (viewB_in hvv).1).2.2.2.1
   obtain ⟨N, hN⟩ : ∃ N : Nat, (countL s).toNat = N := ⟨_, rfl⟩
   have hNc : cntA s = (N : Int) := by omega
   rw [hN] at hQ
   have hN60 : N ≤ 60 := by omega
   have hPQ := hpm.length_eq
   have hPN : Q.length ≤ N := by rw [← hQ]; exact diaL_len _ _ _ _ _ _
   replace hPP := Lib.hid hPP
   replace hQ := Lib.hid hQ
   replace hoA := Lib.hid hoA
   replace hcn := Lib.hid hcn
   replace hN := Lib.hid hN
   replace hNc := Lib.hid hNc
   replace hvv := Lib.hid hvv
   replace hpv := Lib.hid hpv
   replace hpm := Lib.hid hpm
   replace heq := Lib.hid heq
   replace hsm := Lib.hid hsm
   replace hPQ := Lib.hid hPQ
   replace hc0 := Lib.hid hc0
   replace hc60 := Lib.hid hc60
   replace hP := Lib.hid hP
   go_wp2_with fail
   refine (pvx_eq hP.out (implDiagonalOf_c b (.slice p1 s.length r1) (.slice p2 t.length r2) s t (D : Int) (C : Int) _ _ _ (i1.ext qXt) (i2.ext qXt))).mono ?_
   rintro e w2 ⟨fv10u, fv10v, rfl, i11u, i11v, xw2⟩
   have Lw2 : Ext w1 w2 := Ext.trans qXt xw2
   have Xw2 : Ext w w2 := Xw1.trans Lw2
   have b90 : w2.cell? ⟨w1.heap.size, 0, none⟩ = some (.int .i64 b) := xw2.cell qCl
   have b91 : w2.cell? ⟨w1.heap.size, 1, none⟩ = some (.slice p1 s.length r1) := xw2.cell qCl
   have b92 : w2.cell? ⟨w1.heap.size, 2, none⟩ = some (.slice p2 t.length r2) := xw2.cell qCl
   have z_b9 : w1.heap.size < w2.heap.size := qB b90
   replace i1 := i1.ext Lw2
   replace i2 := i2.ext Lw2
   have s_w2 : w.heap.size ≤ w2.heap.size := Xw2.size
   clear xw2
   try simp only [World.size_alloc, World.size_drew] at i11u
   try simp only [World.size_alloc, World.size_drew] at i11v
   obtain ⟨afv10u, cfv10u, rfl⟩ := i11u.form
   obtain ⟨afv10v, cfv10v, rfl⟩ := i11v.form
   go_wp2_with fail
   refine (pvx_eq hP.out (specDiagonalOf_c b (.slice p1 s.length r1) (.slice p2 t.length r2) s t (D : Int) (C : Int) _ _ _ (i1.ext qXt) (i2.ext qXt))).mono ?_
   rintro e w3 ⟨fv13u, fv13v, rfl, i14u, i14v, xw3⟩
   have Lw3 : Ext w2 w3 := Ext.trans qXt xw3
   have Xw3 : Ext w w3 := Xw2.trans Lw3
   replace b90 := Lw3.cell b90
   replace b91 := Lw3.cell b91
   replace b92 := Lw3.cell b92
   have b120 : w3.cell? ⟨w2.heap.size, 0, none⟩ = some (.int .i64 PB) := xw3.cell qCl
   have b121 : w3.cell? ⟨w2.heap.size, 1, none⟩ = some (.slice afv10u PS.length cfv10u) := xw3.cell qCl
   have b122 : w3.cell? ⟨w2.heap.size, 2, none⟩ = some (.slice afv10v PT.length cfv10v) := xw3.cell qCl
   have z_b9 : w1.heap.size < w3.heap.size := qB b90
   have z_b12 : w2.heap.size < w3.heap.size := qB b120
   replace i1 := i1.ext Lw3
   replace i2 := i2.ext Lw3
   replace i11u := i11u.ext Lw3
   replace i11v := i11v.ext Lw3
   have s_w3 : w.heap.size ≤ w3.heap.size := Xw3.size
   clear xw3
   try simp only [World.size_alloc, World.size_drew] at i14u
   try simp only [World.size_alloc, World.size_drew] at i14v
   obtain ⟨afv13u, cfv13u, rfl⟩ := i14u.form
   obtain ⟨afv13v, cfv13v, rfl⟩ := i14v.form
   go_wp2_with fail
   refine (leqView_c PB (.slice afv10u PS.length cfv10u) (.slice afv10v PT.length cfv10v) (.slice afv13u PS.length cfv13u) (.slice afv13v PT.length cfv13v) PS PT _ _ _ _ _ (i11u.ext qXt) (i11v.ext qXt) (i14u.ext qXt) (i14v.ext qXt)).mono ?_
   rintro e w4 ⟨rfl, xw4⟩
   have Lw4 : Ext w3 w4 := Ext.trans qXt xw4
   have Xw4 : Ext w w4 := Xw3.trans Lw4
   replace b90 := Lw4.cell b90
   replace b91 := Lw4.cell b91
   replace b92 := Lw4.cell b92
   replace b120 := Lw4.cell b120
   replace b121 := Lw4.cell b121
   replace b122 := Lw4.cell b122
   have b150 : w4.cell? ⟨w3.heap.size, 0, none⟩ = some (.int .i64 PB) := xw4.cell qCl
   have b151 : w4.cell? ⟨w3.heap.size, 1, none⟩ = some (.slice afv13u PS.length cfv13u) := xw4.cell qCl
   have b152 : w4.cell? ⟨w3.heap.size, 2, none⟩ = some (.slice afv13v PT.length cfv13v) := xw4.cell qCl
   have z_b9 : w1.heap.size < w4.heap.size := qB b90
   have z_b12 : w2.heap.size < w4.heap.size := qB b120
   have z_b15 : w3.heap.size < w4.heap.size := qB b150
   replace i1 := i1.ext Lw4
   replace i2 := i2.ext Lw4
   replace i11u := i11u.ext Lw4
   replace i11v := i11v.ext Lw4
   replace i14u := i14u.ext Lw4
   replace i14v := i14v.ext Lw4
   have s_w4 : w.heap.size ≤ w4.heap.size := Xw4.size
   clear xw4
   go_wp2_with fail
   have Q16_b90 := Lib.hid b90
   have Q16_b91 := Lib.hid b91
   have Q16_b92 := Lib.hid b92
   have Q16_zb9 := z_b9
   have Q16_b120 := Lib.hid b120
   have Q16_b121 := Lib.hid b121
   have Q16_b122 := Lib.hid b122
   have Q16_zb12 := z_b12
   have Q16_b150 := Lib.hid b150
   have Q16_b151 := Lib.hid b151
   have Q16_b152 := Lib.hid b152
   have Q16_zb15 := z_b15
   have Q16_i1 := Lib.hid i1
   have Q16_i2 := Lib.hid i2
   have Q16_i11u := Lib.hid i11u
   have Q16_i11v := Lib.hid i11v
   have Q16_i14u := Lib.hid i14u
   have Q16_i14v := Lib.hid i14v
   have BL17 : Ext w4 w4 := Ext.refl _
   have zG_BL17 := (BL17).size
   skip
   go_loopw [10, 11, 12, 13, 14] (fun gv i y1 y2 y3 wr => ∃ (k : Nat), k ≤ N ∧ i = .int .i64 k ∧ OwnI wr w4.heap.size gv (diaL b s t D C k) ∧ Ext w4 wr) (fun _ i _ _ _ _ => N - (intOf i).toNat)
   case atStart => exact ⟨0, Nat.zero_le _, rfl, (by rw [show diaL b s t D C 0 = [] from rfl]; exact (OwnI.lit0 w4 w4.heap.size (Nat.le_refl _))), qXt⟩
   case round =>
    obtain ⟨k, hk, rfl, OG, Lwr⟩ := hrel
    have Xwr : Ext w wr := Xw4.trans Lwr
    have s_wr : w.heap.size ≤ wr.heap.size := Xwr.size
    have t_wr : w4.heap.size ≤ wr.heap.size := Lwr.size
    replace b90 := Lwr.cell b90
    replace b91 := Lwr.cell b91
    replace b92 := Lwr.cell b92
    replace b120 := Lwr.cell b120
    replace b121 := Lwr.cell b121
    replace b122 := Lwr.cell b122
    replace b150 := Lwr.cell b150
    replace b151 := Lwr.cell b151
    replace b152 := Lwr.cell b152
    have z_b9 : w1.heap.size < wr.heap.size := qB b90
    have z_b12 : w2.heap.size < wr.heap.size := qB b120
    have z_b15 : w3.heap.size < wr.heap.size := qB b150
    replace i1 := i1.ext Lwr
    replace i2 := i2.ext Lwr
    replace i11u := i11u.ext Lwr
    replace i11v := i11v.ext Lwr
    replace i14u := i14u.ext Lwr
    replace i14v := i14v.ext Lwr
    have BL17_wr : Ext w4 wr := BL17.trans Lwr
    have Bwr : Ext w4 wr := Lwr
    obtain ⟨ga19, gc20, rfl⟩ := (OG.ints (by have := (show (diaL b s t D C k).length ≤ 1000000 by first | (have := diaL_len b s t D C k; omega) | (have := hPN; have := hN60; omega)); omega)).form
    have OG18 := OG
    clear OG
    rcases (show k < N ∨ (¬ k < N ∧ D < C) ∨ (¬ k < N ∧ C < D) by have := hne7; omega) with hlt | ⟨hlt, hAC⟩ | ⟨hlt, hAC⟩
    ·
     obtain ⟨R, hR⟩ : ∃ R, (unrL s (k : Int)).1 = R := ⟨_, rfl⟩
     have hRi : IxOf s R := by rw [← hR]; exact ix_unr s (hsm.out.count.2.2.2 (by have := hN.out; omega)) _
     have hRl := hRi.len
     have hDR : D < R.length := by omega
     have hCR : C < R.length := by omega
     have hiA : idxA s (k : Int) = R := by unfold idxA; rw [(viewB_in hvv.out).1, if_pos (by simp only [Bool.true_and, Bool.and_eq_true, decide_eq_true_eq]; have := hN.out; omega), hR]
     have hok : okA b s t R = true := by unfold okA; rw [hvv.out, (ixB_iff s R).2 hRi]; rfl
     have hat : atA b s t R = dotL b R t := by unfold atA; rw [hok]; rfl
     have hds := diaL_succ b s t D C k
     rw [hR] at hds
     have hkI : (k : Int) < cntA s := by have := hNc.out; omega
     replace hR := Lib.hid hR
     replace hRi := Lib.hid hRi
     replace hRl := Lib.hid hRl
     replace hiA := Lib.hid hiA
     replace hok := Lib.hid hok
     replace hat := Lib.hid hat
     replace hds := Lib.hid hds
     go_wp2_with fail
     refine (implCountOf_c s (.slice p1 s.length r1) _ _ (i1.ext qXt)).mono ?_
     rintro e w' ⟨rfl, rfl⟩
     go_wp2_with fail
     refine (pi_eq hiA.out (implIndexAt_c s (.slice p1 s.length r1) (k : Int) _ _ (i1.ext qXt))).mono ?_
     rintro e w5 ⟨fv21, rfl, i22, -, xw5⟩
     have Lw5 : Ext wr w5 := Ext.trans qXt xw5
     have Xw5 : Ext w w5 := Xwr.trans Lw5
     replace b90 := Lw5.cell b90
     replace b91 := Lw5.cell b91
     replace b92 := Lw5.cell b92
     replace b120 := Lw5.cell b120
     replace b121 := Lw5.cell b121
     replace b122 := Lw5.cell b122
     replace b150 := Lw5.cell b150
     replace b151 := Lw5.cell b151
     replace b152 := Lw5.cell b152
     have z_b9 : w1.heap.size < w5.heap.size := qB b90
     have z_b12 : w2.heap.size < w5.heap.size := qB b120
     have z_b15 : w3.heap.size < w5.heap.size := qB b150
     replace i1 := i1.ext Lw5
     replace i2 := i2.ext Lw5
     replace i11u := i11u.ext Lw5
     replace i11v := i11v.ext Lw5
     replace i14u := i14u.ext Lw5
     replace i14v := i14v.ext Lw5
     replace OG18 := OG18.ext Lw5
     have s_w5 : w.heap.size ≤ w5.heap.size := Xw5.size
     have BL17_w5 : Ext w4 w5 := BL17_wr.trans Lw5
     have Bwr_w5 : Ext w4 w5 := Bwr.trans Lw5
     clear xw5
     obtain ⟨afv21, cfv21, rfl⟩ := i22.form
     go_wp2_with fail
     have hN_e25 : D < R.length := hDR
     have hI_e25 : (D : Int) < (R.length : Int) := by omega
     obtain ⟨bl23, ol24, rfl, e250⟩ := i22.at D hDR
     obtain ⟨v26, hv26⟩ : ∃ v, R.getD D 0 = v := ⟨_, rfl⟩
     rw [hv26] at e250
     replace hv26 := Lib.hid hv26
     have y_e25 : bl23 < w5.heap.size := qB e250
     have z_e25 := y_e25
     have hN_e29 : C < R.length := hCR
     have hI_e29 : (C : Int) < (R.length : Int) := by omega
     obtain ⟨b_e29, o_e29, h_e29, e290⟩ := i22.at C hCR
     cases h_e29
     obtain ⟨v30, hv30⟩ : ∃ v, R.getD C 0 = v := ⟨_, rfl⟩
     rw [hv30] at e290
     replace hv30 := Lib.hid hv30
     have y_e29 : bl23 < w5.heap.size := qB e290
     have z_e29 := y_e29
     refine wp_region_tail (S := fun w' => w'.cell? ⟨bl23, ol24 + D, none⟩ = some (.int .i64 v26) ∧ w'.cell? ⟨bl23, ol24 + C, none⟩ = some (.int .i64 v30)) (fun i => decide (9 ≤ i)) qKr ⟨e250, e290⟩ (fun hHeld => ?_)
     refine qTk (v := ?_) 0 rfl (.inl ⟨by rfl, ?_⟩) ?_
     rotate_left
     ·
      (intro w hSw; (try dsimp only at hSw); go_simp; try with_reducible rfl)
     try simp only [Act.put, qa, qb, qc, qD, qE, qF]
     refine qTk (v := ?_) 1 rfl (.inl ⟨by rfl, ?_⟩) ?_
     rotate_left
     ·
      (intro w hSw; (try dsimp only at hSw); go_simp; try with_reducible rfl)
     try simp only [Act.put, qa, qb, qc, qD, qE, qF]
     refine qTk (v := ?_) 2 rfl (.inl ⟨by rfl, ?_⟩) ?_
     rotate_left
     ·
      (intro w hSw; (try dsimp only at hSw); go_simp; try with_reducible rfl)
     try simp only [Act.put, qa, qb, qc, qD, qE, qF]
     refine qTk (v := ?_) 3 rfl (.inl ⟨by rfl, ?_⟩) ?_
     rotate_left
     ·
      (intro w hSw; (try dsimp only at hSw); go_simp; try with_reducible rfl)
     try simp only [Act.put, qa, qb, qc, qD, qE, qF]
     refine qTk (v := ?_) 4 rfl (.inl ⟨by rfl, ?_⟩) ?_
     rotate_left
     ·
      (intro w hSw; (try dsimp only at hSw); go_simp; try with_reducible rfl)
     try simp only [Act.put, qa, qb, qc, qD, qE, qF]
     refine qTk (v := ?_) 5 rfl (.inl ⟨by rfl, ?_⟩) ?_
     rotate_left
     ·
      (intro w hSw; (try dsimp only at hSw); go_simp; try with_reducible rfl)
     try simp only [Act.put, qa, qb, qc, qD, qE, qF]
     refine qTk (v := ?_) 6 rfl (.inl ⟨by rfl, ?_⟩) ?_
     rotate_left
     ·
      (intro w hSw; (try dsimp only at hSw); go_simp; try with_reducible rfl)
     try simp only [Act.put, qa, qb, qc, qD, qE, qF]
     refine qTk (v := ?_) 7 rfl (.inl ⟨by rfl, ?_⟩) ?_
     rotate_left
     ·
      (intro w hSw; (try dsimp only at hSw); go_simp; try with_reducible rfl)
     try simp only [Act.put, qa, qb, qc, qD, qE, qF]
     by_cases hc37 : (v26 : Int) = (v30 : Int)
     ·
      have hc37e : ((v26 : Int) == (v30 : Int)) = true := by simpa using hc37
      have hc37n : ((v26 : Int) != (v30 : Int)) = false := by simpa using hc37
      replace hc37 := Lib.hid hc37
      refine qTk (v := ?_) 8 rfl (.inl ⟨by rfl, ?_⟩) ?_
      rotate_left
      ·
       (intro w hSw; (try dsimp only at hSw); go_simp; try with_reducible rfl)
      try simp only [Act.put, qa, qb, qc, qD, qE, qF]
      refine wpTail_done qKr ?_ _
      clear hHeld 
      go_wp2_with fail
      refine (implOffsetAt_c b (.slice p1 s.length r1) (.slice p2 t.length r2) s t (.slice (some ⟨bl23, ol24, none⟩) R.length cfv21) R _ _ _ (i1.ext qXt) (i2.ext qXt) _ (i22.ext qXt)).mono ?_
      rintro e w6 ⟨rfl, xw6⟩
      have Lw6 : Ext w5 w6 := Ext.trans qXt xw6
      have Xw6 : Ext w w6 := Xw5.trans Lw6
      replace b90 := Lw6.cell b90
      replace b91 := Lw6.cell b91
      replace b92 := Lw6.cell b92
      replace b120 := Lw6.cell b120
      replace b121 := Lw6.cell b121
      replace b122 := Lw6.cell b122
      replace b150 := Lw6.cell b150
      replace b151 := Lw6.cell b151
      replace b152 := Lw6.cell b152
      replace e250 := Lw6.cell e250
      replace e290 := Lw6.cell e290
      have z_b9 : w1.heap.size < w6.heap.size := qB b90
      have z_b12 : w2.heap.size < w6.heap.size := qB b120
      have z_b15 : w3.heap.size < w6.heap.size := qB b150
      have z_e25 : bl23 < w6.heap.size := qB e250
      have z_e29 : bl23 < w6.heap.size := qB e290
      replace i1 := i1.ext Lw6
      replace i2 := i2.ext Lw6
      replace i11u := i11u.ext Lw6
      replace i11v := i11v.ext Lw6
      replace i14u := i14u.ext Lw6
      replace i14v := i14v.ext Lw6
      replace OG18 := OG18.ext Lw6
      replace i22 := i22.ext Lw6
      have s_w6 : w.heap.size ≤ w6.heap.size := Xw6.size
      have BL17_w6 : Ext w4 w6 := BL17_w5.trans Lw6
      have Bwr_w6 : Ext w4 w6 := Bwr_w5.trans Lw6
      clear xw6
      rw [hok.out]
      have zGB := (Bwr_w6).size
      have EE : Ext w6 ((w6).alloc (.cells #[.int .i64 (atA b s t R)] 3)) := qXt
      have SS : Ints ((w6).alloc (.cells #[.int .i64 (atA b s t R)] 3)) 0 (.slice (some ⟨w6.heap.size, 0, none⟩) 1 1) [atA b s t R] := by simpa using Ints.one (w6) 0 (atA b s t R) (Nat.zero_le _)
      go_wp2_with (
       at_builtin
       refine wpList_app rfl (.tmp 87) (.tmp 89) rfl rfl rfl (by exact OG18.ext EE) (by exact SS) (by have := (show (diaL b s t D C k).length ≤ 1000000 by first | (have := diaL_len b s t D C k; omega) | (have := hPN; have := hN60; omega)); simp only [List.length_append, List.length_cons, List.length_nil]; omega) (by simp <;> omega) ?_
       intro vw7 w7 ho hg7 hbl hv7
       clear hg7 hv7
       obtain ⟨ga38, rr39, rfl⟩ : ∃ a c, vw7 = .slice a ((diaL b s t D C k).length + 1) c := by obtain ⟨a, c, h⟩ := (ho.ints (by simp only [List.length_append, List.length_cons, List.length_nil]; have := (show (diaL b s t D C k).length ≤ 1000000 by first | (have := diaL_len b s t D C k; omega) | (have := hPN; have := hN60; omega)); omega)).form; exact ⟨a, c, by rw [h, List.length_append]; rfl⟩
       have Xw7 : Ext w w7 := Ext.below (Xw6.trans EE) hbl (by omega)
       have BL17_w7 : Ext w4 w7 := Ext.below (Ext.trans BL17_w6 EE) hbl (by omega)
       have Bwr_w7 : Ext w4 w7 := Ext.below (Ext.trans Bwr_w6 EE) hbl (by omega)
       replace b90 := BL17_w7.cell Q16_b90.out
       replace b91 := BL17_w7.cell Q16_b91.out
       replace b92 := BL17_w7.cell Q16_b92.out
       replace b120 := BL17_w7.cell Q16_b120.out
       replace b121 := BL17_w7.cell Q16_b121.out
       replace b122 := BL17_w7.cell Q16_b122.out
       replace b150 := BL17_w7.cell Q16_b150.out
       replace b151 := BL17_w7.cell Q16_b151.out
       replace b152 := BL17_w7.cell Q16_b152.out
       clear e250
       clear e290
       have z_b9 : w1.heap.size < w7.heap.size := qB b90
       have z_b12 : w2.heap.size < w7.heap.size := qB b120
       have z_b15 : w3.heap.size < w7.heap.size := qB b150
       replace i1 := (Q16_i1.out).ext BL17_w7
       replace i2 := (Q16_i2.out).ext BL17_w7
       replace i11u := (Q16_i11u.out).ext BL17_w7
       replace i11v := (Q16_i11v.out).ext BL17_w7
       replace i14u := (Q16_i14u.out).ext BL17_w7
       replace i14v := (Q16_i14v.out).ext BL17_w7
       clear i22
       clear OG18
       have OG18 := ho
       clear ho hbl EE SS zGB
       have s_w7 : w.heap.size ≤ w7.heap.size := Xw7.size)
      go_wp2_with fail
      go_roundw
      case rel => exact ⟨k + 1, by omega, by go_num, (by rw [hds.out, hv26.out, hv30.out, if_pos hc37.out, ← hat.out]; exact OG18.ext qXt), (Bwr_w7.trans qXt)⟩
      case measure => simp [intOf]; omega
     ·
      have hc37e : ((v26 : Int) == (v30 : Int)) = false := by simpa using hc37
      have hc37n : ((v26 : Int) != (v30 : Int)) = true := by simpa using hc37
      replace hc37 := Lib.hid hc37
      refine qTk (v := ?_) 8 rfl (.inl ⟨by rfl, ?_⟩) ?_
      rotate_left
      ·
       (intro w hSw; (try dsimp only at hSw); go_simp; try with_reducible rfl)
      try simp only [Act.put, qa, qb, qc, qD, qE, qF]
      refine wpTail_done qKr ?_ _
      clear hHeld 
      go_wp2_with fail
      go_roundw
      case rel => exact ⟨k + 1, by omega, by go_num, (by rw [hds.out, hv26.out, hv30.out, if_neg hc37.out]; exact OG18.ext qXt), (Bwr_w5.trans qXt)⟩
      case measure => simp [intOf]; omega
    ·
     obtain rfl : k = N := by omega
     rw [hQ.out] at OG18 ⊢
     have hkI : ¬ (k : Int) < cntA s := by have := hNc.out; omega
     obtain rfl : P = Q := heq.out hAC
     have hPN2 : P.length ≤ 60 := by omega
     clear hPQ heq
     have hw1 : Hid (∀ x ∈ P, x ∈ P) := Lib.hid fun x hx => hx
     have hw2 := hw1
     have hgt : ¬ (C : Int) < (D : Int) := by omega
     go_wp2_with fail
     refine (implCountOf_c s (.slice p1 s.length r1) _ _ (i1.ext qXt)).mono ?_
     rintro e w' ⟨rfl, rfl⟩
     go_wp2_with fail
     refine (pi_eq hoA.out (implOffsetsOf_c PB (.slice afv10u PS.length cfv10u) (.slice afv10v PT.length cfv10v) PS PT _ _ _ (i11u.ext qXt) (i11v.ext qXt))).mono ?_
     rintro e w5 ⟨fv40, rfl, i41, -, xw5⟩
     have Lw5 : Ext wr w5 := Ext.trans qXt xw5
     have Xw5 : Ext w w5 := Xwr.trans Lw5
     replace b90 := Lw5.cell b90
     replace b91 := Lw5.cell b91
     replace b92 := Lw5.cell b92
     replace b120 := Lw5.cell b120
     replace b121 := Lw5.cell b121
     replace b122 := Lw5.cell b122
     replace b150 := Lw5.cell b150
     replace b151 := Lw5.cell b151
     replace b152 := Lw5.cell b152
     have z_b9 : w1.heap.size < w5.heap.size := qB b90
     have z_b12 : w2.heap.size < w5.heap.size := qB b120
     have z_b15 : w3.heap.size < w5.heap.size := qB b150
     replace i1 := i1.ext Lw5
     replace i2 := i2.ext Lw5
     replace i11u := i11u.ext Lw5
     replace i11v := i11v.ext Lw5
     replace i14u := i14u.ext Lw5
     replace i14v := i14v.ext Lw5
     replace OG18 := OG18.ext Lw5
     have s_w5 : w.heap.size ≤ w5.heap.size := Xw5.size
     have BL17_w5 : Ext w4 w5 := BL17_wr.trans Lw5
     have Bwr_w5 : Ext w4 w5 := Bwr.trans Lw5
     clear xw5
     obtain ⟨afv40, cfv40, rfl⟩ := i41.form
     go_wp2_with fail
     refine (within_c P P (.slice afv40 P.length cfv40) (.slice ga19 P.length gc20) _ _ _ (i41.ext qXt) ((OG18.ints (by omega)).ext qXt) hw1).mono ?_
     rintro e w6 ⟨rfl, xw6⟩
     have Lw6 : Ext w5 w6 := Ext.trans qXt xw6
     have Xw6 : Ext w w6 := Xw5.trans Lw6
     replace b90 := Lw6.cell b90
     replace b91 := Lw6.cell b91
     replace b92 := Lw6.cell b92
     replace b120 := Lw6.cell b120
     replace b121 := Lw6.cell b121
     replace b122 := Lw6.cell b122
     replace b150 := Lw6.cell b150
     replace b151 := Lw6.cell b151
     replace b152 := Lw6.cell b152
     have z_b9 : w1.heap.size < w6.heap.size := qB b90
     have z_b12 : w2.heap.size < w6.heap.size := qB b120
     have z_b15 : w3.heap.size < w6.heap.size := qB b150
     replace i1 := i1.ext Lw6
     replace i2 := i2.ext Lw6
     replace i11u := i11u.ext Lw6
     replace i11v := i11v.ext Lw6
     replace i14u := i14u.ext Lw6
     replace i14v := i14v.ext Lw6
     replace OG18 := OG18.ext Lw6
     replace i41 := i41.ext Lw6
     have s_w6 : w.heap.size ≤ w6.heap.size := Xw6.size
     have BL17_w6 : Ext w4 w6 := BL17_w5.trans Lw6
     have Bwr_w6 : Ext w4 w6 := Bwr_w5.trans Lw6
     clear xw6
     go_wp2_with fail
     refine (within_c P P (.slice ga19 P.length gc20) (.slice afv40 P.length cfv40) _ _ _ ((OG18.ints (by omega)).ext qXt) (i41.ext qXt) hw1).mono ?_
     rintro e w7 ⟨rfl, xw7⟩
     have Lw7 : Ext w6 w7 := Ext.trans qXt xw7
     have Xw7 : Ext w w7 := Xw6.trans Lw7
     replace b90 := Lw7.cell b90
     replace b91 := Lw7.cell b91
     replace b92 := Lw7.cell b92
     replace b120 := Lw7.cell b120
     replace b121 := Lw7.cell b121
     replace b122 := Lw7.cell b122
     replace b150 := Lw7.cell b150
     replace b151 := Lw7.cell b151
     replace b152 := Lw7.cell b152
     have z_b9 : w1.heap.size < w7.heap.size := qB b90
     have z_b12 : w2.heap.size < w7.heap.size := qB b120
     have z_b15 : w3.heap.size < w7.heap.size := qB b150
     replace i1 := i1.ext Lw7
     replace i2 := i2.ext Lw7
     replace i11u := i11u.ext Lw7
     replace i11v := i11v.ext Lw7
     replace i14u := i14u.ext Lw7
     replace i14v := i14v.ext Lw7
     replace OG18 := OG18.ext Lw7
     replace i41 := i41.ext Lw7
     have s_w7 : w.heap.size ≤ w7.heap.size := Xw7.size
     have BL17_w7 : Ext w4 w7 := BL17_w6.trans Lw7
     have Bwr_w7 : Ext w4 w7 := Bwr_w6.trans Lw7
     clear xw7
     go_wp2_with fail
     refine (leqInts_c P (.slice afv40 P.length cfv40) (.slice ga19 P.length gc20) _ _ _ (i41.ext qXt) ((OG18.ints (by omega)).ext qXt)).mono ?_
     rintro e w8 ⟨rfl, xw8⟩
     have Lw8 : Ext w7 w8 := Ext.trans qXt xw8
     have Xw8 : Ext w w8 := Xw7.trans Lw8
     replace b90 := Lw8.cell b90
     replace b91 := Lw8.cell b91
     replace b92 := Lw8.cell b92
     replace b120 := Lw8.cell b120
     replace b121 := Lw8.cell b121
     replace b122 := Lw8.cell b122
     replace b150 := Lw8.cell b150
     replace b151 := Lw8.cell b151
     replace b152 := Lw8.cell b152
     have z_b9 : w1.heap.size < w8.heap.size := qB b90
     have z_b12 : w2.heap.size < w8.heap.size := qB b120
     have z_b15 : w3.heap.size < w8.heap.size := qB b150
     replace i1 := i1.ext Lw8
     replace i2 := i2.ext Lw8
     replace i11u := i11u.ext Lw8
     replace i11v := i11v.ext Lw8
     replace i14u := i14u.ext Lw8
     replace i14v := i14v.ext Lw8
     replace OG18 := OG18.ext Lw8
     replace i41 := i41.ext Lw8
     have s_w8 : w.heap.size ≤ w8.heap.size := Xw8.size
     have BL17_w8 : Ext w4 w8 := BL17_w7.trans Lw8
     have Bwr_w8 : Ext w4 w8 := Bwr_w7.trans Lw8
     clear xw8
     go_wp2_with fail
     go_ret
     exact ⟨rfl, (Xw8.trans qXt)⟩
    ·
     obtain rfl : k = N := by omega
     rw [hQ.out] at OG18 ⊢
     have hkI : ¬ (k : Int) < cntA s := by have := hNc.out; omega
     have hlq : (P.length : Int) = (Q.length : Int) := by have := hPQ.out; omega
     have hlqe : ((P.length : Int) == (Q.length : Int)) = true := by simpa using hlq
     replace hlq := Lib.hid hlq
     have hw1 : Hid (∀ x ∈ P, x ∈ Q) := Lib.hid fun x hx => hpm.out.mem_iff.1 hx
     have hw2 : Hid (∀ x ∈ Q, x ∈ P) := Lib.hid fun x hx => hpm.out.mem_iff.2 hx
     have hgt : (C : Int) < (D : Int) := by omega
     go_wp2_with fail
     refine (implCountOf_c s (.slice p1 s.length r1) _ _ (i1.ext qXt)).mono ?_
     rintro e w' ⟨rfl, rfl⟩
     go_wp2_with fail
     refine (pi_eq hoA.out (implOffsetsOf_c PB (.slice afv10u PS.length cfv10u) (.slice afv10v PT.length cfv10v) PS PT _ _ _ (i11u.ext qXt) (i11v.ext qXt))).mono ?_
     rintro e w5 ⟨fv42, rfl, i43, -, xw5⟩
     have Lw5 : Ext wr w5 := Ext.trans qXt xw5
     have Xw5 : Ext w w5 := Xwr.trans Lw5
     replace b90 := Lw5.cell b90
     replace b91 := Lw5.cell b91
     replace b92 := Lw5.cell b92
     replace b120 := Lw5.cell b120
     replace b121 := Lw5.cell b121
     replace b122 := Lw5.cell b122
     replace b150 := Lw5.cell b150
     replace b151 := Lw5.cell b151
     replace b152 := Lw5.cell b152
     have z_b9 : w1.heap.size < w5.heap.size := qB b90
     have z_b12 : w2.heap.size < w5.heap.size := qB b120
     have z_b15 : w3.heap.size < w5.heap.size := qB b150
     replace i1 := i1.ext Lw5
     replace i2 := i2.ext Lw5
     replace i11u := i11u.ext Lw5
     replace i11v := i11v.ext Lw5
     replace i14u := i14u.ext Lw5
     replace i14v := i14v.ext Lw5
     replace OG18 := OG18.ext Lw5
     have s_w5 : w.heap.size ≤ w5.heap.size := Xw5.size
     have BL17_w5 : Ext w4 w5 := BL17_wr.trans Lw5
     have Bwr_w5 : Ext w4 w5 := Bwr.trans Lw5
     clear xw5
     obtain ⟨afv42, cfv42, rfl⟩ := i43.form
     go_wp2_with fail
     refine (within_c P Q (.slice afv42 P.length cfv42) (.slice ga19 Q.length gc20) _ _ _ (i43.ext qXt) ((OG18.ints (by omega)).ext qXt) hw1).mono ?_
     rintro e w6 ⟨rfl, xw6⟩
     have Lw6 : Ext w5 w6 := Ext.trans qXt xw6
     have Xw6 : Ext w w6 := Xw5.trans Lw6
     replace b90 := Lw6.cell b90
     replace b91 := Lw6.cell b91
     replace b92 := Lw6.cell b92
     replace b120 := Lw6.cell b120
     replace b121 := Lw6.cell b121
     replace b122 := Lw6.cell b122
     replace b150 := Lw6.cell b150
     replace b151 := Lw6.cell b151
     replace b152 := Lw6.cell b152
     have z_b9 : w1.heap.size < w6.heap.size := qB b90
     have z_b12 : w2.heap.size < w6.heap.size := qB b120
     have z_b15 : w3.heap.size < w6.heap.size := qB b150
     replace i1 := i1.ext Lw6
     replace i2 := i2.ext Lw6
     replace i11u := i11u.ext Lw6
     replace i11v := i11v.ext Lw6
     replace i14u := i14u.ext Lw6
     replace i14v := i14v.ext Lw6
     replace OG18 := OG18.ext Lw6
     replace i43 := i43.ext Lw6
     have s_w6 : w.heap.size ≤ w6.heap.size := Xw6.size
     have BL17_w6 : Ext w4 w6 := BL17_w5.trans Lw6
     have Bwr_w6 : Ext w4 w6 := Bwr_w5.trans Lw6
     clear xw6
     go_wp2_with fail
     refine (within_c Q P (.slice ga19 Q.length gc20) (.slice afv42 P.length cfv42) _ _ _ ((OG18.ints (by omega)).ext qXt) (i43.ext qXt) hw2).mono ?_
     rintro e w7 ⟨rfl, xw7⟩
     have Lw7 : Ext w6 w7 := Ext.trans qXt xw7
     have Xw7 : Ext w w7 := Xw6.trans Lw7
     replace b90 := Lw7.cell b90
     replace b91 := Lw7.cell b91
     replace b92 := Lw7.cell b92
     replace b120 := Lw7.cell b120
     replace b121 := Lw7.cell b121
     replace b122 := Lw7.cell b122
     replace b150 := Lw7.cell b150
     replace b151 := Lw7.cell b151
     replace b152 := Lw7.cell b152
     have z_b9 : w1.heap.size < w7.heap.size := qB b90
     have z_b12 : w2.heap.size < w7.heap.size := qB b120
     have z_b15 : w3.heap.size < w7.heap.size := qB b150
     replace i1 := i1.ext Lw7
     replace i2 := i2.ext Lw7
     replace i11u := i11u.ext Lw7
     replace i11v := i11v.ext Lw7
     replace i14u := i14u.ext Lw7
     replace i14v := i14v.ext Lw7
     replace OG18 := OG18.ext Lw7
     replace i43 := i43.ext Lw7
     have s_w7 : w.heap.size ≤ w7.heap.size := Xw7.size
     have BL17_w7 : Ext w4 w7 := BL17_w6.trans Lw7
     have Bwr_w7 : Ext w4 w7 := Bwr_w6.trans Lw7
     clear xw7
     go_wp2_with fail
     go_ret
     exact ⟨rfl, (Xw7.trans qXt)⟩


end Go.Proofs.Ytonnnjaooifpjaa

/- The law FnDiagonalOf holds for all bytes: the call returns true, and its argument reads as it did. No condition. -/
namespace Go.Proofs.Ytonnnjaooifpjaa.rowFnDiagonalOf
open Go.ChangeShapes Go.WideShapes Go.ChangeAt Go.RowKit
set_option linter.unusedVariables false

set_option maxHeartbeats 1000000 in
set_option maxRecDepth 100000 in
theorem lifted (os : Os) (started : os.Started) (H : Type) (enc : TypeId × Value → H) :
    ReturnsInHanded {} Try.checked os 14 .any (Rows.fnDiagonalOfSpec.pre6 enc Try.prog Try.f14 Rows.fnDiagonalOfRow.domain false) (Rows.fnDiagonalOfSpec.post enc Try.prog Try.f14 false true false false) := by
  refine returnsInHanded_of_change (C := Try.checked) own started qKr Try.func14
    (ChangeSpec.witness6 (enc := enc) (C := Try.checked) false ⟨#[], #[.slice none 0 0], []⟩ 8 qKr qKr qKr qKr) ?_
  intro W base args ds gs before hval0 hW hcnd _
  have hval : ∀ (j : Nat) t v, Try.f14.params[j]? = some t → args[j]? = some v → Value.okWide Try.prog W .any base t v := hval0
  have hW' := hW
  obtain ⟨p, q, hA0, hV, rfl, hfz, hnd⟩ := hW
  have hA : DataW.TrodAll enc Try.prog W 0 (fun _ => true) true Try.f14.params.toList args.toList ds p := hA0
  rw [Try.params14] at hA hval
  obtain ⟨v0, vs0, d0, ds0, p0, q0, hargs0, rfl, rfl, h0, r0⟩ := trodAll_cons hA
  obtain ⟨rfl, rfl, rfl⟩ := trodAll_nil r0
  obtain rfl : args = #[v0] := by cases args; simp_all
  obtain ⟨rfl, rfl⟩ := trodVars_none hV
  obtain ⟨a0, len0, cap0, rfl⟩ := okWide_slice Try.underlying22 (hval 0 22 v0 rfl rfl)
  have k0 := h0
  have lt0 : ∀ x ∈ p0, x.block < W.heap.size := by obtain ⟨m, hm⟩ := k0; exact DataW.trod_lt m _ _ _ hm
  have w0 : BysIn W a0 len0 cap0 := by
    obtain ⟨fuel, hf⟩ := h0
    rcases open_ints Try.underlying22 Try.underlying5 qKr hf with ⟨hcs, _⟩ | ⟨x, l, c, zs, hcs, _, hl, hm, hz, _, hcell, hwz⟩
    · simp [Value.cells] at hcs
      obtain ⟨rfl, rfl, rfl⟩ := hcs
      exact ⟨Nat.le_refl _, by simp, fun i hi => absurd hi (by simp)⟩
    · simp [Value.cells] at hcs
      obtain ⟨rfl, rfl, rfl⟩ := hcs
      have hzl : zs.length = cap0 := by simpa using hz
      exact bys_of_cells hl hm hzl hcell hwz
  clear hA0 hval0
  refine (lawFnDiagonalOf_c a0 len0 cap0 W w0).mono fun e W' ⟨he, bel⟩ => ?_
  subst he
  exact ⟨_, rfl, _, _, _, [], _, [], hW', trodAll_mk1 (shut_bool Try.underlying4 _), (trodAll_cons_mk (Below.trod laidOut qKr (of_decide_eq_true qKr) k0 bel lt0) trodAll_mk0), rfl, Below.frame bel _, fun h => by cases h⟩

set_option maxHeartbeats 2000000 in
theorem closed : joinedFacts Try.checked.prog 14 Try.f14 Rows.fnDiagonalOfSpec Rows.fnDiagonalOfRow = true :=
  facts.all qKr qKr qKr qKr qKr (by as_aux_lemma => kernel_rfl) (by as_aux_lemma => kernel_rfl) (by as_aux_lemma => kernel_rfl) (by as_aux_lemma => kernel_rfl)
    (by as_aux_lemma => kernel_rfl) (by as_aux_lemma => kernel_rfl) rfl rfl rfl rfl qKr qKr (by as_aux_lemma => kernel_rfl) (by as_aux_lemma => kernel_rfl)

theorem named : Try.pinned.checked.prog.funcNamed Rows.fnDiagonalOfRow.func = some 14 := by kernel_rfl

theorem over : Rows.fnDiagonalOfRow.holds Try.pinned (OpenSpec.ofChange Rows.fnDiagonalOfSpec) :=
  OpenClaim.holds_of_wide 14 Try.f14 rfl rfl rfl rfl rfl rfl rfl ⟨rfl, rfl, rfl, rfl, rfl⟩ rfl rfl rfl rfl rfl named Try.func14 closed
    (of_decide_eq_true qKr) (by unfold Func.isWrapper; exact ⟨rfl, rfl⟩)
    (fun os started H enc _ => lifted os started H enc)

theorem proved : Rows.FnDiagonalOfSaid := over

end Go.Proofs.Ytonnnjaooifpjaa.rowFnDiagonalOf
