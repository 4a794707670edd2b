/- FnExactSwapViews returns true for all arguments: no condition. -/
import Derived.Test.YtfdpoepidlmbaaaExJ
import Derived.Test.YtfdpoepidlmbaaaLwD
namespace Go.Proofs.Ytfdpoepidlmbaaa
open Go.RowKit
set_option linter.unusedVariables false
set_option maxRecDepth 100000

set_option maxHeartbeats 6400000 in
theorem lawSwapViews_c (a0 : Option Addr) (f0 : Nat) (s0 : List Int) (b1 : Int) (a1 d1 : Option Addr) (f1 g1 : Nat) (s1 t1 : List Int) (b2 : Int) (a2 d2 : Option Addr) (f2 g2 : Nat) (s2 t2 : List Int) (w : World) (h0 : Raw w (.slice a0 s0.length f0) s0) (n0 : s0.length ≤ maxLen) (h1 : Raw w (.slice a1 s1.length f1) s1) (k1 : Raw w (.slice d1 t1.length g1) t1) (n1 : s1.length ≤ maxLen) (m1 : t1.length ≤ maxLen) (h2 : Raw w (.slice a2 s2.length f2) s2) (k2 : Raw w (.slice d2 t2.length g2) t2) (n2 : s2.length ≤ maxLen) (m2 : t2.length ≤ maxLen) :
    Calls Try.prog 8 #[.slice a0 s0.length f0, .agg #[.int .i64 b1, .slice a1 s1.length f1, .slice d1 t1.length g1], .agg #[.int .i64 b2, .slice a2 s2.length f2, .slice d2 t2.length g2]] w fun e w' => e = .returned (.bool true) ∧ Ext w w' := by
  by_cases p0 : 1048576 < s0.length
  · have p' : (1048576 : Int) < s0.length := by omega
    unfold maxLen at n0
    go_enter Try.func8, Try.ntmps8
    go_wp2_with fail
    go_ret
    exact ⟨rfl, (by repeat (first | exact Ext.refl _ | assumption | apply Ext.drewN | apply Ext.drew | apply Ext.alloc))⟩
  have p0' : ¬ (1048576 : Int) < s0.length := by omega
  by_cases q1 : szV 1048576 s1.length t1.length < 0
  · go_enter Try.func8, Try.ntmps8
    go_wp2_with fail
    refine (szView_c b1 a1 d1 _ f1 _ g1 (1048576) _ (by omega) (by omega) n1 m1).mono ?_
    rintro e w1 ⟨rfl, xw1⟩
    have Lw1 : Ext w w1 := Ext.trans (by repeat (first | exact Ext.refl _ | assumption | apply Ext.drewN | apply Ext.drew | apply Ext.alloc)) xw1
    have Xw1 : Ext w w1 := Lw1
    have c10 : w1.cell? ⟨w.heap.size, 0, none⟩ = some (.int .i64 b1) := xw1.cell (by first | (simp; done) | ((repeat rw [World.cell?_alloc_lt _ _ _ (by simp <;> omega)]); simp; done) | (go_simp; done))
    have c11 : w1.cell? ⟨w.heap.size, 1, none⟩ = some (.slice a1 s1.length f1) := xw1.cell (by first | (simp; done) | ((repeat rw [World.cell?_alloc_lt _ _ _ (by simp <;> omega)]); simp; done) | (go_simp; done))
    have c12 : w1.cell? ⟨w.heap.size, 2, none⟩ = some (.slice d1 t1.length g1) := xw1.cell (by first | (simp; done) | ((repeat rw [World.cell?_alloc_lt _ _ _ (by simp <;> omega)]); simp; done) | (go_simp; done))
    have c20 : w1.cell? ⟨w.heap.size + 1, 0, none⟩ = some (.int .i64 b2) := xw1.cell (by first | (simp; done) | ((repeat rw [World.cell?_alloc_lt _ _ _ (by simp <;> omega)]); simp; done) | (go_simp; done))
    have c21 : w1.cell? ⟨w.heap.size + 1, 1, none⟩ = some (.slice a2 s2.length f2) := xw1.cell (by first | (simp; done) | ((repeat rw [World.cell?_alloc_lt _ _ _ (by simp <;> omega)]); simp; done) | (go_simp; done))
    have c22 : w1.cell? ⟨w.heap.size + 1, 2, none⟩ = some (.slice d2 t2.length g2) := xw1.cell (by first | (simp; done) | ((repeat rw [World.cell?_alloc_lt _ _ _ (by simp <;> omega)]); simp; done) | (go_simp; done))
    have z1 : w.heap.size < w1.heap.size := World.block_lt_of_cell? _ _ c10
    have z2 : w.heap.size + 1 < w1.heap.size := World.block_lt_of_cell? _ _ c20
    go_wp2_with fail
    go_ret
    exact ⟨rfl, Xw1.trans (by repeat (first | exact Ext.refl _ | assumption | apply Ext.drewN | apply Ext.drew | apply Ext.alloc))⟩
  have y1 := szV_ge (by omega) q1
  by_cases q2 : szV (1048576 - (s1.length : Int) - t1.length) s2.length t2.length < 0
  · go_enter Try.func8, Try.ntmps8
    go_wp2_with fail
    refine (szView_c b1 a1 d1 _ f1 _ g1 (1048576) _ (by omega) (by omega) n1 m1).mono ?_
    rintro e w1 ⟨rfl, xw1⟩
    have Lw1 : Ext w w1 := Ext.trans (by repeat (first | exact Ext.refl _ | assumption | apply Ext.drewN | apply Ext.drew | apply Ext.alloc)) xw1
    have Xw1 : Ext w w1 := Lw1
    have c10 : w1.cell? ⟨w.heap.size, 0, none⟩ = some (.int .i64 b1) := xw1.cell (by first | (simp; done) | ((repeat rw [World.cell?_alloc_lt _ _ _ (by simp <;> omega)]); simp; done) | (go_simp; done))
    have c11 : w1.cell? ⟨w.heap.size, 1, none⟩ = some (.slice a1 s1.length f1) := xw1.cell (by first | (simp; done) | ((repeat rw [World.cell?_alloc_lt _ _ _ (by simp <;> omega)]); simp; done) | (go_simp; done))
    have c12 : w1.cell? ⟨w.heap.size, 2, none⟩ = some (.slice d1 t1.length g1) := xw1.cell (by first | (simp; done) | ((repeat rw [World.cell?_alloc_lt _ _ _ (by simp <;> omega)]); simp; done) | (go_simp; done))
    have c20 : w1.cell? ⟨w.heap.size + 1, 0, none⟩ = some (.int .i64 b2) := xw1.cell (by first | (simp; done) | ((repeat rw [World.cell?_alloc_lt _ _ _ (by simp <;> omega)]); simp; done) | (go_simp; done))
    have c21 : w1.cell? ⟨w.heap.size + 1, 1, none⟩ = some (.slice a2 s2.length f2) := xw1.cell (by first | (simp; done) | ((repeat rw [World.cell?_alloc_lt _ _ _ (by simp <;> omega)]); simp; done) | (go_simp; done))
    have c22 : w1.cell? ⟨w.heap.size + 1, 2, none⟩ = some (.slice d2 t2.length g2) := xw1.cell (by first | (simp; done) | ((repeat rw [World.cell?_alloc_lt _ _ _ (by simp <;> omega)]); simp; done) | (go_simp; done))
    have z1 : w.heap.size < w1.heap.size := World.block_lt_of_cell? _ _ c10
    have z2 : w.heap.size + 1 < w1.heap.size := World.block_lt_of_cell? _ _ c20
    go_wp2_with fail
    refine (szView_c b2 a2 d2 _ f2 _ g2 (1048576 - (s1.length : Int) - t1.length) _ (by omega) (by omega) n2 m2).mono ?_
    rintro e w2 ⟨rfl, xw2⟩
    have Lw2 : Ext w1 w2 := Ext.trans (by repeat (first | exact Ext.refl _ | assumption | apply Ext.drewN | apply Ext.drew | apply Ext.alloc)) xw2
    have Xw2 : Ext w w2 := Xw1.trans Lw2
    replace c10 := Lw2.cell c10
    replace c11 := Lw2.cell c11
    replace c12 := Lw2.cell c12
    replace c20 := Lw2.cell c20
    replace c21 := Lw2.cell c21
    replace c22 := Lw2.cell c22
    have z3 : w.heap.size < w2.heap.size := World.block_lt_of_cell? _ _ c10
    have z4 : w.heap.size + 1 < w2.heap.size := World.block_lt_of_cell? _ _ c20
    have sw2 : w1.heap.size ≤ w2.heap.size := Lw2.size
    go_wp2_with fail
    go_ret
    exact ⟨rfl, Xw2.trans (by repeat (first | exact Ext.refl _ | assumption | apply Ext.drewN | apply Ext.drew | apply Ext.alloc))⟩
  have y2 := szV_ge (by omega) q2
  go_enter Try.func8, Try.ntmps8
  go_wp2_with fail
  refine (szView_c b1 a1 d1 _ f1 _ g1 (1048576) _ (by omega) (by omega) n1 m1).mono ?_
  rintro e w1 ⟨rfl, xw1⟩
  have Lw1 : Ext w w1 := Ext.trans (by repeat (first | exact Ext.refl _ | assumption | apply Ext.drewN | apply Ext.drew | apply Ext.alloc)) xw1
  have Xw1 : Ext w w1 := Lw1
  have c10 : w1.cell? ⟨w.heap.size, 0, none⟩ = some (.int .i64 b1) := xw1.cell (by first | (simp; done) | ((repeat rw [World.cell?_alloc_lt _ _ _ (by simp <;> omega)]); simp; done) | (go_simp; done))
  have c11 : w1.cell? ⟨w.heap.size, 1, none⟩ = some (.slice a1 s1.length f1) := xw1.cell (by first | (simp; done) | ((repeat rw [World.cell?_alloc_lt _ _ _ (by simp <;> omega)]); simp; done) | (go_simp; done))
  have c12 : w1.cell? ⟨w.heap.size, 2, none⟩ = some (.slice d1 t1.length g1) := xw1.cell (by first | (simp; done) | ((repeat rw [World.cell?_alloc_lt _ _ _ (by simp <;> omega)]); simp; done) | (go_simp; done))
  have c20 : w1.cell? ⟨w.heap.size + 1, 0, none⟩ = some (.int .i64 b2) := xw1.cell (by first | (simp; done) | ((repeat rw [World.cell?_alloc_lt _ _ _ (by simp <;> omega)]); simp; done) | (go_simp; done))
  have c21 : w1.cell? ⟨w.heap.size + 1, 1, none⟩ = some (.slice a2 s2.length f2) := xw1.cell (by first | (simp; done) | ((repeat rw [World.cell?_alloc_lt _ _ _ (by simp <;> omega)]); simp; done) | (go_simp; done))
  have c22 : w1.cell? ⟨w.heap.size + 1, 2, none⟩ = some (.slice d2 t2.length g2) := xw1.cell (by first | (simp; done) | ((repeat rw [World.cell?_alloc_lt _ _ _ (by simp <;> omega)]); simp; done) | (go_simp; done))
  have z1 : w.heap.size < w1.heap.size := World.block_lt_of_cell? _ _ c10
  have z2 : w.heap.size + 1 < w1.heap.size := World.block_lt_of_cell? _ _ c20
  go_wp2_with fail
  refine (szView_c b2 a2 d2 _ f2 _ g2 (1048576 - (s1.length : Int) - t1.length) _ (by omega) (by omega) n2 m2).mono ?_
  rintro e w2 ⟨rfl, xw2⟩
  have Lw2 : Ext w1 w2 := Ext.trans (by repeat (first | exact Ext.refl _ | assumption | apply Ext.drewN | apply Ext.drew | apply Ext.alloc)) xw2
  have Xw2 : Ext w w2 := Xw1.trans Lw2
  replace c10 := Lw2.cell c10
  replace c11 := Lw2.cell c11
  replace c12 := Lw2.cell c12
  replace c20 := Lw2.cell c20
  replace c21 := Lw2.cell c21
  replace c22 := Lw2.cell c22
  have z3 : w.heap.size < w2.heap.size := World.block_lt_of_cell? _ _ c10
  have z4 : w.heap.size + 1 < w2.heap.size := World.block_lt_of_cell? _ _ c20
  have sw2 : w1.heap.size ≤ w2.heap.size := Lw2.size
  go_wp2_with fail
  go_region_held3 (fun w' => w'.cell? ⟨w.heap.size, 0, none⟩ = some (.int .i64 b1) ∧ w'.cell? ⟨w.heap.size, 1, none⟩ = some (.slice a1 s1.length f1) ∧ w'.cell? ⟨w.heap.size, 2, none⟩ = some (.slice d1 t1.length g1) ∧ w'.cell? ⟨w.heap.size + 1, 0, none⟩ = some (.int .i64 b2) ∧ w'.cell? ⟨w.heap.size + 1, 1, none⟩ = some (.slice a2 s2.length f2) ∧ w'.cell? ⟨w.heap.size + 1, 2, none⟩ = some (.slice d2 t2.length g2))
    (first
      | go_keep
      | exact ⟨Yw6.cell c10, Yw6.cell c11, Yw6.cell c12, Yw6.cell c20, Yw6.cell c21, Yw6.cell c22⟩
      | exact ⟨Yw5.cell c10, Yw5.cell c11, Yw5.cell c12, Yw5.cell c20, Yw5.cell c21, Yw5.cell c22⟩
      | exact ⟨Yw4.cell c10, Yw4.cell c11, Yw4.cell c12, Yw4.cell c20, Yw4.cell c21, Yw4.cell c22⟩
      | exact ⟨Yw3.cell c10, Yw3.cell c11, Yw3.cell c12, Yw3.cell c20, Yw3.cell c21, Yw3.cell c22⟩)
    (first
      | (go_at_call 45; refine (specSwapViews_c s0 _ b1 _ _ s1 t1 b2 _ _ s2 t2 _ _ _ _ _ _ (iuW0.ext (by repeat (first | exact Ext.refl _ | assumption | apply Ext.drewN | apply Ext.drew | apply Ext.alloc))) (iuW1.ext (by repeat (first | exact Ext.refl _ | assumption | apply Ext.drewN | apply Ext.drew | apply Ext.alloc))) (ivW1.ext (by repeat (first | exact Ext.refl _ | assumption | apply Ext.drewN | apply Ext.drew | apply Ext.alloc))) (iuW2.ext (by repeat (first | exact Ext.refl _ | assumption | apply Ext.drewN | apply Ext.drew | apply Ext.alloc))) (ivW2.ext (by repeat (first | exact Ext.refl _ | assumption | apply Ext.drewN | apply Ext.drew | apply Ext.alloc)))).mono ?_; rintro e w6 ⟨W, rfl, iW, oW, xw6⟩; have Yw6 : Ext w2 w6 := Yw5.trans (Ext.trans (by repeat (first | exact Ext.refl _ | assumption | apply Ext.drewN | apply Ext.drew | apply Ext.alloc)) xw6); replace iuW0 := iuW0.ext (Ext.trans (by repeat (first | exact Ext.refl _ | assumption | apply Ext.drewN | apply Ext.drew | apply Ext.alloc)) xw6); replace iuW1 := iuW1.ext (Ext.trans (by repeat (first | exact Ext.refl _ | assumption | apply Ext.drewN | apply Ext.drew | apply Ext.alloc)) xw6); replace ivW1 := ivW1.ext (Ext.trans (by repeat (first | exact Ext.refl _ | assumption | apply Ext.drewN | apply Ext.drew | apply Ext.alloc)) xw6); replace iuW2 := iuW2.ext (Ext.trans (by repeat (first | exact Ext.refl _ | assumption | apply Ext.drewN | apply Ext.drew | apply Ext.alloc)) xw6); replace ivW2 := ivW2.ext (Ext.trans (by repeat (first | exact Ext.refl _ | assumption | apply Ext.drewN | apply Ext.drew | apply Ext.alloc)) xw6))
      | (go_at_call 29; refine (toView_c b2 _ _ s2 t2 _ (h2.ext (Xw2.trans (Yw4.trans (by repeat (first | exact Ext.refl _ | assumption | apply Ext.drewN | apply Ext.drew | apply Ext.alloc))))) (k2.ext (Xw2.trans (Yw4.trans (by repeat (first | exact Ext.refl _ | assumption | apply Ext.drewN | apply Ext.drew | apply Ext.alloc))))) (by omega) (by omega)).mono ?_; rintro e w5 ⟨uW2, vW2, rfl, iuW2, ivW2, ouW2, ovW2, hdW2, xw5⟩; have Yw5 : Ext w2 w5 := Yw4.trans (Ext.trans (by repeat (first | exact Ext.refl _ | assumption | apply Ext.drewN | apply Ext.drew | apply Ext.alloc)) xw5); replace iuW0 := iuW0.ext (Ext.trans (by repeat (first | exact Ext.refl _ | assumption | apply Ext.drewN | apply Ext.drew | apply Ext.alloc)) xw5); replace iuW1 := iuW1.ext (Ext.trans (by repeat (first | exact Ext.refl _ | assumption | apply Ext.drewN | apply Ext.drew | apply Ext.alloc)) xw5); replace ivW1 := ivW1.ext (Ext.trans (by repeat (first | exact Ext.refl _ | assumption | apply Ext.drewN | apply Ext.drew | apply Ext.alloc)) xw5))
      | (go_at_call 29; refine (toView_c b1 _ _ s1 t1 _ (h1.ext (Xw2.trans (Yw3.trans (by repeat (first | exact Ext.refl _ | assumption | apply Ext.drewN | apply Ext.drew | apply Ext.alloc))))) (k1.ext (Xw2.trans (Yw3.trans (by repeat (first | exact Ext.refl _ | assumption | apply Ext.drewN | apply Ext.drew | apply Ext.alloc))))) (by omega) (by omega)).mono ?_; rintro e w4 ⟨uW1, vW1, rfl, iuW1, ivW1, ouW1, ovW1, hdW1, xw4⟩; have Yw4 : Ext w2 w4 := Yw3.trans (Ext.trans (by repeat (first | exact Ext.refl _ | assumption | apply Ext.drewN | apply Ext.drew | apply Ext.alloc)) xw4); replace iuW0 := iuW0.ext (Ext.trans (by repeat (first | exact Ext.refl _ | assumption | apply Ext.drewN | apply Ext.drew | apply Ext.alloc)) xw4))
      | (go_at_call 46; refine (toIntS_c s0 _ _ (h0.ext (Xw2.trans (by repeat (first | exact Ext.refl _ | assumption | apply Ext.drewN | apply Ext.drew | apply Ext.alloc)))) (by omega)).mono ?_; rintro e w3 ⟨uW0, rfl, iuW0, ouW0, xw3⟩; have Yw3 : Ext w2 w3 := Ext.trans (by repeat (first | exact Ext.refl _ | assumption | apply Ext.drewN | apply Ext.drew | apply Ext.alloc)) xw3))
  have Lw6 : Ext w2 w6 := Yw6
  have Xw6 : Ext w w6 := Xw2.trans Lw6
  replace c10 := Lw6.cell c10
  replace c11 := Lw6.cell c11
  replace c12 := Lw6.cell c12
  replace c20 := Lw6.cell c20
  replace c21 := Lw6.cell c21
  replace c22 := Lw6.cell c22
  have z5 : w.heap.size < w6.heap.size := World.block_lt_of_cell? _ _ c10
  have z6 : w.heap.size + 1 < w6.heap.size := World.block_lt_of_cell? _ _ c20
  have sw6 : w2.heap.size ≤ w6.heap.size := Lw6.size
  have nW := iW.len
  have bW := oW.bound
  clear iW
  go_wp2_with fail
  refine (toIntS_c s0 _ _ (h0.ext (Xw6.trans (by repeat (first | exact Ext.refl _ | assumption | apply Ext.drewN | apply Ext.drew | apply Ext.alloc)))) (by omega)).mono ?_
  rintro e w7 ⟨p0, rfl, ip0, op0, xw7⟩
  replace op0 := op0.lower (base' := w6.heap.size) (by first | (simp; done) | exact Ext.size (by repeat (first | exact Ext.refl _ | assumption | apply Ext.drewN | apply Ext.drew | apply Ext.alloc)))
  have Lw7 : Ext w6 w7 := Ext.trans (by repeat (first | exact Ext.refl _ | assumption | apply Ext.drewN | apply Ext.drew | apply Ext.alloc)) xw7
  have Xw7 : Ext w w7 := Xw6.trans Lw7
  replace c10 := Lw7.cell c10
  replace c11 := Lw7.cell c11
  replace c12 := Lw7.cell c12
  replace c20 := Lw7.cell c20
  replace c21 := Lw7.cell c21
  replace c22 := Lw7.cell c22
  replace oW := oW.ext Lw7
  have z7 : w.heap.size < w7.heap.size := World.block_lt_of_cell? _ _ c10
  have z8 : w.heap.size + 1 < w7.heap.size := World.block_lt_of_cell? _ _ c20
  have sw7 : w6.heap.size ≤ w7.heap.size := Lw7.size
  have bp0 := op0.bound
  obtain ⟨P0, Q0, rfl⟩ := ip0.form
  clear ip0
  go_wp2_with fail
  refine (toView_c b1 _ _ s1 t1 _ (h1.ext (Xw7.trans (by repeat (first | exact Ext.refl _ | assumption | apply Ext.drewN | apply Ext.drew | apply Ext.alloc)))) (k1.ext (Xw7.trans (by repeat (first | exact Ext.refl _ | assumption | apply Ext.drewN | apply Ext.drew | apply Ext.alloc)))) (by omega) (by omega)).mono ?_
  rintro e w8 ⟨p1, r1, rfl, ip1, ir1, op1, or1, hd1, xw8⟩
  replace op1 := op1.lower (base' := w7.heap.size) (by first | (simp; done) | exact Ext.size (by repeat (first | exact Ext.refl _ | assumption | apply Ext.drewN | apply Ext.drew | apply Ext.alloc)))
  replace or1 := or1.lower (base' := w7.heap.size) (by first | (simp; done) | exact Ext.size (by repeat (first | exact Ext.refl _ | assumption | apply Ext.drewN | apply Ext.drew | apply Ext.alloc)))
  have Lw8 : Ext w7 w8 := Ext.trans (by repeat (first | exact Ext.refl _ | assumption | apply Ext.drewN | apply Ext.drew | apply Ext.alloc)) xw8
  have Xw8 : Ext w w8 := Xw7.trans Lw8
  replace c10 := Lw8.cell c10
  replace c11 := Lw8.cell c11
  replace c12 := Lw8.cell c12
  replace c20 := Lw8.cell c20
  replace c21 := Lw8.cell c21
  replace c22 := Lw8.cell c22
  replace oW := oW.ext Lw8
  replace op0 := op0.ext Lw8
  have z9 : w.heap.size < w8.heap.size := World.block_lt_of_cell? _ _ c10
  have z10 : w.heap.size + 1 < w8.heap.size := World.block_lt_of_cell? _ _ c20
  have sw8 : w7.heap.size ≤ w8.heap.size := Lw8.size
  have bp1 := op1.bound
  have br1 := or1.bound
  obtain ⟨P1, Q1, rfl⟩ := ip1.form
  obtain ⟨P1', Q1', rfl⟩ := ir1.form
  clear ip1 ir1
  go_wp2_with fail
  refine (toView_c b2 _ _ s2 t2 _ (h2.ext (Xw8.trans (by repeat (first | exact Ext.refl _ | assumption | apply Ext.drewN | apply Ext.drew | apply Ext.alloc)))) (k2.ext (Xw8.trans (by repeat (first | exact Ext.refl _ | assumption | apply Ext.drewN | apply Ext.drew | apply Ext.alloc)))) (by omega) (by omega)).mono ?_
  rintro e w9 ⟨p2, r2, rfl, ip2, ir2, op2, or2, hd2, xw9⟩
  replace op2 := op2.lower (base' := w8.heap.size + 1) (by first | (simp; done) | exact Ext.size (by repeat (first | exact Ext.refl _ | assumption | apply Ext.drewN | apply Ext.drew | apply Ext.alloc)))
  replace or2 := or2.lower (base' := w8.heap.size + 1) (by first | (simp; done) | exact Ext.size (by repeat (first | exact Ext.refl _ | assumption | apply Ext.drewN | apply Ext.drew | apply Ext.alloc)))
  have Lw9 : Ext w8 w9 := Ext.trans (by repeat (first | exact Ext.refl _ | assumption | apply Ext.drewN | apply Ext.drew | apply Ext.alloc)) xw9
  have Xw9 : Ext w w9 := Xw8.trans Lw9
  replace c10 := Lw9.cell c10
  replace c11 := Lw9.cell c11
  replace c12 := Lw9.cell c12
  replace c20 := Lw9.cell c20
  replace c21 := Lw9.cell c21
  replace c22 := Lw9.cell c22
  replace oW := oW.ext Lw9
  replace op0 := op0.ext Lw9
  replace op1 := op1.ext Lw9
  replace or1 := or1.ext Lw9
  have e10 : w9.cell? ⟨w8.heap.size, 0, none⟩ = some (.int .i64 b1) := xw9.cell (by first | (simp; done) | ((repeat rw [World.cell?_alloc_lt _ _ _ (by simp <;> omega)]); simp; done) | (go_simp; done))
  have e11 : w9.cell? ⟨w8.heap.size, 1, none⟩ = some (.slice P1 s1.length Q1) := xw9.cell (by first | (simp; done) | ((repeat rw [World.cell?_alloc_lt _ _ _ (by simp <;> omega)]); simp; done) | (go_simp; done))
  have e12 : w9.cell? ⟨w8.heap.size, 2, none⟩ = some (.slice P1' t1.length Q1') := xw9.cell (by first | (simp; done) | ((repeat rw [World.cell?_alloc_lt _ _ _ (by simp <;> omega)]); simp; done) | (go_simp; done))
  have z11 : w.heap.size < w9.heap.size := World.block_lt_of_cell? _ _ c10
  have z12 : w.heap.size + 1 < w9.heap.size := World.block_lt_of_cell? _ _ c20
  have z13 : w8.heap.size < w9.heap.size := World.block_lt_of_cell? _ _ e10
  have sw9 : w8.heap.size ≤ w9.heap.size := Lw9.size
  have bp2 := op2.bound
  have br2 := or2.bound
  obtain ⟨P2, Q2, rfl⟩ := ip2.form
  obtain ⟨P2', Q2', rfl⟩ := ir2.form
  clear ip2 ir2
  go_wp2_with fail
  refine (implSwapViews_c s0 _ b1 _ _ s1 t1 b2 _ _ s2 t2 _ _ _ _ _ _ ((op0.ints (by omega)).ext (by repeat (first | exact Ext.refl _ | assumption | apply Ext.drewN | apply Ext.drew | apply Ext.alloc))) ((op1.ints (by omega)).ext (by repeat (first | exact Ext.refl _ | assumption | apply Ext.drewN | apply Ext.drew | apply Ext.alloc))) ((or1.ints (by omega)).ext (by repeat (first | exact Ext.refl _ | assumption | apply Ext.drewN | apply Ext.drew | apply Ext.alloc))) ((op2.ints (by omega)).ext (by repeat (first | exact Ext.refl _ | assumption | apply Ext.drewN | apply Ext.drew | apply Ext.alloc))) ((or2.ints (by omega)).ext (by repeat (first | exact Ext.refl _ | assumption | apply Ext.drewN | apply Ext.drew | apply Ext.alloc)))).mono ?_
  rintro e w10 ⟨G, rfl, iG, oG, xw10⟩
  have Lw10 : Ext w9 w10 := Ext.trans (by repeat (first | exact Ext.refl _ | assumption | apply Ext.drewN | apply Ext.drew | apply Ext.alloc)) xw10
  have Xw10 : Ext w w10 := Xw9.trans Lw10
  replace c10 := Lw10.cell c10
  replace c11 := Lw10.cell c11
  replace c12 := Lw10.cell c12
  replace c20 := Lw10.cell c20
  replace c21 := Lw10.cell c21
  replace c22 := Lw10.cell c22
  replace e10 := Lw10.cell e10
  replace e11 := Lw10.cell e11
  replace e12 := Lw10.cell e12
  replace oW := oW.ext Lw10
  replace op0 := op0.ext Lw10
  replace op1 := op1.ext Lw10
  replace or1 := or1.ext Lw10
  replace op2 := op2.ext Lw10
  replace or2 := or2.ext Lw10
  have e20 : w10.cell? ⟨w9.heap.size, 0, none⟩ = some (.int .i64 b2) := xw10.cell (by first | (simp; done) | ((repeat rw [World.cell?_alloc_lt _ _ _ (by simp <;> omega)]); simp; done) | (go_simp; done))
  have e21 : w10.cell? ⟨w9.heap.size, 1, none⟩ = some (.slice P2 s2.length Q2) := xw10.cell (by first | (simp; done) | ((repeat rw [World.cell?_alloc_lt _ _ _ (by simp <;> omega)]); simp; done) | (go_simp; done))
  have e22 : w10.cell? ⟨w9.heap.size, 2, none⟩ = some (.slice P2' t2.length Q2') := xw10.cell (by first | (simp; done) | ((repeat rw [World.cell?_alloc_lt _ _ _ (by simp <;> omega)]); simp; done) | (go_simp; done))
  have z14 : w.heap.size < w10.heap.size := World.block_lt_of_cell? _ _ c10
  have z15 : w.heap.size + 1 < w10.heap.size := World.block_lt_of_cell? _ _ c20
  have z16 : w8.heap.size < w10.heap.size := World.block_lt_of_cell? _ _ e10
  have z17 : w9.heap.size < w10.heap.size := World.block_lt_of_cell? _ _ e20
  have sw10 : w9.heap.size ≤ w10.heap.size := Lw10.size
  replace oG := oG.lower (base' := w9.heap.size + 1) (by first | (simp; done) | exact Ext.size (by repeat (first | exact Ext.refl _ | assumption | apply Ext.drewN | apply Ext.drew | apply Ext.alloc)))
  have bG := oG.bound
  obtain ⟨GA, GC, rfl⟩ := iG.form
  clear iG
  go_wp2_with fail
  refine (eqIntS_x (swapA s0 b1 s1 t1 b2 s2 t2) _ _ _ _ _ ((oG.ints nW).ext (by repeat (first | exact Ext.refl _ | assumption | apply Ext.drewN | apply Ext.drew | apply Ext.alloc))) ((oW.ints nW).ext (by repeat (first | exact Ext.refl _ | assumption | apply Ext.drewN | apply Ext.drew | apply Ext.alloc)))).mono ?_
  rintro e w11 ⟨rfl, xw11⟩
  have Lw11 : Ext w10 w11 := Ext.trans (by repeat (first | exact Ext.refl _ | assumption | apply Ext.drewN | apply Ext.drew | apply Ext.alloc)) xw11
  have Xw11 : Ext w w11 := Xw10.trans Lw11
  replace c10 := Lw11.cell c10
  replace c11 := Lw11.cell c11
  replace c12 := Lw11.cell c12
  replace c20 := Lw11.cell c20
  replace c21 := Lw11.cell c21
  replace c22 := Lw11.cell c22
  replace e10 := Lw11.cell e10
  replace e11 := Lw11.cell e11
  replace e12 := Lw11.cell e12
  replace e20 := Lw11.cell e20
  replace e21 := Lw11.cell e21
  replace e22 := Lw11.cell e22
  replace oW := oW.ext Lw11
  replace op0 := op0.ext Lw11
  replace op1 := op1.ext Lw11
  replace or1 := or1.ext Lw11
  replace op2 := op2.ext Lw11
  replace or2 := or2.ext Lw11
  replace oG := oG.ext Lw11
  have z18 : w.heap.size < w11.heap.size := World.block_lt_of_cell? _ _ c10
  have z19 : w.heap.size + 1 < w11.heap.size := World.block_lt_of_cell? _ _ c20
  have z20 : w8.heap.size < w11.heap.size := World.block_lt_of_cell? _ _ e10
  have z21 : w9.heap.size < w11.heap.size := World.block_lt_of_cell? _ _ e20
  have sw11 : w10.heap.size ≤ w11.heap.size := Lw11.size
  go_wp2_with fail
  refine (toIntS_c s0 _ _ (h0.ext (Xw11.trans (by repeat (first | exact Ext.refl _ | assumption | apply Ext.drewN | apply Ext.drew | apply Ext.alloc)))) (by omega)).mono ?_
  rintro e w12 ⟨u, rfl, iu, _, xw12⟩
  have Lw12 : Ext w11 w12 := Ext.trans (by repeat (first | exact Ext.refl _ | assumption | apply Ext.drewN | apply Ext.drew | apply Ext.alloc)) xw12
  have Xw12 : Ext w w12 := Xw11.trans Lw12
  replace c10 := Lw12.cell c10
  replace c11 := Lw12.cell c11
  replace c12 := Lw12.cell c12
  replace c20 := Lw12.cell c20
  replace c21 := Lw12.cell c21
  replace c22 := Lw12.cell c22
  replace e10 := Lw12.cell e10
  replace e11 := Lw12.cell e11
  replace e12 := Lw12.cell e12
  replace e20 := Lw12.cell e20
  replace e21 := Lw12.cell e21
  replace e22 := Lw12.cell e22
  replace oW := oW.ext Lw12
  replace op0 := op0.ext Lw12
  replace op1 := op1.ext Lw12
  replace or1 := or1.ext Lw12
  replace op2 := op2.ext Lw12
  replace or2 := or2.ext Lw12
  replace oG := oG.ext Lw12
  have z22 : w.heap.size < w12.heap.size := World.block_lt_of_cell? _ _ c10
  have z23 : w.heap.size + 1 < w12.heap.size := World.block_lt_of_cell? _ _ c20
  have z24 : w8.heap.size < w12.heap.size := World.block_lt_of_cell? _ _ e10
  have z25 : w9.heap.size < w12.heap.size := World.block_lt_of_cell? _ _ e20
  have sw12 : w11.heap.size ≤ w12.heap.size := Lw12.size
  go_wp2_with fail
  refine (eqIntS_x s0 _ _ _ _ _ ((op0.ints (by omega)).ext (by repeat (first | exact Ext.refl _ | assumption | apply Ext.drewN | apply Ext.drew | apply Ext.alloc))) (iu.ext (by repeat (first | exact Ext.refl _ | assumption | apply Ext.drewN | apply Ext.drew | apply Ext.alloc)))).mono ?_
  rintro e w13 ⟨rfl, xw13⟩
  have Lw13 : Ext w12 w13 := Ext.trans (by repeat (first | exact Ext.refl _ | assumption | apply Ext.drewN | apply Ext.drew | apply Ext.alloc)) xw13
  have Xw13 : Ext w w13 := Xw12.trans Lw13
  replace c10 := Lw13.cell c10
  replace c11 := Lw13.cell c11
  replace c12 := Lw13.cell c12
  replace c20 := Lw13.cell c20
  replace c21 := Lw13.cell c21
  replace c22 := Lw13.cell c22
  replace e10 := Lw13.cell e10
  replace e11 := Lw13.cell e11
  replace e12 := Lw13.cell e12
  replace e20 := Lw13.cell e20
  replace e21 := Lw13.cell e21
  replace e22 := Lw13.cell e22
  replace oW := oW.ext Lw13
  replace op0 := op0.ext Lw13
  replace op1 := op1.ext Lw13
  replace or1 := or1.ext Lw13
  replace op2 := op2.ext Lw13
  replace or2 := or2.ext Lw13
  replace oG := oG.ext Lw13
  have z26 : w.heap.size < w13.heap.size := World.block_lt_of_cell? _ _ c10
  have z27 : w.heap.size + 1 < w13.heap.size := World.block_lt_of_cell? _ _ c20
  have z28 : w8.heap.size < w13.heap.size := World.block_lt_of_cell? _ _ e10
  have z29 : w9.heap.size < w13.heap.size := World.block_lt_of_cell? _ _ e20
  have sw13 : w12.heap.size ≤ w13.heap.size := Lw13.size
  clear iu
  go_wp2_with fail
  go_region_held3 (fun w' => w'.cell? ⟨w.heap.size, 0, none⟩ = some (.int .i64 b1) ∧ w'.cell? ⟨w.heap.size, 1, none⟩ = some (.slice a1 s1.length f1) ∧ w'.cell? ⟨w.heap.size, 2, none⟩ = some (.slice d1 t1.length g1) ∧ w'.cell? ⟨w.heap.size + 1, 0, none⟩ = some (.int .i64 b2) ∧ w'.cell? ⟨w.heap.size + 1, 1, none⟩ = some (.slice a2 s2.length f2) ∧ w'.cell? ⟨w.heap.size + 1, 2, none⟩ = some (.slice d2 t2.length g2) ∧ w'.cell? ⟨w8.heap.size, 0, none⟩ = some (.int .i64 b1) ∧ w'.cell? ⟨w8.heap.size, 1, none⟩ = some (.slice P1 s1.length Q1) ∧ w'.cell? ⟨w8.heap.size, 2, none⟩ = some (.slice P1' t1.length Q1') ∧ w'.cell? ⟨w9.heap.size, 0, none⟩ = some (.int .i64 b2) ∧ w'.cell? ⟨w9.heap.size, 1, none⟩ = some (.slice P2 s2.length Q2) ∧ w'.cell? ⟨w9.heap.size, 2, none⟩ = some (.slice P2' t2.length Q2'))
    (first
      | go_keep
      | exact ⟨Yw15.cell c10, Yw15.cell c11, Yw15.cell c12, Yw15.cell c20, Yw15.cell c21, Yw15.cell c22, Yw15.cell e10, Yw15.cell e11, Yw15.cell e12, Yw15.cell e20, Yw15.cell e21, Yw15.cell e22⟩
      | exact ⟨Yw14.cell c10, Yw14.cell c11, Yw14.cell c12, Yw14.cell c20, Yw14.cell c21, Yw14.cell c22, Yw14.cell e10, Yw14.cell e11, Yw14.cell e12, Yw14.cell e20, Yw14.cell e21, Yw14.cell e22⟩)
    (first
      | (go_at_call 32; refine (eqView_c b1 _ _ _ _ s1 t1 _ _ _ _ _ ((op1.ints (by omega)).ext (Yw14.trans (by repeat (first | exact Ext.refl _ | assumption | apply Ext.drewN | apply Ext.drew | apply Ext.alloc)))) ((or1.ints (by omega)).ext (Yw14.trans (by repeat (first | exact Ext.refl _ | assumption | apply Ext.drewN | apply Ext.drew | apply Ext.alloc)))) (iu.ext (by repeat (first | exact Ext.refl _ | assumption | apply Ext.drewN | apply Ext.drew | apply Ext.alloc))) (iv.ext (by repeat (first | exact Ext.refl _ | assumption | apply Ext.drewN | apply Ext.drew | apply Ext.alloc)))).mono ?_; rintro e w15 ⟨rfl, xw15⟩; have Yw15 : Ext w13 w15 := Yw14.trans (Ext.trans (by repeat (first | exact Ext.refl _ | assumption | apply Ext.drewN | apply Ext.drew | apply Ext.alloc)) xw15); replace iu := iu.ext (Ext.trans (by repeat (first | exact Ext.refl _ | assumption | apply Ext.drewN | apply Ext.drew | apply Ext.alloc)) xw15); replace iv := iv.ext (Ext.trans (by repeat (first | exact Ext.refl _ | assumption | apply Ext.drewN | apply Ext.drew | apply Ext.alloc)) xw15))
      | (go_at_call 29; refine (toView_c b1 _ _ s1 t1 _ (h1.ext (Xw13.trans (by repeat (first | exact Ext.refl _ | assumption | apply Ext.drewN | apply Ext.drew | apply Ext.alloc)))) (k1.ext (Xw13.trans (by repeat (first | exact Ext.refl _ | assumption | apply Ext.drewN | apply Ext.drew | apply Ext.alloc)))) (by omega) (by omega)).mono ?_; rintro e w14 ⟨u, v, rfl, iu, iv, _, _, _, xw14⟩; have Yw14 : Ext w13 w14 := Ext.trans (by repeat (first | exact Ext.refl _ | assumption | apply Ext.drewN | apply Ext.drew | apply Ext.alloc)) xw14))
  have Lw15 : Ext w13 w15 := Yw15
  have Xw15 : Ext w w15 := Xw13.trans Lw15
  replace c10 := Lw15.cell c10
  replace c11 := Lw15.cell c11
  replace c12 := Lw15.cell c12
  replace c20 := Lw15.cell c20
  replace c21 := Lw15.cell c21
  replace c22 := Lw15.cell c22
  replace e10 := Lw15.cell e10
  replace e11 := Lw15.cell e11
  replace e12 := Lw15.cell e12
  replace e20 := Lw15.cell e20
  replace e21 := Lw15.cell e21
  replace e22 := Lw15.cell e22
  replace oW := oW.ext Lw15
  replace op0 := op0.ext Lw15
  replace op1 := op1.ext Lw15
  replace or1 := or1.ext Lw15
  replace op2 := op2.ext Lw15
  replace or2 := or2.ext Lw15
  replace oG := oG.ext Lw15
  have z30 : w.heap.size < w15.heap.size := World.block_lt_of_cell? _ _ c10
  have z31 : w.heap.size + 1 < w15.heap.size := World.block_lt_of_cell? _ _ c20
  have z32 : w8.heap.size < w15.heap.size := World.block_lt_of_cell? _ _ e10
  have z33 : w9.heap.size < w15.heap.size := World.block_lt_of_cell? _ _ e20
  have sw15 : w13.heap.size ≤ w15.heap.size := Lw15.size
  clear iu iv
  go_wp2_with fail
  go_region_held3 (fun w' => w'.cell? ⟨w.heap.size, 0, none⟩ = some (.int .i64 b1) ∧ w'.cell? ⟨w.heap.size, 1, none⟩ = some (.slice a1 s1.length f1) ∧ w'.cell? ⟨w.heap.size, 2, none⟩ = some (.slice d1 t1.length g1) ∧ w'.cell? ⟨w.heap.size + 1, 0, none⟩ = some (.int .i64 b2) ∧ w'.cell? ⟨w.heap.size + 1, 1, none⟩ = some (.slice a2 s2.length f2) ∧ w'.cell? ⟨w.heap.size + 1, 2, none⟩ = some (.slice d2 t2.length g2) ∧ w'.cell? ⟨w8.heap.size, 0, none⟩ = some (.int .i64 b1) ∧ w'.cell? ⟨w8.heap.size, 1, none⟩ = some (.slice P1 s1.length Q1) ∧ w'.cell? ⟨w8.heap.size, 2, none⟩ = some (.slice P1' t1.length Q1') ∧ w'.cell? ⟨w9.heap.size, 0, none⟩ = some (.int .i64 b2) ∧ w'.cell? ⟨w9.heap.size, 1, none⟩ = some (.slice P2 s2.length Q2) ∧ w'.cell? ⟨w9.heap.size, 2, none⟩ = some (.slice P2' t2.length Q2'))
    (first
      | go_keep
      | exact ⟨Yw17.cell c10, Yw17.cell c11, Yw17.cell c12, Yw17.cell c20, Yw17.cell c21, Yw17.cell c22, Yw17.cell e10, Yw17.cell e11, Yw17.cell e12, Yw17.cell e20, Yw17.cell e21, Yw17.cell e22⟩
      | exact ⟨Yw16.cell c10, Yw16.cell c11, Yw16.cell c12, Yw16.cell c20, Yw16.cell c21, Yw16.cell c22, Yw16.cell e10, Yw16.cell e11, Yw16.cell e12, Yw16.cell e20, Yw16.cell e21, Yw16.cell e22⟩)
    (first
      | (go_at_call 32; refine (eqView_c b2 _ _ _ _ s2 t2 _ _ _ _ _ ((op2.ints (by omega)).ext (Yw16.trans (by repeat (first | exact Ext.refl _ | assumption | apply Ext.drewN | apply Ext.drew | apply Ext.alloc)))) ((or2.ints (by omega)).ext (Yw16.trans (by repeat (first | exact Ext.refl _ | assumption | apply Ext.drewN | apply Ext.drew | apply Ext.alloc)))) (iu.ext (by repeat (first | exact Ext.refl _ | assumption | apply Ext.drewN | apply Ext.drew | apply Ext.alloc))) (iv.ext (by repeat (first | exact Ext.refl _ | assumption | apply Ext.drewN | apply Ext.drew | apply Ext.alloc)))).mono ?_; rintro e w17 ⟨rfl, xw17⟩; have Yw17 : Ext w15 w17 := Yw16.trans (Ext.trans (by repeat (first | exact Ext.refl _ | assumption | apply Ext.drewN | apply Ext.drew | apply Ext.alloc)) xw17); replace iu := iu.ext (Ext.trans (by repeat (first | exact Ext.refl _ | assumption | apply Ext.drewN | apply Ext.drew | apply Ext.alloc)) xw17); replace iv := iv.ext (Ext.trans (by repeat (first | exact Ext.refl _ | assumption | apply Ext.drewN | apply Ext.drew | apply Ext.alloc)) xw17))
      | (go_at_call 29; refine (toView_c b2 _ _ s2 t2 _ (h2.ext (Xw15.trans (by repeat (first | exact Ext.refl _ | assumption | apply Ext.drewN | apply Ext.drew | apply Ext.alloc)))) (k2.ext (Xw15.trans (by repeat (first | exact Ext.refl _ | assumption | apply Ext.drewN | apply Ext.drew | apply Ext.alloc)))) (by omega) (by omega)).mono ?_; rintro e w16 ⟨u, v, rfl, iu, iv, _, _, _, xw16⟩; have Yw16 : Ext w15 w16 := Ext.trans (by repeat (first | exact Ext.refl _ | assumption | apply Ext.drewN | apply Ext.drew | apply Ext.alloc)) xw16))
  have Lw17 : Ext w15 w17 := Yw17
  have Xw17 : Ext w w17 := Xw15.trans Lw17
  replace c10 := Lw17.cell c10
  replace c11 := Lw17.cell c11
  replace c12 := Lw17.cell c12
  replace c20 := Lw17.cell c20
  replace c21 := Lw17.cell c21
  replace c22 := Lw17.cell c22
  replace e10 := Lw17.cell e10
  replace e11 := Lw17.cell e11
  replace e12 := Lw17.cell e12
  replace e20 := Lw17.cell e20
  replace e21 := Lw17.cell e21
  replace e22 := Lw17.cell e22
  replace oW := oW.ext Lw17
  replace op0 := op0.ext Lw17
  replace op1 := op1.ext Lw17
  replace or1 := or1.ext Lw17
  replace op2 := op2.ext Lw17
  replace or2 := or2.ext Lw17
  replace oG := oG.ext Lw17
  have z34 : w.heap.size < w17.heap.size := World.block_lt_of_cell? _ _ c10
  have z35 : w.heap.size + 1 < w17.heap.size := World.block_lt_of_cell? _ _ c20
  have z36 : w8.heap.size < w17.heap.size := World.block_lt_of_cell? _ _ e10
  have z37 : w9.heap.size < w17.heap.size := World.block_lt_of_cell? _ _ e20
  have sw17 : w15.heap.size ≤ w17.heap.size := Lw17.size
  clear iu iv
  go_wp2_with fail
  refine (markZ_c s0 _ (1) _ (w6.heap.size) (w7.heap.size) (op0.ext (by repeat (first | exact Ext.refl _ | assumption | apply Ext.drewN | apply Ext.drew | apply Ext.alloc))) bp0 (by omega) (by omega) (by omega)).mono ?_
  rintro e w18 ⟨rfl, -, kw18, -, -⟩
  have Kw18 : Chg (w6.heap.size) (w7.heap.size) w17 w18 := (Chg.of_ext (by repeat (first | exact Ext.refl _ | assumption | apply Ext.drewN | apply Ext.drew | apply Ext.alloc))).trans kw18
  have sw18 : w17.heap.size ≤ w18.heap.size := Kw18.size
  have Xw18 : Ext w w18 := Xw17.chg Kw18 (by omega)
  replace c10 := Kw18.cell (by first | (left; omega) | (right; omega)) c10
  replace c11 := Kw18.cell (by first | (left; omega) | (right; omega)) c11
  replace c12 := Kw18.cell (by first | (left; omega) | (right; omega)) c12
  replace c20 := Kw18.cell (by first | (left; omega) | (right; omega)) c20
  replace c21 := Kw18.cell (by first | (left; omega) | (right; omega)) c21
  replace c22 := Kw18.cell (by first | (left; omega) | (right; omega)) c22
  replace e10 := Kw18.cell (by first | (left; omega) | (right; omega)) e10
  replace e11 := Kw18.cell (by first | (left; omega) | (right; omega)) e11
  replace e12 := Kw18.cell (by first | (left; omega) | (right; omega)) e12
  replace e20 := Kw18.cell (by first | (left; omega) | (right; omega)) e20
  replace e21 := Kw18.cell (by first | (left; omega) | (right; omega)) e21
  replace e22 := Kw18.cell (by first | (left; omega) | (right; omega)) e22
  replace oW := oW.chgB Kw18 (fun hn g hg => Nat.lt_of_lt_of_le (bW hn g hg) (by omega))
  replace op1 := op1.chg Kw18 (by omega)
  replace or1 := or1.chg Kw18 (by omega)
  replace op2 := op2.chg Kw18 (by omega)
  replace or2 := or2.chg Kw18 (by omega)
  replace oG := oG.chg Kw18 (by omega)
  have z38 : w.heap.size < w18.heap.size := World.block_lt_of_cell? _ _ c10
  have z39 : w.heap.size + 1 < w18.heap.size := World.block_lt_of_cell? _ _ c20
  have z40 : w8.heap.size < w18.heap.size := World.block_lt_of_cell? _ _ e10
  have z41 : w9.heap.size < w18.heap.size := World.block_lt_of_cell? _ _ e20
  clear op0
  go_wp2_with fail
  refine (markView_c b1 _ _ s1 t1 (1 + s0.length) _ (w7.heap.size) (w8.heap.size) (op1.ext (by repeat (first | exact Ext.refl _ | assumption | apply Ext.drewN | apply Ext.drew | apply Ext.alloc))) (or1.ext (by repeat (first | exact Ext.refl _ | assumption | apply Ext.drewN | apply Ext.drew | apply Ext.alloc))) hd1 bp1 br1 (Nat.le_trans (by omega) (Ext.size (show Ext w18 _ from (by repeat (first | exact Ext.refl _ | assumption | apply Ext.drewN | apply Ext.drew | apply Ext.alloc))))) (by omega) (by omega) (by omega) (by omega)).mono ?_
  rintro e w19 ⟨rfl, -, -, kw19⟩
  have Kw19 : Chg (w7.heap.size) (w8.heap.size) w18 w19 := (Chg.of_ext (by repeat (first | exact Ext.refl _ | assumption | apply Ext.drewN | apply Ext.drew | apply Ext.alloc))).trans kw19
  have sw19 : w18.heap.size ≤ w19.heap.size := Kw19.size
  have Xw19 : Ext w w19 := Xw18.chg Kw19 (by omega)
  replace c10 := Kw19.cell (by first | (left; omega) | (right; omega)) c10
  replace c11 := Kw19.cell (by first | (left; omega) | (right; omega)) c11
  replace c12 := Kw19.cell (by first | (left; omega) | (right; omega)) c12
  replace c20 := Kw19.cell (by first | (left; omega) | (right; omega)) c20
  replace c21 := Kw19.cell (by first | (left; omega) | (right; omega)) c21
  replace c22 := Kw19.cell (by first | (left; omega) | (right; omega)) c22
  replace e10 := Kw19.cell (by first | (left; omega) | (right; omega)) e10
  replace e11 := Kw19.cell (by first | (left; omega) | (right; omega)) e11
  replace e12 := Kw19.cell (by first | (left; omega) | (right; omega)) e12
  replace e20 := Kw19.cell (by first | (left; omega) | (right; omega)) e20
  replace e21 := Kw19.cell (by first | (left; omega) | (right; omega)) e21
  replace e22 := Kw19.cell (by first | (left; omega) | (right; omega)) e22
  replace oW := oW.chgB Kw19 (fun hn g hg => Nat.lt_of_lt_of_le (bW hn g hg) (by omega))
  replace op2 := op2.chg Kw19 (by omega)
  replace or2 := or2.chg Kw19 (by omega)
  replace oG := oG.chg Kw19 (by omega)
  have z42 : w.heap.size < w19.heap.size := World.block_lt_of_cell? _ _ c10
  have z43 : w.heap.size + 1 < w19.heap.size := World.block_lt_of_cell? _ _ c20
  have z44 : w8.heap.size < w19.heap.size := World.block_lt_of_cell? _ _ e10
  have z45 : w9.heap.size < w19.heap.size := World.block_lt_of_cell? _ _ e20
  clear op1 or1
  go_wp2_with fail
  refine (markView_c b2 _ _ s2 t2 (1 + s0.length + s1.length + t1.length) _ (w8.heap.size + 1) (w9.heap.size) (op2.ext (by repeat (first | exact Ext.refl _ | assumption | apply Ext.drewN | apply Ext.drew | apply Ext.alloc))) (or2.ext (by repeat (first | exact Ext.refl _ | assumption | apply Ext.drewN | apply Ext.drew | apply Ext.alloc))) hd2 bp2 br2 (Nat.le_trans (by omega) (Ext.size (show Ext w19 _ from (by repeat (first | exact Ext.refl _ | assumption | apply Ext.drewN | apply Ext.drew | apply Ext.alloc))))) (by omega) (by omega) (by omega) (by omega)).mono ?_
  rintro e w20 ⟨rfl, -, -, kw20⟩
  have Kw20 : Chg (w8.heap.size + 1) (w9.heap.size) w19 w20 := (Chg.of_ext (by repeat (first | exact Ext.refl _ | assumption | apply Ext.drewN | apply Ext.drew | apply Ext.alloc))).trans kw20
  have sw20 : w19.heap.size ≤ w20.heap.size := Kw20.size
  have Xw20 : Ext w w20 := Xw19.chg Kw20 (by omega)
  replace c10 := Kw20.cell (by first | (left; omega) | (right; omega)) c10
  replace c11 := Kw20.cell (by first | (left; omega) | (right; omega)) c11
  replace c12 := Kw20.cell (by first | (left; omega) | (right; omega)) c12
  replace c20 := Kw20.cell (by first | (left; omega) | (right; omega)) c20
  replace c21 := Kw20.cell (by first | (left; omega) | (right; omega)) c21
  replace c22 := Kw20.cell (by first | (left; omega) | (right; omega)) c22
  replace e10 := Kw20.cell (by first | (left; omega) | (right; omega)) e10
  replace e11 := Kw20.cell (by first | (left; omega) | (right; omega)) e11
  replace e12 := Kw20.cell (by first | (left; omega) | (right; omega)) e12
  replace e20 := Kw20.cell (by first | (left; omega) | (right; omega)) e20
  replace e21 := Kw20.cell (by first | (left; omega) | (right; omega)) e21
  replace e22 := Kw20.cell (by first | (left; omega) | (right; omega)) e22
  replace oW := oW.chgB Kw20 (fun hn g hg => Nat.lt_of_lt_of_le (bW hn g hg) (by omega))
  replace oG := oG.chg Kw20 (by omega)
  have z46 : w.heap.size < w20.heap.size := World.block_lt_of_cell? _ _ c10
  have z47 : w.heap.size + 1 < w20.heap.size := World.block_lt_of_cell? _ _ c20
  have z48 : w8.heap.size < w20.heap.size := World.block_lt_of_cell? _ _ e10
  have z49 : w9.heap.size < w20.heap.size := World.block_lt_of_cell? _ _ e20
  clear op2 or2
  go_wp2_with fail
  refine (eqIntS_x (swapA s0 b1 s1 t1 b2 s2 t2) _ _ _ _ _ ((oG.ints nW).ext (by repeat (first | exact Ext.refl _ | assumption | apply Ext.drewN | apply Ext.drew | apply Ext.alloc))) ((oW.ints nW).ext (by repeat (first | exact Ext.refl _ | assumption | apply Ext.drewN | apply Ext.drew | apply Ext.alloc)))).mono ?_
  rintro e w21 ⟨rfl, xw21⟩
  have Lw21 : Ext w20 w21 := Ext.trans (by repeat (first | exact Ext.refl _ | assumption | apply Ext.drewN | apply Ext.drew | apply Ext.alloc)) xw21
  have Xw21 : Ext w w21 := Xw20.trans Lw21
  replace c10 := Lw21.cell c10
  replace c11 := Lw21.cell c11
  replace c12 := Lw21.cell c12
  replace c20 := Lw21.cell c20
  replace c21 := Lw21.cell c21
  replace c22 := Lw21.cell c22
  replace e10 := Lw21.cell e10
  replace e11 := Lw21.cell e11
  replace e12 := Lw21.cell e12
  replace e20 := Lw21.cell e20
  replace e21 := Lw21.cell e21
  replace e22 := Lw21.cell e22
  replace oW := oW.ext Lw21
  replace oG := oG.ext Lw21
  have z50 : w.heap.size < w21.heap.size := World.block_lt_of_cell? _ _ c10
  have z51 : w.heap.size + 1 < w21.heap.size := World.block_lt_of_cell? _ _ c20
  have z52 : w8.heap.size < w21.heap.size := World.block_lt_of_cell? _ _ e10
  have z53 : w9.heap.size < w21.heap.size := World.block_lt_of_cell? _ _ e20
  have sw21 : w20.heap.size ≤ w21.heap.size := Lw21.size
  go_wp2_with fail
  refine (markZ_c (swapA s0 b1 s1 t1 b2 s2 t2) _ 1 _ (w9.heap.size + 1) (w10.heap.size) (oG.ext (by repeat (first | exact Ext.refl _ | assumption | apply Ext.drewN | apply Ext.drew | apply Ext.alloc))) bG nW (by omega) (by omega)).mono ?_
  rintro e w22 ⟨rfl, oH, kw22, -, -⟩
  have Kw22 : Chg (w9.heap.size + 1) (w10.heap.size) w21 w22 := (Chg.of_ext (by repeat (first | exact Ext.refl _ | assumption | apply Ext.drewN | apply Ext.drew | apply Ext.alloc))).trans kw22
  have sw22 : w21.heap.size ≤ w22.heap.size := Kw22.size
  have Xw22 : Ext w w22 := Xw21.chg Kw22 (by omega)
  replace c10 := Kw22.cell (by first | (left; omega) | (right; omega)) c10
  replace c11 := Kw22.cell (by first | (left; omega) | (right; omega)) c11
  replace c12 := Kw22.cell (by first | (left; omega) | (right; omega)) c12
  replace c20 := Kw22.cell (by first | (left; omega) | (right; omega)) c20
  replace c21 := Kw22.cell (by first | (left; omega) | (right; omega)) c21
  replace c22 := Kw22.cell (by first | (left; omega) | (right; omega)) c22
  replace e10 := Kw22.cell (by first | (left; omega) | (right; omega)) e10
  replace e11 := Kw22.cell (by first | (left; omega) | (right; omega)) e11
  replace e12 := Kw22.cell (by first | (left; omega) | (right; omega)) e12
  replace e20 := Kw22.cell (by first | (left; omega) | (right; omega)) e20
  replace e21 := Kw22.cell (by first | (left; omega) | (right; omega)) e21
  replace e22 := Kw22.cell (by first | (left; omega) | (right; omega)) e22
  replace oW := oW.chgB Kw22 (fun hn g hg => Nat.lt_of_lt_of_le (bW hn g hg) (by omega))
  have z54 : w.heap.size < w22.heap.size := World.block_lt_of_cell? _ _ c10
  have z55 : w.heap.size + 1 < w22.heap.size := World.block_lt_of_cell? _ _ c20
  have z56 : w8.heap.size < w22.heap.size := World.block_lt_of_cell? _ _ e10
  have z57 : w9.heap.size < w22.heap.size := World.block_lt_of_cell? _ _ e20
  clear oG
  have nH : (ksL 1 (swapA s0 b1 s1 t1 b2 s2 t2).length).length ≤ 4194304 := by rw [ksL_len]; exact nW
  go_wp2_with fail
  refine (heldIntS_c (swapA s0 b1 s1 t1 b2 s2 t2).length _ 1 _ _ ((oH.ints nH).ext (by repeat (first | exact Ext.refl _ | assumption | apply Ext.drewN | apply Ext.drew | apply Ext.alloc))) (by omega) (by omega)).mono ?_
  rintro e w' ⟨rfl, rfl⟩
  go_wp2_with fail
  go_region_held3 (fun w' => w'.cell? ⟨w.heap.size, 0, none⟩ = some (.int .i64 b1) ∧ w'.cell? ⟨w.heap.size, 1, none⟩ = some (.slice a1 s1.length f1) ∧ w'.cell? ⟨w.heap.size, 2, none⟩ = some (.slice d1 t1.length g1) ∧ w'.cell? ⟨w.heap.size + 1, 0, none⟩ = some (.int .i64 b2) ∧ w'.cell? ⟨w.heap.size + 1, 1, none⟩ = some (.slice a2 s2.length f2) ∧ w'.cell? ⟨w.heap.size + 1, 2, none⟩ = some (.slice d2 t2.length g2) ∧ w'.cell? ⟨w8.heap.size, 0, none⟩ = some (.int .i64 b1) ∧ w'.cell? ⟨w8.heap.size, 1, none⟩ = some (.slice P1 s1.length Q1) ∧ w'.cell? ⟨w8.heap.size, 2, none⟩ = some (.slice P1' t1.length Q1') ∧ w'.cell? ⟨w9.heap.size, 0, none⟩ = some (.int .i64 b2) ∧ w'.cell? ⟨w9.heap.size, 1, none⟩ = some (.slice P2 s2.length Q2) ∧ w'.cell? ⟨w9.heap.size, 2, none⟩ = some (.slice P2' t2.length Q2'))
    (first
      | go_keep
      | exact ⟨Yw26.cell c10, Yw26.cell c11, Yw26.cell c12, Yw26.cell c20, Yw26.cell c21, Yw26.cell c22, Yw26.cell e10, Yw26.cell e11, Yw26.cell e12, Yw26.cell e20, Yw26.cell e21, Yw26.cell e22⟩
      | exact ⟨Yw25.cell c10, Yw25.cell c11, Yw25.cell c12, Yw25.cell c20, Yw25.cell c21, Yw25.cell c22, Yw25.cell e10, Yw25.cell e11, Yw25.cell e12, Yw25.cell e20, Yw25.cell e21, Yw25.cell e22⟩
      | exact ⟨Yw24.cell c10, Yw24.cell c11, Yw24.cell c12, Yw24.cell c20, Yw24.cell c21, Yw24.cell c22, Yw24.cell e10, Yw24.cell e11, Yw24.cell e12, Yw24.cell e20, Yw24.cell e21, Yw24.cell e22⟩
      | exact ⟨Yw23.cell c10, Yw23.cell c11, Yw23.cell c12, Yw23.cell c20, Yw23.cell c21, Yw23.cell c22, Yw23.cell e10, Yw23.cell e11, Yw23.cell e12, Yw23.cell e20, Yw23.cell e21, Yw23.cell e22⟩)
    (first
      | (go_at_call 47; refine (implSwapViews_c s0 _ b1 _ _ s1 t1 b2 _ _ s2 t2 _ _ _ _ _ _ (iuH00.ext (by repeat (first | exact Ext.refl _ | assumption | apply Ext.drewN | apply Ext.drew | apply Ext.alloc))) (iuH01.ext (by repeat (first | exact Ext.refl _ | assumption | apply Ext.drewN | apply Ext.drew | apply Ext.alloc))) (ivH01.ext (by repeat (first | exact Ext.refl _ | assumption | apply Ext.drewN | apply Ext.drew | apply Ext.alloc))) (iuH02.ext (by repeat (first | exact Ext.refl _ | assumption | apply Ext.drewN | apply Ext.drew | apply Ext.alloc))) (ivH02.ext (by repeat (first | exact Ext.refl _ | assumption | apply Ext.drewN | apply Ext.drew | apply Ext.alloc)))).mono ?_; rintro e w26 ⟨H0, rfl, iH0, oH0, xw26⟩; have Yw26 : Ext w22 w26 := Yw25.trans (Ext.trans (by repeat (first | exact Ext.refl _ | assumption | apply Ext.drewN | apply Ext.drew | apply Ext.alloc)) xw26); replace iuH00 := iuH00.ext (Ext.trans (by repeat (first | exact Ext.refl _ | assumption | apply Ext.drewN | apply Ext.drew | apply Ext.alloc)) xw26); replace iuH01 := iuH01.ext (Ext.trans (by repeat (first | exact Ext.refl _ | assumption | apply Ext.drewN | apply Ext.drew | apply Ext.alloc)) xw26); replace ivH01 := ivH01.ext (Ext.trans (by repeat (first | exact Ext.refl _ | assumption | apply Ext.drewN | apply Ext.drew | apply Ext.alloc)) xw26); replace iuH02 := iuH02.ext (Ext.trans (by repeat (first | exact Ext.refl _ | assumption | apply Ext.drewN | apply Ext.drew | apply Ext.alloc)) xw26); replace ivH02 := ivH02.ext (Ext.trans (by repeat (first | exact Ext.refl _ | assumption | apply Ext.drewN | apply Ext.drew | apply Ext.alloc)) xw26))
      | (go_at_call 29; refine (toView_c b2 _ _ s2 t2 _ (h2.ext (Xw22.trans (Yw24.trans (by repeat (first | exact Ext.refl _ | assumption | apply Ext.drewN | apply Ext.drew | apply Ext.alloc))))) (k2.ext (Xw22.trans (Yw24.trans (by repeat (first | exact Ext.refl _ | assumption | apply Ext.drewN | apply Ext.drew | apply Ext.alloc))))) (by omega) (by omega)).mono ?_; rintro e w25 ⟨uH02, vH02, rfl, iuH02, ivH02, ouH02, ovH02, hdH02, xw25⟩; have Yw25 : Ext w22 w25 := Yw24.trans (Ext.trans (by repeat (first | exact Ext.refl _ | assumption | apply Ext.drewN | apply Ext.drew | apply Ext.alloc)) xw25); replace iuH00 := iuH00.ext (Ext.trans (by repeat (first | exact Ext.refl _ | assumption | apply Ext.drewN | apply Ext.drew | apply Ext.alloc)) xw25); replace iuH01 := iuH01.ext (Ext.trans (by repeat (first | exact Ext.refl _ | assumption | apply Ext.drewN | apply Ext.drew | apply Ext.alloc)) xw25); replace ivH01 := ivH01.ext (Ext.trans (by repeat (first | exact Ext.refl _ | assumption | apply Ext.drewN | apply Ext.drew | apply Ext.alloc)) xw25))
      | (go_at_call 29; refine (toView_c b1 _ _ s1 t1 _ (h1.ext (Xw22.trans (Yw23.trans (by repeat (first | exact Ext.refl _ | assumption | apply Ext.drewN | apply Ext.drew | apply Ext.alloc))))) (k1.ext (Xw22.trans (Yw23.trans (by repeat (first | exact Ext.refl _ | assumption | apply Ext.drewN | apply Ext.drew | apply Ext.alloc))))) (by omega) (by omega)).mono ?_; rintro e w24 ⟨uH01, vH01, rfl, iuH01, ivH01, ouH01, ovH01, hdH01, xw24⟩; have Yw24 : Ext w22 w24 := Yw23.trans (Ext.trans (by repeat (first | exact Ext.refl _ | assumption | apply Ext.drewN | apply Ext.drew | apply Ext.alloc)) xw24); replace iuH00 := iuH00.ext (Ext.trans (by repeat (first | exact Ext.refl _ | assumption | apply Ext.drewN | apply Ext.drew | apply Ext.alloc)) xw24))
      | (go_at_call 46; refine (toIntS_c s0 _ _ (h0.ext (Xw22.trans (by repeat (first | exact Ext.refl _ | assumption | apply Ext.drewN | apply Ext.drew | apply Ext.alloc)))) (by omega)).mono ?_; rintro e w23 ⟨uH00, rfl, iuH00, ouH00, xw23⟩; have Yw23 : Ext w22 w23 := Ext.trans (by repeat (first | exact Ext.refl _ | assumption | apply Ext.drewN | apply Ext.drew | apply Ext.alloc)) xw23))
  have Lw26 : Ext w22 w26 := Yw26
  have Xw26 : Ext w w26 := Xw22.trans Lw26
  replace c10 := Lw26.cell c10
  replace c11 := Lw26.cell c11
  replace c12 := Lw26.cell c12
  replace c20 := Lw26.cell c20
  replace c21 := Lw26.cell c21
  replace c22 := Lw26.cell c22
  replace e10 := Lw26.cell e10
  replace e11 := Lw26.cell e11
  replace e12 := Lw26.cell e12
  replace e20 := Lw26.cell e20
  replace e21 := Lw26.cell e21
  replace e22 := Lw26.cell e22
  replace oW := oW.ext Lw26
  replace oH := oH.ext Lw26
  have z58 : w.heap.size < w26.heap.size := World.block_lt_of_cell? _ _ c10
  have z59 : w.heap.size + 1 < w26.heap.size := World.block_lt_of_cell? _ _ c20
  have z60 : w8.heap.size < w26.heap.size := World.block_lt_of_cell? _ _ e10
  have z61 : w9.heap.size < w26.heap.size := World.block_lt_of_cell? _ _ e20
  have sw26 : w22.heap.size ≤ w26.heap.size := Lw26.size
  have nH0 := iH0.len
  have bH0 := oH0.bound
  clear iH0
  go_wp2_with fail
  refine (eqIntS_x (swapA s0 b1 s1 t1 b2 s2 t2) _ _ _ _ _ ((oH0.ints nW).ext (by repeat (first | exact Ext.refl _ | assumption | apply Ext.drewN | apply Ext.drew | apply Ext.alloc))) ((oW.ints nW).ext (by repeat (first | exact Ext.refl _ | assumption | apply Ext.drewN | apply Ext.drew | apply Ext.alloc)))).mono ?_
  rintro e w27 ⟨rfl, xw27⟩
  have Lw27 : Ext w26 w27 := Ext.trans (by repeat (first | exact Ext.refl _ | assumption | apply Ext.drewN | apply Ext.drew | apply Ext.alloc)) xw27
  have Xw27 : Ext w w27 := Xw26.trans Lw27
  replace c10 := Lw27.cell c10
  replace c11 := Lw27.cell c11
  replace c12 := Lw27.cell c12
  replace c20 := Lw27.cell c20
  replace c21 := Lw27.cell c21
  replace c22 := Lw27.cell c22
  replace e10 := Lw27.cell e10
  replace e11 := Lw27.cell e11
  replace e12 := Lw27.cell e12
  replace e20 := Lw27.cell e20
  replace e21 := Lw27.cell e21
  replace e22 := Lw27.cell e22
  replace oW := oW.ext Lw27
  replace oH := oH.ext Lw27
  replace oH0 := oH0.ext Lw27
  have z62 : w.heap.size < w27.heap.size := World.block_lt_of_cell? _ _ c10
  have z63 : w.heap.size + 1 < w27.heap.size := World.block_lt_of_cell? _ _ c20
  have z64 : w8.heap.size < w27.heap.size := World.block_lt_of_cell? _ _ e10
  have z65 : w9.heap.size < w27.heap.size := World.block_lt_of_cell? _ _ e20
  have sw27 : w26.heap.size ≤ w27.heap.size := Lw27.size
  go_wp2_with fail
  refine (heldIntS_c (swapA s0 b1 s1 t1 b2 s2 t2).length _ 1 _ _ ((oH.ints nH).ext (by repeat (first | exact Ext.refl _ | assumption | apply Ext.drewN | apply Ext.drew | apply Ext.alloc))) (by omega) (by omega)).mono ?_
  rintro e w' ⟨rfl, rfl⟩
  go_wp2_with fail
  go_ret
  exact ⟨rfl, Xw27.trans (by repeat (first | exact Ext.refl _ | assumption | apply Ext.drewN | apply Ext.drew | apply Ext.alloc))⟩

end Go.Proofs.Ytfdpoepidlmbaaa
