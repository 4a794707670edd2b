/- FnExactOverlapOf returns true for all arguments: no condition. -/
import Derived.Test.YtfdpoepidlmbaaaExD
import Derived.Test.YtfdpoepidlmbaaaLwD
namespace Go.Proofs.Ytfdpoepidlmbaaa
open Go.RowKit
set_option linter.unusedVariables false
set_option maxRecDepth 100000

set_option maxHeartbeats 6400000 in
theorem lawOverlapOf_c (b0 : Int) (a0 d0 : Option Addr) (f0 g0 : Nat) (s0 t0 : List Int) (b1 : Int) (a1 d1 : Option Addr) (f1 g1 : Nat) (s1 t1 : List Int) (w : World) (h0 : Raw w (.slice a0 s0.length f0) s0) (k0 : Raw w (.slice d0 t0.length g0) t0) (n0 : s0.length ≤ maxLen) (m0 : t0.length ≤ maxLen) (h1 : Raw w (.slice a1 s1.length f1) s1) (k1 : Raw w (.slice d1 t1.length g1) t1) (n1 : s1.length ≤ maxLen) (m1 : t1.length ≤ maxLen) :
    Calls Try.prog 22 #[.agg #[.int .i64 b0, .slice a0 s0.length f0, .slice d0 t0.length g0], .agg #[.int .i64 b1, .slice a1 s1.length f1, .slice d1 t1.length g1]] w fun e w' => e = .returned (.bool true) ∧ Ext w w' := by
  by_cases q0 : szV 1048576 s0.length t0.length < 0
  · go_enter Try.func22, Try.ntmps22
    go_wp2_with fail
    refine (szView_c b0 a0 d0 _ f0 _ g0 (1048576) _ (by omega) (by omega) n0 m0).mono ?_
    rintro e w1 ⟨rfl, xw1⟩
    have Lw1 : Ext w w1 := Ext.trans (by repeat (first | exact Ext.refl _ | assumption | apply Ext.drewN | apply Ext.drew | apply Ext.alloc)) xw1
    have Xw1 : Ext w w1 := Lw1
    have c00 : w1.cell? ⟨w.heap.size, 0, none⟩ = some (.int .i64 b0) := xw1.cell (by first | (simp; done) | (rw [World.cell?_alloc_lt _ _ _ (by simp)]; simp; done) | (go_simp; done))
    have c01 : w1.cell? ⟨w.heap.size, 1, none⟩ = some (.slice a0 s0.length f0) := xw1.cell (by first | (simp; done) | (rw [World.cell?_alloc_lt _ _ _ (by simp)]; simp; done) | (go_simp; done))
    have c02 : w1.cell? ⟨w.heap.size, 2, none⟩ = some (.slice d0 t0.length g0) := xw1.cell (by first | (simp; done) | (rw [World.cell?_alloc_lt _ _ _ (by simp)]; simp; done) | (go_simp; done))
    have c10 : w1.cell? ⟨w.heap.size + 1, 0, none⟩ = some (.int .i64 b1) := xw1.cell (by first | (simp; done) | (rw [World.cell?_alloc_lt _ _ _ (by simp)]; simp; done) | (go_simp; done))
    have c11 : w1.cell? ⟨w.heap.size + 1, 1, none⟩ = some (.slice a1 s1.length f1) := xw1.cell (by first | (simp; done) | (rw [World.cell?_alloc_lt _ _ _ (by simp)]; simp; done) | (go_simp; done))
    have c12 : w1.cell? ⟨w.heap.size + 1, 2, none⟩ = some (.slice d1 t1.length g1) := xw1.cell (by first | (simp; done) | (rw [World.cell?_alloc_lt _ _ _ (by simp)]; simp; done) | (go_simp; done))
    have z1 : w.heap.size < w1.heap.size := World.block_lt_of_cell? _ _ c00
    have z2 : w.heap.size + 1 < w1.heap.size := World.block_lt_of_cell? _ _ c10
    go_wp2_with fail
    go_ret
    exact ⟨rfl, Xw1.trans (by repeat (first | exact Ext.refl _ | assumption | apply Ext.drewN | apply Ext.drew | apply Ext.alloc))⟩
  have y0 := szV_ge (by omega) q0
  by_cases q1 : szV (1048576 - (s0.length : Int) - t0.length) s1.length t1.length < 0
  · go_enter Try.func22, Try.ntmps22
    go_wp2_with fail
    refine (szView_c b0 a0 d0 _ f0 _ g0 (1048576) _ (by omega) (by omega) n0 m0).mono ?_
    rintro e w1 ⟨rfl, xw1⟩
    have Lw1 : Ext w w1 := Ext.trans (by repeat (first | exact Ext.refl _ | assumption | apply Ext.drewN | apply Ext.drew | apply Ext.alloc)) xw1
    have Xw1 : Ext w w1 := Lw1
    have c00 : w1.cell? ⟨w.heap.size, 0, none⟩ = some (.int .i64 b0) := xw1.cell (by first | (simp; done) | (rw [World.cell?_alloc_lt _ _ _ (by simp)]; simp; done) | (go_simp; done))
    have c01 : w1.cell? ⟨w.heap.size, 1, none⟩ = some (.slice a0 s0.length f0) := xw1.cell (by first | (simp; done) | (rw [World.cell?_alloc_lt _ _ _ (by simp)]; simp; done) | (go_simp; done))
    have c02 : w1.cell? ⟨w.heap.size, 2, none⟩ = some (.slice d0 t0.length g0) := xw1.cell (by first | (simp; done) | (rw [World.cell?_alloc_lt _ _ _ (by simp)]; simp; done) | (go_simp; done))
    have c10 : w1.cell? ⟨w.heap.size + 1, 0, none⟩ = some (.int .i64 b1) := xw1.cell (by first | (simp; done) | (rw [World.cell?_alloc_lt _ _ _ (by simp)]; simp; done) | (go_simp; done))
    have c11 : w1.cell? ⟨w.heap.size + 1, 1, none⟩ = some (.slice a1 s1.length f1) := xw1.cell (by first | (simp; done) | (rw [World.cell?_alloc_lt _ _ _ (by simp)]; simp; done) | (go_simp; done))
    have c12 : w1.cell? ⟨w.heap.size + 1, 2, none⟩ = some (.slice d1 t1.length g1) := xw1.cell (by first | (simp; done) | (rw [World.cell?_alloc_lt _ _ _ (by simp)]; simp; done) | (go_simp; done))
    have z1 : w.heap.size < w1.heap.size := World.block_lt_of_cell? _ _ c00
    have z2 : w.heap.size + 1 < w1.heap.size := World.block_lt_of_cell? _ _ c10
    go_wp2_with fail
    refine (szView_c b1 a1 d1 _ f1 _ g1 (1048576 - (s0.length : Int) - t0.length) _ (by omega) (by omega) n1 m1).mono ?_
    rintro e w2 ⟨rfl, xw2⟩
    have Lw2 : Ext w1 w2 := Ext.trans (by repeat (first | exact Ext.refl _ | assumption | apply Ext.drewN | apply Ext.drew | apply Ext.alloc)) xw2
    have Xw2 : Ext w w2 := Xw1.trans Lw2
    replace c00 := Lw2.cell c00
    replace c01 := Lw2.cell c01
    replace c02 := Lw2.cell c02
    replace c10 := Lw2.cell c10
    replace c11 := Lw2.cell c11
    replace c12 := Lw2.cell c12
    have z3 : w.heap.size < w2.heap.size := World.block_lt_of_cell? _ _ c00
    have z4 : w.heap.size + 1 < w2.heap.size := World.block_lt_of_cell? _ _ c10
    have sw2 : w1.heap.size ≤ w2.heap.size := Lw2.size
    go_wp2_with fail
    go_ret
    exact ⟨rfl, Xw2.trans (by repeat (first | exact Ext.refl _ | assumption | apply Ext.drewN | apply Ext.drew | apply Ext.alloc))⟩
  have y1 := szV_ge (by omega) q1
  go_enter Try.func22, Try.ntmps22
  go_wp2_with fail
  refine (szView_c b0 a0 d0 _ f0 _ g0 (1048576) _ (by omega) (by omega) n0 m0).mono ?_
  rintro e w1 ⟨rfl, xw1⟩
  have Lw1 : Ext w w1 := Ext.trans (by repeat (first | exact Ext.refl _ | assumption | apply Ext.drewN | apply Ext.drew | apply Ext.alloc)) xw1
  have Xw1 : Ext w w1 := Lw1
  have c00 : w1.cell? ⟨w.heap.size, 0, none⟩ = some (.int .i64 b0) := xw1.cell (by first | (simp; done) | (rw [World.cell?_alloc_lt _ _ _ (by simp)]; simp; done) | (go_simp; done))
  have c01 : w1.cell? ⟨w.heap.size, 1, none⟩ = some (.slice a0 s0.length f0) := xw1.cell (by first | (simp; done) | (rw [World.cell?_alloc_lt _ _ _ (by simp)]; simp; done) | (go_simp; done))
  have c02 : w1.cell? ⟨w.heap.size, 2, none⟩ = some (.slice d0 t0.length g0) := xw1.cell (by first | (simp; done) | (rw [World.cell?_alloc_lt _ _ _ (by simp)]; simp; done) | (go_simp; done))
  have c10 : w1.cell? ⟨w.heap.size + 1, 0, none⟩ = some (.int .i64 b1) := xw1.cell (by first | (simp; done) | (rw [World.cell?_alloc_lt _ _ _ (by simp)]; simp; done) | (go_simp; done))
  have c11 : w1.cell? ⟨w.heap.size + 1, 1, none⟩ = some (.slice a1 s1.length f1) := xw1.cell (by first | (simp; done) | (rw [World.cell?_alloc_lt _ _ _ (by simp)]; simp; done) | (go_simp; done))
  have c12 : w1.cell? ⟨w.heap.size + 1, 2, none⟩ = some (.slice d1 t1.length g1) := xw1.cell (by first | (simp; done) | (rw [World.cell?_alloc_lt _ _ _ (by simp)]; simp; done) | (go_simp; done))
  have z1 : w.heap.size < w1.heap.size := World.block_lt_of_cell? _ _ c00
  have z2 : w.heap.size + 1 < w1.heap.size := World.block_lt_of_cell? _ _ c10
  go_wp2_with fail
  refine (szView_c b1 a1 d1 _ f1 _ g1 (1048576 - (s0.length : Int) - t0.length) _ (by omega) (by omega) n1 m1).mono ?_
  rintro e w2 ⟨rfl, xw2⟩
  have Lw2 : Ext w1 w2 := Ext.trans (by repeat (first | exact Ext.refl _ | assumption | apply Ext.drewN | apply Ext.drew | apply Ext.alloc)) xw2
  have Xw2 : Ext w w2 := Xw1.trans Lw2
  replace c00 := Lw2.cell c00
  replace c01 := Lw2.cell c01
  replace c02 := Lw2.cell c02
  replace c10 := Lw2.cell c10
  replace c11 := Lw2.cell c11
  replace c12 := Lw2.cell c12
  have z3 : w.heap.size < w2.heap.size := World.block_lt_of_cell? _ _ c00
  have z4 : w.heap.size + 1 < w2.heap.size := World.block_lt_of_cell? _ _ c10
  have sw2 : w1.heap.size ≤ w2.heap.size := Lw2.size
  go_wp2_with fail
  go_region_held3 (fun w' => w'.cell? ⟨w.heap.size, 0, none⟩ = some (.int .i64 b0) ∧ w'.cell? ⟨w.heap.size, 1, none⟩ = some (.slice a0 s0.length f0) ∧ w'.cell? ⟨w.heap.size, 2, none⟩ = some (.slice d0 t0.length g0) ∧ w'.cell? ⟨w.heap.size + 1, 0, none⟩ = some (.int .i64 b1) ∧ w'.cell? ⟨w.heap.size + 1, 1, none⟩ = some (.slice a1 s1.length f1) ∧ w'.cell? ⟨w.heap.size + 1, 2, none⟩ = some (.slice d1 t1.length g1))
    (first
      | go_keep
      | exact ⟨Yw5.cell c00, Yw5.cell c01, Yw5.cell c02, Yw5.cell c10, Yw5.cell c11, Yw5.cell c12⟩
      | exact ⟨Yw4.cell c00, Yw4.cell c01, Yw4.cell c02, Yw4.cell c10, Yw4.cell c11, Yw4.cell c12⟩
      | exact ⟨Yw3.cell c00, Yw3.cell c01, Yw3.cell c02, Yw3.cell c10, Yw3.cell c11, Yw3.cell c12⟩)
    (first
      | (go_at_call 91; refine (specOverlapOf_c b0 _ _ s0 t0 b1 _ _ s1 t1 _ _ _ _ _ (iuW0.ext (by repeat (first | exact Ext.refl _ | assumption | apply Ext.drewN | apply Ext.drew | apply Ext.alloc))) (ivW0.ext (by repeat (first | exact Ext.refl _ | assumption | apply Ext.drewN | apply Ext.drew | apply Ext.alloc))) (iuW1.ext (by repeat (first | exact Ext.refl _ | assumption | apply Ext.drewN | apply Ext.drew | apply Ext.alloc))) (ivW1.ext (by repeat (first | exact Ext.refl _ | assumption | apply Ext.drewN | apply Ext.drew | apply Ext.alloc)))).mono ?_; rintro e w5 ⟨W, rfl, iW, oW, xw5⟩; have Yw5 : Ext w2 w5 := Yw4.trans (Ext.trans (by repeat (first | exact Ext.refl _ | assumption | apply Ext.drewN | apply Ext.drew | apply Ext.alloc)) xw5); replace iuW0 := iuW0.ext (Ext.trans (by repeat (first | exact Ext.refl _ | assumption | apply Ext.drewN | apply Ext.drew | apply Ext.alloc)) xw5); replace ivW0 := ivW0.ext (Ext.trans (by repeat (first | exact Ext.refl _ | assumption | apply Ext.drewN | apply Ext.drew | apply Ext.alloc)) xw5); replace iuW1 := iuW1.ext (Ext.trans (by repeat (first | exact Ext.refl _ | assumption | apply Ext.drewN | apply Ext.drew | apply Ext.alloc)) xw5); replace ivW1 := ivW1.ext (Ext.trans (by repeat (first | exact Ext.refl _ | assumption | apply Ext.drewN | apply Ext.drew | apply Ext.alloc)) xw5))
      | (go_at_call 29; refine (toView_c b1 _ _ s1 t1 _ (h1.ext (Xw2.trans (Yw3.trans (by repeat (first | exact Ext.refl _ | assumption | apply Ext.drewN | apply Ext.drew | apply Ext.alloc))))) (k1.ext (Xw2.trans (Yw3.trans (by repeat (first | exact Ext.refl _ | assumption | apply Ext.drewN | apply Ext.drew | apply Ext.alloc))))) (by omega) (by omega)).mono ?_; rintro e w4 ⟨uW1, vW1, rfl, iuW1, ivW1, ouW1, ovW1, hdW1, xw4⟩; have Yw4 : Ext w2 w4 := Yw3.trans (Ext.trans (by repeat (first | exact Ext.refl _ | assumption | apply Ext.drewN | apply Ext.drew | apply Ext.alloc)) xw4); replace iuW0 := iuW0.ext (Ext.trans (by repeat (first | exact Ext.refl _ | assumption | apply Ext.drewN | apply Ext.drew | apply Ext.alloc)) xw4); replace ivW0 := ivW0.ext (Ext.trans (by repeat (first | exact Ext.refl _ | assumption | apply Ext.drewN | apply Ext.drew | apply Ext.alloc)) xw4))
      | (go_at_call 29; refine (toView_c b0 _ _ s0 t0 _ (h0.ext (Xw2.trans (by repeat (first | exact Ext.refl _ | assumption | apply Ext.drewN | apply Ext.drew | apply Ext.alloc)))) (k0.ext (Xw2.trans (by repeat (first | exact Ext.refl _ | assumption | apply Ext.drewN | apply Ext.drew | apply Ext.alloc)))) (by omega) (by omega)).mono ?_; rintro e w3 ⟨uW0, vW0, rfl, iuW0, ivW0, ouW0, ovW0, hdW0, xw3⟩; have Yw3 : Ext w2 w3 := Ext.trans (by repeat (first | exact Ext.refl _ | assumption | apply Ext.drewN | apply Ext.drew | apply Ext.alloc)) xw3))
  have Lw5 : Ext w2 w5 := Yw5
  have Xw5 : Ext w w5 := Xw2.trans Lw5
  replace c00 := Lw5.cell c00
  replace c01 := Lw5.cell c01
  replace c02 := Lw5.cell c02
  replace c10 := Lw5.cell c10
  replace c11 := Lw5.cell c11
  replace c12 := Lw5.cell c12
  have z5 : w.heap.size < w5.heap.size := World.block_lt_of_cell? _ _ c00
  have z6 : w.heap.size + 1 < w5.heap.size := World.block_lt_of_cell? _ _ c10
  have sw5 : w2.heap.size ≤ w5.heap.size := Lw5.size
  have nW := iW.len
  have bW := oW.bound
  clear iW
  go_wp2_with fail
  refine (toView_c b0 _ _ s0 t0 _ (h0.ext (Xw5.trans (by repeat (first | exact Ext.refl _ | assumption | apply Ext.drewN | apply Ext.drew | apply Ext.alloc)))) (k0.ext (Xw5.trans (by repeat (first | exact Ext.refl _ | assumption | apply Ext.drewN | apply Ext.drew | apply Ext.alloc)))) (by omega) (by omega)).mono ?_
  rintro e w6 ⟨p0, r0, rfl, ip0, ir0, op0, or0, hd0, xw6⟩
  replace op0 := op0.lower (base' := w5.heap.size) (by first | (simp; done) | exact Ext.size (by repeat (first | exact Ext.refl _ | assumption | apply Ext.drewN | apply Ext.drew | apply Ext.alloc)))
  replace or0 := or0.lower (base' := w5.heap.size) (by first | (simp; done) | exact Ext.size (by repeat (first | exact Ext.refl _ | assumption | apply Ext.drewN | apply Ext.drew | apply Ext.alloc)))
  have Lw6 : Ext w5 w6 := Ext.trans (by repeat (first | exact Ext.refl _ | assumption | apply Ext.drewN | apply Ext.drew | apply Ext.alloc)) xw6
  have Xw6 : Ext w w6 := Xw5.trans Lw6
  replace c00 := Lw6.cell c00
  replace c01 := Lw6.cell c01
  replace c02 := Lw6.cell c02
  replace c10 := Lw6.cell c10
  replace c11 := Lw6.cell c11
  replace c12 := Lw6.cell c12
  replace oW := oW.ext Lw6
  have z7 : w.heap.size < w6.heap.size := World.block_lt_of_cell? _ _ c00
  have z8 : w.heap.size + 1 < w6.heap.size := World.block_lt_of_cell? _ _ c10
  have sw6 : w5.heap.size ≤ w6.heap.size := Lw6.size
  have bp0 := op0.bound
  have br0 := or0.bound
  obtain ⟨P0, Q0, rfl⟩ := ip0.form
  obtain ⟨P0', Q0', rfl⟩ := ir0.form
  clear ip0 ir0
  go_wp2_with fail
  refine (toView_c b1 _ _ s1 t1 _ (h1.ext (Xw6.trans (by repeat (first | exact Ext.refl _ | assumption | apply Ext.drewN | apply Ext.drew | apply Ext.alloc)))) (k1.ext (Xw6.trans (by repeat (first | exact Ext.refl _ | assumption | apply Ext.drewN | apply Ext.drew | apply Ext.alloc)))) (by omega) (by omega)).mono ?_
  rintro e w7 ⟨p1, r1, rfl, ip1, ir1, op1, or1, hd1, xw7⟩
  replace op1 := op1.lower (base' := w6.heap.size + 1) (by first | (simp; done) | exact Ext.size (by repeat (first | exact Ext.refl _ | assumption | apply Ext.drewN | apply Ext.drew | apply Ext.alloc)))
  replace or1 := or1.lower (base' := w6.heap.size + 1) (by first | (simp; done) | exact Ext.size (by repeat (first | exact Ext.refl _ | assumption | apply Ext.drewN | apply Ext.drew | apply Ext.alloc)))
  have Lw7 : Ext w6 w7 := Ext.trans (by repeat (first | exact Ext.refl _ | assumption | apply Ext.drewN | apply Ext.drew | apply Ext.alloc)) xw7
  have Xw7 : Ext w w7 := Xw6.trans Lw7
  replace c00 := Lw7.cell c00
  replace c01 := Lw7.cell c01
  replace c02 := Lw7.cell c02
  replace c10 := Lw7.cell c10
  replace c11 := Lw7.cell c11
  replace c12 := Lw7.cell c12
  replace oW := oW.ext Lw7
  replace op0 := op0.ext Lw7
  replace or0 := or0.ext Lw7
  have e00 : w7.cell? ⟨w6.heap.size, 0, none⟩ = some (.int .i64 b0) := xw7.cell (by first | (simp; done) | (rw [World.cell?_alloc_lt _ _ _ (by simp)]; simp; done) | (go_simp; done))
  have e01 : w7.cell? ⟨w6.heap.size, 1, none⟩ = some (.slice P0 s0.length Q0) := xw7.cell (by first | (simp; done) | (rw [World.cell?_alloc_lt _ _ _ (by simp)]; simp; done) | (go_simp; done))
  have e02 : w7.cell? ⟨w6.heap.size, 2, none⟩ = some (.slice P0' t0.length Q0') := xw7.cell (by first | (simp; done) | (rw [World.cell?_alloc_lt _ _ _ (by simp)]; simp; done) | (go_simp; done))
  have z9 : w.heap.size < w7.heap.size := World.block_lt_of_cell? _ _ c00
  have z10 : w.heap.size + 1 < w7.heap.size := World.block_lt_of_cell? _ _ c10
  have z11 : w6.heap.size < w7.heap.size := World.block_lt_of_cell? _ _ e00
  have sw7 : w6.heap.size ≤ w7.heap.size := Lw7.size
  have bp1 := op1.bound
  have br1 := or1.bound
  obtain ⟨P1, Q1, rfl⟩ := ip1.form
  obtain ⟨P1', Q1', rfl⟩ := ir1.form
  clear ip1 ir1
  go_wp2_with fail
  refine (implOverlapOf_c b0 _ _ s0 t0 b1 _ _ s1 t1 _ _ _ _ _ ((op0.ints (by omega)).ext (by repeat (first | exact Ext.refl _ | assumption | apply Ext.drewN | apply Ext.drew | apply Ext.alloc))) ((or0.ints (by omega)).ext (by repeat (first | exact Ext.refl _ | assumption | apply Ext.drewN | apply Ext.drew | apply Ext.alloc))) ((op1.ints (by omega)).ext (by repeat (first | exact Ext.refl _ | assumption | apply Ext.drewN | apply Ext.drew | apply Ext.alloc))) ((or1.ints (by omega)).ext (by repeat (first | exact Ext.refl _ | assumption | apply Ext.drewN | apply Ext.drew | apply Ext.alloc)))).mono ?_
  rintro e w8 ⟨G, rfl, iG, oG, xw8⟩
  have Lw8 : Ext w7 w8 := Ext.trans (by repeat (first | exact Ext.refl _ | assumption | apply Ext.drewN | apply Ext.drew | apply Ext.alloc)) xw8
  have Xw8 : Ext w w8 := Xw7.trans Lw8
  replace c00 := Lw8.cell c00
  replace c01 := Lw8.cell c01
  replace c02 := Lw8.cell c02
  replace c10 := Lw8.cell c10
  replace c11 := Lw8.cell c11
  replace c12 := Lw8.cell c12
  replace e00 := Lw8.cell e00
  replace e01 := Lw8.cell e01
  replace e02 := Lw8.cell e02
  replace oW := oW.ext Lw8
  replace op0 := op0.ext Lw8
  replace or0 := or0.ext Lw8
  replace op1 := op1.ext Lw8
  replace or1 := or1.ext Lw8
  have e10 : w8.cell? ⟨w7.heap.size, 0, none⟩ = some (.int .i64 b1) := xw8.cell (by first | (simp; done) | (rw [World.cell?_alloc_lt _ _ _ (by simp)]; simp; done) | (go_simp; done))
  have e11 : w8.cell? ⟨w7.heap.size, 1, none⟩ = some (.slice P1 s1.length Q1) := xw8.cell (by first | (simp; done) | (rw [World.cell?_alloc_lt _ _ _ (by simp)]; simp; done) | (go_simp; done))
  have e12 : w8.cell? ⟨w7.heap.size, 2, none⟩ = some (.slice P1' t1.length Q1') := xw8.cell (by first | (simp; done) | (rw [World.cell?_alloc_lt _ _ _ (by simp)]; simp; done) | (go_simp; done))
  have z12 : w.heap.size < w8.heap.size := World.block_lt_of_cell? _ _ c00
  have z13 : w.heap.size + 1 < w8.heap.size := World.block_lt_of_cell? _ _ c10
  have z14 : w6.heap.size < w8.heap.size := World.block_lt_of_cell? _ _ e00
  have z15 : w7.heap.size < w8.heap.size := World.block_lt_of_cell? _ _ e10
  have sw8 : w7.heap.size ≤ w8.heap.size := Lw8.size
  replace oG := oG.lower (base' := w7.heap.size + 1) (by first | (simp; done) | exact Ext.size (by repeat (first | exact Ext.refl _ | assumption | apply Ext.drewN | apply Ext.drew | apply Ext.alloc)))
  have bG := oG.bound
  obtain ⟨GA, GC, rfl⟩ := iG.form
  clear iG
  go_wp2_with fail
  refine (eqIntS_x (overA b0 s0 t0 b1 s1 t1) _ _ _ _ _ ((oG.ints nW).ext (by repeat (first | exact Ext.refl _ | assumption | apply Ext.drewN | apply Ext.drew | apply Ext.alloc))) ((oW.ints nW).ext (by repeat (first | exact Ext.refl _ | assumption | apply Ext.drewN | apply Ext.drew | apply Ext.alloc)))).mono ?_
  rintro e w9 ⟨rfl, xw9⟩
  have Lw9 : Ext w8 w9 := Ext.trans (by repeat (first | exact Ext.refl _ | assumption | apply Ext.drewN | apply Ext.drew | apply Ext.alloc)) xw9
  have Xw9 : Ext w w9 := Xw8.trans Lw9
  replace c00 := Lw9.cell c00
  replace c01 := Lw9.cell c01
  replace c02 := Lw9.cell c02
  replace c10 := Lw9.cell c10
  replace c11 := Lw9.cell c11
  replace c12 := Lw9.cell c12
  replace e00 := Lw9.cell e00
  replace e01 := Lw9.cell e01
  replace e02 := Lw9.cell e02
  replace e10 := Lw9.cell e10
  replace e11 := Lw9.cell e11
  replace e12 := Lw9.cell e12
  replace oW := oW.ext Lw9
  replace op0 := op0.ext Lw9
  replace or0 := or0.ext Lw9
  replace op1 := op1.ext Lw9
  replace or1 := or1.ext Lw9
  replace oG := oG.ext Lw9
  have z16 : w.heap.size < w9.heap.size := World.block_lt_of_cell? _ _ c00
  have z17 : w.heap.size + 1 < w9.heap.size := World.block_lt_of_cell? _ _ c10
  have z18 : w6.heap.size < w9.heap.size := World.block_lt_of_cell? _ _ e00
  have z19 : w7.heap.size < w9.heap.size := World.block_lt_of_cell? _ _ e10
  have sw9 : w8.heap.size ≤ w9.heap.size := Lw9.size
  go_wp2_with fail
  go_region_held3 (fun w' => w'.cell? ⟨w.heap.size, 0, none⟩ = some (.int .i64 b0) ∧ w'.cell? ⟨w.heap.size, 1, none⟩ = some (.slice a0 s0.length f0) ∧ w'.cell? ⟨w.heap.size, 2, none⟩ = some (.slice d0 t0.length g0) ∧ w'.cell? ⟨w.heap.size + 1, 0, none⟩ = some (.int .i64 b1) ∧ w'.cell? ⟨w.heap.size + 1, 1, none⟩ = some (.slice a1 s1.length f1) ∧ w'.cell? ⟨w.heap.size + 1, 2, none⟩ = some (.slice d1 t1.length g1) ∧ w'.cell? ⟨w6.heap.size, 0, none⟩ = some (.int .i64 b0) ∧ w'.cell? ⟨w6.heap.size, 1, none⟩ = some (.slice P0 s0.length Q0) ∧ w'.cell? ⟨w6.heap.size, 2, none⟩ = some (.slice P0' t0.length Q0') ∧ w'.cell? ⟨w7.heap.size, 0, none⟩ = some (.int .i64 b1) ∧ w'.cell? ⟨w7.heap.size, 1, none⟩ = some (.slice P1 s1.length Q1) ∧ w'.cell? ⟨w7.heap.size, 2, none⟩ = some (.slice P1' t1.length Q1'))
    (first
      | go_keep
      | exact ⟨Yw11.cell c00, Yw11.cell c01, Yw11.cell c02, Yw11.cell c10, Yw11.cell c11, Yw11.cell c12, Yw11.cell e00, Yw11.cell e01, Yw11.cell e02, Yw11.cell e10, Yw11.cell e11, Yw11.cell e12⟩
      | exact ⟨Yw10.cell c00, Yw10.cell c01, Yw10.cell c02, Yw10.cell c10, Yw10.cell c11, Yw10.cell c12, Yw10.cell e00, Yw10.cell e01, Yw10.cell e02, Yw10.cell e10, Yw10.cell e11, Yw10.cell e12⟩)
    (first
      | (go_at_call 32; refine (eqView_c b0 _ _ _ _ s0 t0 _ _ _ _ _ ((op0.ints (by omega)).ext (Yw10.trans (by repeat (first | exact Ext.refl _ | assumption | apply Ext.drewN | apply Ext.drew | apply Ext.alloc)))) ((or0.ints (by omega)).ext (Yw10.trans (by repeat (first | exact Ext.refl _ | assumption | apply Ext.drewN | apply Ext.drew | apply Ext.alloc)))) (iu.ext (by repeat (first | exact Ext.refl _ | assumption | apply Ext.drewN | apply Ext.drew | apply Ext.alloc))) (iv.ext (by repeat (first | exact Ext.refl _ | assumption | apply Ext.drewN | apply Ext.drew | apply Ext.alloc)))).mono ?_; rintro e w11 ⟨rfl, xw11⟩; have Yw11 : Ext w9 w11 := Yw10.trans (Ext.trans (by repeat (first | exact Ext.refl _ | assumption | apply Ext.drewN | apply Ext.drew | apply Ext.alloc)) xw11); replace iu := iu.ext (Ext.trans (by repeat (first | exact Ext.refl _ | assumption | apply Ext.drewN | apply Ext.drew | apply Ext.alloc)) xw11); replace iv := iv.ext (Ext.trans (by repeat (first | exact Ext.refl _ | assumption | apply Ext.drewN | apply Ext.drew | apply Ext.alloc)) xw11))
      | (go_at_call 29; refine (toView_c b0 _ _ s0 t0 _ (h0.ext (Xw9.trans (by repeat (first | exact Ext.refl _ | assumption | apply Ext.drewN | apply Ext.drew | apply Ext.alloc)))) (k0.ext (Xw9.trans (by repeat (first | exact Ext.refl _ | assumption | apply Ext.drewN | apply Ext.drew | apply Ext.alloc)))) (by omega) (by omega)).mono ?_; rintro e w10 ⟨u, v, rfl, iu, iv, _, _, _, xw10⟩; have Yw10 : Ext w9 w10 := Ext.trans (by repeat (first | exact Ext.refl _ | assumption | apply Ext.drewN | apply Ext.drew | apply Ext.alloc)) xw10))
  have Lw11 : Ext w9 w11 := Yw11
  have Xw11 : Ext w w11 := Xw9.trans Lw11
  replace c00 := Lw11.cell c00
  replace c01 := Lw11.cell c01
  replace c02 := Lw11.cell c02
  replace c10 := Lw11.cell c10
  replace c11 := Lw11.cell c11
  replace c12 := Lw11.cell c12
  replace e00 := Lw11.cell e00
  replace e01 := Lw11.cell e01
  replace e02 := Lw11.cell e02
  replace e10 := Lw11.cell e10
  replace e11 := Lw11.cell e11
  replace e12 := Lw11.cell e12
  replace oW := oW.ext Lw11
  replace op0 := op0.ext Lw11
  replace or0 := or0.ext Lw11
  replace op1 := op1.ext Lw11
  replace or1 := or1.ext Lw11
  replace oG := oG.ext Lw11
  have z20 : w.heap.size < w11.heap.size := World.block_lt_of_cell? _ _ c00
  have z21 : w.heap.size + 1 < w11.heap.size := World.block_lt_of_cell? _ _ c10
  have z22 : w6.heap.size < w11.heap.size := World.block_lt_of_cell? _ _ e00
  have z23 : w7.heap.size < w11.heap.size := World.block_lt_of_cell? _ _ e10
  have sw11 : w9.heap.size ≤ w11.heap.size := Lw11.size
  clear iu iv
  go_wp2_with fail
  go_region_held3 (fun w' => w'.cell? ⟨w.heap.size, 0, none⟩ = some (.int .i64 b0) ∧ w'.cell? ⟨w.heap.size, 1, none⟩ = some (.slice a0 s0.length f0) ∧ w'.cell? ⟨w.heap.size, 2, none⟩ = some (.slice d0 t0.length g0) ∧ w'.cell? ⟨w.heap.size + 1, 0, none⟩ = some (.int .i64 b1) ∧ w'.cell? ⟨w.heap.size + 1, 1, none⟩ = some (.slice a1 s1.length f1) ∧ w'.cell? ⟨w.heap.size + 1, 2, none⟩ = some (.slice d1 t1.length g1) ∧ w'.cell? ⟨w6.heap.size, 0, none⟩ = some (.int .i64 b0) ∧ w'.cell? ⟨w6.heap.size, 1, none⟩ = some (.slice P0 s0.length Q0) ∧ w'.cell? ⟨w6.heap.size, 2, none⟩ = some (.slice P0' t0.length Q0') ∧ w'.cell? ⟨w7.heap.size, 0, none⟩ = some (.int .i64 b1) ∧ w'.cell? ⟨w7.heap.size, 1, none⟩ = some (.slice P1 s1.length Q1) ∧ w'.cell? ⟨w7.heap.size, 2, none⟩ = some (.slice P1' t1.length Q1'))
    (first
      | go_keep
      | exact ⟨Yw13.cell c00, Yw13.cell c01, Yw13.cell c02, Yw13.cell c10, Yw13.cell c11, Yw13.cell c12, Yw13.cell e00, Yw13.cell e01, Yw13.cell e02, Yw13.cell e10, Yw13.cell e11, Yw13.cell e12⟩
      | exact ⟨Yw12.cell c00, Yw12.cell c01, Yw12.cell c02, Yw12.cell c10, Yw12.cell c11, Yw12.cell c12, Yw12.cell e00, Yw12.cell e01, Yw12.cell e02, Yw12.cell e10, Yw12.cell e11, Yw12.cell e12⟩)
    (first
      | (go_at_call 32; refine (eqView_c b1 _ _ _ _ s1 t1 _ _ _ _ _ ((op1.ints (by omega)).ext (Yw12.trans (by repeat (first | exact Ext.refl _ | assumption | apply Ext.drewN | apply Ext.drew | apply Ext.alloc)))) ((or1.ints (by omega)).ext (Yw12.trans (by repeat (first | exact Ext.refl _ | assumption | apply Ext.drewN | apply Ext.drew | apply Ext.alloc)))) (iu.ext (by repeat (first | exact Ext.refl _ | assumption | apply Ext.drewN | apply Ext.drew | apply Ext.alloc))) (iv.ext (by repeat (first | exact Ext.refl _ | assumption | apply Ext.drewN | apply Ext.drew | apply Ext.alloc)))).mono ?_; rintro e w13 ⟨rfl, xw13⟩; have Yw13 : Ext w11 w13 := Yw12.trans (Ext.trans (by repeat (first | exact Ext.refl _ | assumption | apply Ext.drewN | apply Ext.drew | apply Ext.alloc)) xw13); replace iu := iu.ext (Ext.trans (by repeat (first | exact Ext.refl _ | assumption | apply Ext.drewN | apply Ext.drew | apply Ext.alloc)) xw13); replace iv := iv.ext (Ext.trans (by repeat (first | exact Ext.refl _ | assumption | apply Ext.drewN | apply Ext.drew | apply Ext.alloc)) xw13))
      | (go_at_call 29; refine (toView_c b1 _ _ s1 t1 _ (h1.ext (Xw11.trans (by repeat (first | exact Ext.refl _ | assumption | apply Ext.drewN | apply Ext.drew | apply Ext.alloc)))) (k1.ext (Xw11.trans (by repeat (first | exact Ext.refl _ | assumption | apply Ext.drewN | apply Ext.drew | apply Ext.alloc)))) (by omega) (by omega)).mono ?_; rintro e w12 ⟨u, v, rfl, iu, iv, _, _, _, xw12⟩; have Yw12 : Ext w11 w12 := Ext.trans (by repeat (first | exact Ext.refl _ | assumption | apply Ext.drewN | apply Ext.drew | apply Ext.alloc)) xw12))
  have Lw13 : Ext w11 w13 := Yw13
  have Xw13 : Ext w w13 := Xw11.trans Lw13
  replace c00 := Lw13.cell c00
  replace c01 := Lw13.cell c01
  replace c02 := Lw13.cell c02
  replace c10 := Lw13.cell c10
  replace c11 := Lw13.cell c11
  replace c12 := Lw13.cell c12
  replace e00 := Lw13.cell e00
  replace e01 := Lw13.cell e01
  replace e02 := Lw13.cell e02
  replace e10 := Lw13.cell e10
  replace e11 := Lw13.cell e11
  replace e12 := Lw13.cell e12
  replace oW := oW.ext Lw13
  replace op0 := op0.ext Lw13
  replace or0 := or0.ext Lw13
  replace op1 := op1.ext Lw13
  replace or1 := or1.ext Lw13
  replace oG := oG.ext Lw13
  have z24 : w.heap.size < w13.heap.size := World.block_lt_of_cell? _ _ c00
  have z25 : w.heap.size + 1 < w13.heap.size := World.block_lt_of_cell? _ _ c10
  have z26 : w6.heap.size < w13.heap.size := World.block_lt_of_cell? _ _ e00
  have z27 : w7.heap.size < w13.heap.size := World.block_lt_of_cell? _ _ e10
  have sw13 : w11.heap.size ≤ w13.heap.size := Lw13.size
  clear iu iv
  go_wp2_with fail
  refine (markView_c b0 _ _ s0 t0 (1) _ (w5.heap.size) (w6.heap.size) (op0.ext (by repeat (first | exact Ext.refl _ | assumption | apply Ext.drewN | apply Ext.drew | apply Ext.alloc))) (or0.ext (by repeat (first | exact Ext.refl _ | assumption | apply Ext.drewN | apply Ext.drew | apply Ext.alloc))) hd0 bp0 br0 (Nat.le_trans (by omega) (Ext.size (show Ext w13 _ from (by repeat (first | exact Ext.refl _ | assumption | apply Ext.drewN | apply Ext.drew | apply Ext.alloc))))) (by omega) (by omega) (by omega) (by omega)).mono ?_
  rintro e w14 ⟨rfl, -, -, kw14⟩
  have Kw14 : Chg (w5.heap.size) (w6.heap.size) w13 w14 := (Chg.of_ext (by repeat (first | exact Ext.refl _ | assumption | apply Ext.drewN | apply Ext.drew | apply Ext.alloc))).trans kw14
  have sw14 : w13.heap.size ≤ w14.heap.size := Kw14.size
  have Xw14 : Ext w w14 := Xw13.chg Kw14 (by omega)
  replace c00 := Kw14.cell (by first | (left; omega) | (right; omega)) c00
  replace c01 := Kw14.cell (by first | (left; omega) | (right; omega)) c01
  replace c02 := Kw14.cell (by first | (left; omega) | (right; omega)) c02
  replace c10 := Kw14.cell (by first | (left; omega) | (right; omega)) c10
  replace c11 := Kw14.cell (by first | (left; omega) | (right; omega)) c11
  replace c12 := Kw14.cell (by first | (left; omega) | (right; omega)) c12
  replace e00 := Kw14.cell (by first | (left; omega) | (right; omega)) e00
  replace e01 := Kw14.cell (by first | (left; omega) | (right; omega)) e01
  replace e02 := Kw14.cell (by first | (left; omega) | (right; omega)) e02
  replace e10 := Kw14.cell (by first | (left; omega) | (right; omega)) e10
  replace e11 := Kw14.cell (by first | (left; omega) | (right; omega)) e11
  replace e12 := Kw14.cell (by first | (left; omega) | (right; omega)) e12
  replace oW := oW.chgB Kw14 (fun hn g hg => Nat.lt_of_lt_of_le (bW hn g hg) (by omega))
  replace op1 := op1.chg Kw14 (by omega)
  replace or1 := or1.chg Kw14 (by omega)
  replace oG := oG.chg Kw14 (by omega)
  have z28 : w.heap.size < w14.heap.size := World.block_lt_of_cell? _ _ c00
  have z29 : w.heap.size + 1 < w14.heap.size := World.block_lt_of_cell? _ _ c10
  have z30 : w6.heap.size < w14.heap.size := World.block_lt_of_cell? _ _ e00
  have z31 : w7.heap.size < w14.heap.size := World.block_lt_of_cell? _ _ e10
  clear op0 or0
  go_wp2_with fail
  refine (markView_c b1 _ _ s1 t1 (1 + s0.length + t0.length) _ (w6.heap.size + 1) (w7.heap.size) (op1.ext (by repeat (first | exact Ext.refl _ | assumption | apply Ext.drewN | apply Ext.drew | apply Ext.alloc))) (or1.ext (by repeat (first | exact Ext.refl _ | assumption | apply Ext.drewN | apply Ext.drew | apply Ext.alloc))) hd1 bp1 br1 (Nat.le_trans (by omega) (Ext.size (show Ext w14 _ from (by repeat (first | exact Ext.refl _ | assumption | apply Ext.drewN | apply Ext.drew | apply Ext.alloc))))) (by omega) (by omega) (by omega) (by omega)).mono ?_
  rintro e w15 ⟨rfl, -, -, kw15⟩
  have Kw15 : Chg (w6.heap.size + 1) (w7.heap.size) w14 w15 := (Chg.of_ext (by repeat (first | exact Ext.refl _ | assumption | apply Ext.drewN | apply Ext.drew | apply Ext.alloc))).trans kw15
  have sw15 : w14.heap.size ≤ w15.heap.size := Kw15.size
  have Xw15 : Ext w w15 := Xw14.chg Kw15 (by omega)
  replace c00 := Kw15.cell (by first | (left; omega) | (right; omega)) c00
  replace c01 := Kw15.cell (by first | (left; omega) | (right; omega)) c01
  replace c02 := Kw15.cell (by first | (left; omega) | (right; omega)) c02
  replace c10 := Kw15.cell (by first | (left; omega) | (right; omega)) c10
  replace c11 := Kw15.cell (by first | (left; omega) | (right; omega)) c11
  replace c12 := Kw15.cell (by first | (left; omega) | (right; omega)) c12
  replace e00 := Kw15.cell (by first | (left; omega) | (right; omega)) e00
  replace e01 := Kw15.cell (by first | (left; omega) | (right; omega)) e01
  replace e02 := Kw15.cell (by first | (left; omega) | (right; omega)) e02
  replace e10 := Kw15.cell (by first | (left; omega) | (right; omega)) e10
  replace e11 := Kw15.cell (by first | (left; omega) | (right; omega)) e11
  replace e12 := Kw15.cell (by first | (left; omega) | (right; omega)) e12
  replace oW := oW.chgB Kw15 (fun hn g hg => Nat.lt_of_lt_of_le (bW hn g hg) (by omega))
  replace oG := oG.chg Kw15 (by omega)
  have z32 : w.heap.size < w15.heap.size := World.block_lt_of_cell? _ _ c00
  have z33 : w.heap.size + 1 < w15.heap.size := World.block_lt_of_cell? _ _ c10
  have z34 : w6.heap.size < w15.heap.size := World.block_lt_of_cell? _ _ e00
  have z35 : w7.heap.size < w15.heap.size := World.block_lt_of_cell? _ _ e10
  clear op1 or1
  go_wp2_with fail
  refine (eqIntS_x (overA b0 s0 t0 b1 s1 t1) _ _ _ _ _ ((oG.ints nW).ext (by repeat (first | exact Ext.refl _ | assumption | apply Ext.drewN | apply Ext.drew | apply Ext.alloc))) ((oW.ints nW).ext (by repeat (first | exact Ext.refl _ | assumption | apply Ext.drewN | apply Ext.drew | apply Ext.alloc)))).mono ?_
  rintro e w16 ⟨rfl, xw16⟩
  have Lw16 : Ext w15 w16 := Ext.trans (by repeat (first | exact Ext.refl _ | assumption | apply Ext.drewN | apply Ext.drew | apply Ext.alloc)) xw16
  have Xw16 : Ext w w16 := Xw15.trans Lw16
  replace c00 := Lw16.cell c00
  replace c01 := Lw16.cell c01
  replace c02 := Lw16.cell c02
  replace c10 := Lw16.cell c10
  replace c11 := Lw16.cell c11
  replace c12 := Lw16.cell c12
  replace e00 := Lw16.cell e00
  replace e01 := Lw16.cell e01
  replace e02 := Lw16.cell e02
  replace e10 := Lw16.cell e10
  replace e11 := Lw16.cell e11
  replace e12 := Lw16.cell e12
  replace oW := oW.ext Lw16
  replace oG := oG.ext Lw16
  have z36 : w.heap.size < w16.heap.size := World.block_lt_of_cell? _ _ c00
  have z37 : w.heap.size + 1 < w16.heap.size := World.block_lt_of_cell? _ _ c10
  have z38 : w6.heap.size < w16.heap.size := World.block_lt_of_cell? _ _ e00
  have z39 : w7.heap.size < w16.heap.size := World.block_lt_of_cell? _ _ e10
  have sw16 : w15.heap.size ≤ w16.heap.size := Lw16.size
  go_wp2_with fail
  refine (markZ_c (overA b0 s0 t0 b1 s1 t1) _ 1 _ (w7.heap.size + 1) (w8.heap.size) (oG.ext (by repeat (first | exact Ext.refl _ | assumption | apply Ext.drewN | apply Ext.drew | apply Ext.alloc))) bG nW (by omega) (by omega)).mono ?_
  rintro e w17 ⟨rfl, oH, kw17, -, -⟩
  have Kw17 : Chg (w7.heap.size + 1) (w8.heap.size) w16 w17 := (Chg.of_ext (by repeat (first | exact Ext.refl _ | assumption | apply Ext.drewN | apply Ext.drew | apply Ext.alloc))).trans kw17
  have sw17 : w16.heap.size ≤ w17.heap.size := Kw17.size
  have Xw17 : Ext w w17 := Xw16.chg Kw17 (by omega)
  replace c00 := Kw17.cell (by first | (left; omega) | (right; omega)) c00
  replace c01 := Kw17.cell (by first | (left; omega) | (right; omega)) c01
  replace c02 := Kw17.cell (by first | (left; omega) | (right; omega)) c02
  replace c10 := Kw17.cell (by first | (left; omega) | (right; omega)) c10
  replace c11 := Kw17.cell (by first | (left; omega) | (right; omega)) c11
  replace c12 := Kw17.cell (by first | (left; omega) | (right; omega)) c12
  replace e00 := Kw17.cell (by first | (left; omega) | (right; omega)) e00
  replace e01 := Kw17.cell (by first | (left; omega) | (right; omega)) e01
  replace e02 := Kw17.cell (by first | (left; omega) | (right; omega)) e02
  replace e10 := Kw17.cell (by first | (left; omega) | (right; omega)) e10
  replace e11 := Kw17.cell (by first | (left; omega) | (right; omega)) e11
  replace e12 := Kw17.cell (by first | (left; omega) | (right; omega)) e12
  replace oW := oW.chgB Kw17 (fun hn g hg => Nat.lt_of_lt_of_le (bW hn g hg) (by omega))
  have z40 : w.heap.size < w17.heap.size := World.block_lt_of_cell? _ _ c00
  have z41 : w.heap.size + 1 < w17.heap.size := World.block_lt_of_cell? _ _ c10
  have z42 : w6.heap.size < w17.heap.size := World.block_lt_of_cell? _ _ e00
  have z43 : w7.heap.size < w17.heap.size := World.block_lt_of_cell? _ _ e10
  clear oG
  have nH : (ksL 1 (overA b0 s0 t0 b1 s1 t1).length).length ≤ 4194304 := by rw [ksL_len]; exact nW
  go_wp2_with fail
  refine (heldIntS_c (overA b0 s0 t0 b1 s1 t1).length _ 1 _ _ ((oH.ints nH).ext (by repeat (first | exact Ext.refl _ | assumption | apply Ext.drewN | apply Ext.drew | apply Ext.alloc))) (by omega) (by omega)).mono ?_
  rintro e w' ⟨rfl, rfl⟩
  go_wp2_with fail
  go_region_held3 (fun w' => w'.cell? ⟨w.heap.size, 0, none⟩ = some (.int .i64 b0) ∧ w'.cell? ⟨w.heap.size, 1, none⟩ = some (.slice a0 s0.length f0) ∧ w'.cell? ⟨w.heap.size, 2, none⟩ = some (.slice d0 t0.length g0) ∧ w'.cell? ⟨w.heap.size + 1, 0, none⟩ = some (.int .i64 b1) ∧ w'.cell? ⟨w.heap.size + 1, 1, none⟩ = some (.slice a1 s1.length f1) ∧ w'.cell? ⟨w.heap.size + 1, 2, none⟩ = some (.slice d1 t1.length g1) ∧ w'.cell? ⟨w6.heap.size, 0, none⟩ = some (.int .i64 b0) ∧ w'.cell? ⟨w6.heap.size, 1, none⟩ = some (.slice P0 s0.length Q0) ∧ w'.cell? ⟨w6.heap.size, 2, none⟩ = some (.slice P0' t0.length Q0') ∧ w'.cell? ⟨w7.heap.size, 0, none⟩ = some (.int .i64 b1) ∧ w'.cell? ⟨w7.heap.size, 1, none⟩ = some (.slice P1 s1.length Q1) ∧ w'.cell? ⟨w7.heap.size, 2, none⟩ = some (.slice P1' t1.length Q1'))
    (first
      | go_keep
      | exact ⟨Yw20.cell c00, Yw20.cell c01, Yw20.cell c02, Yw20.cell c10, Yw20.cell c11, Yw20.cell c12, Yw20.cell e00, Yw20.cell e01, Yw20.cell e02, Yw20.cell e10, Yw20.cell e11, Yw20.cell e12⟩
      | exact ⟨Yw19.cell c00, Yw19.cell c01, Yw19.cell c02, Yw19.cell c10, Yw19.cell c11, Yw19.cell c12, Yw19.cell e00, Yw19.cell e01, Yw19.cell e02, Yw19.cell e10, Yw19.cell e11, Yw19.cell e12⟩
      | exact ⟨Yw18.cell c00, Yw18.cell c01, Yw18.cell c02, Yw18.cell c10, Yw18.cell c11, Yw18.cell c12, Yw18.cell e00, Yw18.cell e01, Yw18.cell e02, Yw18.cell e10, Yw18.cell e11, Yw18.cell e12⟩)
    (first
      | (go_at_call 92; refine (implOverlapOf_c b0 _ _ s0 t0 b1 _ _ s1 t1 _ _ _ _ _ (iuH00.ext (by repeat (first | exact Ext.refl _ | assumption | apply Ext.drewN | apply Ext.drew | apply Ext.alloc))) (ivH00.ext (by repeat (first | exact Ext.refl _ | assumption | apply Ext.drewN | apply Ext.drew | apply Ext.alloc))) (iuH01.ext (by repeat (first | exact Ext.refl _ | assumption | apply Ext.drewN | apply Ext.drew | apply Ext.alloc))) (ivH01.ext (by repeat (first | exact Ext.refl _ | assumption | apply Ext.drewN | apply Ext.drew | apply Ext.alloc)))).mono ?_; rintro e w20 ⟨H0, rfl, iH0, oH0, xw20⟩; have Yw20 : Ext w17 w20 := Yw19.trans (Ext.trans (by repeat (first | exact Ext.refl _ | assumption | apply Ext.drewN | apply Ext.drew | apply Ext.alloc)) xw20); replace iuH00 := iuH00.ext (Ext.trans (by repeat (first | exact Ext.refl _ | assumption | apply Ext.drewN | apply Ext.drew | apply Ext.alloc)) xw20); replace ivH00 := ivH00.ext (Ext.trans (by repeat (first | exact Ext.refl _ | assumption | apply Ext.drewN | apply Ext.drew | apply Ext.alloc)) xw20); replace iuH01 := iuH01.ext (Ext.trans (by repeat (first | exact Ext.refl _ | assumption | apply Ext.drewN | apply Ext.drew | apply Ext.alloc)) xw20); replace ivH01 := ivH01.ext (Ext.trans (by repeat (first | exact Ext.refl _ | assumption | apply Ext.drewN | apply Ext.drew | apply Ext.alloc)) xw20))
      | (go_at_call 29; refine (toView_c b1 _ _ s1 t1 _ (h1.ext (Xw17.trans (Yw18.trans (by repeat (first | exact Ext.refl _ | assumption | apply Ext.drewN | apply Ext.drew | apply Ext.alloc))))) (k1.ext (Xw17.trans (Yw18.trans (by repeat (first | exact Ext.refl _ | assumption | apply Ext.drewN | apply Ext.drew | apply Ext.alloc))))) (by omega) (by omega)).mono ?_; rintro e w19 ⟨uH01, vH01, rfl, iuH01, ivH01, ouH01, ovH01, hdH01, xw19⟩; have Yw19 : Ext w17 w19 := Yw18.trans (Ext.trans (by repeat (first | exact Ext.refl _ | assumption | apply Ext.drewN | apply Ext.drew | apply Ext.alloc)) xw19); replace iuH00 := iuH00.ext (Ext.trans (by repeat (first | exact Ext.refl _ | assumption | apply Ext.drewN | apply Ext.drew | apply Ext.alloc)) xw19); replace ivH00 := ivH00.ext (Ext.trans (by repeat (first | exact Ext.refl _ | assumption | apply Ext.drewN | apply Ext.drew | apply Ext.alloc)) xw19))
      | (go_at_call 29; refine (toView_c b0 _ _ s0 t0 _ (h0.ext (Xw17.trans (by repeat (first | exact Ext.refl _ | assumption | apply Ext.drewN | apply Ext.drew | apply Ext.alloc)))) (k0.ext (Xw17.trans (by repeat (first | exact Ext.refl _ | assumption | apply Ext.drewN | apply Ext.drew | apply Ext.alloc)))) (by omega) (by omega)).mono ?_; rintro e w18 ⟨uH00, vH00, rfl, iuH00, ivH00, ouH00, ovH00, hdH00, xw18⟩; have Yw18 : Ext w17 w18 := Ext.trans (by repeat (first | exact Ext.refl _ | assumption | apply Ext.drewN | apply Ext.drew | apply Ext.alloc)) xw18))
  have Lw20 : Ext w17 w20 := Yw20
  have Xw20 : Ext w w20 := Xw17.trans Lw20
  replace c00 := Lw20.cell c00
  replace c01 := Lw20.cell c01
  replace c02 := Lw20.cell c02
  replace c10 := Lw20.cell c10
  replace c11 := Lw20.cell c11
  replace c12 := Lw20.cell c12
  replace e00 := Lw20.cell e00
  replace e01 := Lw20.cell e01
  replace e02 := Lw20.cell e02
  replace e10 := Lw20.cell e10
  replace e11 := Lw20.cell e11
  replace e12 := Lw20.cell e12
  replace oW := oW.ext Lw20
  replace oH := oH.ext Lw20
  have z44 : w.heap.size < w20.heap.size := World.block_lt_of_cell? _ _ c00
  have z45 : w.heap.size + 1 < w20.heap.size := World.block_lt_of_cell? _ _ c10
  have z46 : w6.heap.size < w20.heap.size := World.block_lt_of_cell? _ _ e00
  have z47 : w7.heap.size < w20.heap.size := World.block_lt_of_cell? _ _ e10
  have sw20 : w17.heap.size ≤ w20.heap.size := Lw20.size
  have nH0 := iH0.len
  have bH0 := oH0.bound
  clear iH0
  go_wp2_with fail
  refine (eqIntS_x (overA b0 s0 t0 b1 s1 t1) _ _ _ _ _ ((oH0.ints nW).ext (by repeat (first | exact Ext.refl _ | assumption | apply Ext.drewN | apply Ext.drew | apply Ext.alloc))) ((oW.ints nW).ext (by repeat (first | exact Ext.refl _ | assumption | apply Ext.drewN | apply Ext.drew | apply Ext.alloc)))).mono ?_
  rintro e w21 ⟨rfl, xw21⟩
  have Lw21 : Ext w20 w21 := Ext.trans (by repeat (first | exact Ext.refl _ | assumption | apply Ext.drewN | apply Ext.drew | apply Ext.alloc)) xw21
  have Xw21 : Ext w w21 := Xw20.trans Lw21
  replace c00 := Lw21.cell c00
  replace c01 := Lw21.cell c01
  replace c02 := Lw21.cell c02
  replace c10 := Lw21.cell c10
  replace c11 := Lw21.cell c11
  replace c12 := Lw21.cell c12
  replace e00 := Lw21.cell e00
  replace e01 := Lw21.cell e01
  replace e02 := Lw21.cell e02
  replace e10 := Lw21.cell e10
  replace e11 := Lw21.cell e11
  replace e12 := Lw21.cell e12
  replace oW := oW.ext Lw21
  replace oH := oH.ext Lw21
  replace oH0 := oH0.ext Lw21
  have z48 : w.heap.size < w21.heap.size := World.block_lt_of_cell? _ _ c00
  have z49 : w.heap.size + 1 < w21.heap.size := World.block_lt_of_cell? _ _ c10
  have z50 : w6.heap.size < w21.heap.size := World.block_lt_of_cell? _ _ e00
  have z51 : w7.heap.size < w21.heap.size := World.block_lt_of_cell? _ _ e10
  have sw21 : w20.heap.size ≤ w21.heap.size := Lw21.size
  go_wp2_with fail
  refine (heldIntS_c (overA b0 s0 t0 b1 s1 t1).length _ 1 _ _ ((oH.ints nH).ext (by repeat (first | exact Ext.refl _ | assumption | apply Ext.drewN | apply Ext.drew | apply Ext.alloc))) (by omega) (by omega)).mono ?_
  rintro e w' ⟨rfl, rfl⟩
  go_wp2_with fail
  go_ret
  exact ⟨rfl, Xw21.trans (by repeat (first | exact Ext.refl _ | assumption | apply Ext.drewN | apply Ext.drew | apply Ext.alloc))⟩

end Go.Proofs.Ytfdpoepidlmbaaa
