/- FnExactWitnessOf returns true for all arguments: no condition. -/
import Derived.Test.YtfdpoepidlmbaaaExH
import Derived.Test.YtfdpoepidlmbaaaLwD
namespace Go.Proofs.Ytfdpoepidlmbaaa
open Go.RowKit
set_option linter.unusedVariables false
set_option maxRecDepth 100000

set_option maxHeartbeats 6400000 in
theorem lawWitnessOf_c (b0 : Int) (a0 d0 : Option Addr) (f0 g0 : Nat) (s0 t0 : List Int) (b1 : Int) (a1 d1 : Option Addr) (f1 g1 : Nat) (s1 t1 : List Int) (w : World) (h0 : Raw w (.slice a0 s0.length f0) s0) (k0 : Raw w (.slice d0 t0.length g0) t0) (n0 : s0.length ≤ maxLen) (m0 : t0.length ≤ maxLen) (h1 : Raw w (.slice a1 s1.length f1) s1) (k1 : Raw w (.slice d1 t1.length g1) t1) (n1 : s1.length ≤ maxLen) (m1 : t1.length ≤ maxLen) :
    Calls Try.prog 16 #[.agg #[.int .i64 b0, .slice a0 s0.length f0, .slice d0 t0.length g0], .agg #[.int .i64 b1, .slice a1 s1.length f1, .slice d1 t1.length g1]] w fun e w' => e = .returned (.bool true) ∧ Ext w w' := by
  by_cases q0 : szV 1048576 s0.length t0.length < 0
  · go_enter Try.func16, Try.ntmps16
    go_wp2_with fail
    refine (szView_c b0 a0 d0 _ f0 _ g0 (1048576) _ (by omega) (by omega) n0 m0).mono ?_
    rintro e w1 ⟨rfl, xw1⟩
    have Lw1 : Ext w w1 := Ext.trans (by repeat (first | exact Ext.refl _ | assumption | apply Ext.drewN | apply Ext.drew | apply Ext.alloc)) xw1
    have Xw1 : Ext w w1 := Lw1
    have c00 : w1.cell? ⟨w.heap.size, 0, none⟩ = some (.int .i64 b0) := xw1.cell (by first | (simp; done) | (rw [World.cell?_alloc_lt _ _ _ (by simp)]; simp; done) | (go_simp; done))
    have c01 : w1.cell? ⟨w.heap.size, 1, none⟩ = some (.slice a0 s0.length f0) := xw1.cell (by first | (simp; done) | (rw [World.cell?_alloc_lt _ _ _ (by simp)]; simp; done) | (go_simp; done))
    have c02 : w1.cell? ⟨w.heap.size, 2, none⟩ = some (.slice d0 t0.length g0) := xw1.cell (by first | (simp; done) | (rw [World.cell?_alloc_lt _ _ _ (by simp)]; simp; done) | (go_simp; done))
    have c10 : w1.cell? ⟨w.heap.size + 1, 0, none⟩ = some (.int .i64 b1) := xw1.cell (by first | (simp; done) | (rw [World.cell?_alloc_lt _ _ _ (by simp)]; simp; done) | (go_simp; done))
    have c11 : w1.cell? ⟨w.heap.size + 1, 1, none⟩ = some (.slice a1 s1.length f1) := xw1.cell (by first | (simp; done) | (rw [World.cell?_alloc_lt _ _ _ (by simp)]; simp; done) | (go_simp; done))
    have c12 : w1.cell? ⟨w.heap.size + 1, 2, none⟩ = some (.slice d1 t1.length g1) := xw1.cell (by first | (simp; done) | (rw [World.cell?_alloc_lt _ _ _ (by simp)]; simp; done) | (go_simp; done))
    have z1 : w.heap.size < w1.heap.size := World.block_lt_of_cell? _ _ c00
    have z2 : w.heap.size + 1 < w1.heap.size := World.block_lt_of_cell? _ _ c10
    go_wp2_with fail
    go_ret
    exact ⟨rfl, Xw1.trans (by repeat (first | exact Ext.refl _ | assumption | apply Ext.drewN | apply Ext.drew | apply Ext.alloc))⟩
  have y0 := szV_ge (by omega) q0
  by_cases q1 : szV (1048576 - (s0.length : Int) - t0.length) s1.length t1.length < 0
  · go_enter Try.func16, Try.ntmps16
    go_wp2_with fail
    refine (szView_c b0 a0 d0 _ f0 _ g0 (1048576) _ (by omega) (by omega) n0 m0).mono ?_
    rintro e w1 ⟨rfl, xw1⟩
    have Lw1 : Ext w w1 := Ext.trans (by repeat (first | exact Ext.refl _ | assumption | apply Ext.drewN | apply Ext.drew | apply Ext.alloc)) xw1
    have Xw1 : Ext w w1 := Lw1
    have c00 : w1.cell? ⟨w.heap.size, 0, none⟩ = some (.int .i64 b0) := xw1.cell (by first | (simp; done) | (rw [World.cell?_alloc_lt _ _ _ (by simp)]; simp; done) | (go_simp; done))
    have c01 : w1.cell? ⟨w.heap.size, 1, none⟩ = some (.slice a0 s0.length f0) := xw1.cell (by first | (simp; done) | (rw [World.cell?_alloc_lt _ _ _ (by simp)]; simp; done) | (go_simp; done))
    have c02 : w1.cell? ⟨w.heap.size, 2, none⟩ = some (.slice d0 t0.length g0) := xw1.cell (by first | (simp; done) | (rw [World.cell?_alloc_lt _ _ _ (by simp)]; simp; done) | (go_simp; done))
    have c10 : w1.cell? ⟨w.heap.size + 1, 0, none⟩ = some (.int .i64 b1) := xw1.cell (by first | (simp; done) | (rw [World.cell?_alloc_lt _ _ _ (by simp)]; simp; done) | (go_simp; done))
    have c11 : w1.cell? ⟨w.heap.size + 1, 1, none⟩ = some (.slice a1 s1.length f1) := xw1.cell (by first | (simp; done) | (rw [World.cell?_alloc_lt _ _ _ (by simp)]; simp; done) | (go_simp; done))
    have c12 : w1.cell? ⟨w.heap.size + 1, 2, none⟩ = some (.slice d1 t1.length g1) := xw1.cell (by first | (simp; done) | (rw [World.cell?_alloc_lt _ _ _ (by simp)]; simp; done) | (go_simp; done))
    have z1 : w.heap.size < w1.heap.size := World.block_lt_of_cell? _ _ c00
    have z2 : w.heap.size + 1 < w1.heap.size := World.block_lt_of_cell? _ _ c10
    go_wp2_with fail
    refine (szView_c b1 a1 d1 _ f1 _ g1 (1048576 - (s0.length : Int) - t0.length) _ (by omega) (by omega) n1 m1).mono ?_
    rintro e w2 ⟨rfl, xw2⟩
    have Lw2 : Ext w1 w2 := Ext.trans (by repeat (first | exact Ext.refl _ | assumption | apply Ext.drewN | apply Ext.drew | apply Ext.alloc)) xw2
    have Xw2 : Ext w w2 := Xw1.trans Lw2
    replace c00 := Lw2.cell c00
    replace c01 := Lw2.cell c01
    replace c02 := Lw2.cell c02
    replace c10 := Lw2.cell c10
    replace c11 := Lw2.cell c11
    replace c12 := Lw2.cell c12
    have z3 : w.heap.size < w2.heap.size := World.block_lt_of_cell? _ _ c00
    have z4 : w.heap.size + 1 < w2.heap.size := World.block_lt_of_cell? _ _ c10
    have sw2 : w1.heap.size ≤ w2.heap.size := Lw2.size
    go_wp2_with fail
    go_ret
    exact ⟨rfl, Xw2.trans (by repeat (first | exact Ext.refl _ | assumption | apply Ext.drewN | apply Ext.drew | apply Ext.alloc))⟩
  have y1 := szV_ge (by omega) q1
  go_enter Try.func16, Try.ntmps16
  go_wp2_with fail
  refine (szView_c b0 a0 d0 _ f0 _ g0 (1048576) _ (by omega) (by omega) n0 m0).mono ?_
  rintro e w1 ⟨rfl, xw1⟩
  have Lw1 : Ext w w1 := Ext.trans (by repeat (first | exact Ext.refl _ | assumption | apply Ext.drewN | apply Ext.drew | apply Ext.alloc)) xw1
  have Xw1 : Ext w w1 := Lw1
  have c00 : w1.cell? ⟨w.heap.size, 0, none⟩ = some (.int .i64 b0) := xw1.cell (by first | (simp; done) | (rw [World.cell?_alloc_lt _ _ _ (by simp)]; simp; done) | (go_simp; done))
  have c01 : w1.cell? ⟨w.heap.size, 1, none⟩ = some (.slice a0 s0.length f0) := xw1.cell (by first | (simp; done) | (rw [World.cell?_alloc_lt _ _ _ (by simp)]; simp; done) | (go_simp; done))
  have c02 : w1.cell? ⟨w.heap.size, 2, none⟩ = some (.slice d0 t0.length g0) := xw1.cell (by first | (simp; done) | (rw [World.cell?_alloc_lt _ _ _ (by simp)]; simp; done) | (go_simp; done))
  have c10 : w1.cell? ⟨w.heap.size + 1, 0, none⟩ = some (.int .i64 b1) := xw1.cell (by first | (simp; done) | (rw [World.cell?_alloc_lt _ _ _ (by simp)]; simp; done) | (go_simp; done))
  have c11 : w1.cell? ⟨w.heap.size + 1, 1, none⟩ = some (.slice a1 s1.length f1) := xw1.cell (by first | (simp; done) | (rw [World.cell?_alloc_lt _ _ _ (by simp)]; simp; done) | (go_simp; done))
  have c12 : w1.cell? ⟨w.heap.size + 1, 2, none⟩ = some (.slice d1 t1.length g1) := xw1.cell (by first | (simp; done) | (rw [World.cell?_alloc_lt _ _ _ (by simp)]; simp; done) | (go_simp; done))
  have z1 : w.heap.size < w1.heap.size := World.block_lt_of_cell? _ _ c00
  have z2 : w.heap.size + 1 < w1.heap.size := World.block_lt_of_cell? _ _ c10
  go_wp2_with fail
  refine (szView_c b1 a1 d1 _ f1 _ g1 (1048576 - (s0.length : Int) - t0.length) _ (by omega) (by omega) n1 m1).mono ?_
  rintro e w2 ⟨rfl, xw2⟩
  have Lw2 : Ext w1 w2 := Ext.trans (by repeat (first | exact Ext.refl _ | assumption | apply Ext.drewN | apply Ext.drew | apply Ext.alloc)) xw2
  have Xw2 : Ext w w2 := Xw1.trans Lw2
  replace c00 := Lw2.cell c00
  replace c01 := Lw2.cell c01
  replace c02 := Lw2.cell c02
  replace c10 := Lw2.cell c10
  replace c11 := Lw2.cell c11
  replace c12 := Lw2.cell c12
  have z3 : w.heap.size < w2.heap.size := World.block_lt_of_cell? _ _ c00
  have z4 : w.heap.size + 1 < w2.heap.size := World.block_lt_of_cell? _ _ c10
  have sw2 : w1.heap.size ≤ w2.heap.size := Lw2.size
  go_wp2_with fail
  go_region_held3 (fun w' => w'.cell? ⟨w.heap.size, 0, none⟩ = some (.int .i64 b0) ∧ w'.cell? ⟨w.heap.size, 1, none⟩ = some (.slice a0 s0.length f0) ∧ w'.cell? ⟨w.heap.size, 2, none⟩ = some (.slice d0 t0.length g0) ∧ w'.cell? ⟨w.heap.size + 1, 0, none⟩ = some (.int .i64 b1) ∧ w'.cell? ⟨w.heap.size + 1, 1, none⟩ = some (.slice a1 s1.length f1) ∧ w'.cell? ⟨w.heap.size + 1, 2, none⟩ = some (.slice d1 t1.length g1))
    (first
      | go_keep
      | exact ⟨Yw5.cell c00, Yw5.cell c01, Yw5.cell c02, Yw5.cell c10, Yw5.cell c11, Yw5.cell c12⟩
      | exact ⟨Yw4.cell c00, Yw4.cell c01, Yw4.cell c02, Yw4.cell c10, Yw4.cell c11, Yw4.cell c12⟩
      | exact ⟨Yw3.cell c00, Yw3.cell c01, Yw3.cell c02, Yw3.cell c10, Yw3.cell c11, Yw3.cell c12⟩)
    (first
      | (go_at_call 75; refine (specWitnessOf_c b0 _ _ s0 t0 b1 _ _ s1 t1 _ _ _ _ _ (iuW0.ext (by repeat (first | exact Ext.refl _ | assumption | apply Ext.drewN | apply Ext.drew | apply Ext.alloc))) (ivW0.ext (by repeat (first | exact Ext.refl _ | assumption | apply Ext.drewN | apply Ext.drew | apply Ext.alloc))) (iuW1.ext (by repeat (first | exact Ext.refl _ | assumption | apply Ext.drewN | apply Ext.drew | apply Ext.alloc))) (ivW1.ext (by repeat (first | exact Ext.refl _ | assumption | apply Ext.drewN | apply Ext.drew | apply Ext.alloc)))).mono ?_; rintro e w5 ⟨rfl, xw5⟩; have Yw5 : Ext w2 w5 := Yw4.trans (Ext.trans (by repeat (first | exact Ext.refl _ | assumption | apply Ext.drewN | apply Ext.drew | apply Ext.alloc)) xw5); replace iuW0 := iuW0.ext (Ext.trans (by repeat (first | exact Ext.refl _ | assumption | apply Ext.drewN | apply Ext.drew | apply Ext.alloc)) xw5); replace ivW0 := ivW0.ext (Ext.trans (by repeat (first | exact Ext.refl _ | assumption | apply Ext.drewN | apply Ext.drew | apply Ext.alloc)) xw5); replace iuW1 := iuW1.ext (Ext.trans (by repeat (first | exact Ext.refl _ | assumption | apply Ext.drewN | apply Ext.drew | apply Ext.alloc)) xw5); replace ivW1 := ivW1.ext (Ext.trans (by repeat (first | exact Ext.refl _ | assumption | apply Ext.drewN | apply Ext.drew | apply Ext.alloc)) xw5))
      | (go_at_call 29; refine (toView_c b1 _ _ s1 t1 _ (h1.ext (Xw2.trans (Yw3.trans (by repeat (first | exact Ext.refl _ | assumption | apply Ext.drewN | apply Ext.drew | apply Ext.alloc))))) (k1.ext (Xw2.trans (Yw3.trans (by repeat (first | exact Ext.refl _ | assumption | apply Ext.drewN | apply Ext.drew | apply Ext.alloc))))) (by omega) (by omega)).mono ?_; rintro e w4 ⟨uW1, vW1, rfl, iuW1, ivW1, ouW1, ovW1, hdW1, xw4⟩; have Yw4 : Ext w2 w4 := Yw3.trans (Ext.trans (by repeat (first | exact Ext.refl _ | assumption | apply Ext.drewN | apply Ext.drew | apply Ext.alloc)) xw4); replace iuW0 := iuW0.ext (Ext.trans (by repeat (first | exact Ext.refl _ | assumption | apply Ext.drewN | apply Ext.drew | apply Ext.alloc)) xw4); replace ivW0 := ivW0.ext (Ext.trans (by repeat (first | exact Ext.refl _ | assumption | apply Ext.drewN | apply Ext.drew | apply Ext.alloc)) xw4))
      | (go_at_call 29; refine (toView_c b0 _ _ s0 t0 _ (h0.ext (Xw2.trans (by repeat (first | exact Ext.refl _ | assumption | apply Ext.drewN | apply Ext.drew | apply Ext.alloc)))) (k0.ext (Xw2.trans (by repeat (first | exact Ext.refl _ | assumption | apply Ext.drewN | apply Ext.drew | apply Ext.alloc)))) (by omega) (by omega)).mono ?_; rintro e w3 ⟨uW0, vW0, rfl, iuW0, ivW0, ouW0, ovW0, hdW0, xw3⟩; have Yw3 : Ext w2 w3 := Ext.trans (by repeat (first | exact Ext.refl _ | assumption | apply Ext.drewN | apply Ext.drew | apply Ext.alloc)) xw3))
  have Lw5 : Ext w2 w5 := Yw5
  have Xw5 : Ext w w5 := Xw2.trans Lw5
  replace c00 := Lw5.cell c00
  replace c01 := Lw5.cell c01
  replace c02 := Lw5.cell c02
  replace c10 := Lw5.cell c10
  replace c11 := Lw5.cell c11
  replace c12 := Lw5.cell c12
  have z5 : w.heap.size < w5.heap.size := World.block_lt_of_cell? _ _ c00
  have z6 : w.heap.size + 1 < w5.heap.size := World.block_lt_of_cell? _ _ c10
  have sw5 : w2.heap.size ≤ w5.heap.size := Lw5.size
  go_wp2_with fail
  refine (toView_c b0 _ _ s0 t0 _ (h0.ext (Xw5.trans (by repeat (first | exact Ext.refl _ | assumption | apply Ext.drewN | apply Ext.drew | apply Ext.alloc)))) (k0.ext (Xw5.trans (by repeat (first | exact Ext.refl _ | assumption | apply Ext.drewN | apply Ext.drew | apply Ext.alloc)))) (by omega) (by omega)).mono ?_
  rintro e w6 ⟨p0, r0, rfl, ip0, ir0, op0, or0, hd0, xw6⟩
  replace op0 := op0.lower (base' := w5.heap.size) (by first | (simp; done) | exact Ext.size (by repeat (first | exact Ext.refl _ | assumption | apply Ext.drewN | apply Ext.drew | apply Ext.alloc)))
  replace or0 := or0.lower (base' := w5.heap.size) (by first | (simp; done) | exact Ext.size (by repeat (first | exact Ext.refl _ | assumption | apply Ext.drewN | apply Ext.drew | apply Ext.alloc)))
  have Lw6 : Ext w5 w6 := Ext.trans (by repeat (first | exact Ext.refl _ | assumption | apply Ext.drewN | apply Ext.drew | apply Ext.alloc)) xw6
  have Xw6 : Ext w w6 := Xw5.trans Lw6
  replace c00 := Lw6.cell c00
  replace c01 := Lw6.cell c01
  replace c02 := Lw6.cell c02
  replace c10 := Lw6.cell c10
  replace c11 := Lw6.cell c11
  replace c12 := Lw6.cell c12
  have z7 : w.heap.size < w6.heap.size := World.block_lt_of_cell? _ _ c00
  have z8 : w.heap.size + 1 < w6.heap.size := World.block_lt_of_cell? _ _ c10
  have sw6 : w5.heap.size ≤ w6.heap.size := Lw6.size
  have bp0 := op0.bound
  have br0 := or0.bound
  obtain ⟨P0, Q0, rfl⟩ := ip0.form
  obtain ⟨P0', Q0', rfl⟩ := ir0.form
  clear ip0 ir0
  go_wp2_with fail
  refine (toView_c b1 _ _ s1 t1 _ (h1.ext (Xw6.trans (by repeat (first | exact Ext.refl _ | assumption | apply Ext.drewN | apply Ext.drew | apply Ext.alloc)))) (k1.ext (Xw6.trans (by repeat (first | exact Ext.refl _ | assumption | apply Ext.drewN | apply Ext.drew | apply Ext.alloc)))) (by omega) (by omega)).mono ?_
  rintro e w7 ⟨p1, r1, rfl, ip1, ir1, op1, or1, hd1, xw7⟩
  replace op1 := op1.lower (base' := w6.heap.size + 1) (by first | (simp; done) | exact Ext.size (by repeat (first | exact Ext.refl _ | assumption | apply Ext.drewN | apply Ext.drew | apply Ext.alloc)))
  replace or1 := or1.lower (base' := w6.heap.size + 1) (by first | (simp; done) | exact Ext.size (by repeat (first | exact Ext.refl _ | assumption | apply Ext.drewN | apply Ext.drew | apply Ext.alloc)))
  have Lw7 : Ext w6 w7 := Ext.trans (by repeat (first | exact Ext.refl _ | assumption | apply Ext.drewN | apply Ext.drew | apply Ext.alloc)) xw7
  have Xw7 : Ext w w7 := Xw6.trans Lw7
  replace c00 := Lw7.cell c00
  replace c01 := Lw7.cell c01
  replace c02 := Lw7.cell c02
  replace c10 := Lw7.cell c10
  replace c11 := Lw7.cell c11
  replace c12 := Lw7.cell c12
  replace op0 := op0.ext Lw7
  replace or0 := or0.ext Lw7
  have e00 : w7.cell? ⟨w6.heap.size, 0, none⟩ = some (.int .i64 b0) := xw7.cell (by first | (simp; done) | (rw [World.cell?_alloc_lt _ _ _ (by simp)]; simp; done) | (go_simp; done))
  have e01 : w7.cell? ⟨w6.heap.size, 1, none⟩ = some (.slice P0 s0.length Q0) := xw7.cell (by first | (simp; done) | (rw [World.cell?_alloc_lt _ _ _ (by simp)]; simp; done) | (go_simp; done))
  have e02 : w7.cell? ⟨w6.heap.size, 2, none⟩ = some (.slice P0' t0.length Q0') := xw7.cell (by first | (simp; done) | (rw [World.cell?_alloc_lt _ _ _ (by simp)]; simp; done) | (go_simp; done))
  have z9 : w.heap.size < w7.heap.size := World.block_lt_of_cell? _ _ c00
  have z10 : w.heap.size + 1 < w7.heap.size := World.block_lt_of_cell? _ _ c10
  have z11 : w6.heap.size < w7.heap.size := World.block_lt_of_cell? _ _ e00
  have sw7 : w6.heap.size ≤ w7.heap.size := Lw7.size
  have bp1 := op1.bound
  have br1 := or1.bound
  obtain ⟨P1, Q1, rfl⟩ := ip1.form
  obtain ⟨P1', Q1', rfl⟩ := ir1.form
  clear ip1 ir1
  go_wp2_with fail
  refine (implWitnessOf_c b0 _ _ s0 t0 b1 _ _ s1 t1 _ _ _ _ _ ((op0.ints (by omega)).ext (by repeat (first | exact Ext.refl _ | assumption | apply Ext.drewN | apply Ext.drew | apply Ext.alloc))) ((or0.ints (by omega)).ext (by repeat (first | exact Ext.refl _ | assumption | apply Ext.drewN | apply Ext.drew | apply Ext.alloc))) ((op1.ints (by omega)).ext (by repeat (first | exact Ext.refl _ | assumption | apply Ext.drewN | apply Ext.drew | apply Ext.alloc))) ((or1.ints (by omega)).ext (by repeat (first | exact Ext.refl _ | assumption | apply Ext.drewN | apply Ext.drew | apply Ext.alloc)))).mono ?_
  rintro e w8 ⟨rfl, xw8⟩
  have Lw8 : Ext w7 w8 := Ext.trans (by repeat (first | exact Ext.refl _ | assumption | apply Ext.drewN | apply Ext.drew | apply Ext.alloc)) xw8
  have Xw8 : Ext w w8 := Xw7.trans Lw8
  replace c00 := Lw8.cell c00
  replace c01 := Lw8.cell c01
  replace c02 := Lw8.cell c02
  replace c10 := Lw8.cell c10
  replace c11 := Lw8.cell c11
  replace c12 := Lw8.cell c12
  replace e00 := Lw8.cell e00
  replace e01 := Lw8.cell e01
  replace e02 := Lw8.cell e02
  replace op0 := op0.ext Lw8
  replace or0 := or0.ext Lw8
  replace op1 := op1.ext Lw8
  replace or1 := or1.ext Lw8
  have e10 : w8.cell? ⟨w7.heap.size, 0, none⟩ = some (.int .i64 b1) := xw8.cell (by first | (simp; done) | (rw [World.cell?_alloc_lt _ _ _ (by simp)]; simp; done) | (go_simp; done))
  have e11 : w8.cell? ⟨w7.heap.size, 1, none⟩ = some (.slice P1 s1.length Q1) := xw8.cell (by first | (simp; done) | (rw [World.cell?_alloc_lt _ _ _ (by simp)]; simp; done) | (go_simp; done))
  have e12 : w8.cell? ⟨w7.heap.size, 2, none⟩ = some (.slice P1' t1.length Q1') := xw8.cell (by first | (simp; done) | (rw [World.cell?_alloc_lt _ _ _ (by simp)]; simp; done) | (go_simp; done))
  have z12 : w.heap.size < w8.heap.size := World.block_lt_of_cell? _ _ c00
  have z13 : w.heap.size + 1 < w8.heap.size := World.block_lt_of_cell? _ _ c10
  have z14 : w6.heap.size < w8.heap.size := World.block_lt_of_cell? _ _ e00
  have z15 : w7.heap.size < w8.heap.size := World.block_lt_of_cell? _ _ e10
  have sw8 : w7.heap.size ≤ w8.heap.size := Lw8.size
  go_wp2_with fail
  go_region_held3 (fun w' => w'.cell? ⟨w.heap.size, 0, none⟩ = some (.int .i64 b0) ∧ w'.cell? ⟨w.heap.size, 1, none⟩ = some (.slice a0 s0.length f0) ∧ w'.cell? ⟨w.heap.size, 2, none⟩ = some (.slice d0 t0.length g0) ∧ w'.cell? ⟨w.heap.size + 1, 0, none⟩ = some (.int .i64 b1) ∧ w'.cell? ⟨w.heap.size + 1, 1, none⟩ = some (.slice a1 s1.length f1) ∧ w'.cell? ⟨w.heap.size + 1, 2, none⟩ = some (.slice d1 t1.length g1) ∧ w'.cell? ⟨w6.heap.size, 0, none⟩ = some (.int .i64 b0) ∧ w'.cell? ⟨w6.heap.size, 1, none⟩ = some (.slice P0 s0.length Q0) ∧ w'.cell? ⟨w6.heap.size, 2, none⟩ = some (.slice P0' t0.length Q0') ∧ w'.cell? ⟨w7.heap.size, 0, none⟩ = some (.int .i64 b1) ∧ w'.cell? ⟨w7.heap.size, 1, none⟩ = some (.slice P1 s1.length Q1) ∧ w'.cell? ⟨w7.heap.size, 2, none⟩ = some (.slice P1' t1.length Q1'))
    (first
      | go_keep
      | exact ⟨Yw10.cell c00, Yw10.cell c01, Yw10.cell c02, Yw10.cell c10, Yw10.cell c11, Yw10.cell c12, Yw10.cell e00, Yw10.cell e01, Yw10.cell e02, Yw10.cell e10, Yw10.cell e11, Yw10.cell e12⟩
      | exact ⟨Yw9.cell c00, Yw9.cell c01, Yw9.cell c02, Yw9.cell c10, Yw9.cell c11, Yw9.cell c12, Yw9.cell e00, Yw9.cell e01, Yw9.cell e02, Yw9.cell e10, Yw9.cell e11, Yw9.cell e12⟩)
    (first
      | (go_at_call 32; refine (eqView_c b0 _ _ _ _ s0 t0 _ _ _ _ _ ((op0.ints (by omega)).ext (Yw9.trans (by repeat (first | exact Ext.refl _ | assumption | apply Ext.drewN | apply Ext.drew | apply Ext.alloc)))) ((or0.ints (by omega)).ext (Yw9.trans (by repeat (first | exact Ext.refl _ | assumption | apply Ext.drewN | apply Ext.drew | apply Ext.alloc)))) (iu.ext (by repeat (first | exact Ext.refl _ | assumption | apply Ext.drewN | apply Ext.drew | apply Ext.alloc))) (iv.ext (by repeat (first | exact Ext.refl _ | assumption | apply Ext.drewN | apply Ext.drew | apply Ext.alloc)))).mono ?_; rintro e w10 ⟨rfl, xw10⟩; have Yw10 : Ext w8 w10 := Yw9.trans (Ext.trans (by repeat (first | exact Ext.refl _ | assumption | apply Ext.drewN | apply Ext.drew | apply Ext.alloc)) xw10); replace iu := iu.ext (Ext.trans (by repeat (first | exact Ext.refl _ | assumption | apply Ext.drewN | apply Ext.drew | apply Ext.alloc)) xw10); replace iv := iv.ext (Ext.trans (by repeat (first | exact Ext.refl _ | assumption | apply Ext.drewN | apply Ext.drew | apply Ext.alloc)) xw10))
      | (go_at_call 29; refine (toView_c b0 _ _ s0 t0 _ (h0.ext (Xw8.trans (by repeat (first | exact Ext.refl _ | assumption | apply Ext.drewN | apply Ext.drew | apply Ext.alloc)))) (k0.ext (Xw8.trans (by repeat (first | exact Ext.refl _ | assumption | apply Ext.drewN | apply Ext.drew | apply Ext.alloc)))) (by omega) (by omega)).mono ?_; rintro e w9 ⟨u, v, rfl, iu, iv, _, _, _, xw9⟩; have Yw9 : Ext w8 w9 := Ext.trans (by repeat (first | exact Ext.refl _ | assumption | apply Ext.drewN | apply Ext.drew | apply Ext.alloc)) xw9))
  have Lw10 : Ext w8 w10 := Yw10
  have Xw10 : Ext w w10 := Xw8.trans Lw10
  replace c00 := Lw10.cell c00
  replace c01 := Lw10.cell c01
  replace c02 := Lw10.cell c02
  replace c10 := Lw10.cell c10
  replace c11 := Lw10.cell c11
  replace c12 := Lw10.cell c12
  replace e00 := Lw10.cell e00
  replace e01 := Lw10.cell e01
  replace e02 := Lw10.cell e02
  replace e10 := Lw10.cell e10
  replace e11 := Lw10.cell e11
  replace e12 := Lw10.cell e12
  replace op0 := op0.ext Lw10
  replace or0 := or0.ext Lw10
  replace op1 := op1.ext Lw10
  replace or1 := or1.ext Lw10
  have z16 : w.heap.size < w10.heap.size := World.block_lt_of_cell? _ _ c00
  have z17 : w.heap.size + 1 < w10.heap.size := World.block_lt_of_cell? _ _ c10
  have z18 : w6.heap.size < w10.heap.size := World.block_lt_of_cell? _ _ e00
  have z19 : w7.heap.size < w10.heap.size := World.block_lt_of_cell? _ _ e10
  have sw10 : w8.heap.size ≤ w10.heap.size := Lw10.size
  clear iu iv
  go_wp2_with fail
  go_region_held3 (fun w' => w'.cell? ⟨w.heap.size, 0, none⟩ = some (.int .i64 b0) ∧ w'.cell? ⟨w.heap.size, 1, none⟩ = some (.slice a0 s0.length f0) ∧ w'.cell? ⟨w.heap.size, 2, none⟩ = some (.slice d0 t0.length g0) ∧ w'.cell? ⟨w.heap.size + 1, 0, none⟩ = some (.int .i64 b1) ∧ w'.cell? ⟨w.heap.size + 1, 1, none⟩ = some (.slice a1 s1.length f1) ∧ w'.cell? ⟨w.heap.size + 1, 2, none⟩ = some (.slice d1 t1.length g1) ∧ w'.cell? ⟨w6.heap.size, 0, none⟩ = some (.int .i64 b0) ∧ w'.cell? ⟨w6.heap.size, 1, none⟩ = some (.slice P0 s0.length Q0) ∧ w'.cell? ⟨w6.heap.size, 2, none⟩ = some (.slice P0' t0.length Q0') ∧ w'.cell? ⟨w7.heap.size, 0, none⟩ = some (.int .i64 b1) ∧ w'.cell? ⟨w7.heap.size, 1, none⟩ = some (.slice P1 s1.length Q1) ∧ w'.cell? ⟨w7.heap.size, 2, none⟩ = some (.slice P1' t1.length Q1'))
    (first
      | go_keep
      | exact ⟨Yw12.cell c00, Yw12.cell c01, Yw12.cell c02, Yw12.cell c10, Yw12.cell c11, Yw12.cell c12, Yw12.cell e00, Yw12.cell e01, Yw12.cell e02, Yw12.cell e10, Yw12.cell e11, Yw12.cell e12⟩
      | exact ⟨Yw11.cell c00, Yw11.cell c01, Yw11.cell c02, Yw11.cell c10, Yw11.cell c11, Yw11.cell c12, Yw11.cell e00, Yw11.cell e01, Yw11.cell e02, Yw11.cell e10, Yw11.cell e11, Yw11.cell e12⟩)
    (first
      | (go_at_call 32; refine (eqView_c b1 _ _ _ _ s1 t1 _ _ _ _ _ ((op1.ints (by omega)).ext (Yw11.trans (by repeat (first | exact Ext.refl _ | assumption | apply Ext.drewN | apply Ext.drew | apply Ext.alloc)))) ((or1.ints (by omega)).ext (Yw11.trans (by repeat (first | exact Ext.refl _ | assumption | apply Ext.drewN | apply Ext.drew | apply Ext.alloc)))) (iu.ext (by repeat (first | exact Ext.refl _ | assumption | apply Ext.drewN | apply Ext.drew | apply Ext.alloc))) (iv.ext (by repeat (first | exact Ext.refl _ | assumption | apply Ext.drewN | apply Ext.drew | apply Ext.alloc)))).mono ?_; rintro e w12 ⟨rfl, xw12⟩; have Yw12 : Ext w10 w12 := Yw11.trans (Ext.trans (by repeat (first | exact Ext.refl _ | assumption | apply Ext.drewN | apply Ext.drew | apply Ext.alloc)) xw12); replace iu := iu.ext (Ext.trans (by repeat (first | exact Ext.refl _ | assumption | apply Ext.drewN | apply Ext.drew | apply Ext.alloc)) xw12); replace iv := iv.ext (Ext.trans (by repeat (first | exact Ext.refl _ | assumption | apply Ext.drewN | apply Ext.drew | apply Ext.alloc)) xw12))
      | (go_at_call 29; refine (toView_c b1 _ _ s1 t1 _ (h1.ext (Xw10.trans (by repeat (first | exact Ext.refl _ | assumption | apply Ext.drewN | apply Ext.drew | apply Ext.alloc)))) (k1.ext (Xw10.trans (by repeat (first | exact Ext.refl _ | assumption | apply Ext.drewN | apply Ext.drew | apply Ext.alloc)))) (by omega) (by omega)).mono ?_; rintro e w11 ⟨u, v, rfl, iu, iv, _, _, _, xw11⟩; have Yw11 : Ext w10 w11 := Ext.trans (by repeat (first | exact Ext.refl _ | assumption | apply Ext.drewN | apply Ext.drew | apply Ext.alloc)) xw11))
  have Lw12 : Ext w10 w12 := Yw12
  have Xw12 : Ext w w12 := Xw10.trans Lw12
  replace c00 := Lw12.cell c00
  replace c01 := Lw12.cell c01
  replace c02 := Lw12.cell c02
  replace c10 := Lw12.cell c10
  replace c11 := Lw12.cell c11
  replace c12 := Lw12.cell c12
  replace e00 := Lw12.cell e00
  replace e01 := Lw12.cell e01
  replace e02 := Lw12.cell e02
  replace e10 := Lw12.cell e10
  replace e11 := Lw12.cell e11
  replace e12 := Lw12.cell e12
  replace op0 := op0.ext Lw12
  replace or0 := or0.ext Lw12
  replace op1 := op1.ext Lw12
  replace or1 := or1.ext Lw12
  have z20 : w.heap.size < w12.heap.size := World.block_lt_of_cell? _ _ c00
  have z21 : w.heap.size + 1 < w12.heap.size := World.block_lt_of_cell? _ _ c10
  have z22 : w6.heap.size < w12.heap.size := World.block_lt_of_cell? _ _ e00
  have z23 : w7.heap.size < w12.heap.size := World.block_lt_of_cell? _ _ e10
  have sw12 : w10.heap.size ≤ w12.heap.size := Lw12.size
  clear iu iv
  go_wp2_with fail
  go_ret
  exact ⟨rfl, Xw12.trans (by repeat (first | exact Ext.refl _ | assumption | apply Ext.drewN | apply Ext.drew | apply Ext.alloc))⟩

end Go.Proofs.Ytfdpoepidlmbaaa
