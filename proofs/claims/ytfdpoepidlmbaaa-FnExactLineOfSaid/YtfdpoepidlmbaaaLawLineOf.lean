/- FnExactLineOf returns true for all arguments: no condition. -/
import Derived.Test.YtfdpoepidlmbaaaExG
import Derived.Test.YtfdpoepidlmbaaaLwD
namespace Go.Proofs.Ytfdpoepidlmbaaa
open Go.RowKit
set_option linter.unusedVariables false
set_option maxRecDepth 100000

set_option maxHeartbeats 6400000 in
theorem lawLineOf_c (b0 : Int) (a0 d0 : Option Addr) (f0 g0 : Nat) (s0 t0 : List Int) (w : World) (h0 : Raw w (.slice a0 s0.length f0) s0) (k0 : Raw w (.slice d0 t0.length g0) t0) (n0 : s0.length ≤ maxLen) (m0 : t0.length ≤ maxLen) :
    Calls Try.prog 21 #[.agg #[.int .i64 b0, .slice a0 s0.length f0, .slice d0 t0.length g0]] w fun e w' => e = .returned (.bool true) ∧ Ext w w' := by
  by_cases q0 : szV 1048576 s0.length t0.length < 0
  · go_enter Try.func21, Try.ntmps21
    go_wp2_with fail
    refine (szView_c b0 a0 d0 _ f0 _ g0 (1048576) _ (by omega) (by omega) n0 m0).mono ?_
    rintro e w1 ⟨rfl, xw1⟩
    have Lw1 : Ext w w1 := Ext.trans (by repeat (first | exact Ext.refl _ | assumption | apply Ext.drewN | apply Ext.drew | apply Ext.alloc)) xw1
    have Xw1 : Ext w w1 := Lw1
    have c00 : w1.cell? ⟨w.heap.size, 0, none⟩ = some (.int .i64 b0) := xw1.cell (by first | (simp; done) | (rw [World.cell?_alloc_lt _ _ _ (by simp)]; simp; done) | (go_simp; done))
    have c01 : w1.cell? ⟨w.heap.size, 1, none⟩ = some (.slice a0 s0.length f0) := xw1.cell (by first | (simp; done) | (rw [World.cell?_alloc_lt _ _ _ (by simp)]; simp; done) | (go_simp; done))
    have c02 : w1.cell? ⟨w.heap.size, 2, none⟩ = some (.slice d0 t0.length g0) := xw1.cell (by first | (simp; done) | (rw [World.cell?_alloc_lt _ _ _ (by simp)]; simp; done) | (go_simp; done))
    have z1 : w.heap.size < w1.heap.size := World.block_lt_of_cell? _ _ c00
    go_wp2_with fail
    go_ret
    exact ⟨rfl, Xw1.trans (by repeat (first | exact Ext.refl _ | assumption | apply Ext.drewN | apply Ext.drew | apply Ext.alloc))⟩
  have y0 := szV_ge (by omega) q0
  go_enter Try.func21, Try.ntmps21
  go_wp2_with fail
  refine (szView_c b0 a0 d0 _ f0 _ g0 (1048576) _ (by omega) (by omega) n0 m0).mono ?_
  rintro e w1 ⟨rfl, xw1⟩
  have Lw1 : Ext w w1 := Ext.trans (by repeat (first | exact Ext.refl _ | assumption | apply Ext.drewN | apply Ext.drew | apply Ext.alloc)) xw1
  have Xw1 : Ext w w1 := Lw1
  have c00 : w1.cell? ⟨w.heap.size, 0, none⟩ = some (.int .i64 b0) := xw1.cell (by first | (simp; done) | (rw [World.cell?_alloc_lt _ _ _ (by simp)]; simp; done) | (go_simp; done))
  have c01 : w1.cell? ⟨w.heap.size, 1, none⟩ = some (.slice a0 s0.length f0) := xw1.cell (by first | (simp; done) | (rw [World.cell?_alloc_lt _ _ _ (by simp)]; simp; done) | (go_simp; done))
  have c02 : w1.cell? ⟨w.heap.size, 2, none⟩ = some (.slice d0 t0.length g0) := xw1.cell (by first | (simp; done) | (rw [World.cell?_alloc_lt _ _ _ (by simp)]; simp; done) | (go_simp; done))
  have z1 : w.heap.size < w1.heap.size := World.block_lt_of_cell? _ _ c00
  go_wp2_with fail
  refine (toView_c b0 _ _ s0 t0 _ (h0.ext (Xw1.trans (by repeat (first | exact Ext.refl _ | assumption | apply Ext.drewN | apply Ext.drew | apply Ext.alloc)))) (k0.ext (Xw1.trans (by repeat (first | exact Ext.refl _ | assumption | apply Ext.drewN | apply Ext.drew | apply Ext.alloc)))) (by omega) (by omega)).mono ?_
  rintro e w2 ⟨uW0, vW0, rfl, iuW0, ivW0, ouW0, ovW0, hdW0, xw2⟩
  have Lw2 : Ext w1 w2 := Ext.trans (by repeat (first | exact Ext.refl _ | assumption | apply Ext.drewN | apply Ext.drew | apply Ext.alloc)) xw2
  have Xw2 : Ext w w2 := Xw1.trans Lw2
  replace c00 := Lw2.cell c00
  replace c01 := Lw2.cell c01
  replace c02 := Lw2.cell c02
  have z2 : w.heap.size < w2.heap.size := World.block_lt_of_cell? _ _ c00
  have sw2 : w1.heap.size ≤ w2.heap.size := Lw2.size
  go_wp2_with fail
  refine (specLineOf_c b0 _ _ s0 t0 _ _ _ (iuW0.ext (by repeat (first | exact Ext.refl _ | assumption | apply Ext.drewN | apply Ext.drew | apply Ext.alloc))) (ivW0.ext (by repeat (first | exact Ext.refl _ | assumption | apply Ext.drewN | apply Ext.drew | apply Ext.alloc)))).mono ?_
  rintro e w3 ⟨rfl, xw3⟩
  have Lw3 : Ext w2 w3 := Ext.trans (by repeat (first | exact Ext.refl _ | assumption | apply Ext.drewN | apply Ext.drew | apply Ext.alloc)) xw3
  have Xw3 : Ext w w3 := Xw2.trans Lw3
  replace c00 := Lw3.cell c00
  replace c01 := Lw3.cell c01
  replace c02 := Lw3.cell c02
  have z3 : w.heap.size < w3.heap.size := World.block_lt_of_cell? _ _ c00
  have sw3 : w2.heap.size ≤ w3.heap.size := Lw3.size
  go_wp2_with fail
  refine (toView_c b0 _ _ s0 t0 _ (h0.ext (Xw3.trans (by repeat (first | exact Ext.refl _ | assumption | apply Ext.drewN | apply Ext.drew | apply Ext.alloc)))) (k0.ext (Xw3.trans (by repeat (first | exact Ext.refl _ | assumption | apply Ext.drewN | apply Ext.drew | apply Ext.alloc)))) (by omega) (by omega)).mono ?_
  rintro e w4 ⟨p0, r0, rfl, ip0, ir0, op0, or0, hd0, xw4⟩
  replace op0 := op0.lower (base' := w3.heap.size + 1) (by first | (simp; done) | exact Ext.size (by repeat (first | exact Ext.refl _ | assumption | apply Ext.drewN | apply Ext.drew | apply Ext.alloc)))
  replace or0 := or0.lower (base' := w3.heap.size + 1) (by first | (simp; done) | exact Ext.size (by repeat (first | exact Ext.refl _ | assumption | apply Ext.drewN | apply Ext.drew | apply Ext.alloc)))
  have Lw4 : Ext w3 w4 := Ext.trans (by repeat (first | exact Ext.refl _ | assumption | apply Ext.drewN | apply Ext.drew | apply Ext.alloc)) xw4
  have Xw4 : Ext w w4 := Xw3.trans Lw4
  replace c00 := Lw4.cell c00
  replace c01 := Lw4.cell c01
  replace c02 := Lw4.cell c02
  have rW0 : w4.cell? ⟨w3.heap.size, 0, none⟩ = some (.int .i64 (lineT b0 s0 t0).1) := xw4.cell (by first | (simp; done) | (rw [World.cell?_alloc_lt _ _ _ (by simp)]; simp; done) | (go_simp; done))
  have rW1 : w4.cell? ⟨w3.heap.size, 1, none⟩ = some (.int .i64 (lineT b0 s0 t0).2.1) := xw4.cell (by first | (simp; done) | (rw [World.cell?_alloc_lt _ _ _ (by simp)]; simp; done) | (go_simp; done))
  have rW2 : w4.cell? ⟨w3.heap.size, 2, none⟩ = some (.int .i64 (lineT b0 s0 t0).2.2) := xw4.cell (by first | (simp; done) | (rw [World.cell?_alloc_lt _ _ _ (by simp)]; simp; done) | (go_simp; done))
  have z4 : w.heap.size < w4.heap.size := World.block_lt_of_cell? _ _ c00
  have z5 : w3.heap.size < w4.heap.size := World.block_lt_of_cell? _ _ rW0
  have sw4 : w3.heap.size ≤ w4.heap.size := Lw4.size
  have bp0 := op0.bound
  have br0 := or0.bound
  obtain ⟨P0, Q0, rfl⟩ := ip0.form
  obtain ⟨P0', Q0', rfl⟩ := ir0.form
  clear ip0 ir0
  go_wp2_with fail
  refine (implLineOf_c b0 _ _ s0 t0 _ _ _ ((op0.ints (by omega)).ext (by repeat (first | exact Ext.refl _ | assumption | apply Ext.drewN | apply Ext.drew | apply Ext.alloc))) ((or0.ints (by omega)).ext (by repeat (first | exact Ext.refl _ | assumption | apply Ext.drewN | apply Ext.drew | apply Ext.alloc)))).mono ?_
  rintro e w5 ⟨rfl, xw5⟩
  have Lw5 : Ext w4 w5 := Ext.trans (by repeat (first | exact Ext.refl _ | assumption | apply Ext.drewN | apply Ext.drew | apply Ext.alloc)) xw5
  have Xw5 : Ext w w5 := Xw4.trans Lw5
  replace c00 := Lw5.cell c00
  replace c01 := Lw5.cell c01
  replace c02 := Lw5.cell c02
  replace rW0 := Lw5.cell rW0
  replace rW1 := Lw5.cell rW1
  replace rW2 := Lw5.cell rW2
  replace op0 := op0.ext Lw5
  replace or0 := or0.ext Lw5
  have e00 : w5.cell? ⟨w4.heap.size, 0, none⟩ = some (.int .i64 b0) := xw5.cell (by first | (simp; done) | (rw [World.cell?_alloc_lt _ _ _ (by simp)]; simp; done) | (go_simp; done))
  have e01 : w5.cell? ⟨w4.heap.size, 1, none⟩ = some (.slice P0 s0.length Q0) := xw5.cell (by first | (simp; done) | (rw [World.cell?_alloc_lt _ _ _ (by simp)]; simp; done) | (go_simp; done))
  have e02 : w5.cell? ⟨w4.heap.size, 2, none⟩ = some (.slice P0' t0.length Q0') := xw5.cell (by first | (simp; done) | (rw [World.cell?_alloc_lt _ _ _ (by simp)]; simp; done) | (go_simp; done))
  have z6 : w.heap.size < w5.heap.size := World.block_lt_of_cell? _ _ c00
  have z7 : w3.heap.size < w5.heap.size := World.block_lt_of_cell? _ _ rW0
  have z8 : w4.heap.size < w5.heap.size := World.block_lt_of_cell? _ _ e00
  have sw5 : w4.heap.size ≤ w5.heap.size := Lw5.size
  go_wp2_with fail
  refine (eqRange_c _ _ _ _).mono ?_
  rintro e w6 ⟨rfl, xw6⟩
  have Lw6 : Ext w5 w6 := Ext.trans (by repeat (first | exact Ext.refl _ | assumption | apply Ext.drewN | apply Ext.drew | apply Ext.alloc)) xw6
  have Xw6 : Ext w w6 := Xw5.trans Lw6
  replace c00 := Lw6.cell c00
  replace c01 := Lw6.cell c01
  replace c02 := Lw6.cell c02
  replace rW0 := Lw6.cell rW0
  replace rW1 := Lw6.cell rW1
  replace rW2 := Lw6.cell rW2
  replace e00 := Lw6.cell e00
  replace e01 := Lw6.cell e01
  replace e02 := Lw6.cell e02
  replace op0 := op0.ext Lw6
  replace or0 := or0.ext Lw6
  have rG0 : w6.cell? ⟨w5.heap.size, 0, none⟩ = some (.int .i64 (lineT b0 s0 t0).1) := xw6.cell (by first | (simp; done) | (rw [World.cell?_alloc_lt _ _ _ (by simp)]; simp; done) | (go_simp; done))
  have rG1 : w6.cell? ⟨w5.heap.size, 1, none⟩ = some (.int .i64 (lineT b0 s0 t0).2.1) := xw6.cell (by first | (simp; done) | (rw [World.cell?_alloc_lt _ _ _ (by simp)]; simp; done) | (go_simp; done))
  have rG2 : w6.cell? ⟨w5.heap.size, 2, none⟩ = some (.int .i64 (lineT b0 s0 t0).2.2) := xw6.cell (by first | (simp; done) | (rw [World.cell?_alloc_lt _ _ _ (by simp)]; simp; done) | (go_simp; done))
  have z9 : w.heap.size < w6.heap.size := World.block_lt_of_cell? _ _ c00
  have z10 : w3.heap.size < w6.heap.size := World.block_lt_of_cell? _ _ rW0
  have z11 : w4.heap.size < w6.heap.size := World.block_lt_of_cell? _ _ e00
  have z12 : w5.heap.size < w6.heap.size := World.block_lt_of_cell? _ _ rG0
  have sw6 : w5.heap.size ≤ w6.heap.size := Lw6.size
  go_wp2_with fail
  go_region_held3 (fun w' => w'.cell? ⟨w.heap.size, 0, none⟩ = some (.int .i64 b0) ∧ w'.cell? ⟨w.heap.size, 1, none⟩ = some (.slice a0 s0.length f0) ∧ w'.cell? ⟨w.heap.size, 2, none⟩ = some (.slice d0 t0.length g0) ∧ w'.cell? ⟨w3.heap.size, 0, none⟩ = some (.int .i64 (lineT b0 s0 t0).1) ∧ w'.cell? ⟨w3.heap.size, 1, none⟩ = some (.int .i64 (lineT b0 s0 t0).2.1) ∧ w'.cell? ⟨w3.heap.size, 2, none⟩ = some (.int .i64 (lineT b0 s0 t0).2.2) ∧ w'.cell? ⟨w4.heap.size, 0, none⟩ = some (.int .i64 b0) ∧ w'.cell? ⟨w4.heap.size, 1, none⟩ = some (.slice P0 s0.length Q0) ∧ w'.cell? ⟨w4.heap.size, 2, none⟩ = some (.slice P0' t0.length Q0') ∧ w'.cell? ⟨w5.heap.size, 0, none⟩ = some (.int .i64 (lineT b0 s0 t0).1) ∧ w'.cell? ⟨w5.heap.size, 1, none⟩ = some (.int .i64 (lineT b0 s0 t0).2.1) ∧ w'.cell? ⟨w5.heap.size, 2, none⟩ = some (.int .i64 (lineT b0 s0 t0).2.2))
    (first
      | go_keep
      | exact ⟨Yw8.cell c00, Yw8.cell c01, Yw8.cell c02, Yw8.cell rW0, Yw8.cell rW1, Yw8.cell rW2, Yw8.cell e00, Yw8.cell e01, Yw8.cell e02, Yw8.cell rG0, Yw8.cell rG1, Yw8.cell rG2⟩
      | exact ⟨Yw7.cell c00, Yw7.cell c01, Yw7.cell c02, Yw7.cell rW0, Yw7.cell rW1, Yw7.cell rW2, Yw7.cell e00, Yw7.cell e01, Yw7.cell e02, Yw7.cell rG0, Yw7.cell rG1, Yw7.cell rG2⟩)
    (first
      | (go_at_call 32; refine (eqView_c b0 _ _ _ _ s0 t0 _ _ _ _ _ ((op0.ints (by omega)).ext (Yw7.trans (by repeat (first | exact Ext.refl _ | assumption | apply Ext.drewN | apply Ext.drew | apply Ext.alloc)))) ((or0.ints (by omega)).ext (Yw7.trans (by repeat (first | exact Ext.refl _ | assumption | apply Ext.drewN | apply Ext.drew | apply Ext.alloc)))) (iu.ext (by repeat (first | exact Ext.refl _ | assumption | apply Ext.drewN | apply Ext.drew | apply Ext.alloc))) (iv.ext (by repeat (first | exact Ext.refl _ | assumption | apply Ext.drewN | apply Ext.drew | apply Ext.alloc)))).mono ?_; rintro e w8 ⟨rfl, xw8⟩; have Yw8 : Ext w6 w8 := Yw7.trans (Ext.trans (by repeat (first | exact Ext.refl _ | assumption | apply Ext.drewN | apply Ext.drew | apply Ext.alloc)) xw8); replace iu := iu.ext (Ext.trans (by repeat (first | exact Ext.refl _ | assumption | apply Ext.drewN | apply Ext.drew | apply Ext.alloc)) xw8); replace iv := iv.ext (Ext.trans (by repeat (first | exact Ext.refl _ | assumption | apply Ext.drewN | apply Ext.drew | apply Ext.alloc)) xw8))
      | (go_at_call 29; refine (toView_c b0 _ _ s0 t0 _ (h0.ext (Xw6.trans (by repeat (first | exact Ext.refl _ | assumption | apply Ext.drewN | apply Ext.drew | apply Ext.alloc)))) (k0.ext (Xw6.trans (by repeat (first | exact Ext.refl _ | assumption | apply Ext.drewN | apply Ext.drew | apply Ext.alloc)))) (by omega) (by omega)).mono ?_; rintro e w7 ⟨u, v, rfl, iu, iv, _, _, _, xw7⟩; have Yw7 : Ext w6 w7 := Ext.trans (by repeat (first | exact Ext.refl _ | assumption | apply Ext.drewN | apply Ext.drew | apply Ext.alloc)) xw7))
  have Lw8 : Ext w6 w8 := Yw8
  have Xw8 : Ext w w8 := Xw6.trans Lw8
  replace c00 := Lw8.cell c00
  replace c01 := Lw8.cell c01
  replace c02 := Lw8.cell c02
  replace rW0 := Lw8.cell rW0
  replace rW1 := Lw8.cell rW1
  replace rW2 := Lw8.cell rW2
  replace e00 := Lw8.cell e00
  replace e01 := Lw8.cell e01
  replace e02 := Lw8.cell e02
  replace rG0 := Lw8.cell rG0
  replace rG1 := Lw8.cell rG1
  replace rG2 := Lw8.cell rG2
  replace op0 := op0.ext Lw8
  replace or0 := or0.ext Lw8
  have z13 : w.heap.size < w8.heap.size := World.block_lt_of_cell? _ _ c00
  have z14 : w3.heap.size < w8.heap.size := World.block_lt_of_cell? _ _ rW0
  have z15 : w4.heap.size < w8.heap.size := World.block_lt_of_cell? _ _ e00
  have z16 : w5.heap.size < w8.heap.size := World.block_lt_of_cell? _ _ rG0
  have sw8 : w6.heap.size ≤ w8.heap.size := Lw8.size
  clear iu iv
  go_wp2_with fail
  go_ret
  exact ⟨rfl, Xw8.trans (by repeat (first | exact Ext.refl _ | assumption | apply Ext.drewN | apply Ext.drew | apply Ext.alloc))⟩

end Go.Proofs.Ytfdpoepidlmbaaa
