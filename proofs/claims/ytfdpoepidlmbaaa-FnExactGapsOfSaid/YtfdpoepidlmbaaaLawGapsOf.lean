/- FnExactGapsOf returns true for all arguments: no condition. -/
import Derived.Test.YtfdpoepidlmbaaaExF
import Derived.Test.YtfdpoepidlmbaaaLwD
namespace Go.Proofs.Ytfdpoepidlmbaaa
open Go.RowKit
set_option linter.unusedVariables false
set_option maxRecDepth 100000

set_option maxHeartbeats 6400000 in
theorem lawGapsOf_c (b0 : Int) (a0 d0 : Option Addr) (f0 g0 : Nat) (s0 t0 : List Int) (w : World) (h0 : Raw w (.slice a0 s0.length f0) s0) (k0 : Raw w (.slice d0 t0.length g0) t0) (n0 : s0.length ≤ maxLen) (m0 : t0.length ≤ maxLen) :
    Calls Try.prog 20 #[.agg #[.int .i64 b0, .slice a0 s0.length f0, .slice d0 t0.length g0]] w fun e w' => e = .returned (.bool true) ∧ Ext w w' := by
  by_cases q0 : szV 1048576 s0.length t0.length < 0
  · go_enter Try.func20, Try.ntmps20
    go_wp2_with fail
    refine (szView_c b0 a0 d0 _ f0 _ g0 (1048576) _ (by omega) (by omega) n0 m0).mono ?_
    rintro e w1 ⟨rfl, xw1⟩
    have Lw1 : Ext w w1 := Ext.trans (by repeat (first | exact Ext.refl _ | assumption | apply Ext.drewN | apply Ext.drew | apply Ext.alloc)) xw1
    have Xw1 : Ext w w1 := Lw1
    have c00 : w1.cell? ⟨w.heap.size, 0, none⟩ = some (.int .i64 b0) := xw1.cell (by first | (simp; done) | (rw [World.cell?_alloc_lt _ _ _ (by simp)]; simp; done) | (go_simp; done))
    have c01 : w1.cell? ⟨w.heap.size, 1, none⟩ = some (.slice a0 s0.length f0) := xw1.cell (by first | (simp; done) | (rw [World.cell?_alloc_lt _ _ _ (by simp)]; simp; done) | (go_simp; done))
    have c02 : w1.cell? ⟨w.heap.size, 2, none⟩ = some (.slice d0 t0.length g0) := xw1.cell (by first | (simp; done) | (rw [World.cell?_alloc_lt _ _ _ (by simp)]; simp; done) | (go_simp; done))
    have z1 : w.heap.size < w1.heap.size := World.block_lt_of_cell? _ _ c00
    go_wp2_with fail
    go_ret
    exact ⟨rfl, Xw1.trans (by repeat (first | exact Ext.refl _ | assumption | apply Ext.drewN | apply Ext.drew | apply Ext.alloc))⟩
  have y0 := szV_ge (by omega) q0
  go_enter Try.func20, Try.ntmps20
  go_wp2_with fail
  refine (szView_c b0 a0 d0 _ f0 _ g0 (1048576) _ (by omega) (by omega) n0 m0).mono ?_
  rintro e w1 ⟨rfl, xw1⟩
  have Lw1 : Ext w w1 := Ext.trans (by repeat (first | exact Ext.refl _ | assumption | apply Ext.drewN | apply Ext.drew | apply Ext.alloc)) xw1
  have Xw1 : Ext w w1 := Lw1
  have c00 : w1.cell? ⟨w.heap.size, 0, none⟩ = some (.int .i64 b0) := xw1.cell (by first | (simp; done) | (rw [World.cell?_alloc_lt _ _ _ (by simp)]; simp; done) | (go_simp; done))
  have c01 : w1.cell? ⟨w.heap.size, 1, none⟩ = some (.slice a0 s0.length f0) := xw1.cell (by first | (simp; done) | (rw [World.cell?_alloc_lt _ _ _ (by simp)]; simp; done) | (go_simp; done))
  have c02 : w1.cell? ⟨w.heap.size, 2, none⟩ = some (.slice d0 t0.length g0) := xw1.cell (by first | (simp; done) | (rw [World.cell?_alloc_lt _ _ _ (by simp)]; simp; done) | (go_simp; done))
  have z1 : w.heap.size < w1.heap.size := World.block_lt_of_cell? _ _ c00
  go_wp2_with fail
  refine (toView_c b0 _ _ s0 t0 _ (h0.ext (Xw1.trans (by repeat (first | exact Ext.refl _ | assumption | apply Ext.drewN | apply Ext.drew | apply Ext.alloc)))) (k0.ext (Xw1.trans (by repeat (first | exact Ext.refl _ | assumption | apply Ext.drewN | apply Ext.drew | apply Ext.alloc)))) (by omega) (by omega)).mono ?_
  rintro e w2 ⟨uW0, vW0, rfl, iuW0, ivW0, ouW0, ovW0, hdW0, xw2⟩
  have Lw2 : Ext w1 w2 := Ext.trans (by repeat (first | exact Ext.refl _ | assumption | apply Ext.drewN | apply Ext.drew | apply Ext.alloc)) xw2
  have Xw2 : Ext w w2 := Xw1.trans Lw2
  replace c00 := Lw2.cell c00
  replace c01 := Lw2.cell c01
  replace c02 := Lw2.cell c02
  have z2 : w.heap.size < w2.heap.size := World.block_lt_of_cell? _ _ c00
  have sw2 : w1.heap.size ≤ w2.heap.size := Lw2.size
  go_wp2_with fail
  refine (specGapsOf_c b0 _ _ s0 t0 _ _ _ (iuW0.ext (by repeat (first | exact Ext.refl _ | assumption | apply Ext.drewN | apply Ext.drew | apply Ext.alloc))) (ivW0.ext (by repeat (first | exact Ext.refl _ | assumption | apply Ext.drewN | apply Ext.drew | apply Ext.alloc)))).mono ?_
  rintro e w3 ⟨W, rfl, iW, oW, xw3⟩
  have Lw3 : Ext w2 w3 := Ext.trans (by repeat (first | exact Ext.refl _ | assumption | apply Ext.drewN | apply Ext.drew | apply Ext.alloc)) xw3
  have Xw3 : Ext w w3 := Xw2.trans Lw3
  replace c00 := Lw3.cell c00
  replace c01 := Lw3.cell c01
  replace c02 := Lw3.cell c02
  have z3 : w.heap.size < w3.heap.size := World.block_lt_of_cell? _ _ c00
  have sw3 : w2.heap.size ≤ w3.heap.size := Lw3.size
  have nW := iW.len
  have bW := oW.bound
  clear iW
  go_wp2_with fail
  refine (toView_c b0 _ _ s0 t0 _ (h0.ext (Xw3.trans (by repeat (first | exact Ext.refl _ | assumption | apply Ext.drewN | apply Ext.drew | apply Ext.alloc)))) (k0.ext (Xw3.trans (by repeat (first | exact Ext.refl _ | assumption | apply Ext.drewN | apply Ext.drew | apply Ext.alloc)))) (by omega) (by omega)).mono ?_
  rintro e w4 ⟨p0, r0, rfl, ip0, ir0, op0, or0, hd0, xw4⟩
  replace op0 := op0.lower (base' := w3.heap.size) (by first | (simp; done) | exact Ext.size (by repeat (first | exact Ext.refl _ | assumption | apply Ext.drewN | apply Ext.drew | apply Ext.alloc)))
  replace or0 := or0.lower (base' := w3.heap.size) (by first | (simp; done) | exact Ext.size (by repeat (first | exact Ext.refl _ | assumption | apply Ext.drewN | apply Ext.drew | apply Ext.alloc)))
  have Lw4 : Ext w3 w4 := Ext.trans (by repeat (first | exact Ext.refl _ | assumption | apply Ext.drewN | apply Ext.drew | apply Ext.alloc)) xw4
  have Xw4 : Ext w w4 := Xw3.trans Lw4
  replace c00 := Lw4.cell c00
  replace c01 := Lw4.cell c01
  replace c02 := Lw4.cell c02
  replace oW := oW.ext Lw4
  have z4 : w.heap.size < w4.heap.size := World.block_lt_of_cell? _ _ c00
  have sw4 : w3.heap.size ≤ w4.heap.size := Lw4.size
  have bp0 := op0.bound
  have br0 := or0.bound
  obtain ⟨P0, Q0, rfl⟩ := ip0.form
  obtain ⟨P0', Q0', rfl⟩ := ir0.form
  clear ip0 ir0
  go_wp2_with fail
  refine (implGapsOf_c b0 _ _ s0 t0 _ _ _ ((op0.ints (by omega)).ext (by repeat (first | exact Ext.refl _ | assumption | apply Ext.drewN | apply Ext.drew | apply Ext.alloc))) ((or0.ints (by omega)).ext (by repeat (first | exact Ext.refl _ | assumption | apply Ext.drewN | apply Ext.drew | apply Ext.alloc)))).mono ?_
  rintro e w5 ⟨G, rfl, iG, oG, xw5⟩
  have Lw5 : Ext w4 w5 := Ext.trans (by repeat (first | exact Ext.refl _ | assumption | apply Ext.drewN | apply Ext.drew | apply Ext.alloc)) xw5
  have Xw5 : Ext w w5 := Xw4.trans Lw5
  replace c00 := Lw5.cell c00
  replace c01 := Lw5.cell c01
  replace c02 := Lw5.cell c02
  replace oW := oW.ext Lw5
  replace op0 := op0.ext Lw5
  replace or0 := or0.ext Lw5
  have e00 : w5.cell? ⟨w4.heap.size, 0, none⟩ = some (.int .i64 b0) := xw5.cell (by first | (simp; done) | (rw [World.cell?_alloc_lt _ _ _ (by simp)]; simp; done) | (go_simp; done))
  have e01 : w5.cell? ⟨w4.heap.size, 1, none⟩ = some (.slice P0 s0.length Q0) := xw5.cell (by first | (simp; done) | (rw [World.cell?_alloc_lt _ _ _ (by simp)]; simp; done) | (go_simp; done))
  have e02 : w5.cell? ⟨w4.heap.size, 2, none⟩ = some (.slice P0' t0.length Q0') := xw5.cell (by first | (simp; done) | (rw [World.cell?_alloc_lt _ _ _ (by simp)]; simp; done) | (go_simp; done))
  have z5 : w.heap.size < w5.heap.size := World.block_lt_of_cell? _ _ c00
  have z6 : w4.heap.size < w5.heap.size := World.block_lt_of_cell? _ _ e00
  have sw5 : w4.heap.size ≤ w5.heap.size := Lw5.size
  replace oG := oG.lower (base' := w4.heap.size + 1) (by first | (simp; done) | exact Ext.size (by repeat (first | exact Ext.refl _ | assumption | apply Ext.drewN | apply Ext.drew | apply Ext.alloc)))
  have bG := oG.bound
  obtain ⟨GA, GC, rfl⟩ := iG.form
  clear iG
  go_wp2_with fail
  refine (eqIntS_x (gapA b0 s0 t0) _ _ _ _ _ ((oG.ints nW).ext (by repeat (first | exact Ext.refl _ | assumption | apply Ext.drewN | apply Ext.drew | apply Ext.alloc))) ((oW.ints nW).ext (by repeat (first | exact Ext.refl _ | assumption | apply Ext.drewN | apply Ext.drew | apply Ext.alloc)))).mono ?_
  rintro e w6 ⟨rfl, xw6⟩
  have Lw6 : Ext w5 w6 := Ext.trans (by repeat (first | exact Ext.refl _ | assumption | apply Ext.drewN | apply Ext.drew | apply Ext.alloc)) xw6
  have Xw6 : Ext w w6 := Xw5.trans Lw6
  replace c00 := Lw6.cell c00
  replace c01 := Lw6.cell c01
  replace c02 := Lw6.cell c02
  replace e00 := Lw6.cell e00
  replace e01 := Lw6.cell e01
  replace e02 := Lw6.cell e02
  replace oW := oW.ext Lw6
  replace op0 := op0.ext Lw6
  replace or0 := or0.ext Lw6
  replace oG := oG.ext Lw6
  have z7 : w.heap.size < w6.heap.size := World.block_lt_of_cell? _ _ c00
  have z8 : w4.heap.size < w6.heap.size := World.block_lt_of_cell? _ _ e00
  have sw6 : w5.heap.size ≤ w6.heap.size := Lw6.size
  go_wp2_with fail
  go_region_held3 (fun w' => w'.cell? ⟨w.heap.size, 0, none⟩ = some (.int .i64 b0) ∧ w'.cell? ⟨w.heap.size, 1, none⟩ = some (.slice a0 s0.length f0) ∧ w'.cell? ⟨w.heap.size, 2, none⟩ = some (.slice d0 t0.length g0) ∧ w'.cell? ⟨w4.heap.size, 0, none⟩ = some (.int .i64 b0) ∧ w'.cell? ⟨w4.heap.size, 1, none⟩ = some (.slice P0 s0.length Q0) ∧ w'.cell? ⟨w4.heap.size, 2, none⟩ = some (.slice P0' t0.length Q0'))
    (first
      | go_keep
      | exact ⟨Yw8.cell c00, Yw8.cell c01, Yw8.cell c02, Yw8.cell e00, Yw8.cell e01, Yw8.cell e02⟩
      | exact ⟨Yw7.cell c00, Yw7.cell c01, Yw7.cell c02, Yw7.cell e00, Yw7.cell e01, Yw7.cell e02⟩)
    (first
      | (go_at_call 32; refine (eqView_c b0 _ _ _ _ s0 t0 _ _ _ _ _ ((op0.ints (by omega)).ext (Yw7.trans (by repeat (first | exact Ext.refl _ | assumption | apply Ext.drewN | apply Ext.drew | apply Ext.alloc)))) ((or0.ints (by omega)).ext (Yw7.trans (by repeat (first | exact Ext.refl _ | assumption | apply Ext.drewN | apply Ext.drew | apply Ext.alloc)))) (iu.ext (by repeat (first | exact Ext.refl _ | assumption | apply Ext.drewN | apply Ext.drew | apply Ext.alloc))) (iv.ext (by repeat (first | exact Ext.refl _ | assumption | apply Ext.drewN | apply Ext.drew | apply Ext.alloc)))).mono ?_; rintro e w8 ⟨rfl, xw8⟩; have Yw8 : Ext w6 w8 := Yw7.trans (Ext.trans (by repeat (first | exact Ext.refl _ | assumption | apply Ext.drewN | apply Ext.drew | apply Ext.alloc)) xw8); replace iu := iu.ext (Ext.trans (by repeat (first | exact Ext.refl _ | assumption | apply Ext.drewN | apply Ext.drew | apply Ext.alloc)) xw8); replace iv := iv.ext (Ext.trans (by repeat (first | exact Ext.refl _ | assumption | apply Ext.drewN | apply Ext.drew | apply Ext.alloc)) xw8))
      | (go_at_call 29; refine (toView_c b0 _ _ s0 t0 _ (h0.ext (Xw6.trans (by repeat (first | exact Ext.refl _ | assumption | apply Ext.drewN | apply Ext.drew | apply Ext.alloc)))) (k0.ext (Xw6.trans (by repeat (first | exact Ext.refl _ | assumption | apply Ext.drewN | apply Ext.drew | apply Ext.alloc)))) (by omega) (by omega)).mono ?_; rintro e w7 ⟨u, v, rfl, iu, iv, _, _, _, xw7⟩; have Yw7 : Ext w6 w7 := Ext.trans (by repeat (first | exact Ext.refl _ | assumption | apply Ext.drewN | apply Ext.drew | apply Ext.alloc)) xw7))
  have Lw8 : Ext w6 w8 := Yw8
  have Xw8 : Ext w w8 := Xw6.trans Lw8
  replace c00 := Lw8.cell c00
  replace c01 := Lw8.cell c01
  replace c02 := Lw8.cell c02
  replace e00 := Lw8.cell e00
  replace e01 := Lw8.cell e01
  replace e02 := Lw8.cell e02
  replace oW := oW.ext Lw8
  replace op0 := op0.ext Lw8
  replace or0 := or0.ext Lw8
  replace oG := oG.ext Lw8
  have z9 : w.heap.size < w8.heap.size := World.block_lt_of_cell? _ _ c00
  have z10 : w4.heap.size < w8.heap.size := World.block_lt_of_cell? _ _ e00
  have sw8 : w6.heap.size ≤ w8.heap.size := Lw8.size
  clear iu iv
  go_wp2_with fail
  refine (markView_c b0 _ _ s0 t0 (1) _ (w3.heap.size) (w4.heap.size) (op0.ext (by repeat (first | exact Ext.refl _ | assumption | apply Ext.drewN | apply Ext.drew | apply Ext.alloc))) (or0.ext (by repeat (first | exact Ext.refl _ | assumption | apply Ext.drewN | apply Ext.drew | apply Ext.alloc))) hd0 bp0 br0 (Nat.le_trans (by omega) (Ext.size (show Ext w8 _ from (by repeat (first | exact Ext.refl _ | assumption | apply Ext.drewN | apply Ext.drew | apply Ext.alloc))))) (by omega) (by omega) (by omega) (by omega)).mono ?_
  rintro e w9 ⟨rfl, -, -, kw9⟩
  have Kw9 : Chg (w3.heap.size) (w4.heap.size) w8 w9 := (Chg.of_ext (by repeat (first | exact Ext.refl _ | assumption | apply Ext.drewN | apply Ext.drew | apply Ext.alloc))).trans kw9
  have sw9 : w8.heap.size ≤ w9.heap.size := Kw9.size
  have Xw9 : Ext w w9 := Xw8.chg Kw9 (by omega)
  replace c00 := Kw9.cell (by first | (left; omega) | (right; omega)) c00
  replace c01 := Kw9.cell (by first | (left; omega) | (right; omega)) c01
  replace c02 := Kw9.cell (by first | (left; omega) | (right; omega)) c02
  replace e00 := Kw9.cell (by first | (left; omega) | (right; omega)) e00
  replace e01 := Kw9.cell (by first | (left; omega) | (right; omega)) e01
  replace e02 := Kw9.cell (by first | (left; omega) | (right; omega)) e02
  replace oW := oW.chgB Kw9 (fun hn g hg => Nat.lt_of_lt_of_le (bW hn g hg) (by omega))
  replace oG := oG.chg Kw9 (by omega)
  have z11 : w.heap.size < w9.heap.size := World.block_lt_of_cell? _ _ c00
  have z12 : w4.heap.size < w9.heap.size := World.block_lt_of_cell? _ _ e00
  clear op0 or0
  go_wp2_with fail
  refine (eqIntS_x (gapA b0 s0 t0) _ _ _ _ _ ((oG.ints nW).ext (by repeat (first | exact Ext.refl _ | assumption | apply Ext.drewN | apply Ext.drew | apply Ext.alloc))) ((oW.ints nW).ext (by repeat (first | exact Ext.refl _ | assumption | apply Ext.drewN | apply Ext.drew | apply Ext.alloc)))).mono ?_
  rintro e w10 ⟨rfl, xw10⟩
  have Lw10 : Ext w9 w10 := Ext.trans (by repeat (first | exact Ext.refl _ | assumption | apply Ext.drewN | apply Ext.drew | apply Ext.alloc)) xw10
  have Xw10 : Ext w w10 := Xw9.trans Lw10
  replace c00 := Lw10.cell c00
  replace c01 := Lw10.cell c01
  replace c02 := Lw10.cell c02
  replace e00 := Lw10.cell e00
  replace e01 := Lw10.cell e01
  replace e02 := Lw10.cell e02
  replace oW := oW.ext Lw10
  replace oG := oG.ext Lw10
  have z13 : w.heap.size < w10.heap.size := World.block_lt_of_cell? _ _ c00
  have z14 : w4.heap.size < w10.heap.size := World.block_lt_of_cell? _ _ e00
  have sw10 : w9.heap.size ≤ w10.heap.size := Lw10.size
  go_wp2_with fail
  refine (markZ_c (gapA b0 s0 t0) _ 1 _ (w4.heap.size + 1) (w5.heap.size) (oG.ext (by repeat (first | exact Ext.refl _ | assumption | apply Ext.drewN | apply Ext.drew | apply Ext.alloc))) bG nW (by omega) (by omega)).mono ?_
  rintro e w11 ⟨rfl, oH, kw11, -, -⟩
  have Kw11 : Chg (w4.heap.size + 1) (w5.heap.size) w10 w11 := (Chg.of_ext (by repeat (first | exact Ext.refl _ | assumption | apply Ext.drewN | apply Ext.drew | apply Ext.alloc))).trans kw11
  have sw11 : w10.heap.size ≤ w11.heap.size := Kw11.size
  have Xw11 : Ext w w11 := Xw10.chg Kw11 (by omega)
  replace c00 := Kw11.cell (by first | (left; omega) | (right; omega)) c00
  replace c01 := Kw11.cell (by first | (left; omega) | (right; omega)) c01
  replace c02 := Kw11.cell (by first | (left; omega) | (right; omega)) c02
  replace e00 := Kw11.cell (by first | (left; omega) | (right; omega)) e00
  replace e01 := Kw11.cell (by first | (left; omega) | (right; omega)) e01
  replace e02 := Kw11.cell (by first | (left; omega) | (right; omega)) e02
  replace oW := oW.chgB Kw11 (fun hn g hg => Nat.lt_of_lt_of_le (bW hn g hg) (by omega))
  have z15 : w.heap.size < w11.heap.size := World.block_lt_of_cell? _ _ c00
  have z16 : w4.heap.size < w11.heap.size := World.block_lt_of_cell? _ _ e00
  clear oG
  have nH : (ksL 1 (gapA b0 s0 t0).length).length ≤ 4194304 := by rw [ksL_len]; exact nW
  go_wp2_with fail
  refine (heldIntS_c (gapA b0 s0 t0).length _ 1 _ _ ((oH.ints nH).ext (by repeat (first | exact Ext.refl _ | assumption | apply Ext.drewN | apply Ext.drew | apply Ext.alloc))) (by omega) (by omega)).mono ?_
  rintro e w' ⟨rfl, rfl⟩
  go_wp2_with fail
  refine (toView_c b0 _ _ s0 t0 _ (h0.ext (Xw11.trans (by repeat (first | exact Ext.refl _ | assumption | apply Ext.drewN | apply Ext.drew | apply Ext.alloc)))) (k0.ext (Xw11.trans (by repeat (first | exact Ext.refl _ | assumption | apply Ext.drewN | apply Ext.drew | apply Ext.alloc)))) (by omega) (by omega)).mono ?_
  rintro e w12 ⟨uH00, vH00, rfl, iuH00, ivH00, ouH00, ovH00, hdH00, xw12⟩
  have Lw12 : Ext w11 w12 := Ext.trans (by repeat (first | exact Ext.refl _ | assumption | apply Ext.drewN | apply Ext.drew | apply Ext.alloc)) xw12
  have Xw12 : Ext w w12 := Xw11.trans Lw12
  replace c00 := Lw12.cell c00
  replace c01 := Lw12.cell c01
  replace c02 := Lw12.cell c02
  replace e00 := Lw12.cell e00
  replace e01 := Lw12.cell e01
  replace e02 := Lw12.cell e02
  replace oW := oW.ext Lw12
  replace oH := oH.ext Lw12
  have z17 : w.heap.size < w12.heap.size := World.block_lt_of_cell? _ _ c00
  have z18 : w4.heap.size < w12.heap.size := World.block_lt_of_cell? _ _ e00
  have sw12 : w11.heap.size ≤ w12.heap.size := Lw12.size
  go_wp2_with fail
  refine (implGapsOf_c b0 _ _ s0 t0 _ _ _ (iuH00.ext (by repeat (first | exact Ext.refl _ | assumption | apply Ext.drewN | apply Ext.drew | apply Ext.alloc))) (ivH00.ext (by repeat (first | exact Ext.refl _ | assumption | apply Ext.drewN | apply Ext.drew | apply Ext.alloc)))).mono ?_
  rintro e w13 ⟨H0, rfl, iH0, oH0, xw13⟩
  have Lw13 : Ext w12 w13 := Ext.trans (by repeat (first | exact Ext.refl _ | assumption | apply Ext.drewN | apply Ext.drew | apply Ext.alloc)) xw13
  have Xw13 : Ext w w13 := Xw12.trans Lw13
  replace c00 := Lw13.cell c00
  replace c01 := Lw13.cell c01
  replace c02 := Lw13.cell c02
  replace e00 := Lw13.cell e00
  replace e01 := Lw13.cell e01
  replace e02 := Lw13.cell e02
  replace oW := oW.ext Lw13
  replace oH := oH.ext Lw13
  have z19 : w.heap.size < w13.heap.size := World.block_lt_of_cell? _ _ c00
  have z20 : w4.heap.size < w13.heap.size := World.block_lt_of_cell? _ _ e00
  have sw13 : w12.heap.size ≤ w13.heap.size := Lw13.size
  have nH0 := iH0.len
  have bH0 := oH0.bound
  clear iH0
  go_wp2_with fail
  refine (eqIntS_x (gapA b0 s0 t0) _ _ _ _ _ ((oH0.ints nW).ext (by repeat (first | exact Ext.refl _ | assumption | apply Ext.drewN | apply Ext.drew | apply Ext.alloc))) ((oW.ints nW).ext (by repeat (first | exact Ext.refl _ | assumption | apply Ext.drewN | apply Ext.drew | apply Ext.alloc)))).mono ?_
  rintro e w14 ⟨rfl, xw14⟩
  have Lw14 : Ext w13 w14 := Ext.trans (by repeat (first | exact Ext.refl _ | assumption | apply Ext.drewN | apply Ext.drew | apply Ext.alloc)) xw14
  have Xw14 : Ext w w14 := Xw13.trans Lw14
  replace c00 := Lw14.cell c00
  replace c01 := Lw14.cell c01
  replace c02 := Lw14.cell c02
  replace e00 := Lw14.cell e00
  replace e01 := Lw14.cell e01
  replace e02 := Lw14.cell e02
  replace oW := oW.ext Lw14
  replace oH := oH.ext Lw14
  replace oH0 := oH0.ext Lw14
  have z21 : w.heap.size < w14.heap.size := World.block_lt_of_cell? _ _ c00
  have z22 : w4.heap.size < w14.heap.size := World.block_lt_of_cell? _ _ e00
  have sw14 : w13.heap.size ≤ w14.heap.size := Lw14.size
  go_wp2_with fail
  refine (heldIntS_c (gapA b0 s0 t0).length _ 1 _ _ ((oH.ints nH).ext (by repeat (first | exact Ext.refl _ | assumption | apply Ext.drewN | apply Ext.drew | apply Ext.alloc))) (by omega) (by omega)).mono ?_
  rintro e w' ⟨rfl, rfl⟩
  go_wp2_with fail
  go_ret
  exact ⟨rfl, Xw14.trans (by repeat (first | exact Ext.refl _ | assumption | apply Ext.drewN | apply Ext.drew | apply Ext.alloc))⟩

end Go.Proofs.Ytfdpoepidlmbaaa
