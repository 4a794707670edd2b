/- Walks: CellsOf and OverlapOf of the program and of the reference. -/
import Derived.Test.YtfdpoepidlmbaaaViewF
import Derived.Test.YtfdpoepidlmbaaaLp
namespace Go.Proofs.Ytfdpoepidlmbaaa
open Go.RowKit
set_option linter.unusedVariables false
set_option maxRecDepth 100000

def cellA (b : Int) (s t : List Int) : List Int := if viewB b s t then cellsL b s t else []
def overA (b1 : Int) (s1 t1 : List Int) (b2 : Int) (s2 t2 : List Int) : List Int := if viewB b1 s1 t1 && viewB b2 s2 t2 then bothL (offsL b1 s1 t1) (offsL b2 s2 t2) else []

set_option maxHeartbeats 1600000 in
theorem used_c (b1 : Int) (u1 v1 : Value) (s1 t1 : List Int) (w : World) (l1 m1 : Nat) (h1 : Ints w l1 u1 s1) (k1 : Ints w m1 v1 t1) (ha : viewB b1 s1 t1 = true) :
    Calls Try.prog 165 #[.agg #[.int .i64 b1, u1, v1]] w (PInts w (cellsL b1 s1 t1)) := by
  have hcb := Lib.hid (cells_both ha)
  obtain ⟨j1, j2, _⟩ := viewB_in ha
  have hin1 := Lib.hid (shapeB_in j1)
  have hg1 := Lib.hid j2
  clear j1 j2
  clear ha
  go_enter Try.func165, Try.ntmps165
  go_wp2_with fail
  have Xb : Ext w (w.alloc (.cells #[.int .i64 b1, u1, v1] 36)) := (by repeat (first | exact Ext.refl _ | assumption | apply Ext.drewN | apply Ext.drew | apply Ext.alloc))
  have c10 : ((w.alloc (.cells #[.int .i64 b1, u1, v1] 36))).cell? ⟨w.heap.size, 0, none⟩ = some (.int .i64 b1) := (by first | (simp; done) | (rw [World.cell?_alloc_lt _ _ _ (by simp)]; simp; done) | (go_simp; done))
  have c11 : ((w.alloc (.cells #[.int .i64 b1, u1, v1] 36))).cell? ⟨w.heap.size, 1, none⟩ = some (u1) := (by first | (simp; done) | (rw [World.cell?_alloc_lt _ _ _ (by simp)]; simp; done) | (go_simp; done))
  have c12 : ((w.alloc (.cells #[.int .i64 b1, u1, v1] 36))).cell? ⟨w.heap.size, 2, none⟩ = some (v1) := (by first | (simp; done) | (rw [World.cell?_alloc_lt _ _ _ (by simp)]; simp; done) | (go_simp; done))
  go_region_held3 (fun w' => w'.cell? ⟨w.heap.size, 0, none⟩ = some (.int .i64 b1) ∧ w'.cell? ⟨w.heap.size, 1, none⟩ = some (u1) ∧ w'.cell? ⟨w.heap.size, 2, none⟩ = some (v1))
       (first
         | go_keep
         | exact ⟨Yw3.cell c10, Yw3.cell c11, Yw3.cell c12⟩
         | exact ⟨Yw2.cell c10, Yw2.cell c11, Yw2.cell c12⟩
         | exact ⟨Yw1.cell c10, Yw1.cell c11, Yw1.cell c12⟩)
       (first
         | (go_at_call 131; refine (both_c _ _ _ _ _ _ _ (i1.ext (by repeat (first | exact Ext.refl _ | assumption | apply Ext.drewN | apply Ext.drew | apply Ext.alloc))) (i2.ext (by repeat (first | exact Ext.refl _ | assumption | apply Ext.drewN | apply Ext.drew | apply Ext.alloc)))).mono ?_; rintro e w3 ⟨r3, rfl, i3, o3, xw3⟩; have Yw3 : Ext ((w.alloc (.cells #[.int .i64 b1, u1, v1] 36))) w3 := Yw2.trans (Ext.trans (by repeat (first | exact Ext.refl _ | assumption | apply Ext.drewN | apply Ext.drew | apply Ext.alloc)) xw3); replace i1 := i1.ext (Ext.trans (by repeat (first | exact Ext.refl _ | assumption | apply Ext.drewN | apply Ext.drew | apply Ext.alloc)) xw3); replace i2 := i2.ext (Ext.trans (by repeat (first | exact Ext.refl _ | assumption | apply Ext.drewN | apply Ext.drew | apply Ext.alloc)) xw3))
         | (go_at_call 132; refine (offsets_c b1 _ _ s1 t1 _ l1 m1 (h1.ext (Xb.trans (Yw1.trans (by repeat (first | exact Ext.refl _ | assumption | apply Ext.drewN | apply Ext.drew | apply Ext.alloc))))) (k1.ext (Xb.trans (Yw1.trans (by repeat (first | exact Ext.refl _ | assumption | apply Ext.drewN | apply Ext.drew | apply Ext.alloc))))) (by have := hg1.out; omega) hin1.out.2.2.2.2 (by have := hin1.out; omega)).mono ?_; rintro e w2 ⟨r2, rfl, i2, _, xw2⟩; have Yw2 : Ext ((w.alloc (.cells #[.int .i64 b1, u1, v1] 36))) w2 := Yw1.trans (Ext.trans (by repeat (first | exact Ext.refl _ | assumption | apply Ext.drewN | apply Ext.drew | apply Ext.alloc)) xw2); replace i1 := i1.ext (Ext.trans (by repeat (first | exact Ext.refl _ | assumption | apply Ext.drewN | apply Ext.drew | apply Ext.alloc)) xw2))
         | (go_at_call 132; refine (offsets_c b1 _ _ s1 t1 _ l1 m1 (h1.ext (Xb.trans (by repeat (first | exact Ext.refl _ | assumption | apply Ext.drewN | apply Ext.drew | apply Ext.alloc)))) (k1.ext (Xb.trans (by repeat (first | exact Ext.refl _ | assumption | apply Ext.drewN | apply Ext.drew | apply Ext.alloc)))) (by have := hg1.out; omega) hin1.out.2.2.2.2 (by have := hin1.out; omega)).mono ?_; rintro e w1 ⟨r1, rfl, i1, _, xw1⟩; have Yw1 : Ext ((w.alloc (.cells #[.int .i64 b1, u1, v1] 36))) w1 := Ext.trans (by repeat (first | exact Ext.refl _ | assumption | apply Ext.drewN | apply Ext.drew | apply Ext.alloc)) xw1))
  have Lw3 : Ext (w.alloc (.cells #[.int .i64 b1, u1, v1] 36)) w3 := Yw3
  have Xw3 : Ext w w3 := Xb.trans Lw3
  replace c10 := Lw3.cell c10
  replace c11 := Lw3.cell c11
  replace c12 := Lw3.cell c12
  have z1 : w.heap.size < w3.heap.size := World.block_lt_of_cell? _ _ c10
  have sw3 : (w.alloc (.cells #[.int .i64 b1, u1, v1] 36)).heap.size ≤ w3.heap.size := Lw3.size
  all_goals
    go_wp2_with fail
    go_ret
    rw [hcb.out]
    exact PInts.of o3 i3 (Ext.size (show Ext w _ from Xb.trans (Yw2.trans (by repeat (first | exact Ext.refl _ | assumption | apply Ext.drewN | apply Ext.drew | apply Ext.alloc))))) Xw3

set_option maxHeartbeats 1600000 in
theorem implCellsOf_c (b1 : Int) (u1 v1 : Value) (s1 t1 : List Int) (w : World) (l1 m1 : Nat) (h1 : Ints w l1 u1 s1) (k1 : Ints w m1 v1 t1) :
    Calls Try.prog 74 #[.agg #[.int .i64 b1, u1, v1]] w (PInts w (cellA b1 s1 t1)) := by
  cases ha : viewB b1 s1 t1
  · have hr := Lib.hid (show cellA b1 s1 t1 = [] by unfold cellA; rw [ha]; rfl)
    go_enter Try.func74, Try.ntmps74
    go_wp2_with fail
    refine (isView_c b1 _ _ s1 t1 _ l1 m1 (h1.ext (by repeat (first | exact Ext.refl _ | assumption | apply Ext.drewN | apply Ext.drew | apply Ext.alloc))) (k1.ext (by repeat (first | exact Ext.refl _ | assumption | apply Ext.drewN | apply Ext.drew | apply Ext.alloc)))).mono ?_
    rintro e w1 ⟨rfl, xw1⟩
    have Lw1 : Ext w w1 := Ext.trans (by repeat (first | exact Ext.refl _ | assumption | apply Ext.drewN | apply Ext.drew | apply Ext.alloc)) xw1
    have Xw1 : Ext w w1 := Lw1
    have c10 : w1.cell? ⟨w.heap.size, 0, none⟩ = some (.int .i64 b1) := xw1.cell (by first | (simp; done) | (rw [World.cell?_alloc_lt _ _ _ (by simp)]; simp; done) | (go_simp; done))
    have c11 : w1.cell? ⟨w.heap.size, 1, none⟩ = some (u1) := xw1.cell (by first | (simp; done) | (rw [World.cell?_alloc_lt _ _ _ (by simp)]; simp; done) | (go_simp; done))
    have c12 : w1.cell? ⟨w.heap.size, 2, none⟩ = some (v1) := xw1.cell (by first | (simp; done) | (rw [World.cell?_alloc_lt _ _ _ (by simp)]; simp; done) | (go_simp; done))
    have z1 : w.heap.size < w1.heap.size := World.block_lt_of_cell? _ _ c10
    have sw1 : w.heap.size ≤ w1.heap.size := Lw1.size
    rw [ha]
    go_wp2_with fail
    go_ret
    rw [hr.out]
    exact PInts.nilv Xw1
  · have hr := Lib.hid (show cellA b1 s1 t1 = cellsL b1 s1 t1 by unfold cellA; rw [ha]; rfl)
    have ha' := Lib.hid ha
    clear ha
    go_enter Try.func74, Try.ntmps74
    go_wp2_with fail
    refine (isView_c b1 _ _ s1 t1 _ l1 m1 (h1.ext (by repeat (first | exact Ext.refl _ | assumption | apply Ext.drewN | apply Ext.drew | apply Ext.alloc))) (k1.ext (by repeat (first | exact Ext.refl _ | assumption | apply Ext.drewN | apply Ext.drew | apply Ext.alloc)))).mono ?_
    rintro e w1 ⟨rfl, xw1⟩
    have Lw1 : Ext w w1 := Ext.trans (by repeat (first | exact Ext.refl _ | assumption | apply Ext.drewN | apply Ext.drew | apply Ext.alloc)) xw1
    have Xw1 : Ext w w1 := Lw1
    have c10 : w1.cell? ⟨w.heap.size, 0, none⟩ = some (.int .i64 b1) := xw1.cell (by first | (simp; done) | (rw [World.cell?_alloc_lt _ _ _ (by simp)]; simp; done) | (go_simp; done))
    have c11 : w1.cell? ⟨w.heap.size, 1, none⟩ = some (u1) := xw1.cell (by first | (simp; done) | (rw [World.cell?_alloc_lt _ _ _ (by simp)]; simp; done) | (go_simp; done))
    have c12 : w1.cell? ⟨w.heap.size, 2, none⟩ = some (v1) := xw1.cell (by first | (simp; done) | (rw [World.cell?_alloc_lt _ _ _ (by simp)]; simp; done) | (go_simp; done))
    have z1 : w.heap.size < w1.heap.size := World.block_lt_of_cell? _ _ c10
    have sw1 : w.heap.size ≤ w1.heap.size := Lw1.size
    rw [ha'.out]
    go_wp2_with fail
    refine (cellsOf_c b1 _ _ s1 t1 _ l1 m1 (h1.ext (Xw1.trans (by repeat (first | exact Ext.refl _ | assumption | apply Ext.drewN | apply Ext.drew | apply Ext.alloc)))) (k1.ext (Xw1.trans (by repeat (first | exact Ext.refl _ | assumption | apply Ext.drewN | apply Ext.drew | apply Ext.alloc)))) ha'.out).mono ?_
    rintro e w2 ⟨r, rfl, i, o, xw2⟩
    have Lw2 : Ext w1 w2 := Ext.trans (by repeat (first | exact Ext.refl _ | assumption | apply Ext.drewN | apply Ext.drew | apply Ext.alloc)) xw2
    have Xw2 : Ext w w2 := Xw1.trans Lw2
    replace c10 := Lw2.cell c10
    replace c11 := Lw2.cell c11
    replace c12 := Lw2.cell c12
    have z2 : w.heap.size < w2.heap.size := World.block_lt_of_cell? _ _ c10
    have sw2 : w1.heap.size ≤ w2.heap.size := Lw2.size
    go_wp2_with fail
    go_ret
    rw [hr.out]
    exact PInts.of o i (Ext.size (show Ext w _ from Xw1.trans (by repeat (first | exact Ext.refl _ | assumption | apply Ext.drewN | apply Ext.drew | apply Ext.alloc)))) Xw2

set_option maxHeartbeats 1600000 in
theorem specCellsOf_c (b1 : Int) (u1 v1 : Value) (s1 t1 : List Int) (w : World) (l1 m1 : Nat) (h1 : Ints w l1 u1 s1) (k1 : Ints w m1 v1 t1) :
    Calls Try.prog 73 #[.agg #[.int .i64 b1, u1, v1]] w (PInts w (cellA b1 s1 t1)) := by
  cases ha : viewB b1 s1 t1
  · have hr := Lib.hid (show cellA b1 s1 t1 = [] by unfold cellA; rw [ha]; rfl)
    go_enter Try.func73, Try.ntmps73
    go_wp2_with fail
    refine (validView_c b1 _ _ s1 t1 _ l1 m1 (h1.ext (by repeat (first | exact Ext.refl _ | assumption | apply Ext.drewN | apply Ext.drew | apply Ext.alloc))) (k1.ext (by repeat (first | exact Ext.refl _ | assumption | apply Ext.drewN | apply Ext.drew | apply Ext.alloc)))).mono ?_
    rintro e w1 ⟨rfl, xw1⟩
    have Lw1 : Ext w w1 := Ext.trans (by repeat (first | exact Ext.refl _ | assumption | apply Ext.drewN | apply Ext.drew | apply Ext.alloc)) xw1
    have Xw1 : Ext w w1 := Lw1
    have c10 : w1.cell? ⟨w.heap.size, 0, none⟩ = some (.int .i64 b1) := xw1.cell (by first | (simp; done) | (rw [World.cell?_alloc_lt _ _ _ (by simp)]; simp; done) | (go_simp; done))
    have c11 : w1.cell? ⟨w.heap.size, 1, none⟩ = some (u1) := xw1.cell (by first | (simp; done) | (rw [World.cell?_alloc_lt _ _ _ (by simp)]; simp; done) | (go_simp; done))
    have c12 : w1.cell? ⟨w.heap.size, 2, none⟩ = some (v1) := xw1.cell (by first | (simp; done) | (rw [World.cell?_alloc_lt _ _ _ (by simp)]; simp; done) | (go_simp; done))
    have z1 : w.heap.size < w1.heap.size := World.block_lt_of_cell? _ _ c10
    have sw1 : w.heap.size ≤ w1.heap.size := Lw1.size
    rw [ha]
    go_wp2_with fail
    go_ret
    rw [hr.out]
    exact PInts.nilv Xw1
  · have hr := Lib.hid (show cellA b1 s1 t1 = cellsL b1 s1 t1 by unfold cellA; rw [ha]; rfl)
    have ha' := Lib.hid ha
    clear ha
    go_enter Try.func73, Try.ntmps73
    go_wp2_with fail
    refine (validView_c b1 _ _ s1 t1 _ l1 m1 (h1.ext (by repeat (first | exact Ext.refl _ | assumption | apply Ext.drewN | apply Ext.drew | apply Ext.alloc))) (k1.ext (by repeat (first | exact Ext.refl _ | assumption | apply Ext.drewN | apply Ext.drew | apply Ext.alloc)))).mono ?_
    rintro e w1 ⟨rfl, xw1⟩
    have Lw1 : Ext w w1 := Ext.trans (by repeat (first | exact Ext.refl _ | assumption | apply Ext.drewN | apply Ext.drew | apply Ext.alloc)) xw1
    have Xw1 : Ext w w1 := Lw1
    have c10 : w1.cell? ⟨w.heap.size, 0, none⟩ = some (.int .i64 b1) := xw1.cell (by first | (simp; done) | (rw [World.cell?_alloc_lt _ _ _ (by simp)]; simp; done) | (go_simp; done))
    have c11 : w1.cell? ⟨w.heap.size, 1, none⟩ = some (u1) := xw1.cell (by first | (simp; done) | (rw [World.cell?_alloc_lt _ _ _ (by simp)]; simp; done) | (go_simp; done))
    have c12 : w1.cell? ⟨w.heap.size, 2, none⟩ = some (v1) := xw1.cell (by first | (simp; done) | (rw [World.cell?_alloc_lt _ _ _ (by simp)]; simp; done) | (go_simp; done))
    have z1 : w.heap.size < w1.heap.size := World.block_lt_of_cell? _ _ c10
    have sw1 : w.heap.size ≤ w1.heap.size := Lw1.size
    rw [ha'.out]
    go_wp2_with fail
    refine (used_c b1 _ _ s1 t1 _ l1 m1 (h1.ext (Xw1.trans (by repeat (first | exact Ext.refl _ | assumption | apply Ext.drewN | apply Ext.drew | apply Ext.alloc)))) (k1.ext (Xw1.trans (by repeat (first | exact Ext.refl _ | assumption | apply Ext.drewN | apply Ext.drew | apply Ext.alloc)))) ha'.out).mono ?_
    rintro e w2 ⟨r, rfl, i, o, xw2⟩
    have Lw2 : Ext w1 w2 := Ext.trans (by repeat (first | exact Ext.refl _ | assumption | apply Ext.drewN | apply Ext.drew | apply Ext.alloc)) xw2
    have Xw2 : Ext w w2 := Xw1.trans Lw2
    replace c10 := Lw2.cell c10
    replace c11 := Lw2.cell c11
    replace c12 := Lw2.cell c12
    have z2 : w.heap.size < w2.heap.size := World.block_lt_of_cell? _ _ c10
    have sw2 : w1.heap.size ≤ w2.heap.size := Lw2.size
    go_wp2_with fail
    go_ret
    rw [hr.out]
    exact PInts.of o i (Ext.size (show Ext w _ from Xw1.trans (by repeat (first | exact Ext.refl _ | assumption | apply Ext.drewN | apply Ext.drew | apply Ext.alloc)))) Xw2

set_option maxHeartbeats 1600000 in
theorem implOverlapOf_c (b1 : Int) (u1 v1 : Value) (s1 t1 : List Int) (b2 : Int) (u2 v2 : Value) (s2 t2 : List Int) (w : World) (l1 m1 l2 m2 : Nat) (h1 : Ints w l1 u1 s1) (k1 : Ints w m1 v1 t1) (h2 : Ints w l2 u2 s2) (k2 : Ints w m2 v2 t2) :
    Calls Try.prog 92 #[.agg #[.int .i64 b1, u1, v1], .agg #[.int .i64 b2, u2, v2]] w (PInts w (overA b1 s1 t1 b2 s2 t2)) := by
  cases ha : viewB b1 s1 t1
  · have hr := Lib.hid (show overA b1 s1 t1 b2 s2 t2 = [] by unfold overA; rw [ha]; rfl)
    go_enter Try.func92, Try.ntmps92
    go_wp2_with fail
    refine (isView_c b1 _ _ s1 t1 _ l1 m1 (h1.ext (by repeat (first | exact Ext.refl _ | assumption | apply Ext.drewN | apply Ext.drew | apply Ext.alloc))) (k1.ext (by repeat (first | exact Ext.refl _ | assumption | apply Ext.drewN | apply Ext.drew | apply Ext.alloc)))).mono ?_
    rintro e w1 ⟨rfl, xw1⟩
    have Lw1 : Ext w w1 := Ext.trans (by repeat (first | exact Ext.refl _ | assumption | apply Ext.drewN | apply Ext.drew | apply Ext.alloc)) xw1
    have Xw1 : Ext w w1 := Lw1
    have c10 : w1.cell? ⟨w.heap.size, 0, none⟩ = some (.int .i64 b1) := xw1.cell (by first | (simp; done) | (rw [World.cell?_alloc_lt _ _ _ (by simp)]; simp; done) | (go_simp; done))
    have c11 : w1.cell? ⟨w.heap.size, 1, none⟩ = some (u1) := xw1.cell (by first | (simp; done) | (rw [World.cell?_alloc_lt _ _ _ (by simp)]; simp; done) | (go_simp; done))
    have c12 : w1.cell? ⟨w.heap.size, 2, none⟩ = some (v1) := xw1.cell (by first | (simp; done) | (rw [World.cell?_alloc_lt _ _ _ (by simp)]; simp; done) | (go_simp; done))
    have c20 : w1.cell? ⟨w.heap.size + 1, 0, none⟩ = some (.int .i64 b2) := xw1.cell (by first | (simp; done) | (rw [World.cell?_alloc_lt _ _ _ (by simp)]; simp; done) | (go_simp; done))
    have c21 : w1.cell? ⟨w.heap.size + 1, 1, none⟩ = some (u2) := xw1.cell (by first | (simp; done) | (rw [World.cell?_alloc_lt _ _ _ (by simp)]; simp; done) | (go_simp; done))
    have c22 : w1.cell? ⟨w.heap.size + 1, 2, none⟩ = some (v2) := xw1.cell (by first | (simp; done) | (rw [World.cell?_alloc_lt _ _ _ (by simp)]; simp; done) | (go_simp; done))
    have z1 : w.heap.size < w1.heap.size := World.block_lt_of_cell? _ _ c10
    have z2 : w.heap.size + 1 < w1.heap.size := World.block_lt_of_cell? _ _ c20
    have sw1 : w.heap.size ≤ w1.heap.size := Lw1.size
    rw [ha]
    go_wp2_with fail
    go_ret
    rw [hr.out]
    exact PInts.nilv Xw1
  · cases hb : viewB b2 s2 t2
    · have hr := Lib.hid (show overA b1 s1 t1 b2 s2 t2 = [] by unfold overA; rw [ha, hb]; rfl)
      have ha' := Lib.hid ha
      have hb' := Lib.hid hb
      clear ha hb
      go_enter Try.func92, Try.ntmps92
      go_wp2_with fail
      refine (isView_c b1 _ _ s1 t1 _ l1 m1 (h1.ext (by repeat (first | exact Ext.refl _ | assumption | apply Ext.drewN | apply Ext.drew | apply Ext.alloc))) (k1.ext (by repeat (first | exact Ext.refl _ | assumption | apply Ext.drewN | apply Ext.drew | apply Ext.alloc)))).mono ?_
      rintro e w1 ⟨rfl, xw1⟩
      have Lw1 : Ext w w1 := Ext.trans (by repeat (first | exact Ext.refl _ | assumption | apply Ext.drewN | apply Ext.drew | apply Ext.alloc)) xw1
      have Xw1 : Ext w w1 := Lw1
      have c10 : w1.cell? ⟨w.heap.size, 0, none⟩ = some (.int .i64 b1) := xw1.cell (by first | (simp; done) | (rw [World.cell?_alloc_lt _ _ _ (by simp)]; simp; done) | (go_simp; done))
      have c11 : w1.cell? ⟨w.heap.size, 1, none⟩ = some (u1) := xw1.cell (by first | (simp; done) | (rw [World.cell?_alloc_lt _ _ _ (by simp)]; simp; done) | (go_simp; done))
      have c12 : w1.cell? ⟨w.heap.size, 2, none⟩ = some (v1) := xw1.cell (by first | (simp; done) | (rw [World.cell?_alloc_lt _ _ _ (by simp)]; simp; done) | (go_simp; done))
      have c20 : w1.cell? ⟨w.heap.size + 1, 0, none⟩ = some (.int .i64 b2) := xw1.cell (by first | (simp; done) | (rw [World.cell?_alloc_lt _ _ _ (by simp)]; simp; done) | (go_simp; done))
      have c21 : w1.cell? ⟨w.heap.size + 1, 1, none⟩ = some (u2) := xw1.cell (by first | (simp; done) | (rw [World.cell?_alloc_lt _ _ _ (by simp)]; simp; done) | (go_simp; done))
      have c22 : w1.cell? ⟨w.heap.size + 1, 2, none⟩ = some (v2) := xw1.cell (by first | (simp; done) | (rw [World.cell?_alloc_lt _ _ _ (by simp)]; simp; done) | (go_simp; done))
      have z1 : w.heap.size < w1.heap.size := World.block_lt_of_cell? _ _ c10
      have z2 : w.heap.size + 1 < w1.heap.size := World.block_lt_of_cell? _ _ c20
      have sw1 : w.heap.size ≤ w1.heap.size := Lw1.size
      rw [ha'.out]
      go_wp2_with fail
      refine (isView_c b2 _ _ s2 t2 _ l2 m2 (h2.ext (Xw1.trans (by repeat (first | exact Ext.refl _ | assumption | apply Ext.drewN | apply Ext.drew | apply Ext.alloc)))) (k2.ext (Xw1.trans (by repeat (first | exact Ext.refl _ | assumption | apply Ext.drewN | apply Ext.drew | apply Ext.alloc))))).mono ?_
      rintro e w2 ⟨rfl, xw2⟩
      have Lw2 : Ext w1 w2 := Ext.trans (by repeat (first | exact Ext.refl _ | assumption | apply Ext.drewN | apply Ext.drew | apply Ext.alloc)) xw2
      have Xw2 : Ext w w2 := Xw1.trans Lw2
      replace c10 := Lw2.cell c10
      replace c11 := Lw2.cell c11
      replace c12 := Lw2.cell c12
      replace c20 := Lw2.cell c20
      replace c21 := Lw2.cell c21
      replace c22 := Lw2.cell c22
      have z3 : w.heap.size < w2.heap.size := World.block_lt_of_cell? _ _ c10
      have z4 : w.heap.size + 1 < w2.heap.size := World.block_lt_of_cell? _ _ c20
      have sw2 : w1.heap.size ≤ w2.heap.size := Lw2.size
      rw [hb'.out]
      go_wp2_with fail
      go_ret
      rw [hr.out]
      exact PInts.nilv Xw2
    · have hr := Lib.hid (show overA b1 s1 t1 b2 s2 t2 = bothL (offsL b1 s1 t1) (offsL b2 s2 t2) by unfold overA; rw [ha, hb]; rfl)
      have ho := Lib.hid (over_both (base2 := b2) (shape2 := s2) (strides2 := t2) ha)
      have ha' := Lib.hid ha
      have hb' := Lib.hid hb
      clear ha hb
      go_enter Try.func92, Try.ntmps92
      go_wp2_with fail
      refine (isView_c b1 _ _ s1 t1 _ l1 m1 (h1.ext (by repeat (first | exact Ext.refl _ | assumption | apply Ext.drewN | apply Ext.drew | apply Ext.alloc))) (k1.ext (by repeat (first | exact Ext.refl _ | assumption | apply Ext.drewN | apply Ext.drew | apply Ext.alloc)))).mono ?_
      rintro e w1 ⟨rfl, xw1⟩
      have Lw1 : Ext w w1 := Ext.trans (by repeat (first | exact Ext.refl _ | assumption | apply Ext.drewN | apply Ext.drew | apply Ext.alloc)) xw1
      have Xw1 : Ext w w1 := Lw1
      have c10 : w1.cell? ⟨w.heap.size, 0, none⟩ = some (.int .i64 b1) := xw1.cell (by first | (simp; done) | (rw [World.cell?_alloc_lt _ _ _ (by simp)]; simp; done) | (go_simp; done))
      have c11 : w1.cell? ⟨w.heap.size, 1, none⟩ = some (u1) := xw1.cell (by first | (simp; done) | (rw [World.cell?_alloc_lt _ _ _ (by simp)]; simp; done) | (go_simp; done))
      have c12 : w1.cell? ⟨w.heap.size, 2, none⟩ = some (v1) := xw1.cell (by first | (simp; done) | (rw [World.cell?_alloc_lt _ _ _ (by simp)]; simp; done) | (go_simp; done))
      have c20 : w1.cell? ⟨w.heap.size + 1, 0, none⟩ = some (.int .i64 b2) := xw1.cell (by first | (simp; done) | (rw [World.cell?_alloc_lt _ _ _ (by simp)]; simp; done) | (go_simp; done))
      have c21 : w1.cell? ⟨w.heap.size + 1, 1, none⟩ = some (u2) := xw1.cell (by first | (simp; done) | (rw [World.cell?_alloc_lt _ _ _ (by simp)]; simp; done) | (go_simp; done))
      have c22 : w1.cell? ⟨w.heap.size + 1, 2, none⟩ = some (v2) := xw1.cell (by first | (simp; done) | (rw [World.cell?_alloc_lt _ _ _ (by simp)]; simp; done) | (go_simp; done))
      have z1 : w.heap.size < w1.heap.size := World.block_lt_of_cell? _ _ c10
      have z2 : w.heap.size + 1 < w1.heap.size := World.block_lt_of_cell? _ _ c20
      have sw1 : w.heap.size ≤ w1.heap.size := Lw1.size
      rw [ha'.out]
      go_wp2_with fail
      refine (isView_c b2 _ _ s2 t2 _ l2 m2 (h2.ext (Xw1.trans (by repeat (first | exact Ext.refl _ | assumption | apply Ext.drewN | apply Ext.drew | apply Ext.alloc)))) (k2.ext (Xw1.trans (by repeat (first | exact Ext.refl _ | assumption | apply Ext.drewN | apply Ext.drew | apply Ext.alloc))))).mono ?_
      rintro e w2 ⟨rfl, xw2⟩
      have Lw2 : Ext w1 w2 := Ext.trans (by repeat (first | exact Ext.refl _ | assumption | apply Ext.drewN | apply Ext.drew | apply Ext.alloc)) xw2
      have Xw2 : Ext w w2 := Xw1.trans Lw2
      replace c10 := Lw2.cell c10
      replace c11 := Lw2.cell c11
      replace c12 := Lw2.cell c12
      replace c20 := Lw2.cell c20
      replace c21 := Lw2.cell c21
      replace c22 := Lw2.cell c22
      have z3 : w.heap.size < w2.heap.size := World.block_lt_of_cell? _ _ c10
      have z4 : w.heap.size + 1 < w2.heap.size := World.block_lt_of_cell? _ _ c20
      have sw2 : w1.heap.size ≤ w2.heap.size := Lw2.size
      rw [hb'.out]
      go_wp2_with fail
      refine (overlapOf_c b1 _ _ s1 t1 b2 _ _ s2 t2 _ l1 m1 l2 m2 (h1.ext (Xw2.trans (by repeat (first | exact Ext.refl _ | assumption | apply Ext.drewN | apply Ext.drew | apply Ext.alloc)))) (k1.ext (Xw2.trans (by repeat (first | exact Ext.refl _ | assumption | apply Ext.drewN | apply Ext.drew | apply Ext.alloc)))) (h2.ext (Xw2.trans (by repeat (first | exact Ext.refl _ | assumption | apply Ext.drewN | apply Ext.drew | apply Ext.alloc)))) (k2.ext (Xw2.trans (by repeat (first | exact Ext.refl _ | assumption | apply Ext.drewN | apply Ext.drew | apply Ext.alloc)))) ha'.out hb'.out).mono ?_
      rintro e w3 ⟨r, rfl, i, o, xw3⟩
      have Lw3 : Ext w2 w3 := Ext.trans (by repeat (first | exact Ext.refl _ | assumption | apply Ext.drewN | apply Ext.drew | apply Ext.alloc)) xw3
      have Xw3 : Ext w w3 := Xw2.trans Lw3
      replace c10 := Lw3.cell c10
      replace c11 := Lw3.cell c11
      replace c12 := Lw3.cell c12
      replace c20 := Lw3.cell c20
      replace c21 := Lw3.cell c21
      replace c22 := Lw3.cell c22
      have z5 : w.heap.size < w3.heap.size := World.block_lt_of_cell? _ _ c10
      have z6 : w.heap.size + 1 < w3.heap.size := World.block_lt_of_cell? _ _ c20
      have sw3 : w2.heap.size ≤ w3.heap.size := Lw3.size
      rw [ho.out] at i o
      go_wp2_with fail
      go_ret
      rw [hr.out]
      exact PInts.of o i (Ext.size (show Ext w _ from Xw2.trans (by repeat (first | exact Ext.refl _ | assumption | apply Ext.drewN | apply Ext.drew | apply Ext.alloc)))) Xw3

set_option maxHeartbeats 1600000 in
theorem specOverlapOf_c (b1 : Int) (u1 v1 : Value) (s1 t1 : List Int) (b2 : Int) (u2 v2 : Value) (s2 t2 : List Int) (w : World) (l1 m1 l2 m2 : Nat) (h1 : Ints w l1 u1 s1) (k1 : Ints w m1 v1 t1) (h2 : Ints w l2 u2 s2) (k2 : Ints w m2 v2 t2) :
    Calls Try.prog 91 #[.agg #[.int .i64 b1, u1, v1], .agg #[.int .i64 b2, u2, v2]] w (PInts w (overA b1 s1 t1 b2 s2 t2)) := by
  cases ha : viewB b1 s1 t1
  · have hr := Lib.hid (show overA b1 s1 t1 b2 s2 t2 = [] by unfold overA; rw [ha]; rfl)
    go_enter Try.func91, Try.ntmps91
    go_wp2_with fail
    refine (validView_c b1 _ _ s1 t1 _ l1 m1 (h1.ext (by repeat (first | exact Ext.refl _ | assumption | apply Ext.drewN | apply Ext.drew | apply Ext.alloc))) (k1.ext (by repeat (first | exact Ext.refl _ | assumption | apply Ext.drewN | apply Ext.drew | apply Ext.alloc)))).mono ?_
    rintro e w1 ⟨rfl, xw1⟩
    have Lw1 : Ext w w1 := Ext.trans (by repeat (first | exact Ext.refl _ | assumption | apply Ext.drewN | apply Ext.drew | apply Ext.alloc)) xw1
    have Xw1 : Ext w w1 := Lw1
    have c10 : w1.cell? ⟨w.heap.size, 0, none⟩ = some (.int .i64 b1) := xw1.cell (by first | (simp; done) | (rw [World.cell?_alloc_lt _ _ _ (by simp)]; simp; done) | (go_simp; done))
    have c11 : w1.cell? ⟨w.heap.size, 1, none⟩ = some (u1) := xw1.cell (by first | (simp; done) | (rw [World.cell?_alloc_lt _ _ _ (by simp)]; simp; done) | (go_simp; done))
    have c12 : w1.cell? ⟨w.heap.size, 2, none⟩ = some (v1) := xw1.cell (by first | (simp; done) | (rw [World.cell?_alloc_lt _ _ _ (by simp)]; simp; done) | (go_simp; done))
    have c20 : w1.cell? ⟨w.heap.size + 1, 0, none⟩ = some (.int .i64 b2) := xw1.cell (by first | (simp; done) | (rw [World.cell?_alloc_lt _ _ _ (by simp)]; simp; done) | (go_simp; done))
    have c21 : w1.cell? ⟨w.heap.size + 1, 1, none⟩ = some (u2) := xw1.cell (by first | (simp; done) | (rw [World.cell?_alloc_lt _ _ _ (by simp)]; simp; done) | (go_simp; done))
    have c22 : w1.cell? ⟨w.heap.size + 1, 2, none⟩ = some (v2) := xw1.cell (by first | (simp; done) | (rw [World.cell?_alloc_lt _ _ _ (by simp)]; simp; done) | (go_simp; done))
    have z1 : w.heap.size < w1.heap.size := World.block_lt_of_cell? _ _ c10
    have z2 : w.heap.size + 1 < w1.heap.size := World.block_lt_of_cell? _ _ c20
    have sw1 : w.heap.size ≤ w1.heap.size := Lw1.size
    rw [ha]
    go_wp2_with fail
    go_ret
    rw [hr.out]
    exact PInts.nilv Xw1
  · cases hb : viewB b2 s2 t2
    · have hr := Lib.hid (show overA b1 s1 t1 b2 s2 t2 = [] by unfold overA; rw [ha, hb]; rfl)
      have ha' := Lib.hid ha
      have hb' := Lib.hid hb
      clear ha hb
      go_enter Try.func91, Try.ntmps91
      go_wp2_with fail
      refine (validView_c b1 _ _ s1 t1 _ l1 m1 (h1.ext (by repeat (first | exact Ext.refl _ | assumption | apply Ext.drewN | apply Ext.drew | apply Ext.alloc))) (k1.ext (by repeat (first | exact Ext.refl _ | assumption | apply Ext.drewN | apply Ext.drew | apply Ext.alloc)))).mono ?_
      rintro e w1 ⟨rfl, xw1⟩
      have Lw1 : Ext w w1 := Ext.trans (by repeat (first | exact Ext.refl _ | assumption | apply Ext.drewN | apply Ext.drew | apply Ext.alloc)) xw1
      have Xw1 : Ext w w1 := Lw1
      have c10 : w1.cell? ⟨w.heap.size, 0, none⟩ = some (.int .i64 b1) := xw1.cell (by first | (simp; done) | (rw [World.cell?_alloc_lt _ _ _ (by simp)]; simp; done) | (go_simp; done))
      have c11 : w1.cell? ⟨w.heap.size, 1, none⟩ = some (u1) := xw1.cell (by first | (simp; done) | (rw [World.cell?_alloc_lt _ _ _ (by simp)]; simp; done) | (go_simp; done))
      have c12 : w1.cell? ⟨w.heap.size, 2, none⟩ = some (v1) := xw1.cell (by first | (simp; done) | (rw [World.cell?_alloc_lt _ _ _ (by simp)]; simp; done) | (go_simp; done))
      have c20 : w1.cell? ⟨w.heap.size + 1, 0, none⟩ = some (.int .i64 b2) := xw1.cell (by first | (simp; done) | (rw [World.cell?_alloc_lt _ _ _ (by simp)]; simp; done) | (go_simp; done))
      have c21 : w1.cell? ⟨w.heap.size + 1, 1, none⟩ = some (u2) := xw1.cell (by first | (simp; done) | (rw [World.cell?_alloc_lt _ _ _ (by simp)]; simp; done) | (go_simp; done))
      have c22 : w1.cell? ⟨w.heap.size + 1, 2, none⟩ = some (v2) := xw1.cell (by first | (simp; done) | (rw [World.cell?_alloc_lt _ _ _ (by simp)]; simp; done) | (go_simp; done))
      have z1 : w.heap.size < w1.heap.size := World.block_lt_of_cell? _ _ c10
      have z2 : w.heap.size + 1 < w1.heap.size := World.block_lt_of_cell? _ _ c20
      have sw1 : w.heap.size ≤ w1.heap.size := Lw1.size
      rw [ha'.out]
      go_wp2_with fail
      refine (validView_c b2 _ _ s2 t2 _ l2 m2 (h2.ext (Xw1.trans (by repeat (first | exact Ext.refl _ | assumption | apply Ext.drewN | apply Ext.drew | apply Ext.alloc)))) (k2.ext (Xw1.trans (by repeat (first | exact Ext.refl _ | assumption | apply Ext.drewN | apply Ext.drew | apply Ext.alloc))))).mono ?_
      rintro e w2 ⟨rfl, xw2⟩
      have Lw2 : Ext w1 w2 := Ext.trans (by repeat (first | exact Ext.refl _ | assumption | apply Ext.drewN | apply Ext.drew | apply Ext.alloc)) xw2
      have Xw2 : Ext w w2 := Xw1.trans Lw2
      replace c10 := Lw2.cell c10
      replace c11 := Lw2.cell c11
      replace c12 := Lw2.cell c12
      replace c20 := Lw2.cell c20
      replace c21 := Lw2.cell c21
      replace c22 := Lw2.cell c22
      have z3 : w.heap.size < w2.heap.size := World.block_lt_of_cell? _ _ c10
      have z4 : w.heap.size + 1 < w2.heap.size := World.block_lt_of_cell? _ _ c20
      have sw2 : w1.heap.size ≤ w2.heap.size := Lw2.size
      rw [hb'.out]
      go_wp2_with fail
      go_ret
      rw [hr.out]
      exact PInts.nilv Xw2
    · have hr := Lib.hid (show overA b1 s1 t1 b2 s2 t2 = bothL (offsL b1 s1 t1) (offsL b2 s2 t2) by unfold overA; rw [ha, hb]; rfl)
      have ha' := Lib.hid ha
      have hb' := Lib.hid hb
      obtain ⟨j1, j2, _⟩ := viewB_in ha
      have hin1 := Lib.hid (shapeB_in j1)
      have hg1 := Lib.hid j2
      clear j1 j2
      obtain ⟨j1, j2, _⟩ := viewB_in hb
      have hin2 := Lib.hid (shapeB_in j1)
      have hg2 := Lib.hid j2
      clear j1 j2
      clear ha hb
      go_enter Try.func91, Try.ntmps91
      go_wp2_with fail
      refine (validView_c b1 _ _ s1 t1 _ l1 m1 (h1.ext (by repeat (first | exact Ext.refl _ | assumption | apply Ext.drewN | apply Ext.drew | apply Ext.alloc))) (k1.ext (by repeat (first | exact Ext.refl _ | assumption | apply Ext.drewN | apply Ext.drew | apply Ext.alloc)))).mono ?_
      rintro e w1 ⟨rfl, xw1⟩
      have Lw1 : Ext w w1 := Ext.trans (by repeat (first | exact Ext.refl _ | assumption | apply Ext.drewN | apply Ext.drew | apply Ext.alloc)) xw1
      have Xw1 : Ext w w1 := Lw1
      have c10 : w1.cell? ⟨w.heap.size, 0, none⟩ = some (.int .i64 b1) := xw1.cell (by first | (simp; done) | (rw [World.cell?_alloc_lt _ _ _ (by simp)]; simp; done) | (go_simp; done))
      have c11 : w1.cell? ⟨w.heap.size, 1, none⟩ = some (u1) := xw1.cell (by first | (simp; done) | (rw [World.cell?_alloc_lt _ _ _ (by simp)]; simp; done) | (go_simp; done))
      have c12 : w1.cell? ⟨w.heap.size, 2, none⟩ = some (v1) := xw1.cell (by first | (simp; done) | (rw [World.cell?_alloc_lt _ _ _ (by simp)]; simp; done) | (go_simp; done))
      have c20 : w1.cell? ⟨w.heap.size + 1, 0, none⟩ = some (.int .i64 b2) := xw1.cell (by first | (simp; done) | (rw [World.cell?_alloc_lt _ _ _ (by simp)]; simp; done) | (go_simp; done))
      have c21 : w1.cell? ⟨w.heap.size + 1, 1, none⟩ = some (u2) := xw1.cell (by first | (simp; done) | (rw [World.cell?_alloc_lt _ _ _ (by simp)]; simp; done) | (go_simp; done))
      have c22 : w1.cell? ⟨w.heap.size + 1, 2, none⟩ = some (v2) := xw1.cell (by first | (simp; done) | (rw [World.cell?_alloc_lt _ _ _ (by simp)]; simp; done) | (go_simp; done))
      have z1 : w.heap.size < w1.heap.size := World.block_lt_of_cell? _ _ c10
      have z2 : w.heap.size + 1 < w1.heap.size := World.block_lt_of_cell? _ _ c20
      have sw1 : w.heap.size ≤ w1.heap.size := Lw1.size
      rw [ha'.out]
      go_wp2_with fail
      refine (validView_c b2 _ _ s2 t2 _ l2 m2 (h2.ext (Xw1.trans (by repeat (first | exact Ext.refl _ | assumption | apply Ext.drewN | apply Ext.drew | apply Ext.alloc)))) (k2.ext (Xw1.trans (by repeat (first | exact Ext.refl _ | assumption | apply Ext.drewN | apply Ext.drew | apply Ext.alloc))))).mono ?_
      rintro e w2 ⟨rfl, xw2⟩
      have Lw2 : Ext w1 w2 := Ext.trans (by repeat (first | exact Ext.refl _ | assumption | apply Ext.drewN | apply Ext.drew | apply Ext.alloc)) xw2
      have Xw2 : Ext w w2 := Xw1.trans Lw2
      replace c10 := Lw2.cell c10
      replace c11 := Lw2.cell c11
      replace c12 := Lw2.cell c12
      replace c20 := Lw2.cell c20
      replace c21 := Lw2.cell c21
      replace c22 := Lw2.cell c22
      have z3 : w.heap.size < w2.heap.size := World.block_lt_of_cell? _ _ c10
      have z4 : w.heap.size + 1 < w2.heap.size := World.block_lt_of_cell? _ _ c20
      have sw2 : w1.heap.size ≤ w2.heap.size := Lw2.size
      rw [hb'.out]
      go_wp2_with fail
      go_region_held3 (fun w' => w'.cell? ⟨w.heap.size, 0, none⟩ = some (.int .i64 b1) ∧ w'.cell? ⟨w.heap.size, 1, none⟩ = some (u1) ∧ w'.cell? ⟨w.heap.size, 2, none⟩ = some (v1) ∧ w'.cell? ⟨w.heap.size + 1, 0, none⟩ = some (.int .i64 b2) ∧ w'.cell? ⟨w.heap.size + 1, 1, none⟩ = some (u2) ∧ w'.cell? ⟨w.heap.size + 1, 2, none⟩ = some (v2))
           (first
             | go_keep
             | exact ⟨Yw5.cell c10, Yw5.cell c11, Yw5.cell c12, Yw5.cell c20, Yw5.cell c21, Yw5.cell c22⟩
             | exact ⟨Yw4.cell c10, Yw4.cell c11, Yw4.cell c12, Yw4.cell c20, Yw4.cell c21, Yw4.cell c22⟩
             | exact ⟨Yw3.cell c10, Yw3.cell c11, Yw3.cell c12, Yw3.cell c20, Yw3.cell c21, Yw3.cell c22⟩)
           (first
             | (go_at_call 131; refine (both_c _ _ _ _ _ _ _ (i1.ext (by repeat (first | exact Ext.refl _ | assumption | apply Ext.drewN | apply Ext.drew | apply Ext.alloc))) (i2.ext (by repeat (first | exact Ext.refl _ | assumption | apply Ext.drewN | apply Ext.drew | apply Ext.alloc)))).mono ?_; rintro e w5 ⟨r3, rfl, i3, o3, xw5⟩; have Yw5 : Ext (w2) w5 := Yw4.trans (Ext.trans (by repeat (first | exact Ext.refl _ | assumption | apply Ext.drewN | apply Ext.drew | apply Ext.alloc)) xw5); replace i1 := i1.ext (Ext.trans (by repeat (first | exact Ext.refl _ | assumption | apply Ext.drewN | apply Ext.drew | apply Ext.alloc)) xw5); replace i2 := i2.ext (Ext.trans (by repeat (first | exact Ext.refl _ | assumption | apply Ext.drewN | apply Ext.drew | apply Ext.alloc)) xw5))
             | (go_at_call 132; refine (offsets_c b2 _ _ s2 t2 _ l2 m2 (h2.ext (Xw2.trans (Yw3.trans (by repeat (first | exact Ext.refl _ | assumption | apply Ext.drewN | apply Ext.drew | apply Ext.alloc))))) (k2.ext (Xw2.trans (Yw3.trans (by repeat (first | exact Ext.refl _ | assumption | apply Ext.drewN | apply Ext.drew | apply Ext.alloc))))) (by have := hg2.out; omega) hin2.out.2.2.2.2 (by have := hin2.out; omega)).mono ?_; rintro e w4 ⟨r2, rfl, i2, _, xw4⟩; have Yw4 : Ext (w2) w4 := Yw3.trans (Ext.trans (by repeat (first | exact Ext.refl _ | assumption | apply Ext.drewN | apply Ext.drew | apply Ext.alloc)) xw4); replace i1 := i1.ext (Ext.trans (by repeat (first | exact Ext.refl _ | assumption | apply Ext.drewN | apply Ext.drew | apply Ext.alloc)) xw4))
             | (go_at_call 132; refine (offsets_c b1 _ _ s1 t1 _ l1 m1 (h1.ext (Xw2.trans (by repeat (first | exact Ext.refl _ | assumption | apply Ext.drewN | apply Ext.drew | apply Ext.alloc)))) (k1.ext (Xw2.trans (by repeat (first | exact Ext.refl _ | assumption | apply Ext.drewN | apply Ext.drew | apply Ext.alloc)))) (by have := hg1.out; omega) hin1.out.2.2.2.2 (by have := hin1.out; omega)).mono ?_; rintro e w3 ⟨r1, rfl, i1, _, xw3⟩; have Yw3 : Ext (w2) w3 := Ext.trans (by repeat (first | exact Ext.refl _ | assumption | apply Ext.drewN | apply Ext.drew | apply Ext.alloc)) xw3))
      have Lw5 : Ext w2 w5 := Yw5
      have Xw5 : Ext w w5 := Xw2.trans Lw5
      replace c10 := Lw5.cell c10
      replace c11 := Lw5.cell c11
      replace c12 := Lw5.cell c12
      replace c20 := Lw5.cell c20
      replace c21 := Lw5.cell c21
      replace c22 := Lw5.cell c22
      have z5 : w.heap.size < w5.heap.size := World.block_lt_of_cell? _ _ c10
      have z6 : w.heap.size + 1 < w5.heap.size := World.block_lt_of_cell? _ _ c20
      have sw5 : w2.heap.size ≤ w5.heap.size := Lw5.size
      all_goals
        go_wp2_with fail
        go_ret
        rw [hr.out]
        exact PInts.of o3 i3 (Ext.size (show Ext w _ from (Xw2.trans (Yw4.trans (by repeat (first | exact Ext.refl _ | assumption | apply Ext.drewN | apply Ext.drew | apply Ext.alloc)))))) Xw5

end Go.Proofs.Ytfdpoepidlmbaaa
