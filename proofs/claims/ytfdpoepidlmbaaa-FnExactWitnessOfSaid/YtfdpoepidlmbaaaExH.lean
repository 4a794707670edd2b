/- Walks: WitnessOf of the program and of the reference. -/
import Derived.Test.YtfdpoepidlmbaaaViewG
import Derived.Test.YtfdpoepidlmbaaaLp
import Derived.Test.YtfdpoepidlmbaaaExB
import Derived.Test.YtfdpoepidlmbaaaExG
namespace Go.Proofs.Ytfdpoepidlmbaaa
open Go.RowKit
set_option linter.unusedVariables false
set_option maxRecDepth 100000

def witT (b1 : Int) (s1 t1 : List Int) (b2 : Int) (s2 t2 : List Int) : Int × Int × Bool :=
  if meetB b1 s1 t1 b2 s2 t2 then (placeL (offsL b1 s1 t1) ((bothL (offsL b1 s1 t1) (offsL b2 s2 t2)).getD 0 0), placeL (offsL b2 s2 t2) ((bothL (offsL b1 s1 t1) (offsL b2 s2 t2)).getD 0 0), true) else (-1, -1, false)

theorem both_head {a b : List Int} (h : 0 < (bothL a b).length) : (bothL a b).getD 0 0 ∈ a ∧ (bothL a b).getD 0 0 ∈ b := by
  have := (bothL_spec a b).2 ((bothL a b).getD 0 0)
  have hm : (bothL a b).getD 0 0 ∈ bothL a b := by rw [getD_get h]; exact List.getElem_mem h
  exact (this.1 hm).2
theorem idx_place {xs : List Int} {x : Int} (h : x ∈ xs) : Lib.idxOf xs x = placeL xs x := by
  have h0 : 0 ≤ placeL xs x := of_decide_eq_true ((placeL_ge xs x).trans (List.contains_iff_mem.2 h))
  obtain ⟨k, e, hk, hx, hmin⟩ := placeL_some h0
  rw [e]
  unfold Lib.idxOf
  rw [Lib.idxFrom_hit x xs k 0 hk (by rw [getD_get hk]; exact hx) (fun j hj he => by rw [getD_get (by omega)] at he; have := hmin j (by omega) he; omega)]
  simp

set_option maxHeartbeats 6400000 in
theorem implWitnessOf_c (b1 : Int) (u1 v1 : Value) (s1 t1 : List Int) (b2 : Int) (u2 v2 : Value) (s2 t2 : List Int) (w : World) (l1 m1 l2 m2 : Nat) (h1 : Ints w l1 u1 s1) (k1 : Ints w m1 v1 t1) (h2 : Ints w l2 u2 s2) (k2 : Ints w m2 v2 t2) :
    Calls Try.prog 76 #[.agg #[.int .i64 b1, u1, v1], .agg #[.int .i64 b2, u2, v2]] w (fun e w' => e = .returned (.tuple #[.int .i64 (witT b1 s1 t1 b2 s2 t2).1, .int .i64 (witT b1 s1 t1 b2 s2 t2).2.1, .bool (witT b1 s1 t1 b2 s2 t2).2.2]) ∧ Ext w w') := by
  cases ha : viewB b1 s1 t1
  · have hr := Lib.hid (show witT b1 s1 t1 b2 s2 t2 = (-1, -1, false) by unfold witT meetB; rw [ha]; rfl)
    go_enter Try.func76, Try.ntmps76
    go_wp2_with fail
    refine (isView_c b1 _ _ s1 t1 _ l1 m1 (h1.ext (by repeat (first | exact Ext.refl _ | assumption | apply Ext.drewN | apply Ext.drew | apply Ext.alloc))) (k1.ext (by repeat (first | exact Ext.refl _ | assumption | apply Ext.drewN | apply Ext.drew | apply Ext.alloc)))).mono ?_
    rintro e w1 ⟨rfl, xw1⟩
    have Lw1 : Ext w w1 := Ext.trans (by repeat (first | exact Ext.refl _ | assumption | apply Ext.drewN | apply Ext.drew | apply Ext.alloc)) xw1
    have Xw1 : Ext w w1 := Lw1
    have c10 : w1.cell? ⟨w.heap.size, 0, none⟩ = some (.int .i64 b1) := xw1.cell (by first | (simp; done) | ((repeat rw [World.cell?_alloc_lt _ _ _ (by simp <;> omega)]); simp; done) | (go_simp; done))
    have c11 : w1.cell? ⟨w.heap.size, 1, none⟩ = some (u1) := xw1.cell (by first | (simp; done) | ((repeat rw [World.cell?_alloc_lt _ _ _ (by simp <;> omega)]); simp; done) | (go_simp; done))
    have c12 : w1.cell? ⟨w.heap.size, 2, none⟩ = some (v1) := xw1.cell (by first | (simp; done) | ((repeat rw [World.cell?_alloc_lt _ _ _ (by simp <;> omega)]); simp; done) | (go_simp; done))
    have c20 : w1.cell? ⟨w.heap.size + 1, 0, none⟩ = some (.int .i64 b2) := xw1.cell (by first | (simp; done) | ((repeat rw [World.cell?_alloc_lt _ _ _ (by simp <;> omega)]); simp; done) | (go_simp; done))
    have c21 : w1.cell? ⟨w.heap.size + 1, 1, none⟩ = some (u2) := xw1.cell (by first | (simp; done) | ((repeat rw [World.cell?_alloc_lt _ _ _ (by simp <;> omega)]); simp; done) | (go_simp; done))
    have c22 : w1.cell? ⟨w.heap.size + 1, 2, none⟩ = some (v2) := xw1.cell (by first | (simp; done) | ((repeat rw [World.cell?_alloc_lt _ _ _ (by simp <;> omega)]); simp; done) | (go_simp; done))
    have z1 : w.heap.size < w1.heap.size := World.block_lt_of_cell? _ _ c10
    have z2 : w.heap.size + 1 < w1.heap.size := World.block_lt_of_cell? _ _ c20
    have sw1 : w.heap.size ≤ w1.heap.size := Lw1.size
    rw [ha]
    go_wp2_with fail
    go_ret3
    exact ⟨by rw [hr.out] <;> rfl, Xw1⟩
  · cases hb : viewB b2 s2 t2
    · have hr := Lib.hid (show witT b1 s1 t1 b2 s2 t2 = (-1, -1, false) by unfold witT meetB; rw [ha, hb]; rfl)
      have ha' := Lib.hid ha
      have hb' := Lib.hid hb
      clear ha hb
      go_enter Try.func76, Try.ntmps76
      go_wp2_with fail
      refine (isView_c b1 _ _ s1 t1 _ l1 m1 (h1.ext (by repeat (first | exact Ext.refl _ | assumption | apply Ext.drewN | apply Ext.drew | apply Ext.alloc))) (k1.ext (by repeat (first | exact Ext.refl _ | assumption | apply Ext.drewN | apply Ext.drew | apply Ext.alloc)))).mono ?_
      rintro e w1 ⟨rfl, xw1⟩
      have Lw1 : Ext w w1 := Ext.trans (by repeat (first | exact Ext.refl _ | assumption | apply Ext.drewN | apply Ext.drew | apply Ext.alloc)) xw1
      have Xw1 : Ext w w1 := Lw1
      have c10 : w1.cell? ⟨w.heap.size, 0, none⟩ = some (.int .i64 b1) := xw1.cell (by first | (simp; done) | ((repeat rw [World.cell?_alloc_lt _ _ _ (by simp <;> omega)]); simp; done) | (go_simp; done))
      have c11 : w1.cell? ⟨w.heap.size, 1, none⟩ = some (u1) := xw1.cell (by first | (simp; done) | ((repeat rw [World.cell?_alloc_lt _ _ _ (by simp <;> omega)]); simp; done) | (go_simp; done))
      have c12 : w1.cell? ⟨w.heap.size, 2, none⟩ = some (v1) := xw1.cell (by first | (simp; done) | ((repeat rw [World.cell?_alloc_lt _ _ _ (by simp <;> omega)]); simp; done) | (go_simp; done))
      have c20 : w1.cell? ⟨w.heap.size + 1, 0, none⟩ = some (.int .i64 b2) := xw1.cell (by first | (simp; done) | ((repeat rw [World.cell?_alloc_lt _ _ _ (by simp <;> omega)]); simp; done) | (go_simp; done))
      have c21 : w1.cell? ⟨w.heap.size + 1, 1, none⟩ = some (u2) := xw1.cell (by first | (simp; done) | ((repeat rw [World.cell?_alloc_lt _ _ _ (by simp <;> omega)]); simp; done) | (go_simp; done))
      have c22 : w1.cell? ⟨w.heap.size + 1, 2, none⟩ = some (v2) := xw1.cell (by first | (simp; done) | ((repeat rw [World.cell?_alloc_lt _ _ _ (by simp <;> omega)]); simp; done) | (go_simp; done))
      have z1 : w.heap.size < w1.heap.size := World.block_lt_of_cell? _ _ c10
      have z2 : w.heap.size + 1 < w1.heap.size := World.block_lt_of_cell? _ _ c20
      have sw1 : w.heap.size ≤ w1.heap.size := Lw1.size
      rw [ha'.out]
      go_wp2_with fail
      refine (isView_c b2 _ _ s2 t2 _ l2 m2 (h2.ext (Xw1.trans (by repeat (first | exact Ext.refl _ | assumption | apply Ext.drewN | apply Ext.drew | apply Ext.alloc)))) (k2.ext (Xw1.trans (by repeat (first | exact Ext.refl _ | assumption | apply Ext.drewN | apply Ext.drew | apply Ext.alloc))))).mono ?_
      rintro e w2 ⟨rfl, xw2⟩
      have Lw2 : Ext w1 w2 := Ext.trans (by repeat (first | exact Ext.refl _ | assumption | apply Ext.drewN | apply Ext.drew | apply Ext.alloc)) xw2
      have Xw2 : Ext w w2 := Xw1.trans Lw2
      replace c10 := Lw2.cell c10
      replace c11 := Lw2.cell c11
      replace c12 := Lw2.cell c12
      replace c20 := Lw2.cell c20
      replace c21 := Lw2.cell c21
      replace c22 := Lw2.cell c22
      have z3 : w.heap.size < w2.heap.size := World.block_lt_of_cell? _ _ c10
      have z4 : w.heap.size + 1 < w2.heap.size := World.block_lt_of_cell? _ _ c20
      have sw2 : w1.heap.size ≤ w2.heap.size := Lw2.size
      rw [hb'.out]
      go_wp2_with fail
      go_ret3
      exact ⟨by rw [hr.out] <;> rfl, Xw2⟩
    · obtain ⟨j1, j2, _⟩ := viewB_in ha
      have hin1 := Lib.hid (shapeB_in j1)
      have hg1 := Lib.hid j2
      clear j1 j2
      obtain ⟨j1, j2, _⟩ := viewB_in hb
      have hin2 := Lib.hid (shapeB_in j1)
      have hg2 := Lib.hid j2
      clear j1 j2
      have ho := Lib.hid (over_both (base2 := b2) (shape2 := s2) (strides2 := t2) ha)
      have hm : meetB b1 s1 t1 b2 s2 t2 = decide (0 < (bothL (offsL b1 s1 t1) (offsL b2 s2 t2)).length) := by unfold meetB; rw [ha, hb]; rfl
      have ha' := Lib.hid ha
      have hb' := Lib.hid hb
      by_cases hp : 0 < (bothL (offsL b1 s1 t1) (offsL b2 s2 t2)).length
      · have hr := Lib.hid (show witT b1 s1 t1 b2 s2 t2 = (placeL (offsL b1 s1 t1) ((bothL (offsL b1 s1 t1) (offsL b2 s2 t2)).getD 0 0), placeL (offsL b2 s2 t2) ((bothL (offsL b1 s1 t1) (offsL b2 s2 t2)).getD 0 0), true) by unfold witT; rw [hm, decide_eq_true hp]; rfl)
        have hh := both_head hp
        have e1 := Lib.hid (idx_place hh.1)
        have e2 := Lib.hid (idx_place hh.2)
        have hp' := Lib.hid hp
        clear ha hb hm hh hp
        go_enter Try.func76, Try.ntmps76
        go_wp2_with fail
        refine (isView_c b1 _ _ s1 t1 _ l1 m1 (h1.ext (by repeat (first | exact Ext.refl _ | assumption | apply Ext.drewN | apply Ext.drew | apply Ext.alloc))) (k1.ext (by repeat (first | exact Ext.refl _ | assumption | apply Ext.drewN | apply Ext.drew | apply Ext.alloc)))).mono ?_
        rintro e w1 ⟨rfl, xw1⟩
        have Lw1 : Ext w w1 := Ext.trans (by repeat (first | exact Ext.refl _ | assumption | apply Ext.drewN | apply Ext.drew | apply Ext.alloc)) xw1
        have Xw1 : Ext w w1 := Lw1
        have c10 : w1.cell? ⟨w.heap.size, 0, none⟩ = some (.int .i64 b1) := xw1.cell (by first | (simp; done) | ((repeat rw [World.cell?_alloc_lt _ _ _ (by simp <;> omega)]); simp; done) | (go_simp; done))
        have c11 : w1.cell? ⟨w.heap.size, 1, none⟩ = some (u1) := xw1.cell (by first | (simp; done) | ((repeat rw [World.cell?_alloc_lt _ _ _ (by simp <;> omega)]); simp; done) | (go_simp; done))
        have c12 : w1.cell? ⟨w.heap.size, 2, none⟩ = some (v1) := xw1.cell (by first | (simp; done) | ((repeat rw [World.cell?_alloc_lt _ _ _ (by simp <;> omega)]); simp; done) | (go_simp; done))
        have c20 : w1.cell? ⟨w.heap.size + 1, 0, none⟩ = some (.int .i64 b2) := xw1.cell (by first | (simp; done) | ((repeat rw [World.cell?_alloc_lt _ _ _ (by simp <;> omega)]); simp; done) | (go_simp; done))
        have c21 : w1.cell? ⟨w.heap.size + 1, 1, none⟩ = some (u2) := xw1.cell (by first | (simp; done) | ((repeat rw [World.cell?_alloc_lt _ _ _ (by simp <;> omega)]); simp; done) | (go_simp; done))
        have c22 : w1.cell? ⟨w.heap.size + 1, 2, none⟩ = some (v2) := xw1.cell (by first | (simp; done) | ((repeat rw [World.cell?_alloc_lt _ _ _ (by simp <;> omega)]); simp; done) | (go_simp; done))
        have z1 : w.heap.size < w1.heap.size := World.block_lt_of_cell? _ _ c10
        have z2 : w.heap.size + 1 < w1.heap.size := World.block_lt_of_cell? _ _ c20
        have sw1 : w.heap.size ≤ w1.heap.size := Lw1.size
        rw [ha'.out]
        go_wp2_with fail
        refine (isView_c b2 _ _ s2 t2 _ l2 m2 (h2.ext (Xw1.trans (by repeat (first | exact Ext.refl _ | assumption | apply Ext.drewN | apply Ext.drew | apply Ext.alloc)))) (k2.ext (Xw1.trans (by repeat (first | exact Ext.refl _ | assumption | apply Ext.drewN | apply Ext.drew | apply Ext.alloc))))).mono ?_
        rintro e w2 ⟨rfl, xw2⟩
        have Lw2 : Ext w1 w2 := Ext.trans (by repeat (first | exact Ext.refl _ | assumption | apply Ext.drewN | apply Ext.drew | apply Ext.alloc)) xw2
        have Xw2 : Ext w w2 := Xw1.trans Lw2
        replace c10 := Lw2.cell c10
        replace c11 := Lw2.cell c11
        replace c12 := Lw2.cell c12
        replace c20 := Lw2.cell c20
        replace c21 := Lw2.cell c21
        replace c22 := Lw2.cell c22
        have z3 : w.heap.size < w2.heap.size := World.block_lt_of_cell? _ _ c10
        have z4 : w.heap.size + 1 < w2.heap.size := World.block_lt_of_cell? _ _ c20
        have sw2 : w1.heap.size ≤ w2.heap.size := Lw2.size
        rw [hb'.out]
        go_wp2_with fail
        refine (overlapOf_c b1 _ _ s1 t1 b2 _ _ s2 t2 _ l1 m1 l2 m2 (h1.ext (Xw2.trans (by repeat (first | exact Ext.refl _ | assumption | apply Ext.drewN | apply Ext.drew | apply Ext.alloc)))) (k1.ext (Xw2.trans (by repeat (first | exact Ext.refl _ | assumption | apply Ext.drewN | apply Ext.drew | apply Ext.alloc)))) (h2.ext (Xw2.trans (by repeat (first | exact Ext.refl _ | assumption | apply Ext.drewN | apply Ext.drew | apply Ext.alloc)))) (k2.ext (Xw2.trans (by repeat (first | exact Ext.refl _ | assumption | apply Ext.drewN | apply Ext.drew | apply Ext.alloc)))) ha'.out hb'.out).mono ?_
        rintro e w3 ⟨r3, rfl, i3, _, xw3⟩
        have Lw3 : Ext w2 w3 := Ext.trans (by repeat (first | exact Ext.refl _ | assumption | apply Ext.drewN | apply Ext.drew | apply Ext.alloc)) xw3
        have Xw3 : Ext w w3 := Xw2.trans Lw3
        replace c10 := Lw3.cell c10
        replace c11 := Lw3.cell c11
        replace c12 := Lw3.cell c12
        replace c20 := Lw3.cell c20
        replace c21 := Lw3.cell c21
        replace c22 := Lw3.cell c22
        have z5 : w.heap.size < w3.heap.size := World.block_lt_of_cell? _ _ c10
        have z6 : w.heap.size + 1 < w3.heap.size := World.block_lt_of_cell? _ _ c20
        have sw3 : w2.heap.size ≤ w3.heap.size := Lw3.size
        rw [ho.out] at i3
        obtain ⟨b3, o3, q3, rfl, c30⟩ := i3.head hp'.out
        have hpI : (0 : Int) < (bothL (offsL b1 s1 t1) (offsL b2 s2 t2)).length := by have := hp'.out; omega
        have hpN := hp'.out
        have hpE : (((bothL (offsL b1 s1 t1) (offsL b2 s2 t2)).length : Int) == 0) = false := by rw [beq_eq_false_iff_ne]; omega
        clear i3
        generalize hx0 : (bothL (offsL b1 s1 t1) (offsL b2 s2 t2)).getD 0 0 = x0 at *
        replace hx0 := Lib.hid hx0
        generalize hn0 : (bothL (offsL b1 s1 t1) (offsL b2 s2 t2)).length = n0 at *
        replace hn0 := Lib.hid hn0
        go_wp2_with fail
        go_region_held3 (fun w' => w'.cell? ⟨w.heap.size, 0, none⟩ = some (.int .i64 b1) ∧ w'.cell? ⟨w.heap.size, 1, none⟩ = some (u1) ∧ w'.cell? ⟨w.heap.size, 2, none⟩ = some (v1) ∧ w'.cell? ⟨w.heap.size + 1, 0, none⟩ = some (.int .i64 b2) ∧ w'.cell? ⟨w.heap.size + 1, 1, none⟩ = some (u2) ∧ w'.cell? ⟨w.heap.size + 1, 2, none⟩ = some (v2) ∧ w'.cell? ⟨b3, o3, none⟩ = some (.int .i64 x0))
             (first
               | go_keep
               | exact ⟨Yw5.cell c10, Yw5.cell c11, Yw5.cell c12, Yw5.cell c20, Yw5.cell c21, Yw5.cell c22, Yw5.cell c30⟩
               | exact ⟨Yw4.cell c10, Yw4.cell c11, Yw4.cell c12, Yw4.cell c20, Yw4.cell c21, Yw4.cell c22, Yw4.cell c30⟩)
             (first
               | (go_at_call 166; refine (index_c _ _ _ _ _ (i5.ext (by repeat (first | exact Ext.refl _ | assumption | apply Ext.drewN | apply Ext.drew | apply Ext.alloc)))).mono ?_; rintro e w' ⟨rfl, rfl⟩)
               | (go_at_call 167; refine (offsetsOf_c b2 _ _ s2 t2 _ l2 m2 (h2.ext (Xw3.trans (Yw4.trans (by repeat (first | exact Ext.refl _ | assumption | apply Ext.drewN | apply Ext.drew | apply Ext.alloc))))) (k2.ext (Xw3.trans (Yw4.trans (by repeat (first | exact Ext.refl _ | assumption | apply Ext.drewN | apply Ext.drew | apply Ext.alloc))))) (by have := hg2.out; omega) hin2.out.2.2.2.2 (by have := hin2.out; omega)).mono ?_; rintro e w5 ⟨r5, rfl, i5, _, xw5⟩; have Yw5 : Ext (w3) w5 := Yw4.trans (Ext.trans (by repeat (first | exact Ext.refl _ | assumption | apply Ext.drewN | apply Ext.drew | apply Ext.alloc)) xw5); replace i4 := i4.ext (Ext.trans (by repeat (first | exact Ext.refl _ | assumption | apply Ext.drewN | apply Ext.drew | apply Ext.alloc)) xw5))
               | (go_at_call 166; refine (index_c _ _ _ _ _ (i4.ext (by repeat (first | exact Ext.refl _ | assumption | apply Ext.drewN | apply Ext.drew | apply Ext.alloc)))).mono ?_; rintro e w' ⟨rfl, rfl⟩)
               | (go_at_call 167; refine (offsetsOf_c b1 _ _ s1 t1 _ l1 m1 (h1.ext (Xw3.trans (by repeat (first | exact Ext.refl _ | assumption | apply Ext.drewN | apply Ext.drew | apply Ext.alloc)))) (k1.ext (Xw3.trans (by repeat (first | exact Ext.refl _ | assumption | apply Ext.drewN | apply Ext.drew | apply Ext.alloc)))) (by have := hg1.out; omega) hin1.out.2.2.2.2 (by have := hin1.out; omega)).mono ?_; rintro e w4 ⟨r4, rfl, i4, _, xw4⟩; have Yw4 : Ext (w3) w4 := Ext.trans (by repeat (first | exact Ext.refl _ | assumption | apply Ext.drewN | apply Ext.drew | apply Ext.alloc)) xw4))
        have Lw5 : Ext w3 w5 := Yw5
        have Xw5 : Ext w w5 := Xw3.trans Lw5
        replace c10 := Lw5.cell c10
        replace c11 := Lw5.cell c11
        replace c12 := Lw5.cell c12
        replace c20 := Lw5.cell c20
        replace c21 := Lw5.cell c21
        replace c22 := Lw5.cell c22
        replace c30 := Lw5.cell c30
        have z7 : w.heap.size < w5.heap.size := World.block_lt_of_cell? _ _ c10
        have z8 : w.heap.size + 1 < w5.heap.size := World.block_lt_of_cell? _ _ c20
        have z9 : b3 < w5.heap.size := World.block_lt_of_cell? _ _ c30
        have sw5 : w3.heap.size ≤ w5.heap.size := Lw5.size
        clear c30
        all_goals
          go_wp2_with fail
          go_ret3
          exact ⟨by rw [hr.out, e1.out, e2.out] <;> rfl, Xw5.trans (by repeat (first | exact Ext.refl _ | assumption | apply Ext.drewN | apply Ext.drew | apply Ext.alloc))⟩
      · have hr := Lib.hid (show witT b1 s1 t1 b2 s2 t2 = (-1, -1, false) by unfold witT; rw [hm, decide_eq_false hp]; rfl)
        have hp' : (bothL (offsL b1 s1 t1) (offsL b2 s2 t2)).length = 0 := by omega
        have hpE := Lib.hid hp'
        clear ha hb hm hp hp'
        go_enter Try.func76, Try.ntmps76
        go_wp2_with fail
        refine (isView_c b1 _ _ s1 t1 _ l1 m1 (h1.ext (by repeat (first | exact Ext.refl _ | assumption | apply Ext.drewN | apply Ext.drew | apply Ext.alloc))) (k1.ext (by repeat (first | exact Ext.refl _ | assumption | apply Ext.drewN | apply Ext.drew | apply Ext.alloc)))).mono ?_
        rintro e w1 ⟨rfl, xw1⟩
        have Lw1 : Ext w w1 := Ext.trans (by repeat (first | exact Ext.refl _ | assumption | apply Ext.drewN | apply Ext.drew | apply Ext.alloc)) xw1
        have Xw1 : Ext w w1 := Lw1
        have c10 : w1.cell? ⟨w.heap.size, 0, none⟩ = some (.int .i64 b1) := xw1.cell (by first | (simp; done) | ((repeat rw [World.cell?_alloc_lt _ _ _ (by simp <;> omega)]); simp; done) | (go_simp; done))
        have c11 : w1.cell? ⟨w.heap.size, 1, none⟩ = some (u1) := xw1.cell (by first | (simp; done) | ((repeat rw [World.cell?_alloc_lt _ _ _ (by simp <;> omega)]); simp; done) | (go_simp; done))
        have c12 : w1.cell? ⟨w.heap.size, 2, none⟩ = some (v1) := xw1.cell (by first | (simp; done) | ((repeat rw [World.cell?_alloc_lt _ _ _ (by simp <;> omega)]); simp; done) | (go_simp; done))
        have c20 : w1.cell? ⟨w.heap.size + 1, 0, none⟩ = some (.int .i64 b2) := xw1.cell (by first | (simp; done) | ((repeat rw [World.cell?_alloc_lt _ _ _ (by simp <;> omega)]); simp; done) | (go_simp; done))
        have c21 : w1.cell? ⟨w.heap.size + 1, 1, none⟩ = some (u2) := xw1.cell (by first | (simp; done) | ((repeat rw [World.cell?_alloc_lt _ _ _ (by simp <;> omega)]); simp; done) | (go_simp; done))
        have c22 : w1.cell? ⟨w.heap.size + 1, 2, none⟩ = some (v2) := xw1.cell (by first | (simp; done) | ((repeat rw [World.cell?_alloc_lt _ _ _ (by simp <;> omega)]); simp; done) | (go_simp; done))
        have z1 : w.heap.size < w1.heap.size := World.block_lt_of_cell? _ _ c10
        have z2 : w.heap.size + 1 < w1.heap.size := World.block_lt_of_cell? _ _ c20
        have sw1 : w.heap.size ≤ w1.heap.size := Lw1.size
        rw [ha'.out]
        go_wp2_with fail
        refine (isView_c b2 _ _ s2 t2 _ l2 m2 (h2.ext (Xw1.trans (by repeat (first | exact Ext.refl _ | assumption | apply Ext.drewN | apply Ext.drew | apply Ext.alloc)))) (k2.ext (Xw1.trans (by repeat (first | exact Ext.refl _ | assumption | apply Ext.drewN | apply Ext.drew | apply Ext.alloc))))).mono ?_
        rintro e w2 ⟨rfl, xw2⟩
        have Lw2 : Ext w1 w2 := Ext.trans (by repeat (first | exact Ext.refl _ | assumption | apply Ext.drewN | apply Ext.drew | apply Ext.alloc)) xw2
        have Xw2 : Ext w w2 := Xw1.trans Lw2
        replace c10 := Lw2.cell c10
        replace c11 := Lw2.cell c11
        replace c12 := Lw2.cell c12
        replace c20 := Lw2.cell c20
        replace c21 := Lw2.cell c21
        replace c22 := Lw2.cell c22
        have z3 : w.heap.size < w2.heap.size := World.block_lt_of_cell? _ _ c10
        have z4 : w.heap.size + 1 < w2.heap.size := World.block_lt_of_cell? _ _ c20
        have sw2 : w1.heap.size ≤ w2.heap.size := Lw2.size
        rw [hb'.out]
        go_wp2_with fail
        refine (overlapOf_c b1 _ _ s1 t1 b2 _ _ s2 t2 _ l1 m1 l2 m2 (h1.ext (Xw2.trans (by repeat (first | exact Ext.refl _ | assumption | apply Ext.drewN | apply Ext.drew | apply Ext.alloc)))) (k1.ext (Xw2.trans (by repeat (first | exact Ext.refl _ | assumption | apply Ext.drewN | apply Ext.drew | apply Ext.alloc)))) (h2.ext (Xw2.trans (by repeat (first | exact Ext.refl _ | assumption | apply Ext.drewN | apply Ext.drew | apply Ext.alloc)))) (k2.ext (Xw2.trans (by repeat (first | exact Ext.refl _ | assumption | apply Ext.drewN | apply Ext.drew | apply Ext.alloc)))) ha'.out hb'.out).mono ?_
        rintro e w3 ⟨r3, rfl, i3, _, xw3⟩
        have Lw3 : Ext w2 w3 := Ext.trans (by repeat (first | exact Ext.refl _ | assumption | apply Ext.drewN | apply Ext.drew | apply Ext.alloc)) xw3
        have Xw3 : Ext w w3 := Xw2.trans Lw3
        replace c10 := Lw3.cell c10
        replace c11 := Lw3.cell c11
        replace c12 := Lw3.cell c12
        replace c20 := Lw3.cell c20
        replace c21 := Lw3.cell c21
        replace c22 := Lw3.cell c22
        have z5 : w.heap.size < w3.heap.size := World.block_lt_of_cell? _ _ c10
        have z6 : w.heap.size + 1 < w3.heap.size := World.block_lt_of_cell? _ _ c20
        have sw3 : w2.heap.size ≤ w3.heap.size := Lw3.size
        rw [ho.out] at i3
        obtain ⟨p3, q3, rfl⟩ := i3.form
        rw [hpE.out]
        clear i3
        go_wp2_with fail
        go_ret3
        exact ⟨by rw [hr.out] <;> rfl, Xw3⟩

set_option maxHeartbeats 6400000 in
theorem specWitnessOf_c (b1 : Int) (u1 v1 : Value) (s1 t1 : List Int) (b2 : Int) (u2 v2 : Value) (s2 t2 : List Int) (w : World) (l1 m1 l2 m2 : Nat) (h1 : Ints w l1 u1 s1) (k1 : Ints w m1 v1 t1) (h2 : Ints w l2 u2 s2) (k2 : Ints w m2 v2 t2) :
    Calls Try.prog 75 #[.agg #[.int .i64 b1, u1, v1], .agg #[.int .i64 b2, u2, v2]] w (fun e w' => e = .returned (.tuple #[.int .i64 (witT b1 s1 t1 b2 s2 t2).1, .int .i64 (witT b1 s1 t1 b2 s2 t2).2.1, .bool (witT b1 s1 t1 b2 s2 t2).2.2]) ∧ Ext w w') := by
  cases hm : meetB b1 s1 t1 b2 s2 t2
  · have hr := Lib.hid (show witT b1 s1 t1 b2 s2 t2 = (-1, -1, false) by unfold witT; rw [hm]; rfl)
    go_enter Try.func75, Try.ntmps75
    go_wp2_with fail
    refine (specDoOverlap_c b1 _ _ s1 t1 b2 _ _ s2 t2 _ l1 m1 l2 m2 (h1.ext (by repeat (first | exact Ext.refl _ | assumption | apply Ext.drewN | apply Ext.drew | apply Ext.alloc))) (k1.ext (by repeat (first | exact Ext.refl _ | assumption | apply Ext.drewN | apply Ext.drew | apply Ext.alloc))) (h2.ext (by repeat (first | exact Ext.refl _ | assumption | apply Ext.drewN | apply Ext.drew | apply Ext.alloc))) (k2.ext (by repeat (first | exact Ext.refl _ | assumption | apply Ext.drewN | apply Ext.drew | apply Ext.alloc)))).mono ?_
    rintro e w1 ⟨rfl, xw1⟩
    have Lw1 : Ext w w1 := Ext.trans (by repeat (first | exact Ext.refl _ | assumption | apply Ext.drewN | apply Ext.drew | apply Ext.alloc)) xw1
    have Xw1 : Ext w w1 := Lw1
    have c10 : w1.cell? ⟨w.heap.size, 0, none⟩ = some (.int .i64 b1) := xw1.cell (by first | (simp; done) | ((repeat rw [World.cell?_alloc_lt _ _ _ (by simp <;> omega)]); simp; done) | (go_simp; done))
    have c11 : w1.cell? ⟨w.heap.size, 1, none⟩ = some (u1) := xw1.cell (by first | (simp; done) | ((repeat rw [World.cell?_alloc_lt _ _ _ (by simp <;> omega)]); simp; done) | (go_simp; done))
    have c12 : w1.cell? ⟨w.heap.size, 2, none⟩ = some (v1) := xw1.cell (by first | (simp; done) | ((repeat rw [World.cell?_alloc_lt _ _ _ (by simp <;> omega)]); simp; done) | (go_simp; done))
    have c20 : w1.cell? ⟨w.heap.size + 1, 0, none⟩ = some (.int .i64 b2) := xw1.cell (by first | (simp; done) | ((repeat rw [World.cell?_alloc_lt _ _ _ (by simp <;> omega)]); simp; done) | (go_simp; done))
    have c21 : w1.cell? ⟨w.heap.size + 1, 1, none⟩ = some (u2) := xw1.cell (by first | (simp; done) | ((repeat rw [World.cell?_alloc_lt _ _ _ (by simp <;> omega)]); simp; done) | (go_simp; done))
    have c22 : w1.cell? ⟨w.heap.size + 1, 2, none⟩ = some (v2) := xw1.cell (by first | (simp; done) | ((repeat rw [World.cell?_alloc_lt _ _ _ (by simp <;> omega)]); simp; done) | (go_simp; done))
    have z1 : w.heap.size < w1.heap.size := World.block_lt_of_cell? _ _ c10
    have z2 : w.heap.size + 1 < w1.heap.size := World.block_lt_of_cell? _ _ c20
    have sw1 : w.heap.size ≤ w1.heap.size := Lw1.size
    rw [hm]
    go_wp2_with fail
    go_ret3
    exact ⟨by rw [hr.out] <;> rfl, Xw1⟩
  · have hr := Lib.hid (show witT b1 s1 t1 b2 s2 t2 = (placeL (offsL b1 s1 t1) ((bothL (offsL b1 s1 t1) (offsL b2 s2 t2)).getD 0 0), placeL (offsL b2 s2 t2) ((bothL (offsL b1 s1 t1) (offsL b2 s2 t2)).getD 0 0), true) by unfold witT; rw [hm]; rfl)
    have hm' := Lib.hid hm
    unfold meetB at hm
    simp only [Bool.and_eq_true, decide_eq_true_eq] at hm
    obtain ⟨ha, hb, hp⟩ := hm
    obtain ⟨j1, j2, _⟩ := viewB_in ha
    have hin1 := Lib.hid (shapeB_in j1)
    have hg1 := Lib.hid j2
    clear j1 j2
    obtain ⟨j1, j2, _⟩ := viewB_in hb
    have hin2 := Lib.hid (shapeB_in j1)
    have hg2 := Lib.hid j2
    clear j1 j2
    have hp' := Lib.hid hp
    have hpI : (0 : Int) < (bothL (offsL b1 s1 t1) (offsL b2 s2 t2)).length := by omega
    clear ha hb
    go_enter Try.func75, Try.ntmps75
    go_wp2_with fail
    refine (specDoOverlap_c b1 _ _ s1 t1 b2 _ _ s2 t2 _ l1 m1 l2 m2 (h1.ext (by repeat (first | exact Ext.refl _ | assumption | apply Ext.drewN | apply Ext.drew | apply Ext.alloc))) (k1.ext (by repeat (first | exact Ext.refl _ | assumption | apply Ext.drewN | apply Ext.drew | apply Ext.alloc))) (h2.ext (by repeat (first | exact Ext.refl _ | assumption | apply Ext.drewN | apply Ext.drew | apply Ext.alloc))) (k2.ext (by repeat (first | exact Ext.refl _ | assumption | apply Ext.drewN | apply Ext.drew | apply Ext.alloc)))).mono ?_
    rintro e w1 ⟨rfl, xw1⟩
    have Lw1 : Ext w w1 := Ext.trans (by repeat (first | exact Ext.refl _ | assumption | apply Ext.drewN | apply Ext.drew | apply Ext.alloc)) xw1
    have Xw1 : Ext w w1 := Lw1
    have c10 : w1.cell? ⟨w.heap.size, 0, none⟩ = some (.int .i64 b1) := xw1.cell (by first | (simp; done) | ((repeat rw [World.cell?_alloc_lt _ _ _ (by simp <;> omega)]); simp; done) | (go_simp; done))
    have c11 : w1.cell? ⟨w.heap.size, 1, none⟩ = some (u1) := xw1.cell (by first | (simp; done) | ((repeat rw [World.cell?_alloc_lt _ _ _ (by simp <;> omega)]); simp; done) | (go_simp; done))
    have c12 : w1.cell? ⟨w.heap.size, 2, none⟩ = some (v1) := xw1.cell (by first | (simp; done) | ((repeat rw [World.cell?_alloc_lt _ _ _ (by simp <;> omega)]); simp; done) | (go_simp; done))
    have c20 : w1.cell? ⟨w.heap.size + 1, 0, none⟩ = some (.int .i64 b2) := xw1.cell (by first | (simp; done) | ((repeat rw [World.cell?_alloc_lt _ _ _ (by simp <;> omega)]); simp; done) | (go_simp; done))
    have c21 : w1.cell? ⟨w.heap.size + 1, 1, none⟩ = some (u2) := xw1.cell (by first | (simp; done) | ((repeat rw [World.cell?_alloc_lt _ _ _ (by simp <;> omega)]); simp; done) | (go_simp; done))
    have c22 : w1.cell? ⟨w.heap.size + 1, 2, none⟩ = some (v2) := xw1.cell (by first | (simp; done) | ((repeat rw [World.cell?_alloc_lt _ _ _ (by simp <;> omega)]); simp; done) | (go_simp; done))
    have z1 : w.heap.size < w1.heap.size := World.block_lt_of_cell? _ _ c10
    have z2 : w.heap.size + 1 < w1.heap.size := World.block_lt_of_cell? _ _ c20
    have sw1 : w.heap.size ≤ w1.heap.size := Lw1.size
    rw [hm'.out]
    go_wp2_with fail
    refine wp_region_held_drew (S := fun w' => w'.cell? ⟨w.heap.size, 0, none⟩ = some (.int .i64 b1) ∧ w'.cell? ⟨w.heap.size, 1, none⟩ = some (u1) ∧ w'.cell? ⟨w.heap.size, 2, none⟩ = some (v1) ∧ w'.cell? ⟨w.heap.size + 1, 0, none⟩ = some (.int .i64 b2) ∧ w'.cell? ⟨w.heap.size + 1, 1, none⟩ = some (u2) ∧ w'.cell? ⟨w.heap.size + 1, 2, none⟩ = some (v2)) (by kernel_rfl) ⟨c10, c11, c12, c20, c21, c22⟩ (fun hHeld => ?_)
    refine wpAnyH_take (i := 0) (v := ?_) rfl (by kernel_rfl) (by kernel_rfl) (by kernel_rfl) (fun _ _ _ h => h) (Or.inl ⟨by rfl, ?_⟩) (by assumption) ?_
    rotate_left
    · (intro w hSw; (try dsimp only at hSw); go_simp; try with_reducible rfl)
    try simp only [Act.put, List.setIfInBounds_toArray, List.set_cons_zero, List.set_cons_succ, List.getElem_toArray, List.getElem_cons_succ, List.getElem_cons_zero]
    refine wpAnyH_take (i := 2) (v := ?_) rfl (by kernel_rfl) (by kernel_rfl) (by kernel_rfl) (fun _ _ _ h => h) (Or.inl ⟨by rfl, ?_⟩) (by assumption) ?_
    rotate_left
    · (intro w hSw; (try dsimp only at hSw); go_simp; try with_reducible rfl)
    try simp only [Act.put, List.setIfInBounds_toArray, List.set_cons_zero, List.set_cons_succ, List.getElem_toArray, List.getElem_cons_succ, List.getElem_cons_zero]
    refine wpAnyH_ready (rs := [1]) (by kernel_rfl) (by simp) ?_
    refine AllReadyH.cons rfl (fun K hK => ?_) AllReadyH.nil
    try simp only [Act.put, List.setIfInBounds_toArray, List.set_cons_zero, List.set_cons_succ, List.getElem_toArray, List.getElem_cons_succ, List.getElem_cons_zero]
    go_simp
    go_at_call 132
    refine (offsets_c b1 _ _ s1 t1 _ l1 m1 (h1.ext (Xw1.trans (by repeat (first | exact Ext.refl _ | assumption | apply Ext.drewN | apply Ext.drew | apply Ext.alloc)))) (k1.ext (Xw1.trans (by repeat (first | exact Ext.refl _ | assumption | apply Ext.drewN | apply Ext.drew | apply Ext.alloc)))) (by have := hg1.out; omega) hin1.out.2.2.2.2 (by have := hin1.out; omega)).mono ?_
    rintro e w2 ⟨r2, rfl, i2, _, xw2⟩
    have Yw2 : Ext (w1) w2 := Ext.trans (by repeat (first | exact Ext.refl _ | assumption | apply Ext.drewN | apply Ext.drew | apply Ext.alloc)) xw2
    refine hK.out _ _ ⟨Yw2.cell c10, Yw2.cell c11, Yw2.cell c12, Yw2.cell c20, Yw2.cell c21, Yw2.cell c22⟩ (fun hHeld => ?_)
    clear hK K
    try simp only [Act.put, List.setIfInBounds_toArray, List.set_cons_zero, List.set_cons_succ, List.getElem_toArray, List.getElem_cons_succ, List.getElem_cons_zero]
    refine wpAnyH_ready (rs := [3]) (by kernel_rfl) (by simp) ?_
    refine AllReadyH.cons rfl (fun K hK => ?_) AllReadyH.nil
    try simp only [Act.put, List.setIfInBounds_toArray, List.set_cons_zero, List.set_cons_succ, List.getElem_toArray, List.getElem_cons_succ, List.getElem_cons_zero]
    go_simp
    go_at_call 132
    refine (offsets_c b2 _ _ s2 t2 _ l2 m2 (h2.ext (Xw1.trans (Yw2.trans (by repeat (first | exact Ext.refl _ | assumption | apply Ext.drewN | apply Ext.drew | apply Ext.alloc))))) (k2.ext (Xw1.trans (Yw2.trans (by repeat (first | exact Ext.refl _ | assumption | apply Ext.drewN | apply Ext.drew | apply Ext.alloc))))) (by have := hg2.out; omega) hin2.out.2.2.2.2 (by have := hin2.out; omega)).mono ?_
    rintro e w3 ⟨r3, rfl, i3, _, xw3⟩
    have Yw3 : Ext (w1) w3 := Yw2.trans (Ext.trans (by repeat (first | exact Ext.refl _ | assumption | apply Ext.drewN | apply Ext.drew | apply Ext.alloc)) xw3)
    replace i2 := i2.ext (Ext.trans (by repeat (first | exact Ext.refl _ | assumption | apply Ext.drewN | apply Ext.drew | apply Ext.alloc)) xw3)
    refine hK.out _ _ ⟨Yw3.cell c10, Yw3.cell c11, Yw3.cell c12, Yw3.cell c20, Yw3.cell c21, Yw3.cell c22⟩ (fun hHeld => ?_)
    clear hK K
    try simp only [Act.put, List.setIfInBounds_toArray, List.set_cons_zero, List.set_cons_succ, List.getElem_toArray, List.getElem_cons_succ, List.getElem_cons_zero]
    refine wpAnyH_ready (rs := [4]) (by kernel_rfl) (by simp) ?_
    refine AllReadyH.cons rfl (fun K hK => ?_) AllReadyH.nil
    try simp only [Act.put, List.setIfInBounds_toArray, List.set_cons_zero, List.set_cons_succ, List.getElem_toArray, List.getElem_cons_succ, List.getElem_cons_zero]
    go_simp
    go_at_call 131
    refine (both_c _ _ _ _ _ _ _ (i2.ext (by repeat (first | exact Ext.refl _ | assumption | apply Ext.drewN | apply Ext.drew | apply Ext.alloc))) (i3.ext (by repeat (first | exact Ext.refl _ | assumption | apply Ext.drewN | apply Ext.drew | apply Ext.alloc)))).mono ?_
    rintro e w4 ⟨r4, rfl, i4, _, xw4⟩
    have Yw4 : Ext (w1) w4 := Yw3.trans (Ext.trans (by repeat (first | exact Ext.refl _ | assumption | apply Ext.drewN | apply Ext.drew | apply Ext.alloc)) xw4)
    replace i2 := i2.ext (Ext.trans (by repeat (first | exact Ext.refl _ | assumption | apply Ext.drewN | apply Ext.drew | apply Ext.alloc)) xw4)
    replace i3 := i3.ext (Ext.trans (by repeat (first | exact Ext.refl _ | assumption | apply Ext.drewN | apply Ext.drew | apply Ext.alloc)) xw4)
    obtain ⟨b4, o4, q4, rfl, c40⟩ := i4.head hp'.out
    refine hK.out _ _ ⟨Yw4.cell c10, Yw4.cell c11, Yw4.cell c12, Yw4.cell c20, Yw4.cell c21, Yw4.cell c22⟩ (fun hHeld => ?_)
    clear hK K
    try simp only [Act.put, List.setIfInBounds_toArray, List.set_cons_zero, List.set_cons_succ, List.getElem_toArray, List.getElem_cons_succ, List.getElem_cons_zero]
    refine wpAnyH_take (i := 5) (v := ?_) rfl (by kernel_rfl) (by kernel_rfl) (by kernel_rfl) (fun _ _ _ h => h) (Or.inl ⟨by rfl, ?_⟩) (by assumption) ?_
    rotate_left
    · (intro w hSw; (try dsimp only at hSw); go_simp; try with_reducible rfl)
    try simp only [Act.put, List.setIfInBounds_toArray, List.set_cons_zero, List.set_cons_succ, List.getElem_toArray, List.getElem_cons_succ, List.getElem_cons_zero]
    refine wpAnyH_ready (rs := [6]) (by kernel_rfl) (by simp) ?_
    refine AllReadyH.cons rfl (fun K hK => ?_) AllReadyH.nil
    try simp only [Act.put, List.setIfInBounds_toArray, List.set_cons_zero, List.set_cons_succ, List.getElem_toArray, List.getElem_cons_succ, List.getElem_cons_zero]
    go_simp
    refine hK.out _ _ ⟨Yw4.cell c10, Yw4.cell c11, Yw4.cell c12, Yw4.cell c20, Yw4.cell c21, Yw4.cell c22⟩ (fun hHeld => ?_)
    clear hK K
    try simp only [Act.put, List.setIfInBounds_toArray, List.set_cons_zero, List.set_cons_succ, List.getElem_toArray, List.getElem_cons_succ, List.getElem_cons_zero]
    refine wpAnyH_take (i := 7) (v := ?_) rfl (by kernel_rfl) (by kernel_rfl) (by kernel_rfl) (fun _ _ _ h => h) (Or.inl ⟨by rfl, ?_⟩) (by assumption) ?_
    rotate_left
    · (intro w hSw; (try dsimp only at hSw); go_simp; try with_reducible rfl)
    try simp only [Act.put, List.setIfInBounds_toArray, List.set_cons_zero, List.set_cons_succ, List.getElem_toArray, List.getElem_cons_succ, List.getElem_cons_zero]
    refine wpAnyH_done (by kernel_rfl) ?_ _
    have Lw4 : Ext w1 w4 := Yw4
    have Xw4 : Ext w w4 := Xw1.trans Lw4
    replace c10 := Lw4.cell c10
    replace c11 := Lw4.cell c11
    replace c12 := Lw4.cell c12
    replace c20 := Lw4.cell c20
    replace c21 := Lw4.cell c21
    replace c22 := Lw4.cell c22
    have z3 : w.heap.size < w4.heap.size := World.block_lt_of_cell? _ _ c10
    have z4 : w.heap.size + 1 < w4.heap.size := World.block_lt_of_cell? _ _ c20
    have sw4 : w1.heap.size ≤ w4.heap.size := Lw4.size
    clear i4 i2 i3 c40
    go_wp2_with fail
    go_region_held3 (fun w' => w'.cell? ⟨w.heap.size, 0, none⟩ = some (.int .i64 b1) ∧ w'.cell? ⟨w.heap.size, 1, none⟩ = some (u1) ∧ w'.cell? ⟨w.heap.size, 2, none⟩ = some (v1) ∧ w'.cell? ⟨w.heap.size + 1, 0, none⟩ = some (.int .i64 b2) ∧ w'.cell? ⟨w.heap.size + 1, 1, none⟩ = some (u2) ∧ w'.cell? ⟨w.heap.size + 1, 2, none⟩ = some (v2))
         (first
           | go_keep
           | exact ⟨Yw6.cell c10, Yw6.cell c11, Yw6.cell c12, Yw6.cell c20, Yw6.cell c21, Yw6.cell c22⟩
           | exact ⟨Yw5.cell c10, Yw5.cell c11, Yw5.cell c12, Yw5.cell c20, Yw5.cell c21, Yw5.cell c22⟩)
         (first
           | (go_at_call 163; refine (placeIn_c _ _ _ _ _ (i6.ext (by repeat (first | exact Ext.refl _ | assumption | apply Ext.drewN | apply Ext.drew | apply Ext.alloc)))).mono ?_; rintro e w' ⟨rfl, rfl⟩)
           | (go_at_call 132; refine (offsets_c b2 _ _ s2 t2 _ l2 m2 (h2.ext (Xw4.trans (Yw5.trans (by repeat (first | exact Ext.refl _ | assumption | apply Ext.drewN | apply Ext.drew | apply Ext.alloc))))) (k2.ext (Xw4.trans (Yw5.trans (by repeat (first | exact Ext.refl _ | assumption | apply Ext.drewN | apply Ext.drew | apply Ext.alloc))))) (by have := hg2.out; omega) hin2.out.2.2.2.2 (by have := hin2.out; omega)).mono ?_; rintro e w6 ⟨r6, rfl, i6, _, xw6⟩; have Yw6 : Ext (w4) w6 := Yw5.trans (Ext.trans (by repeat (first | exact Ext.refl _ | assumption | apply Ext.drewN | apply Ext.drew | apply Ext.alloc)) xw6))
           | (go_at_call 163; refine (placeIn_c _ _ _ _ _ (i5.ext (by repeat (first | exact Ext.refl _ | assumption | apply Ext.drewN | apply Ext.drew | apply Ext.alloc)))).mono ?_; rintro e w' ⟨rfl, rfl⟩)
           | (go_at_call 132; refine (offsets_c b1 _ _ s1 t1 _ l1 m1 (h1.ext (Xw4.trans (by repeat (first | exact Ext.refl _ | assumption | apply Ext.drewN | apply Ext.drew | apply Ext.alloc)))) (k1.ext (Xw4.trans (by repeat (first | exact Ext.refl _ | assumption | apply Ext.drewN | apply Ext.drew | apply Ext.alloc)))) (by have := hg1.out; omega) hin1.out.2.2.2.2 (by have := hin1.out; omega)).mono ?_; rintro e w5 ⟨r5, rfl, i5, _, xw5⟩; have Yw5 : Ext (w4) w5 := Ext.trans (by repeat (first | exact Ext.refl _ | assumption | apply Ext.drewN | apply Ext.drew | apply Ext.alloc)) xw5))
    have Lw6 : Ext w4 w6 := Yw6
    have Xw6 : Ext w w6 := Xw4.trans Lw6
    replace c10 := Lw6.cell c10
    replace c11 := Lw6.cell c11
    replace c12 := Lw6.cell c12
    replace c20 := Lw6.cell c20
    replace c21 := Lw6.cell c21
    replace c22 := Lw6.cell c22
    have z5 : w.heap.size < w6.heap.size := World.block_lt_of_cell? _ _ c10
    have z6 : w.heap.size + 1 < w6.heap.size := World.block_lt_of_cell? _ _ c20
    have sw6 : w4.heap.size ≤ w6.heap.size := Lw6.size
    all_goals
      go_wp2_with fail
      go_ret3
      exact ⟨by rw [hr.out, getD_get hp] <;> rfl, Xw6.trans (by repeat (first | exact Ext.refl _ | assumption | apply Ext.drewN | apply Ext.drew | apply Ext.alloc))⟩

end Go.Proofs.Ytfdpoepidlmbaaa
