/- Walks: SwapViews of the program and of the reference. -/
import Derived.Test.YtfdpoepidlmbaaaMemA
namespace Go.Proofs.Ytfdpoepidlmbaaa
open Go.RowKit
set_option linter.unusedVariables false
set_option maxRecDepth 100000

def pairB (mem : List Int) (b1 : Int) (s1 t1 : List Int) (b2 : Int) (s2 t2 : List Int) : Bool := holdB mem b1 s1 t1 && (holdB mem b2 s2 t2 && sameB s1 s2)
def swapB (mem : List Int) (b1 : Int) (s1 t1 : List Int) (b2 : Int) (s2 t2 : List Int) : Bool :=
  pairB mem b1 s1 t1 b2 s2 t2 && (decide ((bothL (offsL b1 s1 t1) (offsL b2 s2 t2)).length = 0) && (decide (offsL b1 s1 t1).Nodup && decide (offsL b2 s2 t2).Nodup))
def swapA (mem : List Int) (b1 : Int) (s1 t1 : List Int) (b2 : Int) (s2 t2 : List Int) : List Int :=
  if swapB mem b1 s1 t1 b2 s2 t2 then putL (putL mem (offsL b1 s1 t1) (loadL mem b2 s2 t2)) (offsL b2 s2 t2) (loadL mem b1 s1 t1) else []
/-- a call hands back a new list and whether it could be made -/
def PIntsB (w : World) (xs : List Int) (b : Bool) (e : Ending) (w' : World) : Prop := ∃ v, e = .returned (.tuple #[v, .bool b]) ∧ Ints w' w.heap.size v xs ∧ OwnZ w' w.heap.size v xs ∧ Ext w w'
theorem PIntsB.no {w w' : World} (h : Ext w w') : PIntsB w [] false (.returned (.tuple #[.slice none 0 0, .bool false])) w' :=
  ⟨_, rfl, Ints.nil _ _ _ _ (by simp) (fun _ => rfl), .inl ⟨rfl, none, 0, rfl, by simp, fun _ => rfl⟩, h⟩
theorem PIntsB.yes {w w' : World} {lo base : Nat} {xs : List Int} {v : Value} (h : OwnZ w' base v xs) (hi : Ints w' lo v xs) (hb : w.heap.size ≤ base) (hx : Ext w w') : PIntsB w xs true (.returned (.tuple #[v, .bool true])) w' :=
  ⟨v, rfl, (h.lower hb).ints hi.len, h.lower hb, hx⟩
theorem putL_len (mem ix vs : List Int) : (putL mem ix vs).length = mem.length := putUp_len _ _ _ _

set_option maxHeartbeats 3200000 in
theorem canCopy_c (mem : List Int) (a0 : Value) (b1 : Int) (u1 v1 : Value) (s1 t1 : List Int) (b2 : Int) (u2 v2 : Value) (s2 t2 : List Int) (w : World) (l0 l1 m1 l2 m2 : Nat) (h0 : Ints w l0 a0 mem) (h1 : Ints w l1 u1 s1) (k1 : Ints w m1 v1 t1) (h2 : Ints w l2 u2 s2) (k2 : Ints w m2 v2 t2) :
    Calls Try.prog 136 #[a0, .agg #[.int .i64 b1, u1, v1], .agg #[.int .i64 b2, u2, v2]] w (fun e w' => e = .returned (.bool (pairB mem b1 s1 t1 b2 s2 t2)) ∧ Ext w w') := by
  cases ha : holdB mem b1 s1 t1
  · have hr := Lib.hid (show pairB mem b1 s1 t1 b2 s2 t2 = false by unfold pairB; rw [ha]; rfl)
    go_enter Try.func136, Try.ntmps136
    go_wp2_with fail
    refine (canHold_c mem _ b1 _ _ s1 t1 _ l0 l1 m1 (h0.ext (by repeat (first | exact Ext.refl _ | assumption | apply Ext.drewN | apply Ext.drew | apply Ext.alloc))) (h1.ext (by repeat (first | exact Ext.refl _ | assumption | apply Ext.drewN | apply Ext.drew | apply Ext.alloc))) (k1.ext (by repeat (first | exact Ext.refl _ | assumption | apply Ext.drewN | apply Ext.drew | apply Ext.alloc)))).mono ?_
    rintro e w1 ⟨rfl, xw1⟩
    have Lw1 : Ext w w1 := Ext.trans (by repeat (first | exact Ext.refl _ | assumption | apply Ext.drewN | apply Ext.drew | apply Ext.alloc)) xw1
    have Xw1 : Ext w w1 := Lw1
    have c10 : w1.cell? ⟨w.heap.size, 0, none⟩ = some (.int .i64 b1) := xw1.cell (by first | (simp; done) | ((repeat rw [World.cell?_alloc_lt _ _ _ (by simp <;> omega)]); simp; done) | (go_simp; done))
    have c11 : w1.cell? ⟨w.heap.size, 1, none⟩ = some (u1) := xw1.cell (by first | (simp; done) | ((repeat rw [World.cell?_alloc_lt _ _ _ (by simp <;> omega)]); simp; done) | (go_simp; done))
    have c12 : w1.cell? ⟨w.heap.size, 2, none⟩ = some (v1) := xw1.cell (by first | (simp; done) | ((repeat rw [World.cell?_alloc_lt _ _ _ (by simp <;> omega)]); simp; done) | (go_simp; done))
    have c20 : w1.cell? ⟨w.heap.size + 1, 0, none⟩ = some (.int .i64 b2) := xw1.cell (by first | (simp; done) | ((repeat rw [World.cell?_alloc_lt _ _ _ (by simp <;> omega)]); simp; done) | (go_simp; done))
    have c21 : w1.cell? ⟨w.heap.size + 1, 1, none⟩ = some (u2) := xw1.cell (by first | (simp; done) | ((repeat rw [World.cell?_alloc_lt _ _ _ (by simp <;> omega)]); simp; done) | (go_simp; done))
    have c22 : w1.cell? ⟨w.heap.size + 1, 2, none⟩ = some (v2) := xw1.cell (by first | (simp; done) | ((repeat rw [World.cell?_alloc_lt _ _ _ (by simp <;> omega)]); simp; done) | (go_simp; done))
    have z1 : w.heap.size < w1.heap.size := World.block_lt_of_cell? _ _ c10
    have z2 : w.heap.size + 1 < w1.heap.size := World.block_lt_of_cell? _ _ c20
    have sw1 : w.heap.size ≤ w1.heap.size := Lw1.size
    rw [ha]
    go_wp2_with fail
    go_ret
    exact ⟨by rw [hr.out] <;> rfl, Xw1⟩
  · cases hb : holdB mem b2 s2 t2
    · have hr := Lib.hid (show pairB mem b1 s1 t1 b2 s2 t2 = false by unfold pairB; rw [ha, hb]; rfl)
      have ha' := Lib.hid ha
      clear ha
      go_enter Try.func136, Try.ntmps136
      go_wp2_with fail
      refine (canHold_c mem _ b1 _ _ s1 t1 _ l0 l1 m1 (h0.ext (by repeat (first | exact Ext.refl _ | assumption | apply Ext.drewN | apply Ext.drew | apply Ext.alloc))) (h1.ext (by repeat (first | exact Ext.refl _ | assumption | apply Ext.drewN | apply Ext.drew | apply Ext.alloc))) (k1.ext (by repeat (first | exact Ext.refl _ | assumption | apply Ext.drewN | apply Ext.drew | apply Ext.alloc)))).mono ?_
      rintro e w1 ⟨rfl, xw1⟩
      have Lw1 : Ext w w1 := Ext.trans (by repeat (first | exact Ext.refl _ | assumption | apply Ext.drewN | apply Ext.drew | apply Ext.alloc)) xw1
      have Xw1 : Ext w w1 := Lw1
      have c10 : w1.cell? ⟨w.heap.size, 0, none⟩ = some (.int .i64 b1) := xw1.cell (by first | (simp; done) | ((repeat rw [World.cell?_alloc_lt _ _ _ (by simp <;> omega)]); simp; done) | (go_simp; done))
      have c11 : w1.cell? ⟨w.heap.size, 1, none⟩ = some (u1) := xw1.cell (by first | (simp; done) | ((repeat rw [World.cell?_alloc_lt _ _ _ (by simp <;> omega)]); simp; done) | (go_simp; done))
      have c12 : w1.cell? ⟨w.heap.size, 2, none⟩ = some (v1) := xw1.cell (by first | (simp; done) | ((repeat rw [World.cell?_alloc_lt _ _ _ (by simp <;> omega)]); simp; done) | (go_simp; done))
      have c20 : w1.cell? ⟨w.heap.size + 1, 0, none⟩ = some (.int .i64 b2) := xw1.cell (by first | (simp; done) | ((repeat rw [World.cell?_alloc_lt _ _ _ (by simp <;> omega)]); simp; done) | (go_simp; done))
      have c21 : w1.cell? ⟨w.heap.size + 1, 1, none⟩ = some (u2) := xw1.cell (by first | (simp; done) | ((repeat rw [World.cell?_alloc_lt _ _ _ (by simp <;> omega)]); simp; done) | (go_simp; done))
      have c22 : w1.cell? ⟨w.heap.size + 1, 2, none⟩ = some (v2) := xw1.cell (by first | (simp; done) | ((repeat rw [World.cell?_alloc_lt _ _ _ (by simp <;> omega)]); simp; done) | (go_simp; done))
      have z1 : w.heap.size < w1.heap.size := World.block_lt_of_cell? _ _ c10
      have z2 : w.heap.size + 1 < w1.heap.size := World.block_lt_of_cell? _ _ c20
      have sw1 : w.heap.size ≤ w1.heap.size := Lw1.size
      rw [ha'.out]
      go_wp2_with fail
      refine (canHold_c mem _ b2 _ _ s2 t2 _ l0 l2 m2 (h0.ext (Xw1.trans (by repeat (first | exact Ext.refl _ | assumption | apply Ext.drewN | apply Ext.drew | apply Ext.alloc)))) (h2.ext (Xw1.trans (by repeat (first | exact Ext.refl _ | assumption | apply Ext.drewN | apply Ext.drew | apply Ext.alloc)))) (k2.ext (Xw1.trans (by repeat (first | exact Ext.refl _ | assumption | apply Ext.drewN | apply Ext.drew | apply Ext.alloc))))).mono ?_
      rintro e w2 ⟨rfl, xw2⟩
      have Lw2 : Ext w1 w2 := Ext.trans (by repeat (first | exact Ext.refl _ | assumption | apply Ext.drewN | apply Ext.drew | apply Ext.alloc)) xw2
      have Xw2 : Ext w w2 := Xw1.trans Lw2
      replace c10 := Lw2.cell c10
      replace c11 := Lw2.cell c11
      replace c12 := Lw2.cell c12
      replace c20 := Lw2.cell c20
      replace c21 := Lw2.cell c21
      replace c22 := Lw2.cell c22
      have z3 : w.heap.size < w2.heap.size := World.block_lt_of_cell? _ _ c10
      have z4 : w.heap.size + 1 < w2.heap.size := World.block_lt_of_cell? _ _ c20
      have sw2 : w1.heap.size ≤ w2.heap.size := Lw2.size
      rw [hb]
      go_wp2_with fail
      go_ret
      exact ⟨by rw [hr.out] <;> rfl, Xw2⟩
    · have hr := Lib.hid (show pairB mem b1 s1 t1 b2 s2 t2 = sameB s1 s2 by unfold pairB; rw [ha, hb]; rfl)
      have ha' := Lib.hid ha
      have hb' := Lib.hid hb
      clear ha hb
      go_enter Try.func136, Try.ntmps136
      go_wp2_with fail
      refine (canHold_c mem _ b1 _ _ s1 t1 _ l0 l1 m1 (h0.ext (by repeat (first | exact Ext.refl _ | assumption | apply Ext.drewN | apply Ext.drew | apply Ext.alloc))) (h1.ext (by repeat (first | exact Ext.refl _ | assumption | apply Ext.drewN | apply Ext.drew | apply Ext.alloc))) (k1.ext (by repeat (first | exact Ext.refl _ | assumption | apply Ext.drewN | apply Ext.drew | apply Ext.alloc)))).mono ?_
      rintro e w1 ⟨rfl, xw1⟩
      have Lw1 : Ext w w1 := Ext.trans (by repeat (first | exact Ext.refl _ | assumption | apply Ext.drewN | apply Ext.drew | apply Ext.alloc)) xw1
      have Xw1 : Ext w w1 := Lw1
      have c10 : w1.cell? ⟨w.heap.size, 0, none⟩ = some (.int .i64 b1) := xw1.cell (by first | (simp; done) | ((repeat rw [World.cell?_alloc_lt _ _ _ (by simp <;> omega)]); simp; done) | (go_simp; done))
      have c11 : w1.cell? ⟨w.heap.size, 1, none⟩ = some (u1) := xw1.cell (by first | (simp; done) | ((repeat rw [World.cell?_alloc_lt _ _ _ (by simp <;> omega)]); simp; done) | (go_simp; done))
      have c12 : w1.cell? ⟨w.heap.size, 2, none⟩ = some (v1) := xw1.cell (by first | (simp; done) | ((repeat rw [World.cell?_alloc_lt _ _ _ (by simp <;> omega)]); simp; done) | (go_simp; done))
      have c20 : w1.cell? ⟨w.heap.size + 1, 0, none⟩ = some (.int .i64 b2) := xw1.cell (by first | (simp; done) | ((repeat rw [World.cell?_alloc_lt _ _ _ (by simp <;> omega)]); simp; done) | (go_simp; done))
      have c21 : w1.cell? ⟨w.heap.size + 1, 1, none⟩ = some (u2) := xw1.cell (by first | (simp; done) | ((repeat rw [World.cell?_alloc_lt _ _ _ (by simp <;> omega)]); simp; done) | (go_simp; done))
      have c22 : w1.cell? ⟨w.heap.size + 1, 2, none⟩ = some (v2) := xw1.cell (by first | (simp; done) | ((repeat rw [World.cell?_alloc_lt _ _ _ (by simp <;> omega)]); simp; done) | (go_simp; done))
      have z1 : w.heap.size < w1.heap.size := World.block_lt_of_cell? _ _ c10
      have z2 : w.heap.size + 1 < w1.heap.size := World.block_lt_of_cell? _ _ c20
      have sw1 : w.heap.size ≤ w1.heap.size := Lw1.size
      rw [ha'.out]
      go_wp2_with fail
      refine (canHold_c mem _ b2 _ _ s2 t2 _ l0 l2 m2 (h0.ext (Xw1.trans (by repeat (first | exact Ext.refl _ | assumption | apply Ext.drewN | apply Ext.drew | apply Ext.alloc)))) (h2.ext (Xw1.trans (by repeat (first | exact Ext.refl _ | assumption | apply Ext.drewN | apply Ext.drew | apply Ext.alloc)))) (k2.ext (Xw1.trans (by repeat (first | exact Ext.refl _ | assumption | apply Ext.drewN | apply Ext.drew | apply Ext.alloc))))).mono ?_
      rintro e w2 ⟨rfl, xw2⟩
      have Lw2 : Ext w1 w2 := Ext.trans (by repeat (first | exact Ext.refl _ | assumption | apply Ext.drewN | apply Ext.drew | apply Ext.alloc)) xw2
      have Xw2 : Ext w w2 := Xw1.trans Lw2
      replace c10 := Lw2.cell c10
      replace c11 := Lw2.cell c11
      replace c12 := Lw2.cell c12
      replace c20 := Lw2.cell c20
      replace c21 := Lw2.cell c21
      replace c22 := Lw2.cell c22
      have z3 : w.heap.size < w2.heap.size := World.block_lt_of_cell? _ _ c10
      have z4 : w.heap.size + 1 < w2.heap.size := World.block_lt_of_cell? _ _ c20
      have sw2 : w1.heap.size ≤ w2.heap.size := Lw2.size
      rw [hb'.out]
      go_wp2_with fail
      refine (equal_x s1 s2 _ _ _ _ _ (h1.ext (Xw2.trans (by repeat (first | exact Ext.refl _ | assumption | apply Ext.drewN | apply Ext.drew | apply Ext.alloc)))) (h2.ext (Xw2.trans (by repeat (first | exact Ext.refl _ | assumption | apply Ext.drewN | apply Ext.drew | apply Ext.alloc))))).mono ?_
      rintro e w3 ⟨rfl, xw3⟩
      have Lw3 : Ext w2 w3 := Ext.trans (by repeat (first | exact Ext.refl _ | assumption | apply Ext.drewN | apply Ext.drew | apply Ext.alloc)) xw3
      have Xw3 : Ext w w3 := Xw2.trans Lw3
      replace c10 := Lw3.cell c10
      replace c11 := Lw3.cell c11
      replace c12 := Lw3.cell c12
      replace c20 := Lw3.cell c20
      replace c21 := Lw3.cell c21
      replace c22 := Lw3.cell c22
      have z5 : w.heap.size < w3.heap.size := World.block_lt_of_cell? _ _ c10
      have z6 : w.heap.size + 1 < w3.heap.size := World.block_lt_of_cell? _ _ c20
      have sw3 : w2.heap.size ≤ w3.heap.size := Lw3.size
      go_wp2_with fail
      go_ret
      exact ⟨by rw [hr.out] <;> rfl, Xw3⟩

set_option maxHeartbeats 3200000 in
theorem pair_c (mem : List Int) (a0 : Value) (b1 : Int) (u1 v1 : Value) (s1 t1 : List Int) (b2 : Int) (u2 v2 : Value) (s2 t2 : List Int) (w : World) (l0 l1 m1 l2 m2 : Nat) (h0 : Ints w l0 a0 mem) (h1 : Ints w l1 u1 s1) (k1 : Ints w m1 v1 t1) (h2 : Ints w l2 u2 s2) (k2 : Ints w m2 v2 t2) :
    Calls Try.prog 130 #[a0, .agg #[.int .i64 b1, u1, v1], .agg #[.int .i64 b2, u2, v2]] w (fun e w' => e = .returned (.bool (pairB mem b1 s1 t1 b2 s2 t2)) ∧ Ext w w') := by
  cases ha : holdB mem b1 s1 t1
  · have hr := Lib.hid (show pairB mem b1 s1 t1 b2 s2 t2 = false by unfold pairB; rw [ha]; rfl)
    go_enter Try.func130, Try.ntmps130
    go_wp2_with fail
    refine (sees_c mem _ b1 _ _ s1 t1 _ l0 l1 m1 (h0.ext (by repeat (first | exact Ext.refl _ | assumption | apply Ext.drewN | apply Ext.drew | apply Ext.alloc))) (h1.ext (by repeat (first | exact Ext.refl _ | assumption | apply Ext.drewN | apply Ext.drew | apply Ext.alloc))) (k1.ext (by repeat (first | exact Ext.refl _ | assumption | apply Ext.drewN | apply Ext.drew | apply Ext.alloc)))).mono ?_
    rintro e w1 ⟨rfl, xw1⟩
    have Lw1 : Ext w w1 := Ext.trans (by repeat (first | exact Ext.refl _ | assumption | apply Ext.drewN | apply Ext.drew | apply Ext.alloc)) xw1
    have Xw1 : Ext w w1 := Lw1
    have c10 : w1.cell? ⟨w.heap.size, 0, none⟩ = some (.int .i64 b1) := xw1.cell (by first | (simp; done) | ((repeat rw [World.cell?_alloc_lt _ _ _ (by simp <;> omega)]); simp; done) | (go_simp; done))
    have c11 : w1.cell? ⟨w.heap.size, 1, none⟩ = some (u1) := xw1.cell (by first | (simp; done) | ((repeat rw [World.cell?_alloc_lt _ _ _ (by simp <;> omega)]); simp; done) | (go_simp; done))
    have c12 : w1.cell? ⟨w.heap.size, 2, none⟩ = some (v1) := xw1.cell (by first | (simp; done) | ((repeat rw [World.cell?_alloc_lt _ _ _ (by simp <;> omega)]); simp; done) | (go_simp; done))
    have c20 : w1.cell? ⟨w.heap.size + 1, 0, none⟩ = some (.int .i64 b2) := xw1.cell (by first | (simp; done) | ((repeat rw [World.cell?_alloc_lt _ _ _ (by simp <;> omega)]); simp; done) | (go_simp; done))
    have c21 : w1.cell? ⟨w.heap.size + 1, 1, none⟩ = some (u2) := xw1.cell (by first | (simp; done) | ((repeat rw [World.cell?_alloc_lt _ _ _ (by simp <;> omega)]); simp; done) | (go_simp; done))
    have c22 : w1.cell? ⟨w.heap.size + 1, 2, none⟩ = some (v2) := xw1.cell (by first | (simp; done) | ((repeat rw [World.cell?_alloc_lt _ _ _ (by simp <;> omega)]); simp; done) | (go_simp; done))
    have z1 : w.heap.size < w1.heap.size := World.block_lt_of_cell? _ _ c10
    have z2 : w.heap.size + 1 < w1.heap.size := World.block_lt_of_cell? _ _ c20
    have sw1 : w.heap.size ≤ w1.heap.size := Lw1.size
    rw [ha]
    go_wp2_with fail
    go_ret
    exact ⟨by rw [hr.out] <;> rfl, Xw1⟩
  · cases hb : holdB mem b2 s2 t2
    · have hr := Lib.hid (show pairB mem b1 s1 t1 b2 s2 t2 = false by unfold pairB; rw [ha, hb]; rfl)
      have ha' := Lib.hid ha
      clear ha
      go_enter Try.func130, Try.ntmps130
      go_wp2_with fail
      refine (sees_c mem _ b1 _ _ s1 t1 _ l0 l1 m1 (h0.ext (by repeat (first | exact Ext.refl _ | assumption | apply Ext.drewN | apply Ext.drew | apply Ext.alloc))) (h1.ext (by repeat (first | exact Ext.refl _ | assumption | apply Ext.drewN | apply Ext.drew | apply Ext.alloc))) (k1.ext (by repeat (first | exact Ext.refl _ | assumption | apply Ext.drewN | apply Ext.drew | apply Ext.alloc)))).mono ?_
      rintro e w1 ⟨rfl, xw1⟩
      have Lw1 : Ext w w1 := Ext.trans (by repeat (first | exact Ext.refl _ | assumption | apply Ext.drewN | apply Ext.drew | apply Ext.alloc)) xw1
      have Xw1 : Ext w w1 := Lw1
      have c10 : w1.cell? ⟨w.heap.size, 0, none⟩ = some (.int .i64 b1) := xw1.cell (by first | (simp; done) | ((repeat rw [World.cell?_alloc_lt _ _ _ (by simp <;> omega)]); simp; done) | (go_simp; done))
      have c11 : w1.cell? ⟨w.heap.size, 1, none⟩ = some (u1) := xw1.cell (by first | (simp; done) | ((repeat rw [World.cell?_alloc_lt _ _ _ (by simp <;> omega)]); simp; done) | (go_simp; done))
      have c12 : w1.cell? ⟨w.heap.size, 2, none⟩ = some (v1) := xw1.cell (by first | (simp; done) | ((repeat rw [World.cell?_alloc_lt _ _ _ (by simp <;> omega)]); simp; done) | (go_simp; done))
      have c20 : w1.cell? ⟨w.heap.size + 1, 0, none⟩ = some (.int .i64 b2) := xw1.cell (by first | (simp; done) | ((repeat rw [World.cell?_alloc_lt _ _ _ (by simp <;> omega)]); simp; done) | (go_simp; done))
      have c21 : w1.cell? ⟨w.heap.size + 1, 1, none⟩ = some (u2) := xw1.cell (by first | (simp; done) | ((repeat rw [World.cell?_alloc_lt _ _ _ (by simp <;> omega)]); simp; done) | (go_simp; done))
      have c22 : w1.cell? ⟨w.heap.size + 1, 2, none⟩ = some (v2) := xw1.cell (by first | (simp; done) | ((repeat rw [World.cell?_alloc_lt _ _ _ (by simp <;> omega)]); simp; done) | (go_simp; done))
      have z1 : w.heap.size < w1.heap.size := World.block_lt_of_cell? _ _ c10
      have z2 : w.heap.size + 1 < w1.heap.size := World.block_lt_of_cell? _ _ c20
      have sw1 : w.heap.size ≤ w1.heap.size := Lw1.size
      rw [ha'.out]
      go_wp2_with fail
      refine (sees_c mem _ b2 _ _ s2 t2 _ l0 l2 m2 (h0.ext (Xw1.trans (by repeat (first | exact Ext.refl _ | assumption | apply Ext.drewN | apply Ext.drew | apply Ext.alloc)))) (h2.ext (Xw1.trans (by repeat (first | exact Ext.refl _ | assumption | apply Ext.drewN | apply Ext.drew | apply Ext.alloc)))) (k2.ext (Xw1.trans (by repeat (first | exact Ext.refl _ | assumption | apply Ext.drewN | apply Ext.drew | apply Ext.alloc))))).mono ?_
      rintro e w2 ⟨rfl, xw2⟩
      have Lw2 : Ext w1 w2 := Ext.trans (by repeat (first | exact Ext.refl _ | assumption | apply Ext.drewN | apply Ext.drew | apply Ext.alloc)) xw2
      have Xw2 : Ext w w2 := Xw1.trans Lw2
      replace c10 := Lw2.cell c10
      replace c11 := Lw2.cell c11
      replace c12 := Lw2.cell c12
      replace c20 := Lw2.cell c20
      replace c21 := Lw2.cell c21
      replace c22 := Lw2.cell c22
      have z3 : w.heap.size < w2.heap.size := World.block_lt_of_cell? _ _ c10
      have z4 : w.heap.size + 1 < w2.heap.size := World.block_lt_of_cell? _ _ c20
      have sw2 : w1.heap.size ≤ w2.heap.size := Lw2.size
      rw [hb]
      go_wp2_with fail
      go_ret
      exact ⟨by rw [hr.out] <;> rfl, Xw2⟩
    · have hr := Lib.hid (show pairB mem b1 s1 t1 b2 s2 t2 = sameB s1 s2 by unfold pairB; rw [ha, hb]; rfl)
      have ha' := Lib.hid ha
      have hb' := Lib.hid hb
      clear ha hb
      go_enter Try.func130, Try.ntmps130
      go_wp2_with fail
      refine (sees_c mem _ b1 _ _ s1 t1 _ l0 l1 m1 (h0.ext (by repeat (first | exact Ext.refl _ | assumption | apply Ext.drewN | apply Ext.drew | apply Ext.alloc))) (h1.ext (by repeat (first | exact Ext.refl _ | assumption | apply Ext.drewN | apply Ext.drew | apply Ext.alloc))) (k1.ext (by repeat (first | exact Ext.refl _ | assumption | apply Ext.drewN | apply Ext.drew | apply Ext.alloc)))).mono ?_
      rintro e w1 ⟨rfl, xw1⟩
      have Lw1 : Ext w w1 := Ext.trans (by repeat (first | exact Ext.refl _ | assumption | apply Ext.drewN | apply Ext.drew | apply Ext.alloc)) xw1
      have Xw1 : Ext w w1 := Lw1
      have c10 : w1.cell? ⟨w.heap.size, 0, none⟩ = some (.int .i64 b1) := xw1.cell (by first | (simp; done) | ((repeat rw [World.cell?_alloc_lt _ _ _ (by simp <;> omega)]); simp; done) | (go_simp; done))
      have c11 : w1.cell? ⟨w.heap.size, 1, none⟩ = some (u1) := xw1.cell (by first | (simp; done) | ((repeat rw [World.cell?_alloc_lt _ _ _ (by simp <;> omega)]); simp; done) | (go_simp; done))
      have c12 : w1.cell? ⟨w.heap.size, 2, none⟩ = some (v1) := xw1.cell (by first | (simp; done) | ((repeat rw [World.cell?_alloc_lt _ _ _ (by simp <;> omega)]); simp; done) | (go_simp; done))
      have c20 : w1.cell? ⟨w.heap.size + 1, 0, none⟩ = some (.int .i64 b2) := xw1.cell (by first | (simp; done) | ((repeat rw [World.cell?_alloc_lt _ _ _ (by simp <;> omega)]); simp; done) | (go_simp; done))
      have c21 : w1.cell? ⟨w.heap.size + 1, 1, none⟩ = some (u2) := xw1.cell (by first | (simp; done) | ((repeat rw [World.cell?_alloc_lt _ _ _ (by simp <;> omega)]); simp; done) | (go_simp; done))
      have c22 : w1.cell? ⟨w.heap.size + 1, 2, none⟩ = some (v2) := xw1.cell (by first | (simp; done) | ((repeat rw [World.cell?_alloc_lt _ _ _ (by simp <;> omega)]); simp; done) | (go_simp; done))
      have z1 : w.heap.size < w1.heap.size := World.block_lt_of_cell? _ _ c10
      have z2 : w.heap.size + 1 < w1.heap.size := World.block_lt_of_cell? _ _ c20
      have sw1 : w.heap.size ≤ w1.heap.size := Lw1.size
      rw [ha'.out]
      go_wp2_with fail
      refine (sees_c mem _ b2 _ _ s2 t2 _ l0 l2 m2 (h0.ext (Xw1.trans (by repeat (first | exact Ext.refl _ | assumption | apply Ext.drewN | apply Ext.drew | apply Ext.alloc)))) (h2.ext (Xw1.trans (by repeat (first | exact Ext.refl _ | assumption | apply Ext.drewN | apply Ext.drew | apply Ext.alloc)))) (k2.ext (Xw1.trans (by repeat (first | exact Ext.refl _ | assumption | apply Ext.drewN | apply Ext.drew | apply Ext.alloc))))).mono ?_
      rintro e w2 ⟨rfl, xw2⟩
      have Lw2 : Ext w1 w2 := Ext.trans (by repeat (first | exact Ext.refl _ | assumption | apply Ext.drewN | apply Ext.drew | apply Ext.alloc)) xw2
      have Xw2 : Ext w w2 := Xw1.trans Lw2
      replace c10 := Lw2.cell c10
      replace c11 := Lw2.cell c11
      replace c12 := Lw2.cell c12
      replace c20 := Lw2.cell c20
      replace c21 := Lw2.cell c21
      replace c22 := Lw2.cell c22
      have z3 : w.heap.size < w2.heap.size := World.block_lt_of_cell? _ _ c10
      have z4 : w.heap.size + 1 < w2.heap.size := World.block_lt_of_cell? _ _ c20
      have sw2 : w1.heap.size ≤ w2.heap.size := Lw2.size
      rw [hb'.out]
      go_wp2_with fail
      refine (sameInts_c s1 s2 _ _ _ _ _ (h1.ext (Xw2.trans (by repeat (first | exact Ext.refl _ | assumption | apply Ext.drewN | apply Ext.drew | apply Ext.alloc)))) (h2.ext (Xw2.trans (by repeat (first | exact Ext.refl _ | assumption | apply Ext.drewN | apply Ext.drew | apply Ext.alloc))))).mono ?_
      rintro e w3 ⟨rfl, xw3⟩
      have Lw3 : Ext w2 w3 := Ext.trans (by repeat (first | exact Ext.refl _ | assumption | apply Ext.drewN | apply Ext.drew | apply Ext.alloc)) xw3
      have Xw3 : Ext w w3 := Xw2.trans Lw3
      replace c10 := Lw3.cell c10
      replace c11 := Lw3.cell c11
      replace c12 := Lw3.cell c12
      replace c20 := Lw3.cell c20
      replace c21 := Lw3.cell c21
      replace c22 := Lw3.cell c22
      have z5 : w.heap.size < w3.heap.size := World.block_lt_of_cell? _ _ c10
      have z6 : w.heap.size + 1 < w3.heap.size := World.block_lt_of_cell? _ _ c20
      have sw3 : w2.heap.size ≤ w3.heap.size := Lw3.size
      go_wp2_with fail
      go_ret
      exact ⟨by rw [hr.out] <;> rfl, Xw3⟩

set_option maxHeartbeats 6400000 in
theorem implSwapViews_0 (mem : List Int) (a0 : Value) (b1 : Int) (u1 v1 : Value) (s1 t1 : List Int) (b2 : Int) (u2 v2 : Value) (s2 t2 : List Int) (w : World) (l0 l1 m1 l2 m2 : Nat) (h0 : Ints w l0 a0 mem) (h1 : Ints w l1 u1 s1) (k1 : Ints w m1 v1 t1) (h2 : Ints w l2 u2 s2) (k2 : Ints w m2 v2 t2) (hp : pairB mem b1 s1 t1 b2 s2 t2 = false) :
    Calls Try.prog 47 #[a0, .agg #[.int .i64 b1, u1, v1], .agg #[.int .i64 b2, u2, v2]] w (PIntsB w (swapA mem b1 s1 t1 b2 s2 t2) (swapB mem b1 s1 t1 b2 s2 t2)) := by
  have hp' := Lib.hid hp
  have hr := Lib.hid (show swapB mem b1 s1 t1 b2 s2 t2 = false by unfold swapB; rw [hp]; rfl)
  have hr2 := Lib.hid (show swapA mem b1 s1 t1 b2 s2 t2 = [] by unfold swapA; rw [if_neg (by rw [hr.out]; simp)])
  clear hp
  obtain ⟨a0, c0, rfl⟩ := h0.form
  go_enter Try.func47, Try.ntmps47
  go_wp2_with fail
  refine (canCopy_c mem _ b1 _ _ s1 t1 b2 _ _ s2 t2 _ l0 l1 m1 l2 m2 (h0.ext (by repeat (first | exact Ext.refl _ | assumption | apply Ext.drewN | apply Ext.drew | apply Ext.alloc))) (h1.ext (by repeat (first | exact Ext.refl _ | assumption | apply Ext.drewN | apply Ext.drew | apply Ext.alloc))) (k1.ext (by repeat (first | exact Ext.refl _ | assumption | apply Ext.drewN | apply Ext.drew | apply Ext.alloc))) (h2.ext (by repeat (first | exact Ext.refl _ | assumption | apply Ext.drewN | apply Ext.drew | apply Ext.alloc))) (k2.ext (by repeat (first | exact Ext.refl _ | assumption | apply Ext.drewN | apply Ext.drew | apply Ext.alloc)))).mono ?_
  rintro e w1 ⟨rfl, xw1⟩
  have Lw1 : Ext w w1 := Ext.trans (by repeat (first | exact Ext.refl _ | assumption | apply Ext.drewN | apply Ext.drew | apply Ext.alloc)) xw1
  have Xw1 : Ext w w1 := Lw1
  have c10 : w1.cell? ⟨w.heap.size, 0, none⟩ = some (.int .i64 b1) := xw1.cell (by first | (simp; done) | ((repeat rw [World.cell?_alloc_lt _ _ _ (by simp <;> omega)]); simp; done) | (go_simp; done))
  have c11 : w1.cell? ⟨w.heap.size, 1, none⟩ = some (u1) := xw1.cell (by first | (simp; done) | ((repeat rw [World.cell?_alloc_lt _ _ _ (by simp <;> omega)]); simp; done) | (go_simp; done))
  have c12 : w1.cell? ⟨w.heap.size, 2, none⟩ = some (v1) := xw1.cell (by first | (simp; done) | ((repeat rw [World.cell?_alloc_lt _ _ _ (by simp <;> omega)]); simp; done) | (go_simp; done))
  have c20 : w1.cell? ⟨w.heap.size + 1, 0, none⟩ = some (.int .i64 b2) := xw1.cell (by first | (simp; done) | ((repeat rw [World.cell?_alloc_lt _ _ _ (by simp <;> omega)]); simp; done) | (go_simp; done))
  have c21 : w1.cell? ⟨w.heap.size + 1, 1, none⟩ = some (u2) := xw1.cell (by first | (simp; done) | ((repeat rw [World.cell?_alloc_lt _ _ _ (by simp <;> omega)]); simp; done) | (go_simp; done))
  have c22 : w1.cell? ⟨w.heap.size + 1, 2, none⟩ = some (v2) := xw1.cell (by first | (simp; done) | ((repeat rw [World.cell?_alloc_lt _ _ _ (by simp <;> omega)]); simp; done) | (go_simp; done))
  have z1 : w.heap.size < w1.heap.size := World.block_lt_of_cell? _ _ c10
  have z2 : w.heap.size + 1 < w1.heap.size := World.block_lt_of_cell? _ _ c20
  have sw1 : w.heap.size ≤ w1.heap.size := Lw1.size
  rw [hp'.out]
  go_wp2_with fail
  go_ret2
  rw [hr.out, hr2.out]
  exact PIntsB.no (Xw1.trans (by repeat (first | exact Ext.refl _ | assumption | apply Ext.drewN | apply Ext.drew | apply Ext.alloc)))

set_option maxHeartbeats 6400000 in
theorem implSwapViews_1 (mem : List Int) (a0 : Value) (b1 : Int) (u1 v1 : Value) (s1 t1 : List Int) (b2 : Int) (u2 v2 : Value) (s2 t2 : List Int) (w : World) (l0 l1 m1 l2 m2 : Nat) (h0 : Ints w l0 a0 mem) (h1 : Ints w l1 u1 s1) (k1 : Ints w m1 v1 t1) (h2 : Ints w l2 u2 s2) (k2 : Ints w m2 v2 t2) (hp : pairB mem b1 s1 t1 b2 s2 t2 = true) (hd : (bothL (offsL b1 s1 t1) (offsL b2 s2 t2)).length ≠ 0) :
    Calls Try.prog 47 #[a0, .agg #[.int .i64 b1, u1, v1], .agg #[.int .i64 b2, u2, v2]] w (PIntsB w (swapA mem b1 s1 t1 b2 s2 t2) (swapB mem b1 s1 t1 b2 s2 t2)) := by
  have hp' := Lib.hid hp
  have hr := Lib.hid (show swapB mem b1 s1 t1 b2 s2 t2 = false by unfold swapB; rw [hp, decide_eq_false hd]; rfl)
  have hr2 := Lib.hid (show swapA mem b1 s1 t1 b2 s2 t2 = [] by unfold swapA; rw [if_neg (by rw [hr.out]; simp)])
  unfold pairB at hp
  simp only [Bool.and_eq_true] at hp
  obtain ⟨hh1, hh2, hsame⟩ := hp
  obtain ⟨hm, ha, hix1⟩ := hold_in hh1
  obtain ⟨-, hb, hix2⟩ := hold_in hh2
  have hml := mem_len hm
  have hsl : (offsL b2 s2 t2).length = (offsL b1 s1 t1).length := by rw [sameB_eq hsame]; exact offs_same
  have ho := Lib.hid (over_both (base2 := b2) (shape2 := s2) (strides2 := t2) ha)
  have o1 := Lib.hid (one_diff ha)
  have o2 := Lib.hid (one_diff hb)
  have ha' := Lib.hid ha
  have hb' := Lib.hid hb
  replace hix1 := Lib.hid hix1
  replace hix2 := Lib.hid hix2
  replace hsl := Lib.hid hsl
  replace hh1 := Lib.hid hh1
  replace hh2 := Lib.hid hh2
  have hd' := Lib.hid hd
  clear ha hb hsame hm hd
  obtain ⟨a0, c0, rfl⟩ := h0.form
  go_enter Try.func47, Try.ntmps47
  go_wp2_with fail
  refine (canCopy_c mem _ b1 _ _ s1 t1 b2 _ _ s2 t2 _ l0 l1 m1 l2 m2 (h0.ext (by repeat (first | exact Ext.refl _ | assumption | apply Ext.drewN | apply Ext.drew | apply Ext.alloc))) (h1.ext (by repeat (first | exact Ext.refl _ | assumption | apply Ext.drewN | apply Ext.drew | apply Ext.alloc))) (k1.ext (by repeat (first | exact Ext.refl _ | assumption | apply Ext.drewN | apply Ext.drew | apply Ext.alloc))) (h2.ext (by repeat (first | exact Ext.refl _ | assumption | apply Ext.drewN | apply Ext.drew | apply Ext.alloc))) (k2.ext (by repeat (first | exact Ext.refl _ | assumption | apply Ext.drewN | apply Ext.drew | apply Ext.alloc)))).mono ?_
  rintro e w1 ⟨rfl, xw1⟩
  have Lw1 : Ext w w1 := Ext.trans (by repeat (first | exact Ext.refl _ | assumption | apply Ext.drewN | apply Ext.drew | apply Ext.alloc)) xw1
  have Xw1 : Ext w w1 := Lw1
  have c10 : w1.cell? ⟨w.heap.size, 0, none⟩ = some (.int .i64 b1) := xw1.cell (by first | (simp; done) | ((repeat rw [World.cell?_alloc_lt _ _ _ (by simp <;> omega)]); simp; done) | (go_simp; done))
  have c11 : w1.cell? ⟨w.heap.size, 1, none⟩ = some (u1) := xw1.cell (by first | (simp; done) | ((repeat rw [World.cell?_alloc_lt _ _ _ (by simp <;> omega)]); simp; done) | (go_simp; done))
  have c12 : w1.cell? ⟨w.heap.size, 2, none⟩ = some (v1) := xw1.cell (by first | (simp; done) | ((repeat rw [World.cell?_alloc_lt _ _ _ (by simp <;> omega)]); simp; done) | (go_simp; done))
  have c20 : w1.cell? ⟨w.heap.size + 1, 0, none⟩ = some (.int .i64 b2) := xw1.cell (by first | (simp; done) | ((repeat rw [World.cell?_alloc_lt _ _ _ (by simp <;> omega)]); simp; done) | (go_simp; done))
  have c21 : w1.cell? ⟨w.heap.size + 1, 1, none⟩ = some (u2) := xw1.cell (by first | (simp; done) | ((repeat rw [World.cell?_alloc_lt _ _ _ (by simp <;> omega)]); simp; done) | (go_simp; done))
  have c22 : w1.cell? ⟨w.heap.size + 1, 2, none⟩ = some (v2) := xw1.cell (by first | (simp; done) | ((repeat rw [World.cell?_alloc_lt _ _ _ (by simp <;> omega)]); simp; done) | (go_simp; done))
  have z1 : w.heap.size < w1.heap.size := World.block_lt_of_cell? _ _ c10
  have z2 : w.heap.size + 1 < w1.heap.size := World.block_lt_of_cell? _ _ c20
  have sw1 : w.heap.size ≤ w1.heap.size := Lw1.size
  rw [hp'.out]
  go_wp2_with fail
  refine (overlapOf_c b1 _ _ s1 t1 b2 _ _ s2 t2 _ l1 m1 l2 m2 (h1.ext (Xw1.trans (by repeat (first | exact Ext.refl _ | assumption | apply Ext.drewN | apply Ext.drew | apply Ext.alloc)))) (k1.ext (Xw1.trans (by repeat (first | exact Ext.refl _ | assumption | apply Ext.drewN | apply Ext.drew | apply Ext.alloc)))) (h2.ext (Xw1.trans (by repeat (first | exact Ext.refl _ | assumption | apply Ext.drewN | apply Ext.drew | apply Ext.alloc)))) (k2.ext (Xw1.trans (by repeat (first | exact Ext.refl _ | assumption | apply Ext.drewN | apply Ext.drew | apply Ext.alloc)))) ha'.out hb'.out).mono ?_
  rintro e w2 ⟨r3, rfl, i3, -, xw2⟩
  rw [ho.out] at i3
  obtain ⟨p3, q3, rfl⟩ := i3.form
  clear i3
  have Lw2 : Ext w1 w2 := Ext.trans (by repeat (first | exact Ext.refl _ | assumption | apply Ext.drewN | apply Ext.drew | apply Ext.alloc)) xw2
  have Xw2 : Ext w w2 := Xw1.trans Lw2
  replace c10 := Lw2.cell c10
  replace c11 := Lw2.cell c11
  replace c12 := Lw2.cell c12
  replace c20 := Lw2.cell c20
  replace c21 := Lw2.cell c21
  replace c22 := Lw2.cell c22
  have z3 : w.heap.size < w2.heap.size := World.block_lt_of_cell? _ _ c10
  have z4 : w.heap.size + 1 < w2.heap.size := World.block_lt_of_cell? _ _ c20
  have sw2 : w1.heap.size ≤ w2.heap.size := Lw2.size
  have hd2 : (0 : Int) < (bothL (offsL b1 s1 t1) (offsL b2 s2 t2)).length := by have := hd'.out; omega
  have hd3 : 0 < (bothL (offsL b1 s1 t1) (offsL b2 s2 t2)).length := by omega
  go_wp2_with fail
  go_ret2
  rw [hr.out, hr2.out]
  exact PIntsB.no (Xw2.trans (by repeat (first | exact Ext.refl _ | assumption | apply Ext.drewN | apply Ext.drew | apply Ext.alloc)))

set_option maxHeartbeats 6400000 in
theorem implSwapViews_2 (mem : List Int) (a0 : Value) (b1 : Int) (u1 v1 : Value) (s1 t1 : List Int) (b2 : Int) (u2 v2 : Value) (s2 t2 : List Int) (w : World) (l0 l1 m1 l2 m2 : Nat) (h0 : Ints w l0 a0 mem) (h1 : Ints w l1 u1 s1) (k1 : Ints w m1 v1 t1) (h2 : Ints w l2 u2 s2) (k2 : Ints w m2 v2 t2) (hp : pairB mem b1 s1 t1 b2 s2 t2 = true) (hd : (bothL (offsL b1 s1 t1) (offsL b2 s2 t2)).length = 0) (hn : ¬ (offsL b1 s1 t1).Nodup) :
    Calls Try.prog 47 #[a0, .agg #[.int .i64 b1, u1, v1], .agg #[.int .i64 b2, u2, v2]] w (PIntsB w (swapA mem b1 s1 t1 b2 s2 t2) (swapB mem b1 s1 t1 b2 s2 t2)) := by
  have hp' := Lib.hid hp
  have hr := Lib.hid (show swapB mem b1 s1 t1 b2 s2 t2 = false by unfold swapB; rw [hp, decide_eq_true hd, decide_eq_false hn]; rfl)
  have hr2 := Lib.hid (show swapA mem b1 s1 t1 b2 s2 t2 = [] by unfold swapA; rw [if_neg (by rw [hr.out]; simp)])
  unfold pairB at hp
  simp only [Bool.and_eq_true] at hp
  obtain ⟨hh1, hh2, hsame⟩ := hp
  obtain ⟨hm, ha, hix1⟩ := hold_in hh1
  obtain ⟨-, hb, hix2⟩ := hold_in hh2
  have hml := mem_len hm
  have hsl : (offsL b2 s2 t2).length = (offsL b1 s1 t1).length := by rw [sameB_eq hsame]; exact offs_same
  have e1 := Lib.hid (show (decide (offsL b1 s1 t1).Nodup) = false from decide_eq_false hn)
  have ho := Lib.hid (over_both (base2 := b2) (shape2 := s2) (strides2 := t2) ha)
  have o1 := Lib.hid (one_diff ha)
  have o2 := Lib.hid (one_diff hb)
  have ha' := Lib.hid ha
  have hb' := Lib.hid hb
  replace hix1 := Lib.hid hix1
  replace hix2 := Lib.hid hix2
  replace hsl := Lib.hid hsl
  replace hh1 := Lib.hid hh1
  replace hh2 := Lib.hid hh2
  have hd' := Lib.hid hd
  clear ha hb hsame hm hd hn
  obtain ⟨a0, c0, rfl⟩ := h0.form
  go_enter Try.func47, Try.ntmps47
  go_wp2_with fail
  refine (canCopy_c mem _ b1 _ _ s1 t1 b2 _ _ s2 t2 _ l0 l1 m1 l2 m2 (h0.ext (by repeat (first | exact Ext.refl _ | assumption | apply Ext.drewN | apply Ext.drew | apply Ext.alloc))) (h1.ext (by repeat (first | exact Ext.refl _ | assumption | apply Ext.drewN | apply Ext.drew | apply Ext.alloc))) (k1.ext (by repeat (first | exact Ext.refl _ | assumption | apply Ext.drewN | apply Ext.drew | apply Ext.alloc))) (h2.ext (by repeat (first | exact Ext.refl _ | assumption | apply Ext.drewN | apply Ext.drew | apply Ext.alloc))) (k2.ext (by repeat (first | exact Ext.refl _ | assumption | apply Ext.drewN | apply Ext.drew | apply Ext.alloc)))).mono ?_
  rintro e w1 ⟨rfl, xw1⟩
  have Lw1 : Ext w w1 := Ext.trans (by repeat (first | exact Ext.refl _ | assumption | apply Ext.drewN | apply Ext.drew | apply Ext.alloc)) xw1
  have Xw1 : Ext w w1 := Lw1
  have c10 : w1.cell? ⟨w.heap.size, 0, none⟩ = some (.int .i64 b1) := xw1.cell (by first | (simp; done) | ((repeat rw [World.cell?_alloc_lt _ _ _ (by simp <;> omega)]); simp; done) | (go_simp; done))
  have c11 : w1.cell? ⟨w.heap.size, 1, none⟩ = some (u1) := xw1.cell (by first | (simp; done) | ((repeat rw [World.cell?_alloc_lt _ _ _ (by simp <;> omega)]); simp; done) | (go_simp; done))
  have c12 : w1.cell? ⟨w.heap.size, 2, none⟩ = some (v1) := xw1.cell (by first | (simp; done) | ((repeat rw [World.cell?_alloc_lt _ _ _ (by simp <;> omega)]); simp; done) | (go_simp; done))
  have c20 : w1.cell? ⟨w.heap.size + 1, 0, none⟩ = some (.int .i64 b2) := xw1.cell (by first | (simp; done) | ((repeat rw [World.cell?_alloc_lt _ _ _ (by simp <;> omega)]); simp; done) | (go_simp; done))
  have c21 : w1.cell? ⟨w.heap.size + 1, 1, none⟩ = some (u2) := xw1.cell (by first | (simp; done) | ((repeat rw [World.cell?_alloc_lt _ _ _ (by simp <;> omega)]); simp; done) | (go_simp; done))
  have c22 : w1.cell? ⟨w.heap.size + 1, 2, none⟩ = some (v2) := xw1.cell (by first | (simp; done) | ((repeat rw [World.cell?_alloc_lt _ _ _ (by simp <;> omega)]); simp; done) | (go_simp; done))
  have z1 : w.heap.size < w1.heap.size := World.block_lt_of_cell? _ _ c10
  have z2 : w.heap.size + 1 < w1.heap.size := World.block_lt_of_cell? _ _ c20
  have sw1 : w.heap.size ≤ w1.heap.size := Lw1.size
  rw [hp'.out]
  go_wp2_with fail
  refine (overlapOf_c b1 _ _ s1 t1 b2 _ _ s2 t2 _ l1 m1 l2 m2 (h1.ext (Xw1.trans (by repeat (first | exact Ext.refl _ | assumption | apply Ext.drewN | apply Ext.drew | apply Ext.alloc)))) (k1.ext (Xw1.trans (by repeat (first | exact Ext.refl _ | assumption | apply Ext.drewN | apply Ext.drew | apply Ext.alloc)))) (h2.ext (Xw1.trans (by repeat (first | exact Ext.refl _ | assumption | apply Ext.drewN | apply Ext.drew | apply Ext.alloc)))) (k2.ext (Xw1.trans (by repeat (first | exact Ext.refl _ | assumption | apply Ext.drewN | apply Ext.drew | apply Ext.alloc)))) ha'.out hb'.out).mono ?_
  rintro e w2 ⟨r3, rfl, i3, -, xw2⟩
  rw [ho.out] at i3
  obtain ⟨p3, q3, rfl⟩ := i3.form
  clear i3
  have Lw2 : Ext w1 w2 := Ext.trans (by repeat (first | exact Ext.refl _ | assumption | apply Ext.drewN | apply Ext.drew | apply Ext.alloc)) xw2
  have Xw2 : Ext w w2 := Xw1.trans Lw2
  replace c10 := Lw2.cell c10
  replace c11 := Lw2.cell c11
  replace c12 := Lw2.cell c12
  replace c20 := Lw2.cell c20
  replace c21 := Lw2.cell c21
  replace c22 := Lw2.cell c22
  have z3 : w.heap.size < w2.heap.size := World.block_lt_of_cell? _ _ c10
  have z4 : w.heap.size + 1 < w2.heap.size := World.block_lt_of_cell? _ _ c20
  have sw2 : w1.heap.size ≤ w2.heap.size := Lw2.size
  rw [hd'.out]
  go_wp2_with fail
  refine (isOneToOne_c b1 _ _ s1 t1 _ l1 m1 (h1.ext (Xw2.trans (by repeat (first | exact Ext.refl _ | assumption | apply Ext.drewN | apply Ext.drew | apply Ext.alloc)))) (k1.ext (Xw2.trans (by repeat (first | exact Ext.refl _ | assumption | apply Ext.drewN | apply Ext.drew | apply Ext.alloc)))) ha'.out).mono ?_
  rintro e w3 ⟨rfl, xw3⟩
  have Lw3 : Ext w2 w3 := Ext.trans (by repeat (first | exact Ext.refl _ | assumption | apply Ext.drewN | apply Ext.drew | apply Ext.alloc)) xw3
  have Xw3 : Ext w w3 := Xw2.trans Lw3
  replace c10 := Lw3.cell c10
  replace c11 := Lw3.cell c11
  replace c12 := Lw3.cell c12
  replace c20 := Lw3.cell c20
  replace c21 := Lw3.cell c21
  replace c22 := Lw3.cell c22
  have z5 : w.heap.size < w3.heap.size := World.block_lt_of_cell? _ _ c10
  have z6 : w.heap.size + 1 < w3.heap.size := World.block_lt_of_cell? _ _ c20
  have sw3 : w2.heap.size ≤ w3.heap.size := Lw3.size
  rw [o1.out, e1.out]
  go_wp2_with fail
  go_ret2
  rw [hr.out, hr2.out]
  exact PIntsB.no (Xw3.trans (by repeat (first | exact Ext.refl _ | assumption | apply Ext.drewN | apply Ext.drew | apply Ext.alloc)))

set_option maxHeartbeats 6400000 in
theorem implSwapViews_3 (mem : List Int) (a0 : Value) (b1 : Int) (u1 v1 : Value) (s1 t1 : List Int) (b2 : Int) (u2 v2 : Value) (s2 t2 : List Int) (w : World) (l0 l1 m1 l2 m2 : Nat) (h0 : Ints w l0 a0 mem) (h1 : Ints w l1 u1 s1) (k1 : Ints w m1 v1 t1) (h2 : Ints w l2 u2 s2) (k2 : Ints w m2 v2 t2) (hp : pairB mem b1 s1 t1 b2 s2 t2 = true) (hd : (bothL (offsL b1 s1 t1) (offsL b2 s2 t2)).length = 0) (hn : (offsL b1 s1 t1).Nodup) (hn2 : ¬ (offsL b2 s2 t2).Nodup) :
    Calls Try.prog 47 #[a0, .agg #[.int .i64 b1, u1, v1], .agg #[.int .i64 b2, u2, v2]] w (PIntsB w (swapA mem b1 s1 t1 b2 s2 t2) (swapB mem b1 s1 t1 b2 s2 t2)) := by
  have hp' := Lib.hid hp
  have hr := Lib.hid (show swapB mem b1 s1 t1 b2 s2 t2 = false by unfold swapB; rw [hp, decide_eq_true hd, decide_eq_true hn, decide_eq_false hn2]; rfl)
  have hr2 := Lib.hid (show swapA mem b1 s1 t1 b2 s2 t2 = [] by unfold swapA; rw [if_neg (by rw [hr.out]; simp)])
  unfold pairB at hp
  simp only [Bool.and_eq_true] at hp
  obtain ⟨hh1, hh2, hsame⟩ := hp
  obtain ⟨hm, ha, hix1⟩ := hold_in hh1
  obtain ⟨-, hb, hix2⟩ := hold_in hh2
  have hml := mem_len hm
  have hsl : (offsL b2 s2 t2).length = (offsL b1 s1 t1).length := by rw [sameB_eq hsame]; exact offs_same
  have e1 := Lib.hid (show (decide (offsL b1 s1 t1).Nodup) = true from decide_eq_true hn)
  have e2 := Lib.hid (show (decide (offsL b2 s2 t2).Nodup) = false from decide_eq_false hn2)
  have ho := Lib.hid (over_both (base2 := b2) (shape2 := s2) (strides2 := t2) ha)
  have o1 := Lib.hid (one_diff ha)
  have o2 := Lib.hid (one_diff hb)
  have ha' := Lib.hid ha
  have hb' := Lib.hid hb
  replace hix1 := Lib.hid hix1
  replace hix2 := Lib.hid hix2
  replace hsl := Lib.hid hsl
  replace hh1 := Lib.hid hh1
  replace hh2 := Lib.hid hh2
  have hd' := Lib.hid hd
  clear ha hb hsame hm hd hn hn2
  obtain ⟨a0, c0, rfl⟩ := h0.form
  go_enter Try.func47, Try.ntmps47
  go_wp2_with fail
  refine (canCopy_c mem _ b1 _ _ s1 t1 b2 _ _ s2 t2 _ l0 l1 m1 l2 m2 (h0.ext (by repeat (first | exact Ext.refl _ | assumption | apply Ext.drewN | apply Ext.drew | apply Ext.alloc))) (h1.ext (by repeat (first | exact Ext.refl _ | assumption | apply Ext.drewN | apply Ext.drew | apply Ext.alloc))) (k1.ext (by repeat (first | exact Ext.refl _ | assumption | apply Ext.drewN | apply Ext.drew | apply Ext.alloc))) (h2.ext (by repeat (first | exact Ext.refl _ | assumption | apply Ext.drewN | apply Ext.drew | apply Ext.alloc))) (k2.ext (by repeat (first | exact Ext.refl _ | assumption | apply Ext.drewN | apply Ext.drew | apply Ext.alloc)))).mono ?_
  rintro e w1 ⟨rfl, xw1⟩
  have Lw1 : Ext w w1 := Ext.trans (by repeat (first | exact Ext.refl _ | assumption | apply Ext.drewN | apply Ext.drew | apply Ext.alloc)) xw1
  have Xw1 : Ext w w1 := Lw1
  have c10 : w1.cell? ⟨w.heap.size, 0, none⟩ = some (.int .i64 b1) := xw1.cell (by first | (simp; done) | ((repeat rw [World.cell?_alloc_lt _ _ _ (by simp <;> omega)]); simp; done) | (go_simp; done))
  have c11 : w1.cell? ⟨w.heap.size, 1, none⟩ = some (u1) := xw1.cell (by first | (simp; done) | ((repeat rw [World.cell?_alloc_lt _ _ _ (by simp <;> omega)]); simp; done) | (go_simp; done))
  have c12 : w1.cell? ⟨w.heap.size, 2, none⟩ = some (v1) := xw1.cell (by first | (simp; done) | ((repeat rw [World.cell?_alloc_lt _ _ _ (by simp <;> omega)]); simp; done) | (go_simp; done))
  have c20 : w1.cell? ⟨w.heap.size + 1, 0, none⟩ = some (.int .i64 b2) := xw1.cell (by first | (simp; done) | ((repeat rw [World.cell?_alloc_lt _ _ _ (by simp <;> omega)]); simp; done) | (go_simp; done))
  have c21 : w1.cell? ⟨w.heap.size + 1, 1, none⟩ = some (u2) := xw1.cell (by first | (simp; done) | ((repeat rw [World.cell?_alloc_lt _ _ _ (by simp <;> omega)]); simp; done) | (go_simp; done))
  have c22 : w1.cell? ⟨w.heap.size + 1, 2, none⟩ = some (v2) := xw1.cell (by first | (simp; done) | ((repeat rw [World.cell?_alloc_lt _ _ _ (by simp <;> omega)]); simp; done) | (go_simp; done))
  have z1 : w.heap.size < w1.heap.size := World.block_lt_of_cell? _ _ c10
  have z2 : w.heap.size + 1 < w1.heap.size := World.block_lt_of_cell? _ _ c20
  have sw1 : w.heap.size ≤ w1.heap.size := Lw1.size
  rw [hp'.out]
  go_wp2_with fail
  refine (overlapOf_c b1 _ _ s1 t1 b2 _ _ s2 t2 _ l1 m1 l2 m2 (h1.ext (Xw1.trans (by repeat (first | exact Ext.refl _ | assumption | apply Ext.drewN | apply Ext.drew | apply Ext.alloc)))) (k1.ext (Xw1.trans (by repeat (first | exact Ext.refl _ | assumption | apply Ext.drewN | apply Ext.drew | apply Ext.alloc)))) (h2.ext (Xw1.trans (by repeat (first | exact Ext.refl _ | assumption | apply Ext.drewN | apply Ext.drew | apply Ext.alloc)))) (k2.ext (Xw1.trans (by repeat (first | exact Ext.refl _ | assumption | apply Ext.drewN | apply Ext.drew | apply Ext.alloc)))) ha'.out hb'.out).mono ?_
  rintro e w2 ⟨r3, rfl, i3, -, xw2⟩
  rw [ho.out] at i3
  obtain ⟨p3, q3, rfl⟩ := i3.form
  clear i3
  have Lw2 : Ext w1 w2 := Ext.trans (by repeat (first | exact Ext.refl _ | assumption | apply Ext.drewN | apply Ext.drew | apply Ext.alloc)) xw2
  have Xw2 : Ext w w2 := Xw1.trans Lw2
  replace c10 := Lw2.cell c10
  replace c11 := Lw2.cell c11
  replace c12 := Lw2.cell c12
  replace c20 := Lw2.cell c20
  replace c21 := Lw2.cell c21
  replace c22 := Lw2.cell c22
  have z3 : w.heap.size < w2.heap.size := World.block_lt_of_cell? _ _ c10
  have z4 : w.heap.size + 1 < w2.heap.size := World.block_lt_of_cell? _ _ c20
  have sw2 : w1.heap.size ≤ w2.heap.size := Lw2.size
  rw [hd'.out]
  go_wp2_with fail
  refine (isOneToOne_c b1 _ _ s1 t1 _ l1 m1 (h1.ext (Xw2.trans (by repeat (first | exact Ext.refl _ | assumption | apply Ext.drewN | apply Ext.drew | apply Ext.alloc)))) (k1.ext (Xw2.trans (by repeat (first | exact Ext.refl _ | assumption | apply Ext.drewN | apply Ext.drew | apply Ext.alloc)))) ha'.out).mono ?_
  rintro e w3 ⟨rfl, xw3⟩
  have Lw3 : Ext w2 w3 := Ext.trans (by repeat (first | exact Ext.refl _ | assumption | apply Ext.drewN | apply Ext.drew | apply Ext.alloc)) xw3
  have Xw3 : Ext w w3 := Xw2.trans Lw3
  replace c10 := Lw3.cell c10
  replace c11 := Lw3.cell c11
  replace c12 := Lw3.cell c12
  replace c20 := Lw3.cell c20
  replace c21 := Lw3.cell c21
  replace c22 := Lw3.cell c22
  have z5 : w.heap.size < w3.heap.size := World.block_lt_of_cell? _ _ c10
  have z6 : w.heap.size + 1 < w3.heap.size := World.block_lt_of_cell? _ _ c20
  have sw3 : w2.heap.size ≤ w3.heap.size := Lw3.size
  rw [o1.out, e1.out]
  go_wp2_with fail
  refine (isOneToOne_c b2 _ _ s2 t2 _ l2 m2 (h2.ext (Xw3.trans (by repeat (first | exact Ext.refl _ | assumption | apply Ext.drewN | apply Ext.drew | apply Ext.alloc)))) (k2.ext (Xw3.trans (by repeat (first | exact Ext.refl _ | assumption | apply Ext.drewN | apply Ext.drew | apply Ext.alloc)))) hb'.out).mono ?_
  rintro e w4 ⟨rfl, xw4⟩
  have Lw4 : Ext w3 w4 := Ext.trans (by repeat (first | exact Ext.refl _ | assumption | apply Ext.drewN | apply Ext.drew | apply Ext.alloc)) xw4
  have Xw4 : Ext w w4 := Xw3.trans Lw4
  replace c10 := Lw4.cell c10
  replace c11 := Lw4.cell c11
  replace c12 := Lw4.cell c12
  replace c20 := Lw4.cell c20
  replace c21 := Lw4.cell c21
  replace c22 := Lw4.cell c22
  have z7 : w.heap.size < w4.heap.size := World.block_lt_of_cell? _ _ c10
  have z8 : w.heap.size + 1 < w4.heap.size := World.block_lt_of_cell? _ _ c20
  have sw4 : w3.heap.size ≤ w4.heap.size := Lw4.size
  rw [o2.out, e2.out]
  go_wp2_with fail
  go_ret2
  rw [hr.out, hr2.out]
  exact PIntsB.no (Xw4.trans (by repeat (first | exact Ext.refl _ | assumption | apply Ext.drewN | apply Ext.drew | apply Ext.alloc)))

set_option maxHeartbeats 6400000 in
theorem implSwapViews_4 (mem : List Int) (a0 : Value) (b1 : Int) (u1 v1 : Value) (s1 t1 : List Int) (b2 : Int) (u2 v2 : Value) (s2 t2 : List Int) (w : World) (l0 l1 m1 l2 m2 : Nat) (h0 : Ints w l0 a0 mem) (h1 : Ints w l1 u1 s1) (k1 : Ints w m1 v1 t1) (h2 : Ints w l2 u2 s2) (k2 : Ints w m2 v2 t2) (hp : pairB mem b1 s1 t1 b2 s2 t2 = true) (hd : (bothL (offsL b1 s1 t1) (offsL b2 s2 t2)).length = 0) (hn : (offsL b1 s1 t1).Nodup) (hn2 : (offsL b2 s2 t2).Nodup) :
    Calls Try.prog 47 #[a0, .agg #[.int .i64 b1, u1, v1], .agg #[.int .i64 b2, u2, v2]] w (PIntsB w (swapA mem b1 s1 t1 b2 s2 t2) (swapB mem b1 s1 t1 b2 s2 t2)) := by
  have hp' := Lib.hid hp
  have hr := Lib.hid (show swapB mem b1 s1 t1 b2 s2 t2 = true by unfold swapB; rw [hp, decide_eq_true hd, decide_eq_true hn, decide_eq_true hn2]; rfl)
  have hr2 := Lib.hid (show swapA mem b1 s1 t1 b2 s2 t2 = putL (putL mem (offsL b1 s1 t1) (loadL mem b2 s2 t2)) (offsL b2 s2 t2) (loadL mem b1 s1 t1) by unfold swapA; rw [if_pos hr.out])
  unfold pairB at hp
  simp only [Bool.and_eq_true] at hp
  obtain ⟨hh1, hh2, hsame⟩ := hp
  obtain ⟨hm, ha, hix1⟩ := hold_in hh1
  obtain ⟨-, hb, hix2⟩ := hold_in hh2
  have hml := mem_len hm
  have hsl : (offsL b2 s2 t2).length = (offsL b1 s1 t1).length := by rw [sameB_eq hsame]; exact offs_same
  have e1 := Lib.hid (show (decide (offsL b1 s1 t1).Nodup) = true from decide_eq_true hn)
  have e2 := Lib.hid (show (decide (offsL b2 s2 t2).Nodup) = true from decide_eq_true hn2)
  have ho := Lib.hid (over_both (base2 := b2) (shape2 := s2) (strides2 := t2) ha)
  have o1 := Lib.hid (one_diff ha)
  have o2 := Lib.hid (one_diff hb)
  have ha' := Lib.hid ha
  have hb' := Lib.hid hb
  replace hix1 := Lib.hid hix1
  replace hix2 := Lib.hid hix2
  replace hsl := Lib.hid hsl
  replace hh1 := Lib.hid hh1
  replace hh2 := Lib.hid hh2
  have hd' := Lib.hid hd
  clear ha hb hsame hm hd hn hn2
  obtain ⟨a0, c0, rfl⟩ := h0.form
  go_enter Try.func47, Try.ntmps47
  go_wp2_with fail
  refine (canCopy_c mem _ b1 _ _ s1 t1 b2 _ _ s2 t2 _ l0 l1 m1 l2 m2 (h0.ext (by repeat (first | exact Ext.refl _ | assumption | apply Ext.drewN | apply Ext.drew | apply Ext.alloc))) (h1.ext (by repeat (first | exact Ext.refl _ | assumption | apply Ext.drewN | apply Ext.drew | apply Ext.alloc))) (k1.ext (by repeat (first | exact Ext.refl _ | assumption | apply Ext.drewN | apply Ext.drew | apply Ext.alloc))) (h2.ext (by repeat (first | exact Ext.refl _ | assumption | apply Ext.drewN | apply Ext.drew | apply Ext.alloc))) (k2.ext (by repeat (first | exact Ext.refl _ | assumption | apply Ext.drewN | apply Ext.drew | apply Ext.alloc)))).mono ?_
  rintro e w1 ⟨rfl, xw1⟩
  have Lw1 : Ext w w1 := Ext.trans (by repeat (first | exact Ext.refl _ | assumption | apply Ext.drewN | apply Ext.drew | apply Ext.alloc)) xw1
  have Xw1 : Ext w w1 := Lw1
  have c10 : w1.cell? ⟨w.heap.size, 0, none⟩ = some (.int .i64 b1) := xw1.cell (by first | (simp; done) | ((repeat rw [World.cell?_alloc_lt _ _ _ (by simp <;> omega)]); simp; done) | (go_simp; done))
  have c11 : w1.cell? ⟨w.heap.size, 1, none⟩ = some (u1) := xw1.cell (by first | (simp; done) | ((repeat rw [World.cell?_alloc_lt _ _ _ (by simp <;> omega)]); simp; done) | (go_simp; done))
  have c12 : w1.cell? ⟨w.heap.size, 2, none⟩ = some (v1) := xw1.cell (by first | (simp; done) | ((repeat rw [World.cell?_alloc_lt _ _ _ (by simp <;> omega)]); simp; done) | (go_simp; done))
  have c20 : w1.cell? ⟨w.heap.size + 1, 0, none⟩ = some (.int .i64 b2) := xw1.cell (by first | (simp; done) | ((repeat rw [World.cell?_alloc_lt _ _ _ (by simp <;> omega)]); simp; done) | (go_simp; done))
  have c21 : w1.cell? ⟨w.heap.size + 1, 1, none⟩ = some (u2) := xw1.cell (by first | (simp; done) | ((repeat rw [World.cell?_alloc_lt _ _ _ (by simp <;> omega)]); simp; done) | (go_simp; done))
  have c22 : w1.cell? ⟨w.heap.size + 1, 2, none⟩ = some (v2) := xw1.cell (by first | (simp; done) | ((repeat rw [World.cell?_alloc_lt _ _ _ (by simp <;> omega)]); simp; done) | (go_simp; done))
  have z1 : w.heap.size < w1.heap.size := World.block_lt_of_cell? _ _ c10
  have z2 : w.heap.size + 1 < w1.heap.size := World.block_lt_of_cell? _ _ c20
  have sw1 : w.heap.size ≤ w1.heap.size := Lw1.size
  rw [hp'.out]
  go_wp2_with fail
  refine (overlapOf_c b1 _ _ s1 t1 b2 _ _ s2 t2 _ l1 m1 l2 m2 (h1.ext (Xw1.trans (by repeat (first | exact Ext.refl _ | assumption | apply Ext.drewN | apply Ext.drew | apply Ext.alloc)))) (k1.ext (Xw1.trans (by repeat (first | exact Ext.refl _ | assumption | apply Ext.drewN | apply Ext.drew | apply Ext.alloc)))) (h2.ext (Xw1.trans (by repeat (first | exact Ext.refl _ | assumption | apply Ext.drewN | apply Ext.drew | apply Ext.alloc)))) (k2.ext (Xw1.trans (by repeat (first | exact Ext.refl _ | assumption | apply Ext.drewN | apply Ext.drew | apply Ext.alloc)))) ha'.out hb'.out).mono ?_
  rintro e w2 ⟨r3, rfl, i3, -, xw2⟩
  rw [ho.out] at i3
  obtain ⟨p3, q3, rfl⟩ := i3.form
  clear i3
  have Lw2 : Ext w1 w2 := Ext.trans (by repeat (first | exact Ext.refl _ | assumption | apply Ext.drewN | apply Ext.drew | apply Ext.alloc)) xw2
  have Xw2 : Ext w w2 := Xw1.trans Lw2
  replace c10 := Lw2.cell c10
  replace c11 := Lw2.cell c11
  replace c12 := Lw2.cell c12
  replace c20 := Lw2.cell c20
  replace c21 := Lw2.cell c21
  replace c22 := Lw2.cell c22
  have z3 : w.heap.size < w2.heap.size := World.block_lt_of_cell? _ _ c10
  have z4 : w.heap.size + 1 < w2.heap.size := World.block_lt_of_cell? _ _ c20
  have sw2 : w1.heap.size ≤ w2.heap.size := Lw2.size
  rw [hd'.out]
  go_wp2_with fail
  refine (isOneToOne_c b1 _ _ s1 t1 _ l1 m1 (h1.ext (Xw2.trans (by repeat (first | exact Ext.refl _ | assumption | apply Ext.drewN | apply Ext.drew | apply Ext.alloc)))) (k1.ext (Xw2.trans (by repeat (first | exact Ext.refl _ | assumption | apply Ext.drewN | apply Ext.drew | apply Ext.alloc)))) ha'.out).mono ?_
  rintro e w3 ⟨rfl, xw3⟩
  have Lw3 : Ext w2 w3 := Ext.trans (by repeat (first | exact Ext.refl _ | assumption | apply Ext.drewN | apply Ext.drew | apply Ext.alloc)) xw3
  have Xw3 : Ext w w3 := Xw2.trans Lw3
  replace c10 := Lw3.cell c10
  replace c11 := Lw3.cell c11
  replace c12 := Lw3.cell c12
  replace c20 := Lw3.cell c20
  replace c21 := Lw3.cell c21
  replace c22 := Lw3.cell c22
  have z5 : w.heap.size < w3.heap.size := World.block_lt_of_cell? _ _ c10
  have z6 : w.heap.size + 1 < w3.heap.size := World.block_lt_of_cell? _ _ c20
  have sw3 : w2.heap.size ≤ w3.heap.size := Lw3.size
  rw [o1.out, e1.out]
  go_wp2_with fail
  refine (isOneToOne_c b2 _ _ s2 t2 _ l2 m2 (h2.ext (Xw3.trans (by repeat (first | exact Ext.refl _ | assumption | apply Ext.drewN | apply Ext.drew | apply Ext.alloc)))) (k2.ext (Xw3.trans (by repeat (first | exact Ext.refl _ | assumption | apply Ext.drewN | apply Ext.drew | apply Ext.alloc)))) hb'.out).mono ?_
  rintro e w4 ⟨rfl, xw4⟩
  have Lw4 : Ext w3 w4 := Ext.trans (by repeat (first | exact Ext.refl _ | assumption | apply Ext.drewN | apply Ext.drew | apply Ext.alloc)) xw4
  have Xw4 : Ext w w4 := Xw3.trans Lw4
  replace c10 := Lw4.cell c10
  replace c11 := Lw4.cell c11
  replace c12 := Lw4.cell c12
  replace c20 := Lw4.cell c20
  replace c21 := Lw4.cell c21
  replace c22 := Lw4.cell c22
  have z7 : w.heap.size < w4.heap.size := World.block_lt_of_cell? _ _ c10
  have z8 : w.heap.size + 1 < w4.heap.size := World.block_lt_of_cell? _ _ c20
  have sw4 : w3.heap.size ≤ w4.heap.size := Lw4.size
  rw [o2.out, e2.out]
  go_wp2_with fail
  go_region_held3 (fun w' => w'.cell? ⟨w.heap.size, 0, none⟩ = some (.int .i64 b1) ∧ w'.cell? ⟨w.heap.size, 1, none⟩ = some (u1) ∧ w'.cell? ⟨w.heap.size, 2, none⟩ = some (v1) ∧ w'.cell? ⟨w.heap.size + 1, 0, none⟩ = some (.int .i64 b2) ∧ w'.cell? ⟨w.heap.size + 1, 1, none⟩ = some (u2) ∧ w'.cell? ⟨w.heap.size + 1, 2, none⟩ = some (v2))
       (first
         | go_keep
         | exact ⟨Yw6.cell c10, Yw6.cell c11, Yw6.cell c12, Yw6.cell c20, Yw6.cell c21, Yw6.cell c22⟩
         | exact ⟨Yw5.cell c10, Yw5.cell c11, Yw5.cell c12, Yw5.cell c20, Yw5.cell c21, Yw5.cell c22⟩)
       (first
         | (go_at_call 139; refine (storeView_c mem _ _ _ b1 _ _ s1 t1 _ l0 l1 m1 _ (h0.ext (Xw4.trans (Yw5.trans (by repeat (first | exact Ext.refl _ | assumption | apply Ext.drewN | apply Ext.drew | apply Ext.alloc))))) (h1.ext (Xw4.trans (Yw5.trans (by repeat (first | exact Ext.refl _ | assumption | apply Ext.drewN | apply Ext.drew | apply Ext.alloc))))) (k1.ext (Xw4.trans (Yw5.trans (by repeat (first | exact Ext.refl _ | assumption | apply Ext.drewN | apply Ext.drew | apply Ext.alloc))))) (i6.ext (by repeat (first | exact Ext.refl _ | assumption | apply Ext.drewN | apply Ext.drew | apply Ext.alloc))) hml ha'.out hix1.out (by unfold loadL; rw [takL_len]; exact hsl.out)).mono ?_; rintro e w6 ⟨r7, rfl, i7, -, xw6⟩; have Yw6 : Ext (w4) w6 := Yw5.trans (Ext.trans (by repeat (first | exact Ext.refl _ | assumption | apply Ext.drewN | apply Ext.drew | apply Ext.alloc)) xw6); replace i6 := i6.ext (Ext.trans (by repeat (first | exact Ext.refl _ | assumption | apply Ext.drewN | apply Ext.drew | apply Ext.alloc)) xw6))
         | (go_at_call 140; refine (loadView_c mem _ b2 _ _ s2 t2 _ l0 l2 m2 (h0.ext (Xw4.trans (by repeat (first | exact Ext.refl _ | assumption | apply Ext.drewN | apply Ext.drew | apply Ext.alloc)))) (h2.ext (Xw4.trans (by repeat (first | exact Ext.refl _ | assumption | apply Ext.drewN | apply Ext.drew | apply Ext.alloc)))) (k2.ext (Xw4.trans (by repeat (first | exact Ext.refl _ | assumption | apply Ext.drewN | apply Ext.drew | apply Ext.alloc)))) hh2.out).mono ?_; rintro e w5 ⟨r6, rfl, i6, -, xw5⟩; have Yw5 : Ext (w4) w5 := Ext.trans (by repeat (first | exact Ext.refl _ | assumption | apply Ext.drewN | apply Ext.drew | apply Ext.alloc)) xw5))
  have Lw6 : Ext w4 w6 := Yw6
  have Xw6 : Ext w w6 := Xw4.trans Lw6
  replace c10 := Lw6.cell c10
  replace c11 := Lw6.cell c11
  replace c12 := Lw6.cell c12
  replace c20 := Lw6.cell c20
  replace c21 := Lw6.cell c21
  replace c22 := Lw6.cell c22
  have z9 : w.heap.size < w6.heap.size := World.block_lt_of_cell? _ _ c10
  have z10 : w.heap.size + 1 < w6.heap.size := World.block_lt_of_cell? _ _ c20
  have sw6 : w4.heap.size ≤ w6.heap.size := Lw6.size
  clear i6
  go_wp2_with fail
  go_region_held3 (fun w' => w'.cell? ⟨w.heap.size, 0, none⟩ = some (.int .i64 b1) ∧ w'.cell? ⟨w.heap.size, 1, none⟩ = some (u1) ∧ w'.cell? ⟨w.heap.size, 2, none⟩ = some (v1) ∧ w'.cell? ⟨w.heap.size + 1, 0, none⟩ = some (.int .i64 b2) ∧ w'.cell? ⟨w.heap.size + 1, 1, none⟩ = some (u2) ∧ w'.cell? ⟨w.heap.size + 1, 2, none⟩ = some (v2))
       (first
         | go_keep
         | exact ⟨Yw8.cell c10, Yw8.cell c11, Yw8.cell c12, Yw8.cell c20, Yw8.cell c21, Yw8.cell c22⟩
         | exact ⟨Yw7.cell c10, Yw7.cell c11, Yw7.cell c12, Yw7.cell c20, Yw7.cell c21, Yw7.cell c22⟩)
       (first
         | (go_at_call 139; refine (storeView_c _ _ _ _ b2 _ _ s2 t2 _ _ l2 m2 _ (i7.ext (Yw7.trans (by repeat (first | exact Ext.refl _ | assumption | apply Ext.drewN | apply Ext.drew | apply Ext.alloc)))) (h2.ext (Xw6.trans (Yw7.trans (by repeat (first | exact Ext.refl _ | assumption | apply Ext.drewN | apply Ext.drew | apply Ext.alloc))))) (k2.ext (Xw6.trans (Yw7.trans (by repeat (first | exact Ext.refl _ | assumption | apply Ext.drewN | apply Ext.drew | apply Ext.alloc))))) (i8.ext (by repeat (first | exact Ext.refl _ | assumption | apply Ext.drewN | apply Ext.drew | apply Ext.alloc))) (by rw [putL_len]; exact hml) hb'.out (by rw [putL_len]; exact hix2.out) (by unfold loadL; rw [takL_len]; exact hsl.out.symm)).mono ?_; rintro e w8 ⟨r9, rfl, i9, o9, xw8⟩; have Yw8 : Ext (w6) w8 := Yw7.trans (Ext.trans (by repeat (first | exact Ext.refl _ | assumption | apply Ext.drewN | apply Ext.drew | apply Ext.alloc)) xw8); replace i8 := i8.ext (Ext.trans (by repeat (first | exact Ext.refl _ | assumption | apply Ext.drewN | apply Ext.drew | apply Ext.alloc)) xw8))
         | (go_at_call 140; refine (loadView_c mem _ b1 _ _ s1 t1 _ l0 l1 m1 (h0.ext (Xw6.trans (by repeat (first | exact Ext.refl _ | assumption | apply Ext.drewN | apply Ext.drew | apply Ext.alloc)))) (h1.ext (Xw6.trans (by repeat (first | exact Ext.refl _ | assumption | apply Ext.drewN | apply Ext.drew | apply Ext.alloc)))) (k1.ext (Xw6.trans (by repeat (first | exact Ext.refl _ | assumption | apply Ext.drewN | apply Ext.drew | apply Ext.alloc)))) hh1.out).mono ?_; rintro e w7 ⟨r8, rfl, i8, -, xw7⟩; have Yw7 : Ext (w6) w7 := Ext.trans (by repeat (first | exact Ext.refl _ | assumption | apply Ext.drewN | apply Ext.drew | apply Ext.alloc)) xw7))
  have Lw8 : Ext w6 w8 := Yw8
  have Xw8 : Ext w w8 := Xw6.trans Lw8
  replace c10 := Lw8.cell c10
  replace c11 := Lw8.cell c11
  replace c12 := Lw8.cell c12
  replace c20 := Lw8.cell c20
  replace c21 := Lw8.cell c21
  replace c22 := Lw8.cell c22
  replace i7 := i7.ext Lw8
  have z11 : w.heap.size < w8.heap.size := World.block_lt_of_cell? _ _ c10
  have z12 : w.heap.size + 1 < w8.heap.size := World.block_lt_of_cell? _ _ c20
  have sw8 : w6.heap.size ≤ w8.heap.size := Lw8.size
  all_goals
    go_wp2_with fail
    go_ret2
    rw [hr.out, hr2.out]
    exact PIntsB.yes o9 i9 (Ext.size (show Ext w _ from Xw6.trans (Yw7.trans (by repeat (first | exact Ext.refl _ | assumption | apply Ext.drewN | apply Ext.drew | apply Ext.alloc))))) (Xw8.trans (by repeat (first | exact Ext.refl _ | assumption | apply Ext.drewN | apply Ext.drew | apply Ext.alloc)))

theorem implSwapViews_c (mem : List Int) (a0 : Value) (b1 : Int) (u1 v1 : Value) (s1 t1 : List Int) (b2 : Int) (u2 v2 : Value) (s2 t2 : List Int) (w : World) (l0 l1 m1 l2 m2 : Nat) (h0 : Ints w l0 a0 mem) (h1 : Ints w l1 u1 s1) (k1 : Ints w m1 v1 t1) (h2 : Ints w l2 u2 s2) (k2 : Ints w m2 v2 t2) :
    Calls Try.prog 47 #[a0, .agg #[.int .i64 b1, u1, v1], .agg #[.int .i64 b2, u2, v2]] w (PIntsB w (swapA mem b1 s1 t1 b2 s2 t2) (swapB mem b1 s1 t1 b2 s2 t2)) := by
  cases hp : pairB mem b1 s1 t1 b2 s2 t2
  · exact implSwapViews_0 mem a0 b1 u1 v1 s1 t1 b2 u2 v2 s2 t2 w l0 l1 m1 l2 m2 h0 h1 k1 h2 k2 hp
  · by_cases hd : (bothL (offsL b1 s1 t1) (offsL b2 s2 t2)).length = 0
    · by_cases hn : (offsL b1 s1 t1).Nodup
      · by_cases hn2 : (offsL b2 s2 t2).Nodup
        · exact implSwapViews_4 mem a0 b1 u1 v1 s1 t1 b2 u2 v2 s2 t2 w l0 l1 m1 l2 m2 h0 h1 k1 h2 k2 hp hd hn hn2
        · exact implSwapViews_3 mem a0 b1 u1 v1 s1 t1 b2 u2 v2 s2 t2 w l0 l1 m1 l2 m2 h0 h1 k1 h2 k2 hp hd hn hn2
      · exact implSwapViews_2 mem a0 b1 u1 v1 s1 t1 b2 u2 v2 s2 t2 w l0 l1 m1 l2 m2 h0 h1 k1 h2 k2 hp hd hn
    · exact implSwapViews_1 mem a0 b1 u1 v1 s1 t1 b2 u2 v2 s2 t2 w l0 l1 m1 l2 m2 h0 h1 k1 h2 k2 hp hd

set_option maxHeartbeats 6400000 in
theorem specSwapViews_0 (mem : List Int) (a0 : Value) (b1 : Int) (u1 v1 : Value) (s1 t1 : List Int) (b2 : Int) (u2 v2 : Value) (s2 t2 : List Int) (w : World) (l0 l1 m1 l2 m2 : Nat) (h0 : Ints w l0 a0 mem) (h1 : Ints w l1 u1 s1) (k1 : Ints w m1 v1 t1) (h2 : Ints w l2 u2 s2) (k2 : Ints w m2 v2 t2) (hp : pairB mem b1 s1 t1 b2 s2 t2 = false) :
    Calls Try.prog 45 #[a0, .agg #[.int .i64 b1, u1, v1], .agg #[.int .i64 b2, u2, v2]] w (PIntsB w (swapA mem b1 s1 t1 b2 s2 t2) (swapB mem b1 s1 t1 b2 s2 t2)) := by
  have hp' := Lib.hid hp
  have hr := Lib.hid (show swapB mem b1 s1 t1 b2 s2 t2 = false by unfold swapB; rw [hp]; rfl)
  have hr2 := Lib.hid (show swapA mem b1 s1 t1 b2 s2 t2 = [] by unfold swapA; rw [if_neg (by rw [hr.out]; simp)])
  clear hp
  obtain ⟨a0, c0, rfl⟩ := h0.form
  go_enter Try.func45, Try.ntmps45
  go_wp2_with fail
  have Xb : Ext w ((w.alloc (.cells #[.int .i64 b1, u1, v1] 36)).alloc (.cells #[.int .i64 b2, u2, v2] 36)) := (by repeat (first | exact Ext.refl _ | assumption | apply Ext.drewN | apply Ext.drew | apply Ext.alloc))
  have c10 : (((w.alloc (.cells #[.int .i64 b1, u1, v1] 36)).alloc (.cells #[.int .i64 b2, u2, v2] 36))).cell? ⟨w.heap.size, 0, none⟩ = some (.int .i64 b1) := (by first | (simp; done) | ((repeat rw [World.cell?_alloc_lt _ _ _ (by simp <;> omega)]); simp; done) | (go_simp; done))
  have c11 : (((w.alloc (.cells #[.int .i64 b1, u1, v1] 36)).alloc (.cells #[.int .i64 b2, u2, v2] 36))).cell? ⟨w.heap.size, 1, none⟩ = some (u1) := (by first | (simp; done) | ((repeat rw [World.cell?_alloc_lt _ _ _ (by simp <;> omega)]); simp; done) | (go_simp; done))
  have c12 : (((w.alloc (.cells #[.int .i64 b1, u1, v1] 36)).alloc (.cells #[.int .i64 b2, u2, v2] 36))).cell? ⟨w.heap.size, 2, none⟩ = some (v1) := (by first | (simp; done) | ((repeat rw [World.cell?_alloc_lt _ _ _ (by simp <;> omega)]); simp; done) | (go_simp; done))
  have c20 : (((w.alloc (.cells #[.int .i64 b1, u1, v1] 36)).alloc (.cells #[.int .i64 b2, u2, v2] 36))).cell? ⟨w.heap.size + 1, 0, none⟩ = some (.int .i64 b2) := (by first | (simp; done) | ((repeat rw [World.cell?_alloc_lt _ _ _ (by simp <;> omega)]); simp; done) | (go_simp; done))
  have c21 : (((w.alloc (.cells #[.int .i64 b1, u1, v1] 36)).alloc (.cells #[.int .i64 b2, u2, v2] 36))).cell? ⟨w.heap.size + 1, 1, none⟩ = some (u2) := (by first | (simp; done) | ((repeat rw [World.cell?_alloc_lt _ _ _ (by simp <;> omega)]); simp; done) | (go_simp; done))
  have c22 : (((w.alloc (.cells #[.int .i64 b1, u1, v1] 36)).alloc (.cells #[.int .i64 b2, u2, v2] 36))).cell? ⟨w.heap.size + 1, 2, none⟩ = some (v2) := (by first | (simp; done) | ((repeat rw [World.cell?_alloc_lt _ _ _ (by simp <;> omega)]); simp; done) | (go_simp; done))
  refine wp_region_held_drew (S := fun w' => w'.cell? ⟨w.heap.size, 0, none⟩ = some (.int .i64 b1) ∧ w'.cell? ⟨w.heap.size, 1, none⟩ = some (u1) ∧ w'.cell? ⟨w.heap.size, 2, none⟩ = some (v1) ∧ w'.cell? ⟨w.heap.size + 1, 0, none⟩ = some (.int .i64 b2) ∧ w'.cell? ⟨w.heap.size + 1, 1, none⟩ = some (u2) ∧ w'.cell? ⟨w.heap.size + 1, 2, none⟩ = some (v2)) (by kernel_rfl) ⟨c10, c11, c12, c20, c21, c22⟩ (fun hHeld => ?_)
  refine wpAnyH_take (i := 0) (v := ?_) rfl (by kernel_rfl) (by kernel_rfl) (by kernel_rfl) (fun _ _ _ h => h) (Or.inl ⟨by rfl, ?_⟩) (by assumption) ?_
  rotate_left
  · (intro w hSw; (try dsimp only at hSw); go_simp; try with_reducible rfl)
  try simp only [Act.put, List.setIfInBounds_toArray, List.set_cons_zero, List.set_cons_succ, List.getElem_toArray, List.getElem_cons_succ, List.getElem_cons_zero]
  refine wpAnyH_take (i := 1) (v := ?_) rfl (by kernel_rfl) (by kernel_rfl) (by kernel_rfl) (fun _ _ _ h => h) (Or.inl ⟨by rfl, ?_⟩) (by assumption) ?_
  rotate_left
  · (intro w hSw; (try dsimp only at hSw); go_simp; try with_reducible rfl)
  try simp only [Act.put, List.setIfInBounds_toArray, List.set_cons_zero, List.set_cons_succ, List.getElem_toArray, List.getElem_cons_succ, List.getElem_cons_zero]
  refine wpAnyH_take (i := 2) (v := ?_) rfl (by kernel_rfl) (by kernel_rfl) (by kernel_rfl) (fun _ _ _ h => h) (Or.inl ⟨by rfl, ?_⟩) (by assumption) ?_
  rotate_left
  · (intro w hSw; (try dsimp only at hSw); go_simp; try with_reducible rfl)
  try simp only [Act.put, List.setIfInBounds_toArray, List.set_cons_zero, List.set_cons_succ, List.getElem_toArray, List.getElem_cons_succ, List.getElem_cons_zero]
  refine wpAnyH_ready (rs := [3]) (by kernel_rfl) (by simp) ?_
  refine AllReadyH.cons rfl (fun K hK => ?_) AllReadyH.nil
  try simp only [Act.put, List.setIfInBounds_toArray, List.set_cons_zero, List.set_cons_succ, List.getElem_toArray, List.getElem_cons_succ, List.getElem_cons_zero]
  go_simp
  go_at_call 130
  refine (pair_c mem _ b1 _ _ s1 t1 b2 _ _ s2 t2 _ l0 l1 m1 l2 m2 (h0.ext (Xb.trans (by repeat (first | exact Ext.refl _ | assumption | apply Ext.drewN | apply Ext.drew | apply Ext.alloc)))) (h1.ext (Xb.trans (by repeat (first | exact Ext.refl _ | assumption | apply Ext.drewN | apply Ext.drew | apply Ext.alloc)))) (k1.ext (Xb.trans (by repeat (first | exact Ext.refl _ | assumption | apply Ext.drewN | apply Ext.drew | apply Ext.alloc)))) (h2.ext (Xb.trans (by repeat (first | exact Ext.refl _ | assumption | apply Ext.drewN | apply Ext.drew | apply Ext.alloc)))) (k2.ext (Xb.trans (by repeat (first | exact Ext.refl _ | assumption | apply Ext.drewN | apply Ext.drew | apply Ext.alloc))))).mono ?_
  rintro e w1 ⟨rfl, xw1⟩
  have Yw1 : Ext (((w.alloc (.cells #[.int .i64 b1, u1, v1] 36)).alloc (.cells #[.int .i64 b2, u2, v2] 36))) w1 := Ext.trans (by repeat (first | exact Ext.refl _ | assumption | apply Ext.drewN | apply Ext.drew | apply Ext.alloc)) xw1
  rw [hp'.out]
  refine hK.out _ _ ⟨Yw1.cell c10, Yw1.cell c11, Yw1.cell c12, Yw1.cell c20, Yw1.cell c21, Yw1.cell c22⟩ (fun hHeld => ?_)
  clear hK K
  try simp only [Act.put, List.setIfInBounds_toArray, List.set_cons_zero, List.set_cons_succ, List.getElem_toArray, List.getElem_cons_succ, List.getElem_cons_zero]
  refine wpAnyH_take (i := 4) (v := ?_) rfl (by kernel_rfl) (by kernel_rfl) (by kernel_rfl) (fun _ _ _ h => h) (Or.inl ⟨by rfl, ?_⟩) (by assumption) ?_
  rotate_left
  · (intro w hSw; (try dsimp only at hSw); go_simp; try with_reducible rfl)
  try simp only [Act.put, List.setIfInBounds_toArray, List.set_cons_zero, List.set_cons_succ, List.getElem_toArray, List.getElem_cons_succ, List.getElem_cons_zero]
  refine wpAnyH_take (i := 5) (v := ?_) rfl (by kernel_rfl) (by kernel_rfl) (by kernel_rfl) (fun _ _ _ h => h) (Or.inl ⟨by rfl, ?_⟩) (by assumption) ?_
  rotate_left
  · (intro w hSw; (try dsimp only at hSw); go_simp; try with_reducible rfl)
  try simp only [Act.put, List.setIfInBounds_toArray, List.set_cons_zero, List.set_cons_succ, List.getElem_toArray, List.getElem_cons_succ, List.getElem_cons_zero]
  refine wpAnyH_take (i := 6) (v := undef) rfl (by kernel_rfl) (by kernel_rfl) (by kernel_rfl) (fun _ _ _ h => h) (Or.inr ⟨by rfl, rfl⟩) (by assumption) ?_
  try simp only [Act.put, List.setIfInBounds_toArray, List.set_cons_zero, List.set_cons_succ, List.getElem_toArray, List.getElem_cons_succ, List.getElem_cons_zero]
  refine wpAnyH_take (i := 7) (v := undef) rfl (by kernel_rfl) (by kernel_rfl) (by kernel_rfl) (fun _ _ _ h => h) (Or.inr ⟨by rfl, rfl⟩) (by assumption) ?_
  try simp only [Act.put, List.setIfInBounds_toArray, List.set_cons_zero, List.set_cons_succ, List.getElem_toArray, List.getElem_cons_succ, List.getElem_cons_zero]
  refine wpAnyH_take (i := 8) (v := undef) rfl (by kernel_rfl) (by kernel_rfl) (by kernel_rfl) (fun _ _ _ h => h) (Or.inr ⟨by rfl, rfl⟩) (by assumption) ?_
  try simp only [Act.put, List.setIfInBounds_toArray, List.set_cons_zero, List.set_cons_succ, List.getElem_toArray, List.getElem_cons_succ, List.getElem_cons_zero]
  refine wpAnyH_take (i := 9) (v := undef) rfl (by kernel_rfl) (by kernel_rfl) (by kernel_rfl) (fun _ _ _ h => h) (Or.inr ⟨by rfl, rfl⟩) (by assumption) ?_
  try simp only [Act.put, List.setIfInBounds_toArray, List.set_cons_zero, List.set_cons_succ, List.getElem_toArray, List.getElem_cons_succ, List.getElem_cons_zero]
  refine wpAnyH_take (i := 10) (v := undef) rfl (by kernel_rfl) (by kernel_rfl) (by kernel_rfl) (fun _ _ _ h => h) (Or.inr ⟨by rfl, rfl⟩) (by assumption) ?_
  try simp only [Act.put, List.setIfInBounds_toArray, List.set_cons_zero, List.set_cons_succ, List.getElem_toArray, List.getElem_cons_succ, List.getElem_cons_zero]
  refine wpAnyH_take (i := 11) (v := undef) rfl (by kernel_rfl) (by kernel_rfl) (by kernel_rfl) (fun _ _ _ h => h) (Or.inr ⟨by rfl, rfl⟩) (by assumption) ?_
  try simp only [Act.put, List.setIfInBounds_toArray, List.set_cons_zero, List.set_cons_succ, List.getElem_toArray, List.getElem_cons_succ, List.getElem_cons_zero]
  refine wpAnyH_take (i := 12) (v := undef) rfl (by kernel_rfl) (by kernel_rfl) (by kernel_rfl) (fun _ _ _ h => h) (Or.inr ⟨by rfl, rfl⟩) (by assumption) ?_
  try simp only [Act.put, List.setIfInBounds_toArray, List.set_cons_zero, List.set_cons_succ, List.getElem_toArray, List.getElem_cons_succ, List.getElem_cons_zero]
  refine wpAnyH_take (i := 13) (v := ?_) rfl (by kernel_rfl) (by kernel_rfl) (by kernel_rfl) (fun _ _ _ h => h) (Or.inl ⟨by rfl, ?_⟩) (by assumption) ?_
  rotate_left
  · (intro w hSw; (try dsimp only at hSw); go_simp; try with_reducible rfl)
  try simp only [Act.put, List.setIfInBounds_toArray, List.set_cons_zero, List.set_cons_succ, List.getElem_toArray, List.getElem_cons_succ, List.getElem_cons_zero]
  refine wpAnyH_take (i := 14) (v := ?_) rfl (by kernel_rfl) (by kernel_rfl) (by kernel_rfl) (fun _ _ _ h => h) (Or.inl ⟨by rfl, ?_⟩) (by assumption) ?_
  rotate_left
  · (intro w hSw; (try dsimp only at hSw); go_simp; try with_reducible rfl)
  try simp only [Act.put, List.setIfInBounds_toArray, List.set_cons_zero, List.set_cons_succ, List.getElem_toArray, List.getElem_cons_succ, List.getElem_cons_zero]
  refine wpAnyH_take (i := 15) (v := undef) rfl (by kernel_rfl) (by kernel_rfl) (by kernel_rfl) (fun _ _ _ h => h) (Or.inr ⟨by rfl, rfl⟩) (by assumption) ?_
  try simp only [Act.put, List.setIfInBounds_toArray, List.set_cons_zero, List.set_cons_succ, List.getElem_toArray, List.getElem_cons_succ, List.getElem_cons_zero]
  refine wpAnyH_take (i := 16) (v := undef) rfl (by kernel_rfl) (by kernel_rfl) (by kernel_rfl) (fun _ _ _ h => h) (Or.inr ⟨by rfl, rfl⟩) (by assumption) ?_
  try simp only [Act.put, List.setIfInBounds_toArray, List.set_cons_zero, List.set_cons_succ, List.getElem_toArray, List.getElem_cons_succ, List.getElem_cons_zero]
  refine wpAnyH_take (i := 17) (v := undef) rfl (by kernel_rfl) (by kernel_rfl) (by kernel_rfl) (fun _ _ _ h => h) (Or.inr ⟨by rfl, rfl⟩) (by assumption) ?_
  try simp only [Act.put, List.setIfInBounds_toArray, List.set_cons_zero, List.set_cons_succ, List.getElem_toArray, List.getElem_cons_succ, List.getElem_cons_zero]
  refine wpAnyH_take (i := 18) (v := undef) rfl (by kernel_rfl) (by kernel_rfl) (by kernel_rfl) (fun _ _ _ h => h) (Or.inr ⟨by rfl, rfl⟩) (by assumption) ?_
  try simp only [Act.put, List.setIfInBounds_toArray, List.set_cons_zero, List.set_cons_succ, List.getElem_toArray, List.getElem_cons_succ, List.getElem_cons_zero]
  refine wpAnyH_take (i := 19) (v := ?_) rfl (by kernel_rfl) (by kernel_rfl) (by kernel_rfl) (fun _ _ _ h => h) (Or.inl ⟨by rfl, ?_⟩) (by assumption) ?_
  rotate_left
  · (intro w hSw; (try dsimp only at hSw); go_simp; try with_reducible rfl)
  try simp only [Act.put, List.setIfInBounds_toArray, List.set_cons_zero, List.set_cons_succ, List.getElem_toArray, List.getElem_cons_succ, List.getElem_cons_zero]
  refine wpAnyH_take (i := 20) (v := ?_) rfl (by kernel_rfl) (by kernel_rfl) (by kernel_rfl) (fun _ _ _ h => h) (Or.inl ⟨by rfl, ?_⟩) (by assumption) ?_
  rotate_left
  · (intro w hSw; (try dsimp only at hSw); go_simp; try with_reducible rfl)
  try simp only [Act.put, List.setIfInBounds_toArray, List.set_cons_zero, List.set_cons_succ, List.getElem_toArray, List.getElem_cons_succ, List.getElem_cons_zero]
  refine wpAnyH_take (i := 21) (v := undef) rfl (by kernel_rfl) (by kernel_rfl) (by kernel_rfl) (fun _ _ _ h => h) (Or.inr ⟨by rfl, rfl⟩) (by assumption) ?_
  try simp only [Act.put, List.setIfInBounds_toArray, List.set_cons_zero, List.set_cons_succ, List.getElem_toArray, List.getElem_cons_succ, List.getElem_cons_zero]
  refine wpAnyH_take (i := 22) (v := undef) rfl (by kernel_rfl) (by kernel_rfl) (by kernel_rfl) (fun _ _ _ h => h) (Or.inr ⟨by rfl, rfl⟩) (by assumption) ?_
  try simp only [Act.put, List.setIfInBounds_toArray, List.set_cons_zero, List.set_cons_succ, List.getElem_toArray, List.getElem_cons_succ, List.getElem_cons_zero]
  refine wpAnyH_take (i := 23) (v := undef) rfl (by kernel_rfl) (by kernel_rfl) (by kernel_rfl) (fun _ _ _ h => h) (Or.inr ⟨by rfl, rfl⟩) (by assumption) ?_
  try simp only [Act.put, List.setIfInBounds_toArray, List.set_cons_zero, List.set_cons_succ, List.getElem_toArray, List.getElem_cons_succ, List.getElem_cons_zero]
  refine wpAnyH_take (i := 24) (v := undef) rfl (by kernel_rfl) (by kernel_rfl) (by kernel_rfl) (fun _ _ _ h => h) (Or.inr ⟨by rfl, rfl⟩) (by assumption) ?_
  try simp only [Act.put, List.setIfInBounds_toArray, List.set_cons_zero, List.set_cons_succ, List.getElem_toArray, List.getElem_cons_succ, List.getElem_cons_zero]
  refine wpAnyH_take (i := 25) (v := ?_) rfl (by kernel_rfl) (by kernel_rfl) (by kernel_rfl) (fun _ _ _ h => h) (Or.inl ⟨by rfl, ?_⟩) (by assumption) ?_
  rotate_left
  · (intro w hSw; (try dsimp only at hSw); go_simp; try with_reducible rfl)
  try simp only [Act.put, List.setIfInBounds_toArray, List.set_cons_zero, List.set_cons_succ, List.getElem_toArray, List.getElem_cons_succ, List.getElem_cons_zero]
  refine wpAnyH_done (by kernel_rfl) ?_ _
  clear hHeld
  go_wp2_with fail
  go_ret2
  rw [hr.out, hr2.out]
  exact PIntsB.no ((Xb.trans Yw1).trans (by repeat (first | exact Ext.refl _ | assumption | apply Ext.drewN | apply Ext.drew | apply Ext.alloc)))

set_option maxHeartbeats 6400000 in
theorem specSwapViews_1 (mem : List Int) (a0 : Value) (b1 : Int) (u1 v1 : Value) (s1 t1 : List Int) (b2 : Int) (u2 v2 : Value) (s2 t2 : List Int) (w : World) (l0 l1 m1 l2 m2 : Nat) (h0 : Ints w l0 a0 mem) (h1 : Ints w l1 u1 s1) (k1 : Ints w m1 v1 t1) (h2 : Ints w l2 u2 s2) (k2 : Ints w m2 v2 t2) (hp : pairB mem b1 s1 t1 b2 s2 t2 = true) (hd : (bothL (offsL b1 s1 t1) (offsL b2 s2 t2)).length ≠ 0) :
    Calls Try.prog 45 #[a0, .agg #[.int .i64 b1, u1, v1], .agg #[.int .i64 b2, u2, v2]] w (PIntsB w (swapA mem b1 s1 t1 b2 s2 t2) (swapB mem b1 s1 t1 b2 s2 t2)) := by
  have hp' := Lib.hid hp
  have hr := Lib.hid (show swapB mem b1 s1 t1 b2 s2 t2 = false by unfold swapB; rw [hp, decide_eq_false hd]; rfl)
  have hr2 := Lib.hid (show swapA mem b1 s1 t1 b2 s2 t2 = [] by unfold swapA; rw [if_neg (by rw [hr.out]; simp)])
  unfold pairB at hp
  simp only [Bool.and_eq_true] at hp
  obtain ⟨hh1, hh2, hsame⟩ := hp
  obtain ⟨hm, ha, hix1⟩ := hold_in hh1
  obtain ⟨-, hb, hix2⟩ := hold_in hh2
  have hml := mem_len hm
  have hsl : (offsL b2 s2 t2).length = (offsL b1 s1 t1).length := by rw [sameB_eq hsame]; exact offs_same
  have ha' := Lib.hid ha
  have hb' := Lib.hid hb
  replace hix1 := Lib.hid hix1
  replace hix2 := Lib.hid hix2
  replace hsl := Lib.hid hsl
  replace hh1 := Lib.hid hh1
  replace hh2 := Lib.hid hh2
  have hd' := Lib.hid hd
  obtain ⟨j1, j2, -⟩ := viewB_in ha
  have hin1 := Lib.hid (shapeB_in j1)
  have hg1 := Lib.hid j2
  clear j1 j2
  obtain ⟨j1, j2, -⟩ := viewB_in hb
  have hin2 := Lib.hid (shapeB_in j1)
  have hg2 := Lib.hid j2
  clear j1 j2
  clear ha hb hsame hm hd
  obtain ⟨a0, c0, rfl⟩ := h0.form
  go_enter Try.func45, Try.ntmps45
  go_wp2_with fail
  have Xb : Ext w ((w.alloc (.cells #[.int .i64 b1, u1, v1] 36)).alloc (.cells #[.int .i64 b2, u2, v2] 36)) := (by repeat (first | exact Ext.refl _ | assumption | apply Ext.drewN | apply Ext.drew | apply Ext.alloc))
  have c10 : (((w.alloc (.cells #[.int .i64 b1, u1, v1] 36)).alloc (.cells #[.int .i64 b2, u2, v2] 36))).cell? ⟨w.heap.size, 0, none⟩ = some (.int .i64 b1) := (by first | (simp; done) | ((repeat rw [World.cell?_alloc_lt _ _ _ (by simp <;> omega)]); simp; done) | (go_simp; done))
  have c11 : (((w.alloc (.cells #[.int .i64 b1, u1, v1] 36)).alloc (.cells #[.int .i64 b2, u2, v2] 36))).cell? ⟨w.heap.size, 1, none⟩ = some (u1) := (by first | (simp; done) | ((repeat rw [World.cell?_alloc_lt _ _ _ (by simp <;> omega)]); simp; done) | (go_simp; done))
  have c12 : (((w.alloc (.cells #[.int .i64 b1, u1, v1] 36)).alloc (.cells #[.int .i64 b2, u2, v2] 36))).cell? ⟨w.heap.size, 2, none⟩ = some (v1) := (by first | (simp; done) | ((repeat rw [World.cell?_alloc_lt _ _ _ (by simp <;> omega)]); simp; done) | (go_simp; done))
  have c20 : (((w.alloc (.cells #[.int .i64 b1, u1, v1] 36)).alloc (.cells #[.int .i64 b2, u2, v2] 36))).cell? ⟨w.heap.size + 1, 0, none⟩ = some (.int .i64 b2) := (by first | (simp; done) | ((repeat rw [World.cell?_alloc_lt _ _ _ (by simp <;> omega)]); simp; done) | (go_simp; done))
  have c21 : (((w.alloc (.cells #[.int .i64 b1, u1, v1] 36)).alloc (.cells #[.int .i64 b2, u2, v2] 36))).cell? ⟨w.heap.size + 1, 1, none⟩ = some (u2) := (by first | (simp; done) | ((repeat rw [World.cell?_alloc_lt _ _ _ (by simp <;> omega)]); simp; done) | (go_simp; done))
  have c22 : (((w.alloc (.cells #[.int .i64 b1, u1, v1] 36)).alloc (.cells #[.int .i64 b2, u2, v2] 36))).cell? ⟨w.heap.size + 1, 2, none⟩ = some (v2) := (by first | (simp; done) | ((repeat rw [World.cell?_alloc_lt _ _ _ (by simp <;> omega)]); simp; done) | (go_simp; done))
  refine wp_region_held_drew (S := fun w' => w'.cell? ⟨w.heap.size, 0, none⟩ = some (.int .i64 b1) ∧ w'.cell? ⟨w.heap.size, 1, none⟩ = some (u1) ∧ w'.cell? ⟨w.heap.size, 2, none⟩ = some (v1) ∧ w'.cell? ⟨w.heap.size + 1, 0, none⟩ = some (.int .i64 b2) ∧ w'.cell? ⟨w.heap.size + 1, 1, none⟩ = some (u2) ∧ w'.cell? ⟨w.heap.size + 1, 2, none⟩ = some (v2)) (by kernel_rfl) ⟨c10, c11, c12, c20, c21, c22⟩ (fun hHeld => ?_)
  refine wpAnyH_take (i := 0) (v := ?_) rfl (by kernel_rfl) (by kernel_rfl) (by kernel_rfl) (fun _ _ _ h => h) (Or.inl ⟨by rfl, ?_⟩) (by assumption) ?_
  rotate_left
  · (intro w hSw; (try dsimp only at hSw); go_simp; try with_reducible rfl)
  try simp only [Act.put, List.setIfInBounds_toArray, List.set_cons_zero, List.set_cons_succ, List.getElem_toArray, List.getElem_cons_succ, List.getElem_cons_zero]
  refine wpAnyH_take (i := 1) (v := ?_) rfl (by kernel_rfl) (by kernel_rfl) (by kernel_rfl) (fun _ _ _ h => h) (Or.inl ⟨by rfl, ?_⟩) (by assumption) ?_
  rotate_left
  · (intro w hSw; (try dsimp only at hSw); go_simp; try with_reducible rfl)
  try simp only [Act.put, List.setIfInBounds_toArray, List.set_cons_zero, List.set_cons_succ, List.getElem_toArray, List.getElem_cons_succ, List.getElem_cons_zero]
  refine wpAnyH_take (i := 2) (v := ?_) rfl (by kernel_rfl) (by kernel_rfl) (by kernel_rfl) (fun _ _ _ h => h) (Or.inl ⟨by rfl, ?_⟩) (by assumption) ?_
  rotate_left
  · (intro w hSw; (try dsimp only at hSw); go_simp; try with_reducible rfl)
  try simp only [Act.put, List.setIfInBounds_toArray, List.set_cons_zero, List.set_cons_succ, List.getElem_toArray, List.getElem_cons_succ, List.getElem_cons_zero]
  refine wpAnyH_ready (rs := [3]) (by kernel_rfl) (by simp) ?_
  refine AllReadyH.cons rfl (fun K hK => ?_) AllReadyH.nil
  try simp only [Act.put, List.setIfInBounds_toArray, List.set_cons_zero, List.set_cons_succ, List.getElem_toArray, List.getElem_cons_succ, List.getElem_cons_zero]
  go_simp
  go_at_call 130
  refine (pair_c mem _ b1 _ _ s1 t1 b2 _ _ s2 t2 _ l0 l1 m1 l2 m2 (h0.ext (Xb.trans (by repeat (first | exact Ext.refl _ | assumption | apply Ext.drewN | apply Ext.drew | apply Ext.alloc)))) (h1.ext (Xb.trans (by repeat (first | exact Ext.refl _ | assumption | apply Ext.drewN | apply Ext.drew | apply Ext.alloc)))) (k1.ext (Xb.trans (by repeat (first | exact Ext.refl _ | assumption | apply Ext.drewN | apply Ext.drew | apply Ext.alloc)))) (h2.ext (Xb.trans (by repeat (first | exact Ext.refl _ | assumption | apply Ext.drewN | apply Ext.drew | apply Ext.alloc)))) (k2.ext (Xb.trans (by repeat (first | exact Ext.refl _ | assumption | apply Ext.drewN | apply Ext.drew | apply Ext.alloc))))).mono ?_
  rintro e w1 ⟨rfl, xw1⟩
  have Yw1 : Ext (((w.alloc (.cells #[.int .i64 b1, u1, v1] 36)).alloc (.cells #[.int .i64 b2, u2, v2] 36))) w1 := Ext.trans (by repeat (first | exact Ext.refl _ | assumption | apply Ext.drewN | apply Ext.drew | apply Ext.alloc)) xw1
  rw [hp'.out]
  refine hK.out _ _ ⟨Yw1.cell c10, Yw1.cell c11, Yw1.cell c12, Yw1.cell c20, Yw1.cell c21, Yw1.cell c22⟩ (fun hHeld => ?_)
  clear hK K
  try simp only [Act.put, List.setIfInBounds_toArray, List.set_cons_zero, List.set_cons_succ, List.getElem_toArray, List.getElem_cons_succ, List.getElem_cons_zero]
  refine wpAnyH_take (i := 4) (v := ?_) rfl (by kernel_rfl) (by kernel_rfl) (by kernel_rfl) (fun _ _ _ h => h) (Or.inl ⟨by rfl, ?_⟩) (by assumption) ?_
  rotate_left
  · (intro w hSw; (try dsimp only at hSw); go_simp; try with_reducible rfl)
  try simp only [Act.put, List.setIfInBounds_toArray, List.set_cons_zero, List.set_cons_succ, List.getElem_toArray, List.getElem_cons_succ, List.getElem_cons_zero]
  refine wpAnyH_take (i := 5) (v := ?_) rfl (by kernel_rfl) (by kernel_rfl) (by kernel_rfl) (fun _ _ _ h => h) (Or.inl ⟨by rfl, ?_⟩) (by assumption) ?_
  rotate_left
  · (intro w hSw; (try dsimp only at hSw); go_simp; try with_reducible rfl)
  try simp only [Act.put, List.setIfInBounds_toArray, List.set_cons_zero, List.set_cons_succ, List.getElem_toArray, List.getElem_cons_succ, List.getElem_cons_zero]
  refine wpAnyH_take (i := 6) (v := ?_) rfl (by kernel_rfl) (by kernel_rfl) (by kernel_rfl) (fun _ _ _ h => h) (Or.inl ⟨by rfl, ?_⟩) (by assumption) ?_
  rotate_left
  · (intro w hSw; (try dsimp only at hSw); go_simp; try with_reducible rfl)
  try simp only [Act.put, List.setIfInBounds_toArray, List.set_cons_zero, List.set_cons_succ, List.getElem_toArray, List.getElem_cons_succ, List.getElem_cons_zero]
  refine wpAnyH_take (i := 8) (v := ?_) rfl (by kernel_rfl) (by kernel_rfl) (by kernel_rfl) (fun _ _ _ h => h) (Or.inl ⟨by rfl, ?_⟩) (by assumption) ?_
  rotate_left
  · (intro w hSw; (try dsimp only at hSw); go_simp; try with_reducible rfl)
  try simp only [Act.put, List.setIfInBounds_toArray, List.set_cons_zero, List.set_cons_succ, List.getElem_toArray, List.getElem_cons_succ, List.getElem_cons_zero]
  refine wpAnyH_ready (rs := [7]) (by kernel_rfl) (by simp) ?_
  refine AllReadyH.cons rfl (fun K hK => ?_) AllReadyH.nil
  try simp only [Act.put, List.setIfInBounds_toArray, List.set_cons_zero, List.set_cons_succ, List.getElem_toArray, List.getElem_cons_succ, List.getElem_cons_zero]
  go_simp
  go_at_call 132
  refine (offsets_c b1 _ _ s1 t1 _ l1 m1 (h1.ext (Xb.trans (Yw1.trans (by repeat (first | exact Ext.refl _ | assumption | apply Ext.drewN | apply Ext.drew | apply Ext.alloc))))) (k1.ext (Xb.trans (Yw1.trans (by repeat (first | exact Ext.refl _ | assumption | apply Ext.drewN | apply Ext.drew | apply Ext.alloc))))) (by have := hg1.out; omega) hin1.out.2.2.2.2 (by have := hin1.out; omega)).mono ?_
  rintro e w2 ⟨r3, rfl, i3, -, xw2⟩
  have Yw2 : Ext (((w.alloc (.cells #[.int .i64 b1, u1, v1] 36)).alloc (.cells #[.int .i64 b2, u2, v2] 36))) w2 := Yw1.trans (Ext.trans (by repeat (first | exact Ext.refl _ | assumption | apply Ext.drewN | apply Ext.drew | apply Ext.alloc)) xw2)
  refine hK.out _ _ ⟨Yw2.cell c10, Yw2.cell c11, Yw2.cell c12, Yw2.cell c20, Yw2.cell c21, Yw2.cell c22⟩ (fun hHeld => ?_)
  clear hK K
  try simp only [Act.put, List.setIfInBounds_toArray, List.set_cons_zero, List.set_cons_succ, List.getElem_toArray, List.getElem_cons_succ, List.getElem_cons_zero]
  refine wpAnyH_ready (rs := [9]) (by kernel_rfl) (by simp) ?_
  refine AllReadyH.cons rfl (fun K hK => ?_) AllReadyH.nil
  try simp only [Act.put, List.setIfInBounds_toArray, List.set_cons_zero, List.set_cons_succ, List.getElem_toArray, List.getElem_cons_succ, List.getElem_cons_zero]
  go_simp
  go_at_call 132
  refine (offsets_c b2 _ _ s2 t2 _ l2 m2 (h2.ext (Xb.trans (Yw2.trans (by repeat (first | exact Ext.refl _ | assumption | apply Ext.drewN | apply Ext.drew | apply Ext.alloc))))) (k2.ext (Xb.trans (Yw2.trans (by repeat (first | exact Ext.refl _ | assumption | apply Ext.drewN | apply Ext.drew | apply Ext.alloc))))) (by have := hg2.out; omega) hin2.out.2.2.2.2 (by have := hin2.out; omega)).mono ?_
  rintro e w3 ⟨r4, rfl, i4, -, xw3⟩
  have Yw3 : Ext (((w.alloc (.cells #[.int .i64 b1, u1, v1] 36)).alloc (.cells #[.int .i64 b2, u2, v2] 36))) w3 := Yw2.trans (Ext.trans (by repeat (first | exact Ext.refl _ | assumption | apply Ext.drewN | apply Ext.drew | apply Ext.alloc)) xw3)
  replace i3 := i3.ext (Ext.trans (by repeat (first | exact Ext.refl _ | assumption | apply Ext.drewN | apply Ext.drew | apply Ext.alloc)) xw3)
  refine hK.out _ _ ⟨Yw3.cell c10, Yw3.cell c11, Yw3.cell c12, Yw3.cell c20, Yw3.cell c21, Yw3.cell c22⟩ (fun hHeld => ?_)
  clear hK K
  try simp only [Act.put, List.setIfInBounds_toArray, List.set_cons_zero, List.set_cons_succ, List.getElem_toArray, List.getElem_cons_succ, List.getElem_cons_zero]
  refine wpAnyH_ready (rs := [10]) (by kernel_rfl) (by simp) ?_
  refine AllReadyH.cons rfl (fun K hK => ?_) AllReadyH.nil
  try simp only [Act.put, List.setIfInBounds_toArray, List.set_cons_zero, List.set_cons_succ, List.getElem_toArray, List.getElem_cons_succ, List.getElem_cons_zero]
  go_simp
  go_at_call 131
  refine (both_c _ _ _ _ _ _ _ (i3.ext (by repeat (first | exact Ext.refl _ | assumption | apply Ext.drewN | apply Ext.drew | apply Ext.alloc))) (i4.ext (by repeat (first | exact Ext.refl _ | assumption | apply Ext.drewN | apply Ext.drew | apply Ext.alloc)))).mono ?_
  rintro e w4 ⟨r5, rfl, i5, -, xw4⟩
  have Yw4 : Ext (((w.alloc (.cells #[.int .i64 b1, u1, v1] 36)).alloc (.cells #[.int .i64 b2, u2, v2] 36))) w4 := Yw3.trans (Ext.trans (by repeat (first | exact Ext.refl _ | assumption | apply Ext.drewN | apply Ext.drew | apply Ext.alloc)) xw4)
  replace i3 := i3.ext (Ext.trans (by repeat (first | exact Ext.refl _ | assumption | apply Ext.drewN | apply Ext.drew | apply Ext.alloc)) xw4)
  replace i4 := i4.ext (Ext.trans (by repeat (first | exact Ext.refl _ | assumption | apply Ext.drewN | apply Ext.drew | apply Ext.alloc)) xw4)
  obtain ⟨p5, q5, rfl⟩ := i5.form; clear i5
  have hd2 : (0 : Int) < (bothL (offsL b1 s1 t1) (offsL b2 s2 t2)).length := by have := hd'.out; omega
  have hd3 : 0 < (bothL (offsL b1 s1 t1) (offsL b2 s2 t2)).length := by omega
  refine hK.out _ _ ⟨Yw4.cell c10, Yw4.cell c11, Yw4.cell c12, Yw4.cell c20, Yw4.cell c21, Yw4.cell c22⟩ (fun hHeld => ?_)
  clear hK K
  try simp only [Act.put, List.setIfInBounds_toArray, List.set_cons_zero, List.set_cons_succ, List.getElem_toArray, List.getElem_cons_succ, List.getElem_cons_zero]
  refine wpAnyH_take (i := 11) (v := ?_) rfl (by kernel_rfl) (by kernel_rfl) (by kernel_rfl) (fun _ _ _ h => h) (Or.inl ⟨by rfl, ?_⟩) (by assumption) ?_
  rotate_left
  · (intro w hSw; (try dsimp only at hSw); go_simp; try with_reducible rfl)
  try simp only [Act.put, List.setIfInBounds_toArray, List.set_cons_zero, List.set_cons_succ, List.getElem_toArray, List.getElem_cons_succ, List.getElem_cons_zero]
  refine wpAnyH_take (i := 12) (v := ?_) rfl (by kernel_rfl) (by kernel_rfl) (by kernel_rfl) (fun _ _ _ h => h) (Or.inl ⟨by rfl, ?_⟩) (by assumption) ?_
  rotate_left
  · (intro w hSw; (try dsimp only at hSw); go_simp; try with_reducible rfl)
  try simp only [Act.put, List.setIfInBounds_toArray, List.set_cons_zero, List.set_cons_succ, List.getElem_toArray, List.getElem_cons_succ, List.getElem_cons_zero]
  refine wpAnyH_take (i := 13) (v := ?_) rfl (by kernel_rfl) (by kernel_rfl) (by kernel_rfl) (fun _ _ _ h => h) (Or.inl ⟨by rfl, ?_⟩) (by assumption) ?_
  rotate_left
  · (intro w hSw; (try dsimp only at hSw); go_simp; try with_reducible rfl)
  try simp only [Act.put, List.setIfInBounds_toArray, List.set_cons_zero, List.set_cons_succ, List.getElem_toArray, List.getElem_cons_succ, List.getElem_cons_zero]
  refine wpAnyH_take (i := 14) (v := ?_) rfl (by kernel_rfl) (by kernel_rfl) (by kernel_rfl) (fun _ _ _ h => h) (Or.inl ⟨by rfl, ?_⟩) (by assumption) ?_
  rotate_left
  · (intro w hSw; (try dsimp only at hSw); go_simp; try with_reducible rfl)
  try simp only [Act.put, List.setIfInBounds_toArray, List.set_cons_zero, List.set_cons_succ, List.getElem_toArray, List.getElem_cons_succ, List.getElem_cons_zero]
  refine wpAnyH_take (i := 15) (v := undef) rfl (by kernel_rfl) (by kernel_rfl) (by kernel_rfl) (fun _ _ _ h => h) (Or.inr ⟨by rfl, rfl⟩) (by assumption) ?_
  try simp only [Act.put, List.setIfInBounds_toArray, List.set_cons_zero, List.set_cons_succ, List.getElem_toArray, List.getElem_cons_succ, List.getElem_cons_zero]
  refine wpAnyH_take (i := 16) (v := undef) rfl (by kernel_rfl) (by kernel_rfl) (by kernel_rfl) (fun _ _ _ h => h) (Or.inr ⟨by rfl, rfl⟩) (by assumption) ?_
  try simp only [Act.put, List.setIfInBounds_toArray, List.set_cons_zero, List.set_cons_succ, List.getElem_toArray, List.getElem_cons_succ, List.getElem_cons_zero]
  refine wpAnyH_take (i := 17) (v := undef) rfl (by kernel_rfl) (by kernel_rfl) (by kernel_rfl) (fun _ _ _ h => h) (Or.inr ⟨by rfl, rfl⟩) (by assumption) ?_
  try simp only [Act.put, List.setIfInBounds_toArray, List.set_cons_zero, List.set_cons_succ, List.getElem_toArray, List.getElem_cons_succ, List.getElem_cons_zero]
  refine wpAnyH_take (i := 18) (v := undef) rfl (by kernel_rfl) (by kernel_rfl) (by kernel_rfl) (fun _ _ _ h => h) (Or.inr ⟨by rfl, rfl⟩) (by assumption) ?_
  try simp only [Act.put, List.setIfInBounds_toArray, List.set_cons_zero, List.set_cons_succ, List.getElem_toArray, List.getElem_cons_succ, List.getElem_cons_zero]
  refine wpAnyH_take (i := 19) (v := ?_) rfl (by kernel_rfl) (by kernel_rfl) (by kernel_rfl) (fun _ _ _ h => h) (Or.inl ⟨by rfl, ?_⟩) (by assumption) ?_
  rotate_left
  · (intro w hSw; (try dsimp only at hSw); go_simp; try with_reducible rfl)
  try simp only [Act.put, List.setIfInBounds_toArray, List.set_cons_zero, List.set_cons_succ, List.getElem_toArray, List.getElem_cons_succ, List.getElem_cons_zero]
  refine wpAnyH_take (i := 20) (v := ?_) rfl (by kernel_rfl) (by kernel_rfl) (by kernel_rfl) (fun _ _ _ h => h) (Or.inl ⟨by rfl, ?_⟩) (by assumption) ?_
  rotate_left
  · (intro w hSw; (try dsimp only at hSw); go_simp; try with_reducible rfl)
  try simp only [Act.put, List.setIfInBounds_toArray, List.set_cons_zero, List.set_cons_succ, List.getElem_toArray, List.getElem_cons_succ, List.getElem_cons_zero]
  refine wpAnyH_take (i := 21) (v := undef) rfl (by kernel_rfl) (by kernel_rfl) (by kernel_rfl) (fun _ _ _ h => h) (Or.inr ⟨by rfl, rfl⟩) (by assumption) ?_
  try simp only [Act.put, List.setIfInBounds_toArray, List.set_cons_zero, List.set_cons_succ, List.getElem_toArray, List.getElem_cons_succ, List.getElem_cons_zero]
  refine wpAnyH_take (i := 22) (v := undef) rfl (by kernel_rfl) (by kernel_rfl) (by kernel_rfl) (fun _ _ _ h => h) (Or.inr ⟨by rfl, rfl⟩) (by assumption) ?_
  try simp only [Act.put, List.setIfInBounds_toArray, List.set_cons_zero, List.set_cons_succ, List.getElem_toArray, List.getElem_cons_succ, List.getElem_cons_zero]
  refine wpAnyH_take (i := 23) (v := undef) rfl (by kernel_rfl) (by kernel_rfl) (by kernel_rfl) (fun _ _ _ h => h) (Or.inr ⟨by rfl, rfl⟩) (by assumption) ?_
  try simp only [Act.put, List.setIfInBounds_toArray, List.set_cons_zero, List.set_cons_succ, List.getElem_toArray, List.getElem_cons_succ, List.getElem_cons_zero]
  refine wpAnyH_take (i := 24) (v := undef) rfl (by kernel_rfl) (by kernel_rfl) (by kernel_rfl) (fun _ _ _ h => h) (Or.inr ⟨by rfl, rfl⟩) (by assumption) ?_
  try simp only [Act.put, List.setIfInBounds_toArray, List.set_cons_zero, List.set_cons_succ, List.getElem_toArray, List.getElem_cons_succ, List.getElem_cons_zero]
  refine wpAnyH_take (i := 25) (v := ?_) rfl (by kernel_rfl) (by kernel_rfl) (by kernel_rfl) (fun _ _ _ h => h) (Or.inl ⟨by rfl, ?_⟩) (by assumption) ?_
  rotate_left
  · (intro w hSw; (try dsimp only at hSw); go_simp; try with_reducible rfl)
  try simp only [Act.put, List.setIfInBounds_toArray, List.set_cons_zero, List.set_cons_succ, List.getElem_toArray, List.getElem_cons_succ, List.getElem_cons_zero]
  refine wpAnyH_done (by kernel_rfl) ?_ _
  clear hHeld
  go_wp2_with fail
  go_ret2
  rw [hr.out, hr2.out]
  exact PIntsB.no ((Xb.trans Yw4).trans (by repeat (first | exact Ext.refl _ | assumption | apply Ext.drewN | apply Ext.drew | apply Ext.alloc)))

set_option maxHeartbeats 6400000 in
theorem specSwapViews_2 (mem : List Int) (a0 : Value) (b1 : Int) (u1 v1 : Value) (s1 t1 : List Int) (b2 : Int) (u2 v2 : Value) (s2 t2 : List Int) (w : World) (l0 l1 m1 l2 m2 : Nat) (h0 : Ints w l0 a0 mem) (h1 : Ints w l1 u1 s1) (k1 : Ints w m1 v1 t1) (h2 : Ints w l2 u2 s2) (k2 : Ints w m2 v2 t2) (hp : pairB mem b1 s1 t1 b2 s2 t2 = true) (hd : (bothL (offsL b1 s1 t1) (offsL b2 s2 t2)).length = 0) (hn : ¬ (offsL b1 s1 t1).Nodup) :
    Calls Try.prog 45 #[a0, .agg #[.int .i64 b1, u1, v1], .agg #[.int .i64 b2, u2, v2]] w (PIntsB w (swapA mem b1 s1 t1 b2 s2 t2) (swapB mem b1 s1 t1 b2 s2 t2)) := by
  have hp' := Lib.hid hp
  have hr := Lib.hid (show swapB mem b1 s1 t1 b2 s2 t2 = false by unfold swapB; rw [hp, decide_eq_true hd, decide_eq_false hn]; rfl)
  have hr2 := Lib.hid (show swapA mem b1 s1 t1 b2 s2 t2 = [] by unfold swapA; rw [if_neg (by rw [hr.out]; simp)])
  unfold pairB at hp
  simp only [Bool.and_eq_true] at hp
  obtain ⟨hh1, hh2, hsame⟩ := hp
  obtain ⟨hm, ha, hix1⟩ := hold_in hh1
  obtain ⟨-, hb, hix2⟩ := hold_in hh2
  have hml := mem_len hm
  have hsl : (offsL b2 s2 t2).length = (offsL b1 s1 t1).length := by rw [sameB_eq hsame]; exact offs_same
  have e1 := Lib.hid (show (decide (offsL b1 s1 t1).Nodup) = false from decide_eq_false hn)
  have ha' := Lib.hid ha
  have hb' := Lib.hid hb
  replace hix1 := Lib.hid hix1
  replace hix2 := Lib.hid hix2
  replace hsl := Lib.hid hsl
  replace hh1 := Lib.hid hh1
  replace hh2 := Lib.hid hh2
  have hd' := Lib.hid hd
  obtain ⟨j1, j2, -⟩ := viewB_in ha
  have hin1 := Lib.hid (shapeB_in j1)
  have hg1 := Lib.hid j2
  clear j1 j2
  obtain ⟨j1, j2, -⟩ := viewB_in hb
  have hin2 := Lib.hid (shapeB_in j1)
  have hg2 := Lib.hid j2
  clear j1 j2
  clear ha hb hsame hm hd hn
  obtain ⟨a0, c0, rfl⟩ := h0.form
  go_enter Try.func45, Try.ntmps45
  go_wp2_with fail
  have Xb : Ext w ((w.alloc (.cells #[.int .i64 b1, u1, v1] 36)).alloc (.cells #[.int .i64 b2, u2, v2] 36)) := (by repeat (first | exact Ext.refl _ | assumption | apply Ext.drewN | apply Ext.drew | apply Ext.alloc))
  have c10 : (((w.alloc (.cells #[.int .i64 b1, u1, v1] 36)).alloc (.cells #[.int .i64 b2, u2, v2] 36))).cell? ⟨w.heap.size, 0, none⟩ = some (.int .i64 b1) := (by first | (simp; done) | ((repeat rw [World.cell?_alloc_lt _ _ _ (by simp <;> omega)]); simp; done) | (go_simp; done))
  have c11 : (((w.alloc (.cells #[.int .i64 b1, u1, v1] 36)).alloc (.cells #[.int .i64 b2, u2, v2] 36))).cell? ⟨w.heap.size, 1, none⟩ = some (u1) := (by first | (simp; done) | ((repeat rw [World.cell?_alloc_lt _ _ _ (by simp <;> omega)]); simp; done) | (go_simp; done))
  have c12 : (((w.alloc (.cells #[.int .i64 b1, u1, v1] 36)).alloc (.cells #[.int .i64 b2, u2, v2] 36))).cell? ⟨w.heap.size, 2, none⟩ = some (v1) := (by first | (simp; done) | ((repeat rw [World.cell?_alloc_lt _ _ _ (by simp <;> omega)]); simp; done) | (go_simp; done))
  have c20 : (((w.alloc (.cells #[.int .i64 b1, u1, v1] 36)).alloc (.cells #[.int .i64 b2, u2, v2] 36))).cell? ⟨w.heap.size + 1, 0, none⟩ = some (.int .i64 b2) := (by first | (simp; done) | ((repeat rw [World.cell?_alloc_lt _ _ _ (by simp <;> omega)]); simp; done) | (go_simp; done))
  have c21 : (((w.alloc (.cells #[.int .i64 b1, u1, v1] 36)).alloc (.cells #[.int .i64 b2, u2, v2] 36))).cell? ⟨w.heap.size + 1, 1, none⟩ = some (u2) := (by first | (simp; done) | ((repeat rw [World.cell?_alloc_lt _ _ _ (by simp <;> omega)]); simp; done) | (go_simp; done))
  have c22 : (((w.alloc (.cells #[.int .i64 b1, u1, v1] 36)).alloc (.cells #[.int .i64 b2, u2, v2] 36))).cell? ⟨w.heap.size + 1, 2, none⟩ = some (v2) := (by first | (simp; done) | ((repeat rw [World.cell?_alloc_lt _ _ _ (by simp <;> omega)]); simp; done) | (go_simp; done))
  refine wp_region_held_drew (S := fun w' => w'.cell? ⟨w.heap.size, 0, none⟩ = some (.int .i64 b1) ∧ w'.cell? ⟨w.heap.size, 1, none⟩ = some (u1) ∧ w'.cell? ⟨w.heap.size, 2, none⟩ = some (v1) ∧ w'.cell? ⟨w.heap.size + 1, 0, none⟩ = some (.int .i64 b2) ∧ w'.cell? ⟨w.heap.size + 1, 1, none⟩ = some (u2) ∧ w'.cell? ⟨w.heap.size + 1, 2, none⟩ = some (v2)) (by kernel_rfl) ⟨c10, c11, c12, c20, c21, c22⟩ (fun hHeld => ?_)
  refine wpAnyH_take (i := 0) (v := ?_) rfl (by kernel_rfl) (by kernel_rfl) (by kernel_rfl) (fun _ _ _ h => h) (Or.inl ⟨by rfl, ?_⟩) (by assumption) ?_
  rotate_left
  · (intro w hSw; (try dsimp only at hSw); go_simp; try with_reducible rfl)
  try simp only [Act.put, List.setIfInBounds_toArray, List.set_cons_zero, List.set_cons_succ, List.getElem_toArray, List.getElem_cons_succ, List.getElem_cons_zero]
  refine wpAnyH_take (i := 1) (v := ?_) rfl (by kernel_rfl) (by kernel_rfl) (by kernel_rfl) (fun _ _ _ h => h) (Or.inl ⟨by rfl, ?_⟩) (by assumption) ?_
  rotate_left
  · (intro w hSw; (try dsimp only at hSw); go_simp; try with_reducible rfl)
  try simp only [Act.put, List.setIfInBounds_toArray, List.set_cons_zero, List.set_cons_succ, List.getElem_toArray, List.getElem_cons_succ, List.getElem_cons_zero]
  refine wpAnyH_take (i := 2) (v := ?_) rfl (by kernel_rfl) (by kernel_rfl) (by kernel_rfl) (fun _ _ _ h => h) (Or.inl ⟨by rfl, ?_⟩) (by assumption) ?_
  rotate_left
  · (intro w hSw; (try dsimp only at hSw); go_simp; try with_reducible rfl)
  try simp only [Act.put, List.setIfInBounds_toArray, List.set_cons_zero, List.set_cons_succ, List.getElem_toArray, List.getElem_cons_succ, List.getElem_cons_zero]
  refine wpAnyH_ready (rs := [3]) (by kernel_rfl) (by simp) ?_
  refine AllReadyH.cons rfl (fun K hK => ?_) AllReadyH.nil
  try simp only [Act.put, List.setIfInBounds_toArray, List.set_cons_zero, List.set_cons_succ, List.getElem_toArray, List.getElem_cons_succ, List.getElem_cons_zero]
  go_simp
  go_at_call 130
  refine (pair_c mem _ b1 _ _ s1 t1 b2 _ _ s2 t2 _ l0 l1 m1 l2 m2 (h0.ext (Xb.trans (by repeat (first | exact Ext.refl _ | assumption | apply Ext.drewN | apply Ext.drew | apply Ext.alloc)))) (h1.ext (Xb.trans (by repeat (first | exact Ext.refl _ | assumption | apply Ext.drewN | apply Ext.drew | apply Ext.alloc)))) (k1.ext (Xb.trans (by repeat (first | exact Ext.refl _ | assumption | apply Ext.drewN | apply Ext.drew | apply Ext.alloc)))) (h2.ext (Xb.trans (by repeat (first | exact Ext.refl _ | assumption | apply Ext.drewN | apply Ext.drew | apply Ext.alloc)))) (k2.ext (Xb.trans (by repeat (first | exact Ext.refl _ | assumption | apply Ext.drewN | apply Ext.drew | apply Ext.alloc))))).mono ?_
  rintro e w1 ⟨rfl, xw1⟩
  have Yw1 : Ext (((w.alloc (.cells #[.int .i64 b1, u1, v1] 36)).alloc (.cells #[.int .i64 b2, u2, v2] 36))) w1 := Ext.trans (by repeat (first | exact Ext.refl _ | assumption | apply Ext.drewN | apply Ext.drew | apply Ext.alloc)) xw1
  rw [hp'.out]
  refine hK.out _ _ ⟨Yw1.cell c10, Yw1.cell c11, Yw1.cell c12, Yw1.cell c20, Yw1.cell c21, Yw1.cell c22⟩ (fun hHeld => ?_)
  clear hK K
  try simp only [Act.put, List.setIfInBounds_toArray, List.set_cons_zero, List.set_cons_succ, List.getElem_toArray, List.getElem_cons_succ, List.getElem_cons_zero]
  refine wpAnyH_take (i := 4) (v := ?_) rfl (by kernel_rfl) (by kernel_rfl) (by kernel_rfl) (fun _ _ _ h => h) (Or.inl ⟨by rfl, ?_⟩) (by assumption) ?_
  rotate_left
  · (intro w hSw; (try dsimp only at hSw); go_simp; try with_reducible rfl)
  try simp only [Act.put, List.setIfInBounds_toArray, List.set_cons_zero, List.set_cons_succ, List.getElem_toArray, List.getElem_cons_succ, List.getElem_cons_zero]
  refine wpAnyH_take (i := 5) (v := ?_) rfl (by kernel_rfl) (by kernel_rfl) (by kernel_rfl) (fun _ _ _ h => h) (Or.inl ⟨by rfl, ?_⟩) (by assumption) ?_
  rotate_left
  · (intro w hSw; (try dsimp only at hSw); go_simp; try with_reducible rfl)
  try simp only [Act.put, List.setIfInBounds_toArray, List.set_cons_zero, List.set_cons_succ, List.getElem_toArray, List.getElem_cons_succ, List.getElem_cons_zero]
  refine wpAnyH_take (i := 6) (v := ?_) rfl (by kernel_rfl) (by kernel_rfl) (by kernel_rfl) (fun _ _ _ h => h) (Or.inl ⟨by rfl, ?_⟩) (by assumption) ?_
  rotate_left
  · (intro w hSw; (try dsimp only at hSw); go_simp; try with_reducible rfl)
  try simp only [Act.put, List.setIfInBounds_toArray, List.set_cons_zero, List.set_cons_succ, List.getElem_toArray, List.getElem_cons_succ, List.getElem_cons_zero]
  refine wpAnyH_take (i := 8) (v := ?_) rfl (by kernel_rfl) (by kernel_rfl) (by kernel_rfl) (fun _ _ _ h => h) (Or.inl ⟨by rfl, ?_⟩) (by assumption) ?_
  rotate_left
  · (intro w hSw; (try dsimp only at hSw); go_simp; try with_reducible rfl)
  try simp only [Act.put, List.setIfInBounds_toArray, List.set_cons_zero, List.set_cons_succ, List.getElem_toArray, List.getElem_cons_succ, List.getElem_cons_zero]
  refine wpAnyH_ready (rs := [7]) (by kernel_rfl) (by simp) ?_
  refine AllReadyH.cons rfl (fun K hK => ?_) AllReadyH.nil
  try simp only [Act.put, List.setIfInBounds_toArray, List.set_cons_zero, List.set_cons_succ, List.getElem_toArray, List.getElem_cons_succ, List.getElem_cons_zero]
  go_simp
  go_at_call 132
  refine (offsets_c b1 _ _ s1 t1 _ l1 m1 (h1.ext (Xb.trans (Yw1.trans (by repeat (first | exact Ext.refl _ | assumption | apply Ext.drewN | apply Ext.drew | apply Ext.alloc))))) (k1.ext (Xb.trans (Yw1.trans (by repeat (first | exact Ext.refl _ | assumption | apply Ext.drewN | apply Ext.drew | apply Ext.alloc))))) (by have := hg1.out; omega) hin1.out.2.2.2.2 (by have := hin1.out; omega)).mono ?_
  rintro e w2 ⟨r3, rfl, i3, -, xw2⟩
  have Yw2 : Ext (((w.alloc (.cells #[.int .i64 b1, u1, v1] 36)).alloc (.cells #[.int .i64 b2, u2, v2] 36))) w2 := Yw1.trans (Ext.trans (by repeat (first | exact Ext.refl _ | assumption | apply Ext.drewN | apply Ext.drew | apply Ext.alloc)) xw2)
  refine hK.out _ _ ⟨Yw2.cell c10, Yw2.cell c11, Yw2.cell c12, Yw2.cell c20, Yw2.cell c21, Yw2.cell c22⟩ (fun hHeld => ?_)
  clear hK K
  try simp only [Act.put, List.setIfInBounds_toArray, List.set_cons_zero, List.set_cons_succ, List.getElem_toArray, List.getElem_cons_succ, List.getElem_cons_zero]
  refine wpAnyH_ready (rs := [9]) (by kernel_rfl) (by simp) ?_
  refine AllReadyH.cons rfl (fun K hK => ?_) AllReadyH.nil
  try simp only [Act.put, List.setIfInBounds_toArray, List.set_cons_zero, List.set_cons_succ, List.getElem_toArray, List.getElem_cons_succ, List.getElem_cons_zero]
  go_simp
  go_at_call 132
  refine (offsets_c b2 _ _ s2 t2 _ l2 m2 (h2.ext (Xb.trans (Yw2.trans (by repeat (first | exact Ext.refl _ | assumption | apply Ext.drewN | apply Ext.drew | apply Ext.alloc))))) (k2.ext (Xb.trans (Yw2.trans (by repeat (first | exact Ext.refl _ | assumption | apply Ext.drewN | apply Ext.drew | apply Ext.alloc))))) (by have := hg2.out; omega) hin2.out.2.2.2.2 (by have := hin2.out; omega)).mono ?_
  rintro e w3 ⟨r4, rfl, i4, -, xw3⟩
  have Yw3 : Ext (((w.alloc (.cells #[.int .i64 b1, u1, v1] 36)).alloc (.cells #[.int .i64 b2, u2, v2] 36))) w3 := Yw2.trans (Ext.trans (by repeat (first | exact Ext.refl _ | assumption | apply Ext.drewN | apply Ext.drew | apply Ext.alloc)) xw3)
  replace i3 := i3.ext (Ext.trans (by repeat (first | exact Ext.refl _ | assumption | apply Ext.drewN | apply Ext.drew | apply Ext.alloc)) xw3)
  refine hK.out _ _ ⟨Yw3.cell c10, Yw3.cell c11, Yw3.cell c12, Yw3.cell c20, Yw3.cell c21, Yw3.cell c22⟩ (fun hHeld => ?_)
  clear hK K
  try simp only [Act.put, List.setIfInBounds_toArray, List.set_cons_zero, List.set_cons_succ, List.getElem_toArray, List.getElem_cons_succ, List.getElem_cons_zero]
  refine wpAnyH_ready (rs := [10]) (by kernel_rfl) (by simp) ?_
  refine AllReadyH.cons rfl (fun K hK => ?_) AllReadyH.nil
  try simp only [Act.put, List.setIfInBounds_toArray, List.set_cons_zero, List.set_cons_succ, List.getElem_toArray, List.getElem_cons_succ, List.getElem_cons_zero]
  go_simp
  go_at_call 131
  refine (both_c _ _ _ _ _ _ _ (i3.ext (by repeat (first | exact Ext.refl _ | assumption | apply Ext.drewN | apply Ext.drew | apply Ext.alloc))) (i4.ext (by repeat (first | exact Ext.refl _ | assumption | apply Ext.drewN | apply Ext.drew | apply Ext.alloc)))).mono ?_
  rintro e w4 ⟨r5, rfl, i5, -, xw4⟩
  have Yw4 : Ext (((w.alloc (.cells #[.int .i64 b1, u1, v1] 36)).alloc (.cells #[.int .i64 b2, u2, v2] 36))) w4 := Yw3.trans (Ext.trans (by repeat (first | exact Ext.refl _ | assumption | apply Ext.drewN | apply Ext.drew | apply Ext.alloc)) xw4)
  replace i3 := i3.ext (Ext.trans (by repeat (first | exact Ext.refl _ | assumption | apply Ext.drewN | apply Ext.drew | apply Ext.alloc)) xw4)
  replace i4 := i4.ext (Ext.trans (by repeat (first | exact Ext.refl _ | assumption | apply Ext.drewN | apply Ext.drew | apply Ext.alloc)) xw4)
  obtain ⟨p5, q5, rfl⟩ := i5.form; clear i5; rw [hd'.out]
  refine hK.out _ _ ⟨Yw4.cell c10, Yw4.cell c11, Yw4.cell c12, Yw4.cell c20, Yw4.cell c21, Yw4.cell c22⟩ (fun hHeld => ?_)
  clear hK K
  try simp only [Act.put, List.setIfInBounds_toArray, List.set_cons_zero, List.set_cons_succ, List.getElem_toArray, List.getElem_cons_succ, List.getElem_cons_zero]
  refine wpAnyH_take (i := 11) (v := ?_) rfl (by kernel_rfl) (by kernel_rfl) (by kernel_rfl) (fun _ _ _ h => h) (Or.inl ⟨by rfl, ?_⟩) (by assumption) ?_
  rotate_left
  · (intro w hSw; (try dsimp only at hSw); go_simp; try with_reducible rfl)
  try simp only [Act.put, List.setIfInBounds_toArray, List.set_cons_zero, List.set_cons_succ, List.getElem_toArray, List.getElem_cons_succ, List.getElem_cons_zero]
  refine wpAnyH_take (i := 12) (v := ?_) rfl (by kernel_rfl) (by kernel_rfl) (by kernel_rfl) (fun _ _ _ h => h) (Or.inl ⟨by rfl, ?_⟩) (by assumption) ?_
  rotate_left
  · (intro w hSw; (try dsimp only at hSw); go_simp; try with_reducible rfl)
  try simp only [Act.put, List.setIfInBounds_toArray, List.set_cons_zero, List.set_cons_succ, List.getElem_toArray, List.getElem_cons_succ, List.getElem_cons_zero]
  refine wpAnyH_take (i := 13) (v := ?_) rfl (by kernel_rfl) (by kernel_rfl) (by kernel_rfl) (fun _ _ _ h => h) (Or.inl ⟨by rfl, ?_⟩) (by assumption) ?_
  rotate_left
  · (intro w hSw; (try dsimp only at hSw); go_simp; try with_reducible rfl)
  try simp only [Act.put, List.setIfInBounds_toArray, List.set_cons_zero, List.set_cons_succ, List.getElem_toArray, List.getElem_cons_succ, List.getElem_cons_zero]
  refine wpAnyH_take (i := 14) (v := ?_) rfl (by kernel_rfl) (by kernel_rfl) (by kernel_rfl) (fun _ _ _ h => h) (Or.inl ⟨by rfl, ?_⟩) (by assumption) ?_
  rotate_left
  · (intro w hSw; (try dsimp only at hSw); go_simp; try with_reducible rfl)
  try simp only [Act.put, List.setIfInBounds_toArray, List.set_cons_zero, List.set_cons_succ, List.getElem_toArray, List.getElem_cons_succ, List.getElem_cons_zero]
  refine wpAnyH_take (i := 15) (v := ?_) rfl (by kernel_rfl) (by kernel_rfl) (by kernel_rfl) (fun _ _ _ h => h) (Or.inl ⟨by rfl, ?_⟩) (by assumption) ?_
  rotate_left
  · (intro w hSw; (try dsimp only at hSw); go_simp; try with_reducible rfl)
  try simp only [Act.put, List.setIfInBounds_toArray, List.set_cons_zero, List.set_cons_succ, List.getElem_toArray, List.getElem_cons_succ, List.getElem_cons_zero]
  refine wpAnyH_ready (rs := [16]) (by kernel_rfl) (by simp) ?_
  refine AllReadyH.cons rfl (fun K hK => ?_) AllReadyH.nil
  try simp only [Act.put, List.setIfInBounds_toArray, List.set_cons_zero, List.set_cons_succ, List.getElem_toArray, List.getElem_cons_succ, List.getElem_cons_zero]
  go_simp
  go_at_call 132
  refine (offsets_c b1 _ _ s1 t1 _ l1 m1 (h1.ext (Xb.trans (Yw4.trans (by repeat (first | exact Ext.refl _ | assumption | apply Ext.drewN | apply Ext.drew | apply Ext.alloc))))) (k1.ext (Xb.trans (Yw4.trans (by repeat (first | exact Ext.refl _ | assumption | apply Ext.drewN | apply Ext.drew | apply Ext.alloc))))) (by have := hg1.out; omega) hin1.out.2.2.2.2 (by have := hin1.out; omega)).mono ?_
  rintro e w5 ⟨r6, rfl, i6, -, xw5⟩
  have Yw5 : Ext (((w.alloc (.cells #[.int .i64 b1, u1, v1] 36)).alloc (.cells #[.int .i64 b2, u2, v2] 36))) w5 := Yw4.trans (Ext.trans (by repeat (first | exact Ext.refl _ | assumption | apply Ext.drewN | apply Ext.drew | apply Ext.alloc)) xw5)
  replace i3 := i3.ext (Ext.trans (by repeat (first | exact Ext.refl _ | assumption | apply Ext.drewN | apply Ext.drew | apply Ext.alloc)) xw5)
  replace i4 := i4.ext (Ext.trans (by repeat (first | exact Ext.refl _ | assumption | apply Ext.drewN | apply Ext.drew | apply Ext.alloc)) xw5)
  refine hK.out _ _ ⟨Yw5.cell c10, Yw5.cell c11, Yw5.cell c12, Yw5.cell c20, Yw5.cell c21, Yw5.cell c22⟩ (fun hHeld => ?_)
  clear hK K
  try simp only [Act.put, List.setIfInBounds_toArray, List.set_cons_zero, List.set_cons_succ, List.getElem_toArray, List.getElem_cons_succ, List.getElem_cons_zero]
  refine wpAnyH_ready (rs := [17]) (by kernel_rfl) (by simp) ?_
  refine AllReadyH.cons rfl (fun K hK => ?_) AllReadyH.nil
  try simp only [Act.put, List.setIfInBounds_toArray, List.set_cons_zero, List.set_cons_succ, List.getElem_toArray, List.getElem_cons_succ, List.getElem_cons_zero]
  go_simp
  go_at_call 133
  refine (different_c _ _ _ _ (i6.ext (by repeat (first | exact Ext.refl _ | assumption | apply Ext.drewN | apply Ext.drew | apply Ext.alloc)))).mono ?_
  rintro e w6 ⟨rfl, xw6⟩
  have Yw6 : Ext (((w.alloc (.cells #[.int .i64 b1, u1, v1] 36)).alloc (.cells #[.int .i64 b2, u2, v2] 36))) w6 := Yw5.trans (Ext.trans (by repeat (first | exact Ext.refl _ | assumption | apply Ext.drewN | apply Ext.drew | apply Ext.alloc)) xw6)
  replace i3 := i3.ext (Ext.trans (by repeat (first | exact Ext.refl _ | assumption | apply Ext.drewN | apply Ext.drew | apply Ext.alloc)) xw6)
  replace i4 := i4.ext (Ext.trans (by repeat (first | exact Ext.refl _ | assumption | apply Ext.drewN | apply Ext.drew | apply Ext.alloc)) xw6)
  replace i6 := i6.ext (Ext.trans (by repeat (first | exact Ext.refl _ | assumption | apply Ext.drewN | apply Ext.drew | apply Ext.alloc)) xw6)
  rw [e1.out]
  refine hK.out _ _ ⟨Yw6.cell c10, Yw6.cell c11, Yw6.cell c12, Yw6.cell c20, Yw6.cell c21, Yw6.cell c22⟩ (fun hHeld => ?_)
  clear hK K
  try simp only [Act.put, List.setIfInBounds_toArray, List.set_cons_zero, List.set_cons_succ, List.getElem_toArray, List.getElem_cons_succ, List.getElem_cons_zero]
  refine wpAnyH_take (i := 18) (v := ?_) rfl (by kernel_rfl) (by kernel_rfl) (by kernel_rfl) (fun _ _ _ h => h) (Or.inl ⟨by rfl, ?_⟩) (by assumption) ?_
  rotate_left
  · (intro w hSw; (try dsimp only at hSw); go_simp; try with_reducible rfl)
  try simp only [Act.put, List.setIfInBounds_toArray, List.set_cons_zero, List.set_cons_succ, List.getElem_toArray, List.getElem_cons_succ, List.getElem_cons_zero]
  refine wpAnyH_take (i := 19) (v := ?_) rfl (by kernel_rfl) (by kernel_rfl) (by kernel_rfl) (fun _ _ _ h => h) (Or.inl ⟨by rfl, ?_⟩) (by assumption) ?_
  rotate_left
  · (intro w hSw; (try dsimp only at hSw); go_simp; try with_reducible rfl)
  try simp only [Act.put, List.setIfInBounds_toArray, List.set_cons_zero, List.set_cons_succ, List.getElem_toArray, List.getElem_cons_succ, List.getElem_cons_zero]
  refine wpAnyH_take (i := 20) (v := ?_) rfl (by kernel_rfl) (by kernel_rfl) (by kernel_rfl) (fun _ _ _ h => h) (Or.inl ⟨by rfl, ?_⟩) (by assumption) ?_
  rotate_left
  · (intro w hSw; (try dsimp only at hSw); go_simp; try with_reducible rfl)
  try simp only [Act.put, List.setIfInBounds_toArray, List.set_cons_zero, List.set_cons_succ, List.getElem_toArray, List.getElem_cons_succ, List.getElem_cons_zero]
  refine wpAnyH_take (i := 21) (v := undef) rfl (by kernel_rfl) (by kernel_rfl) (by kernel_rfl) (fun _ _ _ h => h) (Or.inr ⟨by rfl, rfl⟩) (by assumption) ?_
  try simp only [Act.put, List.setIfInBounds_toArray, List.set_cons_zero, List.set_cons_succ, List.getElem_toArray, List.getElem_cons_succ, List.getElem_cons_zero]
  refine wpAnyH_take (i := 22) (v := undef) rfl (by kernel_rfl) (by kernel_rfl) (by kernel_rfl) (fun _ _ _ h => h) (Or.inr ⟨by rfl, rfl⟩) (by assumption) ?_
  try simp only [Act.put, List.setIfInBounds_toArray, List.set_cons_zero, List.set_cons_succ, List.getElem_toArray, List.getElem_cons_succ, List.getElem_cons_zero]
  refine wpAnyH_take (i := 23) (v := undef) rfl (by kernel_rfl) (by kernel_rfl) (by kernel_rfl) (fun _ _ _ h => h) (Or.inr ⟨by rfl, rfl⟩) (by assumption) ?_
  try simp only [Act.put, List.setIfInBounds_toArray, List.set_cons_zero, List.set_cons_succ, List.getElem_toArray, List.getElem_cons_succ, List.getElem_cons_zero]
  refine wpAnyH_take (i := 24) (v := undef) rfl (by kernel_rfl) (by kernel_rfl) (by kernel_rfl) (fun _ _ _ h => h) (Or.inr ⟨by rfl, rfl⟩) (by assumption) ?_
  try simp only [Act.put, List.setIfInBounds_toArray, List.set_cons_zero, List.set_cons_succ, List.getElem_toArray, List.getElem_cons_succ, List.getElem_cons_zero]
  refine wpAnyH_take (i := 25) (v := ?_) rfl (by kernel_rfl) (by kernel_rfl) (by kernel_rfl) (fun _ _ _ h => h) (Or.inl ⟨by rfl, ?_⟩) (by assumption) ?_
  rotate_left
  · (intro w hSw; (try dsimp only at hSw); go_simp; try with_reducible rfl)
  try simp only [Act.put, List.setIfInBounds_toArray, List.set_cons_zero, List.set_cons_succ, List.getElem_toArray, List.getElem_cons_succ, List.getElem_cons_zero]
  refine wpAnyH_done (by kernel_rfl) ?_ _
  clear hHeld
  go_wp2_with fail
  go_ret2
  rw [hr.out, hr2.out]
  exact PIntsB.no ((Xb.trans Yw6).trans (by repeat (first | exact Ext.refl _ | assumption | apply Ext.drewN | apply Ext.drew | apply Ext.alloc)))

set_option maxHeartbeats 6400000 in
theorem specSwapViews_3 (mem : List Int) (a0 : Value) (b1 : Int) (u1 v1 : Value) (s1 t1 : List Int) (b2 : Int) (u2 v2 : Value) (s2 t2 : List Int) (w : World) (l0 l1 m1 l2 m2 : Nat) (h0 : Ints w l0 a0 mem) (h1 : Ints w l1 u1 s1) (k1 : Ints w m1 v1 t1) (h2 : Ints w l2 u2 s2) (k2 : Ints w m2 v2 t2) (hp : pairB mem b1 s1 t1 b2 s2 t2 = true) (hd : (bothL (offsL b1 s1 t1) (offsL b2 s2 t2)).length = 0) (hn : (offsL b1 s1 t1).Nodup) (hn2 : ¬ (offsL b2 s2 t2).Nodup) :
    Calls Try.prog 45 #[a0, .agg #[.int .i64 b1, u1, v1], .agg #[.int .i64 b2, u2, v2]] w (PIntsB w (swapA mem b1 s1 t1 b2 s2 t2) (swapB mem b1 s1 t1 b2 s2 t2)) := by
  have hp' := Lib.hid hp
  have hr := Lib.hid (show swapB mem b1 s1 t1 b2 s2 t2 = false by unfold swapB; rw [hp, decide_eq_true hd, decide_eq_true hn, decide_eq_false hn2]; rfl)
  have hr2 := Lib.hid (show swapA mem b1 s1 t1 b2 s2 t2 = [] by unfold swapA; rw [if_neg (by rw [hr.out]; simp)])
  unfold pairB at hp
  simp only [Bool.and_eq_true] at hp
  obtain ⟨hh1, hh2, hsame⟩ := hp
  obtain ⟨hm, ha, hix1⟩ := hold_in hh1
  obtain ⟨-, hb, hix2⟩ := hold_in hh2
  have hml := mem_len hm
  have hsl : (offsL b2 s2 t2).length = (offsL b1 s1 t1).length := by rw [sameB_eq hsame]; exact offs_same
  have e1 := Lib.hid (show (decide (offsL b1 s1 t1).Nodup) = true from decide_eq_true hn)
  have e2 := Lib.hid (show (decide (offsL b2 s2 t2).Nodup) = false from decide_eq_false hn2)
  have ha' := Lib.hid ha
  have hb' := Lib.hid hb
  replace hix1 := Lib.hid hix1
  replace hix2 := Lib.hid hix2
  replace hsl := Lib.hid hsl
  replace hh1 := Lib.hid hh1
  replace hh2 := Lib.hid hh2
  have hd' := Lib.hid hd
  obtain ⟨j1, j2, -⟩ := viewB_in ha
  have hin1 := Lib.hid (shapeB_in j1)
  have hg1 := Lib.hid j2
  clear j1 j2
  obtain ⟨j1, j2, -⟩ := viewB_in hb
  have hin2 := Lib.hid (shapeB_in j1)
  have hg2 := Lib.hid j2
  clear j1 j2
  clear ha hb hsame hm hd hn hn2
  obtain ⟨a0, c0, rfl⟩ := h0.form
  go_enter Try.func45, Try.ntmps45
  go_wp2_with fail
  have Xb : Ext w ((w.alloc (.cells #[.int .i64 b1, u1, v1] 36)).alloc (.cells #[.int .i64 b2, u2, v2] 36)) := (by repeat (first | exact Ext.refl _ | assumption | apply Ext.drewN | apply Ext.drew | apply Ext.alloc))
  have c10 : (((w.alloc (.cells #[.int .i64 b1, u1, v1] 36)).alloc (.cells #[.int .i64 b2, u2, v2] 36))).cell? ⟨w.heap.size, 0, none⟩ = some (.int .i64 b1) := (by first | (simp; done) | ((repeat rw [World.cell?_alloc_lt _ _ _ (by simp <;> omega)]); simp; done) | (go_simp; done))
  have c11 : (((w.alloc (.cells #[.int .i64 b1, u1, v1] 36)).alloc (.cells #[.int .i64 b2, u2, v2] 36))).cell? ⟨w.heap.size, 1, none⟩ = some (u1) := (by first | (simp; done) | ((repeat rw [World.cell?_alloc_lt _ _ _ (by simp <;> omega)]); simp; done) | (go_simp; done))
  have c12 : (((w.alloc (.cells #[.int .i64 b1, u1, v1] 36)).alloc (.cells #[.int .i64 b2, u2, v2] 36))).cell? ⟨w.heap.size, 2, none⟩ = some (v1) := (by first | (simp; done) | ((repeat rw [World.cell?_alloc_lt _ _ _ (by simp <;> omega)]); simp; done) | (go_simp; done))
  have c20 : (((w.alloc (.cells #[.int .i64 b1, u1, v1] 36)).alloc (.cells #[.int .i64 b2, u2, v2] 36))).cell? ⟨w.heap.size + 1, 0, none⟩ = some (.int .i64 b2) := (by first | (simp; done) | ((repeat rw [World.cell?_alloc_lt _ _ _ (by simp <;> omega)]); simp; done) | (go_simp; done))
  have c21 : (((w.alloc (.cells #[.int .i64 b1, u1, v1] 36)).alloc (.cells #[.int .i64 b2, u2, v2] 36))).cell? ⟨w.heap.size + 1, 1, none⟩ = some (u2) := (by first | (simp; done) | ((repeat rw [World.cell?_alloc_lt _ _ _ (by simp <;> omega)]); simp; done) | (go_simp; done))
  have c22 : (((w.alloc (.cells #[.int .i64 b1, u1, v1] 36)).alloc (.cells #[.int .i64 b2, u2, v2] 36))).cell? ⟨w.heap.size + 1, 2, none⟩ = some (v2) := (by first | (simp; done) | ((repeat rw [World.cell?_alloc_lt _ _ _ (by simp <;> omega)]); simp; done) | (go_simp; done))
  refine wp_region_held_drew (S := fun w' => w'.cell? ⟨w.heap.size, 0, none⟩ = some (.int .i64 b1) ∧ w'.cell? ⟨w.heap.size, 1, none⟩ = some (u1) ∧ w'.cell? ⟨w.heap.size, 2, none⟩ = some (v1) ∧ w'.cell? ⟨w.heap.size + 1, 0, none⟩ = some (.int .i64 b2) ∧ w'.cell? ⟨w.heap.size + 1, 1, none⟩ = some (u2) ∧ w'.cell? ⟨w.heap.size + 1, 2, none⟩ = some (v2)) (by kernel_rfl) ⟨c10, c11, c12, c20, c21, c22⟩ (fun hHeld => ?_)
  refine wpAnyH_take (i := 0) (v := ?_) rfl (by kernel_rfl) (by kernel_rfl) (by kernel_rfl) (fun _ _ _ h => h) (Or.inl ⟨by rfl, ?_⟩) (by assumption) ?_
  rotate_left
  · (intro w hSw; (try dsimp only at hSw); go_simp; try with_reducible rfl)
  try simp only [Act.put, List.setIfInBounds_toArray, List.set_cons_zero, List.set_cons_succ, List.getElem_toArray, List.getElem_cons_succ, List.getElem_cons_zero]
  refine wpAnyH_take (i := 1) (v := ?_) rfl (by kernel_rfl) (by kernel_rfl) (by kernel_rfl) (fun _ _ _ h => h) (Or.inl ⟨by rfl, ?_⟩) (by assumption) ?_
  rotate_left
  · (intro w hSw; (try dsimp only at hSw); go_simp; try with_reducible rfl)
  try simp only [Act.put, List.setIfInBounds_toArray, List.set_cons_zero, List.set_cons_succ, List.getElem_toArray, List.getElem_cons_succ, List.getElem_cons_zero]
  refine wpAnyH_take (i := 2) (v := ?_) rfl (by kernel_rfl) (by kernel_rfl) (by kernel_rfl) (fun _ _ _ h => h) (Or.inl ⟨by rfl, ?_⟩) (by assumption) ?_
  rotate_left
  · (intro w hSw; (try dsimp only at hSw); go_simp; try with_reducible rfl)
  try simp only [Act.put, List.setIfInBounds_toArray, List.set_cons_zero, List.set_cons_succ, List.getElem_toArray, List.getElem_cons_succ, List.getElem_cons_zero]
  refine wpAnyH_ready (rs := [3]) (by kernel_rfl) (by simp) ?_
  refine AllReadyH.cons rfl (fun K hK => ?_) AllReadyH.nil
  try simp only [Act.put, List.setIfInBounds_toArray, List.set_cons_zero, List.set_cons_succ, List.getElem_toArray, List.getElem_cons_succ, List.getElem_cons_zero]
  go_simp
  go_at_call 130
  refine (pair_c mem _ b1 _ _ s1 t1 b2 _ _ s2 t2 _ l0 l1 m1 l2 m2 (h0.ext (Xb.trans (by repeat (first | exact Ext.refl _ | assumption | apply Ext.drewN | apply Ext.drew | apply Ext.alloc)))) (h1.ext (Xb.trans (by repeat (first | exact Ext.refl _ | assumption | apply Ext.drewN | apply Ext.drew | apply Ext.alloc)))) (k1.ext (Xb.trans (by repeat (first | exact Ext.refl _ | assumption | apply Ext.drewN | apply Ext.drew | apply Ext.alloc)))) (h2.ext (Xb.trans (by repeat (first | exact Ext.refl _ | assumption | apply Ext.drewN | apply Ext.drew | apply Ext.alloc)))) (k2.ext (Xb.trans (by repeat (first | exact Ext.refl _ | assumption | apply Ext.drewN | apply Ext.drew | apply Ext.alloc))))).mono ?_
  rintro e w1 ⟨rfl, xw1⟩
  have Yw1 : Ext (((w.alloc (.cells #[.int .i64 b1, u1, v1] 36)).alloc (.cells #[.int .i64 b2, u2, v2] 36))) w1 := Ext.trans (by repeat (first | exact Ext.refl _ | assumption | apply Ext.drewN | apply Ext.drew | apply Ext.alloc)) xw1
  rw [hp'.out]
  refine hK.out _ _ ⟨Yw1.cell c10, Yw1.cell c11, Yw1.cell c12, Yw1.cell c20, Yw1.cell c21, Yw1.cell c22⟩ (fun hHeld => ?_)
  clear hK K
  try simp only [Act.put, List.setIfInBounds_toArray, List.set_cons_zero, List.set_cons_succ, List.getElem_toArray, List.getElem_cons_succ, List.getElem_cons_zero]
  refine wpAnyH_take (i := 4) (v := ?_) rfl (by kernel_rfl) (by kernel_rfl) (by kernel_rfl) (fun _ _ _ h => h) (Or.inl ⟨by rfl, ?_⟩) (by assumption) ?_
  rotate_left
  · (intro w hSw; (try dsimp only at hSw); go_simp; try with_reducible rfl)
  try simp only [Act.put, List.setIfInBounds_toArray, List.set_cons_zero, List.set_cons_succ, List.getElem_toArray, List.getElem_cons_succ, List.getElem_cons_zero]
  refine wpAnyH_take (i := 5) (v := ?_) rfl (by kernel_rfl) (by kernel_rfl) (by kernel_rfl) (fun _ _ _ h => h) (Or.inl ⟨by rfl, ?_⟩) (by assumption) ?_
  rotate_left
  · (intro w hSw; (try dsimp only at hSw); go_simp; try with_reducible rfl)
  try simp only [Act.put, List.setIfInBounds_toArray, List.set_cons_zero, List.set_cons_succ, List.getElem_toArray, List.getElem_cons_succ, List.getElem_cons_zero]
  refine wpAnyH_take (i := 6) (v := ?_) rfl (by kernel_rfl) (by kernel_rfl) (by kernel_rfl) (fun _ _ _ h => h) (Or.inl ⟨by rfl, ?_⟩) (by assumption) ?_
  rotate_left
  · (intro w hSw; (try dsimp only at hSw); go_simp; try with_reducible rfl)
  try simp only [Act.put, List.setIfInBounds_toArray, List.set_cons_zero, List.set_cons_succ, List.getElem_toArray, List.getElem_cons_succ, List.getElem_cons_zero]
  refine wpAnyH_take (i := 8) (v := ?_) rfl (by kernel_rfl) (by kernel_rfl) (by kernel_rfl) (fun _ _ _ h => h) (Or.inl ⟨by rfl, ?_⟩) (by assumption) ?_
  rotate_left
  · (intro w hSw; (try dsimp only at hSw); go_simp; try with_reducible rfl)
  try simp only [Act.put, List.setIfInBounds_toArray, List.set_cons_zero, List.set_cons_succ, List.getElem_toArray, List.getElem_cons_succ, List.getElem_cons_zero]
  refine wpAnyH_ready (rs := [7]) (by kernel_rfl) (by simp) ?_
  refine AllReadyH.cons rfl (fun K hK => ?_) AllReadyH.nil
  try simp only [Act.put, List.setIfInBounds_toArray, List.set_cons_zero, List.set_cons_succ, List.getElem_toArray, List.getElem_cons_succ, List.getElem_cons_zero]
  go_simp
  go_at_call 132
  refine (offsets_c b1 _ _ s1 t1 _ l1 m1 (h1.ext (Xb.trans (Yw1.trans (by repeat (first | exact Ext.refl _ | assumption | apply Ext.drewN | apply Ext.drew | apply Ext.alloc))))) (k1.ext (Xb.trans (Yw1.trans (by repeat (first | exact Ext.refl _ | assumption | apply Ext.drewN | apply Ext.drew | apply Ext.alloc))))) (by have := hg1.out; omega) hin1.out.2.2.2.2 (by have := hin1.out; omega)).mono ?_
  rintro e w2 ⟨r3, rfl, i3, -, xw2⟩
  have Yw2 : Ext (((w.alloc (.cells #[.int .i64 b1, u1, v1] 36)).alloc (.cells #[.int .i64 b2, u2, v2] 36))) w2 := Yw1.trans (Ext.trans (by repeat (first | exact Ext.refl _ | assumption | apply Ext.drewN | apply Ext.drew | apply Ext.alloc)) xw2)
  refine hK.out _ _ ⟨Yw2.cell c10, Yw2.cell c11, Yw2.cell c12, Yw2.cell c20, Yw2.cell c21, Yw2.cell c22⟩ (fun hHeld => ?_)
  clear hK K
  try simp only [Act.put, List.setIfInBounds_toArray, List.set_cons_zero, List.set_cons_succ, List.getElem_toArray, List.getElem_cons_succ, List.getElem_cons_zero]
  refine wpAnyH_ready (rs := [9]) (by kernel_rfl) (by simp) ?_
  refine AllReadyH.cons rfl (fun K hK => ?_) AllReadyH.nil
  try simp only [Act.put, List.setIfInBounds_toArray, List.set_cons_zero, List.set_cons_succ, List.getElem_toArray, List.getElem_cons_succ, List.getElem_cons_zero]
  go_simp
  go_at_call 132
  refine (offsets_c b2 _ _ s2 t2 _ l2 m2 (h2.ext (Xb.trans (Yw2.trans (by repeat (first | exact Ext.refl _ | assumption | apply Ext.drewN | apply Ext.drew | apply Ext.alloc))))) (k2.ext (Xb.trans (Yw2.trans (by repeat (first | exact Ext.refl _ | assumption | apply Ext.drewN | apply Ext.drew | apply Ext.alloc))))) (by have := hg2.out; omega) hin2.out.2.2.2.2 (by have := hin2.out; omega)).mono ?_
  rintro e w3 ⟨r4, rfl, i4, -, xw3⟩
  have Yw3 : Ext (((w.alloc (.cells #[.int .i64 b1, u1, v1] 36)).alloc (.cells #[.int .i64 b2, u2, v2] 36))) w3 := Yw2.trans (Ext.trans (by repeat (first | exact Ext.refl _ | assumption | apply Ext.drewN | apply Ext.drew | apply Ext.alloc)) xw3)
  replace i3 := i3.ext (Ext.trans (by repeat (first | exact Ext.refl _ | assumption | apply Ext.drewN | apply Ext.drew | apply Ext.alloc)) xw3)
  refine hK.out _ _ ⟨Yw3.cell c10, Yw3.cell c11, Yw3.cell c12, Yw3.cell c20, Yw3.cell c21, Yw3.cell c22⟩ (fun hHeld => ?_)
  clear hK K
  try simp only [Act.put, List.setIfInBounds_toArray, List.set_cons_zero, List.set_cons_succ, List.getElem_toArray, List.getElem_cons_succ, List.getElem_cons_zero]
  refine wpAnyH_ready (rs := [10]) (by kernel_rfl) (by simp) ?_
  refine AllReadyH.cons rfl (fun K hK => ?_) AllReadyH.nil
  try simp only [Act.put, List.setIfInBounds_toArray, List.set_cons_zero, List.set_cons_succ, List.getElem_toArray, List.getElem_cons_succ, List.getElem_cons_zero]
  go_simp
  go_at_call 131
  refine (both_c _ _ _ _ _ _ _ (i3.ext (by repeat (first | exact Ext.refl _ | assumption | apply Ext.drewN | apply Ext.drew | apply Ext.alloc))) (i4.ext (by repeat (first | exact Ext.refl _ | assumption | apply Ext.drewN | apply Ext.drew | apply Ext.alloc)))).mono ?_
  rintro e w4 ⟨r5, rfl, i5, -, xw4⟩
  have Yw4 : Ext (((w.alloc (.cells #[.int .i64 b1, u1, v1] 36)).alloc (.cells #[.int .i64 b2, u2, v2] 36))) w4 := Yw3.trans (Ext.trans (by repeat (first | exact Ext.refl _ | assumption | apply Ext.drewN | apply Ext.drew | apply Ext.alloc)) xw4)
  replace i3 := i3.ext (Ext.trans (by repeat (first | exact Ext.refl _ | assumption | apply Ext.drewN | apply Ext.drew | apply Ext.alloc)) xw4)
  replace i4 := i4.ext (Ext.trans (by repeat (first | exact Ext.refl _ | assumption | apply Ext.drewN | apply Ext.drew | apply Ext.alloc)) xw4)
  obtain ⟨p5, q5, rfl⟩ := i5.form; clear i5; rw [hd'.out]
  refine hK.out _ _ ⟨Yw4.cell c10, Yw4.cell c11, Yw4.cell c12, Yw4.cell c20, Yw4.cell c21, Yw4.cell c22⟩ (fun hHeld => ?_)
  clear hK K
  try simp only [Act.put, List.setIfInBounds_toArray, List.set_cons_zero, List.set_cons_succ, List.getElem_toArray, List.getElem_cons_succ, List.getElem_cons_zero]
  refine wpAnyH_take (i := 11) (v := ?_) rfl (by kernel_rfl) (by kernel_rfl) (by kernel_rfl) (fun _ _ _ h => h) (Or.inl ⟨by rfl, ?_⟩) (by assumption) ?_
  rotate_left
  · (intro w hSw; (try dsimp only at hSw); go_simp; try with_reducible rfl)
  try simp only [Act.put, List.setIfInBounds_toArray, List.set_cons_zero, List.set_cons_succ, List.getElem_toArray, List.getElem_cons_succ, List.getElem_cons_zero]
  refine wpAnyH_take (i := 12) (v := ?_) rfl (by kernel_rfl) (by kernel_rfl) (by kernel_rfl) (fun _ _ _ h => h) (Or.inl ⟨by rfl, ?_⟩) (by assumption) ?_
  rotate_left
  · (intro w hSw; (try dsimp only at hSw); go_simp; try with_reducible rfl)
  try simp only [Act.put, List.setIfInBounds_toArray, List.set_cons_zero, List.set_cons_succ, List.getElem_toArray, List.getElem_cons_succ, List.getElem_cons_zero]
  refine wpAnyH_take (i := 13) (v := ?_) rfl (by kernel_rfl) (by kernel_rfl) (by kernel_rfl) (fun _ _ _ h => h) (Or.inl ⟨by rfl, ?_⟩) (by assumption) ?_
  rotate_left
  · (intro w hSw; (try dsimp only at hSw); go_simp; try with_reducible rfl)
  try simp only [Act.put, List.setIfInBounds_toArray, List.set_cons_zero, List.set_cons_succ, List.getElem_toArray, List.getElem_cons_succ, List.getElem_cons_zero]
  refine wpAnyH_take (i := 14) (v := ?_) rfl (by kernel_rfl) (by kernel_rfl) (by kernel_rfl) (fun _ _ _ h => h) (Or.inl ⟨by rfl, ?_⟩) (by assumption) ?_
  rotate_left
  · (intro w hSw; (try dsimp only at hSw); go_simp; try with_reducible rfl)
  try simp only [Act.put, List.setIfInBounds_toArray, List.set_cons_zero, List.set_cons_succ, List.getElem_toArray, List.getElem_cons_succ, List.getElem_cons_zero]
  refine wpAnyH_take (i := 15) (v := ?_) rfl (by kernel_rfl) (by kernel_rfl) (by kernel_rfl) (fun _ _ _ h => h) (Or.inl ⟨by rfl, ?_⟩) (by assumption) ?_
  rotate_left
  · (intro w hSw; (try dsimp only at hSw); go_simp; try with_reducible rfl)
  try simp only [Act.put, List.setIfInBounds_toArray, List.set_cons_zero, List.set_cons_succ, List.getElem_toArray, List.getElem_cons_succ, List.getElem_cons_zero]
  refine wpAnyH_ready (rs := [16]) (by kernel_rfl) (by simp) ?_
  refine AllReadyH.cons rfl (fun K hK => ?_) AllReadyH.nil
  try simp only [Act.put, List.setIfInBounds_toArray, List.set_cons_zero, List.set_cons_succ, List.getElem_toArray, List.getElem_cons_succ, List.getElem_cons_zero]
  go_simp
  go_at_call 132
  refine (offsets_c b1 _ _ s1 t1 _ l1 m1 (h1.ext (Xb.trans (Yw4.trans (by repeat (first | exact Ext.refl _ | assumption | apply Ext.drewN | apply Ext.drew | apply Ext.alloc))))) (k1.ext (Xb.trans (Yw4.trans (by repeat (first | exact Ext.refl _ | assumption | apply Ext.drewN | apply Ext.drew | apply Ext.alloc))))) (by have := hg1.out; omega) hin1.out.2.2.2.2 (by have := hin1.out; omega)).mono ?_
  rintro e w5 ⟨r6, rfl, i6, -, xw5⟩
  have Yw5 : Ext (((w.alloc (.cells #[.int .i64 b1, u1, v1] 36)).alloc (.cells #[.int .i64 b2, u2, v2] 36))) w5 := Yw4.trans (Ext.trans (by repeat (first | exact Ext.refl _ | assumption | apply Ext.drewN | apply Ext.drew | apply Ext.alloc)) xw5)
  replace i3 := i3.ext (Ext.trans (by repeat (first | exact Ext.refl _ | assumption | apply Ext.drewN | apply Ext.drew | apply Ext.alloc)) xw5)
  replace i4 := i4.ext (Ext.trans (by repeat (first | exact Ext.refl _ | assumption | apply Ext.drewN | apply Ext.drew | apply Ext.alloc)) xw5)
  refine hK.out _ _ ⟨Yw5.cell c10, Yw5.cell c11, Yw5.cell c12, Yw5.cell c20, Yw5.cell c21, Yw5.cell c22⟩ (fun hHeld => ?_)
  clear hK K
  try simp only [Act.put, List.setIfInBounds_toArray, List.set_cons_zero, List.set_cons_succ, List.getElem_toArray, List.getElem_cons_succ, List.getElem_cons_zero]
  refine wpAnyH_ready (rs := [17]) (by kernel_rfl) (by simp) ?_
  refine AllReadyH.cons rfl (fun K hK => ?_) AllReadyH.nil
  try simp only [Act.put, List.setIfInBounds_toArray, List.set_cons_zero, List.set_cons_succ, List.getElem_toArray, List.getElem_cons_succ, List.getElem_cons_zero]
  go_simp
  go_at_call 133
  refine (different_c _ _ _ _ (i6.ext (by repeat (first | exact Ext.refl _ | assumption | apply Ext.drewN | apply Ext.drew | apply Ext.alloc)))).mono ?_
  rintro e w6 ⟨rfl, xw6⟩
  have Yw6 : Ext (((w.alloc (.cells #[.int .i64 b1, u1, v1] 36)).alloc (.cells #[.int .i64 b2, u2, v2] 36))) w6 := Yw5.trans (Ext.trans (by repeat (first | exact Ext.refl _ | assumption | apply Ext.drewN | apply Ext.drew | apply Ext.alloc)) xw6)
  replace i3 := i3.ext (Ext.trans (by repeat (first | exact Ext.refl _ | assumption | apply Ext.drewN | apply Ext.drew | apply Ext.alloc)) xw6)
  replace i4 := i4.ext (Ext.trans (by repeat (first | exact Ext.refl _ | assumption | apply Ext.drewN | apply Ext.drew | apply Ext.alloc)) xw6)
  replace i6 := i6.ext (Ext.trans (by repeat (first | exact Ext.refl _ | assumption | apply Ext.drewN | apply Ext.drew | apply Ext.alloc)) xw6)
  rw [e1.out]
  refine hK.out _ _ ⟨Yw6.cell c10, Yw6.cell c11, Yw6.cell c12, Yw6.cell c20, Yw6.cell c21, Yw6.cell c22⟩ (fun hHeld => ?_)
  clear hK K
  try simp only [Act.put, List.setIfInBounds_toArray, List.set_cons_zero, List.set_cons_succ, List.getElem_toArray, List.getElem_cons_succ, List.getElem_cons_zero]
  refine wpAnyH_take (i := 18) (v := ?_) rfl (by kernel_rfl) (by kernel_rfl) (by kernel_rfl) (fun _ _ _ h => h) (Or.inl ⟨by rfl, ?_⟩) (by assumption) ?_
  rotate_left
  · (intro w hSw; (try dsimp only at hSw); go_simp; try with_reducible rfl)
  try simp only [Act.put, List.setIfInBounds_toArray, List.set_cons_zero, List.set_cons_succ, List.getElem_toArray, List.getElem_cons_succ, List.getElem_cons_zero]
  refine wpAnyH_take (i := 19) (v := ?_) rfl (by kernel_rfl) (by kernel_rfl) (by kernel_rfl) (fun _ _ _ h => h) (Or.inl ⟨by rfl, ?_⟩) (by assumption) ?_
  rotate_left
  · (intro w hSw; (try dsimp only at hSw); go_simp; try with_reducible rfl)
  try simp only [Act.put, List.setIfInBounds_toArray, List.set_cons_zero, List.set_cons_succ, List.getElem_toArray, List.getElem_cons_succ, List.getElem_cons_zero]
  refine wpAnyH_take (i := 20) (v := ?_) rfl (by kernel_rfl) (by kernel_rfl) (by kernel_rfl) (fun _ _ _ h => h) (Or.inl ⟨by rfl, ?_⟩) (by assumption) ?_
  rotate_left
  · (intro w hSw; (try dsimp only at hSw); go_simp; try with_reducible rfl)
  try simp only [Act.put, List.setIfInBounds_toArray, List.set_cons_zero, List.set_cons_succ, List.getElem_toArray, List.getElem_cons_succ, List.getElem_cons_zero]
  refine wpAnyH_take (i := 21) (v := ?_) rfl (by kernel_rfl) (by kernel_rfl) (by kernel_rfl) (fun _ _ _ h => h) (Or.inl ⟨by rfl, ?_⟩) (by assumption) ?_
  rotate_left
  · (intro w hSw; (try dsimp only at hSw); go_simp; try with_reducible rfl)
  try simp only [Act.put, List.setIfInBounds_toArray, List.set_cons_zero, List.set_cons_succ, List.getElem_toArray, List.getElem_cons_succ, List.getElem_cons_zero]
  refine wpAnyH_ready (rs := [22]) (by kernel_rfl) (by simp) ?_
  refine AllReadyH.cons rfl (fun K hK => ?_) AllReadyH.nil
  try simp only [Act.put, List.setIfInBounds_toArray, List.set_cons_zero, List.set_cons_succ, List.getElem_toArray, List.getElem_cons_succ, List.getElem_cons_zero]
  go_simp
  go_at_call 132
  refine (offsets_c b2 _ _ s2 t2 _ l2 m2 (h2.ext (Xb.trans (Yw6.trans (by repeat (first | exact Ext.refl _ | assumption | apply Ext.drewN | apply Ext.drew | apply Ext.alloc))))) (k2.ext (Xb.trans (Yw6.trans (by repeat (first | exact Ext.refl _ | assumption | apply Ext.drewN | apply Ext.drew | apply Ext.alloc))))) (by have := hg2.out; omega) hin2.out.2.2.2.2 (by have := hin2.out; omega)).mono ?_
  rintro e w7 ⟨r7, rfl, i7, -, xw7⟩
  have Yw7 : Ext (((w.alloc (.cells #[.int .i64 b1, u1, v1] 36)).alloc (.cells #[.int .i64 b2, u2, v2] 36))) w7 := Yw6.trans (Ext.trans (by repeat (first | exact Ext.refl _ | assumption | apply Ext.drewN | apply Ext.drew | apply Ext.alloc)) xw7)
  replace i3 := i3.ext (Ext.trans (by repeat (first | exact Ext.refl _ | assumption | apply Ext.drewN | apply Ext.drew | apply Ext.alloc)) xw7)
  replace i4 := i4.ext (Ext.trans (by repeat (first | exact Ext.refl _ | assumption | apply Ext.drewN | apply Ext.drew | apply Ext.alloc)) xw7)
  replace i6 := i6.ext (Ext.trans (by repeat (first | exact Ext.refl _ | assumption | apply Ext.drewN | apply Ext.drew | apply Ext.alloc)) xw7)
  refine hK.out _ _ ⟨Yw7.cell c10, Yw7.cell c11, Yw7.cell c12, Yw7.cell c20, Yw7.cell c21, Yw7.cell c22⟩ (fun hHeld => ?_)
  clear hK K
  try simp only [Act.put, List.setIfInBounds_toArray, List.set_cons_zero, List.set_cons_succ, List.getElem_toArray, List.getElem_cons_succ, List.getElem_cons_zero]
  refine wpAnyH_ready (rs := [23]) (by kernel_rfl) (by simp) ?_
  refine AllReadyH.cons rfl (fun K hK => ?_) AllReadyH.nil
  try simp only [Act.put, List.setIfInBounds_toArray, List.set_cons_zero, List.set_cons_succ, List.getElem_toArray, List.getElem_cons_succ, List.getElem_cons_zero]
  go_simp
  go_at_call 133
  refine (different_c _ _ _ _ (i7.ext (by repeat (first | exact Ext.refl _ | assumption | apply Ext.drewN | apply Ext.drew | apply Ext.alloc)))).mono ?_
  rintro e w8 ⟨rfl, xw8⟩
  have Yw8 : Ext (((w.alloc (.cells #[.int .i64 b1, u1, v1] 36)).alloc (.cells #[.int .i64 b2, u2, v2] 36))) w8 := Yw7.trans (Ext.trans (by repeat (first | exact Ext.refl _ | assumption | apply Ext.drewN | apply Ext.drew | apply Ext.alloc)) xw8)
  replace i3 := i3.ext (Ext.trans (by repeat (first | exact Ext.refl _ | assumption | apply Ext.drewN | apply Ext.drew | apply Ext.alloc)) xw8)
  replace i4 := i4.ext (Ext.trans (by repeat (first | exact Ext.refl _ | assumption | apply Ext.drewN | apply Ext.drew | apply Ext.alloc)) xw8)
  replace i6 := i6.ext (Ext.trans (by repeat (first | exact Ext.refl _ | assumption | apply Ext.drewN | apply Ext.drew | apply Ext.alloc)) xw8)
  replace i7 := i7.ext (Ext.trans (by repeat (first | exact Ext.refl _ | assumption | apply Ext.drewN | apply Ext.drew | apply Ext.alloc)) xw8)
  rw [e2.out]
  refine hK.out _ _ ⟨Yw8.cell c10, Yw8.cell c11, Yw8.cell c12, Yw8.cell c20, Yw8.cell c21, Yw8.cell c22⟩ (fun hHeld => ?_)
  clear hK K
  try simp only [Act.put, List.setIfInBounds_toArray, List.set_cons_zero, List.set_cons_succ, List.getElem_toArray, List.getElem_cons_succ, List.getElem_cons_zero]
  refine wpAnyH_take (i := 24) (v := ?_) rfl (by kernel_rfl) (by kernel_rfl) (by kernel_rfl) (fun _ _ _ h => h) (Or.inl ⟨by rfl, ?_⟩) (by assumption) ?_
  rotate_left
  · (intro w hSw; (try dsimp only at hSw); go_simp; try with_reducible rfl)
  try simp only [Act.put, List.setIfInBounds_toArray, List.set_cons_zero, List.set_cons_succ, List.getElem_toArray, List.getElem_cons_succ, List.getElem_cons_zero]
  refine wpAnyH_take (i := 25) (v := ?_) rfl (by kernel_rfl) (by kernel_rfl) (by kernel_rfl) (fun _ _ _ h => h) (Or.inl ⟨by rfl, ?_⟩) (by assumption) ?_
  rotate_left
  · (intro w hSw; (try dsimp only at hSw); go_simp; try with_reducible rfl)
  try simp only [Act.put, List.setIfInBounds_toArray, List.set_cons_zero, List.set_cons_succ, List.getElem_toArray, List.getElem_cons_succ, List.getElem_cons_zero]
  refine wpAnyH_done (by kernel_rfl) ?_ _
  clear hHeld
  go_wp2_with fail
  go_ret2
  rw [hr.out, hr2.out]
  exact PIntsB.no ((Xb.trans Yw8).trans (by repeat (first | exact Ext.refl _ | assumption | apply Ext.drewN | apply Ext.drew | apply Ext.alloc)))

set_option maxHeartbeats 6400000 in
theorem specSwapViews_4 (mem : List Int) (a0 : Value) (b1 : Int) (u1 v1 : Value) (s1 t1 : List Int) (b2 : Int) (u2 v2 : Value) (s2 t2 : List Int) (w : World) (l0 l1 m1 l2 m2 : Nat) (h0 : Ints w l0 a0 mem) (h1 : Ints w l1 u1 s1) (k1 : Ints w m1 v1 t1) (h2 : Ints w l2 u2 s2) (k2 : Ints w m2 v2 t2) (hp : pairB mem b1 s1 t1 b2 s2 t2 = true) (hd : (bothL (offsL b1 s1 t1) (offsL b2 s2 t2)).length = 0) (hn : (offsL b1 s1 t1).Nodup) (hn2 : (offsL b2 s2 t2).Nodup) :
    Calls Try.prog 45 #[a0, .agg #[.int .i64 b1, u1, v1], .agg #[.int .i64 b2, u2, v2]] w (PIntsB w (swapA mem b1 s1 t1 b2 s2 t2) (swapB mem b1 s1 t1 b2 s2 t2)) := by
  have hp' := Lib.hid hp
  have hr := Lib.hid (show swapB mem b1 s1 t1 b2 s2 t2 = true by unfold swapB; rw [hp, decide_eq_true hd, decide_eq_true hn, decide_eq_true hn2]; rfl)
  have hr2 := Lib.hid (show swapA mem b1 s1 t1 b2 s2 t2 = putL (putL mem (offsL b1 s1 t1) (loadL mem b2 s2 t2)) (offsL b2 s2 t2) (loadL mem b1 s1 t1) by unfold swapA; rw [if_pos hr.out])
  unfold pairB at hp
  simp only [Bool.and_eq_true] at hp
  obtain ⟨hh1, hh2, hsame⟩ := hp
  obtain ⟨hm, ha, hix1⟩ := hold_in hh1
  obtain ⟨-, hb, hix2⟩ := hold_in hh2
  have hml := mem_len hm
  have hsl : (offsL b2 s2 t2).length = (offsL b1 s1 t1).length := by rw [sameB_eq hsame]; exact offs_same
  have e1 := Lib.hid (show (decide (offsL b1 s1 t1).Nodup) = true from decide_eq_true hn)
  have e2 := Lib.hid (show (decide (offsL b2 s2 t2).Nodup) = true from decide_eq_true hn2)
  have ha' := Lib.hid ha
  have hb' := Lib.hid hb
  replace hix1 := Lib.hid hix1
  replace hix2 := Lib.hid hix2
  replace hsl := Lib.hid hsl
  replace hh1 := Lib.hid hh1
  replace hh2 := Lib.hid hh2
  have hd' := Lib.hid hd
  obtain ⟨j1, j2, -⟩ := viewB_in ha
  have hin1 := Lib.hid (shapeB_in j1)
  have hg1 := Lib.hid j2
  clear j1 j2
  obtain ⟨j1, j2, -⟩ := viewB_in hb
  have hin2 := Lib.hid (shapeB_in j1)
  have hg2 := Lib.hid j2
  clear j1 j2
  clear ha hb hsame hm hd hn hn2
  obtain ⟨a0, c0, rfl⟩ := h0.form
  go_enter Try.func45, Try.ntmps45
  go_wp2_with fail
  have Xb : Ext w ((w.alloc (.cells #[.int .i64 b1, u1, v1] 36)).alloc (.cells #[.int .i64 b2, u2, v2] 36)) := (by repeat (first | exact Ext.refl _ | assumption | apply Ext.drewN | apply Ext.drew | apply Ext.alloc))
  have c10 : (((w.alloc (.cells #[.int .i64 b1, u1, v1] 36)).alloc (.cells #[.int .i64 b2, u2, v2] 36))).cell? ⟨w.heap.size, 0, none⟩ = some (.int .i64 b1) := (by first | (simp; done) | ((repeat rw [World.cell?_alloc_lt _ _ _ (by simp <;> omega)]); simp; done) | (go_simp; done))
  have c11 : (((w.alloc (.cells #[.int .i64 b1, u1, v1] 36)).alloc (.cells #[.int .i64 b2, u2, v2] 36))).cell? ⟨w.heap.size, 1, none⟩ = some (u1) := (by first | (simp; done) | ((repeat rw [World.cell?_alloc_lt _ _ _ (by simp <;> omega)]); simp; done) | (go_simp; done))
  have c12 : (((w.alloc (.cells #[.int .i64 b1, u1, v1] 36)).alloc (.cells #[.int .i64 b2, u2, v2] 36))).cell? ⟨w.heap.size, 2, none⟩ = some (v1) := (by first | (simp; done) | ((repeat rw [World.cell?_alloc_lt _ _ _ (by simp <;> omega)]); simp; done) | (go_simp; done))
  have c20 : (((w.alloc (.cells #[.int .i64 b1, u1, v1] 36)).alloc (.cells #[.int .i64 b2, u2, v2] 36))).cell? ⟨w.heap.size + 1, 0, none⟩ = some (.int .i64 b2) := (by first | (simp; done) | ((repeat rw [World.cell?_alloc_lt _ _ _ (by simp <;> omega)]); simp; done) | (go_simp; done))
  have c21 : (((w.alloc (.cells #[.int .i64 b1, u1, v1] 36)).alloc (.cells #[.int .i64 b2, u2, v2] 36))).cell? ⟨w.heap.size + 1, 1, none⟩ = some (u2) := (by first | (simp; done) | ((repeat rw [World.cell?_alloc_lt _ _ _ (by simp <;> omega)]); simp; done) | (go_simp; done))
  have c22 : (((w.alloc (.cells #[.int .i64 b1, u1, v1] 36)).alloc (.cells #[.int .i64 b2, u2, v2] 36))).cell? ⟨w.heap.size + 1, 2, none⟩ = some (v2) := (by first | (simp; done) | ((repeat rw [World.cell?_alloc_lt _ _ _ (by simp <;> omega)]); simp; done) | (go_simp; done))
  refine wp_region_held_drew (S := fun w' => w'.cell? ⟨w.heap.size, 0, none⟩ = some (.int .i64 b1) ∧ w'.cell? ⟨w.heap.size, 1, none⟩ = some (u1) ∧ w'.cell? ⟨w.heap.size, 2, none⟩ = some (v1) ∧ w'.cell? ⟨w.heap.size + 1, 0, none⟩ = some (.int .i64 b2) ∧ w'.cell? ⟨w.heap.size + 1, 1, none⟩ = some (u2) ∧ w'.cell? ⟨w.heap.size + 1, 2, none⟩ = some (v2)) (by kernel_rfl) ⟨c10, c11, c12, c20, c21, c22⟩ (fun hHeld => ?_)
  refine wpAnyH_take (i := 0) (v := ?_) rfl (by kernel_rfl) (by kernel_rfl) (by kernel_rfl) (fun _ _ _ h => h) (Or.inl ⟨by rfl, ?_⟩) (by assumption) ?_
  rotate_left
  · (intro w hSw; (try dsimp only at hSw); go_simp; try with_reducible rfl)
  try simp only [Act.put, List.setIfInBounds_toArray, List.set_cons_zero, List.set_cons_succ, List.getElem_toArray, List.getElem_cons_succ, List.getElem_cons_zero]
  refine wpAnyH_take (i := 1) (v := ?_) rfl (by kernel_rfl) (by kernel_rfl) (by kernel_rfl) (fun _ _ _ h => h) (Or.inl ⟨by rfl, ?_⟩) (by assumption) ?_
  rotate_left
  · (intro w hSw; (try dsimp only at hSw); go_simp; try with_reducible rfl)
  try simp only [Act.put, List.setIfInBounds_toArray, List.set_cons_zero, List.set_cons_succ, List.getElem_toArray, List.getElem_cons_succ, List.getElem_cons_zero]
  refine wpAnyH_take (i := 2) (v := ?_) rfl (by kernel_rfl) (by kernel_rfl) (by kernel_rfl) (fun _ _ _ h => h) (Or.inl ⟨by rfl, ?_⟩) (by assumption) ?_
  rotate_left
  · (intro w hSw; (try dsimp only at hSw); go_simp; try with_reducible rfl)
  try simp only [Act.put, List.setIfInBounds_toArray, List.set_cons_zero, List.set_cons_succ, List.getElem_toArray, List.getElem_cons_succ, List.getElem_cons_zero]
  refine wpAnyH_ready (rs := [3]) (by kernel_rfl) (by simp) ?_
  refine AllReadyH.cons rfl (fun K hK => ?_) AllReadyH.nil
  try simp only [Act.put, List.setIfInBounds_toArray, List.set_cons_zero, List.set_cons_succ, List.getElem_toArray, List.getElem_cons_succ, List.getElem_cons_zero]
  go_simp
  go_at_call 130
  refine (pair_c mem _ b1 _ _ s1 t1 b2 _ _ s2 t2 _ l0 l1 m1 l2 m2 (h0.ext (Xb.trans (by repeat (first | exact Ext.refl _ | assumption | apply Ext.drewN | apply Ext.drew | apply Ext.alloc)))) (h1.ext (Xb.trans (by repeat (first | exact Ext.refl _ | assumption | apply Ext.drewN | apply Ext.drew | apply Ext.alloc)))) (k1.ext (Xb.trans (by repeat (first | exact Ext.refl _ | assumption | apply Ext.drewN | apply Ext.drew | apply Ext.alloc)))) (h2.ext (Xb.trans (by repeat (first | exact Ext.refl _ | assumption | apply Ext.drewN | apply Ext.drew | apply Ext.alloc)))) (k2.ext (Xb.trans (by repeat (first | exact Ext.refl _ | assumption | apply Ext.drewN | apply Ext.drew | apply Ext.alloc))))).mono ?_
  rintro e w1 ⟨rfl, xw1⟩
  have Yw1 : Ext (((w.alloc (.cells #[.int .i64 b1, u1, v1] 36)).alloc (.cells #[.int .i64 b2, u2, v2] 36))) w1 := Ext.trans (by repeat (first | exact Ext.refl _ | assumption | apply Ext.drewN | apply Ext.drew | apply Ext.alloc)) xw1
  rw [hp'.out]
  refine hK.out _ _ ⟨Yw1.cell c10, Yw1.cell c11, Yw1.cell c12, Yw1.cell c20, Yw1.cell c21, Yw1.cell c22⟩ (fun hHeld => ?_)
  clear hK K
  try simp only [Act.put, List.setIfInBounds_toArray, List.set_cons_zero, List.set_cons_succ, List.getElem_toArray, List.getElem_cons_succ, List.getElem_cons_zero]
  refine wpAnyH_take (i := 4) (v := ?_) rfl (by kernel_rfl) (by kernel_rfl) (by kernel_rfl) (fun _ _ _ h => h) (Or.inl ⟨by rfl, ?_⟩) (by assumption) ?_
  rotate_left
  · (intro w hSw; (try dsimp only at hSw); go_simp; try with_reducible rfl)
  try simp only [Act.put, List.setIfInBounds_toArray, List.set_cons_zero, List.set_cons_succ, List.getElem_toArray, List.getElem_cons_succ, List.getElem_cons_zero]
  refine wpAnyH_take (i := 5) (v := ?_) rfl (by kernel_rfl) (by kernel_rfl) (by kernel_rfl) (fun _ _ _ h => h) (Or.inl ⟨by rfl, ?_⟩) (by assumption) ?_
  rotate_left
  · (intro w hSw; (try dsimp only at hSw); go_simp; try with_reducible rfl)
  try simp only [Act.put, List.setIfInBounds_toArray, List.set_cons_zero, List.set_cons_succ, List.getElem_toArray, List.getElem_cons_succ, List.getElem_cons_zero]
  refine wpAnyH_take (i := 6) (v := ?_) rfl (by kernel_rfl) (by kernel_rfl) (by kernel_rfl) (fun _ _ _ h => h) (Or.inl ⟨by rfl, ?_⟩) (by assumption) ?_
  rotate_left
  · (intro w hSw; (try dsimp only at hSw); go_simp; try with_reducible rfl)
  try simp only [Act.put, List.setIfInBounds_toArray, List.set_cons_zero, List.set_cons_succ, List.getElem_toArray, List.getElem_cons_succ, List.getElem_cons_zero]
  refine wpAnyH_take (i := 8) (v := ?_) rfl (by kernel_rfl) (by kernel_rfl) (by kernel_rfl) (fun _ _ _ h => h) (Or.inl ⟨by rfl, ?_⟩) (by assumption) ?_
  rotate_left
  · (intro w hSw; (try dsimp only at hSw); go_simp; try with_reducible rfl)
  try simp only [Act.put, List.setIfInBounds_toArray, List.set_cons_zero, List.set_cons_succ, List.getElem_toArray, List.getElem_cons_succ, List.getElem_cons_zero]
  refine wpAnyH_ready (rs := [7]) (by kernel_rfl) (by simp) ?_
  refine AllReadyH.cons rfl (fun K hK => ?_) AllReadyH.nil
  try simp only [Act.put, List.setIfInBounds_toArray, List.set_cons_zero, List.set_cons_succ, List.getElem_toArray, List.getElem_cons_succ, List.getElem_cons_zero]
  go_simp
  go_at_call 132
  refine (offsets_c b1 _ _ s1 t1 _ l1 m1 (h1.ext (Xb.trans (Yw1.trans (by repeat (first | exact Ext.refl _ | assumption | apply Ext.drewN | apply Ext.drew | apply Ext.alloc))))) (k1.ext (Xb.trans (Yw1.trans (by repeat (first | exact Ext.refl _ | assumption | apply Ext.drewN | apply Ext.drew | apply Ext.alloc))))) (by have := hg1.out; omega) hin1.out.2.2.2.2 (by have := hin1.out; omega)).mono ?_
  rintro e w2 ⟨r3, rfl, i3, -, xw2⟩
  have Yw2 : Ext (((w.alloc (.cells #[.int .i64 b1, u1, v1] 36)).alloc (.cells #[.int .i64 b2, u2, v2] 36))) w2 := Yw1.trans (Ext.trans (by repeat (first | exact Ext.refl _ | assumption | apply Ext.drewN | apply Ext.drew | apply Ext.alloc)) xw2)
  refine hK.out _ _ ⟨Yw2.cell c10, Yw2.cell c11, Yw2.cell c12, Yw2.cell c20, Yw2.cell c21, Yw2.cell c22⟩ (fun hHeld => ?_)
  clear hK K
  try simp only [Act.put, List.setIfInBounds_toArray, List.set_cons_zero, List.set_cons_succ, List.getElem_toArray, List.getElem_cons_succ, List.getElem_cons_zero]
  refine wpAnyH_ready (rs := [9]) (by kernel_rfl) (by simp) ?_
  refine AllReadyH.cons rfl (fun K hK => ?_) AllReadyH.nil
  try simp only [Act.put, List.setIfInBounds_toArray, List.set_cons_zero, List.set_cons_succ, List.getElem_toArray, List.getElem_cons_succ, List.getElem_cons_zero]
  go_simp
  go_at_call 132
  refine (offsets_c b2 _ _ s2 t2 _ l2 m2 (h2.ext (Xb.trans (Yw2.trans (by repeat (first | exact Ext.refl _ | assumption | apply Ext.drewN | apply Ext.drew | apply Ext.alloc))))) (k2.ext (Xb.trans (Yw2.trans (by repeat (first | exact Ext.refl _ | assumption | apply Ext.drewN | apply Ext.drew | apply Ext.alloc))))) (by have := hg2.out; omega) hin2.out.2.2.2.2 (by have := hin2.out; omega)).mono ?_
  rintro e w3 ⟨r4, rfl, i4, -, xw3⟩
  have Yw3 : Ext (((w.alloc (.cells #[.int .i64 b1, u1, v1] 36)).alloc (.cells #[.int .i64 b2, u2, v2] 36))) w3 := Yw2.trans (Ext.trans (by repeat (first | exact Ext.refl _ | assumption | apply Ext.drewN | apply Ext.drew | apply Ext.alloc)) xw3)
  replace i3 := i3.ext (Ext.trans (by repeat (first | exact Ext.refl _ | assumption | apply Ext.drewN | apply Ext.drew | apply Ext.alloc)) xw3)
  refine hK.out _ _ ⟨Yw3.cell c10, Yw3.cell c11, Yw3.cell c12, Yw3.cell c20, Yw3.cell c21, Yw3.cell c22⟩ (fun hHeld => ?_)
  clear hK K
  try simp only [Act.put, List.setIfInBounds_toArray, List.set_cons_zero, List.set_cons_succ, List.getElem_toArray, List.getElem_cons_succ, List.getElem_cons_zero]
  refine wpAnyH_ready (rs := [10]) (by kernel_rfl) (by simp) ?_
  refine AllReadyH.cons rfl (fun K hK => ?_) AllReadyH.nil
  try simp only [Act.put, List.setIfInBounds_toArray, List.set_cons_zero, List.set_cons_succ, List.getElem_toArray, List.getElem_cons_succ, List.getElem_cons_zero]
  go_simp
  go_at_call 131
  refine (both_c _ _ _ _ _ _ _ (i3.ext (by repeat (first | exact Ext.refl _ | assumption | apply Ext.drewN | apply Ext.drew | apply Ext.alloc))) (i4.ext (by repeat (first | exact Ext.refl _ | assumption | apply Ext.drewN | apply Ext.drew | apply Ext.alloc)))).mono ?_
  rintro e w4 ⟨r5, rfl, i5, -, xw4⟩
  have Yw4 : Ext (((w.alloc (.cells #[.int .i64 b1, u1, v1] 36)).alloc (.cells #[.int .i64 b2, u2, v2] 36))) w4 := Yw3.trans (Ext.trans (by repeat (first | exact Ext.refl _ | assumption | apply Ext.drewN | apply Ext.drew | apply Ext.alloc)) xw4)
  replace i3 := i3.ext (Ext.trans (by repeat (first | exact Ext.refl _ | assumption | apply Ext.drewN | apply Ext.drew | apply Ext.alloc)) xw4)
  replace i4 := i4.ext (Ext.trans (by repeat (first | exact Ext.refl _ | assumption | apply Ext.drewN | apply Ext.drew | apply Ext.alloc)) xw4)
  obtain ⟨p5, q5, rfl⟩ := i5.form; clear i5; rw [hd'.out]
  refine hK.out _ _ ⟨Yw4.cell c10, Yw4.cell c11, Yw4.cell c12, Yw4.cell c20, Yw4.cell c21, Yw4.cell c22⟩ (fun hHeld => ?_)
  clear hK K
  try simp only [Act.put, List.setIfInBounds_toArray, List.set_cons_zero, List.set_cons_succ, List.getElem_toArray, List.getElem_cons_succ, List.getElem_cons_zero]
  refine wpAnyH_take (i := 11) (v := ?_) rfl (by kernel_rfl) (by kernel_rfl) (by kernel_rfl) (fun _ _ _ h => h) (Or.inl ⟨by rfl, ?_⟩) (by assumption) ?_
  rotate_left
  · (intro w hSw; (try dsimp only at hSw); go_simp; try with_reducible rfl)
  try simp only [Act.put, List.setIfInBounds_toArray, List.set_cons_zero, List.set_cons_succ, List.getElem_toArray, List.getElem_cons_succ, List.getElem_cons_zero]
  refine wpAnyH_take (i := 12) (v := ?_) rfl (by kernel_rfl) (by kernel_rfl) (by kernel_rfl) (fun _ _ _ h => h) (Or.inl ⟨by rfl, ?_⟩) (by assumption) ?_
  rotate_left
  · (intro w hSw; (try dsimp only at hSw); go_simp; try with_reducible rfl)
  try simp only [Act.put, List.setIfInBounds_toArray, List.set_cons_zero, List.set_cons_succ, List.getElem_toArray, List.getElem_cons_succ, List.getElem_cons_zero]
  refine wpAnyH_take (i := 13) (v := ?_) rfl (by kernel_rfl) (by kernel_rfl) (by kernel_rfl) (fun _ _ _ h => h) (Or.inl ⟨by rfl, ?_⟩) (by assumption) ?_
  rotate_left
  · (intro w hSw; (try dsimp only at hSw); go_simp; try with_reducible rfl)
  try simp only [Act.put, List.setIfInBounds_toArray, List.set_cons_zero, List.set_cons_succ, List.getElem_toArray, List.getElem_cons_succ, List.getElem_cons_zero]
  refine wpAnyH_take (i := 14) (v := ?_) rfl (by kernel_rfl) (by kernel_rfl) (by kernel_rfl) (fun _ _ _ h => h) (Or.inl ⟨by rfl, ?_⟩) (by assumption) ?_
  rotate_left
  · (intro w hSw; (try dsimp only at hSw); go_simp; try with_reducible rfl)
  try simp only [Act.put, List.setIfInBounds_toArray, List.set_cons_zero, List.set_cons_succ, List.getElem_toArray, List.getElem_cons_succ, List.getElem_cons_zero]
  refine wpAnyH_take (i := 15) (v := ?_) rfl (by kernel_rfl) (by kernel_rfl) (by kernel_rfl) (fun _ _ _ h => h) (Or.inl ⟨by rfl, ?_⟩) (by assumption) ?_
  rotate_left
  · (intro w hSw; (try dsimp only at hSw); go_simp; try with_reducible rfl)
  try simp only [Act.put, List.setIfInBounds_toArray, List.set_cons_zero, List.set_cons_succ, List.getElem_toArray, List.getElem_cons_succ, List.getElem_cons_zero]
  refine wpAnyH_ready (rs := [16]) (by kernel_rfl) (by simp) ?_
  refine AllReadyH.cons rfl (fun K hK => ?_) AllReadyH.nil
  try simp only [Act.put, List.setIfInBounds_toArray, List.set_cons_zero, List.set_cons_succ, List.getElem_toArray, List.getElem_cons_succ, List.getElem_cons_zero]
  go_simp
  go_at_call 132
  refine (offsets_c b1 _ _ s1 t1 _ l1 m1 (h1.ext (Xb.trans (Yw4.trans (by repeat (first | exact Ext.refl _ | assumption | apply Ext.drewN | apply Ext.drew | apply Ext.alloc))))) (k1.ext (Xb.trans (Yw4.trans (by repeat (first | exact Ext.refl _ | assumption | apply Ext.drewN | apply Ext.drew | apply Ext.alloc))))) (by have := hg1.out; omega) hin1.out.2.2.2.2 (by have := hin1.out; omega)).mono ?_
  rintro e w5 ⟨r6, rfl, i6, -, xw5⟩
  have Yw5 : Ext (((w.alloc (.cells #[.int .i64 b1, u1, v1] 36)).alloc (.cells #[.int .i64 b2, u2, v2] 36))) w5 := Yw4.trans (Ext.trans (by repeat (first | exact Ext.refl _ | assumption | apply Ext.drewN | apply Ext.drew | apply Ext.alloc)) xw5)
  replace i3 := i3.ext (Ext.trans (by repeat (first | exact Ext.refl _ | assumption | apply Ext.drewN | apply Ext.drew | apply Ext.alloc)) xw5)
  replace i4 := i4.ext (Ext.trans (by repeat (first | exact Ext.refl _ | assumption | apply Ext.drewN | apply Ext.drew | apply Ext.alloc)) xw5)
  refine hK.out _ _ ⟨Yw5.cell c10, Yw5.cell c11, Yw5.cell c12, Yw5.cell c20, Yw5.cell c21, Yw5.cell c22⟩ (fun hHeld => ?_)
  clear hK K
  try simp only [Act.put, List.setIfInBounds_toArray, List.set_cons_zero, List.set_cons_succ, List.getElem_toArray, List.getElem_cons_succ, List.getElem_cons_zero]
  refine wpAnyH_ready (rs := [17]) (by kernel_rfl) (by simp) ?_
  refine AllReadyH.cons rfl (fun K hK => ?_) AllReadyH.nil
  try simp only [Act.put, List.setIfInBounds_toArray, List.set_cons_zero, List.set_cons_succ, List.getElem_toArray, List.getElem_cons_succ, List.getElem_cons_zero]
  go_simp
  go_at_call 133
  refine (different_c _ _ _ _ (i6.ext (by repeat (first | exact Ext.refl _ | assumption | apply Ext.drewN | apply Ext.drew | apply Ext.alloc)))).mono ?_
  rintro e w6 ⟨rfl, xw6⟩
  have Yw6 : Ext (((w.alloc (.cells #[.int .i64 b1, u1, v1] 36)).alloc (.cells #[.int .i64 b2, u2, v2] 36))) w6 := Yw5.trans (Ext.trans (by repeat (first | exact Ext.refl _ | assumption | apply Ext.drewN | apply Ext.drew | apply Ext.alloc)) xw6)
  replace i3 := i3.ext (Ext.trans (by repeat (first | exact Ext.refl _ | assumption | apply Ext.drewN | apply Ext.drew | apply Ext.alloc)) xw6)
  replace i4 := i4.ext (Ext.trans (by repeat (first | exact Ext.refl _ | assumption | apply Ext.drewN | apply Ext.drew | apply Ext.alloc)) xw6)
  replace i6 := i6.ext (Ext.trans (by repeat (first | exact Ext.refl _ | assumption | apply Ext.drewN | apply Ext.drew | apply Ext.alloc)) xw6)
  rw [e1.out]
  refine hK.out _ _ ⟨Yw6.cell c10, Yw6.cell c11, Yw6.cell c12, Yw6.cell c20, Yw6.cell c21, Yw6.cell c22⟩ (fun hHeld => ?_)
  clear hK K
  try simp only [Act.put, List.setIfInBounds_toArray, List.set_cons_zero, List.set_cons_succ, List.getElem_toArray, List.getElem_cons_succ, List.getElem_cons_zero]
  refine wpAnyH_take (i := 18) (v := ?_) rfl (by kernel_rfl) (by kernel_rfl) (by kernel_rfl) (fun _ _ _ h => h) (Or.inl ⟨by rfl, ?_⟩) (by assumption) ?_
  rotate_left
  · (intro w hSw; (try dsimp only at hSw); go_simp; try with_reducible rfl)
  try simp only [Act.put, List.setIfInBounds_toArray, List.set_cons_zero, List.set_cons_succ, List.getElem_toArray, List.getElem_cons_succ, List.getElem_cons_zero]
  refine wpAnyH_take (i := 19) (v := ?_) rfl (by kernel_rfl) (by kernel_rfl) (by kernel_rfl) (fun _ _ _ h => h) (Or.inl ⟨by rfl, ?_⟩) (by assumption) ?_
  rotate_left
  · (intro w hSw; (try dsimp only at hSw); go_simp; try with_reducible rfl)
  try simp only [Act.put, List.setIfInBounds_toArray, List.set_cons_zero, List.set_cons_succ, List.getElem_toArray, List.getElem_cons_succ, List.getElem_cons_zero]
  refine wpAnyH_take (i := 20) (v := ?_) rfl (by kernel_rfl) (by kernel_rfl) (by kernel_rfl) (fun _ _ _ h => h) (Or.inl ⟨by rfl, ?_⟩) (by assumption) ?_
  rotate_left
  · (intro w hSw; (try dsimp only at hSw); go_simp; try with_reducible rfl)
  try simp only [Act.put, List.setIfInBounds_toArray, List.set_cons_zero, List.set_cons_succ, List.getElem_toArray, List.getElem_cons_succ, List.getElem_cons_zero]
  refine wpAnyH_take (i := 21) (v := ?_) rfl (by kernel_rfl) (by kernel_rfl) (by kernel_rfl) (fun _ _ _ h => h) (Or.inl ⟨by rfl, ?_⟩) (by assumption) ?_
  rotate_left
  · (intro w hSw; (try dsimp only at hSw); go_simp; try with_reducible rfl)
  try simp only [Act.put, List.setIfInBounds_toArray, List.set_cons_zero, List.set_cons_succ, List.getElem_toArray, List.getElem_cons_succ, List.getElem_cons_zero]
  refine wpAnyH_ready (rs := [22]) (by kernel_rfl) (by simp) ?_
  refine AllReadyH.cons rfl (fun K hK => ?_) AllReadyH.nil
  try simp only [Act.put, List.setIfInBounds_toArray, List.set_cons_zero, List.set_cons_succ, List.getElem_toArray, List.getElem_cons_succ, List.getElem_cons_zero]
  go_simp
  go_at_call 132
  refine (offsets_c b2 _ _ s2 t2 _ l2 m2 (h2.ext (Xb.trans (Yw6.trans (by repeat (first | exact Ext.refl _ | assumption | apply Ext.drewN | apply Ext.drew | apply Ext.alloc))))) (k2.ext (Xb.trans (Yw6.trans (by repeat (first | exact Ext.refl _ | assumption | apply Ext.drewN | apply Ext.drew | apply Ext.alloc))))) (by have := hg2.out; omega) hin2.out.2.2.2.2 (by have := hin2.out; omega)).mono ?_
  rintro e w7 ⟨r7, rfl, i7, -, xw7⟩
  have Yw7 : Ext (((w.alloc (.cells #[.int .i64 b1, u1, v1] 36)).alloc (.cells #[.int .i64 b2, u2, v2] 36))) w7 := Yw6.trans (Ext.trans (by repeat (first | exact Ext.refl _ | assumption | apply Ext.drewN | apply Ext.drew | apply Ext.alloc)) xw7)
  replace i3 := i3.ext (Ext.trans (by repeat (first | exact Ext.refl _ | assumption | apply Ext.drewN | apply Ext.drew | apply Ext.alloc)) xw7)
  replace i4 := i4.ext (Ext.trans (by repeat (first | exact Ext.refl _ | assumption | apply Ext.drewN | apply Ext.drew | apply Ext.alloc)) xw7)
  replace i6 := i6.ext (Ext.trans (by repeat (first | exact Ext.refl _ | assumption | apply Ext.drewN | apply Ext.drew | apply Ext.alloc)) xw7)
  refine hK.out _ _ ⟨Yw7.cell c10, Yw7.cell c11, Yw7.cell c12, Yw7.cell c20, Yw7.cell c21, Yw7.cell c22⟩ (fun hHeld => ?_)
  clear hK K
  try simp only [Act.put, List.setIfInBounds_toArray, List.set_cons_zero, List.set_cons_succ, List.getElem_toArray, List.getElem_cons_succ, List.getElem_cons_zero]
  refine wpAnyH_ready (rs := [23]) (by kernel_rfl) (by simp) ?_
  refine AllReadyH.cons rfl (fun K hK => ?_) AllReadyH.nil
  try simp only [Act.put, List.setIfInBounds_toArray, List.set_cons_zero, List.set_cons_succ, List.getElem_toArray, List.getElem_cons_succ, List.getElem_cons_zero]
  go_simp
  go_at_call 133
  refine (different_c _ _ _ _ (i7.ext (by repeat (first | exact Ext.refl _ | assumption | apply Ext.drewN | apply Ext.drew | apply Ext.alloc)))).mono ?_
  rintro e w8 ⟨rfl, xw8⟩
  have Yw8 : Ext (((w.alloc (.cells #[.int .i64 b1, u1, v1] 36)).alloc (.cells #[.int .i64 b2, u2, v2] 36))) w8 := Yw7.trans (Ext.trans (by repeat (first | exact Ext.refl _ | assumption | apply Ext.drewN | apply Ext.drew | apply Ext.alloc)) xw8)
  replace i3 := i3.ext (Ext.trans (by repeat (first | exact Ext.refl _ | assumption | apply Ext.drewN | apply Ext.drew | apply Ext.alloc)) xw8)
  replace i4 := i4.ext (Ext.trans (by repeat (first | exact Ext.refl _ | assumption | apply Ext.drewN | apply Ext.drew | apply Ext.alloc)) xw8)
  replace i6 := i6.ext (Ext.trans (by repeat (first | exact Ext.refl _ | assumption | apply Ext.drewN | apply Ext.drew | apply Ext.alloc)) xw8)
  replace i7 := i7.ext (Ext.trans (by repeat (first | exact Ext.refl _ | assumption | apply Ext.drewN | apply Ext.drew | apply Ext.alloc)) xw8)
  rw [e2.out]
  refine hK.out _ _ ⟨Yw8.cell c10, Yw8.cell c11, Yw8.cell c12, Yw8.cell c20, Yw8.cell c21, Yw8.cell c22⟩ (fun hHeld => ?_)
  clear hK K
  try simp only [Act.put, List.setIfInBounds_toArray, List.set_cons_zero, List.set_cons_succ, List.getElem_toArray, List.getElem_cons_succ, List.getElem_cons_zero]
  refine wpAnyH_take (i := 24) (v := ?_) rfl (by kernel_rfl) (by kernel_rfl) (by kernel_rfl) (fun _ _ _ h => h) (Or.inl ⟨by rfl, ?_⟩) (by assumption) ?_
  rotate_left
  · (intro w hSw; (try dsimp only at hSw); go_simp; try with_reducible rfl)
  try simp only [Act.put, List.setIfInBounds_toArray, List.set_cons_zero, List.set_cons_succ, List.getElem_toArray, List.getElem_cons_succ, List.getElem_cons_zero]
  refine wpAnyH_take (i := 25) (v := ?_) rfl (by kernel_rfl) (by kernel_rfl) (by kernel_rfl) (fun _ _ _ h => h) (Or.inl ⟨by rfl, ?_⟩) (by assumption) ?_
  rotate_left
  · (intro w hSw; (try dsimp only at hSw); go_simp; try with_reducible rfl)
  try simp only [Act.put, List.setIfInBounds_toArray, List.set_cons_zero, List.set_cons_succ, List.getElem_toArray, List.getElem_cons_succ, List.getElem_cons_zero]
  refine wpAnyH_done (by kernel_rfl) ?_ _
  clear hHeld
  have Lw8 : Ext ((w.alloc (.cells #[.int .i64 b1, u1, v1] 36)).alloc (.cells #[.int .i64 b2, u2, v2] 36)) w8 := Yw8
  have Xw8 : Ext w w8 := Xb.trans Lw8
  replace c10 := Lw8.cell c10
  replace c11 := Lw8.cell c11
  replace c12 := Lw8.cell c12
  replace c20 := Lw8.cell c20
  replace c21 := Lw8.cell c21
  replace c22 := Lw8.cell c22
  have z1 : w.heap.size < w8.heap.size := World.block_lt_of_cell? _ _ c10
  have z2 : w.heap.size + 1 < w8.heap.size := World.block_lt_of_cell? _ _ c20
  have sw8 : ((w.alloc (.cells #[.int .i64 b1, u1, v1] 36)).alloc (.cells #[.int .i64 b2, u2, v2] 36)).heap.size ≤ w8.heap.size := Lw8.size
  clear i3 i4 i6 i7
  go_wp2_with fail
  go_region_held3 (fun w' => w'.cell? ⟨w.heap.size, 0, none⟩ = some (.int .i64 b1) ∧ w'.cell? ⟨w.heap.size, 1, none⟩ = some (u1) ∧ w'.cell? ⟨w.heap.size, 2, none⟩ = some (v1) ∧ w'.cell? ⟨w.heap.size + 1, 0, none⟩ = some (.int .i64 b2) ∧ w'.cell? ⟨w.heap.size + 1, 1, none⟩ = some (u2) ∧ w'.cell? ⟨w.heap.size + 1, 2, none⟩ = some (v2))
       (first
         | go_keep
         | exact ⟨Yw12.cell c10, Yw12.cell c11, Yw12.cell c12, Yw12.cell c20, Yw12.cell c21, Yw12.cell c22⟩
         | exact ⟨Yw11.cell c10, Yw11.cell c11, Yw11.cell c12, Yw11.cell c20, Yw11.cell c21, Yw11.cell c22⟩
         | exact ⟨Yw10.cell c10, Yw10.cell c11, Yw10.cell c12, Yw10.cell c20, Yw10.cell c21, Yw10.cell c22⟩
         | exact ⟨Yw9.cell c10, Yw9.cell c11, Yw9.cell c12, Yw9.cell c20, Yw9.cell c21, Yw9.cell c22⟩)
       (first
         | (go_at_call 134; refine (put_c _ _ _ _ b2 _ _ s2 t2 _ _ l2 m2 _ (j9.ext (by repeat (first | exact Ext.refl _ | assumption | apply Ext.drewN | apply Ext.drew | apply Ext.alloc))) (h2.ext (Xw8.trans (Yw11.trans (by repeat (first | exact Ext.refl _ | assumption | apply Ext.drewN | apply Ext.drew | apply Ext.alloc))))) (k2.ext (Xw8.trans (Yw11.trans (by repeat (first | exact Ext.refl _ | assumption | apply Ext.drewN | apply Ext.drew | apply Ext.alloc))))) (j10.ext (by repeat (first | exact Ext.refl _ | assumption | apply Ext.drewN | apply Ext.drew | apply Ext.alloc))) (by rw [putL_len]; exact hml) hb'.out (by rw [putL_len]; exact hix2.out) (by unfold loadL; rw [takL_len]; exact hsl.out.symm)).mono ?_; rintro e w12 ⟨r11, rfl, i9, o9, xw12⟩; have Yw12 : Ext (w8) w12 := Yw11.trans (Ext.trans (by repeat (first | exact Ext.refl _ | assumption | apply Ext.drewN | apply Ext.drew | apply Ext.alloc)) xw12); replace j8 := j8.ext (Ext.trans (by repeat (first | exact Ext.refl _ | assumption | apply Ext.drewN | apply Ext.drew | apply Ext.alloc)) xw12); replace j9 := j9.ext (Ext.trans (by repeat (first | exact Ext.refl _ | assumption | apply Ext.drewN | apply Ext.drew | apply Ext.alloc)) xw12); replace j10 := j10.ext (Ext.trans (by repeat (first | exact Ext.refl _ | assumption | apply Ext.drewN | apply Ext.drew | apply Ext.alloc)) xw12))
         | (go_at_call 135; refine (load_c mem _ b1 _ _ s1 t1 _ l0 l1 m1 (h0.ext (Xw8.trans (Yw10.trans (by repeat (first | exact Ext.refl _ | assumption | apply Ext.drewN | apply Ext.drew | apply Ext.alloc))))) (h1.ext (Xw8.trans (Yw10.trans (by repeat (first | exact Ext.refl _ | assumption | apply Ext.drewN | apply Ext.drew | apply Ext.alloc))))) (k1.ext (Xw8.trans (Yw10.trans (by repeat (first | exact Ext.refl _ | assumption | apply Ext.drewN | apply Ext.drew | apply Ext.alloc))))) hh1.out).mono ?_; rintro e w11 ⟨r10, rfl, j10, -, xw11⟩; have Yw11 : Ext (w8) w11 := Yw10.trans (Ext.trans (by repeat (first | exact Ext.refl _ | assumption | apply Ext.drewN | apply Ext.drew | apply Ext.alloc)) xw11); replace j8 := j8.ext (Ext.trans (by repeat (first | exact Ext.refl _ | assumption | apply Ext.drewN | apply Ext.drew | apply Ext.alloc)) xw11); replace j9 := j9.ext (Ext.trans (by repeat (first | exact Ext.refl _ | assumption | apply Ext.drewN | apply Ext.drew | apply Ext.alloc)) xw11))
         | (go_at_call 134; refine (put_c mem _ _ _ b1 _ _ s1 t1 _ l0 l1 m1 _ (h0.ext (Xw8.trans (Yw9.trans (by repeat (first | exact Ext.refl _ | assumption | apply Ext.drewN | apply Ext.drew | apply Ext.alloc))))) (h1.ext (Xw8.trans (Yw9.trans (by repeat (first | exact Ext.refl _ | assumption | apply Ext.drewN | apply Ext.drew | apply Ext.alloc))))) (k1.ext (Xw8.trans (Yw9.trans (by repeat (first | exact Ext.refl _ | assumption | apply Ext.drewN | apply Ext.drew | apply Ext.alloc))))) (j8.ext (by repeat (first | exact Ext.refl _ | assumption | apply Ext.drewN | apply Ext.drew | apply Ext.alloc))) hml ha'.out hix1.out (by unfold loadL; rw [takL_len]; exact hsl.out)).mono ?_; rintro e w10 ⟨r9, rfl, j9, -, xw10⟩; have Yw10 : Ext (w8) w10 := Yw9.trans (Ext.trans (by repeat (first | exact Ext.refl _ | assumption | apply Ext.drewN | apply Ext.drew | apply Ext.alloc)) xw10); replace j8 := j8.ext (Ext.trans (by repeat (first | exact Ext.refl _ | assumption | apply Ext.drewN | apply Ext.drew | apply Ext.alloc)) xw10))
         | (go_at_call 135; refine (load_c mem _ b2 _ _ s2 t2 _ l0 l2 m2 (h0.ext (Xw8.trans (by repeat (first | exact Ext.refl _ | assumption | apply Ext.drewN | apply Ext.drew | apply Ext.alloc)))) (h2.ext (Xw8.trans (by repeat (first | exact Ext.refl _ | assumption | apply Ext.drewN | apply Ext.drew | apply Ext.alloc)))) (k2.ext (Xw8.trans (by repeat (first | exact Ext.refl _ | assumption | apply Ext.drewN | apply Ext.drew | apply Ext.alloc)))) hh2.out).mono ?_; rintro e w9 ⟨r8, rfl, j8, -, xw9⟩; have Yw9 : Ext (w8) w9 := Ext.trans (by repeat (first | exact Ext.refl _ | assumption | apply Ext.drewN | apply Ext.drew | apply Ext.alloc)) xw9))
  have Lw12 : Ext w8 w12 := Yw12
  have Xw12 : Ext w w12 := Xw8.trans Lw12
  replace c10 := Lw12.cell c10
  replace c11 := Lw12.cell c11
  replace c12 := Lw12.cell c12
  replace c20 := Lw12.cell c20
  replace c21 := Lw12.cell c21
  replace c22 := Lw12.cell c22
  have z3 : w.heap.size < w12.heap.size := World.block_lt_of_cell? _ _ c10
  have z4 : w.heap.size + 1 < w12.heap.size := World.block_lt_of_cell? _ _ c20
  have sw12 : w8.heap.size ≤ w12.heap.size := Lw12.size
  all_goals
    go_wp2_with fail
    go_ret2
    rw [hr.out, hr2.out]
    exact PIntsB.yes o9 i9 (Ext.size (show Ext w _ from Xw8.trans (Yw11.trans (by repeat (first | exact Ext.refl _ | assumption | apply Ext.drewN | apply Ext.drew | apply Ext.alloc))))) (Xw12.trans (by repeat (first | exact Ext.refl _ | assumption | apply Ext.drewN | apply Ext.drew | apply Ext.alloc)))

theorem specSwapViews_c (mem : List Int) (a0 : Value) (b1 : Int) (u1 v1 : Value) (s1 t1 : List Int) (b2 : Int) (u2 v2 : Value) (s2 t2 : List Int) (w : World) (l0 l1 m1 l2 m2 : Nat) (h0 : Ints w l0 a0 mem) (h1 : Ints w l1 u1 s1) (k1 : Ints w m1 v1 t1) (h2 : Ints w l2 u2 s2) (k2 : Ints w m2 v2 t2) :
    Calls Try.prog 45 #[a0, .agg #[.int .i64 b1, u1, v1], .agg #[.int .i64 b2, u2, v2]] w (PIntsB w (swapA mem b1 s1 t1 b2 s2 t2) (swapB mem b1 s1 t1 b2 s2 t2)) := by
  cases hp : pairB mem b1 s1 t1 b2 s2 t2
  · exact specSwapViews_0 mem a0 b1 u1 v1 s1 t1 b2 u2 v2 s2 t2 w l0 l1 m1 l2 m2 h0 h1 k1 h2 k2 hp
  · by_cases hd : (bothL (offsL b1 s1 t1) (offsL b2 s2 t2)).length = 0
    · by_cases hn : (offsL b1 s1 t1).Nodup
      · by_cases hn2 : (offsL b2 s2 t2).Nodup
        · exact specSwapViews_4 mem a0 b1 u1 v1 s1 t1 b2 u2 v2 s2 t2 w l0 l1 m1 l2 m2 h0 h1 k1 h2 k2 hp hd hn hn2
        · exact specSwapViews_3 mem a0 b1 u1 v1 s1 t1 b2 u2 v2 s2 t2 w l0 l1 m1 l2 m2 h0 h1 k1 h2 k2 hp hd hn hn2
      · exact specSwapViews_2 mem a0 b1 u1 v1 s1 t1 b2 u2 v2 s2 t2 w l0 l1 m1 l2 m2 h0 h1 k1 h2 k2 hp hd hn
    · exact specSwapViews_1 mem a0 b1 u1 v1 s1 t1 b2 u2 v2 s2 t2 w l0 l1 m1 l2 m2 h0 h1 k1 h2 k2 hp hd

end Go.Proofs.Ytfdpoepidlmbaaa
