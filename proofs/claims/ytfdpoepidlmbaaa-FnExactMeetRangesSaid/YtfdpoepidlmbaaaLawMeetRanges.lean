/- FnExactMeetRanges returns true for all arguments: no condition. -/
import Derived.Test.YtfdpoepidlmbaaaRngB
namespace Go.Proofs.Ytfdpoepidlmbaaa
open Go.RowKit
set_option linter.unusedVariables false
set_option maxRecDepth 100000

set_option maxHeartbeats 6400000 in
theorem lawMeetRanges_c (a1 e1 d1 a2 e2 d2 : Int) (w : World) :
    Calls Try.prog 9 #[.agg #[.int .i64 a1, .int .i64 e1, .int .i64 d1], .agg #[.int .i64 a2, .int .i64 e2, .int .i64 d2]] w fun e w' => e = .returned (.bool true) ∧ Ext w w' := by
  go_enter Try.func9, Try.ntmps9
  go_wp2_with fail
  have Xb : Ext w ((w.alloc (.cells #[.int .i64 a1, .int .i64 e1, .int .i64 d1] 57)).alloc (.cells #[.int .i64 a2, .int .i64 e2, .int .i64 d2] 57)) := (by repeat (first | exact Ext.refl _ | assumption | apply Ext.drewN | apply Ext.drew | apply Ext.alloc))
  have c10 : (((w.alloc (.cells #[.int .i64 a1, .int .i64 e1, .int .i64 d1] 57)).alloc (.cells #[.int .i64 a2, .int .i64 e2, .int .i64 d2] 57))).cell? ⟨w.heap.size, 0, none⟩ = some (.int .i64 a1) := (by first | (simp; done) | ((repeat rw [World.cell?_alloc_lt _ _ _ (by simp <;> omega)]); simp; done) | (go_simp; done))
  have c11 : (((w.alloc (.cells #[.int .i64 a1, .int .i64 e1, .int .i64 d1] 57)).alloc (.cells #[.int .i64 a2, .int .i64 e2, .int .i64 d2] 57))).cell? ⟨w.heap.size, 1, none⟩ = some (.int .i64 e1) := (by first | (simp; done) | ((repeat rw [World.cell?_alloc_lt _ _ _ (by simp <;> omega)]); simp; done) | (go_simp; done))
  have c12 : (((w.alloc (.cells #[.int .i64 a1, .int .i64 e1, .int .i64 d1] 57)).alloc (.cells #[.int .i64 a2, .int .i64 e2, .int .i64 d2] 57))).cell? ⟨w.heap.size, 2, none⟩ = some (.int .i64 d1) := (by first | (simp; done) | ((repeat rw [World.cell?_alloc_lt _ _ _ (by simp <;> omega)]); simp; done) | (go_simp; done))
  have c20 : (((w.alloc (.cells #[.int .i64 a1, .int .i64 e1, .int .i64 d1] 57)).alloc (.cells #[.int .i64 a2, .int .i64 e2, .int .i64 d2] 57))).cell? ⟨w.heap.size + 1, 0, none⟩ = some (.int .i64 a2) := (by first | (simp; done) | ((repeat rw [World.cell?_alloc_lt _ _ _ (by simp <;> omega)]); simp; done) | (go_simp; done))
  have c21 : (((w.alloc (.cells #[.int .i64 a1, .int .i64 e1, .int .i64 d1] 57)).alloc (.cells #[.int .i64 a2, .int .i64 e2, .int .i64 d2] 57))).cell? ⟨w.heap.size + 1, 1, none⟩ = some (.int .i64 e2) := (by first | (simp; done) | ((repeat rw [World.cell?_alloc_lt _ _ _ (by simp <;> omega)]); simp; done) | (go_simp; done))
  have c22 : (((w.alloc (.cells #[.int .i64 a1, .int .i64 e1, .int .i64 d1] 57)).alloc (.cells #[.int .i64 a2, .int .i64 e2, .int .i64 d2] 57))).cell? ⟨w.heap.size + 1, 2, none⟩ = some (.int .i64 d2) := (by first | (simp; done) | ((repeat rw [World.cell?_alloc_lt _ _ _ (by simp <;> omega)]); simp; done) | (go_simp; done))
  refine wp_region_held_drew (S := fun w' => w'.cell? ⟨w.heap.size, 0, none⟩ = some (.int .i64 a1) ∧ w'.cell? ⟨w.heap.size, 1, none⟩ = some (.int .i64 e1) ∧ w'.cell? ⟨w.heap.size, 2, none⟩ = some (.int .i64 d1) ∧ w'.cell? ⟨w.heap.size + 1, 0, none⟩ = some (.int .i64 a2) ∧ w'.cell? ⟨w.heap.size + 1, 1, none⟩ = some (.int .i64 e2) ∧ w'.cell? ⟨w.heap.size + 1, 2, none⟩ = some (.int .i64 d2)) (by kernel_rfl) ⟨c10, c11, c12, c20, c21, c22⟩ (fun hHeld => ?_)
  refine wpAnyH_take (i := 0) (v := ?_) rfl (by kernel_rfl) (by kernel_rfl) (by kernel_rfl) (fun _ _ _ h => h) (Or.inl ⟨by rfl, ?_⟩) (by assumption) ?_
  rotate_left
  · (intro w hSw; (try dsimp only at hSw); go_simp; try with_reducible rfl)
  try simp only [Act.put, List.setIfInBounds_toArray, List.set_cons_zero, List.set_cons_succ, List.getElem_toArray, List.getElem_cons_succ, List.getElem_cons_zero]
  refine wpAnyH_take (i := 2) (v := ?_) rfl (by kernel_rfl) (by kernel_rfl) (by kernel_rfl) (fun _ _ _ h => h) (Or.inl ⟨by rfl, ?_⟩) (by assumption) ?_
  rotate_left
  · (intro w hSw; (try dsimp only at hSw); go_simp; try with_reducible rfl)
  try simp only [Act.put, List.setIfInBounds_toArray, List.set_cons_zero, List.set_cons_succ, List.getElem_toArray, List.getElem_cons_succ, List.getElem_cons_zero]
  refine wpAnyH_ready (rs := [1, 5]) (by kernel_rfl) (by simp) ?_
  refine AllReadyH.cons rfl (fun K hK => ?_) (AllReadyH.cons rfl (fun K hK => ?_) AllReadyH.nil)
  rotate_left
  try simp only [Act.put, List.setIfInBounds_toArray, List.set_cons_zero, List.set_cons_succ, List.getElem_toArray, List.getElem_cons_succ, List.getElem_cons_zero]
  go_simp
  refine hK.out _ _ ⟨(show Ext ((w.alloc (.cells #[.int .i64 a1, .int .i64 e1, .int .i64 d1] 57)).alloc (.cells #[.int .i64 a2, .int .i64 e2, .int .i64 d2] 57)) _ from (by repeat (first | exact Ext.refl _ | assumption | apply Ext.drewN | apply Ext.drew | apply Ext.alloc))).cell c10, (show Ext ((w.alloc (.cells #[.int .i64 a1, .int .i64 e1, .int .i64 d1] 57)).alloc (.cells #[.int .i64 a2, .int .i64 e2, .int .i64 d2] 57)) _ from (by repeat (first | exact Ext.refl _ | assumption | apply Ext.drewN | apply Ext.drew | apply Ext.alloc))).cell c11, (show Ext ((w.alloc (.cells #[.int .i64 a1, .int .i64 e1, .int .i64 d1] 57)).alloc (.cells #[.int .i64 a2, .int .i64 e2, .int .i64 d2] 57)) _ from (by repeat (first | exact Ext.refl _ | assumption | apply Ext.drewN | apply Ext.drew | apply Ext.alloc))).cell c12, (show Ext ((w.alloc (.cells #[.int .i64 a1, .int .i64 e1, .int .i64 d1] 57)).alloc (.cells #[.int .i64 a2, .int .i64 e2, .int .i64 d2] 57)) _ from (by repeat (first | exact Ext.refl _ | assumption | apply Ext.drewN | apply Ext.drew | apply Ext.alloc))).cell c20, (show Ext ((w.alloc (.cells #[.int .i64 a1, .int .i64 e1, .int .i64 d1] 57)).alloc (.cells #[.int .i64 a2, .int .i64 e2, .int .i64 d2] 57)) _ from (by repeat (first | exact Ext.refl _ | assumption | apply Ext.drewN | apply Ext.drew | apply Ext.alloc))).cell c21, (show Ext ((w.alloc (.cells #[.int .i64 a1, .int .i64 e1, .int .i64 d1] 57)).alloc (.cells #[.int .i64 a2, .int .i64 e2, .int .i64 d2] 57)) _ from (by repeat (first | exact Ext.refl _ | assumption | apply Ext.drewN | apply Ext.drew | apply Ext.alloc))).cell c22⟩ (fun hHeld => ?_)
  clear hK K
  try simp only [Act.put, List.setIfInBounds_toArray, List.set_cons_zero, List.set_cons_succ, List.getElem_toArray, List.getElem_cons_succ, List.getElem_cons_zero]
  have qa0 : (((w.alloc (.cells #[.int .i64 a1, .int .i64 e1, .int .i64 d1] 57)).alloc (.cells #[.int .i64 a2, .int .i64 e2, .int .i64 d2] 57)).drew.alloc (.cells #[.int .i64 0, .int .i64 0, .int .i64 0] 58)).cell? ⟨w.heap.size + 1 + 1, 0, none⟩ = some (.int .i64 0) := (by first | (simp; done) | ((repeat rw [World.cell?_alloc_lt _ _ _ (by simp <;> omega)]); simp; done) | (go_simp; done))
  have qf0 : (((w.alloc (.cells #[.int .i64 a1, .int .i64 e1, .int .i64 d1] 57)).alloc (.cells #[.int .i64 a2, .int .i64 e2, .int .i64 d2] 57)).drew.alloc (.cells #[.int .i64 0, .int .i64 0, .int .i64 0] 58)).frozen? ⟨w.heap.size + 1 + 1, 0, none⟩ = false := by first | (simp; done) | (go_simp; done)
  have qa1 : (((w.alloc (.cells #[.int .i64 a1, .int .i64 e1, .int .i64 d1] 57)).alloc (.cells #[.int .i64 a2, .int .i64 e2, .int .i64 d2] 57)).drew.alloc (.cells #[.int .i64 0, .int .i64 0, .int .i64 0] 58)).cell? ⟨w.heap.size + 1 + 1, 1, none⟩ = some (.int .i64 0) := (by first | (simp; done) | ((repeat rw [World.cell?_alloc_lt _ _ _ (by simp <;> omega)]); simp; done) | (go_simp; done))
  have qf1 : (((w.alloc (.cells #[.int .i64 a1, .int .i64 e1, .int .i64 d1] 57)).alloc (.cells #[.int .i64 a2, .int .i64 e2, .int .i64 d2] 57)).drew.alloc (.cells #[.int .i64 0, .int .i64 0, .int .i64 0] 58)).frozen? ⟨w.heap.size + 1 + 1, 1, none⟩ = false := by first | (simp; done) | (go_simp; done)
  have qa2 : (((w.alloc (.cells #[.int .i64 a1, .int .i64 e1, .int .i64 d1] 57)).alloc (.cells #[.int .i64 a2, .int .i64 e2, .int .i64 d2] 57)).drew.alloc (.cells #[.int .i64 0, .int .i64 0, .int .i64 0] 58)).cell? ⟨w.heap.size + 1 + 1, 2, none⟩ = some (.int .i64 0) := (by first | (simp; done) | ((repeat rw [World.cell?_alloc_lt _ _ _ (by simp <;> omega)]); simp; done) | (go_simp; done))
  have qf2 : (((w.alloc (.cells #[.int .i64 a1, .int .i64 e1, .int .i64 d1] 57)).alloc (.cells #[.int .i64 a2, .int .i64 e2, .int .i64 d2] 57)).drew.alloc (.cells #[.int .i64 0, .int .i64 0, .int .i64 0] 58)).frozen? ⟨w.heap.size + 1 + 1, 2, none⟩ = false := by first | (simp; done) | (go_simp; done)
  have zg : w.heap.size + 1 + 1 < (((w.alloc (.cells #[.int .i64 a1, .int .i64 e1, .int .i64 d1] 57)).alloc (.cells #[.int .i64 a2, .int .i64 e2, .int .i64 d2] 57)).drew.alloc (.cells #[.int .i64 0, .int .i64 0, .int .i64 0] 58)).heap.size := World.block_lt_of_cell? _ _ qa0
  have hg : ((w.alloc (.cells #[.int .i64 a1, .int .i64 e1, .int .i64 d1] 57)).alloc (.cells #[.int .i64 a2, .int .i64 e2, .int .i64 d2] 57)).heap.size ≤ w.heap.size + 1 + 1 := by simp
  refine wpAnyH_ready (rs := [1]) (by kernel_rfl) (by simp) ?_
  refine AllReadyH.cons rfl (fun K hK => ?_) AllReadyH.nil
  try simp only [Act.put, List.setIfInBounds_toArray, List.set_cons_zero, List.set_cons_succ, List.getElem_toArray, List.getElem_cons_succ, List.getElem_cons_zero]
  go_simp
  go_at_call 52
  refine (toRange_c a1 e1 d1 _).mono ?_
  rintro e w1 ⟨rfl, xw1⟩
  have Yw1 : Ext ((w.alloc (.cells #[.int .i64 a1, .int .i64 e1, .int .i64 d1] 57)).alloc (.cells #[.int .i64 a2, .int .i64 e2, .int .i64 d2] 57)) w1 := Ext.trans (by repeat (first | exact Ext.refl _ | assumption | apply Ext.drewN | apply Ext.drew | apply Ext.alloc)) xw1
  replace qa0 := xw1.cell qa0
  replace qf0 := xw1.frz zg qf0
  replace qa1 := xw1.cell qa1
  replace qf1 := xw1.frz zg qf1
  replace qa2 := xw1.cell qa2
  replace qf2 := xw1.frz zg qf2
  replace zg := Nat.lt_of_lt_of_le zg xw1.size
  refine hK.out _ _ ⟨Yw1.cell c10, Yw1.cell c11, Yw1.cell c12, Yw1.cell c20, Yw1.cell c21, Yw1.cell c22⟩ (fun hHeld => ?_)
  clear hK K
  try simp only [Act.put, List.setIfInBounds_toArray, List.set_cons_zero, List.set_cons_succ, List.getElem_toArray, List.getElem_cons_succ, List.getElem_cons_zero]
  refine wpAnyH_ready (rs := [3]) (by kernel_rfl) (by simp) ?_
  refine AllReadyH.cons rfl (fun K hK => ?_) AllReadyH.nil
  try simp only [Act.put, List.setIfInBounds_toArray, List.set_cons_zero, List.set_cons_succ, List.getElem_toArray, List.getElem_cons_succ, List.getElem_cons_zero]
  go_simp
  go_at_call 52
  refine (toRange_c a2 e2 d2 _).mono ?_
  rintro e w2 ⟨rfl, xw2⟩
  have Yw2 : Ext ((w.alloc (.cells #[.int .i64 a1, .int .i64 e1, .int .i64 d1] 57)).alloc (.cells #[.int .i64 a2, .int .i64 e2, .int .i64 d2] 57)) w2 := Yw1.trans (Ext.trans (by repeat (first | exact Ext.refl _ | assumption | apply Ext.drewN | apply Ext.drew | apply Ext.alloc)) xw2)
  replace qa0 := xw2.cell qa0
  replace qf0 := xw2.frz zg qf0
  replace qa1 := xw2.cell qa1
  replace qf1 := xw2.frz zg qf1
  replace qa2 := xw2.cell qa2
  replace qf2 := xw2.frz zg qf2
  replace zg := Nat.lt_of_lt_of_le zg xw2.size
  refine hK.out _ _ ⟨Yw2.cell c10, Yw2.cell c11, Yw2.cell c12, Yw2.cell c20, Yw2.cell c21, Yw2.cell c22⟩ (fun hHeld => ?_)
  clear hK K
  try simp only [Act.put, List.setIfInBounds_toArray, List.set_cons_zero, List.set_cons_succ, List.getElem_toArray, List.getElem_cons_succ, List.getElem_cons_zero]
  refine wpAnyH_ready (rs := [4]) (by kernel_rfl) (by simp) ?_
  refine AllReadyH.cons rfl (fun K hK => ?_) AllReadyH.nil
  try simp only [Act.put, List.setIfInBounds_toArray, List.set_cons_zero, List.set_cons_succ, List.getElem_toArray, List.getElem_cons_succ, List.getElem_cons_zero]
  go_simp
  go_at_call 51
  refine (specMeetRanges_c a1 e1 d1 a2 e2 d2 _).mono ?_
  rintro e w3 ⟨rfl, xw3⟩
  have Yw3 : Ext ((w.alloc (.cells #[.int .i64 a1, .int .i64 e1, .int .i64 d1] 57)).alloc (.cells #[.int .i64 a2, .int .i64 e2, .int .i64 d2] 57)) w3 := Yw2.trans (Ext.trans (by repeat (first | exact Ext.refl _ | assumption | apply Ext.drewN | apply Ext.drew | apply Ext.alloc)) xw3)
  replace qa0 := xw3.cell qa0
  replace qf0 := xw3.frz zg qf0
  replace qa1 := xw3.cell qa1
  replace qf1 := xw3.frz zg qf1
  replace qa2 := xw3.cell qa2
  replace qf2 := xw3.frz zg qf2
  replace zg := Nat.lt_of_lt_of_le zg xw3.size
  refine hK.out _ _ ⟨Yw3.cell c10, Yw3.cell c11, Yw3.cell c12, Yw3.cell c20, Yw3.cell c21, Yw3.cell c22⟩ (fun hHeld => ?_)
  clear hK K
  try simp only [Act.put, List.setIfInBounds_toArray, List.set_cons_zero, List.set_cons_succ, List.getElem_toArray, List.getElem_cons_succ, List.getElem_cons_zero]
  refine wpAnyH_ready (rs := [6]) (by kernel_rfl) (by simp) ?_
  refine AllReadyH.cons rfl (fun K hK => ?_) AllReadyH.nil
  try simp only [Act.put, List.setIfInBounds_toArray, List.set_cons_zero, List.set_cons_succ, List.getElem_toArray, List.getElem_cons_succ, List.getElem_cons_zero]
  go_simp
  have XEA : Ext ((w.alloc (.cells #[.int .i64 a1, .int .i64 e1, .int .i64 d1] 57)).alloc (.cells #[.int .i64 a2, .int .i64 e2, .int .i64 d2] 57)) (((w3.setCell ⟨w.heap.size + 1 + 1, 0, none⟩ (.int .i64 (meetT a1 e1 d1 a2 e2 d2).1)).setCell ⟨w.heap.size + 1 + 1, 1, none⟩ (.int .i64 (meetT a1 e1 d1 a2 e2 d2).2.1)).setCell ⟨w.heap.size + 1 + 1, 2, none⟩ (.int .i64 (meetT a1 e1 d1 a2 e2 d2).2.2)) := (Ext.setCell (Ext.setCell (Ext.setCell Yw3 hg _) hg _) hg _)
  have rA0 : (((w3.setCell ⟨w.heap.size + 1 + 1, 0, none⟩ (.int .i64 (meetT a1 e1 d1 a2 e2 d2).1)).setCell ⟨w.heap.size + 1 + 1, 1, none⟩ (.int .i64 (meetT a1 e1 d1 a2 e2 d2).2.1)).setCell ⟨w.heap.size + 1 + 1, 2, none⟩ (.int .i64 (meetT a1 e1 d1 a2 e2 d2).2.2)).cell? ⟨w.heap.size + 1 + 1, 0, none⟩ = some (.int .i64 (meetT a1 e1 d1 a2 e2 d2).1) := by go_simp
  have rA1 : (((w3.setCell ⟨w.heap.size + 1 + 1, 0, none⟩ (.int .i64 (meetT a1 e1 d1 a2 e2 d2).1)).setCell ⟨w.heap.size + 1 + 1, 1, none⟩ (.int .i64 (meetT a1 e1 d1 a2 e2 d2).2.1)).setCell ⟨w.heap.size + 1 + 1, 2, none⟩ (.int .i64 (meetT a1 e1 d1 a2 e2 d2).2.2)).cell? ⟨w.heap.size + 1 + 1, 1, none⟩ = some (.int .i64 (meetT a1 e1 d1 a2 e2 d2).2.1) := by go_simp
  have rA2 : (((w3.setCell ⟨w.heap.size + 1 + 1, 0, none⟩ (.int .i64 (meetT a1 e1 d1 a2 e2 d2).1)).setCell ⟨w.heap.size + 1 + 1, 1, none⟩ (.int .i64 (meetT a1 e1 d1 a2 e2 d2).2.1)).setCell ⟨w.heap.size + 1 + 1, 2, none⟩ (.int .i64 (meetT a1 e1 d1 a2 e2 d2).2.2)).cell? ⟨w.heap.size + 1 + 1, 2, none⟩ = some (.int .i64 (meetT a1 e1 d1 a2 e2 d2).2.2) := by go_simp
  refine hK.out _ _ ⟨XEA.cell c10, XEA.cell c11, XEA.cell c12, XEA.cell c20, XEA.cell c21, XEA.cell c22⟩ (fun hHeld => ?_)
  clear hK K
  try simp only [Act.put, List.setIfInBounds_toArray, List.set_cons_zero, List.set_cons_succ, List.getElem_toArray, List.getElem_cons_succ, List.getElem_cons_zero]
  clear zg hg qa0 qf0 qa1 qf1 qa2 qf2
  refine wpAnyH_done (by kernel_rfl) ?_ _
  clear hHeld
  generalize (((w3.setCell ⟨w.heap.size + 1 + 1, 0, none⟩ (.int .i64 (meetT a1 e1 d1 a2 e2 d2).1)).setCell ⟨w.heap.size + 1 + 1, 1, none⟩ (.int .i64 (meetT a1 e1 d1 a2 e2 d2).2.1)).setCell ⟨w.heap.size + 1 + 1, 2, none⟩ (.int .i64 (meetT a1 e1 d1 a2 e2 d2).2.2)) = WA at *
  generalize w.heap.size + 1 + 1 = gA at *
  rotate_right
  try simp only [Act.put, List.setIfInBounds_toArray, List.set_cons_zero, List.set_cons_succ, List.getElem_toArray, List.getElem_cons_succ, List.getElem_cons_zero]
  go_simp
  go_at_call 52
  refine (toRange_c a1 e1 d1 _).mono ?_
  rintro e w1 ⟨rfl, xw1⟩
  have Yw1 : Ext ((w.alloc (.cells #[.int .i64 a1, .int .i64 e1, .int .i64 d1] 57)).alloc (.cells #[.int .i64 a2, .int .i64 e2, .int .i64 d2] 57)) w1 := Ext.trans (by repeat (first | exact Ext.refl _ | assumption | apply Ext.drewN | apply Ext.drew | apply Ext.alloc)) xw1
  refine hK.out _ _ ⟨Yw1.cell c10, Yw1.cell c11, Yw1.cell c12, Yw1.cell c20, Yw1.cell c21, Yw1.cell c22⟩ (fun hHeld => ?_)
  clear hK K
  try simp only [Act.put, List.setIfInBounds_toArray, List.set_cons_zero, List.set_cons_succ, List.getElem_toArray, List.getElem_cons_succ, List.getElem_cons_zero]
  refine wpAnyH_ready (rs := [3, 5]) (by kernel_rfl) (by simp) ?_
  refine AllReadyH.cons rfl (fun K hK => ?_) (AllReadyH.cons rfl (fun K hK => ?_) AllReadyH.nil)
  rotate_left
  try simp only [Act.put, List.setIfInBounds_toArray, List.set_cons_zero, List.set_cons_succ, List.getElem_toArray, List.getElem_cons_succ, List.getElem_cons_zero]
  go_simp
  refine hK.out _ _ ⟨(show Ext ((w.alloc (.cells #[.int .i64 a1, .int .i64 e1, .int .i64 d1] 57)).alloc (.cells #[.int .i64 a2, .int .i64 e2, .int .i64 d2] 57)) _ from Yw1.trans (by repeat (first | exact Ext.refl _ | assumption | apply Ext.drewN | apply Ext.drew | apply Ext.alloc))).cell c10, (show Ext ((w.alloc (.cells #[.int .i64 a1, .int .i64 e1, .int .i64 d1] 57)).alloc (.cells #[.int .i64 a2, .int .i64 e2, .int .i64 d2] 57)) _ from Yw1.trans (by repeat (first | exact Ext.refl _ | assumption | apply Ext.drewN | apply Ext.drew | apply Ext.alloc))).cell c11, (show Ext ((w.alloc (.cells #[.int .i64 a1, .int .i64 e1, .int .i64 d1] 57)).alloc (.cells #[.int .i64 a2, .int .i64 e2, .int .i64 d2] 57)) _ from Yw1.trans (by repeat (first | exact Ext.refl _ | assumption | apply Ext.drewN | apply Ext.drew | apply Ext.alloc))).cell c12, (show Ext ((w.alloc (.cells #[.int .i64 a1, .int .i64 e1, .int .i64 d1] 57)).alloc (.cells #[.int .i64 a2, .int .i64 e2, .int .i64 d2] 57)) _ from Yw1.trans (by repeat (first | exact Ext.refl _ | assumption | apply Ext.drewN | apply Ext.drew | apply Ext.alloc))).cell c20, (show Ext ((w.alloc (.cells #[.int .i64 a1, .int .i64 e1, .int .i64 d1] 57)).alloc (.cells #[.int .i64 a2, .int .i64 e2, .int .i64 d2] 57)) _ from Yw1.trans (by repeat (first | exact Ext.refl _ | assumption | apply Ext.drewN | apply Ext.drew | apply Ext.alloc))).cell c21, (show Ext ((w.alloc (.cells #[.int .i64 a1, .int .i64 e1, .int .i64 d1] 57)).alloc (.cells #[.int .i64 a2, .int .i64 e2, .int .i64 d2] 57)) _ from Yw1.trans (by repeat (first | exact Ext.refl _ | assumption | apply Ext.drewN | apply Ext.drew | apply Ext.alloc))).cell c22⟩ (fun hHeld => ?_)
  clear hK K
  try simp only [Act.put, List.setIfInBounds_toArray, List.set_cons_zero, List.set_cons_succ, List.getElem_toArray, List.getElem_cons_succ, List.getElem_cons_zero]
  have qa0 : (w1.alloc (.cells #[.int .i64 0, .int .i64 0, .int .i64 0] 58)).cell? ⟨w1.heap.size, 0, none⟩ = some (.int .i64 0) := (by first | (simp; done) | ((repeat rw [World.cell?_alloc_lt _ _ _ (by simp <;> omega)]); simp; done) | (go_simp; done))
  have qf0 : (w1.alloc (.cells #[.int .i64 0, .int .i64 0, .int .i64 0] 58)).frozen? ⟨w1.heap.size, 0, none⟩ = false := by first | (simp; done) | (go_simp; done)
  have qa1 : (w1.alloc (.cells #[.int .i64 0, .int .i64 0, .int .i64 0] 58)).cell? ⟨w1.heap.size, 1, none⟩ = some (.int .i64 0) := (by first | (simp; done) | ((repeat rw [World.cell?_alloc_lt _ _ _ (by simp <;> omega)]); simp; done) | (go_simp; done))
  have qf1 : (w1.alloc (.cells #[.int .i64 0, .int .i64 0, .int .i64 0] 58)).frozen? ⟨w1.heap.size, 1, none⟩ = false := by first | (simp; done) | (go_simp; done)
  have qa2 : (w1.alloc (.cells #[.int .i64 0, .int .i64 0, .int .i64 0] 58)).cell? ⟨w1.heap.size, 2, none⟩ = some (.int .i64 0) := (by first | (simp; done) | ((repeat rw [World.cell?_alloc_lt _ _ _ (by simp <;> omega)]); simp; done) | (go_simp; done))
  have qf2 : (w1.alloc (.cells #[.int .i64 0, .int .i64 0, .int .i64 0] 58)).frozen? ⟨w1.heap.size, 2, none⟩ = false := by first | (simp; done) | (go_simp; done)
  have zg : w1.heap.size < (w1.alloc (.cells #[.int .i64 0, .int .i64 0, .int .i64 0] 58)).heap.size := World.block_lt_of_cell? _ _ qa0
  have hg : ((w.alloc (.cells #[.int .i64 a1, .int .i64 e1, .int .i64 d1] 57)).alloc (.cells #[.int .i64 a2, .int .i64 e2, .int .i64 d2] 57)).heap.size ≤ w1.heap.size := Yw1.size
  refine wpAnyH_ready (rs := [3]) (by kernel_rfl) (by simp) ?_
  refine AllReadyH.cons rfl (fun K hK => ?_) AllReadyH.nil
  try simp only [Act.put, List.setIfInBounds_toArray, List.set_cons_zero, List.set_cons_succ, List.getElem_toArray, List.getElem_cons_succ, List.getElem_cons_zero]
  go_simp
  go_at_call 52
  refine (toRange_c a2 e2 d2 _).mono ?_
  rintro e w2 ⟨rfl, xw2⟩
  have Yw2 : Ext ((w.alloc (.cells #[.int .i64 a1, .int .i64 e1, .int .i64 d1] 57)).alloc (.cells #[.int .i64 a2, .int .i64 e2, .int .i64 d2] 57)) w2 := Yw1.trans (Ext.trans (by repeat (first | exact Ext.refl _ | assumption | apply Ext.drewN | apply Ext.drew | apply Ext.alloc)) xw2)
  replace qa0 := xw2.cell qa0
  replace qf0 := xw2.frz zg qf0
  replace qa1 := xw2.cell qa1
  replace qf1 := xw2.frz zg qf1
  replace qa2 := xw2.cell qa2
  replace qf2 := xw2.frz zg qf2
  replace zg := Nat.lt_of_lt_of_le zg xw2.size
  refine hK.out _ _ ⟨Yw2.cell c10, Yw2.cell c11, Yw2.cell c12, Yw2.cell c20, Yw2.cell c21, Yw2.cell c22⟩ (fun hHeld => ?_)
  clear hK K
  try simp only [Act.put, List.setIfInBounds_toArray, List.set_cons_zero, List.set_cons_succ, List.getElem_toArray, List.getElem_cons_succ, List.getElem_cons_zero]
  refine wpAnyH_ready (rs := [4]) (by kernel_rfl) (by simp) ?_
  refine AllReadyH.cons rfl (fun K hK => ?_) AllReadyH.nil
  try simp only [Act.put, List.setIfInBounds_toArray, List.set_cons_zero, List.set_cons_succ, List.getElem_toArray, List.getElem_cons_succ, List.getElem_cons_zero]
  go_simp
  go_at_call 51
  refine (specMeetRanges_c a1 e1 d1 a2 e2 d2 _).mono ?_
  rintro e w3 ⟨rfl, xw3⟩
  have Yw3 : Ext ((w.alloc (.cells #[.int .i64 a1, .int .i64 e1, .int .i64 d1] 57)).alloc (.cells #[.int .i64 a2, .int .i64 e2, .int .i64 d2] 57)) w3 := Yw2.trans (Ext.trans (by repeat (first | exact Ext.refl _ | assumption | apply Ext.drewN | apply Ext.drew | apply Ext.alloc)) xw3)
  replace qa0 := xw3.cell qa0
  replace qf0 := xw3.frz zg qf0
  replace qa1 := xw3.cell qa1
  replace qf1 := xw3.frz zg qf1
  replace qa2 := xw3.cell qa2
  replace qf2 := xw3.frz zg qf2
  replace zg := Nat.lt_of_lt_of_le zg xw3.size
  refine hK.out _ _ ⟨Yw3.cell c10, Yw3.cell c11, Yw3.cell c12, Yw3.cell c20, Yw3.cell c21, Yw3.cell c22⟩ (fun hHeld => ?_)
  clear hK K
  try simp only [Act.put, List.setIfInBounds_toArray, List.set_cons_zero, List.set_cons_succ, List.getElem_toArray, List.getElem_cons_succ, List.getElem_cons_zero]
  refine wpAnyH_ready (rs := [6]) (by kernel_rfl) (by simp) ?_
  refine AllReadyH.cons rfl (fun K hK => ?_) AllReadyH.nil
  try simp only [Act.put, List.setIfInBounds_toArray, List.set_cons_zero, List.set_cons_succ, List.getElem_toArray, List.getElem_cons_succ, List.getElem_cons_zero]
  go_simp
  have XEA : Ext ((w.alloc (.cells #[.int .i64 a1, .int .i64 e1, .int .i64 d1] 57)).alloc (.cells #[.int .i64 a2, .int .i64 e2, .int .i64 d2] 57)) (((w3.setCell ⟨w1.heap.size, 0, none⟩ (.int .i64 (meetT a1 e1 d1 a2 e2 d2).1)).setCell ⟨w1.heap.size, 1, none⟩ (.int .i64 (meetT a1 e1 d1 a2 e2 d2).2.1)).setCell ⟨w1.heap.size, 2, none⟩ (.int .i64 (meetT a1 e1 d1 a2 e2 d2).2.2)) := (Ext.setCell (Ext.setCell (Ext.setCell Yw3 hg _) hg _) hg _)
  have rA0 : (((w3.setCell ⟨w1.heap.size, 0, none⟩ (.int .i64 (meetT a1 e1 d1 a2 e2 d2).1)).setCell ⟨w1.heap.size, 1, none⟩ (.int .i64 (meetT a1 e1 d1 a2 e2 d2).2.1)).setCell ⟨w1.heap.size, 2, none⟩ (.int .i64 (meetT a1 e1 d1 a2 e2 d2).2.2)).cell? ⟨w1.heap.size, 0, none⟩ = some (.int .i64 (meetT a1 e1 d1 a2 e2 d2).1) := by go_simp
  have rA1 : (((w3.setCell ⟨w1.heap.size, 0, none⟩ (.int .i64 (meetT a1 e1 d1 a2 e2 d2).1)).setCell ⟨w1.heap.size, 1, none⟩ (.int .i64 (meetT a1 e1 d1 a2 e2 d2).2.1)).setCell ⟨w1.heap.size, 2, none⟩ (.int .i64 (meetT a1 e1 d1 a2 e2 d2).2.2)).cell? ⟨w1.heap.size, 1, none⟩ = some (.int .i64 (meetT a1 e1 d1 a2 e2 d2).2.1) := by go_simp
  have rA2 : (((w3.setCell ⟨w1.heap.size, 0, none⟩ (.int .i64 (meetT a1 e1 d1 a2 e2 d2).1)).setCell ⟨w1.heap.size, 1, none⟩ (.int .i64 (meetT a1 e1 d1 a2 e2 d2).2.1)).setCell ⟨w1.heap.size, 2, none⟩ (.int .i64 (meetT a1 e1 d1 a2 e2 d2).2.2)).cell? ⟨w1.heap.size, 2, none⟩ = some (.int .i64 (meetT a1 e1 d1 a2 e2 d2).2.2) := by go_simp
  refine hK.out _ _ ⟨XEA.cell c10, XEA.cell c11, XEA.cell c12, XEA.cell c20, XEA.cell c21, XEA.cell c22⟩ (fun hHeld => ?_)
  clear hK K
  try simp only [Act.put, List.setIfInBounds_toArray, List.set_cons_zero, List.set_cons_succ, List.getElem_toArray, List.getElem_cons_succ, List.getElem_cons_zero]
  clear zg hg qa0 qf0 qa1 qf1 qa2 qf2
  refine wpAnyH_done (by kernel_rfl) ?_ _
  clear hHeld
  generalize (((w3.setCell ⟨w1.heap.size, 0, none⟩ (.int .i64 (meetT a1 e1 d1 a2 e2 d2).1)).setCell ⟨w1.heap.size, 1, none⟩ (.int .i64 (meetT a1 e1 d1 a2 e2 d2).2.1)).setCell ⟨w1.heap.size, 2, none⟩ (.int .i64 (meetT a1 e1 d1 a2 e2 d2).2.2)) = WA at *
  generalize w1.heap.size = gA at *
  rotate_right
  try simp only [Act.put, List.setIfInBounds_toArray, List.set_cons_zero, List.set_cons_succ, List.getElem_toArray, List.getElem_cons_succ, List.getElem_cons_zero]
  go_simp
  go_at_call 52
  refine (toRange_c a2 e2 d2 _).mono ?_
  rintro e w2 ⟨rfl, xw2⟩
  have Yw2 : Ext ((w.alloc (.cells #[.int .i64 a1, .int .i64 e1, .int .i64 d1] 57)).alloc (.cells #[.int .i64 a2, .int .i64 e2, .int .i64 d2] 57)) w2 := Yw1.trans (Ext.trans (by repeat (first | exact Ext.refl _ | assumption | apply Ext.drewN | apply Ext.drew | apply Ext.alloc)) xw2)
  refine hK.out _ _ ⟨Yw2.cell c10, Yw2.cell c11, Yw2.cell c12, Yw2.cell c20, Yw2.cell c21, Yw2.cell c22⟩ (fun hHeld => ?_)
  clear hK K
  try simp only [Act.put, List.setIfInBounds_toArray, List.set_cons_zero, List.set_cons_succ, List.getElem_toArray, List.getElem_cons_succ, List.getElem_cons_zero]
  refine wpAnyH_ready (rs := [4, 5]) (by kernel_rfl) (by simp) ?_
  refine AllReadyH.cons rfl (fun K hK => ?_) (AllReadyH.cons rfl (fun K hK => ?_) AllReadyH.nil)
  rotate_left
  try simp only [Act.put, List.setIfInBounds_toArray, List.set_cons_zero, List.set_cons_succ, List.getElem_toArray, List.getElem_cons_succ, List.getElem_cons_zero]
  go_simp
  refine hK.out _ _ ⟨(show Ext ((w.alloc (.cells #[.int .i64 a1, .int .i64 e1, .int .i64 d1] 57)).alloc (.cells #[.int .i64 a2, .int .i64 e2, .int .i64 d2] 57)) _ from Yw2.trans (by repeat (first | exact Ext.refl _ | assumption | apply Ext.drewN | apply Ext.drew | apply Ext.alloc))).cell c10, (show Ext ((w.alloc (.cells #[.int .i64 a1, .int .i64 e1, .int .i64 d1] 57)).alloc (.cells #[.int .i64 a2, .int .i64 e2, .int .i64 d2] 57)) _ from Yw2.trans (by repeat (first | exact Ext.refl _ | assumption | apply Ext.drewN | apply Ext.drew | apply Ext.alloc))).cell c11, (show Ext ((w.alloc (.cells #[.int .i64 a1, .int .i64 e1, .int .i64 d1] 57)).alloc (.cells #[.int .i64 a2, .int .i64 e2, .int .i64 d2] 57)) _ from Yw2.trans (by repeat (first | exact Ext.refl _ | assumption | apply Ext.drewN | apply Ext.drew | apply Ext.alloc))).cell c12, (show Ext ((w.alloc (.cells #[.int .i64 a1, .int .i64 e1, .int .i64 d1] 57)).alloc (.cells #[.int .i64 a2, .int .i64 e2, .int .i64 d2] 57)) _ from Yw2.trans (by repeat (first | exact Ext.refl _ | assumption | apply Ext.drewN | apply Ext.drew | apply Ext.alloc))).cell c20, (show Ext ((w.alloc (.cells #[.int .i64 a1, .int .i64 e1, .int .i64 d1] 57)).alloc (.cells #[.int .i64 a2, .int .i64 e2, .int .i64 d2] 57)) _ from Yw2.trans (by repeat (first | exact Ext.refl _ | assumption | apply Ext.drewN | apply Ext.drew | apply Ext.alloc))).cell c21, (show Ext ((w.alloc (.cells #[.int .i64 a1, .int .i64 e1, .int .i64 d1] 57)).alloc (.cells #[.int .i64 a2, .int .i64 e2, .int .i64 d2] 57)) _ from Yw2.trans (by repeat (first | exact Ext.refl _ | assumption | apply Ext.drewN | apply Ext.drew | apply Ext.alloc))).cell c22⟩ (fun hHeld => ?_)
  clear hK K
  try simp only [Act.put, List.setIfInBounds_toArray, List.set_cons_zero, List.set_cons_succ, List.getElem_toArray, List.getElem_cons_succ, List.getElem_cons_zero]
  have qa0 : (w2.alloc (.cells #[.int .i64 0, .int .i64 0, .int .i64 0] 58)).cell? ⟨w2.heap.size, 0, none⟩ = some (.int .i64 0) := (by first | (simp; done) | ((repeat rw [World.cell?_alloc_lt _ _ _ (by simp <;> omega)]); simp; done) | (go_simp; done))
  have qf0 : (w2.alloc (.cells #[.int .i64 0, .int .i64 0, .int .i64 0] 58)).frozen? ⟨w2.heap.size, 0, none⟩ = false := by first | (simp; done) | (go_simp; done)
  have qa1 : (w2.alloc (.cells #[.int .i64 0, .int .i64 0, .int .i64 0] 58)).cell? ⟨w2.heap.size, 1, none⟩ = some (.int .i64 0) := (by first | (simp; done) | ((repeat rw [World.cell?_alloc_lt _ _ _ (by simp <;> omega)]); simp; done) | (go_simp; done))
  have qf1 : (w2.alloc (.cells #[.int .i64 0, .int .i64 0, .int .i64 0] 58)).frozen? ⟨w2.heap.size, 1, none⟩ = false := by first | (simp; done) | (go_simp; done)
  have qa2 : (w2.alloc (.cells #[.int .i64 0, .int .i64 0, .int .i64 0] 58)).cell? ⟨w2.heap.size, 2, none⟩ = some (.int .i64 0) := (by first | (simp; done) | ((repeat rw [World.cell?_alloc_lt _ _ _ (by simp <;> omega)]); simp; done) | (go_simp; done))
  have qf2 : (w2.alloc (.cells #[.int .i64 0, .int .i64 0, .int .i64 0] 58)).frozen? ⟨w2.heap.size, 2, none⟩ = false := by first | (simp; done) | (go_simp; done)
  have zg : w2.heap.size < (w2.alloc (.cells #[.int .i64 0, .int .i64 0, .int .i64 0] 58)).heap.size := World.block_lt_of_cell? _ _ qa0
  have hg : ((w.alloc (.cells #[.int .i64 a1, .int .i64 e1, .int .i64 d1] 57)).alloc (.cells #[.int .i64 a2, .int .i64 e2, .int .i64 d2] 57)).heap.size ≤ w2.heap.size := Yw2.size
  refine wpAnyH_ready (rs := [4]) (by kernel_rfl) (by simp) ?_
  refine AllReadyH.cons rfl (fun K hK => ?_) AllReadyH.nil
  try simp only [Act.put, List.setIfInBounds_toArray, List.set_cons_zero, List.set_cons_succ, List.getElem_toArray, List.getElem_cons_succ, List.getElem_cons_zero]
  go_simp
  go_at_call 51
  refine (specMeetRanges_c a1 e1 d1 a2 e2 d2 _).mono ?_
  rintro e w3 ⟨rfl, xw3⟩
  have Yw3 : Ext ((w.alloc (.cells #[.int .i64 a1, .int .i64 e1, .int .i64 d1] 57)).alloc (.cells #[.int .i64 a2, .int .i64 e2, .int .i64 d2] 57)) w3 := Yw2.trans (Ext.trans (by repeat (first | exact Ext.refl _ | assumption | apply Ext.drewN | apply Ext.drew | apply Ext.alloc)) xw3)
  replace qa0 := xw3.cell qa0
  replace qf0 := xw3.frz zg qf0
  replace qa1 := xw3.cell qa1
  replace qf1 := xw3.frz zg qf1
  replace qa2 := xw3.cell qa2
  replace qf2 := xw3.frz zg qf2
  replace zg := Nat.lt_of_lt_of_le zg xw3.size
  refine hK.out _ _ ⟨Yw3.cell c10, Yw3.cell c11, Yw3.cell c12, Yw3.cell c20, Yw3.cell c21, Yw3.cell c22⟩ (fun hHeld => ?_)
  clear hK K
  try simp only [Act.put, List.setIfInBounds_toArray, List.set_cons_zero, List.set_cons_succ, List.getElem_toArray, List.getElem_cons_succ, List.getElem_cons_zero]
  refine wpAnyH_ready (rs := [6]) (by kernel_rfl) (by simp) ?_
  refine AllReadyH.cons rfl (fun K hK => ?_) AllReadyH.nil
  try simp only [Act.put, List.setIfInBounds_toArray, List.set_cons_zero, List.set_cons_succ, List.getElem_toArray, List.getElem_cons_succ, List.getElem_cons_zero]
  go_simp
  have XEA : Ext ((w.alloc (.cells #[.int .i64 a1, .int .i64 e1, .int .i64 d1] 57)).alloc (.cells #[.int .i64 a2, .int .i64 e2, .int .i64 d2] 57)) (((w3.setCell ⟨w2.heap.size, 0, none⟩ (.int .i64 (meetT a1 e1 d1 a2 e2 d2).1)).setCell ⟨w2.heap.size, 1, none⟩ (.int .i64 (meetT a1 e1 d1 a2 e2 d2).2.1)).setCell ⟨w2.heap.size, 2, none⟩ (.int .i64 (meetT a1 e1 d1 a2 e2 d2).2.2)) := (Ext.setCell (Ext.setCell (Ext.setCell Yw3 hg _) hg _) hg _)
  have rA0 : (((w3.setCell ⟨w2.heap.size, 0, none⟩ (.int .i64 (meetT a1 e1 d1 a2 e2 d2).1)).setCell ⟨w2.heap.size, 1, none⟩ (.int .i64 (meetT a1 e1 d1 a2 e2 d2).2.1)).setCell ⟨w2.heap.size, 2, none⟩ (.int .i64 (meetT a1 e1 d1 a2 e2 d2).2.2)).cell? ⟨w2.heap.size, 0, none⟩ = some (.int .i64 (meetT a1 e1 d1 a2 e2 d2).1) := by go_simp
  have rA1 : (((w3.setCell ⟨w2.heap.size, 0, none⟩ (.int .i64 (meetT a1 e1 d1 a2 e2 d2).1)).setCell ⟨w2.heap.size, 1, none⟩ (.int .i64 (meetT a1 e1 d1 a2 e2 d2).2.1)).setCell ⟨w2.heap.size, 2, none⟩ (.int .i64 (meetT a1 e1 d1 a2 e2 d2).2.2)).cell? ⟨w2.heap.size, 1, none⟩ = some (.int .i64 (meetT a1 e1 d1 a2 e2 d2).2.1) := by go_simp
  have rA2 : (((w3.setCell ⟨w2.heap.size, 0, none⟩ (.int .i64 (meetT a1 e1 d1 a2 e2 d2).1)).setCell ⟨w2.heap.size, 1, none⟩ (.int .i64 (meetT a1 e1 d1 a2 e2 d2).2.1)).setCell ⟨w2.heap.size, 2, none⟩ (.int .i64 (meetT a1 e1 d1 a2 e2 d2).2.2)).cell? ⟨w2.heap.size, 2, none⟩ = some (.int .i64 (meetT a1 e1 d1 a2 e2 d2).2.2) := by go_simp
  refine hK.out _ _ ⟨XEA.cell c10, XEA.cell c11, XEA.cell c12, XEA.cell c20, XEA.cell c21, XEA.cell c22⟩ (fun hHeld => ?_)
  clear hK K
  try simp only [Act.put, List.setIfInBounds_toArray, List.set_cons_zero, List.set_cons_succ, List.getElem_toArray, List.getElem_cons_succ, List.getElem_cons_zero]
  clear zg hg qa0 qf0 qa1 qf1 qa2 qf2
  refine wpAnyH_done (by kernel_rfl) ?_ _
  clear hHeld
  generalize (((w3.setCell ⟨w2.heap.size, 0, none⟩ (.int .i64 (meetT a1 e1 d1 a2 e2 d2).1)).setCell ⟨w2.heap.size, 1, none⟩ (.int .i64 (meetT a1 e1 d1 a2 e2 d2).2.1)).setCell ⟨w2.heap.size, 2, none⟩ (.int .i64 (meetT a1 e1 d1 a2 e2 d2).2.2)) = WA at *
  generalize w2.heap.size = gA at *
  rotate_right
  try simp only [Act.put, List.setIfInBounds_toArray, List.set_cons_zero, List.set_cons_succ, List.getElem_toArray, List.getElem_cons_succ, List.getElem_cons_zero]
  go_simp
  go_at_call 51
  refine (specMeetRanges_c a1 e1 d1 a2 e2 d2 _).mono ?_
  rintro e w3 ⟨rfl, xw3⟩
  have Yw3 : Ext ((w.alloc (.cells #[.int .i64 a1, .int .i64 e1, .int .i64 d1] 57)).alloc (.cells #[.int .i64 a2, .int .i64 e2, .int .i64 d2] 57)) w3 := Yw2.trans (Ext.trans (by repeat (first | exact Ext.refl _ | assumption | apply Ext.drewN | apply Ext.drew | apply Ext.alloc)) xw3)
  refine hK.out _ _ ⟨Yw3.cell c10, Yw3.cell c11, Yw3.cell c12, Yw3.cell c20, Yw3.cell c21, Yw3.cell c22⟩ (fun hHeld => ?_)
  clear hK K
  try simp only [Act.put, List.setIfInBounds_toArray, List.set_cons_zero, List.set_cons_succ, List.getElem_toArray, List.getElem_cons_succ, List.getElem_cons_zero]
  refine wpAnyH_ready (rs := [5]) (by kernel_rfl) (by simp) ?_
  refine AllReadyH.cons rfl (fun K hK => ?_) AllReadyH.nil
  try simp only [Act.put, List.setIfInBounds_toArray, List.set_cons_zero, List.set_cons_succ, List.getElem_toArray, List.getElem_cons_succ, List.getElem_cons_zero]
  go_simp
  refine hK.out _ _ ⟨(show Ext ((w.alloc (.cells #[.int .i64 a1, .int .i64 e1, .int .i64 d1] 57)).alloc (.cells #[.int .i64 a2, .int .i64 e2, .int .i64 d2] 57)) _ from Yw3.trans (by repeat (first | exact Ext.refl _ | assumption | apply Ext.drewN | apply Ext.drew | apply Ext.alloc))).cell c10, (show Ext ((w.alloc (.cells #[.int .i64 a1, .int .i64 e1, .int .i64 d1] 57)).alloc (.cells #[.int .i64 a2, .int .i64 e2, .int .i64 d2] 57)) _ from Yw3.trans (by repeat (first | exact Ext.refl _ | assumption | apply Ext.drewN | apply Ext.drew | apply Ext.alloc))).cell c11, (show Ext ((w.alloc (.cells #[.int .i64 a1, .int .i64 e1, .int .i64 d1] 57)).alloc (.cells #[.int .i64 a2, .int .i64 e2, .int .i64 d2] 57)) _ from Yw3.trans (by repeat (first | exact Ext.refl _ | assumption | apply Ext.drewN | apply Ext.drew | apply Ext.alloc))).cell c12, (show Ext ((w.alloc (.cells #[.int .i64 a1, .int .i64 e1, .int .i64 d1] 57)).alloc (.cells #[.int .i64 a2, .int .i64 e2, .int .i64 d2] 57)) _ from Yw3.trans (by repeat (first | exact Ext.refl _ | assumption | apply Ext.drewN | apply Ext.drew | apply Ext.alloc))).cell c20, (show Ext ((w.alloc (.cells #[.int .i64 a1, .int .i64 e1, .int .i64 d1] 57)).alloc (.cells #[.int .i64 a2, .int .i64 e2, .int .i64 d2] 57)) _ from Yw3.trans (by repeat (first | exact Ext.refl _ | assumption | apply Ext.drewN | apply Ext.drew | apply Ext.alloc))).cell c21, (show Ext ((w.alloc (.cells #[.int .i64 a1, .int .i64 e1, .int .i64 d1] 57)).alloc (.cells #[.int .i64 a2, .int .i64 e2, .int .i64 d2] 57)) _ from Yw3.trans (by repeat (first | exact Ext.refl _ | assumption | apply Ext.drewN | apply Ext.drew | apply Ext.alloc))).cell c22⟩ (fun hHeld => ?_)
  clear hK K
  try simp only [Act.put, List.setIfInBounds_toArray, List.set_cons_zero, List.set_cons_succ, List.getElem_toArray, List.getElem_cons_succ, List.getElem_cons_zero]
  refine wpAnyH_ready (rs := [6]) (by kernel_rfl) (by simp) ?_
  refine AllReadyH.cons rfl (fun K hK => ?_) AllReadyH.nil
  try simp only [Act.put, List.setIfInBounds_toArray, List.set_cons_zero, List.set_cons_succ, List.getElem_toArray, List.getElem_cons_succ, List.getElem_cons_zero]
  go_simp
  have XEA : Ext ((w.alloc (.cells #[.int .i64 a1, .int .i64 e1, .int .i64 d1] 57)).alloc (.cells #[.int .i64 a2, .int .i64 e2, .int .i64 d2] 57)) (w3.alloc (.cells #[.int .i64 (meetT a1 e1 d1 a2 e2 d2).1, .int .i64 (meetT a1 e1 d1 a2 e2 d2).2.1, .int .i64 (meetT a1 e1 d1 a2 e2 d2).2.2] 58)) := Yw3.trans (by repeat (first | exact Ext.refl _ | assumption | apply Ext.drewN | apply Ext.drew | apply Ext.alloc))
  have rA0 : (w3.alloc (.cells #[.int .i64 (meetT a1 e1 d1 a2 e2 d2).1, .int .i64 (meetT a1 e1 d1 a2 e2 d2).2.1, .int .i64 (meetT a1 e1 d1 a2 e2 d2).2.2] 58)).cell? ⟨w3.heap.size, 0, none⟩ = some (.int .i64 (meetT a1 e1 d1 a2 e2 d2).1) := (by first | (simp; done) | ((repeat rw [World.cell?_alloc_lt _ _ _ (by simp <;> omega)]); simp; done) | (go_simp; done))
  have rA1 : (w3.alloc (.cells #[.int .i64 (meetT a1 e1 d1 a2 e2 d2).1, .int .i64 (meetT a1 e1 d1 a2 e2 d2).2.1, .int .i64 (meetT a1 e1 d1 a2 e2 d2).2.2] 58)).cell? ⟨w3.heap.size, 1, none⟩ = some (.int .i64 (meetT a1 e1 d1 a2 e2 d2).2.1) := (by first | (simp; done) | ((repeat rw [World.cell?_alloc_lt _ _ _ (by simp <;> omega)]); simp; done) | (go_simp; done))
  have rA2 : (w3.alloc (.cells #[.int .i64 (meetT a1 e1 d1 a2 e2 d2).1, .int .i64 (meetT a1 e1 d1 a2 e2 d2).2.1, .int .i64 (meetT a1 e1 d1 a2 e2 d2).2.2] 58)).cell? ⟨w3.heap.size, 2, none⟩ = some (.int .i64 (meetT a1 e1 d1 a2 e2 d2).2.2) := (by first | (simp; done) | ((repeat rw [World.cell?_alloc_lt _ _ _ (by simp <;> omega)]); simp; done) | (go_simp; done))
  refine hK.out _ _ ⟨XEA.cell c10, XEA.cell c11, XEA.cell c12, XEA.cell c20, XEA.cell c21, XEA.cell c22⟩ (fun hHeld => ?_)
  clear hK K
  try simp only [Act.put, List.setIfInBounds_toArray, List.set_cons_zero, List.set_cons_succ, List.getElem_toArray, List.getElem_cons_succ, List.getElem_cons_zero]
  refine wpAnyH_done (by kernel_rfl) ?_ _
  clear hHeld
  generalize (w3.alloc (.cells #[.int .i64 (meetT a1 e1 d1 a2 e2 d2).1, .int .i64 (meetT a1 e1 d1 a2 e2 d2).2.1, .int .i64 (meetT a1 e1 d1 a2 e2 d2).2.2] 58)) = WA at *
  generalize w3.heap.size = gA at *
  all_goals
    have XA : Ext w WA := Xb.trans XEA
    replace c10 := XEA.cell c10
    replace c11 := XEA.cell c11
    replace c12 := XEA.cell c12
    replace c20 := XEA.cell c20
    replace c21 := XEA.cell c21
    replace c22 := XEA.cell c22
    clear XEA
    go_wp2_with fail
    refine wp_region_held_drew (S := fun w' => w'.cell? ⟨w.heap.size, 0, none⟩ = some (.int .i64 a1) ∧ w'.cell? ⟨w.heap.size, 1, none⟩ = some (.int .i64 e1) ∧ w'.cell? ⟨w.heap.size, 2, none⟩ = some (.int .i64 d1) ∧ w'.cell? ⟨w.heap.size + 1, 0, none⟩ = some (.int .i64 a2) ∧ w'.cell? ⟨w.heap.size + 1, 1, none⟩ = some (.int .i64 e2) ∧ w'.cell? ⟨w.heap.size + 1, 2, none⟩ = some (.int .i64 d2) ∧ w'.cell? ⟨gA, 0, none⟩ = some (.int .i64 (meetT a1 e1 d1 a2 e2 d2).1) ∧ w'.cell? ⟨gA, 1, none⟩ = some (.int .i64 (meetT a1 e1 d1 a2 e2 d2).2.1) ∧ w'.cell? ⟨gA, 2, none⟩ = some (.int .i64 (meetT a1 e1 d1 a2 e2 d2).2.2)) (by kernel_rfl) ⟨c10, c11, c12, c20, c21, c22, rA0, rA1, rA2⟩ (fun hHeld => ?_)
    refine wpAnyH_take (i := 0) (v := ?_) rfl (by kernel_rfl) (by kernel_rfl) (by kernel_rfl) (fun _ _ _ h => h) (Or.inl ⟨by rfl, ?_⟩) (by assumption) ?_
    rotate_left
    · (intro w hSw; (try dsimp only at hSw); go_simp; try with_reducible rfl)
    try simp only [Act.put, List.setIfInBounds_toArray, List.set_cons_zero, List.set_cons_succ, List.getElem_toArray, List.getElem_cons_succ, List.getElem_cons_zero]
    refine wpAnyH_take (i := 2) (v := ?_) rfl (by kernel_rfl) (by kernel_rfl) (by kernel_rfl) (fun _ _ _ h => h) (Or.inl ⟨by rfl, ?_⟩) (by assumption) ?_
    rotate_left
    · (intro w hSw; (try dsimp only at hSw); go_simp; try with_reducible rfl)
    try simp only [Act.put, List.setIfInBounds_toArray, List.set_cons_zero, List.set_cons_succ, List.getElem_toArray, List.getElem_cons_succ, List.getElem_cons_zero]
    refine wpAnyH_ready (rs := [1, 5]) (by kernel_rfl) (by simp) ?_
    refine AllReadyH.cons rfl (fun K hK => ?_) (AllReadyH.cons rfl (fun K hK => ?_) AllReadyH.nil)
    rotate_left
    try simp only [Act.put, List.setIfInBounds_toArray, List.set_cons_zero, List.set_cons_succ, List.getElem_toArray, List.getElem_cons_succ, List.getElem_cons_zero]
    go_simp
    refine hK.out _ _ ⟨(show Ext WA _ from (by repeat (first | exact Ext.refl _ | assumption | apply Ext.drewN | apply Ext.drew | apply Ext.alloc))).cell c10, (show Ext WA _ from (by repeat (first | exact Ext.refl _ | assumption | apply Ext.drewN | apply Ext.drew | apply Ext.alloc))).cell c11, (show Ext WA _ from (by repeat (first | exact Ext.refl _ | assumption | apply Ext.drewN | apply Ext.drew | apply Ext.alloc))).cell c12, (show Ext WA _ from (by repeat (first | exact Ext.refl _ | assumption | apply Ext.drewN | apply Ext.drew | apply Ext.alloc))).cell c20, (show Ext WA _ from (by repeat (first | exact Ext.refl _ | assumption | apply Ext.drewN | apply Ext.drew | apply Ext.alloc))).cell c21, (show Ext WA _ from (by repeat (first | exact Ext.refl _ | assumption | apply Ext.drewN | apply Ext.drew | apply Ext.alloc))).cell c22, (show Ext WA _ from (by repeat (first | exact Ext.refl _ | assumption | apply Ext.drewN | apply Ext.drew | apply Ext.alloc))).cell rA0, (show Ext WA _ from (by repeat (first | exact Ext.refl _ | assumption | apply Ext.drewN | apply Ext.drew | apply Ext.alloc))).cell rA1, (show Ext WA _ from (by repeat (first | exact Ext.refl _ | assumption | apply Ext.drewN | apply Ext.drew | apply Ext.alloc))).cell rA2⟩ (fun hHeld => ?_)
    clear hK K
    try simp only [Act.put, List.setIfInBounds_toArray, List.set_cons_zero, List.set_cons_succ, List.getElem_toArray, List.getElem_cons_succ, List.getElem_cons_zero]
    have qa0 : (WA.drew.alloc (.cells #[.int .i64 0, .int .i64 0, .int .i64 0] 58)).cell? ⟨WA.heap.size, 0, none⟩ = some (.int .i64 0) := (by first | (simp; done) | ((repeat rw [World.cell?_alloc_lt _ _ _ (by simp <;> omega)]); simp; done) | (go_simp; done))
    have qf0 : (WA.drew.alloc (.cells #[.int .i64 0, .int .i64 0, .int .i64 0] 58)).frozen? ⟨WA.heap.size, 0, none⟩ = false := by first | (simp; done) | (go_simp; done)
    have qa1 : (WA.drew.alloc (.cells #[.int .i64 0, .int .i64 0, .int .i64 0] 58)).cell? ⟨WA.heap.size, 1, none⟩ = some (.int .i64 0) := (by first | (simp; done) | ((repeat rw [World.cell?_alloc_lt _ _ _ (by simp <;> omega)]); simp; done) | (go_simp; done))
    have qf1 : (WA.drew.alloc (.cells #[.int .i64 0, .int .i64 0, .int .i64 0] 58)).frozen? ⟨WA.heap.size, 1, none⟩ = false := by first | (simp; done) | (go_simp; done)
    have qa2 : (WA.drew.alloc (.cells #[.int .i64 0, .int .i64 0, .int .i64 0] 58)).cell? ⟨WA.heap.size, 2, none⟩ = some (.int .i64 0) := (by first | (simp; done) | ((repeat rw [World.cell?_alloc_lt _ _ _ (by simp <;> omega)]); simp; done) | (go_simp; done))
    have qf2 : (WA.drew.alloc (.cells #[.int .i64 0, .int .i64 0, .int .i64 0] 58)).frozen? ⟨WA.heap.size, 2, none⟩ = false := by first | (simp; done) | (go_simp; done)
    have zg : WA.heap.size < (WA.drew.alloc (.cells #[.int .i64 0, .int .i64 0, .int .i64 0] 58)).heap.size := World.block_lt_of_cell? _ _ qa0
    have hg : WA.heap.size ≤ WA.heap.size := by simp
    refine wpAnyH_ready (rs := [1]) (by kernel_rfl) (by simp) ?_
    refine AllReadyH.cons rfl (fun K hK => ?_) AllReadyH.nil
    try simp only [Act.put, List.setIfInBounds_toArray, List.set_cons_zero, List.set_cons_succ, List.getElem_toArray, List.getElem_cons_succ, List.getElem_cons_zero]
    go_simp
    go_at_call 52
    refine (toRange_c a1 e1 d1 _).mono ?_
    rintro e w4 ⟨rfl, xw4⟩
    have Yw4 : Ext WA w4 := Ext.trans (by repeat (first | exact Ext.refl _ | assumption | apply Ext.drewN | apply Ext.drew | apply Ext.alloc)) xw4
    replace qa0 := xw4.cell qa0
    replace qf0 := xw4.frz zg qf0
    replace qa1 := xw4.cell qa1
    replace qf1 := xw4.frz zg qf1
    replace qa2 := xw4.cell qa2
    replace qf2 := xw4.frz zg qf2
    replace zg := Nat.lt_of_lt_of_le zg xw4.size
    refine hK.out _ _ ⟨Yw4.cell c10, Yw4.cell c11, Yw4.cell c12, Yw4.cell c20, Yw4.cell c21, Yw4.cell c22, Yw4.cell rA0, Yw4.cell rA1, Yw4.cell rA2⟩ (fun hHeld => ?_)
    clear hK K
    try simp only [Act.put, List.setIfInBounds_toArray, List.set_cons_zero, List.set_cons_succ, List.getElem_toArray, List.getElem_cons_succ, List.getElem_cons_zero]
    refine wpAnyH_ready (rs := [3]) (by kernel_rfl) (by simp) ?_
    refine AllReadyH.cons rfl (fun K hK => ?_) AllReadyH.nil
    try simp only [Act.put, List.setIfInBounds_toArray, List.set_cons_zero, List.set_cons_succ, List.getElem_toArray, List.getElem_cons_succ, List.getElem_cons_zero]
    go_simp
    go_at_call 52
    refine (toRange_c a2 e2 d2 _).mono ?_
    rintro e w5 ⟨rfl, xw5⟩
    have Yw5 : Ext WA w5 := Yw4.trans (Ext.trans (by repeat (first | exact Ext.refl _ | assumption | apply Ext.drewN | apply Ext.drew | apply Ext.alloc)) xw5)
    replace qa0 := xw5.cell qa0
    replace qf0 := xw5.frz zg qf0
    replace qa1 := xw5.cell qa1
    replace qf1 := xw5.frz zg qf1
    replace qa2 := xw5.cell qa2
    replace qf2 := xw5.frz zg qf2
    replace zg := Nat.lt_of_lt_of_le zg xw5.size
    refine hK.out _ _ ⟨Yw5.cell c10, Yw5.cell c11, Yw5.cell c12, Yw5.cell c20, Yw5.cell c21, Yw5.cell c22, Yw5.cell rA0, Yw5.cell rA1, Yw5.cell rA2⟩ (fun hHeld => ?_)
    clear hK K
    try simp only [Act.put, List.setIfInBounds_toArray, List.set_cons_zero, List.set_cons_succ, List.getElem_toArray, List.getElem_cons_succ, List.getElem_cons_zero]
    refine wpAnyH_ready (rs := [4]) (by kernel_rfl) (by simp) ?_
    refine AllReadyH.cons rfl (fun K hK => ?_) AllReadyH.nil
    try simp only [Act.put, List.setIfInBounds_toArray, List.set_cons_zero, List.set_cons_succ, List.getElem_toArray, List.getElem_cons_succ, List.getElem_cons_zero]
    go_simp
    go_at_call 53
    refine (implMeetRanges_c a1 e1 d1 a2 e2 d2 _).mono ?_
    rintro e w6 ⟨rfl, xw6⟩
    have Yw6 : Ext WA w6 := Yw5.trans (Ext.trans (by repeat (first | exact Ext.refl _ | assumption | apply Ext.drewN | apply Ext.drew | apply Ext.alloc)) xw6)
    replace qa0 := xw6.cell qa0
    replace qf0 := xw6.frz zg qf0
    replace qa1 := xw6.cell qa1
    replace qf1 := xw6.frz zg qf1
    replace qa2 := xw6.cell qa2
    replace qf2 := xw6.frz zg qf2
    replace zg := Nat.lt_of_lt_of_le zg xw6.size
    refine hK.out _ _ ⟨Yw6.cell c10, Yw6.cell c11, Yw6.cell c12, Yw6.cell c20, Yw6.cell c21, Yw6.cell c22, Yw6.cell rA0, Yw6.cell rA1, Yw6.cell rA2⟩ (fun hHeld => ?_)
    clear hK K
    try simp only [Act.put, List.setIfInBounds_toArray, List.set_cons_zero, List.set_cons_succ, List.getElem_toArray, List.getElem_cons_succ, List.getElem_cons_zero]
    refine wpAnyH_ready (rs := [6]) (by kernel_rfl) (by simp) ?_
    refine AllReadyH.cons rfl (fun K hK => ?_) AllReadyH.nil
    try simp only [Act.put, List.setIfInBounds_toArray, List.set_cons_zero, List.set_cons_succ, List.getElem_toArray, List.getElem_cons_succ, List.getElem_cons_zero]
    go_simp
    have XEB : Ext WA (((w6.setCell ⟨WA.heap.size, 0, none⟩ (.int .i64 (meetT a1 e1 d1 a2 e2 d2).1)).setCell ⟨WA.heap.size, 1, none⟩ (.int .i64 (meetT a1 e1 d1 a2 e2 d2).2.1)).setCell ⟨WA.heap.size, 2, none⟩ (.int .i64 (meetT a1 e1 d1 a2 e2 d2).2.2)) := (Ext.setCell (Ext.setCell (Ext.setCell Yw6 hg _) hg _) hg _)
    have rB0 : (((w6.setCell ⟨WA.heap.size, 0, none⟩ (.int .i64 (meetT a1 e1 d1 a2 e2 d2).1)).setCell ⟨WA.heap.size, 1, none⟩ (.int .i64 (meetT a1 e1 d1 a2 e2 d2).2.1)).setCell ⟨WA.heap.size, 2, none⟩ (.int .i64 (meetT a1 e1 d1 a2 e2 d2).2.2)).cell? ⟨WA.heap.size, 0, none⟩ = some (.int .i64 (meetT a1 e1 d1 a2 e2 d2).1) := by go_simp
    have rB1 : (((w6.setCell ⟨WA.heap.size, 0, none⟩ (.int .i64 (meetT a1 e1 d1 a2 e2 d2).1)).setCell ⟨WA.heap.size, 1, none⟩ (.int .i64 (meetT a1 e1 d1 a2 e2 d2).2.1)).setCell ⟨WA.heap.size, 2, none⟩ (.int .i64 (meetT a1 e1 d1 a2 e2 d2).2.2)).cell? ⟨WA.heap.size, 1, none⟩ = some (.int .i64 (meetT a1 e1 d1 a2 e2 d2).2.1) := by go_simp
    have rB2 : (((w6.setCell ⟨WA.heap.size, 0, none⟩ (.int .i64 (meetT a1 e1 d1 a2 e2 d2).1)).setCell ⟨WA.heap.size, 1, none⟩ (.int .i64 (meetT a1 e1 d1 a2 e2 d2).2.1)).setCell ⟨WA.heap.size, 2, none⟩ (.int .i64 (meetT a1 e1 d1 a2 e2 d2).2.2)).cell? ⟨WA.heap.size, 2, none⟩ = some (.int .i64 (meetT a1 e1 d1 a2 e2 d2).2.2) := by go_simp
    refine hK.out _ _ ⟨XEB.cell c10, XEB.cell c11, XEB.cell c12, XEB.cell c20, XEB.cell c21, XEB.cell c22, XEB.cell rA0, XEB.cell rA1, XEB.cell rA2⟩ (fun hHeld => ?_)
    clear hK K
    try simp only [Act.put, List.setIfInBounds_toArray, List.set_cons_zero, List.set_cons_succ, List.getElem_toArray, List.getElem_cons_succ, List.getElem_cons_zero]
    clear zg hg qa0 qf0 qa1 qf1 qa2 qf2
    refine wpAnyH_done (by kernel_rfl) ?_ _
    clear hHeld
    generalize (((w6.setCell ⟨WA.heap.size, 0, none⟩ (.int .i64 (meetT a1 e1 d1 a2 e2 d2).1)).setCell ⟨WA.heap.size, 1, none⟩ (.int .i64 (meetT a1 e1 d1 a2 e2 d2).2.1)).setCell ⟨WA.heap.size, 2, none⟩ (.int .i64 (meetT a1 e1 d1 a2 e2 d2).2.2)) = WB at *
    generalize WA.heap.size = gB at *
    rotate_right
    try simp only [Act.put, List.setIfInBounds_toArray, List.set_cons_zero, List.set_cons_succ, List.getElem_toArray, List.getElem_cons_succ, List.getElem_cons_zero]
    go_simp
    go_at_call 52
    refine (toRange_c a1 e1 d1 _).mono ?_
    rintro e w4 ⟨rfl, xw4⟩
    have Yw4 : Ext WA w4 := Ext.trans (by repeat (first | exact Ext.refl _ | assumption | apply Ext.drewN | apply Ext.drew | apply Ext.alloc)) xw4
    refine hK.out _ _ ⟨Yw4.cell c10, Yw4.cell c11, Yw4.cell c12, Yw4.cell c20, Yw4.cell c21, Yw4.cell c22, Yw4.cell rA0, Yw4.cell rA1, Yw4.cell rA2⟩ (fun hHeld => ?_)
    clear hK K
    try simp only [Act.put, List.setIfInBounds_toArray, List.set_cons_zero, List.set_cons_succ, List.getElem_toArray, List.getElem_cons_succ, List.getElem_cons_zero]
    refine wpAnyH_ready (rs := [3, 5]) (by kernel_rfl) (by simp) ?_
    refine AllReadyH.cons rfl (fun K hK => ?_) (AllReadyH.cons rfl (fun K hK => ?_) AllReadyH.nil)
    rotate_left
    try simp only [Act.put, List.setIfInBounds_toArray, List.set_cons_zero, List.set_cons_succ, List.getElem_toArray, List.getElem_cons_succ, List.getElem_cons_zero]
    go_simp
    refine hK.out _ _ ⟨(show Ext WA _ from Yw4.trans (by repeat (first | exact Ext.refl _ | assumption | apply Ext.drewN | apply Ext.drew | apply Ext.alloc))).cell c10, (show Ext WA _ from Yw4.trans (by repeat (first | exact Ext.refl _ | assumption | apply Ext.drewN | apply Ext.drew | apply Ext.alloc))).cell c11, (show Ext WA _ from Yw4.trans (by repeat (first | exact Ext.refl _ | assumption | apply Ext.drewN | apply Ext.drew | apply Ext.alloc))).cell c12, (show Ext WA _ from Yw4.trans (by repeat (first | exact Ext.refl _ | assumption | apply Ext.drewN | apply Ext.drew | apply Ext.alloc))).cell c20, (show Ext WA _ from Yw4.trans (by repeat (first | exact Ext.refl _ | assumption | apply Ext.drewN | apply Ext.drew | apply Ext.alloc))).cell c21, (show Ext WA _ from Yw4.trans (by repeat (first | exact Ext.refl _ | assumption | apply Ext.drewN | apply Ext.drew | apply Ext.alloc))).cell c22, (show Ext WA _ from Yw4.trans (by repeat (first | exact Ext.refl _ | assumption | apply Ext.drewN | apply Ext.drew | apply Ext.alloc))).cell rA0, (show Ext WA _ from Yw4.trans (by repeat (first | exact Ext.refl _ | assumption | apply Ext.drewN | apply Ext.drew | apply Ext.alloc))).cell rA1, (show Ext WA _ from Yw4.trans (by repeat (first | exact Ext.refl _ | assumption | apply Ext.drewN | apply Ext.drew | apply Ext.alloc))).cell rA2⟩ (fun hHeld => ?_)
    clear hK K
    try simp only [Act.put, List.setIfInBounds_toArray, List.set_cons_zero, List.set_cons_succ, List.getElem_toArray, List.getElem_cons_succ, List.getElem_cons_zero]
    have qa0 : (w4.alloc (.cells #[.int .i64 0, .int .i64 0, .int .i64 0] 58)).cell? ⟨w4.heap.size, 0, none⟩ = some (.int .i64 0) := (by first | (simp; done) | ((repeat rw [World.cell?_alloc_lt _ _ _ (by simp <;> omega)]); simp; done) | (go_simp; done))
    have qf0 : (w4.alloc (.cells #[.int .i64 0, .int .i64 0, .int .i64 0] 58)).frozen? ⟨w4.heap.size, 0, none⟩ = false := by first | (simp; done) | (go_simp; done)
    have qa1 : (w4.alloc (.cells #[.int .i64 0, .int .i64 0, .int .i64 0] 58)).cell? ⟨w4.heap.size, 1, none⟩ = some (.int .i64 0) := (by first | (simp; done) | ((repeat rw [World.cell?_alloc_lt _ _ _ (by simp <;> omega)]); simp; done) | (go_simp; done))
    have qf1 : (w4.alloc (.cells #[.int .i64 0, .int .i64 0, .int .i64 0] 58)).frozen? ⟨w4.heap.size, 1, none⟩ = false := by first | (simp; done) | (go_simp; done)
    have qa2 : (w4.alloc (.cells #[.int .i64 0, .int .i64 0, .int .i64 0] 58)).cell? ⟨w4.heap.size, 2, none⟩ = some (.int .i64 0) := (by first | (simp; done) | ((repeat rw [World.cell?_alloc_lt _ _ _ (by simp <;> omega)]); simp; done) | (go_simp; done))
    have qf2 : (w4.alloc (.cells #[.int .i64 0, .int .i64 0, .int .i64 0] 58)).frozen? ⟨w4.heap.size, 2, none⟩ = false := by first | (simp; done) | (go_simp; done)
    have zg : w4.heap.size < (w4.alloc (.cells #[.int .i64 0, .int .i64 0, .int .i64 0] 58)).heap.size := World.block_lt_of_cell? _ _ qa0
    have hg : WA.heap.size ≤ w4.heap.size := Yw4.size
    refine wpAnyH_ready (rs := [3]) (by kernel_rfl) (by simp) ?_
    refine AllReadyH.cons rfl (fun K hK => ?_) AllReadyH.nil
    try simp only [Act.put, List.setIfInBounds_toArray, List.set_cons_zero, List.set_cons_succ, List.getElem_toArray, List.getElem_cons_succ, List.getElem_cons_zero]
    go_simp
    go_at_call 52
    refine (toRange_c a2 e2 d2 _).mono ?_
    rintro e w5 ⟨rfl, xw5⟩
    have Yw5 : Ext WA w5 := Yw4.trans (Ext.trans (by repeat (first | exact Ext.refl _ | assumption | apply Ext.drewN | apply Ext.drew | apply Ext.alloc)) xw5)
    replace qa0 := xw5.cell qa0
    replace qf0 := xw5.frz zg qf0
    replace qa1 := xw5.cell qa1
    replace qf1 := xw5.frz zg qf1
    replace qa2 := xw5.cell qa2
    replace qf2 := xw5.frz zg qf2
    replace zg := Nat.lt_of_lt_of_le zg xw5.size
    refine hK.out _ _ ⟨Yw5.cell c10, Yw5.cell c11, Yw5.cell c12, Yw5.cell c20, Yw5.cell c21, Yw5.cell c22, Yw5.cell rA0, Yw5.cell rA1, Yw5.cell rA2⟩ (fun hHeld => ?_)
    clear hK K
    try simp only [Act.put, List.setIfInBounds_toArray, List.set_cons_zero, List.set_cons_succ, List.getElem_toArray, List.getElem_cons_succ, List.getElem_cons_zero]
    refine wpAnyH_ready (rs := [4]) (by kernel_rfl) (by simp) ?_
    refine AllReadyH.cons rfl (fun K hK => ?_) AllReadyH.nil
    try simp only [Act.put, List.setIfInBounds_toArray, List.set_cons_zero, List.set_cons_succ, List.getElem_toArray, List.getElem_cons_succ, List.getElem_cons_zero]
    go_simp
    go_at_call 53
    refine (implMeetRanges_c a1 e1 d1 a2 e2 d2 _).mono ?_
    rintro e w6 ⟨rfl, xw6⟩
    have Yw6 : Ext WA w6 := Yw5.trans (Ext.trans (by repeat (first | exact Ext.refl _ | assumption | apply Ext.drewN | apply Ext.drew | apply Ext.alloc)) xw6)
    replace qa0 := xw6.cell qa0
    replace qf0 := xw6.frz zg qf0
    replace qa1 := xw6.cell qa1
    replace qf1 := xw6.frz zg qf1
    replace qa2 := xw6.cell qa2
    replace qf2 := xw6.frz zg qf2
    replace zg := Nat.lt_of_lt_of_le zg xw6.size
    refine hK.out _ _ ⟨Yw6.cell c10, Yw6.cell c11, Yw6.cell c12, Yw6.cell c20, Yw6.cell c21, Yw6.cell c22, Yw6.cell rA0, Yw6.cell rA1, Yw6.cell rA2⟩ (fun hHeld => ?_)
    clear hK K
    try simp only [Act.put, List.setIfInBounds_toArray, List.set_cons_zero, List.set_cons_succ, List.getElem_toArray, List.getElem_cons_succ, List.getElem_cons_zero]
    refine wpAnyH_ready (rs := [6]) (by kernel_rfl) (by simp) ?_
    refine AllReadyH.cons rfl (fun K hK => ?_) AllReadyH.nil
    try simp only [Act.put, List.setIfInBounds_toArray, List.set_cons_zero, List.set_cons_succ, List.getElem_toArray, List.getElem_cons_succ, List.getElem_cons_zero]
    go_simp
    have XEB : Ext WA (((w6.setCell ⟨w4.heap.size, 0, none⟩ (.int .i64 (meetT a1 e1 d1 a2 e2 d2).1)).setCell ⟨w4.heap.size, 1, none⟩ (.int .i64 (meetT a1 e1 d1 a2 e2 d2).2.1)).setCell ⟨w4.heap.size, 2, none⟩ (.int .i64 (meetT a1 e1 d1 a2 e2 d2).2.2)) := (Ext.setCell (Ext.setCell (Ext.setCell Yw6 hg _) hg _) hg _)
    have rB0 : (((w6.setCell ⟨w4.heap.size, 0, none⟩ (.int .i64 (meetT a1 e1 d1 a2 e2 d2).1)).setCell ⟨w4.heap.size, 1, none⟩ (.int .i64 (meetT a1 e1 d1 a2 e2 d2).2.1)).setCell ⟨w4.heap.size, 2, none⟩ (.int .i64 (meetT a1 e1 d1 a2 e2 d2).2.2)).cell? ⟨w4.heap.size, 0, none⟩ = some (.int .i64 (meetT a1 e1 d1 a2 e2 d2).1) := by go_simp
    have rB1 : (((w6.setCell ⟨w4.heap.size, 0, none⟩ (.int .i64 (meetT a1 e1 d1 a2 e2 d2).1)).setCell ⟨w4.heap.size, 1, none⟩ (.int .i64 (meetT a1 e1 d1 a2 e2 d2).2.1)).setCell ⟨w4.heap.size, 2, none⟩ (.int .i64 (meetT a1 e1 d1 a2 e2 d2).2.2)).cell? ⟨w4.heap.size, 1, none⟩ = some (.int .i64 (meetT a1 e1 d1 a2 e2 d2).2.1) := by go_simp
    have rB2 : (((w6.setCell ⟨w4.heap.size, 0, none⟩ (.int .i64 (meetT a1 e1 d1 a2 e2 d2).1)).setCell ⟨w4.heap.size, 1, none⟩ (.int .i64 (meetT a1 e1 d1 a2 e2 d2).2.1)).setCell ⟨w4.heap.size, 2, none⟩ (.int .i64 (meetT a1 e1 d1 a2 e2 d2).2.2)).cell? ⟨w4.heap.size, 2, none⟩ = some (.int .i64 (meetT a1 e1 d1 a2 e2 d2).2.2) := by go_simp
    refine hK.out _ _ ⟨XEB.cell c10, XEB.cell c11, XEB.cell c12, XEB.cell c20, XEB.cell c21, XEB.cell c22, XEB.cell rA0, XEB.cell rA1, XEB.cell rA2⟩ (fun hHeld => ?_)
    clear hK K
    try simp only [Act.put, List.setIfInBounds_toArray, List.set_cons_zero, List.set_cons_succ, List.getElem_toArray, List.getElem_cons_succ, List.getElem_cons_zero]
    clear zg hg qa0 qf0 qa1 qf1 qa2 qf2
    refine wpAnyH_done (by kernel_rfl) ?_ _
    clear hHeld
    generalize (((w6.setCell ⟨w4.heap.size, 0, none⟩ (.int .i64 (meetT a1 e1 d1 a2 e2 d2).1)).setCell ⟨w4.heap.size, 1, none⟩ (.int .i64 (meetT a1 e1 d1 a2 e2 d2).2.1)).setCell ⟨w4.heap.size, 2, none⟩ (.int .i64 (meetT a1 e1 d1 a2 e2 d2).2.2)) = WB at *
    generalize w4.heap.size = gB at *
    rotate_right
    try simp only [Act.put, List.setIfInBounds_toArray, List.set_cons_zero, List.set_cons_succ, List.getElem_toArray, List.getElem_cons_succ, List.getElem_cons_zero]
    go_simp
    go_at_call 52
    refine (toRange_c a2 e2 d2 _).mono ?_
    rintro e w5 ⟨rfl, xw5⟩
    have Yw5 : Ext WA w5 := Yw4.trans (Ext.trans (by repeat (first | exact Ext.refl _ | assumption | apply Ext.drewN | apply Ext.drew | apply Ext.alloc)) xw5)
    refine hK.out _ _ ⟨Yw5.cell c10, Yw5.cell c11, Yw5.cell c12, Yw5.cell c20, Yw5.cell c21, Yw5.cell c22, Yw5.cell rA0, Yw5.cell rA1, Yw5.cell rA2⟩ (fun hHeld => ?_)
    clear hK K
    try simp only [Act.put, List.setIfInBounds_toArray, List.set_cons_zero, List.set_cons_succ, List.getElem_toArray, List.getElem_cons_succ, List.getElem_cons_zero]
    refine wpAnyH_ready (rs := [4, 5]) (by kernel_rfl) (by simp) ?_
    refine AllReadyH.cons rfl (fun K hK => ?_) (AllReadyH.cons rfl (fun K hK => ?_) AllReadyH.nil)
    rotate_left
    try simp only [Act.put, List.setIfInBounds_toArray, List.set_cons_zero, List.set_cons_succ, List.getElem_toArray, List.getElem_cons_succ, List.getElem_cons_zero]
    go_simp
    refine hK.out _ _ ⟨(show Ext WA _ from Yw5.trans (by repeat (first | exact Ext.refl _ | assumption | apply Ext.drewN | apply Ext.drew | apply Ext.alloc))).cell c10, (show Ext WA _ from Yw5.trans (by repeat (first | exact Ext.refl _ | assumption | apply Ext.drewN | apply Ext.drew | apply Ext.alloc))).cell c11, (show Ext WA _ from Yw5.trans (by repeat (first | exact Ext.refl _ | assumption | apply Ext.drewN | apply Ext.drew | apply Ext.alloc))).cell c12, (show Ext WA _ from Yw5.trans (by repeat (first | exact Ext.refl _ | assumption | apply Ext.drewN | apply Ext.drew | apply Ext.alloc))).cell c20, (show Ext WA _ from Yw5.trans (by repeat (first | exact Ext.refl _ | assumption | apply Ext.drewN | apply Ext.drew | apply Ext.alloc))).cell c21, (show Ext WA _ from Yw5.trans (by repeat (first | exact Ext.refl _ | assumption | apply Ext.drewN | apply Ext.drew | apply Ext.alloc))).cell c22, (show Ext WA _ from Yw5.trans (by repeat (first | exact Ext.refl _ | assumption | apply Ext.drewN | apply Ext.drew | apply Ext.alloc))).cell rA0, (show Ext WA _ from Yw5.trans (by repeat (first | exact Ext.refl _ | assumption | apply Ext.drewN | apply Ext.drew | apply Ext.alloc))).cell rA1, (show Ext WA _ from Yw5.trans (by repeat (first | exact Ext.refl _ | assumption | apply Ext.drewN | apply Ext.drew | apply Ext.alloc))).cell rA2⟩ (fun hHeld => ?_)
    clear hK K
    try simp only [Act.put, List.setIfInBounds_toArray, List.set_cons_zero, List.set_cons_succ, List.getElem_toArray, List.getElem_cons_succ, List.getElem_cons_zero]
    have qa0 : (w5.alloc (.cells #[.int .i64 0, .int .i64 0, .int .i64 0] 58)).cell? ⟨w5.heap.size, 0, none⟩ = some (.int .i64 0) := (by first | (simp; done) | ((repeat rw [World.cell?_alloc_lt _ _ _ (by simp <;> omega)]); simp; done) | (go_simp; done))
    have qf0 : (w5.alloc (.cells #[.int .i64 0, .int .i64 0, .int .i64 0] 58)).frozen? ⟨w5.heap.size, 0, none⟩ = false := by first | (simp; done) | (go_simp; done)
    have qa1 : (w5.alloc (.cells #[.int .i64 0, .int .i64 0, .int .i64 0] 58)).cell? ⟨w5.heap.size, 1, none⟩ = some (.int .i64 0) := (by first | (simp; done) | ((repeat rw [World.cell?_alloc_lt _ _ _ (by simp <;> omega)]); simp; done) | (go_simp; done))
    have qf1 : (w5.alloc (.cells #[.int .i64 0, .int .i64 0, .int .i64 0] 58)).frozen? ⟨w5.heap.size, 1, none⟩ = false := by first | (simp; done) | (go_simp; done)
    have qa2 : (w5.alloc (.cells #[.int .i64 0, .int .i64 0, .int .i64 0] 58)).cell? ⟨w5.heap.size, 2, none⟩ = some (.int .i64 0) := (by first | (simp; done) | ((repeat rw [World.cell?_alloc_lt _ _ _ (by simp <;> omega)]); simp; done) | (go_simp; done))
    have qf2 : (w5.alloc (.cells #[.int .i64 0, .int .i64 0, .int .i64 0] 58)).frozen? ⟨w5.heap.size, 2, none⟩ = false := by first | (simp; done) | (go_simp; done)
    have zg : w5.heap.size < (w5.alloc (.cells #[.int .i64 0, .int .i64 0, .int .i64 0] 58)).heap.size := World.block_lt_of_cell? _ _ qa0
    have hg : WA.heap.size ≤ w5.heap.size := Yw5.size
    refine wpAnyH_ready (rs := [4]) (by kernel_rfl) (by simp) ?_
    refine AllReadyH.cons rfl (fun K hK => ?_) AllReadyH.nil
    try simp only [Act.put, List.setIfInBounds_toArray, List.set_cons_zero, List.set_cons_succ, List.getElem_toArray, List.getElem_cons_succ, List.getElem_cons_zero]
    go_simp
    go_at_call 53
    refine (implMeetRanges_c a1 e1 d1 a2 e2 d2 _).mono ?_
    rintro e w6 ⟨rfl, xw6⟩
    have Yw6 : Ext WA w6 := Yw5.trans (Ext.trans (by repeat (first | exact Ext.refl _ | assumption | apply Ext.drewN | apply Ext.drew | apply Ext.alloc)) xw6)
    replace qa0 := xw6.cell qa0
    replace qf0 := xw6.frz zg qf0
    replace qa1 := xw6.cell qa1
    replace qf1 := xw6.frz zg qf1
    replace qa2 := xw6.cell qa2
    replace qf2 := xw6.frz zg qf2
    replace zg := Nat.lt_of_lt_of_le zg xw6.size
    refine hK.out _ _ ⟨Yw6.cell c10, Yw6.cell c11, Yw6.cell c12, Yw6.cell c20, Yw6.cell c21, Yw6.cell c22, Yw6.cell rA0, Yw6.cell rA1, Yw6.cell rA2⟩ (fun hHeld => ?_)
    clear hK K
    try simp only [Act.put, List.setIfInBounds_toArray, List.set_cons_zero, List.set_cons_succ, List.getElem_toArray, List.getElem_cons_succ, List.getElem_cons_zero]
    refine wpAnyH_ready (rs := [6]) (by kernel_rfl) (by simp) ?_
    refine AllReadyH.cons rfl (fun K hK => ?_) AllReadyH.nil
    try simp only [Act.put, List.setIfInBounds_toArray, List.set_cons_zero, List.set_cons_succ, List.getElem_toArray, List.getElem_cons_succ, List.getElem_cons_zero]
    go_simp
    have XEB : Ext WA (((w6.setCell ⟨w5.heap.size, 0, none⟩ (.int .i64 (meetT a1 e1 d1 a2 e2 d2).1)).setCell ⟨w5.heap.size, 1, none⟩ (.int .i64 (meetT a1 e1 d1 a2 e2 d2).2.1)).setCell ⟨w5.heap.size, 2, none⟩ (.int .i64 (meetT a1 e1 d1 a2 e2 d2).2.2)) := (Ext.setCell (Ext.setCell (Ext.setCell Yw6 hg _) hg _) hg _)
    have rB0 : (((w6.setCell ⟨w5.heap.size, 0, none⟩ (.int .i64 (meetT a1 e1 d1 a2 e2 d2).1)).setCell ⟨w5.heap.size, 1, none⟩ (.int .i64 (meetT a1 e1 d1 a2 e2 d2).2.1)).setCell ⟨w5.heap.size, 2, none⟩ (.int .i64 (meetT a1 e1 d1 a2 e2 d2).2.2)).cell? ⟨w5.heap.size, 0, none⟩ = some (.int .i64 (meetT a1 e1 d1 a2 e2 d2).1) := by go_simp
    have rB1 : (((w6.setCell ⟨w5.heap.size, 0, none⟩ (.int .i64 (meetT a1 e1 d1 a2 e2 d2).1)).setCell ⟨w5.heap.size, 1, none⟩ (.int .i64 (meetT a1 e1 d1 a2 e2 d2).2.1)).setCell ⟨w5.heap.size, 2, none⟩ (.int .i64 (meetT a1 e1 d1 a2 e2 d2).2.2)).cell? ⟨w5.heap.size, 1, none⟩ = some (.int .i64 (meetT a1 e1 d1 a2 e2 d2).2.1) := by go_simp
    have rB2 : (((w6.setCell ⟨w5.heap.size, 0, none⟩ (.int .i64 (meetT a1 e1 d1 a2 e2 d2).1)).setCell ⟨w5.heap.size, 1, none⟩ (.int .i64 (meetT a1 e1 d1 a2 e2 d2).2.1)).setCell ⟨w5.heap.size, 2, none⟩ (.int .i64 (meetT a1 e1 d1 a2 e2 d2).2.2)).cell? ⟨w5.heap.size, 2, none⟩ = some (.int .i64 (meetT a1 e1 d1 a2 e2 d2).2.2) := by go_simp
    refine hK.out _ _ ⟨XEB.cell c10, XEB.cell c11, XEB.cell c12, XEB.cell c20, XEB.cell c21, XEB.cell c22, XEB.cell rA0, XEB.cell rA1, XEB.cell rA2⟩ (fun hHeld => ?_)
    clear hK K
    try simp only [Act.put, List.setIfInBounds_toArray, List.set_cons_zero, List.set_cons_succ, List.getElem_toArray, List.getElem_cons_succ, List.getElem_cons_zero]
    clear zg hg qa0 qf0 qa1 qf1 qa2 qf2
    refine wpAnyH_done (by kernel_rfl) ?_ _
    clear hHeld
    generalize (((w6.setCell ⟨w5.heap.size, 0, none⟩ (.int .i64 (meetT a1 e1 d1 a2 e2 d2).1)).setCell ⟨w5.heap.size, 1, none⟩ (.int .i64 (meetT a1 e1 d1 a2 e2 d2).2.1)).setCell ⟨w5.heap.size, 2, none⟩ (.int .i64 (meetT a1 e1 d1 a2 e2 d2).2.2)) = WB at *
    generalize w5.heap.size = gB at *
    rotate_right
    try simp only [Act.put, List.setIfInBounds_toArray, List.set_cons_zero, List.set_cons_succ, List.getElem_toArray, List.getElem_cons_succ, List.getElem_cons_zero]
    go_simp
    go_at_call 53
    refine (implMeetRanges_c a1 e1 d1 a2 e2 d2 _).mono ?_
    rintro e w6 ⟨rfl, xw6⟩
    have Yw6 : Ext WA w6 := Yw5.trans (Ext.trans (by repeat (first | exact Ext.refl _ | assumption | apply Ext.drewN | apply Ext.drew | apply Ext.alloc)) xw6)
    refine hK.out _ _ ⟨Yw6.cell c10, Yw6.cell c11, Yw6.cell c12, Yw6.cell c20, Yw6.cell c21, Yw6.cell c22, Yw6.cell rA0, Yw6.cell rA1, Yw6.cell rA2⟩ (fun hHeld => ?_)
    clear hK K
    try simp only [Act.put, List.setIfInBounds_toArray, List.set_cons_zero, List.set_cons_succ, List.getElem_toArray, List.getElem_cons_succ, List.getElem_cons_zero]
    refine wpAnyH_ready (rs := [5]) (by kernel_rfl) (by simp) ?_
    refine AllReadyH.cons rfl (fun K hK => ?_) AllReadyH.nil
    try simp only [Act.put, List.setIfInBounds_toArray, List.set_cons_zero, List.set_cons_succ, List.getElem_toArray, List.getElem_cons_succ, List.getElem_cons_zero]
    go_simp
    refine hK.out _ _ ⟨(show Ext WA _ from Yw6.trans (by repeat (first | exact Ext.refl _ | assumption | apply Ext.drewN | apply Ext.drew | apply Ext.alloc))).cell c10, (show Ext WA _ from Yw6.trans (by repeat (first | exact Ext.refl _ | assumption | apply Ext.drewN | apply Ext.drew | apply Ext.alloc))).cell c11, (show Ext WA _ from Yw6.trans (by repeat (first | exact Ext.refl _ | assumption | apply Ext.drewN | apply Ext.drew | apply Ext.alloc))).cell c12, (show Ext WA _ from Yw6.trans (by repeat (first | exact Ext.refl _ | assumption | apply Ext.drewN | apply Ext.drew | apply Ext.alloc))).cell c20, (show Ext WA _ from Yw6.trans (by repeat (first | exact Ext.refl _ | assumption | apply Ext.drewN | apply Ext.drew | apply Ext.alloc))).cell c21, (show Ext WA _ from Yw6.trans (by repeat (first | exact Ext.refl _ | assumption | apply Ext.drewN | apply Ext.drew | apply Ext.alloc))).cell c22, (show Ext WA _ from Yw6.trans (by repeat (first | exact Ext.refl _ | assumption | apply Ext.drewN | apply Ext.drew | apply Ext.alloc))).cell rA0, (show Ext WA _ from Yw6.trans (by repeat (first | exact Ext.refl _ | assumption | apply Ext.drewN | apply Ext.drew | apply Ext.alloc))).cell rA1, (show Ext WA _ from Yw6.trans (by repeat (first | exact Ext.refl _ | assumption | apply Ext.drewN | apply Ext.drew | apply Ext.alloc))).cell rA2⟩ (fun hHeld => ?_)
    clear hK K
    try simp only [Act.put, List.setIfInBounds_toArray, List.set_cons_zero, List.set_cons_succ, List.getElem_toArray, List.getElem_cons_succ, List.getElem_cons_zero]
    refine wpAnyH_ready (rs := [6]) (by kernel_rfl) (by simp) ?_
    refine AllReadyH.cons rfl (fun K hK => ?_) AllReadyH.nil
    try simp only [Act.put, List.setIfInBounds_toArray, List.set_cons_zero, List.set_cons_succ, List.getElem_toArray, List.getElem_cons_succ, List.getElem_cons_zero]
    go_simp
    have XEB : Ext WA (w6.alloc (.cells #[.int .i64 (meetT a1 e1 d1 a2 e2 d2).1, .int .i64 (meetT a1 e1 d1 a2 e2 d2).2.1, .int .i64 (meetT a1 e1 d1 a2 e2 d2).2.2] 58)) := Yw6.trans (by repeat (first | exact Ext.refl _ | assumption | apply Ext.drewN | apply Ext.drew | apply Ext.alloc))
    have rB0 : (w6.alloc (.cells #[.int .i64 (meetT a1 e1 d1 a2 e2 d2).1, .int .i64 (meetT a1 e1 d1 a2 e2 d2).2.1, .int .i64 (meetT a1 e1 d1 a2 e2 d2).2.2] 58)).cell? ⟨w6.heap.size, 0, none⟩ = some (.int .i64 (meetT a1 e1 d1 a2 e2 d2).1) := (by first | (simp; done) | ((repeat rw [World.cell?_alloc_lt _ _ _ (by simp <;> omega)]); simp; done) | (go_simp; done))
    have rB1 : (w6.alloc (.cells #[.int .i64 (meetT a1 e1 d1 a2 e2 d2).1, .int .i64 (meetT a1 e1 d1 a2 e2 d2).2.1, .int .i64 (meetT a1 e1 d1 a2 e2 d2).2.2] 58)).cell? ⟨w6.heap.size, 1, none⟩ = some (.int .i64 (meetT a1 e1 d1 a2 e2 d2).2.1) := (by first | (simp; done) | ((repeat rw [World.cell?_alloc_lt _ _ _ (by simp <;> omega)]); simp; done) | (go_simp; done))
    have rB2 : (w6.alloc (.cells #[.int .i64 (meetT a1 e1 d1 a2 e2 d2).1, .int .i64 (meetT a1 e1 d1 a2 e2 d2).2.1, .int .i64 (meetT a1 e1 d1 a2 e2 d2).2.2] 58)).cell? ⟨w6.heap.size, 2, none⟩ = some (.int .i64 (meetT a1 e1 d1 a2 e2 d2).2.2) := (by first | (simp; done) | ((repeat rw [World.cell?_alloc_lt _ _ _ (by simp <;> omega)]); simp; done) | (go_simp; done))
    refine hK.out _ _ ⟨XEB.cell c10, XEB.cell c11, XEB.cell c12, XEB.cell c20, XEB.cell c21, XEB.cell c22, XEB.cell rA0, XEB.cell rA1, XEB.cell rA2⟩ (fun hHeld => ?_)
    clear hK K
    try simp only [Act.put, List.setIfInBounds_toArray, List.set_cons_zero, List.set_cons_succ, List.getElem_toArray, List.getElem_cons_succ, List.getElem_cons_zero]
    refine wpAnyH_done (by kernel_rfl) ?_ _
    clear hHeld
    generalize (w6.alloc (.cells #[.int .i64 (meetT a1 e1 d1 a2 e2 d2).1, .int .i64 (meetT a1 e1 d1 a2 e2 d2).2.1, .int .i64 (meetT a1 e1 d1 a2 e2 d2).2.2] 58)) = WB at *
    generalize w6.heap.size = gB at *
    all_goals
      have XB : Ext w WB := XA.trans XEB
      replace c10 := XEB.cell c10
      replace c11 := XEB.cell c11
      replace c12 := XEB.cell c12
      replace c20 := XEB.cell c20
      replace c21 := XEB.cell c21
      replace c22 := XEB.cell c22
      replace rA0 := XEB.cell rA0
      replace rA1 := XEB.cell rA1
      replace rA2 := XEB.cell rA2
      clear XEB
      go_wp2_with fail
      refine (eqRange_c _ _ _ _).mono ?_
      rintro e w7 ⟨rfl, xw7⟩
      go_wp2_with fail
      go_ret
      exact ⟨rfl, XB.trans (Ext.trans (by repeat (first | exact Ext.refl _ | assumption | apply Ext.drewN | apply Ext.drew | apply Ext.alloc)) xw7)⟩

end Go.Proofs.Ytfdpoepidlmbaaa
