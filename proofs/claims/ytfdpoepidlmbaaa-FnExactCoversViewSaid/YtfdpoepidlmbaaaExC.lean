/- Walks: CoversView of the program and of the reference. -/
import Derived.Test.YtfdpoepidlmbaaaViewF
import Derived.Test.YtfdpoepidlmbaaaLwD
namespace Go.Proofs.Ytfdpoepidlmbaaa
open Go.RowKit
set_option linter.unusedVariables false
set_option maxRecDepth 100000

def covB (b1 : Int) (s1 t1 : List Int) (b2 : Int) (s2 t2 : List Int) : Bool := viewB b1 s1 t1 && (viewB b2 s2 t2 && (offsL b2 s2 t2).all fun x => (offsL b1 s1 t1).contains x)

set_option maxHeartbeats 6400000 in
theorem implCoversView_0 (b1 : Int) (u1 v1 : Value) (s1 t1 : List Int) (b2 : Int) (u2 v2 : Value) (s2 t2 : List Int) (w : World) (l1 m1 l2 m2 : Nat) (h1 : Ints w l1 u1 s1) (k1 : Ints w m1 v1 t1) (h2 : Ints w l2 u2 s2) (k2 : Ints w m2 v2 t2) (ha : viewB b1 s1 t1 = false) :
    Calls Try.prog 72 #[.agg #[.int .i64 b1, u1, v1], .agg #[.int .i64 b2, u2, v2]] w (fun e w' => e = .returned (.bool (covB b1 s1 t1 b2 s2 t2)) ∧ Ext w w') := by
  have ha' := Lib.hid ha
  have hr := Lib.hid (show covB b1 s1 t1 b2 s2 t2 = false by unfold covB; rw [ha]; rfl)
  clear ha
  go_enter Try.func72, Try.ntmps72
  go_wp2_with fail
  have Xb : Ext w ((w.alloc (.cells #[.int .i64 b1, u1, v1] 36)).alloc (.cells #[.int .i64 b2, u2, v2] 36)) := (by repeat (first | exact Ext.refl _ | assumption | apply Ext.drewN | apply Ext.drew | apply Ext.alloc))
  have c10 : (((w.alloc (.cells #[.int .i64 b1, u1, v1] 36)).alloc (.cells #[.int .i64 b2, u2, v2] 36))).cell? ⟨w.heap.size, 0, none⟩ = some (.int .i64 b1) := (by first | (simp; done) | (rw [World.cell?_alloc_lt _ _ _ (by simp)]; simp; done) | (go_simp; done))
  have c11 : (((w.alloc (.cells #[.int .i64 b1, u1, v1] 36)).alloc (.cells #[.int .i64 b2, u2, v2] 36))).cell? ⟨w.heap.size, 1, none⟩ = some (u1) := (by first | (simp; done) | (rw [World.cell?_alloc_lt _ _ _ (by simp)]; simp; done) | (go_simp; done))
  have c12 : (((w.alloc (.cells #[.int .i64 b1, u1, v1] 36)).alloc (.cells #[.int .i64 b2, u2, v2] 36))).cell? ⟨w.heap.size, 2, none⟩ = some (v1) := (by first | (simp; done) | (rw [World.cell?_alloc_lt _ _ _ (by simp)]; simp; done) | (go_simp; done))
  have c20 : (((w.alloc (.cells #[.int .i64 b1, u1, v1] 36)).alloc (.cells #[.int .i64 b2, u2, v2] 36))).cell? ⟨w.heap.size + 1, 0, none⟩ = some (.int .i64 b2) := (by first | (simp; done) | (rw [World.cell?_alloc_lt _ _ _ (by simp)]; simp; done) | (go_simp; done))
  have c21 : (((w.alloc (.cells #[.int .i64 b1, u1, v1] 36)).alloc (.cells #[.int .i64 b2, u2, v2] 36))).cell? ⟨w.heap.size + 1, 1, none⟩ = some (u2) := (by first | (simp; done) | (rw [World.cell?_alloc_lt _ _ _ (by simp)]; simp; done) | (go_simp; done))
  have c22 : (((w.alloc (.cells #[.int .i64 b1, u1, v1] 36)).alloc (.cells #[.int .i64 b2, u2, v2] 36))).cell? ⟨w.heap.size + 1, 2, none⟩ = some (v2) := (by first | (simp; done) | (rw [World.cell?_alloc_lt _ _ _ (by simp)]; simp; done) | (go_simp; done))
  refine wp_region_held_drew (S := fun w' => w'.cell? ⟨w.heap.size, 0, none⟩ = some (.int .i64 b1) ∧ w'.cell? ⟨w.heap.size, 1, none⟩ = some (u1) ∧ w'.cell? ⟨w.heap.size, 2, none⟩ = some (v1) ∧ w'.cell? ⟨w.heap.size + 1, 0, none⟩ = some (.int .i64 b2) ∧ w'.cell? ⟨w.heap.size + 1, 1, none⟩ = some (u2) ∧ w'.cell? ⟨w.heap.size + 1, 2, none⟩ = some (v2)) (by kernel_rfl) ⟨c10, c11, c12, c20, c21, c22⟩ (fun hHeld => ?_)
  refine wpAnyH_take (i := 0) (v := ?_) rfl (by kernel_rfl) (by kernel_rfl) (by kernel_rfl) (fun _ _ _ h => h) (Or.inl ⟨by rfl, ?_⟩) (by assumption) ?_
  rotate_left
  · (intro w hSw; (try dsimp only at hSw); go_simp; try with_reducible rfl)
  try simp only [Act.put, List.setIfInBounds_toArray, List.set_cons_zero, List.set_cons_succ, List.getElem_toArray, List.getElem_cons_succ, List.getElem_cons_zero]
  refine wpAnyH_ready (rs := [1]) (by kernel_rfl) (by simp) ?_
  refine AllReadyH.cons rfl (fun K hK => ?_) AllReadyH.nil
  try simp only [Act.put, List.setIfInBounds_toArray, List.set_cons_zero, List.set_cons_succ, List.getElem_toArray, List.getElem_cons_succ, List.getElem_cons_zero]
  go_simp
  go_at_call 105
  refine (isView_c b1 _ _ s1 t1 _ l1 m1 (h1.ext (Xb.trans (by repeat (first | exact Ext.refl _ | assumption | apply Ext.drewN | apply Ext.drew | apply Ext.alloc)))) (k1.ext (Xb.trans (by repeat (first | exact Ext.refl _ | assumption | apply Ext.drewN | apply Ext.drew | apply Ext.alloc))))).mono ?_
  rintro e w1 ⟨rfl, xw1⟩
  have Yw1 : Ext (((w.alloc (.cells #[.int .i64 b1, u1, v1] 36)).alloc (.cells #[.int .i64 b2, u2, v2] 36))) w1 := Ext.trans (by repeat (first | exact Ext.refl _ | assumption | apply Ext.drewN | apply Ext.drew | apply Ext.alloc)) xw1
  rw [ha'.out]
  refine hK.out _ _ ⟨Yw1.cell c10, Yw1.cell c11, Yw1.cell c12, Yw1.cell c20, Yw1.cell c21, Yw1.cell c22⟩ (fun hHeld => ?_)
  clear hK K
  try simp only [Act.put, List.setIfInBounds_toArray, List.set_cons_zero, List.set_cons_succ, List.getElem_toArray, List.getElem_cons_succ, List.getElem_cons_zero]
  refine wpAnyH_take (i := 2) (v := ?_) rfl (by kernel_rfl) (by kernel_rfl) (by kernel_rfl) (fun _ _ _ h => h) (Or.inl ⟨by rfl, ?_⟩) (by assumption) ?_
  rotate_left
  · (intro w hSw; (try dsimp only at hSw); go_simp; try with_reducible rfl)
  try simp only [Act.put, List.setIfInBounds_toArray, List.set_cons_zero, List.set_cons_succ, List.getElem_toArray, List.getElem_cons_succ, List.getElem_cons_zero]
  refine wpAnyH_take (i := 3) (v := undef) rfl (by kernel_rfl) (by kernel_rfl) (by kernel_rfl) (fun _ _ _ h => h) (Or.inr ⟨by rfl, rfl⟩) (by assumption) ?_
  try simp only [Act.put, List.setIfInBounds_toArray, List.set_cons_zero, List.set_cons_succ, List.getElem_toArray, List.getElem_cons_succ, List.getElem_cons_zero]
  refine wpAnyH_take (i := 4) (v := undef) rfl (by kernel_rfl) (by kernel_rfl) (by kernel_rfl) (fun _ _ _ h => h) (Or.inr ⟨by rfl, rfl⟩) (by assumption) ?_
  try simp only [Act.put, List.setIfInBounds_toArray, List.set_cons_zero, List.set_cons_succ, List.getElem_toArray, List.getElem_cons_succ, List.getElem_cons_zero]
  refine wpAnyH_take (i := 5) (v := ?_) rfl (by kernel_rfl) (by kernel_rfl) (by kernel_rfl) (fun _ _ _ h => h) (Or.inl ⟨by rfl, ?_⟩) (by assumption) ?_
  rotate_left
  · (intro w hSw; (try dsimp only at hSw); go_simp; try with_reducible rfl)
  try simp only [Act.put, List.setIfInBounds_toArray, List.set_cons_zero, List.set_cons_succ, List.getElem_toArray, List.getElem_cons_succ, List.getElem_cons_zero]
  refine wpAnyH_take (i := 6) (v := ?_) rfl (by kernel_rfl) (by kernel_rfl) (by kernel_rfl) (fun _ _ _ h => h) (Or.inl ⟨by rfl, ?_⟩) (by assumption) ?_
  rotate_left
  · (intro w hSw; (try dsimp only at hSw); go_simp; try with_reducible rfl)
  try simp only [Act.put, List.setIfInBounds_toArray, List.set_cons_zero, List.set_cons_succ, List.getElem_toArray, List.getElem_cons_succ, List.getElem_cons_zero]
  refine wpAnyH_take (i := 7) (v := undef) rfl (by kernel_rfl) (by kernel_rfl) (by kernel_rfl) (fun _ _ _ h => h) (Or.inr ⟨by rfl, rfl⟩) (by assumption) ?_
  try simp only [Act.put, List.setIfInBounds_toArray, List.set_cons_zero, List.set_cons_succ, List.getElem_toArray, List.getElem_cons_succ, List.getElem_cons_zero]
  refine wpAnyH_take (i := 8) (v := undef) rfl (by kernel_rfl) (by kernel_rfl) (by kernel_rfl) (fun _ _ _ h => h) (Or.inr ⟨by rfl, rfl⟩) (by assumption) ?_
  try simp only [Act.put, List.setIfInBounds_toArray, List.set_cons_zero, List.set_cons_succ, List.getElem_toArray, List.getElem_cons_succ, List.getElem_cons_zero]
  refine wpAnyH_take (i := 9) (v := undef) rfl (by kernel_rfl) (by kernel_rfl) (by kernel_rfl) (fun _ _ _ h => h) (Or.inr ⟨by rfl, rfl⟩) (by assumption) ?_
  try simp only [Act.put, List.setIfInBounds_toArray, List.set_cons_zero, List.set_cons_succ, List.getElem_toArray, List.getElem_cons_succ, List.getElem_cons_zero]
  refine wpAnyH_take (i := 10) (v := undef) rfl (by kernel_rfl) (by kernel_rfl) (by kernel_rfl) (fun _ _ _ h => h) (Or.inr ⟨by rfl, rfl⟩) (by assumption) ?_
  try simp only [Act.put, List.setIfInBounds_toArray, List.set_cons_zero, List.set_cons_succ, List.getElem_toArray, List.getElem_cons_succ, List.getElem_cons_zero]
  refine wpAnyH_take (i := 11) (v := undef) rfl (by kernel_rfl) (by kernel_rfl) (by kernel_rfl) (fun _ _ _ h => h) (Or.inr ⟨by rfl, rfl⟩) (by assumption) ?_
  try simp only [Act.put, List.setIfInBounds_toArray, List.set_cons_zero, List.set_cons_succ, List.getElem_toArray, List.getElem_cons_succ, List.getElem_cons_zero]
  refine wpAnyH_take (i := 12) (v := undef) rfl (by kernel_rfl) (by kernel_rfl) (by kernel_rfl) (fun _ _ _ h => h) (Or.inr ⟨by rfl, rfl⟩) (by assumption) ?_
  try simp only [Act.put, List.setIfInBounds_toArray, List.set_cons_zero, List.set_cons_succ, List.getElem_toArray, List.getElem_cons_succ, List.getElem_cons_zero]
  refine wpAnyH_take (i := 13) (v := undef) rfl (by kernel_rfl) (by kernel_rfl) (by kernel_rfl) (fun _ _ _ h => h) (Or.inr ⟨by rfl, rfl⟩) (by assumption) ?_
  try simp only [Act.put, List.setIfInBounds_toArray, List.set_cons_zero, List.set_cons_succ, List.getElem_toArray, List.getElem_cons_succ, List.getElem_cons_zero]
  refine wpAnyH_take (i := 14) (v := undef) rfl (by kernel_rfl) (by kernel_rfl) (by kernel_rfl) (fun _ _ _ h => h) (Or.inr ⟨by rfl, rfl⟩) (by assumption) ?_
  try simp only [Act.put, List.setIfInBounds_toArray, List.set_cons_zero, List.set_cons_succ, List.getElem_toArray, List.getElem_cons_succ, List.getElem_cons_zero]
  refine wpAnyH_take (i := 15) (v := ?_) rfl (by kernel_rfl) (by kernel_rfl) (by kernel_rfl) (fun _ _ _ h => h) (Or.inl ⟨by rfl, ?_⟩) (by assumption) ?_
  rotate_left
  · (intro w hSw; (try dsimp only at hSw); go_simp; try with_reducible rfl)
  try simp only [Act.put, List.setIfInBounds_toArray, List.set_cons_zero, List.set_cons_succ, List.getElem_toArray, List.getElem_cons_succ, List.getElem_cons_zero]
  refine wpAnyH_take (i := 16) (v := ?_) rfl (by kernel_rfl) (by kernel_rfl) (by kernel_rfl) (fun _ _ _ h => h) (Or.inl ⟨by rfl, ?_⟩) (by assumption) ?_
  rotate_left
  · (intro w hSw; (try dsimp only at hSw); go_simp; try with_reducible rfl)
  try simp only [Act.put, List.setIfInBounds_toArray, List.set_cons_zero, List.set_cons_succ, List.getElem_toArray, List.getElem_cons_succ, List.getElem_cons_zero]
  refine wpAnyH_done (by kernel_rfl) ?_ _
  all_goals
    go_wp2_with fail
    go_ret
    exact ⟨by rw [hr.out]; rfl, Xb.trans (Yw1.trans (by repeat (first | exact Ext.refl _ | assumption | apply Ext.drewN | apply Ext.drew | apply Ext.alloc)))⟩

set_option maxHeartbeats 6400000 in
theorem implCoversView_1 (b1 : Int) (u1 v1 : Value) (s1 t1 : List Int) (b2 : Int) (u2 v2 : Value) (s2 t2 : List Int) (w : World) (l1 m1 l2 m2 : Nat) (h1 : Ints w l1 u1 s1) (k1 : Ints w m1 v1 t1) (h2 : Ints w l2 u2 s2) (k2 : Ints w m2 v2 t2) (ha : viewB b1 s1 t1 = true) (hb : viewB b2 s2 t2 = false) :
    Calls Try.prog 72 #[.agg #[.int .i64 b1, u1, v1], .agg #[.int .i64 b2, u2, v2]] w (fun e w' => e = .returned (.bool (covB b1 s1 t1 b2 s2 t2)) ∧ Ext w w') := by
  have ha' := Lib.hid ha
  have hb' := Lib.hid hb
  have hr := Lib.hid (show covB b1 s1 t1 b2 s2 t2 = false by unfold covB; rw [ha, hb]; rfl)
  clear ha hb
  go_enter Try.func72, Try.ntmps72
  go_wp2_with fail
  have Xb : Ext w ((w.alloc (.cells #[.int .i64 b1, u1, v1] 36)).alloc (.cells #[.int .i64 b2, u2, v2] 36)) := (by repeat (first | exact Ext.refl _ | assumption | apply Ext.drewN | apply Ext.drew | apply Ext.alloc))
  have c10 : (((w.alloc (.cells #[.int .i64 b1, u1, v1] 36)).alloc (.cells #[.int .i64 b2, u2, v2] 36))).cell? ⟨w.heap.size, 0, none⟩ = some (.int .i64 b1) := (by first | (simp; done) | (rw [World.cell?_alloc_lt _ _ _ (by simp)]; simp; done) | (go_simp; done))
  have c11 : (((w.alloc (.cells #[.int .i64 b1, u1, v1] 36)).alloc (.cells #[.int .i64 b2, u2, v2] 36))).cell? ⟨w.heap.size, 1, none⟩ = some (u1) := (by first | (simp; done) | (rw [World.cell?_alloc_lt _ _ _ (by simp)]; simp; done) | (go_simp; done))
  have c12 : (((w.alloc (.cells #[.int .i64 b1, u1, v1] 36)).alloc (.cells #[.int .i64 b2, u2, v2] 36))).cell? ⟨w.heap.size, 2, none⟩ = some (v1) := (by first | (simp; done) | (rw [World.cell?_alloc_lt _ _ _ (by simp)]; simp; done) | (go_simp; done))
  have c20 : (((w.alloc (.cells #[.int .i64 b1, u1, v1] 36)).alloc (.cells #[.int .i64 b2, u2, v2] 36))).cell? ⟨w.heap.size + 1, 0, none⟩ = some (.int .i64 b2) := (by first | (simp; done) | (rw [World.cell?_alloc_lt _ _ _ (by simp)]; simp; done) | (go_simp; done))
  have c21 : (((w.alloc (.cells #[.int .i64 b1, u1, v1] 36)).alloc (.cells #[.int .i64 b2, u2, v2] 36))).cell? ⟨w.heap.size + 1, 1, none⟩ = some (u2) := (by first | (simp; done) | (rw [World.cell?_alloc_lt _ _ _ (by simp)]; simp; done) | (go_simp; done))
  have c22 : (((w.alloc (.cells #[.int .i64 b1, u1, v1] 36)).alloc (.cells #[.int .i64 b2, u2, v2] 36))).cell? ⟨w.heap.size + 1, 2, none⟩ = some (v2) := (by first | (simp; done) | (rw [World.cell?_alloc_lt _ _ _ (by simp)]; simp; done) | (go_simp; done))
  refine wp_region_held_drew (S := fun w' => w'.cell? ⟨w.heap.size, 0, none⟩ = some (.int .i64 b1) ∧ w'.cell? ⟨w.heap.size, 1, none⟩ = some (u1) ∧ w'.cell? ⟨w.heap.size, 2, none⟩ = some (v1) ∧ w'.cell? ⟨w.heap.size + 1, 0, none⟩ = some (.int .i64 b2) ∧ w'.cell? ⟨w.heap.size + 1, 1, none⟩ = some (u2) ∧ w'.cell? ⟨w.heap.size + 1, 2, none⟩ = some (v2)) (by kernel_rfl) ⟨c10, c11, c12, c20, c21, c22⟩ (fun hHeld => ?_)
  refine wpAnyH_take (i := 0) (v := ?_) rfl (by kernel_rfl) (by kernel_rfl) (by kernel_rfl) (fun _ _ _ h => h) (Or.inl ⟨by rfl, ?_⟩) (by assumption) ?_
  rotate_left
  · (intro w hSw; (try dsimp only at hSw); go_simp; try with_reducible rfl)
  try simp only [Act.put, List.setIfInBounds_toArray, List.set_cons_zero, List.set_cons_succ, List.getElem_toArray, List.getElem_cons_succ, List.getElem_cons_zero]
  refine wpAnyH_ready (rs := [1]) (by kernel_rfl) (by simp) ?_
  refine AllReadyH.cons rfl (fun K hK => ?_) AllReadyH.nil
  try simp only [Act.put, List.setIfInBounds_toArray, List.set_cons_zero, List.set_cons_succ, List.getElem_toArray, List.getElem_cons_succ, List.getElem_cons_zero]
  go_simp
  go_at_call 105
  refine (isView_c b1 _ _ s1 t1 _ l1 m1 (h1.ext (Xb.trans (by repeat (first | exact Ext.refl _ | assumption | apply Ext.drewN | apply Ext.drew | apply Ext.alloc)))) (k1.ext (Xb.trans (by repeat (first | exact Ext.refl _ | assumption | apply Ext.drewN | apply Ext.drew | apply Ext.alloc))))).mono ?_
  rintro e w1 ⟨rfl, xw1⟩
  have Yw1 : Ext (((w.alloc (.cells #[.int .i64 b1, u1, v1] 36)).alloc (.cells #[.int .i64 b2, u2, v2] 36))) w1 := Ext.trans (by repeat (first | exact Ext.refl _ | assumption | apply Ext.drewN | apply Ext.drew | apply Ext.alloc)) xw1
  rw [ha'.out]
  refine hK.out _ _ ⟨Yw1.cell c10, Yw1.cell c11, Yw1.cell c12, Yw1.cell c20, Yw1.cell c21, Yw1.cell c22⟩ (fun hHeld => ?_)
  clear hK K
  try simp only [Act.put, List.setIfInBounds_toArray, List.set_cons_zero, List.set_cons_succ, List.getElem_toArray, List.getElem_cons_succ, List.getElem_cons_zero]
  refine wpAnyH_take (i := 2) (v := ?_) rfl (by kernel_rfl) (by kernel_rfl) (by kernel_rfl) (fun _ _ _ h => h) (Or.inl ⟨by rfl, ?_⟩) (by assumption) ?_
  rotate_left
  · (intro w hSw; (try dsimp only at hSw); go_simp; try with_reducible rfl)
  try simp only [Act.put, List.setIfInBounds_toArray, List.set_cons_zero, List.set_cons_succ, List.getElem_toArray, List.getElem_cons_succ, List.getElem_cons_zero]
  refine wpAnyH_take (i := 3) (v := ?_) rfl (by kernel_rfl) (by kernel_rfl) (by kernel_rfl) (fun _ _ _ h => h) (Or.inl ⟨by rfl, ?_⟩) (by assumption) ?_
  rotate_left
  · (intro w hSw; (try dsimp only at hSw); go_simp; try with_reducible rfl)
  try simp only [Act.put, List.setIfInBounds_toArray, List.set_cons_zero, List.set_cons_succ, List.getElem_toArray, List.getElem_cons_succ, List.getElem_cons_zero]
  refine wpAnyH_ready (rs := [4]) (by kernel_rfl) (by simp) ?_
  refine AllReadyH.cons rfl (fun K hK => ?_) AllReadyH.nil
  try simp only [Act.put, List.setIfInBounds_toArray, List.set_cons_zero, List.set_cons_succ, List.getElem_toArray, List.getElem_cons_succ, List.getElem_cons_zero]
  go_simp
  go_at_call 105
  refine (isView_c b2 _ _ s2 t2 _ l2 m2 (h2.ext (Xb.trans (Yw1.trans (by repeat (first | exact Ext.refl _ | assumption | apply Ext.drewN | apply Ext.drew | apply Ext.alloc))))) (k2.ext (Xb.trans (Yw1.trans (by repeat (first | exact Ext.refl _ | assumption | apply Ext.drewN | apply Ext.drew | apply Ext.alloc)))))).mono ?_
  rintro e w2 ⟨rfl, xw2⟩
  have Yw2 : Ext (((w.alloc (.cells #[.int .i64 b1, u1, v1] 36)).alloc (.cells #[.int .i64 b2, u2, v2] 36))) w2 := Yw1.trans (Ext.trans (by repeat (first | exact Ext.refl _ | assumption | apply Ext.drewN | apply Ext.drew | apply Ext.alloc)) xw2)
  rw [hb'.out]
  refine hK.out _ _ ⟨Yw2.cell c10, Yw2.cell c11, Yw2.cell c12, Yw2.cell c20, Yw2.cell c21, Yw2.cell c22⟩ (fun hHeld => ?_)
  clear hK K
  try simp only [Act.put, List.setIfInBounds_toArray, List.set_cons_zero, List.set_cons_succ, List.getElem_toArray, List.getElem_cons_succ, List.getElem_cons_zero]
  refine wpAnyH_take (i := 5) (v := ?_) rfl (by kernel_rfl) (by kernel_rfl) (by kernel_rfl) (fun _ _ _ h => h) (Or.inl ⟨by rfl, ?_⟩) (by assumption) ?_
  rotate_left
  · (intro w hSw; (try dsimp only at hSw); go_simp; try with_reducible rfl)
  try simp only [Act.put, List.setIfInBounds_toArray, List.set_cons_zero, List.set_cons_succ, List.getElem_toArray, List.getElem_cons_succ, List.getElem_cons_zero]
  refine wpAnyH_take (i := 6) (v := ?_) rfl (by kernel_rfl) (by kernel_rfl) (by kernel_rfl) (fun _ _ _ h => h) (Or.inl ⟨by rfl, ?_⟩) (by assumption) ?_
  rotate_left
  · (intro w hSw; (try dsimp only at hSw); go_simp; try with_reducible rfl)
  try simp only [Act.put, List.setIfInBounds_toArray, List.set_cons_zero, List.set_cons_succ, List.getElem_toArray, List.getElem_cons_succ, List.getElem_cons_zero]
  refine wpAnyH_take (i := 7) (v := undef) rfl (by kernel_rfl) (by kernel_rfl) (by kernel_rfl) (fun _ _ _ h => h) (Or.inr ⟨by rfl, rfl⟩) (by assumption) ?_
  try simp only [Act.put, List.setIfInBounds_toArray, List.set_cons_zero, List.set_cons_succ, List.getElem_toArray, List.getElem_cons_succ, List.getElem_cons_zero]
  refine wpAnyH_take (i := 8) (v := undef) rfl (by kernel_rfl) (by kernel_rfl) (by kernel_rfl) (fun _ _ _ h => h) (Or.inr ⟨by rfl, rfl⟩) (by assumption) ?_
  try simp only [Act.put, List.setIfInBounds_toArray, List.set_cons_zero, List.set_cons_succ, List.getElem_toArray, List.getElem_cons_succ, List.getElem_cons_zero]
  refine wpAnyH_take (i := 9) (v := undef) rfl (by kernel_rfl) (by kernel_rfl) (by kernel_rfl) (fun _ _ _ h => h) (Or.inr ⟨by rfl, rfl⟩) (by assumption) ?_
  try simp only [Act.put, List.setIfInBounds_toArray, List.set_cons_zero, List.set_cons_succ, List.getElem_toArray, List.getElem_cons_succ, List.getElem_cons_zero]
  refine wpAnyH_take (i := 10) (v := undef) rfl (by kernel_rfl) (by kernel_rfl) (by kernel_rfl) (fun _ _ _ h => h) (Or.inr ⟨by rfl, rfl⟩) (by assumption) ?_
  try simp only [Act.put, List.setIfInBounds_toArray, List.set_cons_zero, List.set_cons_succ, List.getElem_toArray, List.getElem_cons_succ, List.getElem_cons_zero]
  refine wpAnyH_take (i := 11) (v := undef) rfl (by kernel_rfl) (by kernel_rfl) (by kernel_rfl) (fun _ _ _ h => h) (Or.inr ⟨by rfl, rfl⟩) (by assumption) ?_
  try simp only [Act.put, List.setIfInBounds_toArray, List.set_cons_zero, List.set_cons_succ, List.getElem_toArray, List.getElem_cons_succ, List.getElem_cons_zero]
  refine wpAnyH_take (i := 12) (v := undef) rfl (by kernel_rfl) (by kernel_rfl) (by kernel_rfl) (fun _ _ _ h => h) (Or.inr ⟨by rfl, rfl⟩) (by assumption) ?_
  try simp only [Act.put, List.setIfInBounds_toArray, List.set_cons_zero, List.set_cons_succ, List.getElem_toArray, List.getElem_cons_succ, List.getElem_cons_zero]
  refine wpAnyH_take (i := 13) (v := undef) rfl (by kernel_rfl) (by kernel_rfl) (by kernel_rfl) (fun _ _ _ h => h) (Or.inr ⟨by rfl, rfl⟩) (by assumption) ?_
  try simp only [Act.put, List.setIfInBounds_toArray, List.set_cons_zero, List.set_cons_succ, List.getElem_toArray, List.getElem_cons_succ, List.getElem_cons_zero]
  refine wpAnyH_take (i := 14) (v := undef) rfl (by kernel_rfl) (by kernel_rfl) (by kernel_rfl) (fun _ _ _ h => h) (Or.inr ⟨by rfl, rfl⟩) (by assumption) ?_
  try simp only [Act.put, List.setIfInBounds_toArray, List.set_cons_zero, List.set_cons_succ, List.getElem_toArray, List.getElem_cons_succ, List.getElem_cons_zero]
  refine wpAnyH_take (i := 15) (v := ?_) rfl (by kernel_rfl) (by kernel_rfl) (by kernel_rfl) (fun _ _ _ h => h) (Or.inl ⟨by rfl, ?_⟩) (by assumption) ?_
  rotate_left
  · (intro w hSw; (try dsimp only at hSw); go_simp; try with_reducible rfl)
  try simp only [Act.put, List.setIfInBounds_toArray, List.set_cons_zero, List.set_cons_succ, List.getElem_toArray, List.getElem_cons_succ, List.getElem_cons_zero]
  refine wpAnyH_take (i := 16) (v := ?_) rfl (by kernel_rfl) (by kernel_rfl) (by kernel_rfl) (fun _ _ _ h => h) (Or.inl ⟨by rfl, ?_⟩) (by assumption) ?_
  rotate_left
  · (intro w hSw; (try dsimp only at hSw); go_simp; try with_reducible rfl)
  try simp only [Act.put, List.setIfInBounds_toArray, List.set_cons_zero, List.set_cons_succ, List.getElem_toArray, List.getElem_cons_succ, List.getElem_cons_zero]
  refine wpAnyH_done (by kernel_rfl) ?_ _
  all_goals
    go_wp2_with fail
    go_ret
    exact ⟨by rw [hr.out]; rfl, Xb.trans (Yw2.trans (by repeat (first | exact Ext.refl _ | assumption | apply Ext.drewN | apply Ext.drew | apply Ext.alloc)))⟩

set_option maxHeartbeats 6400000 in
theorem implCoversView_2 (b1 : Int) (u1 v1 : Value) (s1 t1 : List Int) (b2 : Int) (u2 v2 : Value) (s2 t2 : List Int) (w : World) (l1 m1 l2 m2 : Nat) (h1 : Ints w l1 u1 s1) (k1 : Ints w m1 v1 t1) (h2 : Ints w l2 u2 s2) (k2 : Ints w m2 v2 t2) (ha : viewB b1 s1 t1 = true) (hb : viewB b2 s2 t2 = true) :
    Calls Try.prog 72 #[.agg #[.int .i64 b1, u1, v1], .agg #[.int .i64 b2, u2, v2]] w (fun e w' => e = .returned (.bool (covB b1 s1 t1 b2 s2 t2)) ∧ Ext w w') := by
  have ha' := Lib.hid ha
  have hb' := Lib.hid hb
  have hr := Lib.hid (show covB b1 s1 t1 b2 s2 t2 = (((overL (cellsL b1 s1 t1) (cellsL b2 s2 t2)).length : Int) == ((cellsL b2 s2 t2).length : Int)) by unfold covB; rw [ha, hb, ← covers_both, Bool.eq_iff_iff]; simp [Int.ofNat_inj])
  clear ha hb
  go_enter Try.func72, Try.ntmps72
  go_wp2_with fail
  have Xb : Ext w ((w.alloc (.cells #[.int .i64 b1, u1, v1] 36)).alloc (.cells #[.int .i64 b2, u2, v2] 36)) := (by repeat (first | exact Ext.refl _ | assumption | apply Ext.drewN | apply Ext.drew | apply Ext.alloc))
  have c10 : (((w.alloc (.cells #[.int .i64 b1, u1, v1] 36)).alloc (.cells #[.int .i64 b2, u2, v2] 36))).cell? ⟨w.heap.size, 0, none⟩ = some (.int .i64 b1) := (by first | (simp; done) | (rw [World.cell?_alloc_lt _ _ _ (by simp)]; simp; done) | (go_simp; done))
  have c11 : (((w.alloc (.cells #[.int .i64 b1, u1, v1] 36)).alloc (.cells #[.int .i64 b2, u2, v2] 36))).cell? ⟨w.heap.size, 1, none⟩ = some (u1) := (by first | (simp; done) | (rw [World.cell?_alloc_lt _ _ _ (by simp)]; simp; done) | (go_simp; done))
  have c12 : (((w.alloc (.cells #[.int .i64 b1, u1, v1] 36)).alloc (.cells #[.int .i64 b2, u2, v2] 36))).cell? ⟨w.heap.size, 2, none⟩ = some (v1) := (by first | (simp; done) | (rw [World.cell?_alloc_lt _ _ _ (by simp)]; simp; done) | (go_simp; done))
  have c20 : (((w.alloc (.cells #[.int .i64 b1, u1, v1] 36)).alloc (.cells #[.int .i64 b2, u2, v2] 36))).cell? ⟨w.heap.size + 1, 0, none⟩ = some (.int .i64 b2) := (by first | (simp; done) | (rw [World.cell?_alloc_lt _ _ _ (by simp)]; simp; done) | (go_simp; done))
  have c21 : (((w.alloc (.cells #[.int .i64 b1, u1, v1] 36)).alloc (.cells #[.int .i64 b2, u2, v2] 36))).cell? ⟨w.heap.size + 1, 1, none⟩ = some (u2) := (by first | (simp; done) | (rw [World.cell?_alloc_lt _ _ _ (by simp)]; simp; done) | (go_simp; done))
  have c22 : (((w.alloc (.cells #[.int .i64 b1, u1, v1] 36)).alloc (.cells #[.int .i64 b2, u2, v2] 36))).cell? ⟨w.heap.size + 1, 2, none⟩ = some (v2) := (by first | (simp; done) | (rw [World.cell?_alloc_lt _ _ _ (by simp)]; simp; done) | (go_simp; done))
  go_region_held3 (fun w' => w'.cell? ⟨w.heap.size, 0, none⟩ = some (.int .i64 b1) ∧ w'.cell? ⟨w.heap.size, 1, none⟩ = some (u1) ∧ w'.cell? ⟨w.heap.size, 2, none⟩ = some (v1) ∧ w'.cell? ⟨w.heap.size + 1, 0, none⟩ = some (.int .i64 b2) ∧ w'.cell? ⟨w.heap.size + 1, 1, none⟩ = some (u2) ∧ w'.cell? ⟨w.heap.size + 1, 2, none⟩ = some (v2))
       (first
         | go_keep
         | exact ⟨Yw4.cell c10, Yw4.cell c11, Yw4.cell c12, Yw4.cell c20, Yw4.cell c21, Yw4.cell c22⟩
         | exact ⟨Yw3.cell c10, Yw3.cell c11, Yw3.cell c12, Yw3.cell c20, Yw3.cell c21, Yw3.cell c22⟩
         | exact ⟨Yw2.cell c10, Yw2.cell c11, Yw2.cell c12, Yw2.cell c20, Yw2.cell c21, Yw2.cell c22⟩
         | exact ⟨Yw1.cell c10, Yw1.cell c11, Yw1.cell c12, Yw1.cell c20, Yw1.cell c21, Yw1.cell c22⟩)
       (first
         | (go_at_call 164; refine (cellsOf_c b2 _ _ s2 t2 _ l2 m2 (h2.ext (Xb.trans (Yw3.trans (by repeat (first | exact Ext.refl _ | assumption | apply Ext.drewN | apply Ext.drew | apply Ext.alloc))))) (k2.ext (Xb.trans (Yw3.trans (by repeat (first | exact Ext.refl _ | assumption | apply Ext.drewN | apply Ext.drew | apply Ext.alloc))))) hb'.out).mono ?_; rintro e w4 ⟨r4, rfl, i4, _, xw4⟩; have Yw4 : Ext (((w.alloc (.cells #[.int .i64 b1, u1, v1] 36)).alloc (.cells #[.int .i64 b2, u2, v2] 36))) w4 := Yw3.trans (Ext.trans (by repeat (first | exact Ext.refl _ | assumption | apply Ext.drewN | apply Ext.drew | apply Ext.alloc)) xw4); obtain ⟨p4, q4, rfl⟩ := i4.form; clear i4)
         | (go_at_call 137; refine (overlapOf_c b1 _ _ s1 t1 b2 _ _ s2 t2 _ l1 m1 l2 m2 (h1.ext (Xb.trans (Yw2.trans (by repeat (first | exact Ext.refl _ | assumption | apply Ext.drewN | apply Ext.drew | apply Ext.alloc))))) (k1.ext (Xb.trans (Yw2.trans (by repeat (first | exact Ext.refl _ | assumption | apply Ext.drewN | apply Ext.drew | apply Ext.alloc))))) (h2.ext (Xb.trans (Yw2.trans (by repeat (first | exact Ext.refl _ | assumption | apply Ext.drewN | apply Ext.drew | apply Ext.alloc))))) (k2.ext (Xb.trans (Yw2.trans (by repeat (first | exact Ext.refl _ | assumption | apply Ext.drewN | apply Ext.drew | apply Ext.alloc))))) ha'.out hb'.out).mono ?_; rintro e w3 ⟨r3, rfl, i3, _, xw3⟩; have Yw3 : Ext (((w.alloc (.cells #[.int .i64 b1, u1, v1] 36)).alloc (.cells #[.int .i64 b2, u2, v2] 36))) w3 := Yw2.trans (Ext.trans (by repeat (first | exact Ext.refl _ | assumption | apply Ext.drewN | apply Ext.drew | apply Ext.alloc)) xw3); obtain ⟨p3, q3, rfl⟩ := i3.form; clear i3)
         | (go_at_call 105; refine (isView_c b2 _ _ s2 t2 _ l2 m2 (h2.ext (Xb.trans (Yw1.trans (by repeat (first | exact Ext.refl _ | assumption | apply Ext.drewN | apply Ext.drew | apply Ext.alloc))))) (k2.ext (Xb.trans (Yw1.trans (by repeat (first | exact Ext.refl _ | assumption | apply Ext.drewN | apply Ext.drew | apply Ext.alloc)))))).mono ?_; rintro e w2 ⟨rfl, xw2⟩; have Yw2 : Ext (((w.alloc (.cells #[.int .i64 b1, u1, v1] 36)).alloc (.cells #[.int .i64 b2, u2, v2] 36))) w2 := Yw1.trans (Ext.trans (by repeat (first | exact Ext.refl _ | assumption | apply Ext.drewN | apply Ext.drew | apply Ext.alloc)) xw2); rw [hb'.out])
         | (go_at_call 105; refine (isView_c b1 _ _ s1 t1 _ l1 m1 (h1.ext (Xb.trans (by repeat (first | exact Ext.refl _ | assumption | apply Ext.drewN | apply Ext.drew | apply Ext.alloc)))) (k1.ext (Xb.trans (by repeat (first | exact Ext.refl _ | assumption | apply Ext.drewN | apply Ext.drew | apply Ext.alloc))))).mono ?_; rintro e w1 ⟨rfl, xw1⟩; have Yw1 : Ext (((w.alloc (.cells #[.int .i64 b1, u1, v1] 36)).alloc (.cells #[.int .i64 b2, u2, v2] 36))) w1 := Ext.trans (by repeat (first | exact Ext.refl _ | assumption | apply Ext.drewN | apply Ext.drew | apply Ext.alloc)) xw1; rw [ha'.out]))
  have Lw4 : Ext ((w.alloc (.cells #[.int .i64 b1, u1, v1] 36)).alloc (.cells #[.int .i64 b2, u2, v2] 36)) w4 := Yw4
  have Xw4 : Ext w w4 := Xb.trans Lw4
  replace c10 := Lw4.cell c10
  replace c11 := Lw4.cell c11
  replace c12 := Lw4.cell c12
  replace c20 := Lw4.cell c20
  replace c21 := Lw4.cell c21
  replace c22 := Lw4.cell c22
  have z1 : w.heap.size < w4.heap.size := World.block_lt_of_cell? _ _ c10
  have z2 : w.heap.size + 1 < w4.heap.size := World.block_lt_of_cell? _ _ c20
  have sw4 : ((w.alloc (.cells #[.int .i64 b1, u1, v1] 36)).alloc (.cells #[.int .i64 b2, u2, v2] 36)).heap.size ≤ w4.heap.size := Lw4.size
  all_goals
    go_wp2_with fail
    go_ret
    exact ⟨by rw [hr.out]; first | rfl | simp, Xw4.trans (by repeat (first | exact Ext.refl _ | assumption | apply Ext.drewN | apply Ext.drew | apply Ext.alloc))⟩

set_option maxHeartbeats 1600000 in
theorem implCoversView_c (b1 : Int) (u1 v1 : Value) (s1 t1 : List Int) (b2 : Int) (u2 v2 : Value) (s2 t2 : List Int) (w : World) (l1 m1 l2 m2 : Nat) (h1 : Ints w l1 u1 s1) (k1 : Ints w m1 v1 t1) (h2 : Ints w l2 u2 s2) (k2 : Ints w m2 v2 t2) :
    Calls Try.prog 72 #[.agg #[.int .i64 b1, u1, v1], .agg #[.int .i64 b2, u2, v2]] w (fun e w' => e = .returned (.bool (covB b1 s1 t1 b2 s2 t2)) ∧ Ext w w') := by
  cases ha : viewB b1 s1 t1
  · exact implCoversView_0 b1 u1 v1 s1 t1 b2 u2 v2 s2 t2 w l1 m1 l2 m2 h1 k1 h2 k2 ha
  · cases hb : viewB b2 s2 t2
    · exact implCoversView_1 b1 u1 v1 s1 t1 b2 u2 v2 s2 t2 w l1 m1 l2 m2 h1 k1 h2 k2 ha hb
    · exact implCoversView_2 b1 u1 v1 s1 t1 b2 u2 v2 s2 t2 w l1 m1 l2 m2 h1 k1 h2 k2 ha hb

theorem covB_take (a b : List Int) (k : Nat) (hk : k < b.length) (h : (b.take k).all (fun x => a.contains x) = true) (h2 : a.contains b[k] = true) : (b.take (k+1)).all (fun x => a.contains x) = true := by
  rw [List.take_succ_eq_append_getElem hk, List.all_append, h]; simpa using h2
theorem covB_no (a b : List Int) (k : Nat) (hk : k < b.length) (h2 : a.contains b[k] = false) : b.all (fun x => a.contains x) = false := by
  rw [Bool.eq_false_iff]; intro h; rw [List.all_eq_true] at h
  have := h _ (List.getElem_mem hk); rw [h2] at this; cases this

set_option maxHeartbeats 3200000 in
theorem specCoversView_c (b1 : Int) (u1 v1 : Value) (s1 t1 : List Int) (b2 : Int) (u2 v2 : Value) (s2 t2 : List Int) (w : World) (l1 m1 l2 m2 : Nat) (h1 : Ints w l1 u1 s1) (k1 : Ints w m1 v1 t1) (h2 : Ints w l2 u2 s2) (k2 : Ints w m2 v2 t2) :
    Calls Try.prog 71 #[.agg #[.int .i64 b1, u1, v1], .agg #[.int .i64 b2, u2, v2]] w (fun e w' => e = .returned (.bool (covB b1 s1 t1 b2 s2 t2)) ∧ Ext w w') := by
  cases ha : viewB b1 s1 t1
  · have hr := Lib.hid (show covB b1 s1 t1 b2 s2 t2 = false by unfold covB; rw [ha]; rfl)
    go_enter Try.func71, Try.ntmps71
    go_wp2_with fail
    refine (validView_c b1 _ _ s1 t1 _ l1 m1 (h1.ext (by repeat (first | exact Ext.refl _ | assumption | apply Ext.drewN | apply Ext.drew | apply Ext.alloc))) (k1.ext (by repeat (first | exact Ext.refl _ | assumption | apply Ext.drewN | apply Ext.drew | apply Ext.alloc)))).mono ?_
    rintro e w1 ⟨rfl, xw1⟩
    have Lw1 : Ext w w1 := Ext.trans (by repeat (first | exact Ext.refl _ | assumption | apply Ext.drewN | apply Ext.drew | apply Ext.alloc)) xw1
    have Xw1 : Ext w w1 := Lw1
    have c10 : w1.cell? ⟨w.heap.size, 0, none⟩ = some (.int .i64 b1) := xw1.cell (by first | (simp; done) | (rw [World.cell?_alloc_lt _ _ _ (by simp)]; simp; done) | (go_simp; done))
    have c11 : w1.cell? ⟨w.heap.size, 1, none⟩ = some (u1) := xw1.cell (by first | (simp; done) | (rw [World.cell?_alloc_lt _ _ _ (by simp)]; simp; done) | (go_simp; done))
    have c12 : w1.cell? ⟨w.heap.size, 2, none⟩ = some (v1) := xw1.cell (by first | (simp; done) | (rw [World.cell?_alloc_lt _ _ _ (by simp)]; simp; done) | (go_simp; done))
    have c20 : w1.cell? ⟨w.heap.size + 1, 0, none⟩ = some (.int .i64 b2) := xw1.cell (by first | (simp; done) | (rw [World.cell?_alloc_lt _ _ _ (by simp)]; simp; done) | (go_simp; done))
    have c21 : w1.cell? ⟨w.heap.size + 1, 1, none⟩ = some (u2) := xw1.cell (by first | (simp; done) | (rw [World.cell?_alloc_lt _ _ _ (by simp)]; simp; done) | (go_simp; done))
    have c22 : w1.cell? ⟨w.heap.size + 1, 2, none⟩ = some (v2) := xw1.cell (by first | (simp; done) | (rw [World.cell?_alloc_lt _ _ _ (by simp)]; simp; done) | (go_simp; done))
    have z1 : w.heap.size < w1.heap.size := World.block_lt_of_cell? _ _ c10
    have z2 : w.heap.size + 1 < w1.heap.size := World.block_lt_of_cell? _ _ c20
    have sw1 : w.heap.size ≤ w1.heap.size := Lw1.size
    rw [ha]
    go_wp2_with fail
    go_ret
    exact ⟨by rw [hr.out]; rfl, Xw1⟩
  · cases hb : viewB b2 s2 t2
    · have hr := Lib.hid (show covB b1 s1 t1 b2 s2 t2 = false by unfold covB; rw [ha, hb]; rfl)
      have ha' := Lib.hid ha
      have hb' := Lib.hid hb
      clear ha hb
      go_enter Try.func71, Try.ntmps71
      go_wp2_with fail
      refine (validView_c b1 _ _ s1 t1 _ l1 m1 (h1.ext (by repeat (first | exact Ext.refl _ | assumption | apply Ext.drewN | apply Ext.drew | apply Ext.alloc))) (k1.ext (by repeat (first | exact Ext.refl _ | assumption | apply Ext.drewN | apply Ext.drew | apply Ext.alloc)))).mono ?_
      rintro e w1 ⟨rfl, xw1⟩
      have Lw1 : Ext w w1 := Ext.trans (by repeat (first | exact Ext.refl _ | assumption | apply Ext.drewN | apply Ext.drew | apply Ext.alloc)) xw1
      have Xw1 : Ext w w1 := Lw1
      have c10 : w1.cell? ⟨w.heap.size, 0, none⟩ = some (.int .i64 b1) := xw1.cell (by first | (simp; done) | (rw [World.cell?_alloc_lt _ _ _ (by simp)]; simp; done) | (go_simp; done))
      have c11 : w1.cell? ⟨w.heap.size, 1, none⟩ = some (u1) := xw1.cell (by first | (simp; done) | (rw [World.cell?_alloc_lt _ _ _ (by simp)]; simp; done) | (go_simp; done))
      have c12 : w1.cell? ⟨w.heap.size, 2, none⟩ = some (v1) := xw1.cell (by first | (simp; done) | (rw [World.cell?_alloc_lt _ _ _ (by simp)]; simp; done) | (go_simp; done))
      have c20 : w1.cell? ⟨w.heap.size + 1, 0, none⟩ = some (.int .i64 b2) := xw1.cell (by first | (simp; done) | (rw [World.cell?_alloc_lt _ _ _ (by simp)]; simp; done) | (go_simp; done))
      have c21 : w1.cell? ⟨w.heap.size + 1, 1, none⟩ = some (u2) := xw1.cell (by first | (simp; done) | (rw [World.cell?_alloc_lt _ _ _ (by simp)]; simp; done) | (go_simp; done))
      have c22 : w1.cell? ⟨w.heap.size + 1, 2, none⟩ = some (v2) := xw1.cell (by first | (simp; done) | (rw [World.cell?_alloc_lt _ _ _ (by simp)]; simp; done) | (go_simp; done))
      have z1 : w.heap.size < w1.heap.size := World.block_lt_of_cell? _ _ c10
      have z2 : w.heap.size + 1 < w1.heap.size := World.block_lt_of_cell? _ _ c20
      have sw1 : w.heap.size ≤ w1.heap.size := Lw1.size
      rw [ha'.out]
      go_wp2_with fail
      refine (validView_c b2 _ _ s2 t2 _ l2 m2 (h2.ext (Xw1.trans (by repeat (first | exact Ext.refl _ | assumption | apply Ext.drewN | apply Ext.drew | apply Ext.alloc)))) (k2.ext (Xw1.trans (by repeat (first | exact Ext.refl _ | assumption | apply Ext.drewN | apply Ext.drew | apply Ext.alloc))))).mono ?_
      rintro e w2 ⟨rfl, xw2⟩
      have Lw2 : Ext w1 w2 := Ext.trans (by repeat (first | exact Ext.refl _ | assumption | apply Ext.drewN | apply Ext.drew | apply Ext.alloc)) xw2
      have Xw2 : Ext w w2 := Xw1.trans Lw2
      replace c10 := Lw2.cell c10
      replace c11 := Lw2.cell c11
      replace c12 := Lw2.cell c12
      replace c20 := Lw2.cell c20
      replace c21 := Lw2.cell c21
      replace c22 := Lw2.cell c22
      have z3 : w.heap.size < w2.heap.size := World.block_lt_of_cell? _ _ c10
      have z4 : w.heap.size + 1 < w2.heap.size := World.block_lt_of_cell? _ _ c20
      have sw2 : w1.heap.size ≤ w2.heap.size := Lw2.size
      rw [hb'.out]
      go_wp2_with fail
      go_ret
      exact ⟨by rw [hr.out]; rfl, Xw2⟩
    · have hr := Lib.hid (show covB b1 s1 t1 b2 s2 t2 = (offsL b2 s2 t2).all fun x => (offsL b1 s1 t1).contains x by unfold covB; rw [ha, hb]; rfl)
      have ha' := Lib.hid ha
      have hb' := Lib.hid hb
      obtain ⟨j1, j2, _⟩ := viewB_in ha
      have hin1 := Lib.hid (shapeB_in j1)
      have hg1 := Lib.hid j2
      clear j1 j2
      obtain ⟨j1, j2, _⟩ := viewB_in hb
      have hin2 := Lib.hid (shapeB_in j1)
      have hg2 := Lib.hid j2
      clear j1 j2
      clear ha hb
      go_enter Try.func71, Try.ntmps71
      go_wp2_with fail
      refine (validView_c b1 _ _ s1 t1 _ l1 m1 (h1.ext (by repeat (first | exact Ext.refl _ | assumption | apply Ext.drewN | apply Ext.drew | apply Ext.alloc))) (k1.ext (by repeat (first | exact Ext.refl _ | assumption | apply Ext.drewN | apply Ext.drew | apply Ext.alloc)))).mono ?_
      rintro e w1 ⟨rfl, xw1⟩
      have Lw1 : Ext w w1 := Ext.trans (by repeat (first | exact Ext.refl _ | assumption | apply Ext.drewN | apply Ext.drew | apply Ext.alloc)) xw1
      have Xw1 : Ext w w1 := Lw1
      have c10 : w1.cell? ⟨w.heap.size, 0, none⟩ = some (.int .i64 b1) := xw1.cell (by first | (simp; done) | (rw [World.cell?_alloc_lt _ _ _ (by simp)]; simp; done) | (go_simp; done))
      have c11 : w1.cell? ⟨w.heap.size, 1, none⟩ = some (u1) := xw1.cell (by first | (simp; done) | (rw [World.cell?_alloc_lt _ _ _ (by simp)]; simp; done) | (go_simp; done))
      have c12 : w1.cell? ⟨w.heap.size, 2, none⟩ = some (v1) := xw1.cell (by first | (simp; done) | (rw [World.cell?_alloc_lt _ _ _ (by simp)]; simp; done) | (go_simp; done))
      have c20 : w1.cell? ⟨w.heap.size + 1, 0, none⟩ = some (.int .i64 b2) := xw1.cell (by first | (simp; done) | (rw [World.cell?_alloc_lt _ _ _ (by simp)]; simp; done) | (go_simp; done))
      have c21 : w1.cell? ⟨w.heap.size + 1, 1, none⟩ = some (u2) := xw1.cell (by first | (simp; done) | (rw [World.cell?_alloc_lt _ _ _ (by simp)]; simp; done) | (go_simp; done))
      have c22 : w1.cell? ⟨w.heap.size + 1, 2, none⟩ = some (v2) := xw1.cell (by first | (simp; done) | (rw [World.cell?_alloc_lt _ _ _ (by simp)]; simp; done) | (go_simp; done))
      have z1 : w.heap.size < w1.heap.size := World.block_lt_of_cell? _ _ c10
      have z2 : w.heap.size + 1 < w1.heap.size := World.block_lt_of_cell? _ _ c20
      have sw1 : w.heap.size ≤ w1.heap.size := Lw1.size
      rw [ha'.out]
      go_wp2_with fail
      refine (validView_c b2 _ _ s2 t2 _ l2 m2 (h2.ext (Xw1.trans (by repeat (first | exact Ext.refl _ | assumption | apply Ext.drewN | apply Ext.drew | apply Ext.alloc)))) (k2.ext (Xw1.trans (by repeat (first | exact Ext.refl _ | assumption | apply Ext.drewN | apply Ext.drew | apply Ext.alloc))))).mono ?_
      rintro e w2 ⟨rfl, xw2⟩
      have Lw2 : Ext w1 w2 := Ext.trans (by repeat (first | exact Ext.refl _ | assumption | apply Ext.drewN | apply Ext.drew | apply Ext.alloc)) xw2
      have Xw2 : Ext w w2 := Xw1.trans Lw2
      replace c10 := Lw2.cell c10
      replace c11 := Lw2.cell c11
      replace c12 := Lw2.cell c12
      replace c20 := Lw2.cell c20
      replace c21 := Lw2.cell c21
      replace c22 := Lw2.cell c22
      have z3 : w.heap.size < w2.heap.size := World.block_lt_of_cell? _ _ c10
      have z4 : w.heap.size + 1 < w2.heap.size := World.block_lt_of_cell? _ _ c20
      have sw2 : w1.heap.size ≤ w2.heap.size := Lw2.size
      rw [hb'.out]
      go_wp2_with fail
      refine (offsets_c b2 _ _ s2 t2 _ l2 m2 (h2.ext (Xw2.trans (by repeat (first | exact Ext.refl _ | assumption | apply Ext.drewN | apply Ext.drew | apply Ext.alloc)))) (k2.ext (Xw2.trans (by repeat (first | exact Ext.refl _ | assumption | apply Ext.drewN | apply Ext.drew | apply Ext.alloc)))) (by have := hg2.out; omega) hin2.out.2.2.2.2 (by have := hin2.out; omega)).mono ?_
      rintro e w3 ⟨r3, rfl, i3, _, xw3⟩
      have Lw3 : Ext w2 w3 := Ext.trans (by repeat (first | exact Ext.refl _ | assumption | apply Ext.drewN | apply Ext.drew | apply Ext.alloc)) xw3
      have Xw3 : Ext w w3 := Xw2.trans Lw3
      replace c10 := Lw3.cell c10
      replace c11 := Lw3.cell c11
      replace c12 := Lw3.cell c12
      replace c20 := Lw3.cell c20
      replace c21 := Lw3.cell c21
      replace c22 := Lw3.cell c22
      have z5 : w.heap.size < w3.heap.size := World.block_lt_of_cell? _ _ c10
      have z6 : w.heap.size + 1 < w3.heap.size := World.block_lt_of_cell? _ _ c20
      have sw3 : w2.heap.size ≤ w3.heap.size := Lw3.size
      go_wp2_with fail
      refine (offsets_c b1 _ _ s1 t1 _ l1 m1 (h1.ext (Xw3.trans (by repeat (first | exact Ext.refl _ | assumption | apply Ext.drewN | apply Ext.drew | apply Ext.alloc)))) (k1.ext (Xw3.trans (by repeat (first | exact Ext.refl _ | assumption | apply Ext.drewN | apply Ext.drew | apply Ext.alloc)))) (by have := hg1.out; omega) hin1.out.2.2.2.2 (by have := hin1.out; omega)).mono ?_
      rintro e w4 ⟨r4, rfl, i4, _, xw4⟩
      have Lw4 : Ext w3 w4 := Ext.trans (by repeat (first | exact Ext.refl _ | assumption | apply Ext.drewN | apply Ext.drew | apply Ext.alloc)) xw4
      have Xw4 : Ext w w4 := Xw3.trans Lw4
      replace c10 := Lw4.cell c10
      replace c11 := Lw4.cell c11
      replace c12 := Lw4.cell c12
      replace c20 := Lw4.cell c20
      replace c21 := Lw4.cell c21
      replace c22 := Lw4.cell c22
      replace i3 := i3.ext Lw4
      have z7 : w.heap.size < w4.heap.size := World.block_lt_of_cell? _ _ c10
      have z8 : w.heap.size + 1 < w4.heap.size := World.block_lt_of_cell? _ _ c20
      have sw4 : w3.heap.size ≤ w4.heap.size := Lw4.size
      have hi4 := Lib.hid i4
      generalize offsL b2 s2 t2 = ys at *
      generalize offsL b1 s1 t1 = xs at *
      obtain ⟨a, cap, rfl, hlc, hcm, ⟨hlen, _⟩, hc⟩ := i3
      go_wp2_with fail
      go_loop [7] (fun i => ∃ k : Nat, k ≤ ys.length ∧ i = .int .i64 k ∧ (ys.take k).all (fun x => xs.contains x) = true) (fun i => ys.length - (intOf i).toNat)
      case atStart => exact ⟨0, Nat.zero_le _, rfl, rfl⟩
      case round =>
        obtain ⟨k, hk, rfl, hall0⟩ := hrel
        replace hall := Lib.hid hall0
        clear hall0
        by_cases hlt : k < ys.length
        · obtain ⟨b, off, rfl, _, hcell, _⟩ := hc k hlt
          have hgd : ys.getD k 0 = ys[k] := by simp [hlt]
          rw [hgd] at hcell
          clear hc hgd
          have hp := placeL_ge xs ys[k]
          cases hq : xs.contains ys[k]
          · have hn : placeL xs ys[k] < 0 := by rw [hq] at hp; simpa using hp
            have hs := Lib.hid (covB_no xs ys k hlt hq)
            clear hq hp
            go_wp2_with (go_at_call 163; refine (placeIn_c xs _ _ _ _ hi4.out).mono ?_; rintro e w' ⟨rfl, rfl⟩)
            go_ret
            exact ⟨by rw [hr.out, hs.out]; rfl, Xw4⟩
          · have hn : 0 ≤ placeL xs ys[k] := by rw [hq] at hp; simpa using hp
            have hs := Lib.hid (covB_take xs ys k hlt hall.out hq)
            clear hq hp
            go_wp2_with (go_at_call 163; refine (placeIn_c xs _ _ _ _ hi4.out).mono ?_; rintro e w' ⟨rfl, rfl⟩)
            go_round
            case rel => exact ⟨k+1, by omega, by go_num, hs.out⟩
            case measure => simp [intOf]; omega
        · obtain rfl : k = ys.length := by omega
          go_wp2_with fail
          go_ret
          exact ⟨by have := hall.out; rw [List.take_length] at this; rw [hr.out, this]; rfl, Xw4⟩

end Go.Proofs.Ytfdpoepidlmbaaa
