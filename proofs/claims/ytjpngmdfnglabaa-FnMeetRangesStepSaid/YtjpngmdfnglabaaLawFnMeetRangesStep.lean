/- FnMeetRangesStep returns true for all bytes: no condition. -/
import Derived.Test.YtjpngmdfnglabaaRngE
namespace Go.Proofs.Ytjpngmdfnglabaa
open Go.RowKit
set_option linter.unusedVariables false
set_option maxRecDepth 100000

set_option maxHeartbeats 3200000 in
theorem lawFnMeetRangesStep_c (a : Option Addr) (n cap : Nat) (w : World) (hb : BysIn w a n cap) :
    Calls Try.prog 4 #[.slice a n cap] w fun e w' => e = .returned (.bool true) ∧ Ext w w' := by
  have hcm := hb.1
  have hcm2 := hb.2.1
  unfold maxLen at hcm2
  by_cases hbig : 1048576 < n
  · have hI : (1048576 : Int) < n := by omega
    go_enter Try.func4, Try.ntmps4
    go_wp2_with fail
    go_ret
    exact ⟨rfl, (by repeat (first | exact Ext.refl _ | assumption | apply Ext.drewN | apply Ext.drew | apply Ext.alloc))⟩
  have hI : ¬ (1048576 : Int) < n := by omega
  go_enter Try.func4, Try.ntmps4
  go_wp2_with fail
  refine (drawMeetRanges_c a n cap _ hb).mono ?_
  rintro e w1 ⟨x, y, z, x2, y2, z2, rfl, X1⟩
  clear hb hI hbig
  have hno := meet_none (a1 := x) (e1 := y) (d1 := z) (a2 := x2) (e2 := y2) (d2 := z2)
  have hst := meet_step (a1 := x) (e1 := y) (d1 := z) (a2 := x2) (e2 := y2) (d2 := z2)
  have hs0 := meet_step0 (a1 := x) (e1 := y) (d1 := z) (a2 := x2) (e2 := y2) (d2 := z2)
  replace hno := Lib.hid hno
  replace hst := Lib.hid hst
  replace hs0 := Lib.hid hs0
  go_wp2_with fail
  refine (implMeetRanges_c x y z x2 y2 z2 _).mono ?_
  rintro e w2 ⟨rfl, xx⟩
  have X2 : Ext w w2 := X1.trans (Ext.trans (by repeat (first | exact Ext.refl _ | assumption | apply Ext.drewN | apply Ext.drew | apply Ext.alloc)) xx)
  have cA0 : w2.cell? ⟨w1.heap.size, 0, none⟩ = some (.int .i64 x) := xx.cell (by first | (simp; done) | ((repeat rw [World.cell?_alloc_lt _ _ _ (by simp <;> omega)]); simp; done) | (go_simp; done))
  have cA1 : w2.cell? ⟨w1.heap.size, 1, none⟩ = some (.int .i64 y) := xx.cell (by first | (simp; done) | ((repeat rw [World.cell?_alloc_lt _ _ _ (by simp <;> omega)]); simp; done) | (go_simp; done))
  have cA2 : w2.cell? ⟨w1.heap.size, 2, none⟩ = some (.int .i64 z) := xx.cell (by first | (simp; done) | ((repeat rw [World.cell?_alloc_lt _ _ _ (by simp <;> omega)]); simp; done) | (go_simp; done))
  have cB0 : w2.cell? ⟨w1.heap.size + 1, 0, none⟩ = some (.int .i64 x2) := xx.cell (by first | (simp; done) | ((repeat rw [World.cell?_alloc_lt _ _ _ (by simp <;> omega)]); simp; done) | (go_simp; done))
  have cB1 : w2.cell? ⟨w1.heap.size + 1, 1, none⟩ = some (.int .i64 y2) := xx.cell (by first | (simp; done) | ((repeat rw [World.cell?_alloc_lt _ _ _ (by simp <;> omega)]); simp; done) | (go_simp; done))
  have cB2 : w2.cell? ⟨w1.heap.size + 1, 2, none⟩ = some (.int .i64 z2) := xx.cell (by first | (simp; done) | ((repeat rw [World.cell?_alloc_lt _ _ _ (by simp <;> omega)]); simp; done) | (go_simp; done))
  have z2' : w1.heap.size + 1 < w2.heap.size := World.block_lt_of_cell? _ _ cB2
  have z1' : w1.heap.size < w2.heap.size := by omega
  clear xx X1
  obtain ⟨⟨r1, r2, r3⟩, hT⟩ : ∃ t, t = meetT x y z x2 y2 z2 := ⟨_, rfl⟩
  replace hT := Lib.hid hT
  rw [← hT.out]
  simp only
  go_wp2_with fail
  have X3 : Ext w (w2.alloc (.cells #[.int .i64 r1, .int .i64 r2, .int .i64 r3] 24)) := (by repeat (first | exact Ext.refl _ | assumption | apply Ext.drewN | apply Ext.drew | apply Ext.alloc))
  have d0 : (w2.alloc (.cells #[.int .i64 r1, .int .i64 r2, .int .i64 r3] 24)).cell? ⟨w2.heap.size, 0, none⟩ = some (.int .i64 r1) := by simp
  have d1 : (w2.alloc (.cells #[.int .i64 r1, .int .i64 r2, .int .i64 r3] 24)).cell? ⟨w2.heap.size, 1, none⟩ = some (.int .i64 r2) := by simp
  have d2 : (w2.alloc (.cells #[.int .i64 r1, .int .i64 r2, .int .i64 r3] 24)).cell? ⟨w2.heap.size, 2, none⟩ = some (.int .i64 r3) := by simp
  replace cA0 := (Ext.alloc (Ext.refl w2) (.cells #[.int .i64 r1, .int .i64 r2, .int .i64 r3] 24)).cell cA0
  replace cA1 := (Ext.alloc (Ext.refl w2) (.cells #[.int .i64 r1, .int .i64 r2, .int .i64 r3] 24)).cell cA1
  replace cA2 := (Ext.alloc (Ext.refl w2) (.cells #[.int .i64 r1, .int .i64 r2, .int .i64 r3] 24)).cell cA2
  replace cB0 := (Ext.alloc (Ext.refl w2) (.cells #[.int .i64 r1, .int .i64 r2, .int .i64 r3] 24)).cell cB0
  replace cB1 := (Ext.alloc (Ext.refl w2) (.cells #[.int .i64 r1, .int .i64 r2, .int .i64 r3] 24)).cell cB1
  replace cB2 := (Ext.alloc (Ext.refl w2) (.cells #[.int .i64 r1, .int .i64 r2, .int .i64 r3] 24)).cell cB2
  have hq : ∀ W : World, Calls Try.prog 13 #[.agg #[.int .i64 x, .int .i64 y, .int .i64 z], .agg #[.int .i64 x2, .int .i64 y2, .int .i64 z2]] W (fun e w' => e = .returned (.agg #[.int .i64 r1, .int .i64 r2, .int .i64 r3]) ∧ Ext W w') := fun W => by
    have := specMeetRanges_c x y z x2 y2 z2 W
    rwa [← hT.out] at this
  replace hq := Lib.hid hq
  by_cases hv : rangeB x y z = true ∧ rangeB x2 y2 z2 = true
  · have hs := hst.out hv.1 hv.2
    have h0 := hs0.out hv.1 hv.2
    rw [← hT.out] at hs h0
    simp only at hs h0
    have hv1 := (rangeB_in hv.1).2.2.2
    have hv2 := (rangeB_in hv.2).2.2.2
    clear hv hno hst hs0 hT
    have h1 : (r3 == 0) = false := by simpa using h0
    revert d0 d1 d2 cA0 cA1 cA2 cB0 cB1 cB2 X3
    generalize (w2.alloc (.cells #[.int .i64 r1, .int .i64 r2, .int .i64 r3] 24)) = w3
    intro X3 d0 d1 d2 cA0 cA1 cA2 cB0 cB1 cB2
    have Y : Ext w3 w3 := Ext.refl _
    refine wp_region_held_drew (S := fun w' => w'.cell? ⟨w2.heap.size, 0, none⟩ = some (.int .i64 r1) ∧ w'.cell? ⟨w2.heap.size, 1, none⟩ = some (.int .i64 r2) ∧ w'.cell? ⟨w2.heap.size, 2, none⟩ = some (.int .i64 r3) ∧ w'.cell? ⟨w1.heap.size, 0, none⟩ = some (.int .i64 x) ∧ w'.cell? ⟨w1.heap.size, 1, none⟩ = some (.int .i64 y) ∧ w'.cell? ⟨w1.heap.size, 2, none⟩ = some (.int .i64 z) ∧ w'.cell? ⟨w1.heap.size + 1, 0, none⟩ = some (.int .i64 x2) ∧ w'.cell? ⟨w1.heap.size + 1, 1, none⟩ = some (.int .i64 y2) ∧ w'.cell? ⟨w1.heap.size + 1, 2, none⟩ = some (.int .i64 z2)) (by kernel_rfl) ⟨d0, d1, d2, cA0, cA1, cA2, cB0, cB1, cB2⟩ (fun hHeld => ?_)
    refine wpAnyH_take (i := 0) (v := ?_) rfl (by kernel_rfl) (by kernel_rfl) (by kernel_rfl) (fun _ _ _ h => h) (Or.inl ⟨by rfl, ?_⟩) (by assumption) ?_
    rotate_left
    · (intro w hSw; (try dsimp only at hSw); go_simp; try with_reducible rfl)
    try simp only [Act.put, List.setIfInBounds_toArray, List.set_cons_zero, List.set_cons_succ, List.getElem_toArray, List.getElem_cons_succ, List.getElem_cons_zero]
    refine wpAnyH_take (i := 1) (v := ?_) rfl (by kernel_rfl) (by kernel_rfl) (by kernel_rfl) (fun _ _ _ h => h) (Or.inl ⟨by rfl, ?_⟩) (by assumption) ?_
    rotate_left
    · (intro w hSw; (try dsimp only at hSw); go_simp; try with_reducible rfl)
    try simp only [Act.put, List.setIfInBounds_toArray, List.set_cons_zero, List.set_cons_succ, List.getElem_toArray, List.getElem_cons_succ, List.getElem_cons_zero]
    refine wpAnyH_take (i := 2) (v := ?_) rfl (by kernel_rfl) (by kernel_rfl) (by kernel_rfl) (fun _ _ _ h => h) (Or.inl ⟨by rfl, ?_⟩) (by assumption) ?_
    rotate_left
    · (intro w hSw; (try dsimp only at hSw); go_simp; try with_reducible rfl)
    try simp only [Act.put, List.setIfInBounds_toArray, List.set_cons_zero, List.set_cons_succ, List.getElem_toArray, List.getElem_cons_succ, List.getElem_cons_zero]
    refine wpAnyH_ready (rs := [3]) (by kernel_rfl) (by simp) ?_
    refine AllReadyH.cons rfl (fun K hK => ?_) AllReadyH.nil
    try simp only [Act.put, List.setIfInBounds_toArray, List.set_cons_zero, List.set_cons_succ, List.getElem_toArray, List.getElem_cons_succ, List.getElem_cons_zero]
    go_simp
    refine (hq.out _).mono ?_
    rintro e wr1 ⟨rfl, xx⟩
    have Y : Ext w3 wr1 := Ext.trans (by repeat (first | exact Y | exact Ext.refl _ | apply Ext.drewN | apply Ext.drew | apply Ext.alloc)) xx
    refine hK.out _ _ ⟨Y.cell d0, Y.cell d1, Y.cell d2, Y.cell cA0, Y.cell cA1, Y.cell cA2, Y.cell cB0, Y.cell cB1, Y.cell cB2⟩ (fun hHeld => ?_)
    clear hK K
    try simp only [Act.put, List.setIfInBounds_toArray, List.set_cons_zero, List.set_cons_succ, List.getElem_toArray, List.getElem_cons_succ, List.getElem_cons_zero]
    refine wpAnyH_ready (rs := [4]) (by kernel_rfl) (by simp) ?_
    refine AllReadyH.cons rfl (fun K hK => ?_) AllReadyH.nil
    try simp only [Act.put, List.setIfInBounds_toArray, List.set_cons_zero, List.set_cons_succ, List.getElem_toArray, List.getElem_cons_succ, List.getElem_cons_zero]
    go_simp
    refine (equalRange_c _ _ _ _).mono ?_
    rintro e wr2 ⟨rfl, xx⟩
    have Y : Ext w3 wr2 := Ext.trans (by repeat (first | exact Y | exact Ext.refl _ | apply Ext.drewN | apply Ext.drew | apply Ext.alloc)) xx
    refine hK.out _ _ ⟨Y.cell d0, Y.cell d1, Y.cell d2, Y.cell cA0, Y.cell cA1, Y.cell cA2, Y.cell cB0, Y.cell cB1, Y.cell cB2⟩ (fun hHeld => ?_)
    clear hK K
    try simp only [Act.put, List.setIfInBounds_toArray, List.set_cons_zero, List.set_cons_succ, List.getElem_toArray, List.getElem_cons_succ, List.getElem_cons_zero]
    refine wpAnyH_take (i := 5) (v := ?_) rfl (by kernel_rfl) (by kernel_rfl) (by kernel_rfl) (fun _ _ _ h => h) (Or.inl ⟨by rfl, ?_⟩) (by assumption) ?_
    rotate_left
    · (intro w hSw; (try dsimp only at hSw); go_simp; try with_reducible rfl)
    try simp only [Act.put, List.setIfInBounds_toArray, List.set_cons_zero, List.set_cons_succ, List.getElem_toArray, List.getElem_cons_succ, List.getElem_cons_zero]
    refine wpAnyH_take (i := 6) (v := ?_) rfl (by kernel_rfl) (by kernel_rfl) (by kernel_rfl) (fun _ _ _ h => h) (Or.inl ⟨by rfl, ?_⟩) (by assumption) ?_
    rotate_left
    · (intro w hSw; (try dsimp only at hSw); go_simp; try with_reducible rfl)
    try simp only [Act.put, List.setIfInBounds_toArray, List.set_cons_zero, List.set_cons_succ, List.getElem_toArray, List.getElem_cons_succ, List.getElem_cons_zero]
    refine wpAnyH_take (i := 7) (v := ?_) rfl (by kernel_rfl) (by kernel_rfl) (by kernel_rfl) (fun _ _ _ h => h) (Or.inl ⟨by rfl, ?_⟩) (by assumption) ?_
    rotate_left
    · (intro w hSw; (try dsimp only at hSw); go_simp; try with_reducible rfl)
    try simp only [Act.put, List.setIfInBounds_toArray, List.set_cons_zero, List.set_cons_succ, List.getElem_toArray, List.getElem_cons_succ, List.getElem_cons_zero]
    refine wpAnyH_take (i := 8) (v := ?_) rfl (by kernel_rfl) (by kernel_rfl) (by kernel_rfl) (fun _ _ _ h => h) (Or.inl ⟨by rfl, ?_⟩) (by assumption) ?_
    rotate_left
    · (intro w hSw; (try dsimp only at hSw); go_simp; try with_reducible rfl)
    try simp only [Act.put, List.setIfInBounds_toArray, List.set_cons_zero, List.set_cons_succ, List.getElem_toArray, List.getElem_cons_succ, List.getElem_cons_zero]
    refine wpAnyH_take (i := 9) (v := ?_) rfl (by kernel_rfl) (by kernel_rfl) (by kernel_rfl) (fun _ _ _ h => h) (Or.inl ⟨by rfl, ?_⟩) (by assumption) ?_
    rotate_left
    · (intro w hSw; (try dsimp only at hSw); go_simp; try with_reducible rfl)
    try simp only [Act.put, List.setIfInBounds_toArray, List.set_cons_zero, List.set_cons_succ, List.getElem_toArray, List.getElem_cons_succ, List.getElem_cons_zero]
    refine wpAnyH_take (i := 10) (v := ?_) rfl (by kernel_rfl) (by kernel_rfl) (by kernel_rfl) (fun _ _ _ h => h) (Or.inl ⟨by rfl, ?_⟩) (by assumption) ?_
    rotate_left
    · (intro w hSw; (try dsimp only at hSw); go_simp; try with_reducible rfl)
    try simp only [Act.put, List.setIfInBounds_toArray, List.set_cons_zero, List.set_cons_succ, List.getElem_toArray, List.getElem_cons_succ, List.getElem_cons_zero]
    refine wpAnyH_done (by kernel_rfl) ?_ _
    replace d0 := Y.cell d0
    replace d1 := Y.cell d1
    replace d2 := Y.cell d2
    have X4 := X3.trans Y
    by_cases hl : rlenA r1 r2 r3 < 2
    · clear hs
      go_wp2_with fail
      refine (implLenOf_c r1 r2 r3 _).mono ?_
      rintro e w4 ⟨rfl, xx⟩
      go_wp2_with fail
      go_ret
      exact ⟨rfl, X4.trans (Ext.trans (by repeat (first | exact Ext.refl _ | assumption | apply Ext.drewN | apply Ext.drew | apply Ext.alloc)) xx)⟩
    · obtain ⟨t1, t2⟩ := hs.resolve_left hl
      clear hs
      have u1 : (r3.tmod z == 0) = true := by simpa using t1
      have u2 : (r3.tmod z2 == 0) = true := by simpa using t2
      have cA2' := Y.cell cA2
      have cB2' := Y.cell cB2
      have hl' : ¬ (rlenA r1 r2 r3 < 2) := hl
      clear t1 t2
      go_wp2_with fail
      refine (implLenOf_c r1 r2 r3 _).mono ?_
      rintro e w4 ⟨rfl, xx⟩
      have g1 := xx.cell d2
      have g2 := xx.cell cA2'
      have g3 := xx.cell cB2'
      go_wp2_with fail
      go_ret
      exact ⟨rfl, X4.trans (Ext.trans (by repeat (first | exact Ext.refl _ | assumption | apply Ext.drewN | apply Ext.drew | apply Ext.alloc)) xx)⟩
  · have h0 := hno.out hv
    rw [← hT.out] at h0
    cases h0
    clear hv hno hst hs0 hT
    revert d0 d1 d2 cA0 cA1 cA2 cB0 cB1 cB2 X3
    generalize (w2.alloc (.cells #[.int .i64 0, .int .i64 0, .int .i64 0] 24)) = w3
    intro X3 d0 d1 d2 cA0 cA1 cA2 cB0 cB1 cB2
    have Y : Ext w3 w3 := Ext.refl _
    refine wp_region_held_drew (S := fun w' => w'.cell? ⟨w2.heap.size, 0, none⟩ = some (.int .i64 0) ∧ w'.cell? ⟨w2.heap.size, 1, none⟩ = some (.int .i64 0) ∧ w'.cell? ⟨w2.heap.size, 2, none⟩ = some (.int .i64 0) ∧ w'.cell? ⟨w1.heap.size, 0, none⟩ = some (.int .i64 x) ∧ w'.cell? ⟨w1.heap.size, 1, none⟩ = some (.int .i64 y) ∧ w'.cell? ⟨w1.heap.size, 2, none⟩ = some (.int .i64 z) ∧ w'.cell? ⟨w1.heap.size + 1, 0, none⟩ = some (.int .i64 x2) ∧ w'.cell? ⟨w1.heap.size + 1, 1, none⟩ = some (.int .i64 y2) ∧ w'.cell? ⟨w1.heap.size + 1, 2, none⟩ = some (.int .i64 z2)) (by kernel_rfl) ⟨d0, d1, d2, cA0, cA1, cA2, cB0, cB1, cB2⟩ (fun hHeld => ?_)
    refine wpAnyH_take (i := 0) (v := ?_) rfl (by kernel_rfl) (by kernel_rfl) (by kernel_rfl) (fun _ _ _ h => h) (Or.inl ⟨by rfl, ?_⟩) (by assumption) ?_
    rotate_left
    · (intro w hSw; (try dsimp only at hSw); go_simp; try with_reducible rfl)
    try simp only [Act.put, List.setIfInBounds_toArray, List.set_cons_zero, List.set_cons_succ, List.getElem_toArray, List.getElem_cons_succ, List.getElem_cons_zero]
    refine wpAnyH_take (i := 1) (v := ?_) rfl (by kernel_rfl) (by kernel_rfl) (by kernel_rfl) (fun _ _ _ h => h) (Or.inl ⟨by rfl, ?_⟩) (by assumption) ?_
    rotate_left
    · (intro w hSw; (try dsimp only at hSw); go_simp; try with_reducible rfl)
    try simp only [Act.put, List.setIfInBounds_toArray, List.set_cons_zero, List.set_cons_succ, List.getElem_toArray, List.getElem_cons_succ, List.getElem_cons_zero]
    refine wpAnyH_take (i := 2) (v := ?_) rfl (by kernel_rfl) (by kernel_rfl) (by kernel_rfl) (fun _ _ _ h => h) (Or.inl ⟨by rfl, ?_⟩) (by assumption) ?_
    rotate_left
    · (intro w hSw; (try dsimp only at hSw); go_simp; try with_reducible rfl)
    try simp only [Act.put, List.setIfInBounds_toArray, List.set_cons_zero, List.set_cons_succ, List.getElem_toArray, List.getElem_cons_succ, List.getElem_cons_zero]
    refine wpAnyH_ready (rs := [3]) (by kernel_rfl) (by simp) ?_
    refine AllReadyH.cons rfl (fun K hK => ?_) AllReadyH.nil
    try simp only [Act.put, List.setIfInBounds_toArray, List.set_cons_zero, List.set_cons_succ, List.getElem_toArray, List.getElem_cons_succ, List.getElem_cons_zero]
    go_simp
    refine (hq.out _).mono ?_
    rintro e wr1 ⟨rfl, xx⟩
    have Y : Ext w3 wr1 := Ext.trans (by repeat (first | exact Y | exact Ext.refl _ | apply Ext.drewN | apply Ext.drew | apply Ext.alloc)) xx
    refine hK.out _ _ ⟨Y.cell d0, Y.cell d1, Y.cell d2, Y.cell cA0, Y.cell cA1, Y.cell cA2, Y.cell cB0, Y.cell cB1, Y.cell cB2⟩ (fun hHeld => ?_)
    clear hK K
    try simp only [Act.put, List.setIfInBounds_toArray, List.set_cons_zero, List.set_cons_succ, List.getElem_toArray, List.getElem_cons_succ, List.getElem_cons_zero]
    refine wpAnyH_ready (rs := [4]) (by kernel_rfl) (by simp) ?_
    refine AllReadyH.cons rfl (fun K hK => ?_) AllReadyH.nil
    try simp only [Act.put, List.setIfInBounds_toArray, List.set_cons_zero, List.set_cons_succ, List.getElem_toArray, List.getElem_cons_succ, List.getElem_cons_zero]
    go_simp
    refine (equalRange_c _ _ _ _).mono ?_
    rintro e wr2 ⟨rfl, xx⟩
    have Y : Ext w3 wr2 := Ext.trans (by repeat (first | exact Y | exact Ext.refl _ | apply Ext.drewN | apply Ext.drew | apply Ext.alloc)) xx
    refine hK.out _ _ ⟨Y.cell d0, Y.cell d1, Y.cell d2, Y.cell cA0, Y.cell cA1, Y.cell cA2, Y.cell cB0, Y.cell cB1, Y.cell cB2⟩ (fun hHeld => ?_)
    clear hK K
    try simp only [Act.put, List.setIfInBounds_toArray, List.set_cons_zero, List.set_cons_succ, List.getElem_toArray, List.getElem_cons_succ, List.getElem_cons_zero]
    refine wpAnyH_take (i := 5) (v := ?_) rfl (by kernel_rfl) (by kernel_rfl) (by kernel_rfl) (fun _ _ _ h => h) (Or.inl ⟨by rfl, ?_⟩) (by assumption) ?_
    rotate_left
    · (intro w hSw; (try dsimp only at hSw); go_simp; try with_reducible rfl)
    try simp only [Act.put, List.setIfInBounds_toArray, List.set_cons_zero, List.set_cons_succ, List.getElem_toArray, List.getElem_cons_succ, List.getElem_cons_zero]
    refine wpAnyH_take (i := 6) (v := ?_) rfl (by kernel_rfl) (by kernel_rfl) (by kernel_rfl) (fun _ _ _ h => h) (Or.inl ⟨by rfl, ?_⟩) (by assumption) ?_
    rotate_left
    · (intro w hSw; (try dsimp only at hSw); go_simp; try with_reducible rfl)
    try simp only [Act.put, List.setIfInBounds_toArray, List.set_cons_zero, List.set_cons_succ, List.getElem_toArray, List.getElem_cons_succ, List.getElem_cons_zero]
    refine wpAnyH_take (i := 7) (v := ?_) rfl (by kernel_rfl) (by kernel_rfl) (by kernel_rfl) (fun _ _ _ h => h) (Or.inl ⟨by rfl, ?_⟩) (by assumption) ?_
    rotate_left
    · (intro w hSw; (try dsimp only at hSw); go_simp; try with_reducible rfl)
    try simp only [Act.put, List.setIfInBounds_toArray, List.set_cons_zero, List.set_cons_succ, List.getElem_toArray, List.getElem_cons_succ, List.getElem_cons_zero]
    refine wpAnyH_take (i := 8) (v := ?_) rfl (by kernel_rfl) (by kernel_rfl) (by kernel_rfl) (fun _ _ _ h => h) (Or.inl ⟨by rfl, ?_⟩) (by assumption) ?_
    rotate_left
    · (intro w hSw; (try dsimp only at hSw); go_simp; try with_reducible rfl)
    try simp only [Act.put, List.setIfInBounds_toArray, List.set_cons_zero, List.set_cons_succ, List.getElem_toArray, List.getElem_cons_succ, List.getElem_cons_zero]
    refine wpAnyH_take (i := 9) (v := ?_) rfl (by kernel_rfl) (by kernel_rfl) (by kernel_rfl) (fun _ _ _ h => h) (Or.inl ⟨by rfl, ?_⟩) (by assumption) ?_
    rotate_left
    · (intro w hSw; (try dsimp only at hSw); go_simp; try with_reducible rfl)
    try simp only [Act.put, List.setIfInBounds_toArray, List.set_cons_zero, List.set_cons_succ, List.getElem_toArray, List.getElem_cons_succ, List.getElem_cons_zero]
    refine wpAnyH_take (i := 10) (v := ?_) rfl (by kernel_rfl) (by kernel_rfl) (by kernel_rfl) (fun _ _ _ h => h) (Or.inl ⟨by rfl, ?_⟩) (by assumption) ?_
    rotate_left
    · (intro w hSw; (try dsimp only at hSw); go_simp; try with_reducible rfl)
    try simp only [Act.put, List.setIfInBounds_toArray, List.set_cons_zero, List.set_cons_succ, List.getElem_toArray, List.getElem_cons_succ, List.getElem_cons_zero]
    refine wpAnyH_done (by kernel_rfl) ?_ _
    go_wp2_with fail
    replace d0 := Y.cell d0
    replace d1 := Y.cell d1
    replace d2 := Y.cell d2
    replace cA0 := Y.cell cA0
    replace cA1 := Y.cell cA1
    replace cA2 := Y.cell cA2
    replace cB0 := Y.cell cB0
    replace cB1 := Y.cell cB1
    replace cB2 := Y.cell cB2
    have X4 := X3.trans Y
    clear Y
    have Y : Ext wr2 wr2 := Ext.refl _
    refine wp_region_held_drew (S := fun w' => w'.cell? ⟨w2.heap.size, 0, none⟩ = some (.int .i64 0) ∧ w'.cell? ⟨w2.heap.size, 1, none⟩ = some (.int .i64 0) ∧ w'.cell? ⟨w2.heap.size, 2, none⟩ = some (.int .i64 0) ∧ w'.cell? ⟨w1.heap.size, 0, none⟩ = some (.int .i64 x) ∧ w'.cell? ⟨w1.heap.size, 1, none⟩ = some (.int .i64 y) ∧ w'.cell? ⟨w1.heap.size, 2, none⟩ = some (.int .i64 z) ∧ w'.cell? ⟨w1.heap.size + 1, 0, none⟩ = some (.int .i64 x2) ∧ w'.cell? ⟨w1.heap.size + 1, 1, none⟩ = some (.int .i64 y2) ∧ w'.cell? ⟨w1.heap.size + 1, 2, none⟩ = some (.int .i64 z2)) (by kernel_rfl) ⟨d0, d1, d2, cA0, cA1, cA2, cB0, cB1, cB2⟩ (fun hHeld => ?_)
    refine wpAnyH_take (i := 0) (v := ?_) rfl (by kernel_rfl) (by kernel_rfl) (by kernel_rfl) (fun _ _ _ h => h) (Or.inl ⟨by rfl, ?_⟩) (by assumption) ?_
    rotate_left
    · (intro w hSw; (try dsimp only at hSw); go_simp; try with_reducible rfl)
    try simp only [Act.put, List.setIfInBounds_toArray, List.set_cons_zero, List.set_cons_succ, List.getElem_toArray, List.getElem_cons_succ, List.getElem_cons_zero]
    refine wpAnyH_take (i := 1) (v := ?_) rfl (by kernel_rfl) (by kernel_rfl) (by kernel_rfl) (fun _ _ _ h => h) (Or.inl ⟨by rfl, ?_⟩) (by assumption) ?_
    rotate_left
    · (intro w hSw; (try dsimp only at hSw); go_simp; try with_reducible rfl)
    try simp only [Act.put, List.setIfInBounds_toArray, List.set_cons_zero, List.set_cons_succ, List.getElem_toArray, List.getElem_cons_succ, List.getElem_cons_zero]
    refine wpAnyH_take (i := 2) (v := ?_) rfl (by kernel_rfl) (by kernel_rfl) (by kernel_rfl) (fun _ _ _ h => h) (Or.inl ⟨by rfl, ?_⟩) (by assumption) ?_
    rotate_left
    · (intro w hSw; (try dsimp only at hSw); go_simp; try with_reducible rfl)
    try simp only [Act.put, List.setIfInBounds_toArray, List.set_cons_zero, List.set_cons_succ, List.getElem_toArray, List.getElem_cons_succ, List.getElem_cons_zero]
    refine wpAnyH_ready (rs := [3]) (by kernel_rfl) (by simp) ?_
    refine AllReadyH.cons rfl (fun K hK => ?_) AllReadyH.nil
    try simp only [Act.put, List.setIfInBounds_toArray, List.set_cons_zero, List.set_cons_succ, List.getElem_toArray, List.getElem_cons_succ, List.getElem_cons_zero]
    go_simp
    refine (hq.out _).mono ?_
    rintro e ws1 ⟨rfl, xx⟩
    have Y : Ext wr2 ws1 := Ext.trans (by repeat (first | exact Y | exact Ext.refl _ | apply Ext.drewN | apply Ext.drew | apply Ext.alloc)) xx
    refine hK.out _ _ ⟨Y.cell d0, Y.cell d1, Y.cell d2, Y.cell cA0, Y.cell cA1, Y.cell cA2, Y.cell cB0, Y.cell cB1, Y.cell cB2⟩ (fun hHeld => ?_)
    clear hK K
    try simp only [Act.put, List.setIfInBounds_toArray, List.set_cons_zero, List.set_cons_succ, List.getElem_toArray, List.getElem_cons_succ, List.getElem_cons_zero]
    refine wpAnyH_ready (rs := [4]) (by kernel_rfl) (by simp) ?_
    refine AllReadyH.cons rfl (fun K hK => ?_) AllReadyH.nil
    try simp only [Act.put, List.setIfInBounds_toArray, List.set_cons_zero, List.set_cons_succ, List.getElem_toArray, List.getElem_cons_succ, List.getElem_cons_zero]
    go_simp
    refine (equalRange_c _ _ _ _).mono ?_
    rintro e ws2 ⟨rfl, xx⟩
    have Y : Ext wr2 ws2 := Ext.trans (by repeat (first | exact Y | exact Ext.refl _ | apply Ext.drewN | apply Ext.drew | apply Ext.alloc)) xx
    refine hK.out _ _ ⟨Y.cell d0, Y.cell d1, Y.cell d2, Y.cell cA0, Y.cell cA1, Y.cell cA2, Y.cell cB0, Y.cell cB1, Y.cell cB2⟩ (fun hHeld => ?_)
    clear hK K
    try simp only [Act.put, List.setIfInBounds_toArray, List.set_cons_zero, List.set_cons_succ, List.getElem_toArray, List.getElem_cons_succ, List.getElem_cons_zero]
    refine wpAnyH_take (i := 5) (v := ?_) rfl (by kernel_rfl) (by kernel_rfl) (by kernel_rfl) (fun _ _ _ h => h) (Or.inl ⟨by rfl, ?_⟩) (by assumption) ?_
    rotate_left
    · (intro w hSw; (try dsimp only at hSw); go_simp; try with_reducible rfl)
    try simp only [Act.put, List.setIfInBounds_toArray, List.set_cons_zero, List.set_cons_succ, List.getElem_toArray, List.getElem_cons_succ, List.getElem_cons_zero]
    refine wpAnyH_done (by kernel_rfl) ?_ _
    go_wp2_with fail
    go_ret
    exact ⟨rfl, X4.trans Y⟩
end Go.Proofs.Ytjpngmdfnglabaa
