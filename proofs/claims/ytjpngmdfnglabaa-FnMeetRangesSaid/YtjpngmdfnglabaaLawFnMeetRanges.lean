/- FnMeetRanges returns true for all bytes: no condition. -/
import Derived.Test.YtjpngmdfnglabaaRngF
namespace Go.Proofs.Ytjpngmdfnglabaa
open Go.RowKit
set_option linter.unusedVariables false
set_option maxRecDepth 100000

set_option maxHeartbeats 3200000 in
theorem lawFnMeetRanges_c (a : Option Addr) (n cap : Nat) (w : World) (hb : BysIn w a n cap) :
    Calls Try.prog 3 #[.slice a n cap] w fun e w' => e = .returned (.bool true) ∧ Ext w w' := by
  have hcm := hb.1
  have hcm2 := hb.2.1
  unfold maxLen at hcm2
  by_cases hbig : 1048576 < n
  · have hI : (1048576 : Int) < n := by omega
    go_enter Try.func3, Try.ntmps3
    go_wp2_with fail
    go_ret
    exact ⟨rfl, (by repeat (first | exact Ext.refl _ | assumption | apply Ext.drewN | apply Ext.drew | apply Ext.alloc))⟩
  have hI : ¬ (1048576 : Int) < n := by omega
  go_enter Try.func3, Try.ntmps3
  go_wp2_with fail
  refine (drawMeetRanges_c a n cap _ hb).mono ?_
  rintro e w1 ⟨x, y, z, x2, y2, z2, rfl, X1⟩
  clear hb hI hbig
  have hno := meet_none (a1 := x) (e1 := y) (d1 := z) (a2 := x2) (e2 := y2) (d2 := z2)
  have hst := meet_step (a1 := x) (e1 := y) (d1 := z) (a2 := x2) (e2 := y2) (d2 := z2)
  have hs0 := meet_step0 (a1 := x) (e1 := y) (d1 := z) (a2 := x2) (e2 := y2) (d2 := z2)
  replace hno := Lib.hid hno
  replace hst := Lib.hid hst
  replace hs0 := Lib.hid hs0
  go_wp2_with fail
  refine (implMeetRanges_c x y z x2 y2 z2 _).mono ?_
  rintro e w2 ⟨rfl, xx⟩
  have X2 : Ext w w2 := X1.trans (Ext.trans (by repeat (first | exact Ext.refl _ | assumption | apply Ext.drewN | apply Ext.drew | apply Ext.alloc)) xx)
  have cA0 : w2.cell? ⟨w1.heap.size, 0, none⟩ = some (.int .i64 x) := xx.cell (by first | (simp; done) | ((repeat rw [World.cell?_alloc_lt _ _ _ (by simp <;> omega)]); simp; done) | (go_simp; done))
  have cA1 : w2.cell? ⟨w1.heap.size, 1, none⟩ = some (.int .i64 y) := xx.cell (by first | (simp; done) | ((repeat rw [World.cell?_alloc_lt _ _ _ (by simp <;> omega)]); simp; done) | (go_simp; done))
  have cA2 : w2.cell? ⟨w1.heap.size, 2, none⟩ = some (.int .i64 z) := xx.cell (by first | (simp; done) | ((repeat rw [World.cell?_alloc_lt _ _ _ (by simp <;> omega)]); simp; done) | (go_simp; done))
  have cB0 : w2.cell? ⟨w1.heap.size + 1, 0, none⟩ = some (.int .i64 x2) := xx.cell (by first | (simp; done) | ((repeat rw [World.cell?_alloc_lt _ _ _ (by simp <;> omega)]); simp; done) | (go_simp; done))
  have cB1 : w2.cell? ⟨w1.heap.size + 1, 1, none⟩ = some (.int .i64 y2) := xx.cell (by first | (simp; done) | ((repeat rw [World.cell?_alloc_lt _ _ _ (by simp <;> omega)]); simp; done) | (go_simp; done))
  have cB2 : w2.cell? ⟨w1.heap.size + 1, 2, none⟩ = some (.int .i64 z2) := xx.cell (by first | (simp; done) | ((repeat rw [World.cell?_alloc_lt _ _ _ (by simp <;> omega)]); simp; done) | (go_simp; done))
  have z2' : w1.heap.size + 1 < w2.heap.size := World.block_lt_of_cell? _ _ cB2
  have z1' : w1.heap.size < w2.heap.size := by omega
  clear xx X1
  obtain ⟨⟨r1, r2, r3⟩, hT⟩ : ∃ t, t = meetT x y z x2 y2 z2 := ⟨_, rfl⟩
  replace hT := Lib.hid hT
  rw [← hT.out]
  simp only
  go_wp2_with fail
  have X3 : Ext w (w2.alloc (.cells #[.int .i64 r1, .int .i64 r2, .int .i64 r3] 24)) := (by repeat (first | exact Ext.refl _ | assumption | apply Ext.drewN | apply Ext.drew | apply Ext.alloc))
  have d0 : (w2.alloc (.cells #[.int .i64 r1, .int .i64 r2, .int .i64 r3] 24)).cell? ⟨w2.heap.size, 0, none⟩ = some (.int .i64 r1) := by simp
  have d1 : (w2.alloc (.cells #[.int .i64 r1, .int .i64 r2, .int .i64 r3] 24)).cell? ⟨w2.heap.size, 1, none⟩ = some (.int .i64 r2) := by simp
  have d2 : (w2.alloc (.cells #[.int .i64 r1, .int .i64 r2, .int .i64 r3] 24)).cell? ⟨w2.heap.size, 2, none⟩ = some (.int .i64 r3) := by simp
  replace cA0 := (Ext.alloc (Ext.refl w2) (.cells #[.int .i64 r1, .int .i64 r2, .int .i64 r3] 24)).cell cA0
  replace cA1 := (Ext.alloc (Ext.refl w2) (.cells #[.int .i64 r1, .int .i64 r2, .int .i64 r3] 24)).cell cA1
  replace cA2 := (Ext.alloc (Ext.refl w2) (.cells #[.int .i64 r1, .int .i64 r2, .int .i64 r3] 24)).cell cA2
  replace cB0 := (Ext.alloc (Ext.refl w2) (.cells #[.int .i64 r1, .int .i64 r2, .int .i64 r3] 24)).cell cB0
  replace cB1 := (Ext.alloc (Ext.refl w2) (.cells #[.int .i64 r1, .int .i64 r2, .int .i64 r3] 24)).cell cB1
  replace cB2 := (Ext.alloc (Ext.refl w2) (.cells #[.int .i64 r1, .int .i64 r2, .int .i64 r3] 24)).cell cB2
  have hq : ∀ W : World, Calls Try.prog 13 #[.agg #[.int .i64 x, .int .i64 y, .int .i64 z], .agg #[.int .i64 x2, .int .i64 y2, .int .i64 z2]] W (fun e w' => e = .returned (.agg #[.int .i64 r1, .int .i64 r2, .int .i64 r3]) ∧ Ext W w') := fun W => by
    have := specMeetRanges_c x y z x2 y2 z2 W
    rwa [← hT.out] at this
  replace hq := Lib.hid hq
  by_cases hv : rangeB x y z = true ∧ rangeB x2 y2 z2 = true
  · have hs := hst.out hv.1 hv.2
    have h0 := hs0.out hv.1 hv.2
    rw [← hT.out] at hs h0
    simp only at hs h0
    have hv1 := (rangeB_in hv.1).2.2.2
    have hv2 := (rangeB_in hv.2).2.2.2
    have hA := meet_len hv.1 hv.2
    have hP := meet_place hv.1 hv.2
    have hW := meet_swap hv.1 hv.2
    have hC1 := meet_cov1 hv.1 hv.2
    have hC2 := meet_cov2 hv.1 hv.2
    have hN := meet_num hv.1 hv.2
    rw [← hT.out] at hA hP hW hC1 hC2 hN
    simp only at hA hP hW hC1 hC2 hN
    have hL : ∀ W : World, Calls Try.prog 16 #[.agg #[.int .i64 r1, .int .i64 r2, .int .i64 r3]] W (fun r w' => r = .returned (.int .i64 (cntB (rnumA x y z) (numL x2 y2 z2))) ∧ Ext W w') := fun W => by
      have := implLenOf_c r1 r2 r3 W
      rwa [hA] at this
    have hS : ∀ W : World, Calls Try.prog 11 #[.agg #[.int .i64 x2, .int .i64 y2, .int .i64 z2], .agg #[.int .i64 x, .int .i64 y, .int .i64 z]] W (fun e w' => e = .returned (.agg #[.int .i64 r1, .int .i64 r2, .int .i64 r3]) ∧ Ext W w') := fun W => by
      have := implMeetRanges_c x2 y2 z2 x y z W
      rwa [hW] at this
    have hV1 : ∀ W : World, Calls Try.prog 18 #[.agg #[.int .i64 x, .int .i64 y, .int .i64 z], .agg #[.int .i64 r1, .int .i64 r2, .int .i64 r3]] W (fun e w' => e = .returned (.bool true) ∧ Ext W w') := fun W => by
      have := implCoversRange_c x y z r1 r2 r3 W
      rwa [hC1] at this
    have hV2 : ∀ W : World, Calls Try.prog 18 #[.agg #[.int .i64 x2, .int .i64 y2, .int .i64 z2], .agg #[.int .i64 r1, .int .i64 r2, .int .i64 r3]] W (fun e w' => e = .returned (.bool true) ∧ Ext W w') := fun W => by
      have := implCoversRange_c x2 y2 z2 r1 r2 r3 W
      rwa [hC2] at this
    clear hA hW hC1 hC2 hs
    replace hL := Lib.hid hL
    replace hS := Lib.hid hS
    replace hV1 := Lib.hid hV1
    replace hV2 := Lib.hid hV2
    replace hP := Lib.hid hP
    replace hN := Lib.hid hN
    have hlx : (rnumA x y z).length ≤ 3000 := rnum_len hv.1
    clear hv hno hst hs0 hT
    have h1 : (r3 == 0) = false := by simpa using h0
    revert d0 d1 d2 cA0 cA1 cA2 cB0 cB1 cB2 X3
    generalize (w2.alloc (.cells #[.int .i64 r1, .int .i64 r2, .int .i64 r3] 24)) = w3
    intro X3 d0 d1 d2 cA0 cA1 cA2 cB0 cB1 cB2
    have Y : Ext w3 w3 := Ext.refl _
    refine wp_region_held_drew (S := fun w' => w'.cell? ⟨w2.heap.size, 0, none⟩ = some (.int .i64 r1) ∧ w'.cell? ⟨w2.heap.size, 1, none⟩ = some (.int .i64 r2) ∧ w'.cell? ⟨w2.heap.size, 2, none⟩ = some (.int .i64 r3) ∧ w'.cell? ⟨w1.heap.size, 0, none⟩ = some (.int .i64 x) ∧ w'.cell? ⟨w1.heap.size, 1, none⟩ = some (.int .i64 y) ∧ w'.cell? ⟨w1.heap.size, 2, none⟩ = some (.int .i64 z) ∧ w'.cell? ⟨w1.heap.size + 1, 0, none⟩ = some (.int .i64 x2) ∧ w'.cell? ⟨w1.heap.size + 1, 1, none⟩ = some (.int .i64 y2) ∧ w'.cell? ⟨w1.heap.size + 1, 2, none⟩ = some (.int .i64 z2)) (by kernel_rfl) ⟨d0, d1, d2, cA0, cA1, cA2, cB0, cB1, cB2⟩ (fun hHeld => ?_)
    refine wpAnyH_take (i := 0) (v := ?_) rfl (by kernel_rfl) (by kernel_rfl) (by kernel_rfl) (fun _ _ _ h => h) (Or.inl ⟨by rfl, ?_⟩) (by assumption) ?_
    rotate_left
    · (intro w hSw; (try dsimp only at hSw); go_simp; try with_reducible rfl)
    try simp only [Act.put, List.setIfInBounds_toArray, List.set_cons_zero, List.set_cons_succ, List.getElem_toArray, List.getElem_cons_zero]
    refine wpAnyH_take (i := 1) (v := ?_) rfl (by kernel_rfl) (by kernel_rfl) (by kernel_rfl) (fun _ _ _ h => h) (Or.inl ⟨by rfl, ?_⟩) (by assumption) ?_
    rotate_left
    · (intro w hSw; (try dsimp only at hSw); go_simp; try with_reducible rfl)
    try simp only [Act.put, List.setIfInBounds_toArray, List.set_cons_zero, List.set_cons_succ, List.getElem_toArray, List.getElem_cons_succ, List.getElem_cons_zero]
    refine wpAnyH_take (i := 2) (v := ?_) rfl (by kernel_rfl) (by kernel_rfl) (by kernel_rfl) (fun _ _ _ h => h) (Or.inl ⟨by rfl, ?_⟩) (by assumption) ?_
    rotate_left
    · (intro w hSw; (try dsimp only at hSw); go_simp; try with_reducible rfl)
    try simp only [Act.put, List.setIfInBounds_toArray, List.set_cons_zero, List.set_cons_succ, List.getElem_toArray, List.getElem_cons_succ, List.getElem_cons_zero]
    refine wpAnyH_ready (rs := [3]) (by kernel_rfl) (by simp) ?_
    refine AllReadyH.cons rfl (fun K hK => ?_) AllReadyH.nil
    try simp only [Act.put, List.setIfInBounds_toArray, List.set_cons_zero, List.set_cons_succ, List.getElem_toArray, List.getElem_cons_succ, List.getElem_cons_zero]
    go_simp
    refine (hq.out _).mono ?_
    rintro e wr1 ⟨rfl, xx⟩
    have Y : Ext w3 wr1 := Ext.trans (by repeat (first | exact Y | exact Ext.refl _ | apply Ext.drewN | apply Ext.drew | apply Ext.alloc)) xx
    refine hK.out _ _ ⟨Y.cell d0, Y.cell d1, Y.cell d2, Y.cell cA0, Y.cell cA1, Y.cell cA2, Y.cell cB0, Y.cell cB1, Y.cell cB2⟩ (fun hHeld => ?_)
    clear hK K
    try simp only [Act.put, List.setIfInBounds_toArray, List.set_cons_zero, List.set_cons_succ, List.getElem_toArray, List.getElem_cons_succ, List.getElem_cons_zero]
    refine wpAnyH_ready (rs := [4]) (by kernel_rfl) (by simp) ?_
    refine AllReadyH.cons rfl (fun K hK => ?_) AllReadyH.nil
    try simp only [Act.put, List.setIfInBounds_toArray, List.set_cons_zero, List.set_cons_succ, List.getElem_toArray, List.getElem_cons_succ, List.getElem_cons_zero]
    go_simp
    refine (equalRange_c _ _ _ _).mono ?_
    rintro e wr2 ⟨rfl, xx⟩
    have Y : Ext w3 wr2 := Ext.trans (by repeat (first | exact Y | exact Ext.refl _ | apply Ext.drewN | apply Ext.drew | apply Ext.alloc)) xx
    refine hK.out _ _ ⟨Y.cell d0, Y.cell d1, Y.cell d2, Y.cell cA0, Y.cell cA1, Y.cell cA2, Y.cell cB0, Y.cell cB1, Y.cell cB2⟩ (fun hHeld => ?_)
    clear hK K
    try simp only [Act.put, List.setIfInBounds_toArray, List.set_cons_zero, List.set_cons_succ, List.getElem_toArray, List.getElem_cons_succ, List.getElem_cons_zero]
    refine wpAnyH_take (i := 5) (v := ?_) rfl (by kernel_rfl) (by kernel_rfl) (by kernel_rfl) (fun _ _ _ h => h) (Or.inl ⟨by rfl, ?_⟩) (by assumption) ?_
    rotate_left
    · (intro w hSw; (try dsimp only at hSw); go_simp; try with_reducible rfl)
    try simp only [Act.put, List.setIfInBounds_toArray, List.set_cons_zero, List.set_cons_succ, List.getElem_toArray, List.getElem_cons_succ, List.getElem_cons_zero]
    refine wpAnyH_take (i := 6) (v := ?_) rfl (by kernel_rfl) (by kernel_rfl) (by kernel_rfl) (fun _ _ _ h => h) (Or.inl ⟨by rfl, ?_⟩) (by assumption) ?_
    rotate_left
    · (intro w hSw; (try dsimp only at hSw); go_simp; try with_reducible rfl)
    try simp only [Act.put, List.setIfInBounds_toArray, List.set_cons_zero, List.set_cons_succ, List.getElem_toArray, List.getElem_cons_succ, List.getElem_cons_zero]
    refine wpAnyH_take (i := 7) (v := ?_) rfl (by kernel_rfl) (by kernel_rfl) (by kernel_rfl) (fun _ _ _ h => h) (Or.inl ⟨by rfl, ?_⟩) (by assumption) ?_
    rotate_left
    · (intro w hSw; (try dsimp only at hSw); go_simp; try with_reducible rfl)
    try simp only [Act.put, List.setIfInBounds_toArray, List.set_cons_zero, List.set_cons_succ, List.getElem_toArray, List.getElem_cons_succ, List.getElem_cons_zero]
    refine wpAnyH_take (i := 8) (v := ?_) rfl (by kernel_rfl) (by kernel_rfl) (by kernel_rfl) (fun _ _ _ h => h) (Or.inl ⟨by rfl, ?_⟩) (by assumption) ?_
    rotate_left
    · (intro w hSw; (try dsimp only at hSw); go_simp; try with_reducible rfl)
    try simp only [Act.put, List.setIfInBounds_toArray, List.set_cons_zero, List.set_cons_succ, List.getElem_toArray, List.getElem_cons_succ, List.getElem_cons_zero]
    refine wpAnyH_take (i := 9) (v := ?_) rfl (by kernel_rfl) (by kernel_rfl) (by kernel_rfl) (fun _ _ _ h => h) (Or.inl ⟨by rfl, ?_⟩) (by assumption) ?_
    rotate_left
    · (intro w hSw; (try dsimp only at hSw); go_simp; try with_reducible rfl)
    try simp only [Act.put, List.setIfInBounds_toArray, List.set_cons_zero, List.set_cons_succ, List.getElem_toArray, List.getElem_cons_succ, List.getElem_cons_zero]
    refine wpAnyH_take (i := 10) (v := ?_) rfl (by kernel_rfl) (by kernel_rfl) (by kernel_rfl) (fun _ _ _ h => h) (Or.inl ⟨by rfl, ?_⟩) (by assumption) ?_
    rotate_left
    · (intro w hSw; (try dsimp only at hSw); go_simp; try with_reducible rfl)
    try simp only [Act.put, List.setIfInBounds_toArray, List.set_cons_zero, List.set_cons_succ, List.getElem_toArray, List.getElem_cons_succ, List.getElem_cons_zero]
    refine wpAnyH_done (by kernel_rfl) ?_ _
    replace d0 := Y.cell d0
    replace d1 := Y.cell d1
    replace d2 := Y.cell d2
    have X4 := X3.trans Y
    replace cA0 := Y.cell cA0
    replace cA1 := Y.cell cA1
    replace cA2 := Y.cell cA2
    replace cB0 := Y.cell cB0
    replace cB1 := Y.cell cB1
    replace cB2 := Y.cell cB2
    clear Y h1
    go_wp2_with fail
    refine (implNumbersOf_c x y z _).mono ?_
    rintro e w5 ⟨v5, rfl, i5, -, xx⟩
    have X5 : Ext w w5 := X4.trans (Ext.trans (by repeat (first | exact Ext.refl _ | assumption | apply Ext.drewN | apply Ext.drew | apply Ext.alloc)) xx)
    replace d0 := xx.cell d0
    replace d1 := xx.cell d1
    replace d2 := xx.cell d2
    replace cA0 := xx.cell cA0
    replace cA1 := xx.cell cA1
    replace cA2 := xx.cell cA2
    replace cB0 := xx.cell cB0
    replace cB1 := xx.cell cB1
    replace cB2 := xx.cell cB2
    clear X4 X3
    generalize rnumA x y z = xs at *
    obtain ⟨p5, q5, rfl⟩ := i5.form
    go_wp2_with fail
    go_loopw [7, 8] (fun c i wl => ∃ k : Nat, k ≤ xs.length ∧ i = .int .i64 k ∧ c = .int .i64 (cntB (xs.take k) (numL x2 y2 z2)) ∧ Ints wl 0 (.slice p5 xs.length q5) xs ∧ Ext w wl ∧ wl.cell? ⟨w2.heap.size, 0, none⟩ = some (.int .i64 r1) ∧ wl.cell? ⟨w2.heap.size, 1, none⟩ = some (.int .i64 r2) ∧ wl.cell? ⟨w2.heap.size, 2, none⟩ = some (.int .i64 r3) ∧ wl.cell? ⟨w1.heap.size, 0, none⟩ = some (.int .i64 x) ∧ wl.cell? ⟨w1.heap.size, 1, none⟩ = some (.int .i64 y) ∧ wl.cell? ⟨w1.heap.size, 2, none⟩ = some (.int .i64 z) ∧ wl.cell? ⟨w1.heap.size + 1, 0, none⟩ = some (.int .i64 x2) ∧ wl.cell? ⟨w1.heap.size + 1, 1, none⟩ = some (.int .i64 y2) ∧ wl.cell? ⟨w1.heap.size + 1, 2, none⟩ = some (.int .i64 z2)) (fun _ i _ => xs.length - (intOf i).toNat)
    case atStart => exact ⟨0, Nat.zero_le _, rfl, rfl, i5.lower (Nat.zero_le _), X5, d0, d1, d2, cA0, cA1, cA2, cB0, cB1, cB2⟩
    case round =>
      clear i5 X5 d0 d1 d2 cA0 cA1 cA2 cB0 cB1 cB2
      obtain ⟨k, hk, rfl, rfl, hi, hx, d0, d1, d2, cA0, cA1, cA2, cB0, cB1, cB2⟩ := hrel
      have hcb := cntB_le (xs.take k) (numL x2 y2 z2)
      have hcb2 : (xs.take k).length ≤ 3000 := by simp; omega
      by_cases hlt : k < xs.length
      · have hi' := hi
        obtain ⟨_, _, hv, _, _, _, hc⟩ := hi'
        cases hv
        obtain ⟨b, off, rfl, _, hcell, _⟩ := hc k hlt
        have g : xs.getD k 0 = xs[k] := by simp [hlt]
        rw [g] at hcell
        have hI : (k : Int) < xs.length := by omega
        have hs := cntB_take xs (numL x2 y2 z2) k hlt
        have hpp := hP.out _ (List.getElem_mem hlt)
        clear hc g
        generalize xs[k] = q at *
        replace hi := Lib.hid hi
        by_cases hq : 0 ≤ rplaceA x2 y2 z2 q
        · obtain ⟨hp2, hcc⟩ := hpp.1 hq
          have hs' := Lib.hid (show cntB (xs.take (k+1)) (numL x2 y2 z2) = cntB (xs.take k) (numL x2 y2 z2) + 1 by rw [hs, if_pos hcc])
          have hp3 : ¬ rplaceA r1 r2 r3 q < 0 := by omega
          clear hs hpp hcc hp2
          go_wp2_with fail
          have Y : Ext wr wr := Ext.refl _
          refine wp_region_held_drew (S := fun w' => w'.cell? ⟨w2.heap.size, 0, none⟩ = some (.int .i64 r1) ∧ w'.cell? ⟨w2.heap.size, 1, none⟩ = some (.int .i64 r2) ∧ w'.cell? ⟨w2.heap.size, 2, none⟩ = some (.int .i64 r3) ∧ w'.cell? ⟨w1.heap.size, 0, none⟩ = some (.int .i64 x) ∧ w'.cell? ⟨w1.heap.size, 1, none⟩ = some (.int .i64 y) ∧ w'.cell? ⟨w1.heap.size, 2, none⟩ = some (.int .i64 z) ∧ w'.cell? ⟨w1.heap.size + 1, 0, none⟩ = some (.int .i64 x2) ∧ w'.cell? ⟨w1.heap.size + 1, 1, none⟩ = some (.int .i64 y2) ∧ w'.cell? ⟨w1.heap.size + 1, 2, none⟩ = some (.int .i64 z2) ∧ w'.cell? ⟨b, off + k, none⟩ = some (.int .i64 q)) (by kernel_rfl) ⟨d0, d1, d2, cA0, cA1, cA2, cB0, cB1, cB2, hcell⟩ (fun hHeld => ?_)
          refine wpAnyH_take (i := 0) (v := ?_) rfl (by kernel_rfl) (by kernel_rfl) (by kernel_rfl) (fun _ _ _ h => h) (Or.inl ⟨by rfl, ?_⟩) (by assumption) ?_
          rotate_left
          · (intro w hSw; (try dsimp only at hSw); go_simp; try with_reducible rfl)
          try simp only [Act.put, List.setIfInBounds_toArray, List.set_cons_zero, List.set_cons_succ, List.getElem_toArray, List.getElem_cons_zero]
          refine wpAnyH_take (i := 1) (v := ?_) rfl (by kernel_rfl) (by kernel_rfl) (by kernel_rfl) (fun _ _ _ h => h) (Or.inl ⟨by rfl, ?_⟩) (by assumption) ?_
          rotate_left
          · (intro w hSw; (try dsimp only at hSw); go_simp; try with_reducible rfl)
          try simp only [Act.put, List.setIfInBounds_toArray, List.set_cons_zero, List.set_cons_succ, List.getElem_toArray, List.getElem_cons_succ, List.getElem_cons_zero]
          refine wpAnyH_take (i := 2) (v := ?_) rfl (by kernel_rfl) (by kernel_rfl) (by kernel_rfl) (fun _ _ _ h => h) (Or.inl ⟨by rfl, ?_⟩) (by assumption) ?_
          rotate_left
          · (intro w hSw; (try dsimp only at hSw); go_simp; try with_reducible rfl)
          try simp only [Act.put, List.setIfInBounds_toArray, List.set_cons_zero, List.set_cons_succ, List.getElem_toArray, List.getElem_cons_succ, List.getElem_cons_zero]
          refine wpAnyH_take (i := 3) (v := ?_) rfl (by kernel_rfl) (by kernel_rfl) (by kernel_rfl) (fun _ _ _ h => h) (Or.inl ⟨by rfl, ?_⟩) (by assumption) ?_
          rotate_left
          · (intro w hSw; (try dsimp only at hSw); go_simp; try with_reducible rfl)
          try simp only [Act.put, List.setIfInBounds_toArray, List.set_cons_zero, List.set_cons_succ, List.getElem_toArray, List.getElem_cons_succ, List.getElem_cons_zero]
          refine wpAnyH_take (i := 4) (v := ?_) rfl (by kernel_rfl) (by kernel_rfl) (by kernel_rfl) (fun _ _ _ h => h) (Or.inl ⟨by rfl, ?_⟩) (by assumption) ?_
          rotate_left
          · (intro w hSw; (try dsimp only at hSw); go_simp; try with_reducible rfl)
          try simp only [Act.put, List.setIfInBounds_toArray, List.set_cons_zero, List.set_cons_succ, List.getElem_toArray, List.getElem_cons_succ, List.getElem_cons_zero]
          refine wpAnyH_ready (rs := [5]) (by kernel_rfl) (by simp) ?_
          refine AllReadyH.cons rfl (fun K hK => ?_) AllReadyH.nil
          try simp only [Act.put, List.setIfInBounds_toArray, List.set_cons_zero, List.set_cons_succ, List.getElem_toArray, List.getElem_cons_succ, List.getElem_cons_zero]
          go_simp
          refine (implPlaceOf_c x2 y2 z2 q _).mono ?_
          rintro e wt1 ⟨rfl, xx⟩
          have Y : Ext wr wt1 := Ext.trans (by repeat (first | exact Y | exact Ext.refl _ | apply Ext.drewN | apply Ext.drew | apply Ext.alloc)) xx
          refine hK.out _ _ ⟨Y.cell d0, Y.cell d1, Y.cell d2, Y.cell cA0, Y.cell cA1, Y.cell cA2, Y.cell cB0, Y.cell cB1, Y.cell cB2, Y.cell hcell⟩ (fun hHeld => ?_)
          clear hK K
          try simp only [Act.put, List.setIfInBounds_toArray, List.set_cons_zero, List.set_cons_succ, List.getElem_toArray, List.getElem_cons_succ, List.getElem_cons_zero]
          refine wpAnyH_take (i := 6) (v := ?_) rfl (by kernel_rfl) (by kernel_rfl) (by kernel_rfl) (fun _ _ _ h => h) (Or.inl ⟨by rfl, ?_⟩) (by assumption) ?_
          rotate_left
          · (intro w hSw; (try dsimp only at hSw); go_simp; try with_reducible rfl)
          try simp only [Act.put, List.setIfInBounds_toArray, List.set_cons_zero, List.set_cons_succ, List.getElem_toArray, List.getElem_cons_succ, List.getElem_cons_zero]
          refine wpAnyH_done (by kernel_rfl) ?_ _
          replace d0 := Y.cell d0
          replace d1 := Y.cell d1
          replace d2 := Y.cell d2
          replace cA0 := Y.cell cA0
          replace cA1 := Y.cell cA1
          replace cA2 := Y.cell cA2
          replace cB0 := Y.cell cB0
          replace cB1 := Y.cell cB1
          replace cB2 := Y.cell cB2
          replace hcell := Y.cell hcell
          have hx2 := hx.trans Y
          have hi2 := Lib.hid (hi.out.ext Y)
          clear Y
          go_wp2_with fail
          have Y : Ext wt1 wt1 := Ext.refl _
          refine wp_region_held_drew (S := fun w' => w'.cell? ⟨w2.heap.size, 0, none⟩ = some (.int .i64 r1) ∧ w'.cell? ⟨w2.heap.size, 1, none⟩ = some (.int .i64 r2) ∧ w'.cell? ⟨w2.heap.size, 2, none⟩ = some (.int .i64 r3) ∧ w'.cell? ⟨w1.heap.size, 0, none⟩ = some (.int .i64 x) ∧ w'.cell? ⟨w1.heap.size, 1, none⟩ = some (.int .i64 y) ∧ w'.cell? ⟨w1.heap.size, 2, none⟩ = some (.int .i64 z) ∧ w'.cell? ⟨w1.heap.size + 1, 0, none⟩ = some (.int .i64 x2) ∧ w'.cell? ⟨w1.heap.size + 1, 1, none⟩ = some (.int .i64 y2) ∧ w'.cell? ⟨w1.heap.size + 1, 2, none⟩ = some (.int .i64 z2) ∧ w'.cell? ⟨b, off + k, none⟩ = some (.int .i64 q)) (by kernel_rfl) ⟨d0, d1, d2, cA0, cA1, cA2, cB0, cB1, cB2, hcell⟩ (fun hHeld => ?_)
          refine wpAnyH_take (i := 0) (v := ?_) rfl (by kernel_rfl) (by kernel_rfl) (by kernel_rfl) (fun _ _ _ h => h) (Or.inl ⟨by rfl, ?_⟩) (by assumption) ?_
          rotate_left
          · (intro w hSw; (try dsimp only at hSw); go_simp; try with_reducible rfl)
          try simp only [Act.put, List.setIfInBounds_toArray, List.set_cons_zero, List.set_cons_succ, List.getElem_toArray, List.getElem_cons_zero]
          refine wpAnyH_take (i := 1) (v := ?_) rfl (by kernel_rfl) (by kernel_rfl) (by kernel_rfl) (fun _ _ _ h => h) (Or.inl ⟨by rfl, ?_⟩) (by assumption) ?_
          rotate_left
          · (intro w hSw; (try dsimp only at hSw); go_simp; try with_reducible rfl)
          try simp only [Act.put, List.setIfInBounds_toArray, List.set_cons_zero, List.set_cons_succ, List.getElem_toArray, List.getElem_cons_succ, List.getElem_cons_zero]
          refine wpAnyH_take (i := 2) (v := ?_) rfl (by kernel_rfl) (by kernel_rfl) (by kernel_rfl) (fun _ _ _ h => h) (Or.inl ⟨by rfl, ?_⟩) (by assumption) ?_
          rotate_left
          · (intro w hSw; (try dsimp only at hSw); go_simp; try with_reducible rfl)
          try simp only [Act.put, List.setIfInBounds_toArray, List.set_cons_zero, List.set_cons_succ, List.getElem_toArray, List.getElem_cons_succ, List.getElem_cons_zero]
          refine wpAnyH_take (i := 3) (v := ?_) rfl (by kernel_rfl) (by kernel_rfl) (by kernel_rfl) (fun _ _ _ h => h) (Or.inl ⟨by rfl, ?_⟩) (by assumption) ?_
          rotate_left
          · (intro w hSw; (try dsimp only at hSw); go_simp; try with_reducible rfl)
          try simp only [Act.put, List.setIfInBounds_toArray, List.set_cons_zero, List.set_cons_succ, List.getElem_toArray, List.getElem_cons_succ, List.getElem_cons_zero]
          refine wpAnyH_take (i := 4) (v := ?_) rfl (by kernel_rfl) (by kernel_rfl) (by kernel_rfl) (fun _ _ _ h => h) (Or.inl ⟨by rfl, ?_⟩) (by assumption) ?_
          rotate_left
          · (intro w hSw; (try dsimp only at hSw); go_simp; try with_reducible rfl)
          try simp only [Act.put, List.setIfInBounds_toArray, List.set_cons_zero, List.set_cons_succ, List.getElem_toArray, List.getElem_cons_succ, List.getElem_cons_zero]
          refine wpAnyH_ready (rs := [5]) (by kernel_rfl) (by simp) ?_
          refine AllReadyH.cons rfl (fun K hK => ?_) AllReadyH.nil
          try simp only [Act.put, List.setIfInBounds_toArray, List.set_cons_zero, List.set_cons_succ, List.getElem_toArray, List.getElem_cons_succ, List.getElem_cons_zero]
          go_simp
          refine (implPlaceOf_c r1 r2 r3 q _).mono ?_
          rintro e wu1 ⟨rfl, xx⟩
          have Y : Ext wt1 wu1 := Ext.trans (by repeat (first | exact Y | exact Ext.refl _ | apply Ext.drewN | apply Ext.drew | apply Ext.alloc)) xx
          refine hK.out _ _ ⟨Y.cell d0, Y.cell d1, Y.cell d2, Y.cell cA0, Y.cell cA1, Y.cell cA2, Y.cell cB0, Y.cell cB1, Y.cell cB2, Y.cell hcell⟩ (fun hHeld => ?_)
          clear hK K
          try simp only [Act.put, List.setIfInBounds_toArray, List.set_cons_zero, List.set_cons_succ, List.getElem_toArray, List.getElem_cons_succ, List.getElem_cons_zero]
          refine wpAnyH_take (i := 6) (v := ?_) rfl (by kernel_rfl) (by kernel_rfl) (by kernel_rfl) (fun _ _ _ h => h) (Or.inl ⟨by rfl, ?_⟩) (by assumption) ?_
          rotate_left
          · (intro w hSw; (try dsimp only at hSw); go_simp; try with_reducible rfl)
          try simp only [Act.put, List.setIfInBounds_toArray, List.set_cons_zero, List.set_cons_succ, List.getElem_toArray, List.getElem_cons_succ, List.getElem_cons_zero]
          refine wpAnyH_done (by kernel_rfl) ?_ _
          replace d0 := Y.cell d0
          replace d1 := Y.cell d1
          replace d2 := Y.cell d2
          replace cA0 := Y.cell cA0
          replace cA1 := Y.cell cA1
          replace cA2 := Y.cell cA2
          replace cB0 := Y.cell cB0
          replace cB1 := Y.cell cB1
          replace cB2 := Y.cell cB2
          have hx3 := hx2.trans Y
          have hi3 := Lib.hid (hi2.out.ext Y)
          clear Y
          go_wp2_with fail
          go_roundw
          case rel => exact ⟨k+1, by omega, by go_num, by rw [hs'.out], hi3.out, hx3, d0, d1, d2, cA0, cA1, cA2, cB0, cB1, cB2⟩
          case measure => simp [intOf]; omega
        · have hs' := Lib.hid (show cntB (xs.take (k+1)) (numL x2 y2 z2) = cntB (xs.take k) (numL x2 y2 z2) by rw [hs, if_neg (fun h => hq (hpp.2 h)), Int.add_zero])
          have hq' : rplaceA x2 y2 z2 q < 0 := by omega
          clear hs hpp
          go_wp2_with fail
          have Y : Ext wr wr := Ext.refl _
          refine wp_region_held_drew (S := fun w' => w'.cell? ⟨w2.heap.size, 0, none⟩ = some (.int .i64 r1) ∧ w'.cell? ⟨w2.heap.size, 1, none⟩ = some (.int .i64 r2) ∧ w'.cell? ⟨w2.heap.size, 2, none⟩ = some (.int .i64 r3) ∧ w'.cell? ⟨w1.heap.size, 0, none⟩ = some (.int .i64 x) ∧ w'.cell? ⟨w1.heap.size, 1, none⟩ = some (.int .i64 y) ∧ w'.cell? ⟨w1.heap.size, 2, none⟩ = some (.int .i64 z) ∧ w'.cell? ⟨w1.heap.size + 1, 0, none⟩ = some (.int .i64 x2) ∧ w'.cell? ⟨w1.heap.size + 1, 1, none⟩ = some (.int .i64 y2) ∧ w'.cell? ⟨w1.heap.size + 1, 2, none⟩ = some (.int .i64 z2) ∧ w'.cell? ⟨b, off + k, none⟩ = some (.int .i64 q)) (by kernel_rfl) ⟨d0, d1, d2, cA0, cA1, cA2, cB0, cB1, cB2, hcell⟩ (fun hHeld => ?_)
          refine wpAnyH_take (i := 0) (v := ?_) rfl (by kernel_rfl) (by kernel_rfl) (by kernel_rfl) (fun _ _ _ h => h) (Or.inl ⟨by rfl, ?_⟩) (by assumption) ?_
          rotate_left
          · (intro w hSw; (try dsimp only at hSw); go_simp; try with_reducible rfl)
          try simp only [Act.put, List.setIfInBounds_toArray, List.set_cons_zero, List.set_cons_succ, List.getElem_toArray, List.getElem_cons_zero]
          refine wpAnyH_take (i := 1) (v := ?_) rfl (by kernel_rfl) (by kernel_rfl) (by kernel_rfl) (fun _ _ _ h => h) (Or.inl ⟨by rfl, ?_⟩) (by assumption) ?_
          rotate_left
          · (intro w hSw; (try dsimp only at hSw); go_simp; try with_reducible rfl)
          try simp only [Act.put, List.setIfInBounds_toArray, List.set_cons_zero, List.set_cons_succ, List.getElem_toArray, List.getElem_cons_succ, List.getElem_cons_zero]
          refine wpAnyH_take (i := 2) (v := ?_) rfl (by kernel_rfl) (by kernel_rfl) (by kernel_rfl) (fun _ _ _ h => h) (Or.inl ⟨by rfl, ?_⟩) (by assumption) ?_
          rotate_left
          · (intro w hSw; (try dsimp only at hSw); go_simp; try with_reducible rfl)
          try simp only [Act.put, List.setIfInBounds_toArray, List.set_cons_zero, List.set_cons_succ, List.getElem_toArray, List.getElem_cons_succ, List.getElem_cons_zero]
          refine wpAnyH_take (i := 3) (v := ?_) rfl (by kernel_rfl) (by kernel_rfl) (by kernel_rfl) (fun _ _ _ h => h) (Or.inl ⟨by rfl, ?_⟩) (by assumption) ?_
          rotate_left
          · (intro w hSw; (try dsimp only at hSw); go_simp; try with_reducible rfl)
          try simp only [Act.put, List.setIfInBounds_toArray, List.set_cons_zero, List.set_cons_succ, List.getElem_toArray, List.getElem_cons_succ, List.getElem_cons_zero]
          refine wpAnyH_take (i := 4) (v := ?_) rfl (by kernel_rfl) (by kernel_rfl) (by kernel_rfl) (fun _ _ _ h => h) (Or.inl ⟨by rfl, ?_⟩) (by assumption) ?_
          rotate_left
          · (intro w hSw; (try dsimp only at hSw); go_simp; try with_reducible rfl)
          try simp only [Act.put, List.setIfInBounds_toArray, List.set_cons_zero, List.set_cons_succ, List.getElem_toArray, List.getElem_cons_succ, List.getElem_cons_zero]
          refine wpAnyH_ready (rs := [5]) (by kernel_rfl) (by simp) ?_
          refine AllReadyH.cons rfl (fun K hK => ?_) AllReadyH.nil
          try simp only [Act.put, List.setIfInBounds_toArray, List.set_cons_zero, List.set_cons_succ, List.getElem_toArray, List.getElem_cons_succ, List.getElem_cons_zero]
          go_simp
          refine (implPlaceOf_c x2 y2 z2 q _).mono ?_
          rintro e wt1 ⟨rfl, xx⟩
          have Y : Ext wr wt1 := Ext.trans (by repeat (first | exact Y | exact Ext.refl _ | apply Ext.drewN | apply Ext.drew | apply Ext.alloc)) xx
          refine hK.out _ _ ⟨Y.cell d0, Y.cell d1, Y.cell d2, Y.cell cA0, Y.cell cA1, Y.cell cA2, Y.cell cB0, Y.cell cB1, Y.cell cB2, Y.cell hcell⟩ (fun hHeld => ?_)
          clear hK K
          try simp only [Act.put, List.setIfInBounds_toArray, List.set_cons_zero, List.set_cons_succ, List.getElem_toArray, List.getElem_cons_succ, List.getElem_cons_zero]
          refine wpAnyH_take (i := 6) (v := ?_) rfl (by kernel_rfl) (by kernel_rfl) (by kernel_rfl) (fun _ _ _ h => h) (Or.inl ⟨by rfl, ?_⟩) (by assumption) ?_
          rotate_left
          · (intro w hSw; (try dsimp only at hSw); go_simp; try with_reducible rfl)
          try simp only [Act.put, List.setIfInBounds_toArray, List.set_cons_zero, List.set_cons_succ, List.getElem_toArray, List.getElem_cons_succ, List.getElem_cons_zero]
          refine wpAnyH_done (by kernel_rfl) ?_ _
          replace d0 := Y.cell d0
          replace d1 := Y.cell d1
          replace d2 := Y.cell d2
          replace cA0 := Y.cell cA0
          replace cA1 := Y.cell cA1
          replace cA2 := Y.cell cA2
          replace cB0 := Y.cell cB0
          replace cB1 := Y.cell cB1
          replace cB2 := Y.cell cB2
          have hx2 := hx.trans Y
          have hi2 := Lib.hid (hi.out.ext Y)
          clear Y
          go_wp2_with fail
          go_roundw
          case rel => exact ⟨k+1, by omega, by go_num, by rw [hs'.out], hi2.out, hx2, d0, d1, d2, cA0, cA1, cA2, cB0, cB1, cB2⟩
          case measure => simp [intOf]; omega
      · obtain rfl : k = xs.length := by omega
        rw [List.take_length] at hcb ⊢
        clear hi hcb2
        go_wp2_with fail
        have Y : Ext wr wr := Ext.refl _
        refine wp_region_held_drew (S := fun w' => w'.cell? ⟨w2.heap.size, 0, none⟩ = some (.int .i64 r1) ∧ w'.cell? ⟨w2.heap.size, 1, none⟩ = some (.int .i64 r2) ∧ w'.cell? ⟨w2.heap.size, 2, none⟩ = some (.int .i64 r3) ∧ w'.cell? ⟨w1.heap.size, 0, none⟩ = some (.int .i64 x) ∧ w'.cell? ⟨w1.heap.size, 1, none⟩ = some (.int .i64 y) ∧ w'.cell? ⟨w1.heap.size, 2, none⟩ = some (.int .i64 z) ∧ w'.cell? ⟨w1.heap.size + 1, 0, none⟩ = some (.int .i64 x2) ∧ w'.cell? ⟨w1.heap.size + 1, 1, none⟩ = some (.int .i64 y2) ∧ w'.cell? ⟨w1.heap.size + 1, 2, none⟩ = some (.int .i64 z2)) (by kernel_rfl) ⟨d0, d1, d2, cA0, cA1, cA2, cB0, cB1, cB2⟩ (fun hHeld => ?_)
        refine wpAnyH_take (i := 0) (v := ?_) rfl (by kernel_rfl) (by kernel_rfl) (by kernel_rfl) (fun _ _ _ h => h) (Or.inl ⟨by rfl, ?_⟩) (by assumption) ?_
        rotate_left
        · (intro w hSw; (try dsimp only at hSw); go_simp; try with_reducible rfl)
        try simp only [Act.put, List.setIfInBounds_toArray, List.set_cons_zero, List.set_cons_succ, List.getElem_toArray, List.getElem_cons_zero]
        refine wpAnyH_take (i := 1) (v := ?_) rfl (by kernel_rfl) (by kernel_rfl) (by kernel_rfl) (fun _ _ _ h => h) (Or.inl ⟨by rfl, ?_⟩) (by assumption) ?_
        rotate_left
        · (intro w hSw; (try dsimp only at hSw); go_simp; try with_reducible rfl)
        try simp only [Act.put, List.setIfInBounds_toArray, List.set_cons_zero, List.set_cons_succ, List.getElem_toArray, List.getElem_cons_succ, List.getElem_cons_zero]
        refine wpAnyH_ready (rs := [2]) (by kernel_rfl) (by simp) ?_
        refine AllReadyH.cons rfl (fun K hK => ?_) AllReadyH.nil
        try simp only [Act.put, List.setIfInBounds_toArray, List.set_cons_zero, List.set_cons_succ, List.getElem_toArray, List.getElem_cons_succ, List.getElem_cons_zero]
        go_simp
        refine (hL.out _).mono ?_
        rintro e wt1 ⟨rfl, xx⟩
        have Y : Ext wr wt1 := Ext.trans (by repeat (first | exact Y | exact Ext.refl _ | apply Ext.drewN | apply Ext.drew | apply Ext.alloc)) xx
        refine hK.out _ _ ⟨Y.cell d0, Y.cell d1, Y.cell d2, Y.cell cA0, Y.cell cA1, Y.cell cA2, Y.cell cB0, Y.cell cB1, Y.cell cB2⟩ (fun hHeld => ?_)
        clear hK K
        try simp only [Act.put, List.setIfInBounds_toArray, List.set_cons_zero, List.set_cons_succ, List.getElem_toArray, List.getElem_cons_succ, List.getElem_cons_zero]
        refine wpAnyH_take (i := 3) (v := ?_) rfl (by kernel_rfl) (by kernel_rfl) (by kernel_rfl) (fun _ _ _ h => h) (Or.inl ⟨by rfl, ?_⟩) (by assumption) ?_
        rotate_left
        · (intro w hSw; (try dsimp only at hSw); go_simp; try with_reducible rfl)
        try simp only [Act.put, List.setIfInBounds_toArray, List.set_cons_zero, List.set_cons_succ, List.getElem_toArray, List.getElem_cons_succ, List.getElem_cons_zero]
        refine wpAnyH_take (i := 4) (v := ?_) rfl (by kernel_rfl) (by kernel_rfl) (by kernel_rfl) (fun _ _ _ h => h) (Or.inl ⟨by rfl, ?_⟩) (by assumption) ?_
        rotate_left
        · (intro w hSw; (try dsimp only at hSw); go_simp; try with_reducible rfl)
        try simp only [Act.put, List.setIfInBounds_toArray, List.set_cons_zero, List.set_cons_succ, List.getElem_toArray, List.getElem_cons_succ, List.getElem_cons_zero]
        refine wpAnyH_take (i := 5) (v := ?_) rfl (by kernel_rfl) (by kernel_rfl) (by kernel_rfl) (fun _ _ _ h => h) (Or.inl ⟨by rfl, ?_⟩) (by assumption) ?_
        rotate_left
        · (intro w hSw; (try dsimp only at hSw); go_simp; try with_reducible rfl)
        try simp only [Act.put, List.setIfInBounds_toArray, List.set_cons_zero, List.set_cons_succ, List.getElem_toArray, List.getElem_cons_succ, List.getElem_cons_zero]
        refine wpAnyH_ready (rs := [6]) (by kernel_rfl) (by simp) ?_
        refine AllReadyH.cons rfl (fun K hK => ?_) AllReadyH.nil
        try simp only [Act.put, List.setIfInBounds_toArray, List.set_cons_zero, List.set_cons_succ, List.getElem_toArray, List.getElem_cons_succ, List.getElem_cons_zero]
        go_simp
        refine (implNumbersOf_c r1 r2 r3 _).mono ?_
        rintro e wt2 ⟨v6, rfl, i6, -, xx⟩
        have Y : Ext wr wt2 := Ext.trans (by repeat (first | exact Y | exact Ext.refl _ | apply Ext.drewN | apply Ext.drew | apply Ext.alloc)) xx
        obtain ⟨p6, q6, rfl⟩ := i6.form
        refine hK.out _ _ ⟨Y.cell d0, Y.cell d1, Y.cell d2, Y.cell cA0, Y.cell cA1, Y.cell cA2, Y.cell cB0, Y.cell cB1, Y.cell cB2⟩ (fun hHeld => ?_)
        clear hK K
        try simp only [Act.put, List.setIfInBounds_toArray, List.set_cons_zero, List.set_cons_succ, List.getElem_toArray, List.getElem_cons_succ, List.getElem_cons_zero]
        refine wpAnyH_ready (rs := [7]) (by kernel_rfl) (by simp) ?_
        refine AllReadyH.cons rfl (fun K hK => ?_) AllReadyH.nil
        try simp only [Act.put, List.setIfInBounds_toArray, List.set_cons_zero, List.set_cons_succ, List.getElem_toArray, List.getElem_cons_succ, List.getElem_cons_zero]
        go_simp
        refine (ascends_c _ _ _ _ (i6.ext (by repeat (first | exact Ext.refl _ | assumption | apply Ext.drewN | apply Ext.drew | apply Ext.alloc))) hN.out).mono ?_
        rintro e wt3 ⟨rfl, xx⟩
        have Y : Ext wr wt3 := Ext.trans (by repeat (first | exact Y | exact Ext.refl _ | apply Ext.drewN | apply Ext.drew | apply Ext.alloc)) xx
        replace i6 := i6.ext (Ext.trans (by repeat (first | exact Ext.refl _ | assumption | apply Ext.drewN | apply Ext.drew | apply Ext.alloc)) xx)
        refine hK.out _ _ ⟨Y.cell d0, Y.cell d1, Y.cell d2, Y.cell cA0, Y.cell cA1, Y.cell cA2, Y.cell cB0, Y.cell cB1, Y.cell cB2⟩ (fun hHeld => ?_)
        clear hK K
        try simp only [Act.put, List.setIfInBounds_toArray, List.set_cons_zero, List.set_cons_succ, List.getElem_toArray, List.getElem_cons_succ, List.getElem_cons_zero]
        refine wpAnyH_take (i := 8) (v := ?_) rfl (by kernel_rfl) (by kernel_rfl) (by kernel_rfl) (fun _ _ _ h => h) (Or.inl ⟨by rfl, ?_⟩) (by assumption) ?_
        rotate_left
        · (intro w hSw; (try dsimp only at hSw); go_simp; try with_reducible rfl)
        try simp only [Act.put, List.setIfInBounds_toArray, List.set_cons_zero, List.set_cons_succ, List.getElem_toArray, List.getElem_cons_succ, List.getElem_cons_zero]
        refine wpAnyH_take (i := 9) (v := ?_) rfl (by kernel_rfl) (by kernel_rfl) (by kernel_rfl) (fun _ _ _ h => h) (Or.inl ⟨by rfl, ?_⟩) (by assumption) ?_
        rotate_left
        · (intro w hSw; (try dsimp only at hSw); go_simp; try with_reducible rfl)
        try simp only [Act.put, List.setIfInBounds_toArray, List.set_cons_zero, List.set_cons_succ, List.getElem_toArray, List.getElem_cons_succ, List.getElem_cons_zero]
        refine wpAnyH_take (i := 10) (v := ?_) rfl (by kernel_rfl) (by kernel_rfl) (by kernel_rfl) (fun _ _ _ h => h) (Or.inl ⟨by rfl, ?_⟩) (by assumption) ?_
        rotate_left
        · (intro w hSw; (try dsimp only at hSw); go_simp; try with_reducible rfl)
        try simp only [Act.put, List.setIfInBounds_toArray, List.set_cons_zero, List.set_cons_succ, List.getElem_toArray, List.getElem_cons_succ, List.getElem_cons_zero]
        refine wpAnyH_take (i := 11) (v := ?_) rfl (by kernel_rfl) (by kernel_rfl) (by kernel_rfl) (fun _ _ _ h => h) (Or.inl ⟨by rfl, ?_⟩) (by assumption) ?_
        rotate_left
        · (intro w hSw; (try dsimp only at hSw); go_simp; try with_reducible rfl)
        try simp only [Act.put, List.setIfInBounds_toArray, List.set_cons_zero, List.set_cons_succ, List.getElem_toArray, List.getElem_cons_succ, List.getElem_cons_zero]
        refine wpAnyH_take (i := 13) (v := ?_) rfl (by kernel_rfl) (by kernel_rfl) (by kernel_rfl) (fun _ _ _ h => h) (Or.inl ⟨by rfl, ?_⟩) (by assumption) ?_
        rotate_left
        · (intro w hSw; (try dsimp only at hSw); go_simp; try with_reducible rfl)
        try simp only [Act.put, List.setIfInBounds_toArray, List.set_cons_zero, List.set_cons_succ, List.getElem_toArray, List.getElem_cons_succ, List.getElem_cons_zero]
        refine wpAnyH_ready (rs := [12]) (by kernel_rfl) (by simp) ?_
        refine AllReadyH.cons rfl (fun K hK => ?_) AllReadyH.nil
        try simp only [Act.put, List.setIfInBounds_toArray, List.set_cons_zero, List.set_cons_succ, List.getElem_toArray, List.getElem_cons_succ, List.getElem_cons_zero]
        go_simp
        refine (hS.out _).mono ?_
        rintro e wt4 ⟨rfl, xx⟩
        have Y : Ext wr wt4 := Ext.trans (by repeat (first | exact Y | exact Ext.refl _ | apply Ext.drewN | apply Ext.drew | apply Ext.alloc)) xx
        replace i6 := i6.ext (Ext.trans (by repeat (first | exact Ext.refl _ | assumption | apply Ext.drewN | apply Ext.drew | apply Ext.alloc)) xx)
        refine hK.out _ _ ⟨Y.cell d0, Y.cell d1, Y.cell d2, Y.cell cA0, Y.cell cA1, Y.cell cA2, Y.cell cB0, Y.cell cB1, Y.cell cB2⟩ (fun hHeld => ?_)
        clear hK K
        try simp only [Act.put, List.setIfInBounds_toArray, List.set_cons_zero, List.set_cons_succ, List.getElem_toArray, List.getElem_cons_succ, List.getElem_cons_zero]
        refine wpAnyH_take (i := 14) (v := ?_) rfl (by kernel_rfl) (by kernel_rfl) (by kernel_rfl) (fun _ _ _ h => h) (Or.inl ⟨by rfl, ?_⟩) (by assumption) ?_
        rotate_left
        · (intro w hSw; (try dsimp only at hSw); go_simp; try with_reducible rfl)
        try simp only [Act.put, List.setIfInBounds_toArray, List.set_cons_zero, List.set_cons_succ, List.getElem_toArray, List.getElem_cons_succ, List.getElem_cons_zero]
        refine wpAnyH_take (i := 15) (v := ?_) rfl (by kernel_rfl) (by kernel_rfl) (by kernel_rfl) (fun _ _ _ h => h) (Or.inl ⟨by rfl, ?_⟩) (by assumption) ?_
        rotate_left
        · (intro w hSw; (try dsimp only at hSw); go_simp; try with_reducible rfl)
        try simp only [Act.put, List.setIfInBounds_toArray, List.set_cons_zero, List.set_cons_succ, List.getElem_toArray, List.getElem_cons_succ, List.getElem_cons_zero]
        refine wpAnyH_take (i := 16) (v := ?_) rfl (by kernel_rfl) (by kernel_rfl) (by kernel_rfl) (fun _ _ _ h => h) (Or.inl ⟨by rfl, ?_⟩) (by assumption) ?_
        rotate_left
        · (intro w hSw; (try dsimp only at hSw); go_simp; try with_reducible rfl)
        try simp only [Act.put, List.setIfInBounds_toArray, List.set_cons_zero, List.set_cons_succ, List.getElem_toArray, List.getElem_cons_succ, List.getElem_cons_zero]
        refine wpAnyH_take (i := 17) (v := ?_) rfl (by kernel_rfl) (by kernel_rfl) (by kernel_rfl) (fun _ _ _ h => h) (Or.inl ⟨by rfl, ?_⟩) (by assumption) ?_
        rotate_left
        · (intro w hSw; (try dsimp only at hSw); go_simp; try with_reducible rfl)
        try simp only [Act.put, List.setIfInBounds_toArray, List.set_cons_zero, List.set_cons_succ, List.getElem_toArray, List.getElem_cons_succ, List.getElem_cons_zero]
        refine wpAnyH_take (i := 18) (v := ?_) rfl (by kernel_rfl) (by kernel_rfl) (by kernel_rfl) (fun _ _ _ h => h) (Or.inl ⟨by rfl, ?_⟩) (by assumption) ?_
        rotate_left
        · (intro w hSw; (try dsimp only at hSw); go_simp; try with_reducible rfl)
        try simp only [Act.put, List.setIfInBounds_toArray, List.set_cons_zero, List.set_cons_succ, List.getElem_toArray, List.getElem_cons_succ, List.getElem_cons_zero]
        refine wpAnyH_ready (rs := [19]) (by kernel_rfl) (by simp) ?_
        refine AllReadyH.cons rfl (fun K hK => ?_) AllReadyH.nil
        try simp only [Act.put, List.setIfInBounds_toArray, List.set_cons_zero, List.set_cons_succ, List.getElem_toArray, List.getElem_cons_succ, List.getElem_cons_zero]
        go_simp
        refine (hV1.out _).mono ?_
        rintro e wt5 ⟨rfl, xx⟩
        have Y : Ext wr wt5 := Ext.trans (by repeat (first | exact Y | exact Ext.refl _ | apply Ext.drewN | apply Ext.drew | apply Ext.alloc)) xx
        replace i6 := i6.ext (Ext.trans (by repeat (first | exact Ext.refl _ | assumption | apply Ext.drewN | apply Ext.drew | apply Ext.alloc)) xx)
        refine hK.out _ _ ⟨Y.cell d0, Y.cell d1, Y.cell d2, Y.cell cA0, Y.cell cA1, Y.cell cA2, Y.cell cB0, Y.cell cB1, Y.cell cB2⟩ (fun hHeld => ?_)
        clear hK K
        try simp only [Act.put, List.setIfInBounds_toArray, List.set_cons_zero, List.set_cons_succ, List.getElem_toArray, List.getElem_cons_succ, List.getElem_cons_zero]
        refine wpAnyH_take (i := 20) (v := ?_) rfl (by kernel_rfl) (by kernel_rfl) (by kernel_rfl) (fun _ _ _ h => h) (Or.inl ⟨by rfl, ?_⟩) (by assumption) ?_
        rotate_left
        · (intro w hSw; (try dsimp only at hSw); go_simp; try with_reducible rfl)
        try simp only [Act.put, List.setIfInBounds_toArray, List.set_cons_zero, List.set_cons_succ, List.getElem_toArray, List.getElem_cons_succ, List.getElem_cons_zero]
        refine wpAnyH_take (i := 21) (v := ?_) rfl (by kernel_rfl) (by kernel_rfl) (by kernel_rfl) (fun _ _ _ h => h) (Or.inl ⟨by rfl, ?_⟩) (by assumption) ?_
        rotate_left
        · (intro w hSw; (try dsimp only at hSw); go_simp; try with_reducible rfl)
        try simp only [Act.put, List.setIfInBounds_toArray, List.set_cons_zero, List.set_cons_succ, List.getElem_toArray, List.getElem_cons_succ, List.getElem_cons_zero]
        refine wpAnyH_take (i := 22) (v := ?_) rfl (by kernel_rfl) (by kernel_rfl) (by kernel_rfl) (fun _ _ _ h => h) (Or.inl ⟨by rfl, ?_⟩) (by assumption) ?_
        rotate_left
        · (intro w hSw; (try dsimp only at hSw); go_simp; try with_reducible rfl)
        try simp only [Act.put, List.setIfInBounds_toArray, List.set_cons_zero, List.set_cons_succ, List.getElem_toArray, List.getElem_cons_succ, List.getElem_cons_zero]
        refine wpAnyH_take (i := 23) (v := ?_) rfl (by kernel_rfl) (by kernel_rfl) (by kernel_rfl) (fun _ _ _ h => h) (Or.inl ⟨by rfl, ?_⟩) (by assumption) ?_
        rotate_left
        · (intro w hSw; (try dsimp only at hSw); go_simp; try with_reducible rfl)
        try simp only [Act.put, List.setIfInBounds_toArray, List.set_cons_zero, List.set_cons_succ, List.getElem_toArray, List.getElem_cons_succ, List.getElem_cons_zero]
        refine wpAnyH_ready (rs := [24]) (by kernel_rfl) (by simp) ?_
        refine AllReadyH.cons rfl (fun K hK => ?_) AllReadyH.nil
        try simp only [Act.put, List.setIfInBounds_toArray, List.set_cons_zero, List.set_cons_succ, List.getElem_toArray, List.getElem_cons_succ, List.getElem_cons_zero]
        go_simp
        refine (hV2.out _).mono ?_
        rintro e wt6 ⟨rfl, xx⟩
        have Y : Ext wr wt6 := Ext.trans (by repeat (first | exact Y | exact Ext.refl _ | apply Ext.drewN | apply Ext.drew | apply Ext.alloc)) xx
        replace i6 := i6.ext (Ext.trans (by repeat (first | exact Ext.refl _ | assumption | apply Ext.drewN | apply Ext.drew | apply Ext.alloc)) xx)
        refine hK.out _ _ ⟨Y.cell d0, Y.cell d1, Y.cell d2, Y.cell cA0, Y.cell cA1, Y.cell cA2, Y.cell cB0, Y.cell cB1, Y.cell cB2⟩ (fun hHeld => ?_)
        clear hK K
        try simp only [Act.put, List.setIfInBounds_toArray, List.set_cons_zero, List.set_cons_succ, List.getElem_toArray, List.getElem_cons_succ, List.getElem_cons_zero]
        refine wpAnyH_take (i := 25) (v := ?_) rfl (by kernel_rfl) (by kernel_rfl) (by kernel_rfl) (fun _ _ _ h => h) (Or.inl ⟨by rfl, ?_⟩) (by assumption) ?_
        rotate_left
        · (intro w hSw; (try dsimp only at hSw); go_simp; try with_reducible rfl)
        try simp only [Act.put, List.setIfInBounds_toArray, List.set_cons_zero, List.set_cons_succ, List.getElem_toArray, List.getElem_cons_succ, List.getElem_cons_zero]
        refine wpAnyH_take (i := 26) (v := ?_) rfl (by kernel_rfl) (by kernel_rfl) (by kernel_rfl) (fun _ _ _ h => h) (Or.inl ⟨by rfl, ?_⟩) (by assumption) ?_
        rotate_left
        · (intro w hSw; (try dsimp only at hSw); go_simp; try with_reducible rfl)
        try simp only [Act.put, List.setIfInBounds_toArray, List.set_cons_zero, List.set_cons_succ, List.getElem_toArray, List.getElem_cons_succ, List.getElem_cons_zero]
        refine wpAnyH_done (by kernel_rfl) ?_ _
        go_wp2_with fail
        go_ret
        exact ⟨rfl, hx.trans Y⟩
  · have h0 := hno.out hv
    rw [← hT.out] at h0
    cases h0
    clear hv hno hst hs0 hT
    revert d0 d1 d2 cA0 cA1 cA2 cB0 cB1 cB2 X3
    generalize (w2.alloc (.cells #[.int .i64 0, .int .i64 0, .int .i64 0] 24)) = w3
    intro X3 d0 d1 d2 cA0 cA1 cA2 cB0 cB1 cB2
    have Y : Ext w3 w3 := Ext.refl _
    refine wp_region_held_drew (S := fun w' => w'.cell? ⟨w2.heap.size, 0, none⟩ = some (.int .i64 0) ∧ w'.cell? ⟨w2.heap.size, 1, none⟩ = some (.int .i64 0) ∧ w'.cell? ⟨w2.heap.size, 2, none⟩ = some (.int .i64 0) ∧ w'.cell? ⟨w1.heap.size, 0, none⟩ = some (.int .i64 x) ∧ w'.cell? ⟨w1.heap.size, 1, none⟩ = some (.int .i64 y) ∧ w'.cell? ⟨w1.heap.size, 2, none⟩ = some (.int .i64 z) ∧ w'.cell? ⟨w1.heap.size + 1, 0, none⟩ = some (.int .i64 x2) ∧ w'.cell? ⟨w1.heap.size + 1, 1, none⟩ = some (.int .i64 y2) ∧ w'.cell? ⟨w1.heap.size + 1, 2, none⟩ = some (.int .i64 z2)) (by kernel_rfl) ⟨d0, d1, d2, cA0, cA1, cA2, cB0, cB1, cB2⟩ (fun hHeld => ?_)
    refine wpAnyH_take (i := 0) (v := ?_) rfl (by kernel_rfl) (by kernel_rfl) (by kernel_rfl) (fun _ _ _ h => h) (Or.inl ⟨by rfl, ?_⟩) (by assumption) ?_
    rotate_left
    · (intro w hSw; (try dsimp only at hSw); go_simp; try with_reducible rfl)
    try simp only [Act.put, List.setIfInBounds_toArray, List.set_cons_zero, List.set_cons_succ, List.getElem_toArray, List.getElem_cons_zero]
    refine wpAnyH_take (i := 1) (v := ?_) rfl (by kernel_rfl) (by kernel_rfl) (by kernel_rfl) (fun _ _ _ h => h) (Or.inl ⟨by rfl, ?_⟩) (by assumption) ?_
    rotate_left
    · (intro w hSw; (try dsimp only at hSw); go_simp; try with_reducible rfl)
    try simp only [Act.put, List.setIfInBounds_toArray, List.set_cons_zero, List.set_cons_succ, List.getElem_toArray, List.getElem_cons_succ, List.getElem_cons_zero]
    refine wpAnyH_take (i := 2) (v := ?_) rfl (by kernel_rfl) (by kernel_rfl) (by kernel_rfl) (fun _ _ _ h => h) (Or.inl ⟨by rfl, ?_⟩) (by assumption) ?_
    rotate_left
    · (intro w hSw; (try dsimp only at hSw); go_simp; try with_reducible rfl)
    try simp only [Act.put, List.setIfInBounds_toArray, List.set_cons_zero, List.set_cons_succ, List.getElem_toArray, List.getElem_cons_succ, List.getElem_cons_zero]
    refine wpAnyH_ready (rs := [3]) (by kernel_rfl) (by simp) ?_
    refine AllReadyH.cons rfl (fun K hK => ?_) AllReadyH.nil
    try simp only [Act.put, List.setIfInBounds_toArray, List.set_cons_zero, List.set_cons_succ, List.getElem_toArray, List.getElem_cons_succ, List.getElem_cons_zero]
    go_simp
    refine (hq.out _).mono ?_
    rintro e wr1 ⟨rfl, xx⟩
    have Y : Ext w3 wr1 := Ext.trans (by repeat (first | exact Y | exact Ext.refl _ | apply Ext.drewN | apply Ext.drew | apply Ext.alloc)) xx
    refine hK.out _ _ ⟨Y.cell d0, Y.cell d1, Y.cell d2, Y.cell cA0, Y.cell cA1, Y.cell cA2, Y.cell cB0, Y.cell cB1, Y.cell cB2⟩ (fun hHeld => ?_)
    clear hK K
    try simp only [Act.put, List.setIfInBounds_toArray, List.set_cons_zero, List.set_cons_succ, List.getElem_toArray, List.getElem_cons_succ, List.getElem_cons_zero]
    refine wpAnyH_ready (rs := [4]) (by kernel_rfl) (by simp) ?_
    refine AllReadyH.cons rfl (fun K hK => ?_) AllReadyH.nil
    try simp only [Act.put, List.setIfInBounds_toArray, List.set_cons_zero, List.set_cons_succ, List.getElem_toArray, List.getElem_cons_succ, List.getElem_cons_zero]
    go_simp
    refine (equalRange_c _ _ _ _).mono ?_
    rintro e wr2 ⟨rfl, xx⟩
    have Y : Ext w3 wr2 := Ext.trans (by repeat (first | exact Y | exact Ext.refl _ | apply Ext.drewN | apply Ext.drew | apply Ext.alloc)) xx
    refine hK.out _ _ ⟨Y.cell d0, Y.cell d1, Y.cell d2, Y.cell cA0, Y.cell cA1, Y.cell cA2, Y.cell cB0, Y.cell cB1, Y.cell cB2⟩ (fun hHeld => ?_)
    clear hK K
    try simp only [Act.put, List.setIfInBounds_toArray, List.set_cons_zero, List.set_cons_succ, List.getElem_toArray, List.getElem_cons_succ, List.getElem_cons_zero]
    refine wpAnyH_take (i := 5) (v := ?_) rfl (by kernel_rfl) (by kernel_rfl) (by kernel_rfl) (fun _ _ _ h => h) (Or.inl ⟨by rfl, ?_⟩) (by assumption) ?_
    rotate_left
    · (intro w hSw; (try dsimp only at hSw); go_simp; try with_reducible rfl)
    try simp only [Act.put, List.setIfInBounds_toArray, List.set_cons_zero, List.set_cons_succ, List.getElem_toArray, List.getElem_cons_succ, List.getElem_cons_zero]
    refine wpAnyH_take (i := 6) (v := ?_) rfl (by kernel_rfl) (by kernel_rfl) (by kernel_rfl) (fun _ _ _ h => h) (Or.inl ⟨by rfl, ?_⟩) (by assumption) ?_
    rotate_left
    · (intro w hSw; (try dsimp only at hSw); go_simp; try with_reducible rfl)
    try simp only [Act.put, List.setIfInBounds_toArray, List.set_cons_zero, List.set_cons_succ, List.getElem_toArray, List.getElem_cons_succ, List.getElem_cons_zero]
    refine wpAnyH_take (i := 7) (v := ?_) rfl (by kernel_rfl) (by kernel_rfl) (by kernel_rfl) (fun _ _ _ h => h) (Or.inl ⟨by rfl, ?_⟩) (by assumption) ?_
    rotate_left
    · (intro w hSw; (try dsimp only at hSw); go_simp; try with_reducible rfl)
    try simp only [Act.put, List.setIfInBounds_toArray, List.set_cons_zero, List.set_cons_succ, List.getElem_toArray, List.getElem_cons_succ, List.getElem_cons_zero]
    refine wpAnyH_take (i := 8) (v := ?_) rfl (by kernel_rfl) (by kernel_rfl) (by kernel_rfl) (fun _ _ _ h => h) (Or.inl ⟨by rfl, ?_⟩) (by assumption) ?_
    rotate_left
    · (intro w hSw; (try dsimp only at hSw); go_simp; try with_reducible rfl)
    try simp only [Act.put, List.setIfInBounds_toArray, List.set_cons_zero, List.set_cons_succ, List.getElem_toArray, List.getElem_cons_succ, List.getElem_cons_zero]
    refine wpAnyH_take (i := 9) (v := ?_) rfl (by kernel_rfl) (by kernel_rfl) (by kernel_rfl) (fun _ _ _ h => h) (Or.inl ⟨by rfl, ?_⟩) (by assumption) ?_
    rotate_left
    · (intro w hSw; (try dsimp only at hSw); go_simp; try with_reducible rfl)
    try simp only [Act.put, List.setIfInBounds_toArray, List.set_cons_zero, List.set_cons_succ, List.getElem_toArray, List.getElem_cons_succ, List.getElem_cons_zero]
    refine wpAnyH_take (i := 10) (v := ?_) rfl (by kernel_rfl) (by kernel_rfl) (by kernel_rfl) (fun _ _ _ h => h) (Or.inl ⟨by rfl, ?_⟩) (by assumption) ?_
    rotate_left
    · (intro w hSw; (try dsimp only at hSw); go_simp; try with_reducible rfl)
    try simp only [Act.put, List.setIfInBounds_toArray, List.set_cons_zero, List.set_cons_succ, List.getElem_toArray, List.getElem_cons_succ, List.getElem_cons_zero]
    refine wpAnyH_done (by kernel_rfl) ?_ _
    go_wp2_with fail
    replace d0 := Y.cell d0
    replace d1 := Y.cell d1
    replace d2 := Y.cell d2
    replace cA0 := Y.cell cA0
    replace cA1 := Y.cell cA1
    replace cA2 := Y.cell cA2
    replace cB0 := Y.cell cB0
    replace cB1 := Y.cell cB1
    replace cB2 := Y.cell cB2
    have X4 := X3.trans Y
    clear Y
    have Y : Ext wr2 wr2 := Ext.refl _
    refine wp_region_held_drew (S := fun w' => w'.cell? ⟨w2.heap.size, 0, none⟩ = some (.int .i64 0) ∧ w'.cell? ⟨w2.heap.size, 1, none⟩ = some (.int .i64 0) ∧ w'.cell? ⟨w2.heap.size, 2, none⟩ = some (.int .i64 0) ∧ w'.cell? ⟨w1.heap.size, 0, none⟩ = some (.int .i64 x) ∧ w'.cell? ⟨w1.heap.size, 1, none⟩ = some (.int .i64 y) ∧ w'.cell? ⟨w1.heap.size, 2, none⟩ = some (.int .i64 z) ∧ w'.cell? ⟨w1.heap.size + 1, 0, none⟩ = some (.int .i64 x2) ∧ w'.cell? ⟨w1.heap.size + 1, 1, none⟩ = some (.int .i64 y2) ∧ w'.cell? ⟨w1.heap.size + 1, 2, none⟩ = some (.int .i64 z2)) (by kernel_rfl) ⟨d0, d1, d2, cA0, cA1, cA2, cB0, cB1, cB2⟩ (fun hHeld => ?_)
    refine wpAnyH_take (i := 0) (v := ?_) rfl (by kernel_rfl) (by kernel_rfl) (by kernel_rfl) (fun _ _ _ h => h) (Or.inl ⟨by rfl, ?_⟩) (by assumption) ?_
    rotate_left
    · (intro w hSw; (try dsimp only at hSw); go_simp; try with_reducible rfl)
    try simp only [Act.put, List.setIfInBounds_toArray, List.set_cons_zero, List.set_cons_succ, List.getElem_toArray, List.getElem_cons_zero]
    refine wpAnyH_take (i := 1) (v := ?_) rfl (by kernel_rfl) (by kernel_rfl) (by kernel_rfl) (fun _ _ _ h => h) (Or.inl ⟨by rfl, ?_⟩) (by assumption) ?_
    rotate_left
    · (intro w hSw; (try dsimp only at hSw); go_simp; try with_reducible rfl)
    try simp only [Act.put, List.setIfInBounds_toArray, List.set_cons_zero, List.set_cons_succ, List.getElem_toArray, List.getElem_cons_succ, List.getElem_cons_zero]
    refine wpAnyH_take (i := 2) (v := ?_) rfl (by kernel_rfl) (by kernel_rfl) (by kernel_rfl) (fun _ _ _ h => h) (Or.inl ⟨by rfl, ?_⟩) (by assumption) ?_
    rotate_left
    · (intro w hSw; (try dsimp only at hSw); go_simp; try with_reducible rfl)
    try simp only [Act.put, List.setIfInBounds_toArray, List.set_cons_zero, List.set_cons_succ, List.getElem_toArray, List.getElem_cons_succ, List.getElem_cons_zero]
    refine wpAnyH_ready (rs := [3]) (by kernel_rfl) (by simp) ?_
    refine AllReadyH.cons rfl (fun K hK => ?_) AllReadyH.nil
    try simp only [Act.put, List.setIfInBounds_toArray, List.set_cons_zero, List.set_cons_succ, List.getElem_toArray, List.getElem_cons_succ, List.getElem_cons_zero]
    go_simp
    refine (hq.out _).mono ?_
    rintro e ws1 ⟨rfl, xx⟩
    have Y : Ext wr2 ws1 := Ext.trans (by repeat (first | exact Y | exact Ext.refl _ | apply Ext.drewN | apply Ext.drew | apply Ext.alloc)) xx
    refine hK.out _ _ ⟨Y.cell d0, Y.cell d1, Y.cell d2, Y.cell cA0, Y.cell cA1, Y.cell cA2, Y.cell cB0, Y.cell cB1, Y.cell cB2⟩ (fun hHeld => ?_)
    clear hK K
    try simp only [Act.put, List.setIfInBounds_toArray, List.set_cons_zero, List.set_cons_succ, List.getElem_toArray, List.getElem_cons_succ, List.getElem_cons_zero]
    refine wpAnyH_ready (rs := [4]) (by kernel_rfl) (by simp) ?_
    refine AllReadyH.cons rfl (fun K hK => ?_) AllReadyH.nil
    try simp only [Act.put, List.setIfInBounds_toArray, List.set_cons_zero, List.set_cons_succ, List.getElem_toArray, List.getElem_cons_succ, List.getElem_cons_zero]
    go_simp
    refine (equalRange_c _ _ _ _).mono ?_
    rintro e ws2 ⟨rfl, xx⟩
    have Y : Ext wr2 ws2 := Ext.trans (by repeat (first | exact Y | exact Ext.refl _ | apply Ext.drewN | apply Ext.drew | apply Ext.alloc)) xx
    refine hK.out _ _ ⟨Y.cell d0, Y.cell d1, Y.cell d2, Y.cell cA0, Y.cell cA1, Y.cell cA2, Y.cell cB0, Y.cell cB1, Y.cell cB2⟩ (fun hHeld => ?_)
    clear hK K
    try simp only [Act.put, List.setIfInBounds_toArray, List.set_cons_zero, List.set_cons_succ, List.getElem_toArray, List.getElem_cons_succ, List.getElem_cons_zero]
    refine wpAnyH_take (i := 5) (v := ?_) rfl (by kernel_rfl) (by kernel_rfl) (by kernel_rfl) (fun _ _ _ h => h) (Or.inl ⟨by rfl, ?_⟩) (by assumption) ?_
    rotate_left
    · (intro w hSw; (try dsimp only at hSw); go_simp; try with_reducible rfl)
    try simp only [Act.put, List.setIfInBounds_toArray, List.set_cons_zero, List.set_cons_succ, List.getElem_toArray, List.getElem_cons_succ, List.getElem_cons_zero]
    refine wpAnyH_done (by kernel_rfl) ?_ _
    go_wp2_with fail
    go_ret
    exact ⟨rfl, X4.trans Y⟩
end Go.Proofs.Ytjpngmdfnglabaa
