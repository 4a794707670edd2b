/- FnCoversRange returns true for all bytes: no condition. -/
import Derived.Test.YtjpngmdfnglabaaRngI
import Derived.Test.YtjpngmdfnglabaaRngH
namespace Go.Proofs.Ytjpngmdfnglabaa
open Go.RowKit
set_option linter.unusedVariables false
set_option maxRecDepth 100000

set_option maxHeartbeats 3200000 in
theorem lawFnCoversRange_c (a : Option Addr) (n cap : Nat) (w : World) (hb : BysIn w a n cap) :
    Calls Try.prog 5 #[.slice a n cap] w fun e w' => e = .returned (.bool true) ∧ Ext w w' := by
  have hcm := hb.1
  have hcm2 := hb.2.1
  unfold maxLen at hcm2
  by_cases hbig : 1048576 < n
  · have hI : (1048576 : Int) < n := by omega
    go_enter Try.func5, Try.ntmps5
    go_wp2_with fail
    go_ret
    exact ⟨rfl, (by repeat (first | exact Ext.refl _ | assumption | apply Ext.drewN | apply Ext.drew | apply Ext.alloc))⟩
  have hI : ¬ (1048576 : Int) < n := by omega
  go_enter Try.func5, Try.ntmps5
  go_wp2_with fail
  refine (drawCoversRange_c a n cap _ hb).mono ?_
  rintro e w1 ⟨x, y, z, x2, y2, z2, rfl, X1⟩
  clear hb hI hbig
  have hlen := Lib.hid (rcov_len (x := x) (y := y) (z := z) (x2 := x2) (y2 := y2) (z2 := z2))
  have hself := Lib.hid (rcov_self (x := x) (y := y) (z := z))
  go_wp2_with fail
  refine (implCoversRange_c x y z x2 y2 z2 _).mono ?_
  rintro e w2 ⟨rfl, xx⟩
  have X2 : Ext w w2 := X1.trans (Ext.trans (by repeat (first | exact Ext.refl _ | assumption | apply Ext.drewN | apply Ext.drew | apply Ext.alloc)) xx)
  have cA0 : w2.cell? ⟨w1.heap.size, 0, none⟩ = some (.int .i64 x) := xx.cell (by first | (simp; done) | ((repeat rw [World.cell?_alloc_lt _ _ _ (by simp <;> omega)]); simp; done) | (go_simp; done))
  have cA1 : w2.cell? ⟨w1.heap.size, 1, none⟩ = some (.int .i64 y) := xx.cell (by first | (simp; done) | ((repeat rw [World.cell?_alloc_lt _ _ _ (by simp <;> omega)]); simp; done) | (go_simp; done))
  have cA2 : w2.cell? ⟨w1.heap.size, 2, none⟩ = some (.int .i64 z) := xx.cell (by first | (simp; done) | ((repeat rw [World.cell?_alloc_lt _ _ _ (by simp <;> omega)]); simp; done) | (go_simp; done))
  have cB0 : w2.cell? ⟨w1.heap.size + 1, 0, none⟩ = some (.int .i64 x2) := xx.cell (by first | (simp; done) | ((repeat rw [World.cell?_alloc_lt _ _ _ (by simp <;> omega)]); simp; done) | (go_simp; done))
  have cB1 : w2.cell? ⟨w1.heap.size + 1, 1, none⟩ = some (.int .i64 y2) := xx.cell (by first | (simp; done) | ((repeat rw [World.cell?_alloc_lt _ _ _ (by simp <;> omega)]); simp; done) | (go_simp; done))
  have cB2 : w2.cell? ⟨w1.heap.size + 1, 2, none⟩ = some (.int .i64 z2) := xx.cell (by first | (simp; done) | ((repeat rw [World.cell?_alloc_lt _ _ _ (by simp <;> omega)]); simp; done) | (go_simp; done))
  have z2' : w1.heap.size + 1 < w2.heap.size := World.block_lt_of_cell? _ _ cB2
  have z1' : w1.heap.size < w2.heap.size := by omega
  clear xx X1
  go_wp2_with fail
  refine (specCoversRange_c x y z x2 y2 z2 _).mono ?_
  rintro e w3 ⟨rfl, xx⟩
  have X3 : Ext w w3 := X2.trans (Ext.trans (by repeat (first | exact Ext.refl _ | assumption | apply Ext.drewN | apply Ext.drew | apply Ext.alloc)) xx)
  replace cA0 := (Ext.trans (by repeat (first | exact Ext.refl _ | assumption | apply Ext.drewN | apply Ext.drew | apply Ext.alloc)) xx : Ext w2 w3).cell cA0
  replace cA1 := (Ext.trans (by repeat (first | exact Ext.refl _ | assumption | apply Ext.drewN | apply Ext.drew | apply Ext.alloc)) xx : Ext w2 w3).cell cA1
  replace cA2 := (Ext.trans (by repeat (first | exact Ext.refl _ | assumption | apply Ext.drewN | apply Ext.drew | apply Ext.alloc)) xx : Ext w2 w3).cell cA2
  replace cB0 := (Ext.trans (by repeat (first | exact Ext.refl _ | assumption | apply Ext.drewN | apply Ext.drew | apply Ext.alloc)) xx : Ext w2 w3).cell cB0
  replace cB1 := (Ext.trans (by repeat (first | exact Ext.refl _ | assumption | apply Ext.drewN | apply Ext.drew | apply Ext.alloc)) xx : Ext w2 w3).cell cB1
  replace cB2 := (Ext.trans (by repeat (first | exact Ext.refl _ | assumption | apply Ext.drewN | apply Ext.drew | apply Ext.alloc)) xx : Ext w2 w3).cell cB2
  have lz1 : w1.heap.size + 1 < w3.heap.size := World.block_lt_of_cell? _ _ cB2
  have lz2 : w1.heap.size < w3.heap.size := by omega
  clear xx
  have hcov : ∀ W : World, Calls Try.prog 20 #[.agg #[.int .i64 x, .int .i64 y, .int .i64 z], .agg #[.int .i64 x2, .int .i64 y2, .int .i64 z2]] W (fun e w' => e = .returned (.bool (rcovB x y z x2 y2 z2)) ∧ Ext W w') := fun W => specCoversRange_c x y z x2 y2 z2 W
  replace hcov := Lib.hid hcov
  have hmt : ∀ W : World, Calls Try.prog 11 #[.agg #[.int .i64 x, .int .i64 y, .int .i64 z], .agg #[.int .i64 x2, .int .i64 y2, .int .i64 z2]] W (fun e w' => e = .returned (.agg #[.int .i64 (meetT x y z x2 y2 z2).1, .int .i64 (meetT x y z x2 y2 z2).2.1, .int .i64 (meetT x y z x2 y2 z2).2.2]) ∧ Ext W w') := fun W => implMeetRanges_c x y z x2 y2 z2 W
  replace hmt := Lib.hid hmt
  cases hv1 : rangeB x y z
  · replace hv1 := Lib.hid hv1
    generalize rcovB x y z x2 y2 z2 = q at *
    cases q
    all_goals
      go_wp2_with fail
      refine (implValidRange_b hv1.out _).mono ?_
      rintro e w4 ⟨rfl, xx⟩
      have X4 : Ext w w4 := X3.trans (Ext.trans (by repeat (first | exact Ext.refl _ | assumption | apply Ext.drewN | apply Ext.drew | apply Ext.alloc)) xx)
      replace cA0 := (Ext.trans (by repeat (first | exact Ext.refl _ | assumption | apply Ext.drewN | apply Ext.drew | apply Ext.alloc)) xx : Ext w3 w4).cell cA0
      replace cA1 := (Ext.trans (by repeat (first | exact Ext.refl _ | assumption | apply Ext.drewN | apply Ext.drew | apply Ext.alloc)) xx : Ext w3 w4).cell cA1
      replace cA2 := (Ext.trans (by repeat (first | exact Ext.refl _ | assumption | apply Ext.drewN | apply Ext.drew | apply Ext.alloc)) xx : Ext w3 w4).cell cA2
      replace cB0 := (Ext.trans (by repeat (first | exact Ext.refl _ | assumption | apply Ext.drewN | apply Ext.drew | apply Ext.alloc)) xx : Ext w3 w4).cell cB0
      replace cB1 := (Ext.trans (by repeat (first | exact Ext.refl _ | assumption | apply Ext.drewN | apply Ext.drew | apply Ext.alloc)) xx : Ext w3 w4).cell cB1
      replace cB2 := (Ext.trans (by repeat (first | exact Ext.refl _ | assumption | apply Ext.drewN | apply Ext.drew | apply Ext.alloc)) xx : Ext w3 w4).cell cB2
      have lz1 : w1.heap.size + 1 < w4.heap.size := World.block_lt_of_cell? _ _ cB2
      have lz2 : w1.heap.size < w4.heap.size := by omega
      clear xx
      go_wp2_with fail
      refine (hcov.out _).mono ?_
      rintro e w5 ⟨rfl, xx⟩
      have X5 : Ext w w5 := X4.trans (Ext.trans (by repeat (first | exact Ext.refl _ | assumption | apply Ext.drewN | apply Ext.drew | apply Ext.alloc)) xx)
      go_wp2_with fail
      go_ret
      exact ⟨rfl, X5⟩
  · cases hv2 : rangeB x2 y2 z2
    · replace hv1 := Lib.hid hv1
      replace hv2 := Lib.hid hv2
      generalize rcovB x y z x2 y2 z2 = q at *
      cases q
      all_goals
        go_wp2_with fail
        refine (implValidRange_b hv1.out _).mono ?_
        rintro e w4 ⟨rfl, xx⟩
        have X4 : Ext w w4 := X3.trans (Ext.trans (by repeat (first | exact Ext.refl _ | assumption | apply Ext.drewN | apply Ext.drew | apply Ext.alloc)) xx)
        replace cA0 := (Ext.trans (by repeat (first | exact Ext.refl _ | assumption | apply Ext.drewN | apply Ext.drew | apply Ext.alloc)) xx : Ext w3 w4).cell cA0
        replace cA1 := (Ext.trans (by repeat (first | exact Ext.refl _ | assumption | apply Ext.drewN | apply Ext.drew | apply Ext.alloc)) xx : Ext w3 w4).cell cA1
        replace cA2 := (Ext.trans (by repeat (first | exact Ext.refl _ | assumption | apply Ext.drewN | apply Ext.drew | apply Ext.alloc)) xx : Ext w3 w4).cell cA2
        replace cB0 := (Ext.trans (by repeat (first | exact Ext.refl _ | assumption | apply Ext.drewN | apply Ext.drew | apply Ext.alloc)) xx : Ext w3 w4).cell cB0
        replace cB1 := (Ext.trans (by repeat (first | exact Ext.refl _ | assumption | apply Ext.drewN | apply Ext.drew | apply Ext.alloc)) xx : Ext w3 w4).cell cB1
        replace cB2 := (Ext.trans (by repeat (first | exact Ext.refl _ | assumption | apply Ext.drewN | apply Ext.drew | apply Ext.alloc)) xx : Ext w3 w4).cell cB2
        have lz1 : w1.heap.size + 1 < w4.heap.size := World.block_lt_of_cell? _ _ cB2
        have lz2 : w1.heap.size < w4.heap.size := by omega
        clear xx
        go_wp2_with fail
        refine (implValidRange_b hv2.out _).mono ?_
        rintro e w5 ⟨rfl, xx⟩
        have X5 : Ext w w5 := X4.trans (Ext.trans (by repeat (first | exact Ext.refl _ | assumption | apply Ext.drewN | apply Ext.drew | apply Ext.alloc)) xx)
        replace cA0 := (Ext.trans (by repeat (first | exact Ext.refl _ | assumption | apply Ext.drewN | apply Ext.drew | apply Ext.alloc)) xx : Ext w4 w5).cell cA0
        replace cA1 := (Ext.trans (by repeat (first | exact Ext.refl _ | assumption | apply Ext.drewN | apply Ext.drew | apply Ext.alloc)) xx : Ext w4 w5).cell cA1
        replace cA2 := (Ext.trans (by repeat (first | exact Ext.refl _ | assumption | apply Ext.drewN | apply Ext.drew | apply Ext.alloc)) xx : Ext w4 w5).cell cA2
        replace cB0 := (Ext.trans (by repeat (first | exact Ext.refl _ | assumption | apply Ext.drewN | apply Ext.drew | apply Ext.alloc)) xx : Ext w4 w5).cell cB0
        replace cB1 := (Ext.trans (by repeat (first | exact Ext.refl _ | assumption | apply Ext.drewN | apply Ext.drew | apply Ext.alloc)) xx : Ext w4 w5).cell cB1
        replace cB2 := (Ext.trans (by repeat (first | exact Ext.refl _ | assumption | apply Ext.drewN | apply Ext.drew | apply Ext.alloc)) xx : Ext w4 w5).cell cB2
        have lz1 : w1.heap.size + 1 < w5.heap.size := World.block_lt_of_cell? _ _ cB2
        have lz2 : w1.heap.size < w5.heap.size := by omega
        clear xx
        go_wp2_with fail
        refine (hcov.out _).mono ?_
        rintro e w6 ⟨rfl, xx⟩
        have X6 : Ext w w6 := X5.trans (Ext.trans (by repeat (first | exact Ext.refl _ | assumption | apply Ext.drewN | apply Ext.drew | apply Ext.alloc)) xx)
        go_wp2_with fail
        go_ret
        exact ⟨rfl, X6⟩
    · have hl := hlen.out hv1 hv2
      have hs := hself.out hv1
      have hcs : ∀ W : World, Calls Try.prog 18 #[.agg #[.int .i64 x, .int .i64 y, .int .i64 z], .agg #[.int .i64 x, .int .i64 y, .int .i64 z]] W (fun e w' => e = .returned (.bool true) ∧ Ext W w') := fun W => by
        have := implCoversRange_c x y z x y z W
        rwa [hs] at this
      replace hcs := Lib.hid hcs
      replace hv1 := Lib.hid hv1
      replace hv2 := Lib.hid hv2
      clear hs hlen hself
      generalize rcovB x y z x2 y2 z2 = q at *
      generalize meetT x y z x2 y2 z2 = t at *
      obtain ⟨r1, r2, r3⟩ := t
      simp only at hl hmt
      have hla := Lib.hid (fun W => implLenOf_c r1 r2 r3 W)
      have hlb := Lib.hid (fun W => implLenOf_c x2 y2 z2 W)
      generalize rlenA r1 r2 r3 = la at *
      generalize rlenA x2 y2 z2 = lb at *
      cases q
      all_goals
        go_wp2_with fail
        refine (implValidRange_b hv1.out _).mono ?_
        rintro e w4 ⟨rfl, xx⟩
        have X4 : Ext w w4 := X3.trans (Ext.trans (by repeat (first | exact Ext.refl _ | assumption | apply Ext.drewN | apply Ext.drew | apply Ext.alloc)) xx)
        replace cA0 := (Ext.trans (by repeat (first | exact Ext.refl _ | assumption | apply Ext.drewN | apply Ext.drew | apply Ext.alloc)) xx : Ext w3 w4).cell cA0
        replace cA1 := (Ext.trans (by repeat (first | exact Ext.refl _ | assumption | apply Ext.drewN | apply Ext.drew | apply Ext.alloc)) xx : Ext w3 w4).cell cA1
        replace cA2 := (Ext.trans (by repeat (first | exact Ext.refl _ | assumption | apply Ext.drewN | apply Ext.drew | apply Ext.alloc)) xx : Ext w3 w4).cell cA2
        replace cB0 := (Ext.trans (by repeat (first | exact Ext.refl _ | assumption | apply Ext.drewN | apply Ext.drew | apply Ext.alloc)) xx : Ext w3 w4).cell cB0
        replace cB1 := (Ext.trans (by repeat (first | exact Ext.refl _ | assumption | apply Ext.drewN | apply Ext.drew | apply Ext.alloc)) xx : Ext w3 w4).cell cB1
        replace cB2 := (Ext.trans (by repeat (first | exact Ext.refl _ | assumption | apply Ext.drewN | apply Ext.drew | apply Ext.alloc)) xx : Ext w3 w4).cell cB2
        have lz1 : w1.heap.size + 1 < w4.heap.size := World.block_lt_of_cell? _ _ cB2
        have lz2 : w1.heap.size < w4.heap.size := by omega
        clear xx
        go_wp2_with fail
        refine (implValidRange_b hv2.out _).mono ?_
        rintro e w5 ⟨rfl, xx⟩
        have X5 : Ext w w5 := X4.trans (Ext.trans (by repeat (first | exact Ext.refl _ | assumption | apply Ext.drewN | apply Ext.drew | apply Ext.alloc)) xx)
        replace cA0 := (Ext.trans (by repeat (first | exact Ext.refl _ | assumption | apply Ext.drewN | apply Ext.drew | apply Ext.alloc)) xx : Ext w4 w5).cell cA0
        replace cA1 := (Ext.trans (by repeat (first | exact Ext.refl _ | assumption | apply Ext.drewN | apply Ext.drew | apply Ext.alloc)) xx : Ext w4 w5).cell cA1
        replace cA2 := (Ext.trans (by repeat (first | exact Ext.refl _ | assumption | apply Ext.drewN | apply Ext.drew | apply Ext.alloc)) xx : Ext w4 w5).cell cA2
        replace cB0 := (Ext.trans (by repeat (first | exact Ext.refl _ | assumption | apply Ext.drewN | apply Ext.drew | apply Ext.alloc)) xx : Ext w4 w5).cell cB0
        replace cB1 := (Ext.trans (by repeat (first | exact Ext.refl _ | assumption | apply Ext.drewN | apply Ext.drew | apply Ext.alloc)) xx : Ext w4 w5).cell cB1
        replace cB2 := (Ext.trans (by repeat (first | exact Ext.refl _ | assumption | apply Ext.drewN | apply Ext.drew | apply Ext.alloc)) xx : Ext w4 w5).cell cB2
        have lz1 : w1.heap.size + 1 < w5.heap.size := World.block_lt_of_cell? _ _ cB2
        have lz2 : w1.heap.size < w5.heap.size := by omega
        clear xx
        go_wp2_with fail
        have Y : Ext w5 w5 := Ext.refl _
        refine wp_region_held_drew (S := fun w' => w'.cell? ⟨w1.heap.size, 0, none⟩ = some (.int .i64 x) ∧ w'.cell? ⟨w1.heap.size, 1, none⟩ = some (.int .i64 y) ∧ w'.cell? ⟨w1.heap.size, 2, none⟩ = some (.int .i64 z) ∧ w'.cell? ⟨w1.heap.size + 1, 0, none⟩ = some (.int .i64 x2) ∧ w'.cell? ⟨w1.heap.size + 1, 1, none⟩ = some (.int .i64 y2) ∧ w'.cell? ⟨w1.heap.size + 1, 2, none⟩ = some (.int .i64 z2)) (by kernel_rfl) ⟨cA0, cA1, cA2, cB0, cB1, cB2⟩ (fun hHeld => ?_)
        refine wpAnyH_take (i := 0) (v := ?_) rfl (by kernel_rfl) (by kernel_rfl) (by kernel_rfl) (fun _ _ _ h => h) (Or.inl ⟨by rfl, ?_⟩) (by assumption) ?_
        rotate_left
        · (intro w hSw; (try dsimp only at hSw); go_simp; try with_reducible rfl)
        try simp only [Act.put, List.setIfInBounds_toArray, List.set_cons_zero, List.set_cons_succ, List.getElem_toArray, List.getElem_cons_zero]
        refine wpAnyH_take (i := 1) (v := ?_) rfl (by kernel_rfl) (by kernel_rfl) (by kernel_rfl) (fun _ _ _ h => h) (Or.inl ⟨by rfl, ?_⟩) (by assumption) ?_
        rotate_left
        · (intro w hSw; (try dsimp only at hSw); go_simp; try with_reducible rfl)
        try simp only [Act.put, List.setIfInBounds_toArray, List.set_cons_zero, List.set_cons_succ, List.getElem_toArray, List.getElem_cons_succ, List.getElem_cons_zero]
        refine wpAnyH_take (i := 2) (v := ?_) rfl (by kernel_rfl) (by kernel_rfl) (by kernel_rfl) (fun _ _ _ h => h) (Or.inl ⟨by rfl, ?_⟩) (by assumption) ?_
        rotate_left
        · (intro w hSw; (try dsimp only at hSw); go_simp; try with_reducible rfl)
        try simp only [Act.put, List.setIfInBounds_toArray, List.set_cons_zero, List.set_cons_succ, List.getElem_toArray, List.getElem_cons_succ, List.getElem_cons_zero]
        refine wpAnyH_take (i := 5) (v := ?_) rfl (by kernel_rfl) (by kernel_rfl) (by kernel_rfl) (fun _ _ _ h => h) (Or.inl ⟨by rfl, ?_⟩) (by assumption) ?_
        rotate_left
        · (intro w hSw; (try dsimp only at hSw); go_simp; try with_reducible rfl)
        try simp only [Act.put, List.setIfInBounds_toArray, List.set_cons_zero, List.set_cons_succ, List.getElem_toArray, List.getElem_cons_succ, List.getElem_cons_zero]
        refine wpAnyH_ready (rs := [3]) (by kernel_rfl) (by simp) ?_
        refine AllReadyH.cons rfl (fun K hK => ?_) AllReadyH.nil
        try simp only [Act.put, List.setIfInBounds_toArray, List.set_cons_zero, List.set_cons_succ, List.getElem_toArray, List.getElem_cons_succ, List.getElem_cons_zero]
        go_simp
        refine (hmt.out _).mono ?_
        rintro e wt1 ⟨rfl, xx⟩
        have Y : Ext w5 wt1 := Ext.trans (by repeat (first | exact Y | exact Ext.refl _ | apply Ext.drewN | apply Ext.drew | apply Ext.alloc)) xx
        refine hK.out _ _ ⟨Y.cell cA0, Y.cell cA1, Y.cell cA2, Y.cell cB0, Y.cell cB1, Y.cell cB2⟩ (fun hHeld => ?_)
        clear hK K
        try simp only [Act.put, List.setIfInBounds_toArray, List.set_cons_zero, List.set_cons_succ, List.getElem_toArray, List.getElem_cons_succ, List.getElem_cons_zero]
        refine wpAnyH_ready (rs := [4]) (by kernel_rfl) (by simp) ?_
        refine AllReadyH.cons rfl (fun K hK => ?_) AllReadyH.nil
        try simp only [Act.put, List.setIfInBounds_toArray, List.set_cons_zero, List.set_cons_succ, List.getElem_toArray, List.getElem_cons_succ, List.getElem_cons_zero]
        go_simp
        refine (hla.out _).mono ?_
        rintro e wt2 ⟨rfl, xx⟩
        have Y : Ext w5 wt2 := Ext.trans (by repeat (first | exact Y | exact Ext.refl _ | apply Ext.drewN | apply Ext.drew | apply Ext.alloc)) xx
        refine hK.out _ _ ⟨Y.cell cA0, Y.cell cA1, Y.cell cA2, Y.cell cB0, Y.cell cB1, Y.cell cB2⟩ (fun hHeld => ?_)
        clear hK K
        try simp only [Act.put, List.setIfInBounds_toArray, List.set_cons_zero, List.set_cons_succ, List.getElem_toArray, List.getElem_cons_succ, List.getElem_cons_zero]
        refine wpAnyH_ready (rs := [6]) (by kernel_rfl) (by simp) ?_
        refine AllReadyH.cons rfl (fun K hK => ?_) AllReadyH.nil
        try simp only [Act.put, List.setIfInBounds_toArray, List.set_cons_zero, List.set_cons_succ, List.getElem_toArray, List.getElem_cons_succ, List.getElem_cons_zero]
        go_simp
        refine (hlb.out _).mono ?_
        rintro e wt3 ⟨rfl, xx⟩
        have Y : Ext w5 wt3 := Ext.trans (by repeat (first | exact Y | exact Ext.refl _ | apply Ext.drewN | apply Ext.drew | apply Ext.alloc)) xx
        refine hK.out _ _ ⟨Y.cell cA0, Y.cell cA1, Y.cell cA2, Y.cell cB0, Y.cell cB1, Y.cell cB2⟩ (fun hHeld => ?_)
        clear hK K
        try simp only [Act.put, List.setIfInBounds_toArray, List.set_cons_zero, List.set_cons_succ, List.getElem_toArray, List.getElem_cons_succ, List.getElem_cons_zero]
        refine wpAnyH_take (i := 7) (v := ?_) rfl (by kernel_rfl) (by kernel_rfl) (by kernel_rfl) (fun _ _ _ h => h) (Or.inl ⟨by rfl, ?_⟩) (by assumption) ?_
        rotate_left
        · (intro w hSw; (try dsimp only at hSw); go_simp; try with_reducible rfl)
        try simp only [Act.put, List.setIfInBounds_toArray, List.set_cons_zero, List.set_cons_succ, List.getElem_toArray, List.getElem_cons_succ, List.getElem_cons_zero]
        refine wpAnyH_take (i := 8) (v := ?_) rfl (by kernel_rfl) (by kernel_rfl) (by kernel_rfl) (fun _ _ _ h => h) (Or.inl ⟨by rfl, ?_⟩) (by assumption) ?_
        rotate_left
        · (intro w hSw; (try dsimp only at hSw); go_simp; try with_reducible rfl)
        try simp only [Act.put, List.setIfInBounds_toArray, List.set_cons_zero, List.set_cons_succ, List.getElem_toArray, List.getElem_cons_succ, List.getElem_cons_zero]
        refine wpAnyH_take (i := 9) (v := ?_) rfl (by kernel_rfl) (by kernel_rfl) (by kernel_rfl) (fun _ _ _ h => h) (Or.inl ⟨by rfl, ?_⟩) (by assumption) ?_
        rotate_left
        · (intro w hSw; (try dsimp only at hSw); go_simp; try with_reducible rfl)
        try simp only [Act.put, List.setIfInBounds_toArray, List.set_cons_zero, List.set_cons_succ, List.getElem_toArray, List.getElem_cons_succ, List.getElem_cons_zero]
        refine wpAnyH_take (i := 10) (v := ?_) rfl (by kernel_rfl) (by kernel_rfl) (by kernel_rfl) (fun _ _ _ h => h) (Or.inl ⟨by rfl, ?_⟩) (by assumption) ?_
        rotate_left
        · (intro w hSw; (try dsimp only at hSw); go_simp; try with_reducible rfl)
        try simp only [Act.put, List.setIfInBounds_toArray, List.set_cons_zero, List.set_cons_succ, List.getElem_toArray, List.getElem_cons_succ, List.getElem_cons_zero]
        refine wpAnyH_take (i := 11) (v := ?_) rfl (by kernel_rfl) (by kernel_rfl) (by kernel_rfl) (fun _ _ _ h => h) (Or.inl ⟨by rfl, ?_⟩) (by assumption) ?_
        rotate_left
        · (intro w hSw; (try dsimp only at hSw); go_simp; try with_reducible rfl)
        try simp only [Act.put, List.setIfInBounds_toArray, List.set_cons_zero, List.set_cons_succ, List.getElem_toArray, List.getElem_cons_succ, List.getElem_cons_zero]
        refine wpAnyH_ready (rs := [12]) (by kernel_rfl) (by simp) ?_
        refine AllReadyH.cons rfl (fun K hK => ?_) AllReadyH.nil
        try simp only [Act.put, List.setIfInBounds_toArray, List.set_cons_zero, List.set_cons_succ, List.getElem_toArray, List.getElem_cons_succ, List.getElem_cons_zero]
        go_simp
        refine (hcs.out _).mono ?_
        rintro e wt4 ⟨rfl, xx⟩
        have Y : Ext w5 wt4 := Ext.trans (by repeat (first | exact Y | exact Ext.refl _ | apply Ext.drewN | apply Ext.drew | apply Ext.alloc)) xx
        refine hK.out _ _ ⟨Y.cell cA0, Y.cell cA1, Y.cell cA2, Y.cell cB0, Y.cell cB1, Y.cell cB2⟩ (fun hHeld => ?_)
        clear hK K
        try simp only [Act.put, List.setIfInBounds_toArray, List.set_cons_zero, List.set_cons_succ, List.getElem_toArray, List.getElem_cons_succ, List.getElem_cons_zero]
        refine wpAnyH_take (i := 13) (v := ?_) rfl (by kernel_rfl) (by kernel_rfl) (by kernel_rfl) (fun _ _ _ h => h) (Or.inl ⟨by rfl, ?_⟩) (by assumption) ?_
        rotate_left
        · (intro w hSw; (try dsimp only at hSw); go_simp; try with_reducible rfl)
        try simp only [Act.put, List.setIfInBounds_toArray, List.set_cons_zero, List.set_cons_succ, List.getElem_toArray, List.getElem_cons_succ, List.getElem_cons_zero]
        refine wpAnyH_take (i := 14) (v := ?_) rfl (by kernel_rfl) (by kernel_rfl) (by kernel_rfl) (fun _ _ _ h => h) (Or.inl ⟨by rfl, ?_⟩) (by assumption) ?_
        rotate_left
        · (intro w hSw; (try dsimp only at hSw); go_simp; try with_reducible rfl)
        try simp only [Act.put, List.setIfInBounds_toArray, List.set_cons_zero, List.set_cons_succ, List.getElem_toArray, List.getElem_cons_succ, List.getElem_cons_zero]
        refine wpAnyH_done (by kernel_rfl) ?_ _
        go_wp2_with fail
        go_ret
        exact ⟨rfl, X5.trans Y⟩
end Go.Proofs.Ytjpngmdfnglabaa
