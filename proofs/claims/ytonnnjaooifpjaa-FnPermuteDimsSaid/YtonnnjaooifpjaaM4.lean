/- Texts of these proofs put together: SvD, SvH, KitB, SvI, GenB. No condition. -/
import Derived.Test.YtonnnjaooifpjaaM2
import Derived.Test.YtonnnjaooifpjaaM3
set_option linter.unusedVariables false
set_option linter.unusedSimpArgs false
/- Walks: insert of the reference. -/
namespace Go.Proofs.Ytonnnjaooifpjaa
open Go.RowKit
set_option linter.unusedVariables false
set_option maxRecDepth 100000

set_option maxHeartbeats 3200000 in
theorem insert_c (xs : List Int) (v : Value) (i : Nat) (x : Int) (w : World) (lo : Nat) (hv : Ints w lo v xs) (hi : i ≤ xs.length) (hl : xs.length ≤ 100000) :
    Calls Try.prog 98 #[v, .int .i64 (i : Int), .int .i64 x] w (PInts w (xs.take i ++ [x] ++ xs.drop i)) := by
  have hlen := ints_len hv
  have hv0 := hv
  obtain ⟨a, c, rfl, hc, hcm, hb2, hat⟩ := hv
  have ht := hv0.take i (by omega)
  by_cases hne : xs = []
  rotate_left
  obtain ⟨b, off, rfl⟩ : ∃ b off, a = some ⟨b, off, none⟩ := by
    obtain ⟨b, off, h, _⟩ := hat 0 (by cases xs <;> simp_all)
    exact ⟨b, off, h⟩
  by_cases hci : ¬ c = i
  · have hd := hv0.drop1 i (by omega) hci
    have g1 : (i : Int) ≤ c := by omega
    have g2 : (i : Int) ≤ xs.length := by omega
    have g3 : (0 : Int) ≤ i := by omega
    go_enter Try.func98, Try.ntmps98
    go_wp2_with fail
    refine wp_region_held_drew (S := fun _ => True) (by kernel_rfl) trivial (fun hHeld => ?_)
    refine wpAnyH_take (i := 1) (v := ?_) rfl (by kernel_rfl) (by kernel_rfl) (by kernel_rfl) (fun _ _ _ h => h) (Or.inl ⟨by rfl, ?_⟩) (by assumption) ?_
    rotate_left
    · (intro w hSw; (try dsimp only at hSw); go_simp; try with_reducible rfl)
    try simp only [Act.put, List.setIfInBounds_toArray, List.set_cons_zero, List.set_cons_succ, List.getElem_toArray, List.getElem_cons_succ, List.getElem_cons_zero]
    refine wpAnyH_take (i := 2) (v := ?_) rfl (by kernel_rfl) (by kernel_rfl) (by kernel_rfl) (fun _ _ _ h => h) (Or.inl ⟨by rfl, ?_⟩) (by assumption) ?_
    rotate_left
    · (intro w hSw; (try dsimp only at hSw); go_simp; try with_reducible rfl)
    try simp only [Act.put, List.setIfInBounds_toArray, List.set_cons_zero, List.set_cons_succ, List.getElem_toArray, List.getElem_cons_succ, List.getElem_cons_zero]
    refine wpAnyH_take (i := 3) (v := ?_) rfl (by kernel_rfl) (by kernel_rfl) (by kernel_rfl) (fun _ _ _ h => h) (Or.inl ⟨by rfl, ?_⟩) (by assumption) ?_
    rotate_left
    · (intro w hSw; (try dsimp only at hSw); go_simp; try with_reducible rfl)
    try simp only [Act.put, List.setIfInBounds_toArray, List.set_cons_zero, List.set_cons_succ, List.getElem_toArray, List.getElem_cons_succ, List.getElem_cons_zero]
    refine wpAnyH_take (i := 5) (v := ?_) rfl (by kernel_rfl) (by kernel_rfl) (by kernel_rfl) (fun _ _ _ h => h) (Or.inl ⟨by rfl, ?_⟩) (by assumption) ?_
    rotate_left
    · (intro w hSw; (try dsimp only at hSw); go_simp; try with_reducible rfl)
    try simp only [Act.put, List.setIfInBounds_toArray, List.set_cons_zero, List.set_cons_succ, List.getElem_toArray, List.getElem_cons_succ, List.getElem_cons_zero]
    refine wpAnyH_take (i := 8) (v := ?_) rfl (by kernel_rfl) (by kernel_rfl) (by kernel_rfl) (fun _ _ _ h => h) (Or.inl ⟨by rfl, ?_⟩) (by assumption) ?_
    rotate_left
    · (intro w hSw; (try dsimp only at hSw); go_simp; try with_reducible rfl)
    try simp only [Act.put, List.setIfInBounds_toArray, List.set_cons_zero, List.set_cons_succ, List.getElem_toArray, List.getElem_cons_succ, List.getElem_cons_zero]
    refine wpAnyH_take (i := 9) (v := ?_) rfl (by kernel_rfl) (by kernel_rfl) (by kernel_rfl) (fun _ _ _ h => h) (Or.inl ⟨by rfl, ?_⟩) (by assumption) ?_
    rotate_left
    · (intro w hSw; (try dsimp only at hSw); go_simp; try with_reducible rfl)
    try simp only [Act.put, List.setIfInBounds_toArray, List.set_cons_zero, List.set_cons_succ, List.getElem_toArray, List.getElem_cons_succ, List.getElem_cons_zero]
    refine wpAnyH_take (i := 10) (v := ?_) rfl (by kernel_rfl) (by kernel_rfl) (by kernel_rfl) (fun _ _ _ h => h) (Or.inl ⟨by rfl, ?_⟩) (by assumption) ?_
    rotate_left
    · (intro w hSw; (try dsimp only at hSw); go_simp; try with_reducible rfl)
    try simp only [Act.put, List.setIfInBounds_toArray, List.set_cons_zero, List.set_cons_succ, List.getElem_toArray, List.getElem_cons_succ, List.getElem_cons_zero]
    refine wpAnyH_ready (rs := [0, 6]) (by kernel_rfl) (by simp) ?_
    refine AllReadyH.cons rfl (fun K hK => ?_) (AllReadyH.cons rfl (fun K hK => ?_) AllReadyH.nil)
    · skip
      try simp only [Act.put, List.setIfInBounds_toArray, List.set_cons_zero, List.set_cons_succ, List.getElem_toArray, List.getElem_cons_succ, List.getElem_cons_zero]
      go_simp
      refine hK.out _ _ trivial (fun hHeld => ?_)
      clear hK K
      try simp only [Act.put, List.setIfInBounds_toArray, List.set_cons_zero, List.set_cons_succ, List.getElem_toArray, List.getElem_cons_succ, List.getElem_cons_zero]
      refine wpAnyH_ready (rs := [4, 6]) (by kernel_rfl) (by simp) ?_
      refine AllReadyH.cons rfl (fun K hK => ?_) (AllReadyH.cons rfl (fun K hK => ?_) AllReadyH.nil)
      · skip
        refine step_app rfl (.tmp 7) (.tmp 10) rfl rfl rfl (OwnI.lit0 _ w.heap.size (by simp)) (by first | exact ht.ext (by repeat (first | exact Ext.refl _ | assumption | apply Ext.drewN | apply Ext.drew | apply Ext.alloc)) | exact Ints.nil _ w.heap.size _ _ (by omega) (by simp)) (by simp <;> omega) (by first | assumption | (simp; done) | (simp; omega) | omega) ?_
        intro v4 w4 o4 gr4 bl4 eq4
        refine hK.out _ _ trivial (fun hHeld => ?_)
        clear hK K
        try simp only [Act.put, List.setIfInBounds_toArray, List.set_cons_zero, List.set_cons_succ, List.getElem_toArray, List.getElem_cons_succ, List.getElem_cons_zero]
        have X4 : Ext w w4 := Ext.below (show Ext w _ from (by repeat (first | exact Ext.refl _ | assumption | apply Ext.drewN | apply Ext.drew | apply Ext.alloc))) bl4 (by simp)
        have z4 : w.heap.size ≤ w4.heap.size := X4.size
        refine wpAnyH_ready (rs := [6]) (by kernel_rfl) (by simp) ?_
        refine AllReadyH.cons rfl (fun K hK => ?_) AllReadyH.nil
        try simp only [Act.put, List.setIfInBounds_toArray, List.set_cons_zero, List.set_cons_succ, List.getElem_toArray, List.getElem_cons_succ, List.getElem_cons_zero]
        go_simp
        refine hK.out _ _ trivial (fun hHeld => ?_)
        clear hK K
        try simp only [Act.put, List.setIfInBounds_toArray, List.set_cons_zero, List.set_cons_succ, List.getElem_toArray, List.getElem_cons_succ, List.getElem_cons_zero]
        replace o4 := o4.ext (show Ext w4 (w4.alloc (.cells #[.int .i64 x] 3)) from (by repeat (first | exact Ext.refl _ | assumption | apply Ext.drewN | apply Ext.drew | apply Ext.alloc)))
        refine wpAnyH_ready (rs := [7]) (by kernel_rfl) (by simp) ?_
        refine AllReadyH.cons rfl (fun K hK => ?_) AllReadyH.nil
        refine step_app rfl (.tmp 11) (.tmp 13) rfl rfl rfl (o4) (Ints.one w4 w.heap.size x z4) (by simp <;> omega) (by first | assumption | (simp; done) | (simp; omega) | omega) ?_
        intro v7 w7 o7 gr7 bl7 eq7
        refine hK.out _ _ trivial (fun hHeld => ?_)
        clear hK K
        try simp only [Act.put, List.setIfInBounds_toArray, List.set_cons_zero, List.set_cons_succ, List.getElem_toArray, List.getElem_cons_succ, List.getElem_cons_zero]
        have X7 : Ext w w7 := Ext.below (X4.trans (by repeat (first | exact Ext.refl _ | assumption | apply Ext.drewN | apply Ext.drew | apply Ext.alloc))) bl7 (Nat.le_refl _)
        have z7 : w.heap.size ≤ w7.heap.size := X7.size
        refine wpAnyH_ready (rs := [11]) (by kernel_rfl) (by simp) ?_
        refine AllReadyH.cons rfl (fun K hK => ?_) AllReadyH.nil
        refine step_app rfl (.tmp 14) (.tmp 17) rfl rfl rfl (o7) (by first | exact hd.ext X7 | exact Ints.nil _ w.heap.size _ _ (by omega) (by simp)) (by simp <;> omega) (by first | assumption | (simp; done) | (simp; omega) | omega) ?_
        intro v11 w11 o11 gr11 bl11 eq11
        refine hK.out _ _ trivial (fun hHeld => ?_)
        clear hK K
        try simp only [Act.put, List.setIfInBounds_toArray, List.set_cons_zero, List.set_cons_succ, List.getElem_toArray, List.getElem_cons_succ, List.getElem_cons_zero]
        have X11 : Ext w w11 := Ext.below X7 bl11 (Nat.le_refl _)
        refine wpAnyH_ready (rs := [12]) (by kernel_rfl) (by simp) ?_
        refine AllReadyH.cons rfl (fun K hK => ?_) AllReadyH.nil
        try simp only [Act.put, List.setIfInBounds_toArray, List.set_cons_zero, List.set_cons_succ, List.getElem_toArray, List.getElem_cons_succ, List.getElem_cons_zero]
        go_simp
        refine hK.out _ _ trivial (fun hHeld => ?_)
        clear hK K
        try simp only [Act.put, List.setIfInBounds_toArray, List.set_cons_zero, List.set_cons_succ, List.getElem_toArray, List.getElem_cons_succ, List.getElem_cons_zero]
        refine wpAnyH_done (by kernel_rfl) ?_ _
        clear hHeld
        go_wp2_with fail
        refine bodyPost_ret (v := v11) (by simp only [results, Try.results98]; go_simp) rfl ?_
        exact PInts.mkz (by first | exact o11.z | (rw [List.drop_eq_nil_of_le hc]; exact o11.z)) (Nat.le_refl _) (by simp <;> omega) X11
      · skip
        try simp only [Act.put, List.setIfInBounds_toArray, List.set_cons_zero, List.set_cons_succ, List.getElem_toArray, List.getElem_cons_succ, List.getElem_cons_zero]
        go_simp
        refine hK.out _ _ trivial (fun hHeld => ?_)
        clear hK K
        try simp only [Act.put, List.setIfInBounds_toArray, List.set_cons_zero, List.set_cons_succ, List.getElem_toArray, List.getElem_cons_succ, List.getElem_cons_zero]
        refine wpAnyH_ready (rs := [4]) (by kernel_rfl) (by simp) ?_
        refine AllReadyH.cons rfl (fun K hK => ?_) AllReadyH.nil
        have l0 : OwnI ((w.drew.alloc (.cells #[] 3)).alloc (.cells #[.int .i64 x] 3)) w.heap.size (.slice (some ⟨w.heap.size, 0, none⟩) 0 0) [] := (OwnI.lit0 w.drew w.heap.size (by simp)).ext ((Ext.refl _).alloc _)
        have l1 : Ints ((w.drew.alloc (.cells #[] 3)).alloc (.cells #[.int .i64 x] 3)) w.heap.size (.slice (some ⟨w.heap.size + 1, 0, none⟩) 1 1) [x] := by simpa using Ints.one (w.drew.alloc (.cells #[] 3)) w.heap.size x (by simp)
        refine step_app rfl (.tmp 7) (.tmp 10) rfl rfl rfl (l0) (by first | exact ht.ext (by repeat (first | exact Ext.refl _ | assumption | apply Ext.drewN | apply Ext.drew | apply Ext.alloc)) | exact Ints.nil _ w.heap.size _ _ (by omega) (by simp)) (by simp <;> omega) (by first | assumption | (simp; done) | (simp; omega) | omega) ?_
        intro v4 w4 o4 gr4 bl4 eq4
        refine hK.out _ _ trivial (fun hHeld => ?_)
        clear hK K
        try simp only [Act.put, List.setIfInBounds_toArray, List.set_cons_zero, List.set_cons_succ, List.getElem_toArray, List.getElem_cons_succ, List.getElem_cons_zero]
        have X4 : Ext w w4 := Ext.below (show Ext w _ from (by repeat (first | exact Ext.refl _ | assumption | apply Ext.drewN | apply Ext.drew | apply Ext.alloc))) bl4 (by simp)
        have z4 : w.heap.size ≤ w4.heap.size := X4.size
        replace l1 := l1.keepG gr4 (fun b off h _ => by cases h; show (some w.heap.size : Option Nat) ≠ some (w.heap.size + 1); simp)
        refine wpAnyH_ready (rs := [7]) (by kernel_rfl) (by simp) ?_
        refine AllReadyH.cons rfl (fun K hK => ?_) AllReadyH.nil
        refine step_app rfl (.tmp 11) (.tmp 13) rfl rfl rfl (o4) (l1) (by simp <;> omega) (by first | assumption | (simp; done) | (simp; omega) | omega) ?_
        intro v7 w7 o7 gr7 bl7 eq7
        refine hK.out _ _ trivial (fun hHeld => ?_)
        clear hK K
        try simp only [Act.put, List.setIfInBounds_toArray, List.set_cons_zero, List.set_cons_succ, List.getElem_toArray, List.getElem_cons_succ, List.getElem_cons_zero]
        have X7 : Ext w w7 := Ext.below (X4) bl7 (Nat.le_refl _)
        have z7 : w.heap.size ≤ w7.heap.size := X7.size
        refine wpAnyH_ready (rs := [11]) (by kernel_rfl) (by simp) ?_
        refine AllReadyH.cons rfl (fun K hK => ?_) AllReadyH.nil
        refine step_app rfl (.tmp 14) (.tmp 17) rfl rfl rfl (o7) (by first | exact hd.ext X7 | exact Ints.nil _ w.heap.size _ _ (by omega) (by simp)) (by simp <;> omega) (by first | assumption | (simp; done) | (simp; omega) | omega) ?_
        intro v11 w11 o11 gr11 bl11 eq11
        refine hK.out _ _ trivial (fun hHeld => ?_)
        clear hK K
        try simp only [Act.put, List.setIfInBounds_toArray, List.set_cons_zero, List.set_cons_succ, List.getElem_toArray, List.getElem_cons_succ, List.getElem_cons_zero]
        have X11 : Ext w w11 := Ext.below X7 bl11 (Nat.le_refl _)
        refine wpAnyH_ready (rs := [12]) (by kernel_rfl) (by simp) ?_
        refine AllReadyH.cons rfl (fun K hK => ?_) AllReadyH.nil
        try simp only [Act.put, List.setIfInBounds_toArray, List.set_cons_zero, List.set_cons_succ, List.getElem_toArray, List.getElem_cons_succ, List.getElem_cons_zero]
        go_simp
        refine hK.out _ _ trivial (fun hHeld => ?_)
        clear hK K
        try simp only [Act.put, List.setIfInBounds_toArray, List.set_cons_zero, List.set_cons_succ, List.getElem_toArray, List.getElem_cons_succ, List.getElem_cons_zero]
        refine wpAnyH_done (by kernel_rfl) ?_ _
        clear hHeld
        go_wp2_with fail
        refine bodyPost_ret (v := v11) (by simp only [results, Try.results98]; go_simp) rfl ?_
        exact PInts.mkz (by first | exact o11.z | (rw [List.drop_eq_nil_of_le hc]; exact o11.z)) (Nat.le_refl _) (by simp <;> omega) X11
    · skip
      try simp only [Act.put, List.setIfInBounds_toArray, List.set_cons_zero, List.set_cons_succ, List.getElem_toArray, List.getElem_cons_succ, List.getElem_cons_zero]
      go_simp
      refine hK.out _ _ trivial (fun hHeld => ?_)
      clear hK K
      try simp only [Act.put, List.setIfInBounds_toArray, List.set_cons_zero, List.set_cons_succ, List.getElem_toArray, List.getElem_cons_succ, List.getElem_cons_zero]
      refine wpAnyH_ready (rs := [0]) (by kernel_rfl) (by simp) ?_
      refine AllReadyH.cons rfl (fun K hK => ?_) AllReadyH.nil
      try simp only [Act.put, List.setIfInBounds_toArray, List.set_cons_zero, List.set_cons_succ, List.getElem_toArray, List.getElem_cons_succ, List.getElem_cons_zero]
      go_simp
      refine hK.out _ _ trivial (fun hHeld => ?_)
      clear hK K
      try simp only [Act.put, List.setIfInBounds_toArray, List.set_cons_zero, List.set_cons_succ, List.getElem_toArray, List.getElem_cons_succ, List.getElem_cons_zero]
      refine wpAnyH_ready (rs := [4]) (by kernel_rfl) (by simp) ?_
      refine AllReadyH.cons rfl (fun K hK => ?_) AllReadyH.nil
      have l0 : OwnI ((w.drew.alloc (.cells #[.int .i64 x] 3)).alloc (.cells #[] 3)) w.heap.size (.slice (some ⟨w.heap.size + 1, 0, none⟩) 0 0) [] := by simpa using (OwnI.lit0 (w.drew.alloc (.cells #[.int .i64 x] 3)) w.heap.size (by simp))
      have l1 : Ints ((w.drew.alloc (.cells #[.int .i64 x] 3)).alloc (.cells #[] 3)) w.heap.size (.slice (some ⟨w.heap.size, 0, none⟩) 1 1) [x] := (Ints.one w.drew w.heap.size x (by simp)).ext ((Ext.refl _).alloc _)
      refine step_app rfl (.tmp 7) (.tmp 10) rfl rfl rfl (l0) (by first | exact ht.ext (by repeat (first | exact Ext.refl _ | assumption | apply Ext.drewN | apply Ext.drew | apply Ext.alloc)) | exact Ints.nil _ w.heap.size _ _ (by omega) (by simp)) (by simp <;> omega) (by first | assumption | (simp; done) | (simp; omega) | omega) ?_
      intro v4 w4 o4 gr4 bl4 eq4
      refine hK.out _ _ trivial (fun hHeld => ?_)
      clear hK K
      try simp only [Act.put, List.setIfInBounds_toArray, List.set_cons_zero, List.set_cons_succ, List.getElem_toArray, List.getElem_cons_succ, List.getElem_cons_zero]
      have X4 : Ext w w4 := Ext.below (show Ext w _ from (by repeat (first | exact Ext.refl _ | assumption | apply Ext.drewN | apply Ext.drew | apply Ext.alloc))) bl4 (by simp)
      have z4 : w.heap.size ≤ w4.heap.size := X4.size
      replace l1 := l1.keepG gr4 (fun b off h _ => by cases h; show (some (w.heap.size + 1) : Option Nat) ≠ some w.heap.size; simp)
      refine wpAnyH_ready (rs := [7]) (by kernel_rfl) (by simp) ?_
      refine AllReadyH.cons rfl (fun K hK => ?_) AllReadyH.nil
      refine step_app rfl (.tmp 11) (.tmp 13) rfl rfl rfl (o4) (l1) (by simp <;> omega) (by first | assumption | (simp; done) | (simp; omega) | omega) ?_
      intro v7 w7 o7 gr7 bl7 eq7
      refine hK.out _ _ trivial (fun hHeld => ?_)
      clear hK K
      try simp only [Act.put, List.setIfInBounds_toArray, List.set_cons_zero, List.set_cons_succ, List.getElem_toArray, List.getElem_cons_succ, List.getElem_cons_zero]
      have X7 : Ext w w7 := Ext.below (X4) bl7 (Nat.le_refl _)
      have z7 : w.heap.size ≤ w7.heap.size := X7.size
      refine wpAnyH_ready (rs := [11]) (by kernel_rfl) (by simp) ?_
      refine AllReadyH.cons rfl (fun K hK => ?_) AllReadyH.nil
      refine step_app rfl (.tmp 14) (.tmp 17) rfl rfl rfl (o7) (by first | exact hd.ext X7 | exact Ints.nil _ w.heap.size _ _ (by omega) (by simp)) (by simp <;> omega) (by first | assumption | (simp; done) | (simp; omega) | omega) ?_
      intro v11 w11 o11 gr11 bl11 eq11
      refine hK.out _ _ trivial (fun hHeld => ?_)
      clear hK K
      try simp only [Act.put, List.setIfInBounds_toArray, List.set_cons_zero, List.set_cons_succ, List.getElem_toArray, List.getElem_cons_succ, List.getElem_cons_zero]
      have X11 : Ext w w11 := Ext.below X7 bl11 (Nat.le_refl _)
      refine wpAnyH_ready (rs := [12]) (by kernel_rfl) (by simp) ?_
      refine AllReadyH.cons rfl (fun K hK => ?_) AllReadyH.nil
      try simp only [Act.put, List.setIfInBounds_toArray, List.set_cons_zero, List.set_cons_succ, List.getElem_toArray, List.getElem_cons_succ, List.getElem_cons_zero]
      go_simp
      refine hK.out _ _ trivial (fun hHeld => ?_)
      clear hK K
      try simp only [Act.put, List.setIfInBounds_toArray, List.set_cons_zero, List.set_cons_succ, List.getElem_toArray, List.getElem_cons_succ, List.getElem_cons_zero]
      refine wpAnyH_done (by kernel_rfl) ?_ _
      clear hHeld
      go_wp2_with fail
      refine bodyPost_ret (v := v11) (by simp only [results, Try.results98]; go_simp) rfl ?_
      exact PInts.mkz (by first | exact o11.z | (rw [List.drop_eq_nil_of_le hc]; exact o11.z)) (Nat.le_refl _) (by simp <;> omega) X11
  · have hci : c = i := by omega
    have hd := hv0.drop0 i (by omega) hci
    subst hci
    have g2 : (c : Int) ≤ xs.length := by omega
    have g3 : (0 : Int) ≤ c := by omega
    go_enter Try.func98, Try.ntmps98
    go_wp2_with fail
    refine wp_region_held_drew (S := fun _ => True) (by kernel_rfl) trivial (fun hHeld => ?_)
    refine wpAnyH_take (i := 1) (v := ?_) rfl (by kernel_rfl) (by kernel_rfl) (by kernel_rfl) (fun _ _ _ h => h) (Or.inl ⟨by rfl, ?_⟩) (by assumption) ?_
    rotate_left
    · (intro w hSw; (try dsimp only at hSw); go_simp; try with_reducible rfl)
    try simp only [Act.put, List.setIfInBounds_toArray, List.set_cons_zero, List.set_cons_succ, List.getElem_toArray, List.getElem_cons_succ, List.getElem_cons_zero]
    refine wpAnyH_take (i := 2) (v := ?_) rfl (by kernel_rfl) (by kernel_rfl) (by kernel_rfl) (fun _ _ _ h => h) (Or.inl ⟨by rfl, ?_⟩) (by assumption) ?_
    rotate_left
    · (intro w hSw; (try dsimp only at hSw); go_simp; try with_reducible rfl)
    try simp only [Act.put, List.setIfInBounds_toArray, List.set_cons_zero, List.set_cons_succ, List.getElem_toArray, List.getElem_cons_succ, List.getElem_cons_zero]
    refine wpAnyH_take (i := 3) (v := ?_) rfl (by kernel_rfl) (by kernel_rfl) (by kernel_rfl) (fun _ _ _ h => h) (Or.inl ⟨by rfl, ?_⟩) (by assumption) ?_
    rotate_left
    · (intro w hSw; (try dsimp only at hSw); go_simp; try with_reducible rfl)
    try simp only [Act.put, List.setIfInBounds_toArray, List.set_cons_zero, List.set_cons_succ, List.getElem_toArray, List.getElem_cons_succ, List.getElem_cons_zero]
    refine wpAnyH_take (i := 5) (v := ?_) rfl (by kernel_rfl) (by kernel_rfl) (by kernel_rfl) (fun _ _ _ h => h) (Or.inl ⟨by rfl, ?_⟩) (by assumption) ?_
    rotate_left
    · (intro w hSw; (try dsimp only at hSw); go_simp; try with_reducible rfl)
    try simp only [Act.put, List.setIfInBounds_toArray, List.set_cons_zero, List.set_cons_succ, List.getElem_toArray, List.getElem_cons_succ, List.getElem_cons_zero]
    refine wpAnyH_take (i := 8) (v := ?_) rfl (by kernel_rfl) (by kernel_rfl) (by kernel_rfl) (fun _ _ _ h => h) (Or.inl ⟨by rfl, ?_⟩) (by assumption) ?_
    rotate_left
    · (intro w hSw; (try dsimp only at hSw); go_simp; try with_reducible rfl)
    try simp only [Act.put, List.setIfInBounds_toArray, List.set_cons_zero, List.set_cons_succ, List.getElem_toArray, List.getElem_cons_succ, List.getElem_cons_zero]
    refine wpAnyH_take (i := 9) (v := ?_) rfl (by kernel_rfl) (by kernel_rfl) (by kernel_rfl) (fun _ _ _ h => h) (Or.inl ⟨by rfl, ?_⟩) (by assumption) ?_
    rotate_left
    · (intro w hSw; (try dsimp only at hSw); go_simp; try with_reducible rfl)
    try simp only [Act.put, List.setIfInBounds_toArray, List.set_cons_zero, List.set_cons_succ, List.getElem_toArray, List.getElem_cons_succ, List.getElem_cons_zero]
    refine wpAnyH_take (i := 10) (v := ?_) rfl (by kernel_rfl) (by kernel_rfl) (by kernel_rfl) (fun _ _ _ h => h) (Or.inl ⟨by rfl, ?_⟩) (by assumption) ?_
    rotate_left
    · (intro w hSw; (try dsimp only at hSw); go_simp; try with_reducible rfl)
    try simp only [Act.put, List.setIfInBounds_toArray, List.set_cons_zero, List.set_cons_succ, List.getElem_toArray, List.getElem_cons_succ, List.getElem_cons_zero]
    refine wpAnyH_ready (rs := [0, 6]) (by kernel_rfl) (by simp) ?_
    refine AllReadyH.cons rfl (fun K hK => ?_) (AllReadyH.cons rfl (fun K hK => ?_) AllReadyH.nil)
    · skip
      try simp only [Act.put, List.setIfInBounds_toArray, List.set_cons_zero, List.set_cons_succ, List.getElem_toArray, List.getElem_cons_succ, List.getElem_cons_zero]
      go_simp
      refine hK.out _ _ trivial (fun hHeld => ?_)
      clear hK K
      try simp only [Act.put, List.setIfInBounds_toArray, List.set_cons_zero, List.set_cons_succ, List.getElem_toArray, List.getElem_cons_succ, List.getElem_cons_zero]
      refine wpAnyH_ready (rs := [4, 6]) (by kernel_rfl) (by simp) ?_
      refine AllReadyH.cons rfl (fun K hK => ?_) (AllReadyH.cons rfl (fun K hK => ?_) AllReadyH.nil)
      · skip
        refine step_app rfl (.tmp 7) (.tmp 10) rfl rfl rfl (OwnI.lit0 _ w.heap.size (by simp)) (by first | exact ht.ext (by repeat (first | exact Ext.refl _ | assumption | apply Ext.drewN | apply Ext.drew | apply Ext.alloc)) | exact Ints.nil _ w.heap.size _ _ (by omega) (by simp)) (by simp <;> omega) (by first | assumption | (simp; done) | (simp; omega) | omega) ?_
        intro v4 w4 o4 gr4 bl4 eq4
        refine hK.out _ _ trivial (fun hHeld => ?_)
        clear hK K
        try simp only [Act.put, List.setIfInBounds_toArray, List.set_cons_zero, List.set_cons_succ, List.getElem_toArray, List.getElem_cons_succ, List.getElem_cons_zero]
        have X4 : Ext w w4 := Ext.below (show Ext w _ from (by repeat (first | exact Ext.refl _ | assumption | apply Ext.drewN | apply Ext.drew | apply Ext.alloc))) bl4 (by simp)
        have z4 : w.heap.size ≤ w4.heap.size := X4.size
        refine wpAnyH_ready (rs := [6]) (by kernel_rfl) (by simp) ?_
        refine AllReadyH.cons rfl (fun K hK => ?_) AllReadyH.nil
        try simp only [Act.put, List.setIfInBounds_toArray, List.set_cons_zero, List.set_cons_succ, List.getElem_toArray, List.getElem_cons_succ, List.getElem_cons_zero]
        go_simp
        refine hK.out _ _ trivial (fun hHeld => ?_)
        clear hK K
        try simp only [Act.put, List.setIfInBounds_toArray, List.set_cons_zero, List.set_cons_succ, List.getElem_toArray, List.getElem_cons_succ, List.getElem_cons_zero]
        replace o4 := o4.ext (show Ext w4 (w4.alloc (.cells #[.int .i64 x] 3)) from (by repeat (first | exact Ext.refl _ | assumption | apply Ext.drewN | apply Ext.drew | apply Ext.alloc)))
        refine wpAnyH_ready (rs := [7]) (by kernel_rfl) (by simp) ?_
        refine AllReadyH.cons rfl (fun K hK => ?_) AllReadyH.nil
        refine step_app rfl (.tmp 11) (.tmp 13) rfl rfl rfl (o4) (Ints.one w4 w.heap.size x z4) (by simp <;> omega) (by first | assumption | (simp; done) | (simp; omega) | omega) ?_
        intro v7 w7 o7 gr7 bl7 eq7
        refine hK.out _ _ trivial (fun hHeld => ?_)
        clear hK K
        try simp only [Act.put, List.setIfInBounds_toArray, List.set_cons_zero, List.set_cons_succ, List.getElem_toArray, List.getElem_cons_succ, List.getElem_cons_zero]
        have X7 : Ext w w7 := Ext.below (X4.trans (by repeat (first | exact Ext.refl _ | assumption | apply Ext.drewN | apply Ext.drew | apply Ext.alloc))) bl7 (Nat.le_refl _)
        have z7 : w.heap.size ≤ w7.heap.size := X7.size
        refine wpAnyH_ready (rs := [11]) (by kernel_rfl) (by simp) ?_
        refine AllReadyH.cons rfl (fun K hK => ?_) AllReadyH.nil
        refine step_app rfl (.tmp 14) (.tmp 17) rfl rfl rfl (o7) (by first | exact hd.ext X7 | exact Ints.nil _ w.heap.size _ _ (by omega) (by simp)) (by simp <;> omega) (by first | assumption | (simp; done) | (simp; omega) | omega) ?_
        intro v11 w11 o11 gr11 bl11 eq11
        refine hK.out _ _ trivial (fun hHeld => ?_)
        clear hK K
        try simp only [Act.put, List.setIfInBounds_toArray, List.set_cons_zero, List.set_cons_succ, List.getElem_toArray, List.getElem_cons_succ, List.getElem_cons_zero]
        have X11 : Ext w w11 := Ext.below X7 bl11 (Nat.le_refl _)
        refine wpAnyH_ready (rs := [12]) (by kernel_rfl) (by simp) ?_
        refine AllReadyH.cons rfl (fun K hK => ?_) AllReadyH.nil
        try simp only [Act.put, List.setIfInBounds_toArray, List.set_cons_zero, List.set_cons_succ, List.getElem_toArray, List.getElem_cons_succ, List.getElem_cons_zero]
        go_simp
        refine hK.out _ _ trivial (fun hHeld => ?_)
        clear hK K
        try simp only [Act.put, List.setIfInBounds_toArray, List.set_cons_zero, List.set_cons_succ, List.getElem_toArray, List.getElem_cons_succ, List.getElem_cons_zero]
        refine wpAnyH_done (by kernel_rfl) ?_ _
        clear hHeld
        go_wp2_with fail
        refine bodyPost_ret (v := v11) (by simp only [results, Try.results98]; go_simp) rfl ?_
        exact PInts.mkz (by first | exact o11.z | (rw [List.drop_eq_nil_of_le hc]; exact o11.z)) (Nat.le_refl _) (by simp <;> omega) X11
      · skip
        try simp only [Act.put, List.setIfInBounds_toArray, List.set_cons_zero, List.set_cons_succ, List.getElem_toArray, List.getElem_cons_succ, List.getElem_cons_zero]
        go_simp
        refine hK.out _ _ trivial (fun hHeld => ?_)
        clear hK K
        try simp only [Act.put, List.setIfInBounds_toArray, List.set_cons_zero, List.set_cons_succ, List.getElem_toArray, List.getElem_cons_succ, List.getElem_cons_zero]
        refine wpAnyH_ready (rs := [4]) (by kernel_rfl) (by simp) ?_
        refine AllReadyH.cons rfl (fun K hK => ?_) AllReadyH.nil
        have l0 : OwnI ((w.drew.alloc (.cells #[] 3)).alloc (.cells #[.int .i64 x] 3)) w.heap.size (.slice (some ⟨w.heap.size, 0, none⟩) 0 0) [] := (OwnI.lit0 w.drew w.heap.size (by simp)).ext ((Ext.refl _).alloc _)
        have l1 : Ints ((w.drew.alloc (.cells #[] 3)).alloc (.cells #[.int .i64 x] 3)) w.heap.size (.slice (some ⟨w.heap.size + 1, 0, none⟩) 1 1) [x] := by simpa using Ints.one (w.drew.alloc (.cells #[] 3)) w.heap.size x (by simp)
        refine step_app rfl (.tmp 7) (.tmp 10) rfl rfl rfl (l0) (by first | exact ht.ext (by repeat (first | exact Ext.refl _ | assumption | apply Ext.drewN | apply Ext.drew | apply Ext.alloc)) | exact Ints.nil _ w.heap.size _ _ (by omega) (by simp)) (by simp <;> omega) (by first | assumption | (simp; done) | (simp; omega) | omega) ?_
        intro v4 w4 o4 gr4 bl4 eq4
        refine hK.out _ _ trivial (fun hHeld => ?_)
        clear hK K
        try simp only [Act.put, List.setIfInBounds_toArray, List.set_cons_zero, List.set_cons_succ, List.getElem_toArray, List.getElem_cons_succ, List.getElem_cons_zero]
        have X4 : Ext w w4 := Ext.below (show Ext w _ from (by repeat (first | exact Ext.refl _ | assumption | apply Ext.drewN | apply Ext.drew | apply Ext.alloc))) bl4 (by simp)
        have z4 : w.heap.size ≤ w4.heap.size := X4.size
        replace l1 := l1.keepG gr4 (fun b off h _ => by cases h; show (some w.heap.size : Option Nat) ≠ some (w.heap.size + 1); simp)
        refine wpAnyH_ready (rs := [7]) (by kernel_rfl) (by simp) ?_
        refine AllReadyH.cons rfl (fun K hK => ?_) AllReadyH.nil
        refine step_app rfl (.tmp 11) (.tmp 13) rfl rfl rfl (o4) (l1) (by simp <;> omega) (by first | assumption | (simp; done) | (simp; omega) | omega) ?_
        intro v7 w7 o7 gr7 bl7 eq7
        refine hK.out _ _ trivial (fun hHeld => ?_)
        clear hK K
        try simp only [Act.put, List.setIfInBounds_toArray, List.set_cons_zero, List.set_cons_succ, List.getElem_toArray, List.getElem_cons_succ, List.getElem_cons_zero]
        have X7 : Ext w w7 := Ext.below (X4) bl7 (Nat.le_refl _)
        have z7 : w.heap.size ≤ w7.heap.size := X7.size
        refine wpAnyH_ready (rs := [11]) (by kernel_rfl) (by simp) ?_
        refine AllReadyH.cons rfl (fun K hK => ?_) AllReadyH.nil
        refine step_app rfl (.tmp 14) (.tmp 17) rfl rfl rfl (o7) (by first | exact hd.ext X7 | exact Ints.nil _ w.heap.size _ _ (by omega) (by simp)) (by simp <;> omega) (by first | assumption | (simp; done) | (simp; omega) | omega) ?_
        intro v11 w11 o11 gr11 bl11 eq11
        refine hK.out _ _ trivial (fun hHeld => ?_)
        clear hK K
        try simp only [Act.put, List.setIfInBounds_toArray, List.set_cons_zero, List.set_cons_succ, List.getElem_toArray, List.getElem_cons_succ, List.getElem_cons_zero]
        have X11 : Ext w w11 := Ext.below X7 bl11 (Nat.le_refl _)
        refine wpAnyH_ready (rs := [12]) (by kernel_rfl) (by simp) ?_
        refine AllReadyH.cons rfl (fun K hK => ?_) AllReadyH.nil
        try simp only [Act.put, List.setIfInBounds_toArray, List.set_cons_zero, List.set_cons_succ, List.getElem_toArray, List.getElem_cons_succ, List.getElem_cons_zero]
        go_simp
        refine hK.out _ _ trivial (fun hHeld => ?_)
        clear hK K
        try simp only [Act.put, List.setIfInBounds_toArray, List.set_cons_zero, List.set_cons_succ, List.getElem_toArray, List.getElem_cons_succ, List.getElem_cons_zero]
        refine wpAnyH_done (by kernel_rfl) ?_ _
        clear hHeld
        go_wp2_with fail
        refine bodyPost_ret (v := v11) (by simp only [results, Try.results98]; go_simp) rfl ?_
        exact PInts.mkz (by first | exact o11.z | (rw [List.drop_eq_nil_of_le hc]; exact o11.z)) (Nat.le_refl _) (by simp <;> omega) X11
    · skip
      try simp only [Act.put, List.setIfInBounds_toArray, List.set_cons_zero, List.set_cons_succ, List.getElem_toArray, List.getElem_cons_succ, List.getElem_cons_zero]
      go_simp
      refine hK.out _ _ trivial (fun hHeld => ?_)
      clear hK K
      try simp only [Act.put, List.setIfInBounds_toArray, List.set_cons_zero, List.set_cons_succ, List.getElem_toArray, List.getElem_cons_succ, List.getElem_cons_zero]
      refine wpAnyH_ready (rs := [0]) (by kernel_rfl) (by simp) ?_
      refine AllReadyH.cons rfl (fun K hK => ?_) AllReadyH.nil
      try simp only [Act.put, List.setIfInBounds_toArray, List.set_cons_zero, List.set_cons_succ, List.getElem_toArray, List.getElem_cons_succ, List.getElem_cons_zero]
      go_simp
      refine hK.out _ _ trivial (fun hHeld => ?_)
      clear hK K
      try simp only [Act.put, List.setIfInBounds_toArray, List.set_cons_zero, List.set_cons_succ, List.getElem_toArray, List.getElem_cons_succ, List.getElem_cons_zero]
      refine wpAnyH_ready (rs := [4]) (by kernel_rfl) (by simp) ?_
      refine AllReadyH.cons rfl (fun K hK => ?_) AllReadyH.nil
      have l0 : OwnI ((w.drew.alloc (.cells #[.int .i64 x] 3)).alloc (.cells #[] 3)) w.heap.size (.slice (some ⟨w.heap.size + 1, 0, none⟩) 0 0) [] := by simpa using (OwnI.lit0 (w.drew.alloc (.cells #[.int .i64 x] 3)) w.heap.size (by simp))
      have l1 : Ints ((w.drew.alloc (.cells #[.int .i64 x] 3)).alloc (.cells #[] 3)) w.heap.size (.slice (some ⟨w.heap.size, 0, none⟩) 1 1) [x] := (Ints.one w.drew w.heap.size x (by simp)).ext ((Ext.refl _).alloc _)
      refine step_app rfl (.tmp 7) (.tmp 10) rfl rfl rfl (l0) (by first | exact ht.ext (by repeat (first | exact Ext.refl _ | assumption | apply Ext.drewN | apply Ext.drew | apply Ext.alloc)) | exact Ints.nil _ w.heap.size _ _ (by omega) (by simp)) (by simp <;> omega) (by first | assumption | (simp; done) | (simp; omega) | omega) ?_
      intro v4 w4 o4 gr4 bl4 eq4
      refine hK.out _ _ trivial (fun hHeld => ?_)
      clear hK K
      try simp only [Act.put, List.setIfInBounds_toArray, List.set_cons_zero, List.set_cons_succ, List.getElem_toArray, List.getElem_cons_succ, List.getElem_cons_zero]
      have X4 : Ext w w4 := Ext.below (show Ext w _ from (by repeat (first | exact Ext.refl _ | assumption | apply Ext.drewN | apply Ext.drew | apply Ext.alloc))) bl4 (by simp)
      have z4 : w.heap.size ≤ w4.heap.size := X4.size
      replace l1 := l1.keepG gr4 (fun b off h _ => by cases h; show (some (w.heap.size + 1) : Option Nat) ≠ some w.heap.size; simp)
      refine wpAnyH_ready (rs := [7]) (by kernel_rfl) (by simp) ?_
      refine AllReadyH.cons rfl (fun K hK => ?_) AllReadyH.nil
      refine step_app rfl (.tmp 11) (.tmp 13) rfl rfl rfl (o4) (l1) (by simp <;> omega) (by first | assumption | (simp; done) | (simp; omega) | omega) ?_
      intro v7 w7 o7 gr7 bl7 eq7
      refine hK.out _ _ trivial (fun hHeld => ?_)
      clear hK K
      try simp only [Act.put, List.setIfInBounds_toArray, List.set_cons_zero, List.set_cons_succ, List.getElem_toArray, List.getElem_cons_succ, List.getElem_cons_zero]
      have X7 : Ext w w7 := Ext.below (X4) bl7 (Nat.le_refl _)
      have z7 : w.heap.size ≤ w7.heap.size := X7.size
      refine wpAnyH_ready (rs := [11]) (by kernel_rfl) (by simp) ?_
      refine AllReadyH.cons rfl (fun K hK => ?_) AllReadyH.nil
      refine step_app rfl (.tmp 14) (.tmp 17) rfl rfl rfl (o7) (by first | exact hd.ext X7 | exact Ints.nil _ w.heap.size _ _ (by omega) (by simp)) (by simp <;> omega) (by first | assumption | (simp; done) | (simp; omega) | omega) ?_
      intro v11 w11 o11 gr11 bl11 eq11
      refine hK.out _ _ trivial (fun hHeld => ?_)
      clear hK K
      try simp only [Act.put, List.setIfInBounds_toArray, List.set_cons_zero, List.set_cons_succ, List.getElem_toArray, List.getElem_cons_succ, List.getElem_cons_zero]
      have X11 : Ext w w11 := Ext.below X7 bl11 (Nat.le_refl _)
      refine wpAnyH_ready (rs := [12]) (by kernel_rfl) (by simp) ?_
      refine AllReadyH.cons rfl (fun K hK => ?_) AllReadyH.nil
      try simp only [Act.put, List.setIfInBounds_toArray, List.set_cons_zero, List.set_cons_succ, List.getElem_toArray, List.getElem_cons_succ, List.getElem_cons_zero]
      go_simp
      refine hK.out _ _ trivial (fun hHeld => ?_)
      clear hK K
      try simp only [Act.put, List.setIfInBounds_toArray, List.set_cons_zero, List.set_cons_succ, List.getElem_toArray, List.getElem_cons_succ, List.getElem_cons_zero]
      refine wpAnyH_done (by kernel_rfl) ?_ _
      clear hHeld
      go_wp2_with fail
      refine bodyPost_ret (v := v11) (by simp only [results, Try.results98]; go_simp) rfl ?_
      exact PInts.mkz (by first | exact o11.z | (rw [List.drop_eq_nil_of_le hc]; exact o11.z)) (Nat.le_refl _) (by simp <;> omega) X11
  · subst hne
    obtain rfl : i = 0 := by simpa using hi
    rcases a with _ | A
    · obtain rfl : c = 0 := hb2.2 rfl
      have hd := hv0
      simp only [List.length_nil, Int.ofNat_zero, Int.natCast_zero, List.take_nil, List.drop_nil] at *
      go_enter Try.func98, Try.ntmps98
      go_wp2_with fail
      refine wp_region_held_drew (S := fun _ => True) (by kernel_rfl) trivial (fun hHeld => ?_)
      refine wpAnyH_take (i := 1) (v := ?_) rfl (by kernel_rfl) (by kernel_rfl) (by kernel_rfl) (fun _ _ _ h => h) (Or.inl ⟨by rfl, ?_⟩) (by assumption) ?_
      rotate_left
      · (intro w hSw; (try dsimp only at hSw); go_simp; try with_reducible rfl)
      try simp only [Act.put, List.setIfInBounds_toArray, List.set_cons_zero, List.set_cons_succ, List.getElem_toArray, List.getElem_cons_succ, List.getElem_cons_zero]
      refine wpAnyH_take (i := 2) (v := ?_) rfl (by kernel_rfl) (by kernel_rfl) (by kernel_rfl) (fun _ _ _ h => h) (Or.inl ⟨by rfl, ?_⟩) (by assumption) ?_
      rotate_left
      · (intro w hSw; (try dsimp only at hSw); go_simp; try with_reducible rfl)
      try simp only [Act.put, List.setIfInBounds_toArray, List.set_cons_zero, List.set_cons_succ, List.getElem_toArray, List.getElem_cons_succ, List.getElem_cons_zero]
      refine wpAnyH_take (i := 3) (v := ?_) rfl (by kernel_rfl) (by kernel_rfl) (by kernel_rfl) (fun _ _ _ h => h) (Or.inl ⟨by rfl, ?_⟩) (by assumption) ?_
      rotate_left
      · (intro w hSw; (try dsimp only at hSw); go_simp; try with_reducible rfl)
      try simp only [Act.put, List.setIfInBounds_toArray, List.set_cons_zero, List.set_cons_succ, List.getElem_toArray, List.getElem_cons_succ, List.getElem_cons_zero]
      refine wpAnyH_take (i := 5) (v := ?_) rfl (by kernel_rfl) (by kernel_rfl) (by kernel_rfl) (fun _ _ _ h => h) (Or.inl ⟨by rfl, ?_⟩) (by assumption) ?_
      rotate_left
      · (intro w hSw; (try dsimp only at hSw); go_simp; try with_reducible rfl)
      try simp only [Act.put, List.setIfInBounds_toArray, List.set_cons_zero, List.set_cons_succ, List.getElem_toArray, List.getElem_cons_succ, List.getElem_cons_zero]
      refine wpAnyH_take (i := 8) (v := ?_) rfl (by kernel_rfl) (by kernel_rfl) (by kernel_rfl) (fun _ _ _ h => h) (Or.inl ⟨by rfl, ?_⟩) (by assumption) ?_
      rotate_left
      · (intro w hSw; (try dsimp only at hSw); go_simp; try with_reducible rfl)
      try simp only [Act.put, List.setIfInBounds_toArray, List.set_cons_zero, List.set_cons_succ, List.getElem_toArray, List.getElem_cons_succ, List.getElem_cons_zero]
      refine wpAnyH_take (i := 9) (v := ?_) rfl (by kernel_rfl) (by kernel_rfl) (by kernel_rfl) (fun _ _ _ h => h) (Or.inl ⟨by rfl, ?_⟩) (by assumption) ?_
      rotate_left
      · (intro w hSw; (try dsimp only at hSw); go_simp; try with_reducible rfl)
      try simp only [Act.put, List.setIfInBounds_toArray, List.set_cons_zero, List.set_cons_succ, List.getElem_toArray, List.getElem_cons_succ, List.getElem_cons_zero]
      refine wpAnyH_take (i := 10) (v := ?_) rfl (by kernel_rfl) (by kernel_rfl) (by kernel_rfl) (fun _ _ _ h => h) (Or.inl ⟨by rfl, ?_⟩) (by assumption) ?_
      rotate_left
      · (intro w hSw; (try dsimp only at hSw); go_simp; try with_reducible rfl)
      try simp only [Act.put, List.setIfInBounds_toArray, List.set_cons_zero, List.set_cons_succ, List.getElem_toArray, List.getElem_cons_succ, List.getElem_cons_zero]
      refine wpAnyH_ready (rs := [0, 6]) (by kernel_rfl) (by simp) ?_
      refine AllReadyH.cons rfl (fun K hK => ?_) (AllReadyH.cons rfl (fun K hK => ?_) AllReadyH.nil)
      · skip
        try simp only [Act.put, List.setIfInBounds_toArray, List.set_cons_zero, List.set_cons_succ, List.getElem_toArray, List.getElem_cons_succ, List.getElem_cons_zero]
        go_simp
        refine hK.out _ _ trivial (fun hHeld => ?_)
        clear hK K
        try simp only [Act.put, List.setIfInBounds_toArray, List.set_cons_zero, List.set_cons_succ, List.getElem_toArray, List.getElem_cons_succ, List.getElem_cons_zero]
        refine wpAnyH_ready (rs := [4, 6]) (by kernel_rfl) (by simp) ?_
        refine AllReadyH.cons rfl (fun K hK => ?_) (AllReadyH.cons rfl (fun K hK => ?_) AllReadyH.nil)
        · skip
          refine step_app rfl (.tmp 7) (.tmp 10) rfl rfl rfl (OwnI.lit0 _ w.heap.size (by simp)) (by first | exact ht.ext (by repeat (first | exact Ext.refl _ | assumption | apply Ext.drewN | apply Ext.drew | apply Ext.alloc)) | exact Ints.nil _ w.heap.size _ _ (by omega) (by simp)) (by simp <;> omega) (by first | assumption | (simp; done) | (simp; omega) | omega) ?_
          intro v4 w4 o4 gr4 bl4 eq4
          refine hK.out _ _ trivial (fun hHeld => ?_)
          clear hK K
          try simp only [Act.put, List.setIfInBounds_toArray, List.set_cons_zero, List.set_cons_succ, List.getElem_toArray, List.getElem_cons_succ, List.getElem_cons_zero]
          have X4 : Ext w w4 := Ext.below (show Ext w _ from (by repeat (first | exact Ext.refl _ | assumption | apply Ext.drewN | apply Ext.drew | apply Ext.alloc))) bl4 (by simp)
          have z4 : w.heap.size ≤ w4.heap.size := X4.size
          refine wpAnyH_ready (rs := [6]) (by kernel_rfl) (by simp) ?_
          refine AllReadyH.cons rfl (fun K hK => ?_) AllReadyH.nil
          try simp only [Act.put, List.setIfInBounds_toArray, List.set_cons_zero, List.set_cons_succ, List.getElem_toArray, List.getElem_cons_succ, List.getElem_cons_zero]
          go_simp
          refine hK.out _ _ trivial (fun hHeld => ?_)
          clear hK K
          try simp only [Act.put, List.setIfInBounds_toArray, List.set_cons_zero, List.set_cons_succ, List.getElem_toArray, List.getElem_cons_succ, List.getElem_cons_zero]
          replace o4 := o4.ext (show Ext w4 (w4.alloc (.cells #[.int .i64 x] 3)) from (by repeat (first | exact Ext.refl _ | assumption | apply Ext.drewN | apply Ext.drew | apply Ext.alloc)))
          refine wpAnyH_ready (rs := [7]) (by kernel_rfl) (by simp) ?_
          refine AllReadyH.cons rfl (fun K hK => ?_) AllReadyH.nil
          refine step_app rfl (.tmp 11) (.tmp 13) rfl rfl rfl (o4) (Ints.one w4 w.heap.size x z4) (by simp <;> omega) (by first | assumption | (simp; done) | (simp; omega) | omega) ?_
          intro v7 w7 o7 gr7 bl7 eq7
          refine hK.out _ _ trivial (fun hHeld => ?_)
          clear hK K
          try simp only [Act.put, List.setIfInBounds_toArray, List.set_cons_zero, List.set_cons_succ, List.getElem_toArray, List.getElem_cons_succ, List.getElem_cons_zero]
          have X7 : Ext w w7 := Ext.below (X4.trans (by repeat (first | exact Ext.refl _ | assumption | apply Ext.drewN | apply Ext.drew | apply Ext.alloc))) bl7 (Nat.le_refl _)
          have z7 : w.heap.size ≤ w7.heap.size := X7.size
          refine wpAnyH_ready (rs := [11]) (by kernel_rfl) (by simp) ?_
          refine AllReadyH.cons rfl (fun K hK => ?_) AllReadyH.nil
          refine step_app rfl (.tmp 14) (.tmp 17) rfl rfl rfl (o7) (by first | exact hd.ext X7 | exact Ints.nil _ w.heap.size _ _ (by omega) (by simp)) (by simp <;> omega) (by first | assumption | (simp; done) | (simp; omega) | omega) ?_
          intro v11 w11 o11 gr11 bl11 eq11
          refine hK.out _ _ trivial (fun hHeld => ?_)
          clear hK K
          try simp only [Act.put, List.setIfInBounds_toArray, List.set_cons_zero, List.set_cons_succ, List.getElem_toArray, List.getElem_cons_succ, List.getElem_cons_zero]
          have X11 : Ext w w11 := Ext.below X7 bl11 (Nat.le_refl _)
          refine wpAnyH_ready (rs := [12]) (by kernel_rfl) (by simp) ?_
          refine AllReadyH.cons rfl (fun K hK => ?_) AllReadyH.nil
          try simp only [Act.put, List.setIfInBounds_toArray, List.set_cons_zero, List.set_cons_succ, List.getElem_toArray, List.getElem_cons_succ, List.getElem_cons_zero]
          go_simp
          refine hK.out _ _ trivial (fun hHeld => ?_)
          clear hK K
          try simp only [Act.put, List.setIfInBounds_toArray, List.set_cons_zero, List.set_cons_succ, List.getElem_toArray, List.getElem_cons_succ, List.getElem_cons_zero]
          refine wpAnyH_done (by kernel_rfl) ?_ _
          clear hHeld
          go_wp2_with fail
          refine bodyPost_ret (v := v11) (by simp only [results, Try.results98]; go_simp) rfl ?_
          exact PInts.mkz (by first | exact o11.z | (rw [List.drop_eq_nil_of_le hc]; exact o11.z)) (Nat.le_refl _) (by simp <;> omega) X11
        · skip
          try simp only [Act.put, List.setIfInBounds_toArray, List.set_cons_zero, List.set_cons_succ, List.getElem_toArray, List.getElem_cons_succ, List.getElem_cons_zero]
          go_simp
          refine hK.out _ _ trivial (fun hHeld => ?_)
          clear hK K
          try simp only [Act.put, List.setIfInBounds_toArray, List.set_cons_zero, List.set_cons_succ, List.getElem_toArray, List.getElem_cons_succ, List.getElem_cons_zero]
          refine wpAnyH_ready (rs := [4]) (by kernel_rfl) (by simp) ?_
          refine AllReadyH.cons rfl (fun K hK => ?_) AllReadyH.nil
          have l0 : OwnI ((w.drew.alloc (.cells #[] 3)).alloc (.cells #[.int .i64 x] 3)) w.heap.size (.slice (some ⟨w.heap.size, 0, none⟩) 0 0) [] := (OwnI.lit0 w.drew w.heap.size (by simp)).ext ((Ext.refl _).alloc _)
          have l1 : Ints ((w.drew.alloc (.cells #[] 3)).alloc (.cells #[.int .i64 x] 3)) w.heap.size (.slice (some ⟨w.heap.size + 1, 0, none⟩) 1 1) [x] := by simpa using Ints.one (w.drew.alloc (.cells #[] 3)) w.heap.size x (by simp)
          refine step_app rfl (.tmp 7) (.tmp 10) rfl rfl rfl (l0) (by first | exact ht.ext (by repeat (first | exact Ext.refl _ | assumption | apply Ext.drewN | apply Ext.drew | apply Ext.alloc)) | exact Ints.nil _ w.heap.size _ _ (by omega) (by simp)) (by simp <;> omega) (by first | assumption | (simp; done) | (simp; omega) | omega) ?_
          intro v4 w4 o4 gr4 bl4 eq4
          refine hK.out _ _ trivial (fun hHeld => ?_)
          clear hK K
          try simp only [Act.put, List.setIfInBounds_toArray, List.set_cons_zero, List.set_cons_succ, List.getElem_toArray, List.getElem_cons_succ, List.getElem_cons_zero]
          have X4 : Ext w w4 := Ext.below (show Ext w _ from (by repeat (first | exact Ext.refl _ | assumption | apply Ext.drewN | apply Ext.drew | apply Ext.alloc))) bl4 (by simp)
          have z4 : w.heap.size ≤ w4.heap.size := X4.size
          replace l1 := l1.keepG gr4 (fun b off h _ => by cases h; show (some w.heap.size : Option Nat) ≠ some (w.heap.size + 1); simp)
          refine wpAnyH_ready (rs := [7]) (by kernel_rfl) (by simp) ?_
          refine AllReadyH.cons rfl (fun K hK => ?_) AllReadyH.nil
          refine step_app rfl (.tmp 11) (.tmp 13) rfl rfl rfl (o4) (l1) (by simp <;> omega) (by first | assumption | (simp; done) | (simp; omega) | omega) ?_
          intro v7 w7 o7 gr7 bl7 eq7
          refine hK.out _ _ trivial (fun hHeld => ?_)
          clear hK K
          try simp only [Act.put, List.setIfInBounds_toArray, List.set_cons_zero, List.set_cons_succ, List.getElem_toArray, List.getElem_cons_succ, List.getElem_cons_zero]
          have X7 : Ext w w7 := Ext.below (X4) bl7 (Nat.le_refl _)
          have z7 : w.heap.size ≤ w7.heap.size := X7.size
          refine wpAnyH_ready (rs := [11]) (by kernel_rfl) (by simp) ?_
          refine AllReadyH.cons rfl (fun K hK => ?_) AllReadyH.nil
          refine step_app rfl (.tmp 14) (.tmp 17) rfl rfl rfl (o7) (by first | exact hd.ext X7 | exact Ints.nil _ w.heap.size _ _ (by omega) (by simp)) (by simp <;> omega) (by first | assumption | (simp; done) | (simp; omega) | omega) ?_
          intro v11 w11 o11 gr11 bl11 eq11
          refine hK.out _ _ trivial (fun hHeld => ?_)
          clear hK K
          try simp only [Act.put, List.setIfInBounds_toArray, List.set_cons_zero, List.set_cons_succ, List.getElem_toArray, List.getElem_cons_succ, List.getElem_cons_zero]
          have X11 : Ext w w11 := Ext.below X7 bl11 (Nat.le_refl _)
          refine wpAnyH_ready (rs := [12]) (by kernel_rfl) (by simp) ?_
          refine AllReadyH.cons rfl (fun K hK => ?_) AllReadyH.nil
          try simp only [Act.put, List.setIfInBounds_toArray, List.set_cons_zero, List.set_cons_succ, List.getElem_toArray, List.getElem_cons_succ, List.getElem_cons_zero]
          go_simp
          refine hK.out _ _ trivial (fun hHeld => ?_)
          clear hK K
          try simp only [Act.put, List.setIfInBounds_toArray, List.set_cons_zero, List.set_cons_succ, List.getElem_toArray, List.getElem_cons_succ, List.getElem_cons_zero]
          refine wpAnyH_done (by kernel_rfl) ?_ _
          clear hHeld
          go_wp2_with fail
          refine bodyPost_ret (v := v11) (by simp only [results, Try.results98]; go_simp) rfl ?_
          exact PInts.mkz (by first | exact o11.z | (rw [List.drop_eq_nil_of_le hc]; exact o11.z)) (Nat.le_refl _) (by simp <;> omega) X11
      · skip
        try simp only [Act.put, List.setIfInBounds_toArray, List.set_cons_zero, List.set_cons_succ, List.getElem_toArray, List.getElem_cons_succ, List.getElem_cons_zero]
        go_simp
        refine hK.out _ _ trivial (fun hHeld => ?_)
        clear hK K
        try simp only [Act.put, List.setIfInBounds_toArray, List.set_cons_zero, List.set_cons_succ, List.getElem_toArray, List.getElem_cons_succ, List.getElem_cons_zero]
        refine wpAnyH_ready (rs := [0]) (by kernel_rfl) (by simp) ?_
        refine AllReadyH.cons rfl (fun K hK => ?_) AllReadyH.nil
        try simp only [Act.put, List.setIfInBounds_toArray, List.set_cons_zero, List.set_cons_succ, List.getElem_toArray, List.getElem_cons_succ, List.getElem_cons_zero]
        go_simp
        refine hK.out _ _ trivial (fun hHeld => ?_)
        clear hK K
        try simp only [Act.put, List.setIfInBounds_toArray, List.set_cons_zero, List.set_cons_succ, List.getElem_toArray, List.getElem_cons_succ, List.getElem_cons_zero]
        refine wpAnyH_ready (rs := [4]) (by kernel_rfl) (by simp) ?_
        refine AllReadyH.cons rfl (fun K hK => ?_) AllReadyH.nil
        have l0 : OwnI ((w.drew.alloc (.cells #[.int .i64 x] 3)).alloc (.cells #[] 3)) w.heap.size (.slice (some ⟨w.heap.size + 1, 0, none⟩) 0 0) [] := by simpa using (OwnI.lit0 (w.drew.alloc (.cells #[.int .i64 x] 3)) w.heap.size (by simp))
        have l1 : Ints ((w.drew.alloc (.cells #[.int .i64 x] 3)).alloc (.cells #[] 3)) w.heap.size (.slice (some ⟨w.heap.size, 0, none⟩) 1 1) [x] := (Ints.one w.drew w.heap.size x (by simp)).ext ((Ext.refl _).alloc _)
        refine step_app rfl (.tmp 7) (.tmp 10) rfl rfl rfl (l0) (by first | exact ht.ext (by repeat (first | exact Ext.refl _ | assumption | apply Ext.drewN | apply Ext.drew | apply Ext.alloc)) | exact Ints.nil _ w.heap.size _ _ (by omega) (by simp)) (by simp <;> omega) (by first | assumption | (simp; done) | (simp; omega) | omega) ?_
        intro v4 w4 o4 gr4 bl4 eq4
        refine hK.out _ _ trivial (fun hHeld => ?_)
        clear hK K
        try simp only [Act.put, List.setIfInBounds_toArray, List.set_cons_zero, List.set_cons_succ, List.getElem_toArray, List.getElem_cons_succ, List.getElem_cons_zero]
        have X4 : Ext w w4 := Ext.below (show Ext w _ from (by repeat (first | exact Ext.refl _ | assumption | apply Ext.drewN | apply Ext.drew | apply Ext.alloc))) bl4 (by simp)
        have z4 : w.heap.size ≤ w4.heap.size := X4.size
        replace l1 := l1.keepG gr4 (fun b off h _ => by cases h; show (some (w.heap.size + 1) : Option Nat) ≠ some w.heap.size; simp)
        refine wpAnyH_ready (rs := [7]) (by kernel_rfl) (by simp) ?_
        refine AllReadyH.cons rfl (fun K hK => ?_) AllReadyH.nil
        refine step_app rfl (.tmp 11) (.tmp 13) rfl rfl rfl (o4) (l1) (by simp <;> omega) (by first | assumption | (simp; done) | (simp; omega) | omega) ?_
        intro v7 w7 o7 gr7 bl7 eq7
        refine hK.out _ _ trivial (fun hHeld => ?_)
        clear hK K
        try simp only [Act.put, List.setIfInBounds_toArray, List.set_cons_zero, List.set_cons_succ, List.getElem_toArray, List.getElem_cons_succ, List.getElem_cons_zero]
        have X7 : Ext w w7 := Ext.below (X4) bl7 (Nat.le_refl _)
        have z7 : w.heap.size ≤ w7.heap.size := X7.size
        refine wpAnyH_ready (rs := [11]) (by kernel_rfl) (by simp) ?_
        refine AllReadyH.cons rfl (fun K hK => ?_) AllReadyH.nil
        refine step_app rfl (.tmp 14) (.tmp 17) rfl rfl rfl (o7) (by first | exact hd.ext X7 | exact Ints.nil _ w.heap.size _ _ (by omega) (by simp)) (by simp <;> omega) (by first | assumption | (simp; done) | (simp; omega) | omega) ?_
        intro v11 w11 o11 gr11 bl11 eq11
        refine hK.out _ _ trivial (fun hHeld => ?_)
        clear hK K
        try simp only [Act.put, List.setIfInBounds_toArray, List.set_cons_zero, List.set_cons_succ, List.getElem_toArray, List.getElem_cons_succ, List.getElem_cons_zero]
        have X11 : Ext w w11 := Ext.below X7 bl11 (Nat.le_refl _)
        refine wpAnyH_ready (rs := [12]) (by kernel_rfl) (by simp) ?_
        refine AllReadyH.cons rfl (fun K hK => ?_) AllReadyH.nil
        try simp only [Act.put, List.setIfInBounds_toArray, List.set_cons_zero, List.set_cons_succ, List.getElem_toArray, List.getElem_cons_succ, List.getElem_cons_zero]
        go_simp
        refine hK.out _ _ trivial (fun hHeld => ?_)
        clear hK K
        try simp only [Act.put, List.setIfInBounds_toArray, List.set_cons_zero, List.set_cons_succ, List.getElem_toArray, List.getElem_cons_succ, List.getElem_cons_zero]
        refine wpAnyH_done (by kernel_rfl) ?_ _
        clear hHeld
        go_wp2_with fail
        refine bodyPost_ret (v := v11) (by simp only [results, Try.results98]; go_simp) rfl ?_
        exact PInts.mkz (by first | exact o11.z | (rw [List.drop_eq_nil_of_le hc]; exact o11.z)) (Nat.le_refl _) (by simp <;> omega) X11
    · by_cases hc0 : c = 0
      · subst hc0
        have hd := hv0
        simp only [List.length_nil, Int.ofNat_zero, Int.natCast_zero, List.take_nil, List.drop_nil] at *
        go_enter Try.func98, Try.ntmps98
        go_wp2_with fail
        refine wp_region_held_drew (S := fun _ => True) (by kernel_rfl) trivial (fun hHeld => ?_)
        refine wpAnyH_take (i := 1) (v := ?_) rfl (by kernel_rfl) (by kernel_rfl) (by kernel_rfl) (fun _ _ _ h => h) (Or.inl ⟨by rfl, ?_⟩) (by assumption) ?_
        rotate_left
        · (intro w hSw; (try dsimp only at hSw); go_simp; try with_reducible rfl)
        try simp only [Act.put, List.setIfInBounds_toArray, List.set_cons_zero, List.set_cons_succ, List.getElem_toArray, List.getElem_cons_succ, List.getElem_cons_zero]
        refine wpAnyH_take (i := 2) (v := ?_) rfl (by kernel_rfl) (by kernel_rfl) (by kernel_rfl) (fun _ _ _ h => h) (Or.inl ⟨by rfl, ?_⟩) (by assumption) ?_
        rotate_left
        · (intro w hSw; (try dsimp only at hSw); go_simp; try with_reducible rfl)
        try simp only [Act.put, List.setIfInBounds_toArray, List.set_cons_zero, List.set_cons_succ, List.getElem_toArray, List.getElem_cons_succ, List.getElem_cons_zero]
        refine wpAnyH_take (i := 3) (v := ?_) rfl (by kernel_rfl) (by kernel_rfl) (by kernel_rfl) (fun _ _ _ h => h) (Or.inl ⟨by rfl, ?_⟩) (by assumption) ?_
        rotate_left
        · (intro w hSw; (try dsimp only at hSw); go_simp; try with_reducible rfl)
        try simp only [Act.put, List.setIfInBounds_toArray, List.set_cons_zero, List.set_cons_succ, List.getElem_toArray, List.getElem_cons_succ, List.getElem_cons_zero]
        refine wpAnyH_take (i := 5) (v := ?_) rfl (by kernel_rfl) (by kernel_rfl) (by kernel_rfl) (fun _ _ _ h => h) (Or.inl ⟨by rfl, ?_⟩) (by assumption) ?_
        rotate_left
        · (intro w hSw; (try dsimp only at hSw); go_simp; try with_reducible rfl)
        try simp only [Act.put, List.setIfInBounds_toArray, List.set_cons_zero, List.set_cons_succ, List.getElem_toArray, List.getElem_cons_succ, List.getElem_cons_zero]
        refine wpAnyH_take (i := 8) (v := ?_) rfl (by kernel_rfl) (by kernel_rfl) (by kernel_rfl) (fun _ _ _ h => h) (Or.inl ⟨by rfl, ?_⟩) (by assumption) ?_
        rotate_left
        · (intro w hSw; (try dsimp only at hSw); go_simp; try with_reducible rfl)
        try simp only [Act.put, List.setIfInBounds_toArray, List.set_cons_zero, List.set_cons_succ, List.getElem_toArray, List.getElem_cons_succ, List.getElem_cons_zero]
        refine wpAnyH_take (i := 9) (v := ?_) rfl (by kernel_rfl) (by kernel_rfl) (by kernel_rfl) (fun _ _ _ h => h) (Or.inl ⟨by rfl, ?_⟩) (by assumption) ?_
        rotate_left
        · (intro w hSw; (try dsimp only at hSw); go_simp; try with_reducible rfl)
        try simp only [Act.put, List.setIfInBounds_toArray, List.set_cons_zero, List.set_cons_succ, List.getElem_toArray, List.getElem_cons_succ, List.getElem_cons_zero]
        refine wpAnyH_take (i := 10) (v := ?_) rfl (by kernel_rfl) (by kernel_rfl) (by kernel_rfl) (fun _ _ _ h => h) (Or.inl ⟨by rfl, ?_⟩) (by assumption) ?_
        rotate_left
        · (intro w hSw; (try dsimp only at hSw); go_simp; try with_reducible rfl)
        try simp only [Act.put, List.setIfInBounds_toArray, List.set_cons_zero, List.set_cons_succ, List.getElem_toArray, List.getElem_cons_succ, List.getElem_cons_zero]
        refine wpAnyH_ready (rs := [0, 6]) (by kernel_rfl) (by simp) ?_
        refine AllReadyH.cons rfl (fun K hK => ?_) (AllReadyH.cons rfl (fun K hK => ?_) AllReadyH.nil)
        · skip
          try simp only [Act.put, List.setIfInBounds_toArray, List.set_cons_zero, List.set_cons_succ, List.getElem_toArray, List.getElem_cons_succ, List.getElem_cons_zero]
          go_simp
          refine hK.out _ _ trivial (fun hHeld => ?_)
          clear hK K
          try simp only [Act.put, List.setIfInBounds_toArray, List.set_cons_zero, List.set_cons_succ, List.getElem_toArray, List.getElem_cons_succ, List.getElem_cons_zero]
          refine wpAnyH_ready (rs := [4, 6]) (by kernel_rfl) (by simp) ?_
          refine AllReadyH.cons rfl (fun K hK => ?_) (AllReadyH.cons rfl (fun K hK => ?_) AllReadyH.nil)
          · skip
            refine step_app rfl (.tmp 7) (.tmp 10) rfl rfl rfl (OwnI.lit0 _ w.heap.size (by simp)) (by first | exact ht.ext (by repeat (first | exact Ext.refl _ | assumption | apply Ext.drewN | apply Ext.drew | apply Ext.alloc)) | exact Ints.nil _ w.heap.size _ _ (by omega) (by simp)) (by simp <;> omega) (by first | assumption | (simp; done) | (simp; omega) | omega) ?_
            intro v4 w4 o4 gr4 bl4 eq4
            refine hK.out _ _ trivial (fun hHeld => ?_)
            clear hK K
            try simp only [Act.put, List.setIfInBounds_toArray, List.set_cons_zero, List.set_cons_succ, List.getElem_toArray, List.getElem_cons_succ, List.getElem_cons_zero]
            have X4 : Ext w w4 := Ext.below (show Ext w _ from (by repeat (first | exact Ext.refl _ | assumption | apply Ext.drewN | apply Ext.drew | apply Ext.alloc))) bl4 (by simp)
            have z4 : w.heap.size ≤ w4.heap.size := X4.size
            refine wpAnyH_ready (rs := [6]) (by kernel_rfl) (by simp) ?_
            refine AllReadyH.cons rfl (fun K hK => ?_) AllReadyH.nil
            try simp only [Act.put, List.setIfInBounds_toArray, List.set_cons_zero, List.set_cons_succ, List.getElem_toArray, List.getElem_cons_succ, List.getElem_cons_zero]
            go_simp
            refine hK.out _ _ trivial (fun hHeld => ?_)
            clear hK K
            try simp only [Act.put, List.setIfInBounds_toArray, List.set_cons_zero, List.set_cons_succ, List.getElem_toArray, List.getElem_cons_succ, List.getElem_cons_zero]
            replace o4 := o4.ext (show Ext w4 (w4.alloc (.cells #[.int .i64 x] 3)) from (by repeat (first | exact Ext.refl _ | assumption | apply Ext.drewN | apply Ext.drew | apply Ext.alloc)))
            refine wpAnyH_ready (rs := [7]) (by kernel_rfl) (by simp) ?_
            refine AllReadyH.cons rfl (fun K hK => ?_) AllReadyH.nil
            refine step_app rfl (.tmp 11) (.tmp 13) rfl rfl rfl (o4) (Ints.one w4 w.heap.size x z4) (by simp <;> omega) (by first | assumption | (simp; done) | (simp; omega) | omega) ?_
            intro v7 w7 o7 gr7 bl7 eq7
            refine hK.out _ _ trivial (fun hHeld => ?_)
            clear hK K
            try simp only [Act.put, List.setIfInBounds_toArray, List.set_cons_zero, List.set_cons_succ, List.getElem_toArray, List.getElem_cons_succ, List.getElem_cons_zero]
            have X7 : Ext w w7 := Ext.below (X4.trans (by repeat (first | exact Ext.refl _ | assumption | apply Ext.drewN | apply Ext.drew | apply Ext.alloc))) bl7 (Nat.le_refl _)
            have z7 : w.heap.size ≤ w7.heap.size := X7.size
            refine wpAnyH_ready (rs := [11]) (by kernel_rfl) (by simp) ?_
            refine AllReadyH.cons rfl (fun K hK => ?_) AllReadyH.nil
            refine step_app rfl (.tmp 14) (.tmp 17) rfl rfl rfl (o7) (by first | exact hd.ext X7 | exact Ints.nil _ w.heap.size _ _ (by omega) (by simp)) (by simp <;> omega) (by first | assumption | (simp; done) | (simp; omega) | omega) ?_
            intro v11 w11 o11 gr11 bl11 eq11
            refine hK.out _ _ trivial (fun hHeld => ?_)
            clear hK K
            try simp only [Act.put, List.setIfInBounds_toArray, List.set_cons_zero, List.set_cons_succ, List.getElem_toArray, List.getElem_cons_succ, List.getElem_cons_zero]
            have X11 : Ext w w11 := Ext.below X7 bl11 (Nat.le_refl _)
            refine wpAnyH_ready (rs := [12]) (by kernel_rfl) (by simp) ?_
            refine AllReadyH.cons rfl (fun K hK => ?_) AllReadyH.nil
            try simp only [Act.put, List.setIfInBounds_toArray, List.set_cons_zero, List.set_cons_succ, List.getElem_toArray, List.getElem_cons_succ, List.getElem_cons_zero]
            go_simp
            refine hK.out _ _ trivial (fun hHeld => ?_)
            clear hK K
            try simp only [Act.put, List.setIfInBounds_toArray, List.set_cons_zero, List.set_cons_succ, List.getElem_toArray, List.getElem_cons_succ, List.getElem_cons_zero]
            refine wpAnyH_done (by kernel_rfl) ?_ _
            clear hHeld
            go_wp2_with fail
            refine bodyPost_ret (v := v11) (by simp only [results, Try.results98]; go_simp) rfl ?_
            exact PInts.mkz (by first | exact o11.z | (rw [List.drop_eq_nil_of_le hc]; exact o11.z)) (Nat.le_refl _) (by simp <;> omega) X11
          · skip
            try simp only [Act.put, List.setIfInBounds_toArray, List.set_cons_zero, List.set_cons_succ, List.getElem_toArray, List.getElem_cons_succ, List.getElem_cons_zero]
            go_simp
            refine hK.out _ _ trivial (fun hHeld => ?_)
            clear hK K
            try simp only [Act.put, List.setIfInBounds_toArray, List.set_cons_zero, List.set_cons_succ, List.getElem_toArray, List.getElem_cons_succ, List.getElem_cons_zero]
            refine wpAnyH_ready (rs := [4]) (by kernel_rfl) (by simp) ?_
            refine AllReadyH.cons rfl (fun K hK => ?_) AllReadyH.nil
            have l0 : OwnI ((w.drew.alloc (.cells #[] 3)).alloc (.cells #[.int .i64 x] 3)) w.heap.size (.slice (some ⟨w.heap.size, 0, none⟩) 0 0) [] := (OwnI.lit0 w.drew w.heap.size (by simp)).ext ((Ext.refl _).alloc _)
            have l1 : Ints ((w.drew.alloc (.cells #[] 3)).alloc (.cells #[.int .i64 x] 3)) w.heap.size (.slice (some ⟨w.heap.size + 1, 0, none⟩) 1 1) [x] := by simpa using Ints.one (w.drew.alloc (.cells #[] 3)) w.heap.size x (by simp)
            refine step_app rfl (.tmp 7) (.tmp 10) rfl rfl rfl (l0) (by first | exact ht.ext (by repeat (first | exact Ext.refl _ | assumption | apply Ext.drewN | apply Ext.drew | apply Ext.alloc)) | exact Ints.nil _ w.heap.size _ _ (by omega) (by simp)) (by simp <;> omega) (by first | assumption | (simp; done) | (simp; omega) | omega) ?_
            intro v4 w4 o4 gr4 bl4 eq4
            refine hK.out _ _ trivial (fun hHeld => ?_)
            clear hK K
            try simp only [Act.put, List.setIfInBounds_toArray, List.set_cons_zero, List.set_cons_succ, List.getElem_toArray, List.getElem_cons_succ, List.getElem_cons_zero]
            have X4 : Ext w w4 := Ext.below (show Ext w _ from (by repeat (first | exact Ext.refl _ | assumption | apply Ext.drewN | apply Ext.drew | apply Ext.alloc))) bl4 (by simp)
            have z4 : w.heap.size ≤ w4.heap.size := X4.size
            replace l1 := l1.keepG gr4 (fun b off h _ => by cases h; show (some w.heap.size : Option Nat) ≠ some (w.heap.size + 1); simp)
            refine wpAnyH_ready (rs := [7]) (by kernel_rfl) (by simp) ?_
            refine AllReadyH.cons rfl (fun K hK => ?_) AllReadyH.nil
            refine step_app rfl (.tmp 11) (.tmp 13) rfl rfl rfl (o4) (l1) (by simp <;> omega) (by first | assumption | (simp; done) | (simp; omega) | omega) ?_
            intro v7 w7 o7 gr7 bl7 eq7
            refine hK.out _ _ trivial (fun hHeld => ?_)
            clear hK K
            try simp only [Act.put, List.setIfInBounds_toArray, List.set_cons_zero, List.set_cons_succ, List.getElem_toArray, List.getElem_cons_succ, List.getElem_cons_zero]
            have X7 : Ext w w7 := Ext.below (X4) bl7 (Nat.le_refl _)
            have z7 : w.heap.size ≤ w7.heap.size := X7.size
            refine wpAnyH_ready (rs := [11]) (by kernel_rfl) (by simp) ?_
            refine AllReadyH.cons rfl (fun K hK => ?_) AllReadyH.nil
            refine step_app rfl (.tmp 14) (.tmp 17) rfl rfl rfl (o7) (by first | exact hd.ext X7 | exact Ints.nil _ w.heap.size _ _ (by omega) (by simp)) (by simp <;> omega) (by first | assumption | (simp; done) | (simp; omega) | omega) ?_
            intro v11 w11 o11 gr11 bl11 eq11
            refine hK.out _ _ trivial (fun hHeld => ?_)
            clear hK K
            try simp only [Act.put, List.setIfInBounds_toArray, List.set_cons_zero, List.set_cons_succ, List.getElem_toArray, List.getElem_cons_succ, List.getElem_cons_zero]
            have X11 : Ext w w11 := Ext.below X7 bl11 (Nat.le_refl _)
            refine wpAnyH_ready (rs := [12]) (by kernel_rfl) (by simp) ?_
            refine AllReadyH.cons rfl (fun K hK => ?_) AllReadyH.nil
            try simp only [Act.put, List.setIfInBounds_toArray, List.set_cons_zero, List.set_cons_succ, List.getElem_toArray, List.getElem_cons_succ, List.getElem_cons_zero]
            go_simp
            refine hK.out _ _ trivial (fun hHeld => ?_)
            clear hK K
            try simp only [Act.put, List.setIfInBounds_toArray, List.set_cons_zero, List.set_cons_succ, List.getElem_toArray, List.getElem_cons_succ, List.getElem_cons_zero]
            refine wpAnyH_done (by kernel_rfl) ?_ _
            clear hHeld
            go_wp2_with fail
            refine bodyPost_ret (v := v11) (by simp only [results, Try.results98]; go_simp) rfl ?_
            exact PInts.mkz (by first | exact o11.z | (rw [List.drop_eq_nil_of_le hc]; exact o11.z)) (Nat.le_refl _) (by simp <;> omega) X11
        · skip
          try simp only [Act.put, List.setIfInBounds_toArray, List.set_cons_zero, List.set_cons_succ, List.getElem_toArray, List.getElem_cons_succ, List.getElem_cons_zero]
          go_simp
          refine hK.out _ _ trivial (fun hHeld => ?_)
          clear hK K
          try simp only [Act.put, List.setIfInBounds_toArray, List.set_cons_zero, List.set_cons_succ, List.getElem_toArray, List.getElem_cons_succ, List.getElem_cons_zero]
          refine wpAnyH_ready (rs := [0]) (by kernel_rfl) (by simp) ?_
          refine AllReadyH.cons rfl (fun K hK => ?_) AllReadyH.nil
          try simp only [Act.put, List.setIfInBounds_toArray, List.set_cons_zero, List.set_cons_succ, List.getElem_toArray, List.getElem_cons_succ, List.getElem_cons_zero]
          go_simp
          refine hK.out _ _ trivial (fun hHeld => ?_)
          clear hK K
          try simp only [Act.put, List.setIfInBounds_toArray, List.set_cons_zero, List.set_cons_succ, List.getElem_toArray, List.getElem_cons_succ, List.getElem_cons_zero]
          refine wpAnyH_ready (rs := [4]) (by kernel_rfl) (by simp) ?_
          refine AllReadyH.cons rfl (fun K hK => ?_) AllReadyH.nil
          have l0 : OwnI ((w.drew.alloc (.cells #[.int .i64 x] 3)).alloc (.cells #[] 3)) w.heap.size (.slice (some ⟨w.heap.size + 1, 0, none⟩) 0 0) [] := by simpa using (OwnI.lit0 (w.drew.alloc (.cells #[.int .i64 x] 3)) w.heap.size (by simp))
          have l1 : Ints ((w.drew.alloc (.cells #[.int .i64 x] 3)).alloc (.cells #[] 3)) w.heap.size (.slice (some ⟨w.heap.size, 0, none⟩) 1 1) [x] := (Ints.one w.drew w.heap.size x (by simp)).ext ((Ext.refl _).alloc _)
          refine step_app rfl (.tmp 7) (.tmp 10) rfl rfl rfl (l0) (by first | exact ht.ext (by repeat (first | exact Ext.refl _ | assumption | apply Ext.drewN | apply Ext.drew | apply Ext.alloc)) | exact Ints.nil _ w.heap.size _ _ (by omega) (by simp)) (by simp <;> omega) (by first | assumption | (simp; done) | (simp; omega) | omega) ?_
          intro v4 w4 o4 gr4 bl4 eq4
          refine hK.out _ _ trivial (fun hHeld => ?_)
          clear hK K
          try simp only [Act.put, List.setIfInBounds_toArray, List.set_cons_zero, List.set_cons_succ, List.getElem_toArray, List.getElem_cons_succ, List.getElem_cons_zero]
          have X4 : Ext w w4 := Ext.below (show Ext w _ from (by repeat (first | exact Ext.refl _ | assumption | apply Ext.drewN | apply Ext.drew | apply Ext.alloc))) bl4 (by simp)
          have z4 : w.heap.size ≤ w4.heap.size := X4.size
          replace l1 := l1.keepG gr4 (fun b off h _ => by cases h; show (some (w.heap.size + 1) : Option Nat) ≠ some w.heap.size; simp)
          refine wpAnyH_ready (rs := [7]) (by kernel_rfl) (by simp) ?_
          refine AllReadyH.cons rfl (fun K hK => ?_) AllReadyH.nil
          refine step_app rfl (.tmp 11) (.tmp 13) rfl rfl rfl (o4) (l1) (by simp <;> omega) (by first | assumption | (simp; done) | (simp; omega) | omega) ?_
          intro v7 w7 o7 gr7 bl7 eq7
          refine hK.out _ _ trivial (fun hHeld => ?_)
          clear hK K
          try simp only [Act.put, List.setIfInBounds_toArray, List.set_cons_zero, List.set_cons_succ, List.getElem_toArray, List.getElem_cons_succ, List.getElem_cons_zero]
          have X7 : Ext w w7 := Ext.below (X4) bl7 (Nat.le_refl _)
          have z7 : w.heap.size ≤ w7.heap.size := X7.size
          refine wpAnyH_ready (rs := [11]) (by kernel_rfl) (by simp) ?_
          refine AllReadyH.cons rfl (fun K hK => ?_) AllReadyH.nil
          refine step_app rfl (.tmp 14) (.tmp 17) rfl rfl rfl (o7) (by first | exact hd.ext X7 | exact Ints.nil _ w.heap.size _ _ (by omega) (by simp)) (by simp <;> omega) (by first | assumption | (simp; done) | (simp; omega) | omega) ?_
          intro v11 w11 o11 gr11 bl11 eq11
          refine hK.out _ _ trivial (fun hHeld => ?_)
          clear hK K
          try simp only [Act.put, List.setIfInBounds_toArray, List.set_cons_zero, List.set_cons_succ, List.getElem_toArray, List.getElem_cons_succ, List.getElem_cons_zero]
          have X11 : Ext w w11 := Ext.below X7 bl11 (Nat.le_refl _)
          refine wpAnyH_ready (rs := [12]) (by kernel_rfl) (by simp) ?_
          refine AllReadyH.cons rfl (fun K hK => ?_) AllReadyH.nil
          try simp only [Act.put, List.setIfInBounds_toArray, List.set_cons_zero, List.set_cons_succ, List.getElem_toArray, List.getElem_cons_succ, List.getElem_cons_zero]
          go_simp
          refine hK.out _ _ trivial (fun hHeld => ?_)
          clear hK K
          try simp only [Act.put, List.setIfInBounds_toArray, List.set_cons_zero, List.set_cons_succ, List.getElem_toArray, List.getElem_cons_succ, List.getElem_cons_zero]
          refine wpAnyH_done (by kernel_rfl) ?_ _
          clear hHeld
          go_wp2_with fail
          refine bodyPost_ret (v := v11) (by simp only [results, Try.results98]; go_simp) rfl ?_
          exact PInts.mkz (by first | exact o11.z | (rw [List.drop_eq_nil_of_le hc]; exact o11.z)) (Nat.le_refl _) (by simp <;> omega) X11
      · have hd := hv0
        simp only [List.length_nil, Int.ofNat_zero, Int.natCast_zero, List.take_nil, List.drop_nil] at *
        go_enter Try.func98, Try.ntmps98
        go_wp2_with fail
        refine wp_region_held_drew (S := fun _ => True) (by kernel_rfl) trivial (fun hHeld => ?_)
        refine wpAnyH_take (i := 1) (v := ?_) rfl (by kernel_rfl) (by kernel_rfl) (by kernel_rfl) (fun _ _ _ h => h) (Or.inl ⟨by rfl, ?_⟩) (by assumption) ?_
        rotate_left
        · (intro w hSw; (try dsimp only at hSw); go_simp; try with_reducible rfl)
        try simp only [Act.put, List.setIfInBounds_toArray, List.set_cons_zero, List.set_cons_succ, List.getElem_toArray, List.getElem_cons_succ, List.getElem_cons_zero]
        refine wpAnyH_take (i := 2) (v := ?_) rfl (by kernel_rfl) (by kernel_rfl) (by kernel_rfl) (fun _ _ _ h => h) (Or.inl ⟨by rfl, ?_⟩) (by assumption) ?_
        rotate_left
        · (intro w hSw; (try dsimp only at hSw); go_simp; try with_reducible rfl)
        try simp only [Act.put, List.setIfInBounds_toArray, List.set_cons_zero, List.set_cons_succ, List.getElem_toArray, List.getElem_cons_succ, List.getElem_cons_zero]
        refine wpAnyH_take (i := 3) (v := ?_) rfl (by kernel_rfl) (by kernel_rfl) (by kernel_rfl) (fun _ _ _ h => h) (Or.inl ⟨by rfl, ?_⟩) (by assumption) ?_
        rotate_left
        · (intro w hSw; (try dsimp only at hSw); go_simp; try with_reducible rfl)
        try simp only [Act.put, List.setIfInBounds_toArray, List.set_cons_zero, List.set_cons_succ, List.getElem_toArray, List.getElem_cons_succ, List.getElem_cons_zero]
        refine wpAnyH_take (i := 5) (v := ?_) rfl (by kernel_rfl) (by kernel_rfl) (by kernel_rfl) (fun _ _ _ h => h) (Or.inl ⟨by rfl, ?_⟩) (by assumption) ?_
        rotate_left
        · (intro w hSw; (try dsimp only at hSw); go_simp; try with_reducible rfl)
        try simp only [Act.put, List.setIfInBounds_toArray, List.set_cons_zero, List.set_cons_succ, List.getElem_toArray, List.getElem_cons_succ, List.getElem_cons_zero]
        refine wpAnyH_take (i := 8) (v := ?_) rfl (by kernel_rfl) (by kernel_rfl) (by kernel_rfl) (fun _ _ _ h => h) (Or.inl ⟨by rfl, ?_⟩) (by assumption) ?_
        rotate_left
        · (intro w hSw; (try dsimp only at hSw); go_simp; try with_reducible rfl)
        try simp only [Act.put, List.setIfInBounds_toArray, List.set_cons_zero, List.set_cons_succ, List.getElem_toArray, List.getElem_cons_succ, List.getElem_cons_zero]
        refine wpAnyH_take (i := 9) (v := ?_) rfl (by kernel_rfl) (by kernel_rfl) (by kernel_rfl) (fun _ _ _ h => h) (Or.inl ⟨by rfl, ?_⟩) (by assumption) ?_
        rotate_left
        · (intro w hSw; (try dsimp only at hSw); go_simp; try with_reducible rfl)
        try simp only [Act.put, List.setIfInBounds_toArray, List.set_cons_zero, List.set_cons_succ, List.getElem_toArray, List.getElem_cons_succ, List.getElem_cons_zero]
        refine wpAnyH_take (i := 10) (v := ?_) rfl (by kernel_rfl) (by kernel_rfl) (by kernel_rfl) (fun _ _ _ h => h) (Or.inl ⟨by rfl, ?_⟩) (by assumption) ?_
        rotate_left
        · (intro w hSw; (try dsimp only at hSw); go_simp; try with_reducible rfl)
        try simp only [Act.put, List.setIfInBounds_toArray, List.set_cons_zero, List.set_cons_succ, List.getElem_toArray, List.getElem_cons_succ, List.getElem_cons_zero]
        refine wpAnyH_ready (rs := [0, 6]) (by kernel_rfl) (by simp) ?_
        refine AllReadyH.cons rfl (fun K hK => ?_) (AllReadyH.cons rfl (fun K hK => ?_) AllReadyH.nil)
        · skip
          try simp only [Act.put, List.setIfInBounds_toArray, List.set_cons_zero, List.set_cons_succ, List.getElem_toArray, List.getElem_cons_succ, List.getElem_cons_zero]
          go_simp
          refine hK.out _ _ trivial (fun hHeld => ?_)
          clear hK K
          try simp only [Act.put, List.setIfInBounds_toArray, List.set_cons_zero, List.set_cons_succ, List.getElem_toArray, List.getElem_cons_succ, List.getElem_cons_zero]
          refine wpAnyH_ready (rs := [4, 6]) (by kernel_rfl) (by simp) ?_
          refine AllReadyH.cons rfl (fun K hK => ?_) (AllReadyH.cons rfl (fun K hK => ?_) AllReadyH.nil)
          · skip
            refine step_app rfl (.tmp 7) (.tmp 10) rfl rfl rfl (OwnI.lit0 _ w.heap.size (by simp)) (by first | exact ht.ext (by repeat (first | exact Ext.refl _ | assumption | apply Ext.drewN | apply Ext.drew | apply Ext.alloc)) | exact Ints.nil _ w.heap.size _ _ (by omega) (by simp)) (by simp <;> omega) (by first | assumption | (simp; done) | (simp; omega) | omega) ?_
            intro v4 w4 o4 gr4 bl4 eq4
            refine hK.out _ _ trivial (fun hHeld => ?_)
            clear hK K
            try simp only [Act.put, List.setIfInBounds_toArray, List.set_cons_zero, List.set_cons_succ, List.getElem_toArray, List.getElem_cons_succ, List.getElem_cons_zero]
            have X4 : Ext w w4 := Ext.below (show Ext w _ from (by repeat (first | exact Ext.refl _ | assumption | apply Ext.drewN | apply Ext.drew | apply Ext.alloc))) bl4 (by simp)
            have z4 : w.heap.size ≤ w4.heap.size := X4.size
            refine wpAnyH_ready (rs := [6]) (by kernel_rfl) (by simp) ?_
            refine AllReadyH.cons rfl (fun K hK => ?_) AllReadyH.nil
            try simp only [Act.put, List.setIfInBounds_toArray, List.set_cons_zero, List.set_cons_succ, List.getElem_toArray, List.getElem_cons_succ, List.getElem_cons_zero]
            go_simp
            refine hK.out _ _ trivial (fun hHeld => ?_)
            clear hK K
            try simp only [Act.put, List.setIfInBounds_toArray, List.set_cons_zero, List.set_cons_succ, List.getElem_toArray, List.getElem_cons_succ, List.getElem_cons_zero]
            replace o4 := o4.ext (show Ext w4 (w4.alloc (.cells #[.int .i64 x] 3)) from (by repeat (first | exact Ext.refl _ | assumption | apply Ext.drewN | apply Ext.drew | apply Ext.alloc)))
            refine wpAnyH_ready (rs := [7]) (by kernel_rfl) (by simp) ?_
            refine AllReadyH.cons rfl (fun K hK => ?_) AllReadyH.nil
            refine step_app rfl (.tmp 11) (.tmp 13) rfl rfl rfl (o4) (Ints.one w4 w.heap.size x z4) (by simp <;> omega) (by first | assumption | (simp; done) | (simp; omega) | omega) ?_
            intro v7 w7 o7 gr7 bl7 eq7
            refine hK.out _ _ trivial (fun hHeld => ?_)
            clear hK K
            try simp only [Act.put, List.setIfInBounds_toArray, List.set_cons_zero, List.set_cons_succ, List.getElem_toArray, List.getElem_cons_succ, List.getElem_cons_zero]
            have X7 : Ext w w7 := Ext.below (X4.trans (by repeat (first | exact Ext.refl _ | assumption | apply Ext.drewN | apply Ext.drew | apply Ext.alloc))) bl7 (Nat.le_refl _)
            have z7 : w.heap.size ≤ w7.heap.size := X7.size
            refine wpAnyH_ready (rs := [11]) (by kernel_rfl) (by simp) ?_
            refine AllReadyH.cons rfl (fun K hK => ?_) AllReadyH.nil
            refine step_app rfl (.tmp 14) (.tmp 17) rfl rfl rfl (o7) (by first | exact hd.ext X7 | exact Ints.nil _ w.heap.size _ _ (by omega) (by simp)) (by simp <;> omega) (by first | assumption | (simp; done) | (simp; omega) | omega) ?_
            intro v11 w11 o11 gr11 bl11 eq11
            refine hK.out _ _ trivial (fun hHeld => ?_)
            clear hK K
            try simp only [Act.put, List.setIfInBounds_toArray, List.set_cons_zero, List.set_cons_succ, List.getElem_toArray, List.getElem_cons_succ, List.getElem_cons_zero]
            have X11 : Ext w w11 := Ext.below X7 bl11 (Nat.le_refl _)
            refine wpAnyH_ready (rs := [12]) (by kernel_rfl) (by simp) ?_
            refine AllReadyH.cons rfl (fun K hK => ?_) AllReadyH.nil
            try simp only [Act.put, List.setIfInBounds_toArray, List.set_cons_zero, List.set_cons_succ, List.getElem_toArray, List.getElem_cons_succ, List.getElem_cons_zero]
            go_simp
            refine hK.out _ _ trivial (fun hHeld => ?_)
            clear hK K
            try simp only [Act.put, List.setIfInBounds_toArray, List.set_cons_zero, List.set_cons_succ, List.getElem_toArray, List.getElem_cons_succ, List.getElem_cons_zero]
            refine wpAnyH_done (by kernel_rfl) ?_ _
            clear hHeld
            go_wp2_with fail
            refine bodyPost_ret (v := v11) (by simp only [results, Try.results98]; go_simp) rfl ?_
            exact PInts.mkz (by first | exact o11.z | (rw [List.drop_eq_nil_of_le hc]; exact o11.z)) (Nat.le_refl _) (by simp <;> omega) X11
          · skip
            try simp only [Act.put, List.setIfInBounds_toArray, List.set_cons_zero, List.set_cons_succ, List.getElem_toArray, List.getElem_cons_succ, List.getElem_cons_zero]
            go_simp
            refine hK.out _ _ trivial (fun hHeld => ?_)
            clear hK K
            try simp only [Act.put, List.setIfInBounds_toArray, List.set_cons_zero, List.set_cons_succ, List.getElem_toArray, List.getElem_cons_succ, List.getElem_cons_zero]
            refine wpAnyH_ready (rs := [4]) (by kernel_rfl) (by simp) ?_
            refine AllReadyH.cons rfl (fun K hK => ?_) AllReadyH.nil
            have l0 : OwnI ((w.drew.alloc (.cells #[] 3)).alloc (.cells #[.int .i64 x] 3)) w.heap.size (.slice (some ⟨w.heap.size, 0, none⟩) 0 0) [] := (OwnI.lit0 w.drew w.heap.size (by simp)).ext ((Ext.refl _).alloc _)
            have l1 : Ints ((w.drew.alloc (.cells #[] 3)).alloc (.cells #[.int .i64 x] 3)) w.heap.size (.slice (some ⟨w.heap.size + 1, 0, none⟩) 1 1) [x] := by simpa using Ints.one (w.drew.alloc (.cells #[] 3)) w.heap.size x (by simp)
            refine step_app rfl (.tmp 7) (.tmp 10) rfl rfl rfl (l0) (by first | exact ht.ext (by repeat (first | exact Ext.refl _ | assumption | apply Ext.drewN | apply Ext.drew | apply Ext.alloc)) | exact Ints.nil _ w.heap.size _ _ (by omega) (by simp)) (by simp <;> omega) (by first | assumption | (simp; done) | (simp; omega) | omega) ?_
            intro v4 w4 o4 gr4 bl4 eq4
            refine hK.out _ _ trivial (fun hHeld => ?_)
            clear hK K
            try simp only [Act.put, List.setIfInBounds_toArray, List.set_cons_zero, List.set_cons_succ, List.getElem_toArray, List.getElem_cons_succ, List.getElem_cons_zero]
            have X4 : Ext w w4 := Ext.below (show Ext w _ from (by repeat (first | exact Ext.refl _ | assumption | apply Ext.drewN | apply Ext.drew | apply Ext.alloc))) bl4 (by simp)
            have z4 : w.heap.size ≤ w4.heap.size := X4.size
            replace l1 := l1.keepG gr4 (fun b off h _ => by cases h; show (some w.heap.size : Option Nat) ≠ some (w.heap.size + 1); simp)
            refine wpAnyH_ready (rs := [7]) (by kernel_rfl) (by simp) ?_
            refine AllReadyH.cons rfl (fun K hK => ?_) AllReadyH.nil
            refine step_app rfl (.tmp 11) (.tmp 13) rfl rfl rfl (o4) (l1) (by simp <;> omega) (by first | assumption | (simp; done) | (simp; omega) | omega) ?_
            intro v7 w7 o7 gr7 bl7 eq7
            refine hK.out _ _ trivial (fun hHeld => ?_)
            clear hK K
            try simp only [Act.put, List.setIfInBounds_toArray, List.set_cons_zero, List.set_cons_succ, List.getElem_toArray, List.getElem_cons_succ, List.getElem_cons_zero]
            have X7 : Ext w w7 := Ext.below (X4) bl7 (Nat.le_refl _)
            have z7 : w.heap.size ≤ w7.heap.size := X7.size
            refine wpAnyH_ready (rs := [11]) (by kernel_rfl) (by simp) ?_
            refine AllReadyH.cons rfl (fun K hK => ?_) AllReadyH.nil
            refine step_app rfl (.tmp 14) (.tmp 17) rfl rfl rfl (o7) (by first | exact hd.ext X7 | exact Ints.nil _ w.heap.size _ _ (by omega) (by simp)) (by simp <;> omega) (by first | assumption | (simp; done) | (simp; omega) | omega) ?_
            intro v11 w11 o11 gr11 bl11 eq11
            refine hK.out _ _ trivial (fun hHeld => ?_)
            clear hK K
            try simp only [Act.put, List.setIfInBounds_toArray, List.set_cons_zero, List.set_cons_succ, List.getElem_toArray, List.getElem_cons_succ, List.getElem_cons_zero]
            have X11 : Ext w w11 := Ext.below X7 bl11 (Nat.le_refl _)
            refine wpAnyH_ready (rs := [12]) (by kernel_rfl) (by simp) ?_
            refine AllReadyH.cons rfl (fun K hK => ?_) AllReadyH.nil
            try simp only [Act.put, List.setIfInBounds_toArray, List.set_cons_zero, List.set_cons_succ, List.getElem_toArray, List.getElem_cons_succ, List.getElem_cons_zero]
            go_simp
            refine hK.out _ _ trivial (fun hHeld => ?_)
            clear hK K
            try simp only [Act.put, List.setIfInBounds_toArray, List.set_cons_zero, List.set_cons_succ, List.getElem_toArray, List.getElem_cons_succ, List.getElem_cons_zero]
            refine wpAnyH_done (by kernel_rfl) ?_ _
            clear hHeld
            go_wp2_with fail
            refine bodyPost_ret (v := v11) (by simp only [results, Try.results98]; go_simp) rfl ?_
            exact PInts.mkz (by first | exact o11.z | (rw [List.drop_eq_nil_of_le hc]; exact o11.z)) (Nat.le_refl _) (by simp <;> omega) X11
        · skip
          try simp only [Act.put, List.setIfInBounds_toArray, List.set_cons_zero, List.set_cons_succ, List.getElem_toArray, List.getElem_cons_succ, List.getElem_cons_zero]
          go_simp
          refine hK.out _ _ trivial (fun hHeld => ?_)
          clear hK K
          try simp only [Act.put, List.setIfInBounds_toArray, List.set_cons_zero, List.set_cons_succ, List.getElem_toArray, List.getElem_cons_succ, List.getElem_cons_zero]
          refine wpAnyH_ready (rs := [0]) (by kernel_rfl) (by simp) ?_
          refine AllReadyH.cons rfl (fun K hK => ?_) AllReadyH.nil
          try simp only [Act.put, List.setIfInBounds_toArray, List.set_cons_zero, List.set_cons_succ, List.getElem_toArray, List.getElem_cons_succ, List.getElem_cons_zero]
          go_simp
          refine hK.out _ _ trivial (fun hHeld => ?_)
          clear hK K
          try simp only [Act.put, List.setIfInBounds_toArray, List.set_cons_zero, List.set_cons_succ, List.getElem_toArray, List.getElem_cons_succ, List.getElem_cons_zero]
          refine wpAnyH_ready (rs := [4]) (by kernel_rfl) (by simp) ?_
          refine AllReadyH.cons rfl (fun K hK => ?_) AllReadyH.nil
          have l0 : OwnI ((w.drew.alloc (.cells #[.int .i64 x] 3)).alloc (.cells #[] 3)) w.heap.size (.slice (some ⟨w.heap.size + 1, 0, none⟩) 0 0) [] := by simpa using (OwnI.lit0 (w.drew.alloc (.cells #[.int .i64 x] 3)) w.heap.size (by simp))
          have l1 : Ints ((w.drew.alloc (.cells #[.int .i64 x] 3)).alloc (.cells #[] 3)) w.heap.size (.slice (some ⟨w.heap.size, 0, none⟩) 1 1) [x] := (Ints.one w.drew w.heap.size x (by simp)).ext ((Ext.refl _).alloc _)
          refine step_app rfl (.tmp 7) (.tmp 10) rfl rfl rfl (l0) (by first | exact ht.ext (by repeat (first | exact Ext.refl _ | assumption | apply Ext.drewN | apply Ext.drew | apply Ext.alloc)) | exact Ints.nil _ w.heap.size _ _ (by omega) (by simp)) (by simp <;> omega) (by first | assumption | (simp; done) | (simp; omega) | omega) ?_
          intro v4 w4 o4 gr4 bl4 eq4
          refine hK.out _ _ trivial (fun hHeld => ?_)
          clear hK K
          try simp only [Act.put, List.setIfInBounds_toArray, List.set_cons_zero, List.set_cons_succ, List.getElem_toArray, List.getElem_cons_succ, List.getElem_cons_zero]
          have X4 : Ext w w4 := Ext.below (show Ext w _ from (by repeat (first | exact Ext.refl _ | assumption | apply Ext.drewN | apply Ext.drew | apply Ext.alloc))) bl4 (by simp)
          have z4 : w.heap.size ≤ w4.heap.size := X4.size
          replace l1 := l1.keepG gr4 (fun b off h _ => by cases h; show (some (w.heap.size + 1) : Option Nat) ≠ some w.heap.size; simp)
          refine wpAnyH_ready (rs := [7]) (by kernel_rfl) (by simp) ?_
          refine AllReadyH.cons rfl (fun K hK => ?_) AllReadyH.nil
          refine step_app rfl (.tmp 11) (.tmp 13) rfl rfl rfl (o4) (l1) (by simp <;> omega) (by first | assumption | (simp; done) | (simp; omega) | omega) ?_
          intro v7 w7 o7 gr7 bl7 eq7
          refine hK.out _ _ trivial (fun hHeld => ?_)
          clear hK K
          try simp only [Act.put, List.setIfInBounds_toArray, List.set_cons_zero, List.set_cons_succ, List.getElem_toArray, List.getElem_cons_succ, List.getElem_cons_zero]
          have X7 : Ext w w7 := Ext.below (X4) bl7 (Nat.le_refl _)
          have z7 : w.heap.size ≤ w7.heap.size := X7.size
          refine wpAnyH_ready (rs := [11]) (by kernel_rfl) (by simp) ?_
          refine AllReadyH.cons rfl (fun K hK => ?_) AllReadyH.nil
          refine step_app rfl (.tmp 14) (.tmp 17) rfl rfl rfl (o7) (by first | exact hd.ext X7 | exact Ints.nil _ w.heap.size _ _ (by omega) (by simp)) (by simp <;> omega) (by first | assumption | (simp; done) | (simp; omega) | omega) ?_
          intro v11 w11 o11 gr11 bl11 eq11
          refine hK.out _ _ trivial (fun hHeld => ?_)
          clear hK K
          try simp only [Act.put, List.setIfInBounds_toArray, List.set_cons_zero, List.set_cons_succ, List.getElem_toArray, List.getElem_cons_succ, List.getElem_cons_zero]
          have X11 : Ext w w11 := Ext.below X7 bl11 (Nat.le_refl _)
          refine wpAnyH_ready (rs := [12]) (by kernel_rfl) (by simp) ?_
          refine AllReadyH.cons rfl (fun K hK => ?_) AllReadyH.nil
          try simp only [Act.put, List.setIfInBounds_toArray, List.set_cons_zero, List.set_cons_succ, List.getElem_toArray, List.getElem_cons_succ, List.getElem_cons_zero]
          go_simp
          refine hK.out _ _ trivial (fun hHeld => ?_)
          clear hK K
          try simp only [Act.put, List.setIfInBounds_toArray, List.set_cons_zero, List.set_cons_succ, List.getElem_toArray, List.getElem_cons_succ, List.getElem_cons_zero]
          refine wpAnyH_done (by kernel_rfl) ?_ _
          clear hHeld
          go_wp2_with fail
          refine bodyPost_ret (v := v11) (by simp only [results, Try.results98]; go_simp) rfl ?_
          exact PInts.mkz (by first | exact o11.z | (rw [List.drop_eq_nil_of_le hc]; exact o11.z)) (Nat.le_refl _) (by simp <;> omega) X11

end Go.Proofs.Ytonnnjaooifpjaa

/- Walks: made, PermuteDims, FlipDim, AddDim and WindowsOf of the reference. -/
namespace Go.Proofs.Ytonnnjaooifpjaa
open Go.RowKit
set_option linter.unusedVariables false
set_option maxRecDepth 100000


def madeV (b : Int) (s t : List Int) : VBool := if viewB b s t then (b, s, t, true) else noV
theorem made_c (b1 : Int) (u1 v1 : Value) (s1 t1 : List Int) (w : World) (l1 m1 : Nat) (h1 : Ints w l1 u1 s1) (k1 : Ints w m1 v1 t1) :
    Calls Try.prog 97 #[.agg #[.int .i64 b1, u1, v1]] w (PVB w (madeV b1 s1 t1)) := by
  cases ha : viewB b1 s1 t1
  · have : madeV b1 s1 t1 = noV := by unfold madeV; rw [ha]; rfl
    rw [this]; exact made_0 b1 u1 v1 s1 t1 w l1 m1 h1 k1 ha
  · have : madeV b1 s1 t1 = (b1, s1, t1, true) := by unfold madeV; rw [ha]; rfl
    rw [this]; exact made_1 b1 u1 v1 s1 t1 w l1 m1 h1 k1 ha
theorem PVB.any {w w' : World} {x : VBool} {b : Int} {s t : List Int} {ok : Bool} {v1 v2 : Value} (h : x = (b, s, t, ok)) (o1 : OwnZ w' w.heap.size v1 s) (o2 : OwnZ w' w.heap.size v2 t) (hd : s ≠ [] → t ≠ [] → v1.ownBlock ≠ v2.ownBlock) (l1 : s.length ≤ 4194304) (l2 : t.length ≤ 4194304) (hx : Ext w w') :
    PVB w x (.returned (.tuple #[.agg #[.int .i64 b, v1, v2], .bool ok])) w' := by
  subst h; exact ⟨v1, v2, rfl, o1.ints l1, o2.ints l2, o1, o2, hd, hx⟩
theorem PVB.eq {w w' : World} {x y : VBool} {e : Ending} (h : PVB w x e w') (hx : x = y) : PVB w y e w' := hx ▸ h
/-- the view of a VBool: as many strides as extents, no more than four -/
def VBool.fit (x : VBool) : Prop := x.2.2.1.length = x.2.1.length ∧ x.2.1.length ≤ 4
theorem noV_fit : VBool.fit noV := ⟨rfl, Nat.zero_le _⟩
theorem view_fit {b : Int} {s t : List Int} {ok : Bool} (h : viewB b s t = true) : VBool.fit (b, s, t, ok) := ⟨(viewB_in h).2.1, (shapeB_in (viewB_in h).1).1⟩
theorem madeV_fit (b : Int) (s t : List Int) : VBool.fit (madeV b s t) := by
  unfold madeV
  cases h : viewB b s t
  · exact noV_fit
  · exact view_fit h
theorem sliceV_fit (b : Int) (s t : List Int) (d F T B : Int) (hf ht : Bool) : VBool.fit (sliceV b s t d F T B hf ht) := by
  unfold sliceV
  split
  · rename_i h
    simp only [Bool.and_eq_true] at h
    obtain ⟨h1, h2, h3⟩ := h
    exact view_fit (sliceV_view h1 (by simp [inB] at h2; omega) h3)
  · exact noV_fit

def flipV (b : Int) (s t : List Int) (d : Int) : VBool := sliceV b s t d 0 0 (-1) false false
def permV (b : Int) (s t ord : List Int) : VBool := if viewB b s t && orderB ord s.length then madeV b (takL s ord) (takL t ord) else noV
def insL (xs : List Int) (i : Nat) (x : Int) : List Int := xs.take i ++ [x] ++ xs.drop i
def addV (b : Int) (s t : List Int) (d : Int) : VBool := if viewB b s t && (inB 0 s.length d && !((s.length : Int) == 4)) then madeV b (insL s d.toNat 1) (insL t d.toNat 0) else noV
def winV (b : Int) (s t : List Int) (d n : Int) : VBool := if viewB b s t && (inB 0 ((s.length : Int) - 1) d && inB 1 (s.getD d.toNat 0) n) then madeV b (s.set d.toNat (s.getD d.toNat 0 - n + 1) ++ [n]) (t ++ [t.getD d.toNat 0]) else noV
theorem permV_fit (b : Int) (s t ord : List Int) : VBool.fit (permV b s t ord) := by unfold permV; split; exact madeV_fit _ _ _; exact noV_fit
theorem addV_fit (b : Int) (s t : List Int) (d : Int) : VBool.fit (addV b s t d) := by unfold addV; split; exact madeV_fit _ _ _; exact noV_fit
theorem winV_fit (b : Int) (s t : List Int) (d n : Int) : VBool.fit (winV b s t d n) := by unfold winV; split; exact madeV_fit _ _ _; exact noV_fit

set_option maxHeartbeats 1600000 in
theorem specFlipDim_c (b1 : Int) (u1 v1 : Value) (s1 t1 : List Int) (d : Int) (w : World) (l1 m1 : Nat) (h1 : Ints w l1 u1 s1) (k1 : Ints w m1 v1 t1) :
    Calls Try.prog 149 #[.agg #[.int .i64 b1, u1, v1], .int .i64 d] w (PVB w (flipV b1 s1 t1 d)) := by
  have hlen1 := ints_len h1
  have hlen2 := ints_len k1
  obtain ⟨a1, cp1, rfl⟩ := h1.form
  obtain ⟨a2, cp2, rfl⟩ := k1.form
  have hsl : ∀ W, Ext w W → Calls Try.prog 49 #[.agg #[.int .i64 b1, .slice a1 s1.length cp1, .slice a2 t1.length cp2], .int .i64 d, .agg #[.int .i64 0, .int .i64 0, .int .i64 (-1), .bool false, .bool false]] W (PVB W (flipV b1 s1 t1 d)) := fun W hW => specSliceDim_c b1 _ _ s1 t1 d 0 0 (-1) false false W l1 m1 (h1.ext hW) (k1.ext hW)
  obtain ⟨x, hr⟩ : ∃ x, flipV b1 s1 t1 d = x := ⟨_, rfl⟩
  rw [hr] at hsl
  obtain ⟨mb, ms, mt, mk⟩ := x
  replace hr := Lib.hid hr
  replace hsl := Lib.hid hsl
  go_enter Try.func149, Try.ntmps149
  go_wp2_with fail
  refine (hsl.out _ (by repeat (first | exact Ext.refl _ | assumption | apply Ext.drewN | apply Ext.drew | apply Ext.alloc))).mono ?_
  rintro e w1 ⟨y1, y2, rfl, j1, j2, o1, o2, od, xw1⟩
  have Lw1 : Ext w w1 := Ext.trans (by repeat (first | (with_reducible assumption) | (with_reducible refine Ext.setCell ?_ (by first | (simp; done) | (simp; omega) | omega) _) | (with_reducible apply Ext.alloc) | (with_reducible apply Ext.drew) | (with_reducible apply Ext.drewN) | (with_reducible exact Ext.refl _))) xw1
  have Xw1 : Ext w w1 := Lw1
  have va0 : w1.cell? ⟨w.heap.size, 0, none⟩ = some (.int .i64 b1) := xw1.cell (by first | (simp; done) | ((repeat rw [World.cell?_alloc_lt _ _ _ (by simp <;> omega)]); simp; done) | (go_simp; done))
  have va1 : w1.cell? ⟨w.heap.size, 1, none⟩ = some (.slice a1 s1.length cp1) := xw1.cell (by first | (simp; done) | ((repeat rw [World.cell?_alloc_lt _ _ _ (by simp <;> omega)]); simp; done) | (go_simp; done))
  have va2 : w1.cell? ⟨w.heap.size, 2, none⟩ = some (.slice a2 t1.length cp2) := xw1.cell (by first | (simp; done) | ((repeat rw [World.cell?_alloc_lt _ _ _ (by simp <;> omega)]); simp; done) | (go_simp; done))
  have q0 : w1.cell? ⟨w.heap.size + 1, 0, none⟩ = some (.int .i64 0) := xw1.cell (by first | (simp; done) | ((repeat rw [World.cell?_alloc_lt _ _ _ (by simp <;> omega)]); simp; done) | (go_simp; done))
  have q1 : w1.cell? ⟨w.heap.size + 1, 1, none⟩ = some (.slice none 0 0) := xw1.cell (by first | (simp; done) | ((repeat rw [World.cell?_alloc_lt _ _ _ (by simp <;> omega)]); simp; done) | (go_simp; done))
  have q2 : w1.cell? ⟨w.heap.size + 1, 2, none⟩ = some (.slice none 0 0) := xw1.cell (by first | (simp; done) | ((repeat rw [World.cell?_alloc_lt _ _ _ (by simp <;> omega)]); simp; done) | (go_simp; done))
  have f_q0 : w1.frozen? ⟨w.heap.size + 1, 0, none⟩ = false := xw1.frz (by simp <;> omega) (by first | (simp; done) | (go_simp; done))
  have f_q1 : w1.frozen? ⟨w.heap.size + 1, 1, none⟩ = false := xw1.frz (by simp <;> omega) (by first | (simp; done) | (go_simp; done))
  have f_q2 : w1.frozen? ⟨w.heap.size + 1, 2, none⟩ = false := xw1.frz (by simp <;> omega) (by first | (simp; done) | (go_simp; done))
  have z_va : w.heap.size < w1.heap.size := World.block_lt_of_cell? _ _ va0
  have z_q : w.heap.size + 1 < w1.heap.size := World.block_lt_of_cell? _ _ q0
  have s_w1 : w.heap.size ≤ w1.heap.size := Xw1.size
  clear xw1
  have hl1 := ints_len j1
  have hl2 := ints_len j2
  clear j1 j2
  replace o1 := o1.lower (show w.heap.size + 2 ≤ _ by first | (simp; done) | (simp; omega) | omega)
  replace o2 := o2.lower (show w.heap.size + 2 ≤ _ by first | (simp; done) | (simp; omega) | omega)
  obtain ⟨p1, n1, r1, rfl⟩ := o1.form
  obtain ⟨p2, n2, r2, rfl⟩ := o2.form
  go_wp2_with fail
  have Kw2 : Chg (w.heap.size + 1) (w.heap.size + 1 + 1) w1 (((w1.setCell ⟨w.heap.size + 1, 0, none⟩ (.int .i64 mb)).setCell ⟨w.heap.size + 1, 1, none⟩ (.slice p1 n1 r1)).setCell ⟨w.heap.size + 1, 2, none⟩ (.slice p2 n2 r2)) := (Chg.setCell (p := ⟨w.heap.size + 1, 2, none⟩) (Chg.setCell (p := ⟨w.heap.size + 1, 1, none⟩) (Chg.setCell (p := ⟨w.heap.size + 1, 0, none⟩) (Chg.refl (w.heap.size + 1) (w.heap.size + 1 + 1) _) (Nat.le_refl _) (Nat.lt_succ_self _) (.int .i64 mb)) (Nat.le_refl _) (Nat.lt_succ_self _) (.slice p1 n1 r1)) (Nat.le_refl _) (Nat.lt_succ_self _) (.slice p2 n2 r2))
  have Xw2 : Ext w (((w1.setCell ⟨w.heap.size + 1, 0, none⟩ (.int .i64 mb)).setCell ⟨w.heap.size + 1, 1, none⟩ (.slice p1 n1 r1)).setCell ⟨w.heap.size + 1, 2, none⟩ (.slice p2 n2 r2)) := (Ext.setCell (p := ⟨w.heap.size + 1, 2, none⟩) (Ext.setCell (p := ⟨w.heap.size + 1, 1, none⟩) (Ext.setCell (p := ⟨w.heap.size + 1, 0, none⟩) Xw1 (by first | (simp; done) | (simp; omega) | omega) (.int .i64 mb)) (by first | (simp; done) | (simp; omega) | omega) (.slice p1 n1 r1)) (by first | (simp; done) | (simp; omega) | omega) (.slice p2 n2 r2))
  replace va0 := Kw2.cell (by omega) va0
  replace va1 := Kw2.cell (by omega) va1
  replace va2 := Kw2.cell (by omega) va2
  have n_q0 : (((w1.setCell ⟨w.heap.size + 1, 0, none⟩ (.int .i64 mb)).setCell ⟨w.heap.size + 1, 1, none⟩ (.slice p1 n1 r1)).setCell ⟨w.heap.size + 1, 2, none⟩ (.slice p2 n2 r2)).cell? ⟨w.heap.size + 1, 0, none⟩ = some (.int .i64 mb) := by go_simp
  have n_f_q0 : (((w1.setCell ⟨w.heap.size + 1, 0, none⟩ (.int .i64 mb)).setCell ⟨w.heap.size + 1, 1, none⟩ (.slice p1 n1 r1)).setCell ⟨w.heap.size + 1, 2, none⟩ (.slice p2 n2 r2)).frozen? ⟨w.heap.size + 1, 0, none⟩ = false := by go_simp
  have n_q1 : (((w1.setCell ⟨w.heap.size + 1, 0, none⟩ (.int .i64 mb)).setCell ⟨w.heap.size + 1, 1, none⟩ (.slice p1 n1 r1)).setCell ⟨w.heap.size + 1, 2, none⟩ (.slice p2 n2 r2)).cell? ⟨w.heap.size + 1, 1, none⟩ = some (.slice p1 n1 r1) := by go_simp
  have n_f_q1 : (((w1.setCell ⟨w.heap.size + 1, 0, none⟩ (.int .i64 mb)).setCell ⟨w.heap.size + 1, 1, none⟩ (.slice p1 n1 r1)).setCell ⟨w.heap.size + 1, 2, none⟩ (.slice p2 n2 r2)).frozen? ⟨w.heap.size + 1, 1, none⟩ = false := by go_simp
  have n_q2 : (((w1.setCell ⟨w.heap.size + 1, 0, none⟩ (.int .i64 mb)).setCell ⟨w.heap.size + 1, 1, none⟩ (.slice p1 n1 r1)).setCell ⟨w.heap.size + 1, 2, none⟩ (.slice p2 n2 r2)).cell? ⟨w.heap.size + 1, 2, none⟩ = some (.slice p2 n2 r2) := by go_simp
  have n_f_q2 : (((w1.setCell ⟨w.heap.size + 1, 0, none⟩ (.int .i64 mb)).setCell ⟨w.heap.size + 1, 1, none⟩ (.slice p1 n1 r1)).setCell ⟨w.heap.size + 1, 2, none⟩ (.slice p2 n2 r2)).frozen? ⟨w.heap.size + 1, 2, none⟩ = false := by go_simp
  replace q0 := n_q0
  clear n_q0
  replace f_q0 := n_f_q0
  clear n_f_q0
  replace q1 := n_q1
  clear n_q1
  replace f_q1 := n_f_q1
  clear n_f_q1
  replace q2 := n_q2
  clear n_q2
  replace f_q2 := n_f_q2
  clear n_f_q2
  replace o1 := o1.chg Kw2 (by omega)
  replace o2 := o2.chg Kw2 (by omega)
  clear Kw2
  have z_va : w.heap.size < (((w1.setCell ⟨w.heap.size + 1, 0, none⟩ (.int .i64 mb)).setCell ⟨w.heap.size + 1, 1, none⟩ (.slice p1 n1 r1)).setCell ⟨w.heap.size + 1, 2, none⟩ (.slice p2 n2 r2)).heap.size := World.block_lt_of_cell? _ _ va0
  have z_q : w.heap.size + 1 < (((w1.setCell ⟨w.heap.size + 1, 0, none⟩ (.int .i64 mb)).setCell ⟨w.heap.size + 1, 1, none⟩ (.slice p1 n1 r1)).setCell ⟨w.heap.size + 1, 2, none⟩ (.slice p2 n2 r2)).heap.size := World.block_lt_of_cell? _ _ q0
  have s_w2 : w.heap.size ≤ (((w1.setCell ⟨w.heap.size + 1, 0, none⟩ (.int .i64 mb)).setCell ⟨w.heap.size + 1, 1, none⟩ (.slice p1 n1 r1)).setCell ⟨w.heap.size + 1, 2, none⟩ (.slice p2 n2 r2)).heap.size := Xw2.size
  generalize (((w1.setCell ⟨w.heap.size + 1, 0, none⟩ (.int .i64 mb)).setCell ⟨w.heap.size + 1, 1, none⟩ (.slice p1 n1 r1)).setCell ⟨w.heap.size + 1, 2, none⟩ (.slice p2 n2 r2)) = w2 at *
  refine bodyPost_ret (v := .tuple #[.agg #[.int .i64 mb, .slice p1 n1 r1, .slice p2 n2 r2], .bool mk]) (by simp only [results, Try.results149]; go_simp) rfl ?_
  exact PVB.any (hr.out) (o1.lower (by omega)) (o2.lower (by omega)) od hl1 hl2 Xw2

set_option maxHeartbeats 3200000 in
theorem specPermuteDims_c (b1 : Int) (u1 v1 : Value) (s1 t1 : List Int) (a3 : Value) (ord : List Int) (w : World) (l1 m1 : Nat) (h1 : Ints w l1 u1 s1) (k1 : Ints w m1 v1 t1) (l3 : Nat) (h3 : Ints w l3 a3 ord) :
    Calls Try.prog 59 #[.agg #[.int .i64 b1, u1, v1], a3] w (PVB w (permV b1 s1 t1 ord)) := by
  have hlen1 := ints_len h1
  have hlen2 := ints_len k1
  obtain ⟨a1, cp1, rfl⟩ := h1.form
  obtain ⟨a2, cp2, rfl⟩ := k1.form
  obtain ⟨a4, cp4, rfl⟩ := h3.form
  cases ha : viewB b1 s1 t1
  · have hr : Hid (permV b1 s1 t1 ord = noV) := Lib.hid (by unfold permV; rw [ha]; rfl)
    replace ha := Lib.hid ha
    go_enter Try.func59, Try.ntmps59
    go_wp2_with fail
    refine (validView_c b1 _ _ s1 t1 _ l1 m1 (h1.ext (by repeat (first | (with_reducible assumption) | (with_reducible refine Ext.setCell ?_ (by first | (simp; done) | (simp; omega) | omega) _) | (with_reducible apply Ext.alloc) | (with_reducible apply Ext.drew) | (with_reducible apply Ext.drewN) | (with_reducible exact Ext.refl _)))) (k1.ext (by repeat (first | (with_reducible assumption) | (with_reducible refine Ext.setCell ?_ (by first | (simp; done) | (simp; omega) | omega) _) | (with_reducible apply Ext.alloc) | (with_reducible apply Ext.drew) | (with_reducible apply Ext.drewN) | (with_reducible exact Ext.refl _))))).mono ?_
    rintro e w1 ⟨rfl, xw1⟩
    have Lw1 : Ext w w1 := Ext.trans (by repeat (first | (with_reducible assumption) | (with_reducible refine Ext.setCell ?_ (by first | (simp; done) | (simp; omega) | omega) _) | (with_reducible apply Ext.alloc) | (with_reducible apply Ext.drew) | (with_reducible apply Ext.drewN) | (with_reducible exact Ext.refl _))) xw1
    have Xw1 : Ext w w1 := Lw1
    have va0 : w1.cell? ⟨w.heap.size, 0, none⟩ = some (.int .i64 b1) := xw1.cell (by first | (simp; done) | ((repeat rw [World.cell?_alloc_lt _ _ _ (by simp <;> omega)]); simp; done) | (go_simp; done))
    have va1 : w1.cell? ⟨w.heap.size, 1, none⟩ = some (.slice a1 s1.length cp1) := xw1.cell (by first | (simp; done) | ((repeat rw [World.cell?_alloc_lt _ _ _ (by simp <;> omega)]); simp; done) | (go_simp; done))
    have va2 : w1.cell? ⟨w.heap.size, 2, none⟩ = some (.slice a2 t1.length cp2) := xw1.cell (by first | (simp; done) | ((repeat rw [World.cell?_alloc_lt _ _ _ (by simp <;> omega)]); simp; done) | (go_simp; done))
    have q0 : w1.cell? ⟨w.heap.size + 1, 0, none⟩ = some (.int .i64 0) := xw1.cell (by first | (simp; done) | ((repeat rw [World.cell?_alloc_lt _ _ _ (by simp <;> omega)]); simp; done) | (go_simp; done))
    have q1 : w1.cell? ⟨w.heap.size + 1, 1, none⟩ = some (.slice none 0 0) := xw1.cell (by first | (simp; done) | ((repeat rw [World.cell?_alloc_lt _ _ _ (by simp <;> omega)]); simp; done) | (go_simp; done))
    have q2 : w1.cell? ⟨w.heap.size + 1, 2, none⟩ = some (.slice none 0 0) := xw1.cell (by first | (simp; done) | ((repeat rw [World.cell?_alloc_lt _ _ _ (by simp <;> omega)]); simp; done) | (go_simp; done))
    have f_q0 : w1.frozen? ⟨w.heap.size + 1, 0, none⟩ = false := xw1.frz (by simp <;> omega) (by first | (simp; done) | (go_simp; done))
    have f_q1 : w1.frozen? ⟨w.heap.size + 1, 1, none⟩ = false := xw1.frz (by simp <;> omega) (by first | (simp; done) | (go_simp; done))
    have f_q2 : w1.frozen? ⟨w.heap.size + 1, 2, none⟩ = false := xw1.frz (by simp <;> omega) (by first | (simp; done) | (go_simp; done))
    have z_va : w.heap.size < w1.heap.size := World.block_lt_of_cell? _ _ va0
    have z_q : w.heap.size + 1 < w1.heap.size := World.block_lt_of_cell? _ _ q0
    have s_w1 : w.heap.size ≤ w1.heap.size := Xw1.size
    clear xw1
    rw [ha.out]
    go_wp2_with fail
    refine bodyPost_ret (v := .tuple #[.agg #[.int .i64 0, .slice none 0 0, .slice none 0 0], .bool false]) (by simp only [results, Try.results59]; go_simp) rfl ?_
    exact PVB.no hr.out (by repeat (first | (with_reducible assumption) | (with_reducible refine Ext.setCell ?_ (by first | (simp; done) | (simp; omega) | omega) _) | (with_reducible apply Ext.alloc) | (with_reducible apply Ext.drew) | (with_reducible apply Ext.drewN) | (with_reducible exact Ext.refl _)))
  · have ht := (viewB_in ha).2.1
    have j4 := (shapeB_in (viewB_in ha).1).1
    cases hb : orderB ord s1.length
    · have hr : Hid (permV b1 s1 t1 ord = noV) := Lib.hid (by unfold permV; rw [ha, hb]; rfl)
      replace ha := Lib.hid ha
      replace hb := Lib.hid hb
      replace ht := Lib.hid ht
      go_enter Try.func59, Try.ntmps59
      go_wp2_with fail
      refine (validView_c b1 _ _ s1 t1 _ l1 m1 (h1.ext (by repeat (first | (with_reducible assumption) | (with_reducible refine Ext.setCell ?_ (by first | (simp; done) | (simp; omega) | omega) _) | (with_reducible apply Ext.alloc) | (with_reducible apply Ext.drew) | (with_reducible apply Ext.drewN) | (with_reducible exact Ext.refl _)))) (k1.ext (by repeat (first | (with_reducible assumption) | (with_reducible refine Ext.setCell ?_ (by first | (simp; done) | (simp; omega) | omega) _) | (with_reducible apply Ext.alloc) | (with_reducible apply Ext.drew) | (with_reducible apply Ext.drewN) | (with_reducible exact Ext.refl _))))).mono ?_
      rintro e w1 ⟨rfl, xw1⟩
      have Lw1 : Ext w w1 := Ext.trans (by repeat (first | (with_reducible assumption) | (with_reducible refine Ext.setCell ?_ (by first | (simp; done) | (simp; omega) | omega) _) | (with_reducible apply Ext.alloc) | (with_reducible apply Ext.drew) | (with_reducible apply Ext.drewN) | (with_reducible exact Ext.refl _))) xw1
      have Xw1 : Ext w w1 := Lw1
      have va0 : w1.cell? ⟨w.heap.size, 0, none⟩ = some (.int .i64 b1) := xw1.cell (by first | (simp; done) | ((repeat rw [World.cell?_alloc_lt _ _ _ (by simp <;> omega)]); simp; done) | (go_simp; done))
      have va1 : w1.cell? ⟨w.heap.size, 1, none⟩ = some (.slice a1 s1.length cp1) := xw1.cell (by first | (simp; done) | ((repeat rw [World.cell?_alloc_lt _ _ _ (by simp <;> omega)]); simp; done) | (go_simp; done))
      have va2 : w1.cell? ⟨w.heap.size, 2, none⟩ = some (.slice a2 t1.length cp2) := xw1.cell (by first | (simp; done) | ((repeat rw [World.cell?_alloc_lt _ _ _ (by simp <;> omega)]); simp; done) | (go_simp; done))
      have q0 : w1.cell? ⟨w.heap.size + 1, 0, none⟩ = some (.int .i64 0) := xw1.cell (by first | (simp; done) | ((repeat rw [World.cell?_alloc_lt _ _ _ (by simp <;> omega)]); simp; done) | (go_simp; done))
      have q1 : w1.cell? ⟨w.heap.size + 1, 1, none⟩ = some (.slice none 0 0) := xw1.cell (by first | (simp; done) | ((repeat rw [World.cell?_alloc_lt _ _ _ (by simp <;> omega)]); simp; done) | (go_simp; done))
      have q2 : w1.cell? ⟨w.heap.size + 1, 2, none⟩ = some (.slice none 0 0) := xw1.cell (by first | (simp; done) | ((repeat rw [World.cell?_alloc_lt _ _ _ (by simp <;> omega)]); simp; done) | (go_simp; done))
      have f_q0 : w1.frozen? ⟨w.heap.size + 1, 0, none⟩ = false := xw1.frz (by simp <;> omega) (by first | (simp; done) | (go_simp; done))
      have f_q1 : w1.frozen? ⟨w.heap.size + 1, 1, none⟩ = false := xw1.frz (by simp <;> omega) (by first | (simp; done) | (go_simp; done))
      have f_q2 : w1.frozen? ⟨w.heap.size + 1, 2, none⟩ = false := xw1.frz (by simp <;> omega) (by first | (simp; done) | (go_simp; done))
      have z_va : w.heap.size < w1.heap.size := World.block_lt_of_cell? _ _ va0
      have z_q : w.heap.size + 1 < w1.heap.size := World.block_lt_of_cell? _ _ q0
      have s_w1 : w.heap.size ≤ w1.heap.size := Xw1.size
      clear xw1
      rw [ha.out]
      go_wp2_with fail
      refine (validOrder_c ord _ (s1.length : Int) _ l3 (h3.ext (Xw1.trans (by repeat (first | (with_reducible assumption) | (with_reducible refine Ext.setCell ?_ (by first | (simp; done) | (simp; omega) | omega) _) | (with_reducible apply Ext.alloc) | (with_reducible apply Ext.drew) | (with_reducible apply Ext.drewN) | (with_reducible exact Ext.refl _))))) (by omega)).mono ?_
      rintro e w2 ⟨rfl, xw2⟩
      have Lw2 : Ext w1 w2 := Ext.trans (by repeat (first | (with_reducible assumption) | (with_reducible refine Ext.setCell ?_ (by first | (simp; done) | (simp; omega) | omega) _) | (with_reducible apply Ext.alloc) | (with_reducible apply Ext.drew) | (with_reducible apply Ext.drewN) | (with_reducible exact Ext.refl _))) xw2
      have Xw2 : Ext w w2 := Xw1.trans Lw2
      replace va0 := Lw2.cell va0
      replace va1 := Lw2.cell va1
      replace va2 := Lw2.cell va2
      replace q0 := Lw2.cell q0
      replace q1 := Lw2.cell q1
      replace q2 := Lw2.cell q2
      replace f_q0 := Lw2.frz z_q f_q0
      replace f_q1 := Lw2.frz z_q f_q1
      replace f_q2 := Lw2.frz z_q f_q2
      have z_va : w.heap.size < w2.heap.size := World.block_lt_of_cell? _ _ va0
      have z_q : w.heap.size + 1 < w2.heap.size := World.block_lt_of_cell? _ _ q0
      have s_w2 : w.heap.size ≤ w2.heap.size := Xw2.size
      clear xw2
      rw [hb.out]
      go_wp2_with fail
      refine bodyPost_ret (v := .tuple #[.agg #[.int .i64 0, .slice none 0 0, .slice none 0 0], .bool false]) (by simp only [results, Try.results59]; go_simp) rfl ?_
      exact PVB.no hr.out (by repeat (first | (with_reducible assumption) | (with_reducible refine Ext.setCell ?_ (by first | (simp; done) | (simp; omega) | omega) _) | (with_reducible apply Ext.alloc) | (with_reducible apply Ext.drew) | (with_reducible apply Ext.drewN) | (with_reducible exact Ext.refl _)))
    · have hr0 : Hid (permV b1 s1 t1 ord = madeV b1 (takL s1 ord) (takL t1 ord)) := Lib.hid (by unfold permV; rw [ha, hb]; rfl)
      obtain ⟨x, hr⟩ : ∃ x, madeV b1 (takL s1 ord) (takL t1 ord) = x := ⟨_, rfl⟩
      obtain ⟨mb, ms, mt, mk⟩ := x
      replace hr := Lib.hid hr
      have hin : ord.length ≤ 1000 ∧ ∀ x ∈ ord, 0 ≤ x ∧ x < s1.length := by
        unfold orderB at hb
        simp only [Bool.and_eq_true, decide_eq_true_eq, List.all_eq_true, inB] at hb
        exact ⟨by omega, fun x hx => by have := hb.2.1 x hx; omega⟩
      have hper : Hid (∀ W, Ext w W → Calls Try.prog 120 #[.agg #[.int .i64 b1, .slice a1 s1.length cp1, .slice a2 t1.length cp2], .slice a4 ord.length cp4] W (PView W b1 (takL s1 ord) (takL t1 ord))) :=
        Lib.hid (fun W hW => permuted_c b1 _ _ s1 t1 _ ord W l1 m1 (h1.ext hW) (k1.ext hW) l3 (h3.ext hW) hin.2 ht hin.1)
      replace ha := Lib.hid ha
      replace hb := Lib.hid hb
      replace ht := Lib.hid ht
      clear hin
      go_enter Try.func59, Try.ntmps59
      go_wp2_with fail
      refine (validView_c b1 _ _ s1 t1 _ l1 m1 (h1.ext (by repeat (first | (with_reducible assumption) | (with_reducible refine Ext.setCell ?_ (by first | (simp; done) | (simp; omega) | omega) _) | (with_reducible apply Ext.alloc) | (with_reducible apply Ext.drew) | (with_reducible apply Ext.drewN) | (with_reducible exact Ext.refl _)))) (k1.ext (by repeat (first | (with_reducible assumption) | (with_reducible refine Ext.setCell ?_ (by first | (simp; done) | (simp; omega) | omega) _) | (with_reducible apply Ext.alloc) | (with_reducible apply Ext.drew) | (with_reducible apply Ext.drewN) | (with_reducible exact Ext.refl _))))).mono ?_
      rintro e w1 ⟨rfl, xw1⟩
      have Lw1 : Ext w w1 := Ext.trans (by repeat (first | (with_reducible assumption) | (with_reducible refine Ext.setCell ?_ (by first | (simp; done) | (simp; omega) | omega) _) | (with_reducible apply Ext.alloc) | (with_reducible apply Ext.drew) | (with_reducible apply Ext.drewN) | (with_reducible exact Ext.refl _))) xw1
      have Xw1 : Ext w w1 := Lw1
      have va0 : w1.cell? ⟨w.heap.size, 0, none⟩ = some (.int .i64 b1) := xw1.cell (by first | (simp; done) | ((repeat rw [World.cell?_alloc_lt _ _ _ (by simp <;> omega)]); simp; done) | (go_simp; done))
      have va1 : w1.cell? ⟨w.heap.size, 1, none⟩ = some (.slice a1 s1.length cp1) := xw1.cell (by first | (simp; done) | ((repeat rw [World.cell?_alloc_lt _ _ _ (by simp <;> omega)]); simp; done) | (go_simp; done))
      have va2 : w1.cell? ⟨w.heap.size, 2, none⟩ = some (.slice a2 t1.length cp2) := xw1.cell (by first | (simp; done) | ((repeat rw [World.cell?_alloc_lt _ _ _ (by simp <;> omega)]); simp; done) | (go_simp; done))
      have q0 : w1.cell? ⟨w.heap.size + 1, 0, none⟩ = some (.int .i64 0) := xw1.cell (by first | (simp; done) | ((repeat rw [World.cell?_alloc_lt _ _ _ (by simp <;> omega)]); simp; done) | (go_simp; done))
      have q1 : w1.cell? ⟨w.heap.size + 1, 1, none⟩ = some (.slice none 0 0) := xw1.cell (by first | (simp; done) | ((repeat rw [World.cell?_alloc_lt _ _ _ (by simp <;> omega)]); simp; done) | (go_simp; done))
      have q2 : w1.cell? ⟨w.heap.size + 1, 2, none⟩ = some (.slice none 0 0) := xw1.cell (by first | (simp; done) | ((repeat rw [World.cell?_alloc_lt _ _ _ (by simp <;> omega)]); simp; done) | (go_simp; done))
      have f_q0 : w1.frozen? ⟨w.heap.size + 1, 0, none⟩ = false := xw1.frz (by simp <;> omega) (by first | (simp; done) | (go_simp; done))
      have f_q1 : w1.frozen? ⟨w.heap.size + 1, 1, none⟩ = false := xw1.frz (by simp <;> omega) (by first | (simp; done) | (go_simp; done))
      have f_q2 : w1.frozen? ⟨w.heap.size + 1, 2, none⟩ = false := xw1.frz (by simp <;> omega) (by first | (simp; done) | (go_simp; done))
      have z_va : w.heap.size < w1.heap.size := World.block_lt_of_cell? _ _ va0
      have z_q : w.heap.size + 1 < w1.heap.size := World.block_lt_of_cell? _ _ q0
      have s_w1 : w.heap.size ≤ w1.heap.size := Xw1.size
      clear xw1
      rw [ha.out]
      go_wp2_with fail
      refine (validOrder_c ord _ (s1.length : Int) _ l3 (h3.ext (Xw1.trans (by repeat (first | (with_reducible assumption) | (with_reducible refine Ext.setCell ?_ (by first | (simp; done) | (simp; omega) | omega) _) | (with_reducible apply Ext.alloc) | (with_reducible apply Ext.drew) | (with_reducible apply Ext.drewN) | (with_reducible exact Ext.refl _))))) (by omega)).mono ?_
      rintro e w2 ⟨rfl, xw2⟩
      have Lw2 : Ext w1 w2 := Ext.trans (by repeat (first | (with_reducible assumption) | (with_reducible refine Ext.setCell ?_ (by first | (simp; done) | (simp; omega) | omega) _) | (with_reducible apply Ext.alloc) | (with_reducible apply Ext.drew) | (with_reducible apply Ext.drewN) | (with_reducible exact Ext.refl _))) xw2
      have Xw2 : Ext w w2 := Xw1.trans Lw2
      replace va0 := Lw2.cell va0
      replace va1 := Lw2.cell va1
      replace va2 := Lw2.cell va2
      replace q0 := Lw2.cell q0
      replace q1 := Lw2.cell q1
      replace q2 := Lw2.cell q2
      replace f_q0 := Lw2.frz z_q f_q0
      replace f_q1 := Lw2.frz z_q f_q1
      replace f_q2 := Lw2.frz z_q f_q2
      have z_va : w.heap.size < w2.heap.size := World.block_lt_of_cell? _ _ va0
      have z_q : w.heap.size + 1 < w2.heap.size := World.block_lt_of_cell? _ _ q0
      have s_w2 : w.heap.size ≤ w2.heap.size := Xw2.size
      clear xw2
      rw [hb.out]
      go_wp2_with fail
      refine (hper.out _ (Xw2.trans (by repeat (first | (with_reducible assumption) | (with_reducible refine Ext.setCell ?_ (by first | (simp; done) | (simp; omega) | omega) _) | (with_reducible apply Ext.alloc) | (with_reducible apply Ext.drew) | (with_reducible apply Ext.drewN) | (with_reducible exact Ext.refl _))))).mono ?_
      rintro e w3 ⟨x1, x2, rfl, i1, i2, -, -, -, xw3⟩
      have Lw3 : Ext w2 w3 := Ext.trans (by repeat (first | (with_reducible assumption) | (with_reducible refine Ext.setCell ?_ (by first | (simp; done) | (simp; omega) | omega) _) | (with_reducible apply Ext.alloc) | (with_reducible apply Ext.drew) | (with_reducible apply Ext.drewN) | (with_reducible exact Ext.refl _))) xw3
      have Xw3 : Ext w w3 := Xw2.trans Lw3
      replace va0 := Lw3.cell va0
      replace va1 := Lw3.cell va1
      replace va2 := Lw3.cell va2
      replace q0 := Lw3.cell q0
      replace q1 := Lw3.cell q1
      replace q2 := Lw3.cell q2
      replace f_q0 := Lw3.frz z_q f_q0
      replace f_q1 := Lw3.frz z_q f_q1
      replace f_q2 := Lw3.frz z_q f_q2
      have z_va : w.heap.size < w3.heap.size := World.block_lt_of_cell? _ _ va0
      have z_q : w.heap.size + 1 < w3.heap.size := World.block_lt_of_cell? _ _ q0
      have s_w3 : w.heap.size ≤ w3.heap.size := Xw3.size
      clear xw3
      have hmd : ∀ (W : World) (l m : Nat), Ints W l x1 (takL s1 ord) → Ints W m x2 (takL t1 ord) → Calls Try.prog 97 #[.agg #[.int .i64 (b1), x1, x2]] W (PVB W (madeV (b1) (takL s1 ord) (takL t1 ord))) := fun W l m i j => made_c _ _ _ _ _ W l m i j
      rw [hr.out] at hmd
      replace hmd := Lib.hid hmd
      go_wp2_with fail
      refine (hmd.out _ _ _ (i1.ext (by repeat (first | (with_reducible assumption) | (with_reducible refine Ext.setCell ?_ (by first | (simp; done) | (simp; omega) | omega) _) | (with_reducible apply Ext.alloc) | (with_reducible apply Ext.drew) | (with_reducible apply Ext.drewN) | (with_reducible exact Ext.refl _)))) (i2.ext (by repeat (first | (with_reducible assumption) | (with_reducible refine Ext.setCell ?_ (by first | (simp; done) | (simp; omega) | omega) _) | (with_reducible apply Ext.alloc) | (with_reducible apply Ext.drew) | (with_reducible apply Ext.drewN) | (with_reducible exact Ext.refl _))))).mono ?_
      rintro e w4 ⟨y1, y2, rfl, j1, j2, o1, o2, od, xw4⟩
      have Lw4 : Ext w3 w4 := Ext.trans (by repeat (first | (with_reducible assumption) | (with_reducible refine Ext.setCell ?_ (by first | (simp; done) | (simp; omega) | omega) _) | (with_reducible apply Ext.alloc) | (with_reducible apply Ext.drew) | (with_reducible apply Ext.drewN) | (with_reducible exact Ext.refl _))) xw4
      have Xw4 : Ext w w4 := Xw3.trans Lw4
      replace va0 := Lw4.cell va0
      replace va1 := Lw4.cell va1
      replace va2 := Lw4.cell va2
      replace q0 := Lw4.cell q0
      replace q1 := Lw4.cell q1
      replace q2 := Lw4.cell q2
      replace f_q0 := Lw4.frz z_q f_q0
      replace f_q1 := Lw4.frz z_q f_q1
      replace f_q2 := Lw4.frz z_q f_q2
      have z_va : w.heap.size < w4.heap.size := World.block_lt_of_cell? _ _ va0
      have z_q : w.heap.size + 1 < w4.heap.size := World.block_lt_of_cell? _ _ q0
      replace i1 := i1.ext Lw4
      replace i2 := i2.ext Lw4
      have s_w4 : w.heap.size ≤ w4.heap.size := Xw4.size
      clear xw4
      have hl1 := ints_len j1
      have hl2 := ints_len j2
      clear j1 j2
      replace o1 := o1.lower (show w.heap.size + 2 ≤ _ by first | (simp; done) | (simp; omega) | omega)
      replace o2 := o2.lower (show w.heap.size + 2 ≤ _ by first | (simp; done) | (simp; omega) | omega)
      obtain ⟨p1, n1, r1, rfl⟩ := o1.form
      obtain ⟨p2, n2, r2, rfl⟩ := o2.form
      clear i1 i2 hmd hper
      go_wp2_with fail
      have Kw5 : Chg (w.heap.size + 1) (w.heap.size + 1 + 1) w4 (((w4.setCell ⟨w.heap.size + 1, 0, none⟩ (.int .i64 mb)).setCell ⟨w.heap.size + 1, 1, none⟩ (.slice p1 n1 r1)).setCell ⟨w.heap.size + 1, 2, none⟩ (.slice p2 n2 r2)) := (Chg.setCell (p := ⟨w.heap.size + 1, 2, none⟩) (Chg.setCell (p := ⟨w.heap.size + 1, 1, none⟩) (Chg.setCell (p := ⟨w.heap.size + 1, 0, none⟩) (Chg.refl (w.heap.size + 1) (w.heap.size + 1 + 1) _) (Nat.le_refl _) (Nat.lt_succ_self _) (.int .i64 mb)) (Nat.le_refl _) (Nat.lt_succ_self _) (.slice p1 n1 r1)) (Nat.le_refl _) (Nat.lt_succ_self _) (.slice p2 n2 r2))
      have Xw5 : Ext w (((w4.setCell ⟨w.heap.size + 1, 0, none⟩ (.int .i64 mb)).setCell ⟨w.heap.size + 1, 1, none⟩ (.slice p1 n1 r1)).setCell ⟨w.heap.size + 1, 2, none⟩ (.slice p2 n2 r2)) := (Ext.setCell (p := ⟨w.heap.size + 1, 2, none⟩) (Ext.setCell (p := ⟨w.heap.size + 1, 1, none⟩) (Ext.setCell (p := ⟨w.heap.size + 1, 0, none⟩) Xw4 (by first | (simp; done) | (simp; omega) | omega) (.int .i64 mb)) (by first | (simp; done) | (simp; omega) | omega) (.slice p1 n1 r1)) (by first | (simp; done) | (simp; omega) | omega) (.slice p2 n2 r2))
      replace va0 := Kw5.cell (by omega) va0
      replace va1 := Kw5.cell (by omega) va1
      replace va2 := Kw5.cell (by omega) va2
      have n_q0 : (((w4.setCell ⟨w.heap.size + 1, 0, none⟩ (.int .i64 mb)).setCell ⟨w.heap.size + 1, 1, none⟩ (.slice p1 n1 r1)).setCell ⟨w.heap.size + 1, 2, none⟩ (.slice p2 n2 r2)).cell? ⟨w.heap.size + 1, 0, none⟩ = some (.int .i64 mb) := by go_simp
      have n_f_q0 : (((w4.setCell ⟨w.heap.size + 1, 0, none⟩ (.int .i64 mb)).setCell ⟨w.heap.size + 1, 1, none⟩ (.slice p1 n1 r1)).setCell ⟨w.heap.size + 1, 2, none⟩ (.slice p2 n2 r2)).frozen? ⟨w.heap.size + 1, 0, none⟩ = false := by go_simp
      have n_q1 : (((w4.setCell ⟨w.heap.size + 1, 0, none⟩ (.int .i64 mb)).setCell ⟨w.heap.size + 1, 1, none⟩ (.slice p1 n1 r1)).setCell ⟨w.heap.size + 1, 2, none⟩ (.slice p2 n2 r2)).cell? ⟨w.heap.size + 1, 1, none⟩ = some (.slice p1 n1 r1) := by go_simp
      have n_f_q1 : (((w4.setCell ⟨w.heap.size + 1, 0, none⟩ (.int .i64 mb)).setCell ⟨w.heap.size + 1, 1, none⟩ (.slice p1 n1 r1)).setCell ⟨w.heap.size + 1, 2, none⟩ (.slice p2 n2 r2)).frozen? ⟨w.heap.size + 1, 1, none⟩ = false := by go_simp
      have n_q2 : (((w4.setCell ⟨w.heap.size + 1, 0, none⟩ (.int .i64 mb)).setCell ⟨w.heap.size + 1, 1, none⟩ (.slice p1 n1 r1)).setCell ⟨w.heap.size + 1, 2, none⟩ (.slice p2 n2 r2)).cell? ⟨w.heap.size + 1, 2, none⟩ = some (.slice p2 n2 r2) := by go_simp
      have n_f_q2 : (((w4.setCell ⟨w.heap.size + 1, 0, none⟩ (.int .i64 mb)).setCell ⟨w.heap.size + 1, 1, none⟩ (.slice p1 n1 r1)).setCell ⟨w.heap.size + 1, 2, none⟩ (.slice p2 n2 r2)).frozen? ⟨w.heap.size + 1, 2, none⟩ = false := by go_simp
      replace q0 := n_q0
      clear n_q0
      replace f_q0 := n_f_q0
      clear n_f_q0
      replace q1 := n_q1
      clear n_q1
      replace f_q1 := n_f_q1
      clear n_f_q1
      replace q2 := n_q2
      clear n_q2
      replace f_q2 := n_f_q2
      clear n_f_q2
      replace o1 := o1.chg Kw5 (by omega)
      replace o2 := o2.chg Kw5 (by omega)
      clear Kw5
      have z_va : w.heap.size < (((w4.setCell ⟨w.heap.size + 1, 0, none⟩ (.int .i64 mb)).setCell ⟨w.heap.size + 1, 1, none⟩ (.slice p1 n1 r1)).setCell ⟨w.heap.size + 1, 2, none⟩ (.slice p2 n2 r2)).heap.size := World.block_lt_of_cell? _ _ va0
      have z_q : w.heap.size + 1 < (((w4.setCell ⟨w.heap.size + 1, 0, none⟩ (.int .i64 mb)).setCell ⟨w.heap.size + 1, 1, none⟩ (.slice p1 n1 r1)).setCell ⟨w.heap.size + 1, 2, none⟩ (.slice p2 n2 r2)).heap.size := World.block_lt_of_cell? _ _ q0
      have s_w5 : w.heap.size ≤ (((w4.setCell ⟨w.heap.size + 1, 0, none⟩ (.int .i64 mb)).setCell ⟨w.heap.size + 1, 1, none⟩ (.slice p1 n1 r1)).setCell ⟨w.heap.size + 1, 2, none⟩ (.slice p2 n2 r2)).heap.size := Xw5.size
      generalize (((w4.setCell ⟨w.heap.size + 1, 0, none⟩ (.int .i64 mb)).setCell ⟨w.heap.size + 1, 1, none⟩ (.slice p1 n1 r1)).setCell ⟨w.heap.size + 1, 2, none⟩ (.slice p2 n2 r2)) = w5 at *
      refine bodyPost_ret (v := .tuple #[.agg #[.int .i64 mb, .slice p1 n1 r1, .slice p2 n2 r2], .bool mk]) (by simp only [results, Try.results59]; go_simp) rfl ?_
      exact PVB.any (hr0.out.trans hr.out) (o1.lower (by omega)) (o2.lower (by omega)) od hl1 hl2 Xw5

set_option maxHeartbeats 3200000 in
theorem specAddDim_c (b1 : Int) (u1 v1 : Value) (s1 t1 : List Int) (d : Int) (w : World) (l1 m1 : Nat) (h1 : Ints w l1 u1 s1) (k1 : Ints w m1 v1 t1) :
    Calls Try.prog 37 #[.agg #[.int .i64 b1, u1, v1], .int .i64 d] w (PVB w (addV b1 s1 t1 d)) := by
  have hlen1 := ints_len h1
  have hlen2 := ints_len k1
  obtain ⟨a1, cp1, rfl⟩ := h1.form
  obtain ⟨a2, cp2, rfl⟩ := k1.form
  cases ha : viewB b1 s1 t1
  · have hr : Hid (addV b1 s1 t1 d = noV) := Lib.hid (by unfold addV; rw [ha]; rfl)
    replace ha := Lib.hid ha
    go_enter Try.func37, Try.ntmps37
    go_wp2_with fail
    refine (validView_c b1 _ _ s1 t1 _ l1 m1 (h1.ext (by repeat (first | (with_reducible assumption) | (with_reducible refine Ext.setCell ?_ (by first | (simp; done) | (simp; omega) | omega) _) | (with_reducible apply Ext.alloc) | (with_reducible apply Ext.drew) | (with_reducible apply Ext.drewN) | (with_reducible exact Ext.refl _)))) (k1.ext (by repeat (first | (with_reducible assumption) | (with_reducible refine Ext.setCell ?_ (by first | (simp; done) | (simp; omega) | omega) _) | (with_reducible apply Ext.alloc) | (with_reducible apply Ext.drew) | (with_reducible apply Ext.drewN) | (with_reducible exact Ext.refl _))))).mono ?_
    rintro e w1 ⟨rfl, xw1⟩
    have Lw1 : Ext w w1 := Ext.trans (by repeat (first | (with_reducible assumption) | (with_reducible refine Ext.setCell ?_ (by first | (simp; done) | (simp; omega) | omega) _) | (with_reducible apply Ext.alloc) | (with_reducible apply Ext.drew) | (with_reducible apply Ext.drewN) | (with_reducible exact Ext.refl _))) xw1
    have Xw1 : Ext w w1 := Lw1
    have va0 : w1.cell? ⟨w.heap.size, 0, none⟩ = some (.int .i64 b1) := xw1.cell (by first | (simp; done) | ((repeat rw [World.cell?_alloc_lt _ _ _ (by simp <;> omega)]); simp; done) | (go_simp; done))
    have va1 : w1.cell? ⟨w.heap.size, 1, none⟩ = some (.slice a1 s1.length cp1) := xw1.cell (by first | (simp; done) | ((repeat rw [World.cell?_alloc_lt _ _ _ (by simp <;> omega)]); simp; done) | (go_simp; done))
    have va2 : w1.cell? ⟨w.heap.size, 2, none⟩ = some (.slice a2 t1.length cp2) := xw1.cell (by first | (simp; done) | ((repeat rw [World.cell?_alloc_lt _ _ _ (by simp <;> omega)]); simp; done) | (go_simp; done))
    have q0 : w1.cell? ⟨w.heap.size + 1, 0, none⟩ = some (.int .i64 0) := xw1.cell (by first | (simp; done) | ((repeat rw [World.cell?_alloc_lt _ _ _ (by simp <;> omega)]); simp; done) | (go_simp; done))
    have q1 : w1.cell? ⟨w.heap.size + 1, 1, none⟩ = some (.slice none 0 0) := xw1.cell (by first | (simp; done) | ((repeat rw [World.cell?_alloc_lt _ _ _ (by simp <;> omega)]); simp; done) | (go_simp; done))
    have q2 : w1.cell? ⟨w.heap.size + 1, 2, none⟩ = some (.slice none 0 0) := xw1.cell (by first | (simp; done) | ((repeat rw [World.cell?_alloc_lt _ _ _ (by simp <;> omega)]); simp; done) | (go_simp; done))
    have f_q0 : w1.frozen? ⟨w.heap.size + 1, 0, none⟩ = false := xw1.frz (by simp <;> omega) (by first | (simp; done) | (go_simp; done))
    have f_q1 : w1.frozen? ⟨w.heap.size + 1, 1, none⟩ = false := xw1.frz (by simp <;> omega) (by first | (simp; done) | (go_simp; done))
    have f_q2 : w1.frozen? ⟨w.heap.size + 1, 2, none⟩ = false := xw1.frz (by simp <;> omega) (by first | (simp; done) | (go_simp; done))
    have z_va : w.heap.size < w1.heap.size := World.block_lt_of_cell? _ _ va0
    have z_q : w.heap.size + 1 < w1.heap.size := World.block_lt_of_cell? _ _ q0
    have s_w1 : w.heap.size ≤ w1.heap.size := Xw1.size
    clear xw1
    rw [ha.out]
    go_wp2_with fail
    refine bodyPost_ret (v := .tuple #[.agg #[.int .i64 0, .slice none 0 0, .slice none 0 0], .bool false]) (by simp only [results, Try.results37]; go_simp) rfl ?_
    exact PVB.no hr.out (by repeat (first | (with_reducible assumption) | (with_reducible refine Ext.setCell ?_ (by first | (simp; done) | (simp; omega) | omega) _) | (with_reducible apply Ext.alloc) | (with_reducible apply Ext.drew) | (with_reducible apply Ext.drewN) | (with_reducible exact Ext.refl _)))
  · have ht := Lib.hid (viewB_in ha).2.1
    have j4 := (shapeB_in (viewB_in ha).1).1
    cases hb : inB 0 s1.length d
    · have hr : Hid (addV b1 s1 t1 d = noV) := Lib.hid (by unfold addV; rw [ha, hb]; rfl)
      replace ha := Lib.hid ha
      replace hb := Lib.hid hb
      go_enter Try.func37, Try.ntmps37
      go_wp2_with fail
      refine (validView_c b1 _ _ s1 t1 _ l1 m1 (h1.ext (by repeat (first | (with_reducible assumption) | (with_reducible refine Ext.setCell ?_ (by first | (simp; done) | (simp; omega) | omega) _) | (with_reducible apply Ext.alloc) | (with_reducible apply Ext.drew) | (with_reducible apply Ext.drewN) | (with_reducible exact Ext.refl _)))) (k1.ext (by repeat (first | (with_reducible assumption) | (with_reducible refine Ext.setCell ?_ (by first | (simp; done) | (simp; omega) | omega) _) | (with_reducible apply Ext.alloc) | (with_reducible apply Ext.drew) | (with_reducible apply Ext.drewN) | (with_reducible exact Ext.refl _))))).mono ?_
      rintro e w1 ⟨rfl, xw1⟩
      have Lw1 : Ext w w1 := Ext.trans (by repeat (first | (with_reducible assumption) | (with_reducible refine Ext.setCell ?_ (by first | (simp; done) | (simp; omega) | omega) _) | (with_reducible apply Ext.alloc) | (with_reducible apply Ext.drew) | (with_reducible apply Ext.drewN) | (with_reducible exact Ext.refl _))) xw1
      have Xw1 : Ext w w1 := Lw1
      have va0 : w1.cell? ⟨w.heap.size, 0, none⟩ = some (.int .i64 b1) := xw1.cell (by first | (simp; done) | ((repeat rw [World.cell?_alloc_lt _ _ _ (by simp <;> omega)]); simp; done) | (go_simp; done))
      have va1 : w1.cell? ⟨w.heap.size, 1, none⟩ = some (.slice a1 s1.length cp1) := xw1.cell (by first | (simp; done) | ((repeat rw [World.cell?_alloc_lt _ _ _ (by simp <;> omega)]); simp; done) | (go_simp; done))
      have va2 : w1.cell? ⟨w.heap.size, 2, none⟩ = some (.slice a2 t1.length cp2) := xw1.cell (by first | (simp; done) | ((repeat rw [World.cell?_alloc_lt _ _ _ (by simp <;> omega)]); simp; done) | (go_simp; done))
      have q0 : w1.cell? ⟨w.heap.size + 1, 0, none⟩ = some (.int .i64 0) := xw1.cell (by first | (simp; done) | ((repeat rw [World.cell?_alloc_lt _ _ _ (by simp <;> omega)]); simp; done) | (go_simp; done))
      have q1 : w1.cell? ⟨w.heap.size + 1, 1, none⟩ = some (.slice none 0 0) := xw1.cell (by first | (simp; done) | ((repeat rw [World.cell?_alloc_lt _ _ _ (by simp <;> omega)]); simp; done) | (go_simp; done))
      have q2 : w1.cell? ⟨w.heap.size + 1, 2, none⟩ = some (.slice none 0 0) := xw1.cell (by first | (simp; done) | ((repeat rw [World.cell?_alloc_lt _ _ _ (by simp <;> omega)]); simp; done) | (go_simp; done))
      have f_q0 : w1.frozen? ⟨w.heap.size + 1, 0, none⟩ = false := xw1.frz (by simp <;> omega) (by first | (simp; done) | (go_simp; done))
      have f_q1 : w1.frozen? ⟨w.heap.size + 1, 1, none⟩ = false := xw1.frz (by simp <;> omega) (by first | (simp; done) | (go_simp; done))
      have f_q2 : w1.frozen? ⟨w.heap.size + 1, 2, none⟩ = false := xw1.frz (by simp <;> omega) (by first | (simp; done) | (go_simp; done))
      have z_va : w.heap.size < w1.heap.size := World.block_lt_of_cell? _ _ va0
      have z_q : w.heap.size + 1 < w1.heap.size := World.block_lt_of_cell? _ _ q0
      have s_w1 : w.heap.size ≤ w1.heap.size := Xw1.size
      clear xw1
      rw [ha.out]
      go_wp2_with fail
      refine (inRange_c d 0 (s1.length : Int) _).mono ?_
      rintro e w' ⟨rfl, rfl⟩
      rw [hb.out]
      go_wp2_with fail
      refine bodyPost_ret (v := .tuple #[.agg #[.int .i64 0, .slice none 0 0, .slice none 0 0], .bool false]) (by simp only [results, Try.results37]; go_simp) rfl ?_
      exact PVB.no hr.out (by repeat (first | (with_reducible assumption) | (with_reducible refine Ext.setCell ?_ (by first | (simp; done) | (simp; omega) | omega) _) | (with_reducible apply Ext.alloc) | (with_reducible apply Ext.drew) | (with_reducible apply Ext.drewN) | (with_reducible exact Ext.refl _)))
    · by_cases h4 : s1.length = 4
      · have hr : Hid (addV b1 s1 t1 d = noV) := Lib.hid (by unfold addV; rw [ha, hb, h4]; rfl)
        have h5 : ((s1.length : Int) == 4) = true := by simp; omega
        replace ha := Lib.hid ha
        replace hb := Lib.hid hb
        clear h4
        go_enter Try.func37, Try.ntmps37
        go_wp2_with fail
        refine (validView_c b1 _ _ s1 t1 _ l1 m1 (h1.ext (by repeat (first | (with_reducible assumption) | (with_reducible refine Ext.setCell ?_ (by first | (simp; done) | (simp; omega) | omega) _) | (with_reducible apply Ext.alloc) | (with_reducible apply Ext.drew) | (with_reducible apply Ext.drewN) | (with_reducible exact Ext.refl _)))) (k1.ext (by repeat (first | (with_reducible assumption) | (with_reducible refine Ext.setCell ?_ (by first | (simp; done) | (simp; omega) | omega) _) | (with_reducible apply Ext.alloc) | (with_reducible apply Ext.drew) | (with_reducible apply Ext.drewN) | (with_reducible exact Ext.refl _))))).mono ?_
        rintro e w1 ⟨rfl, xw1⟩
        have Lw1 : Ext w w1 := Ext.trans (by repeat (first | (with_reducible assumption) | (with_reducible refine Ext.setCell ?_ (by first | (simp; done) | (simp; omega) | omega) _) | (with_reducible apply Ext.alloc) | (with_reducible apply Ext.drew) | (with_reducible apply Ext.drewN) | (with_reducible exact Ext.refl _))) xw1
        have Xw1 : Ext w w1 := Lw1
        have va0 : w1.cell? ⟨w.heap.size, 0, none⟩ = some (.int .i64 b1) := xw1.cell (by first | (simp; done) | ((repeat rw [World.cell?_alloc_lt _ _ _ (by simp <;> omega)]); simp; done) | (go_simp; done))
        have va1 : w1.cell? ⟨w.heap.size, 1, none⟩ = some (.slice a1 s1.length cp1) := xw1.cell (by first | (simp; done) | ((repeat rw [World.cell?_alloc_lt _ _ _ (by simp <;> omega)]); simp; done) | (go_simp; done))
        have va2 : w1.cell? ⟨w.heap.size, 2, none⟩ = some (.slice a2 t1.length cp2) := xw1.cell (by first | (simp; done) | ((repeat rw [World.cell?_alloc_lt _ _ _ (by simp <;> omega)]); simp; done) | (go_simp; done))
        have q0 : w1.cell? ⟨w.heap.size + 1, 0, none⟩ = some (.int .i64 0) := xw1.cell (by first | (simp; done) | ((repeat rw [World.cell?_alloc_lt _ _ _ (by simp <;> omega)]); simp; done) | (go_simp; done))
        have q1 : w1.cell? ⟨w.heap.size + 1, 1, none⟩ = some (.slice none 0 0) := xw1.cell (by first | (simp; done) | ((repeat rw [World.cell?_alloc_lt _ _ _ (by simp <;> omega)]); simp; done) | (go_simp; done))
        have q2 : w1.cell? ⟨w.heap.size + 1, 2, none⟩ = some (.slice none 0 0) := xw1.cell (by first | (simp; done) | ((repeat rw [World.cell?_alloc_lt _ _ _ (by simp <;> omega)]); simp; done) | (go_simp; done))
        have f_q0 : w1.frozen? ⟨w.heap.size + 1, 0, none⟩ = false := xw1.frz (by simp <;> omega) (by first | (simp; done) | (go_simp; done))
        have f_q1 : w1.frozen? ⟨w.heap.size + 1, 1, none⟩ = false := xw1.frz (by simp <;> omega) (by first | (simp; done) | (go_simp; done))
        have f_q2 : w1.frozen? ⟨w.heap.size + 1, 2, none⟩ = false := xw1.frz (by simp <;> omega) (by first | (simp; done) | (go_simp; done))
        have z_va : w.heap.size < w1.heap.size := World.block_lt_of_cell? _ _ va0
        have z_q : w.heap.size + 1 < w1.heap.size := World.block_lt_of_cell? _ _ q0
        have s_w1 : w.heap.size ≤ w1.heap.size := Xw1.size
        clear xw1
        rw [ha.out]
        go_wp2_with fail
        refine (inRange_c d 0 (s1.length : Int) _).mono ?_
        rintro e w' ⟨rfl, rfl⟩
        rw [hb.out]
        go_wp2_with fail
        refine bodyPost_ret (v := .tuple #[.agg #[.int .i64 0, .slice none 0 0, .slice none 0 0], .bool false]) (by simp only [results, Try.results37]; go_simp) rfl ?_
        exact PVB.no hr.out (by repeat (first | (with_reducible assumption) | (with_reducible refine Ext.setCell ?_ (by first | (simp; done) | (simp; omega) | omega) _) | (with_reducible apply Ext.alloc) | (with_reducible apply Ext.drew) | (with_reducible apply Ext.drewN) | (with_reducible exact Ext.refl _)))
      · have h5 : ((s1.length : Int) == 4) = false := by simp; omega
        have hd : 0 ≤ d ∧ d ≤ s1.length := by simp [inB] at hb; omega
        obtain ⟨n, rfl⟩ : ∃ n : Nat, d = n := ⟨d.toNat, by omega⟩
        have hr0 : Hid (addV b1 s1 t1 n = madeV b1 (s1.take n ++ [1] ++ s1.drop n) (t1.take n ++ [0] ++ t1.drop n)) := Lib.hid (by unfold addV; rw [ha, hb, h5]; rfl)
        obtain ⟨x, hr⟩ : ∃ x, madeV b1 (s1.take n ++ [1] ++ s1.drop n) (t1.take n ++ [0] ++ t1.drop n) = x := ⟨_, rfl⟩
        obtain ⟨mb, ms, mt, mk⟩ := x
        have hmd : ∀ (W : World) (x1 x2 : Value) (l m : Nat), Ints W l x1 (s1.take n ++ [1] ++ s1.drop n) → Ints W m x2 (t1.take n ++ [0] ++ t1.drop n) → Calls Try.prog 97 #[.agg #[.int .i64 b1, x1, x2]] W (PVB W (madeV b1 (s1.take n ++ [1] ++ s1.drop n) (t1.take n ++ [0] ++ t1.drop n))) := fun W x1 x2 l m i j => made_c _ _ _ _ _ W l m i j
        rw [hr] at hmd
        replace hmd := Lib.hid hmd
        replace hr := Lib.hid hr
        replace ha := Lib.hid ha
        replace hb := Lib.hid hb
        have h4' : s1.length ≤ 3 := by omega
        clear h4
        go_enter Try.func37, Try.ntmps37
        go_wp2_with fail
        refine (validView_c b1 _ _ s1 t1 _ l1 m1 (h1.ext (by repeat (first | (with_reducible assumption) | (with_reducible refine Ext.setCell ?_ (by first | (simp; done) | (simp; omega) | omega) _) | (with_reducible apply Ext.alloc) | (with_reducible apply Ext.drew) | (with_reducible apply Ext.drewN) | (with_reducible exact Ext.refl _)))) (k1.ext (by repeat (first | (with_reducible assumption) | (with_reducible refine Ext.setCell ?_ (by first | (simp; done) | (simp; omega) | omega) _) | (with_reducible apply Ext.alloc) | (with_reducible apply Ext.drew) | (with_reducible apply Ext.drewN) | (with_reducible exact Ext.refl _))))).mono ?_
        rintro e w1 ⟨rfl, xw1⟩
        have Lw1 : Ext w w1 := Ext.trans (by repeat (first | (with_reducible assumption) | (with_reducible refine Ext.setCell ?_ (by first | (simp; done) | (simp; omega) | omega) _) | (with_reducible apply Ext.alloc) | (with_reducible apply Ext.drew) | (with_reducible apply Ext.drewN) | (with_reducible exact Ext.refl _))) xw1
        have Xw1 : Ext w w1 := Lw1
        have va0 : w1.cell? ⟨w.heap.size, 0, none⟩ = some (.int .i64 b1) := xw1.cell (by first | (simp; done) | ((repeat rw [World.cell?_alloc_lt _ _ _ (by simp <;> omega)]); simp; done) | (go_simp; done))
        have va1 : w1.cell? ⟨w.heap.size, 1, none⟩ = some (.slice a1 s1.length cp1) := xw1.cell (by first | (simp; done) | ((repeat rw [World.cell?_alloc_lt _ _ _ (by simp <;> omega)]); simp; done) | (go_simp; done))
        have va2 : w1.cell? ⟨w.heap.size, 2, none⟩ = some (.slice a2 t1.length cp2) := xw1.cell (by first | (simp; done) | ((repeat rw [World.cell?_alloc_lt _ _ _ (by simp <;> omega)]); simp; done) | (go_simp; done))
        have q0 : w1.cell? ⟨w.heap.size + 1, 0, none⟩ = some (.int .i64 0) := xw1.cell (by first | (simp; done) | ((repeat rw [World.cell?_alloc_lt _ _ _ (by simp <;> omega)]); simp; done) | (go_simp; done))
        have q1 : w1.cell? ⟨w.heap.size + 1, 1, none⟩ = some (.slice none 0 0) := xw1.cell (by first | (simp; done) | ((repeat rw [World.cell?_alloc_lt _ _ _ (by simp <;> omega)]); simp; done) | (go_simp; done))
        have q2 : w1.cell? ⟨w.heap.size + 1, 2, none⟩ = some (.slice none 0 0) := xw1.cell (by first | (simp; done) | ((repeat rw [World.cell?_alloc_lt _ _ _ (by simp <;> omega)]); simp; done) | (go_simp; done))
        have f_q0 : w1.frozen? ⟨w.heap.size + 1, 0, none⟩ = false := xw1.frz (by simp <;> omega) (by first | (simp; done) | (go_simp; done))
        have f_q1 : w1.frozen? ⟨w.heap.size + 1, 1, none⟩ = false := xw1.frz (by simp <;> omega) (by first | (simp; done) | (go_simp; done))
        have f_q2 : w1.frozen? ⟨w.heap.size + 1, 2, none⟩ = false := xw1.frz (by simp <;> omega) (by first | (simp; done) | (go_simp; done))
        have z_va : w.heap.size < w1.heap.size := World.block_lt_of_cell? _ _ va0
        have z_q : w.heap.size + 1 < w1.heap.size := World.block_lt_of_cell? _ _ q0
        have s_w1 : w.heap.size ≤ w1.heap.size := Xw1.size
        clear xw1
        rw [ha.out]
        go_wp2_with fail
        refine (inRange_c n 0 (s1.length : Int) _).mono ?_
        rintro e w' ⟨rfl, rfl⟩
        rw [hb.out]
        go_wp2_with fail
        refine wp_region_tail (S := fun w' => w'.cell? ⟨w.heap.size, 0, none⟩ = some (.int .i64 b1) ∧ w'.cell? ⟨w.heap.size, 1, none⟩ = some (.slice a1 s1.length cp1) ∧ w'.cell? ⟨w.heap.size, 2, none⟩ = some (.slice a2 t1.length cp2)) (fun i => decide (14 ≤ i)) (by kernel_rfl) ⟨va0, va1, va2⟩ (fun hHeld => ?_)
        refine wpTail_take (i := 0) (v := ?_) rfl (by kernel_rfl) (by kernel_rfl) (by kernel_rfl) rfl (by kernel_rfl) (fun _ _ _ h => h) (Or.inl ⟨by rfl, ?_⟩) (by assumption) ?_
        rotate_left
        · (intro w hSw; (try dsimp only at hSw); go_simp; try with_reducible rfl)
        try simp only [Act.put, List.setIfInBounds_toArray, List.set_cons_zero, List.set_cons_succ, List.getElem_toArray, List.getElem_cons_succ, List.getElem_cons_zero]
        refine wpTail_take (i := 1) (v := ?_) rfl (by kernel_rfl) (by kernel_rfl) (by kernel_rfl) rfl (by kernel_rfl) (fun _ _ _ h => h) (Or.inl ⟨by rfl, ?_⟩) (by assumption) ?_
        rotate_left
        · (intro w hSw; (try dsimp only at hSw); go_simp; try with_reducible rfl)
        try simp only [Act.put, List.setIfInBounds_toArray, List.set_cons_zero, List.set_cons_succ, List.getElem_toArray, List.getElem_cons_succ, List.getElem_cons_zero]
        refine wpTail_take (i := 2) (v := ?_) rfl (by kernel_rfl) (by kernel_rfl) (by kernel_rfl) rfl (by kernel_rfl) (fun _ _ _ h => h) (Or.inl ⟨by rfl, ?_⟩) (by assumption) ?_
        rotate_left
        · (intro w hSw; (try dsimp only at hSw); go_simp; try with_reducible rfl)
        try simp only [Act.put, List.setIfInBounds_toArray, List.set_cons_zero, List.set_cons_succ, List.getElem_toArray, List.getElem_cons_succ, List.getElem_cons_zero]
        refine wpTail_take (i := 3) (v := ?_) rfl (by kernel_rfl) (by kernel_rfl) (by kernel_rfl) rfl (by kernel_rfl) (fun _ _ _ h => h) (Or.inl ⟨by rfl, ?_⟩) (by assumption) ?_
        rotate_left
        · (intro w hSw; (try dsimp only at hSw); go_simp; try with_reducible rfl)
        try simp only [Act.put, List.setIfInBounds_toArray, List.set_cons_zero, List.set_cons_succ, List.getElem_toArray, List.getElem_cons_succ, List.getElem_cons_zero]
        refine wpTail_take (i := 4) (v := ?_) rfl (by kernel_rfl) (by kernel_rfl) (by kernel_rfl) rfl (by kernel_rfl) (fun _ _ _ h => h) (Or.inl ⟨by rfl, ?_⟩) (by assumption) ?_
        rotate_left
        · (intro w hSw; (try dsimp only at hSw); go_simp; try with_reducible rfl)
        try simp only [Act.put, List.setIfInBounds_toArray, List.set_cons_zero, List.set_cons_succ, List.getElem_toArray, List.getElem_cons_succ, List.getElem_cons_zero]
        refine wpTail_take (i := 6) (v := ?_) rfl (by kernel_rfl) (by kernel_rfl) (by kernel_rfl) rfl (by kernel_rfl) (fun _ _ _ h => h) (Or.inl ⟨by rfl, ?_⟩) (by assumption) ?_
        rotate_left
        · (intro w hSw; (try dsimp only at hSw); go_simp; try with_reducible rfl)
        try simp only [Act.put, List.setIfInBounds_toArray, List.set_cons_zero, List.set_cons_succ, List.getElem_toArray, List.getElem_cons_succ, List.getElem_cons_zero]
        refine wpTail_take (i := 7) (v := ?_) rfl (by kernel_rfl) (by kernel_rfl) (by kernel_rfl) rfl (by kernel_rfl) (fun _ _ _ h => h) (Or.inl ⟨by rfl, ?_⟩) (by assumption) ?_
        rotate_left
        · (intro w hSw; (try dsimp only at hSw); go_simp; try with_reducible rfl)
        try simp only [Act.put, List.setIfInBounds_toArray, List.set_cons_zero, List.set_cons_succ, List.getElem_toArray, List.getElem_cons_succ, List.getElem_cons_zero]
        refine wpTail_take (i := 8) (v := ?_) rfl (by kernel_rfl) (by kernel_rfl) (by kernel_rfl) rfl (by kernel_rfl) (fun _ _ _ h => h) (Or.inl ⟨by rfl, ?_⟩) (by assumption) ?_
        rotate_left
        · (intro w hSw; (try dsimp only at hSw); go_simp; try with_reducible rfl)
        try simp only [Act.put, List.setIfInBounds_toArray, List.set_cons_zero, List.set_cons_succ, List.getElem_toArray, List.getElem_cons_succ, List.getElem_cons_zero]
        refine wpTail_one (i := 5) (by kernel_rfl) rfl rfl (fun K hK => ?_)
        try simp only [Act.put, List.setIfInBounds_toArray, List.set_cons_zero, List.set_cons_succ, List.getElem_toArray, List.getElem_cons_succ, List.getElem_cons_zero]
        go_simp
        refine (insert_c s1 _ n 1 _ l1 (h1.ext (Xw1.trans (by repeat (first | (with_reducible assumption) | (with_reducible refine Ext.setCell ?_ (by first | (simp; done) | (simp; omega) | omega) _) | (with_reducible apply Ext.alloc) | (with_reducible apply Ext.drew) | (with_reducible apply Ext.drewN) | (with_reducible exact Ext.refl _))))) (by omega) (by omega)).mono ?_
        rintro e w2 ⟨x1, rfl, i1, -, xw2⟩
        have Lw2 : Ext w1 w2 := Ext.trans (by repeat (first | (with_reducible assumption) | (with_reducible refine Ext.setCell ?_ (by first | (simp; done) | (simp; omega) | omega) _) | (with_reducible apply Ext.alloc) | (with_reducible apply Ext.drew) | (with_reducible apply Ext.drewN) | (with_reducible exact Ext.refl _))) xw2
        have Xw2 : Ext w w2 := Xw1.trans Lw2
        replace va0 := Lw2.cell va0
        replace va1 := Lw2.cell va1
        replace va2 := Lw2.cell va2
        replace q0 := Lw2.cell q0
        replace q1 := Lw2.cell q1
        replace q2 := Lw2.cell q2
        replace f_q0 := Lw2.frz z_q f_q0
        replace f_q1 := Lw2.frz z_q f_q1
        replace f_q2 := Lw2.frz z_q f_q2
        have z_va : w.heap.size < w2.heap.size := World.block_lt_of_cell? _ _ va0
        have z_q : w.heap.size + 1 < w2.heap.size := World.block_lt_of_cell? _ _ q0
        have s_w2 : w.heap.size ≤ w2.heap.size := Xw2.size
        clear xw2
        obtain ⟨xa1, xn1, xc1, rfl⟩ := i1.any
        refine hK.out _ _ ⟨va0, va1, va2⟩ (fun hHeld => ?_)
        clear hK K
        try simp only [Act.put, List.setIfInBounds_toArray, List.set_cons_zero, List.set_cons_succ, List.getElem_toArray, List.getElem_cons_succ, List.getElem_cons_zero]
        refine wpTail_one (i := 9) (by kernel_rfl) rfl rfl (fun K hK => ?_)
        try simp only [Act.put, List.setIfInBounds_toArray, List.set_cons_zero, List.set_cons_succ, List.getElem_toArray, List.getElem_cons_succ, List.getElem_cons_zero]
        go_simp
        refine (insert_c t1 _ n 0 _ m1 (k1.ext (Xw1.trans (by repeat (first | (with_reducible assumption) | (with_reducible refine Ext.setCell ?_ (by first | (simp; done) | (simp; omega) | omega) _) | (with_reducible apply Ext.alloc) | (with_reducible apply Ext.drew) | (with_reducible apply Ext.drewN) | (with_reducible exact Ext.refl _))))) (by have := ht.out; omega) (by have := ht.out; omega)).mono ?_
        rintro e w3 ⟨x2, rfl, i2, -, xw3⟩
        have Lw3 : Ext w2 w3 := Ext.trans (by repeat (first | (with_reducible assumption) | (with_reducible refine Ext.setCell ?_ (by first | (simp; done) | (simp; omega) | omega) _) | (with_reducible apply Ext.alloc) | (with_reducible apply Ext.drew) | (with_reducible apply Ext.drewN) | (with_reducible exact Ext.refl _))) xw3
        have Xw3 : Ext w w3 := Xw2.trans Lw3
        replace va0 := Lw3.cell va0
        replace va1 := Lw3.cell va1
        replace va2 := Lw3.cell va2
        replace q0 := Lw3.cell q0
        replace q1 := Lw3.cell q1
        replace q2 := Lw3.cell q2
        replace f_q0 := Lw3.frz z_q f_q0
        replace f_q1 := Lw3.frz z_q f_q1
        replace f_q2 := Lw3.frz z_q f_q2
        have z_va : w.heap.size < w3.heap.size := World.block_lt_of_cell? _ _ va0
        have z_q : w.heap.size + 1 < w3.heap.size := World.block_lt_of_cell? _ _ q0
        replace i1 := i1.ext Lw3
        have s_w3 : w.heap.size ≤ w3.heap.size := Xw3.size
        clear xw3
        obtain ⟨xa2, xn2, xc2, rfl⟩ := i2.any
        refine hK.out _ _ ⟨va0, va1, va2⟩ (fun hHeld => ?_)
        clear hK K
        try simp only [Act.put, List.setIfInBounds_toArray, List.set_cons_zero, List.set_cons_succ, List.getElem_toArray, List.getElem_cons_succ, List.getElem_cons_zero]
        refine wpTail_take (i := 10) (v := ?_) rfl (by kernel_rfl) (by kernel_rfl) (by kernel_rfl) rfl (by kernel_rfl) (fun _ _ _ h => h) (Or.inl ⟨by rfl, ?_⟩) (by assumption) ?_
        rotate_left
        · (intro w hSw; (try dsimp only at hSw); go_simp; try with_reducible rfl)
        try simp only [Act.put, List.setIfInBounds_toArray, List.set_cons_zero, List.set_cons_succ, List.getElem_toArray, List.getElem_cons_succ, List.getElem_cons_zero]
        refine wpTail_one (i := 11) (by kernel_rfl) rfl rfl (fun K hK => ?_)
        try simp only [Act.put, List.setIfInBounds_toArray, List.set_cons_zero, List.set_cons_succ, List.getElem_toArray, List.getElem_cons_succ, List.getElem_cons_zero]
        go_simp
        refine (hmd.out _ _ _ _ _ i1 i2).mono ?_
        rintro e w4 ⟨y1, y2, rfl, j1, j2, o1, o2, od, xw4⟩
        have Lw4 : Ext w3 w4 := Ext.trans (by repeat (first | (with_reducible assumption) | (with_reducible refine Ext.setCell ?_ (by first | (simp; done) | (simp; omega) | omega) _) | (with_reducible apply Ext.alloc) | (with_reducible apply Ext.drew) | (with_reducible apply Ext.drewN) | (with_reducible exact Ext.refl _))) xw4
        have Xw4 : Ext w w4 := Xw3.trans Lw4
        replace va0 := Lw4.cell va0
        replace va1 := Lw4.cell va1
        replace va2 := Lw4.cell va2
        replace q0 := Lw4.cell q0
        replace q1 := Lw4.cell q1
        replace q2 := Lw4.cell q2
        replace f_q0 := Lw4.frz z_q f_q0
        replace f_q1 := Lw4.frz z_q f_q1
        replace f_q2 := Lw4.frz z_q f_q2
        have z_va : w.heap.size < w4.heap.size := World.block_lt_of_cell? _ _ va0
        have z_q : w.heap.size + 1 < w4.heap.size := World.block_lt_of_cell? _ _ q0
        replace i1 := i1.ext Lw4
        replace i2 := i2.ext Lw4
        have s_w4 : w.heap.size ≤ w4.heap.size := Xw4.size
        clear xw4
        have hl1 := ints_len j1
        have hl2 := ints_len j2
        clear j1 j2
        replace o1 := o1.lower (show w.heap.size + 2 ≤ _ by omega)
        replace o2 := o2.lower (show w.heap.size + 2 ≤ _ by omega)
        obtain ⟨p1, n1, r1, rfl⟩ := o1.form
        obtain ⟨p2, n2, r2, rfl⟩ := o2.form
        clear i1 i2
        refine hK.out _ _ ⟨va0, va1, va2⟩ (fun hHeld => ?_)
        clear hK K
        try simp only [Act.put, List.setIfInBounds_toArray, List.set_cons_zero, List.set_cons_succ, List.getElem_toArray, List.getElem_cons_succ, List.getElem_cons_zero]
        refine wpTail_take (i := 12) (v := ?_) rfl (by kernel_rfl) (by kernel_rfl) (by kernel_rfl) rfl (by kernel_rfl) (fun _ _ _ h => h) (Or.inl ⟨by rfl, ?_⟩) (by assumption) ?_
        rotate_left
        · (intro w hSw; (try dsimp only at hSw); go_simp; try with_reducible rfl)
        try simp only [Act.put, List.setIfInBounds_toArray, List.set_cons_zero, List.set_cons_succ, List.getElem_toArray, List.getElem_cons_succ, List.getElem_cons_zero]
        refine wpTail_take (i := 13) (v := ?_) rfl (by kernel_rfl) (by kernel_rfl) (by kernel_rfl) rfl (by kernel_rfl) (fun _ _ _ h => h) (Or.inl ⟨by rfl, ?_⟩) (by assumption) ?_
        rotate_left
        · (intro w hSw; (try dsimp only at hSw); go_simp; try with_reducible rfl)
        try simp only [Act.put, List.setIfInBounds_toArray, List.set_cons_zero, List.set_cons_succ, List.getElem_toArray, List.getElem_cons_succ, List.getElem_cons_zero]
        refine wpTail_last (i := 14) (by kernel_rfl) rfl rfl (fun K hK => ?_)
        try simp only [Act.put, List.setIfInBounds_toArray, List.set_cons_zero, List.set_cons_succ, List.getElem_toArray, List.getElem_cons_succ, List.getElem_cons_zero]
        go_simp
        refine hK.out _ _ ?_
        clear hK K
        try simp only [Act.put, List.setIfInBounds_toArray, List.set_cons_zero, List.set_cons_succ, List.getElem_toArray, List.getElem_cons_succ, List.getElem_cons_zero]
        refine wpTail_last (i := 15) (by kernel_rfl) rfl rfl (fun K hK => ?_)
        try simp only [Act.put, List.setIfInBounds_toArray, List.set_cons_zero, List.set_cons_succ, List.getElem_toArray, List.getElem_cons_succ, List.getElem_cons_zero]
        go_simp
        refine hK.out _ _ ?_
        clear hK K
        try simp only [Act.put, List.setIfInBounds_toArray, List.set_cons_zero, List.set_cons_succ, List.getElem_toArray, List.getElem_cons_succ, List.getElem_cons_zero]
        refine wpTail_done (by kernel_rfl) ?_ _
        clear hHeld
        have Kw5 : Chg (w.heap.size + 1) (w.heap.size + 1 + 1) w4 (((w4.setCell ⟨w.heap.size + 1, 0, none⟩ (.int .i64 mb)).setCell ⟨w.heap.size + 1, 1, none⟩ (.slice p1 n1 r1)).setCell ⟨w.heap.size + 1, 2, none⟩ (.slice p2 n2 r2)) := (Chg.setCell (p := ⟨w.heap.size + 1, 2, none⟩) (Chg.setCell (p := ⟨w.heap.size + 1, 1, none⟩) (Chg.setCell (p := ⟨w.heap.size + 1, 0, none⟩) (Chg.refl (w.heap.size + 1) (w.heap.size + 1 + 1) _) (Nat.le_refl _) (Nat.lt_succ_self _) (.int .i64 mb)) (Nat.le_refl _) (Nat.lt_succ_self _) (.slice p1 n1 r1)) (Nat.le_refl _) (Nat.lt_succ_self _) (.slice p2 n2 r2))
        have Xw5 : Ext w (((w4.setCell ⟨w.heap.size + 1, 0, none⟩ (.int .i64 mb)).setCell ⟨w.heap.size + 1, 1, none⟩ (.slice p1 n1 r1)).setCell ⟨w.heap.size + 1, 2, none⟩ (.slice p2 n2 r2)) := (Ext.setCell (p := ⟨w.heap.size + 1, 2, none⟩) (Ext.setCell (p := ⟨w.heap.size + 1, 1, none⟩) (Ext.setCell (p := ⟨w.heap.size + 1, 0, none⟩) Xw4 (by first | (simp; done) | (simp; omega) | omega) (.int .i64 mb)) (by first | (simp; done) | (simp; omega) | omega) (.slice p1 n1 r1)) (by first | (simp; done) | (simp; omega) | omega) (.slice p2 n2 r2))
        replace va0 := Kw5.cell (by omega) va0
        replace va1 := Kw5.cell (by omega) va1
        replace va2 := Kw5.cell (by omega) va2
        have n_q0 : (((w4.setCell ⟨w.heap.size + 1, 0, none⟩ (.int .i64 mb)).setCell ⟨w.heap.size + 1, 1, none⟩ (.slice p1 n1 r1)).setCell ⟨w.heap.size + 1, 2, none⟩ (.slice p2 n2 r2)).cell? ⟨w.heap.size + 1, 0, none⟩ = some (.int .i64 mb) := by go_simp
        have n_f_q0 : (((w4.setCell ⟨w.heap.size + 1, 0, none⟩ (.int .i64 mb)).setCell ⟨w.heap.size + 1, 1, none⟩ (.slice p1 n1 r1)).setCell ⟨w.heap.size + 1, 2, none⟩ (.slice p2 n2 r2)).frozen? ⟨w.heap.size + 1, 0, none⟩ = false := by go_simp
        have n_q1 : (((w4.setCell ⟨w.heap.size + 1, 0, none⟩ (.int .i64 mb)).setCell ⟨w.heap.size + 1, 1, none⟩ (.slice p1 n1 r1)).setCell ⟨w.heap.size + 1, 2, none⟩ (.slice p2 n2 r2)).cell? ⟨w.heap.size + 1, 1, none⟩ = some (.slice p1 n1 r1) := by go_simp
        have n_f_q1 : (((w4.setCell ⟨w.heap.size + 1, 0, none⟩ (.int .i64 mb)).setCell ⟨w.heap.size + 1, 1, none⟩ (.slice p1 n1 r1)).setCell ⟨w.heap.size + 1, 2, none⟩ (.slice p2 n2 r2)).frozen? ⟨w.heap.size + 1, 1, none⟩ = false := by go_simp
        have n_q2 : (((w4.setCell ⟨w.heap.size + 1, 0, none⟩ (.int .i64 mb)).setCell ⟨w.heap.size + 1, 1, none⟩ (.slice p1 n1 r1)).setCell ⟨w.heap.size + 1, 2, none⟩ (.slice p2 n2 r2)).cell? ⟨w.heap.size + 1, 2, none⟩ = some (.slice p2 n2 r2) := by go_simp
        have n_f_q2 : (((w4.setCell ⟨w.heap.size + 1, 0, none⟩ (.int .i64 mb)).setCell ⟨w.heap.size + 1, 1, none⟩ (.slice p1 n1 r1)).setCell ⟨w.heap.size + 1, 2, none⟩ (.slice p2 n2 r2)).frozen? ⟨w.heap.size + 1, 2, none⟩ = false := by go_simp
        replace q0 := n_q0
        clear n_q0
        replace f_q0 := n_f_q0
        clear n_f_q0
        replace q1 := n_q1
        clear n_q1
        replace f_q1 := n_f_q1
        clear n_f_q1
        replace q2 := n_q2
        clear n_q2
        replace f_q2 := n_f_q2
        clear n_f_q2
        replace o1 := o1.chg Kw5 (by omega)
        replace o2 := o2.chg Kw5 (by omega)
        clear Kw5
        have z_va : w.heap.size < (((w4.setCell ⟨w.heap.size + 1, 0, none⟩ (.int .i64 mb)).setCell ⟨w.heap.size + 1, 1, none⟩ (.slice p1 n1 r1)).setCell ⟨w.heap.size + 1, 2, none⟩ (.slice p2 n2 r2)).heap.size := World.block_lt_of_cell? _ _ va0
        have z_q : w.heap.size + 1 < (((w4.setCell ⟨w.heap.size + 1, 0, none⟩ (.int .i64 mb)).setCell ⟨w.heap.size + 1, 1, none⟩ (.slice p1 n1 r1)).setCell ⟨w.heap.size + 1, 2, none⟩ (.slice p2 n2 r2)).heap.size := World.block_lt_of_cell? _ _ q0
        have s_w5 : w.heap.size ≤ (((w4.setCell ⟨w.heap.size + 1, 0, none⟩ (.int .i64 mb)).setCell ⟨w.heap.size + 1, 1, none⟩ (.slice p1 n1 r1)).setCell ⟨w.heap.size + 1, 2, none⟩ (.slice p2 n2 r2)).heap.size := Xw5.size
        generalize (((w4.setCell ⟨w.heap.size + 1, 0, none⟩ (.int .i64 mb)).setCell ⟨w.heap.size + 1, 1, none⟩ (.slice p1 n1 r1)).setCell ⟨w.heap.size + 1, 2, none⟩ (.slice p2 n2 r2)) = w5 at *
        go_wp2_with fail
        refine bodyPost_ret (v := .tuple #[.agg #[.int .i64 mb, .slice p1 n1 r1, .slice p2 n2 r2], .bool mk]) (by simp only [results, Try.results37]; go_simp) rfl ?_
        exact PVB.any (hr0.out.trans hr.out) (o1.lower (by omega)) (o2.lower (by omega)) od hl1 hl2 Xw5


end Go.Proofs.Ytonnnjaooifpjaa

/- Words for walks: an owned row with one element more. No condition. -/
namespace Go.Proofs.Ytonnnjaooifpjaa
open Go.RowKit
set_option linter.unusedVariables false
set_option maxRecDepth 100000

theorem OwnI.row2 {w : World} {base : Nat} {v : Value} {xs : List Int} (h : OwnI w base v xs) (hn : xs ≠ []) : ∃ g n c, v = .slice (some ⟨g, 0, none⟩) n c ∧ Hid (n = xs.length) ∧ base ≤ g ∧ g < w.heap.size := by
  obtain ⟨g, c, rfl, h1, h2⟩ := h.row hn
  exact ⟨g, _, c, rfl, Lib.hid rfl, h1, h2⟩
theorem chg_grownD {w w' : World} {o : Obj} {g : Nat} (hg : (w.drew.alloc o).grownBy w' (some g)) : Chg g (g + 1) w w' :=
  (Chg.of_ext (Ext.drew (Ext.refl w))).trans (chg_grown hg)
theorem own_or {g n c g0 n0 c0 z : Nat} (h : (Value.slice (some ⟨g, 0, none⟩) n c).ownBlock = (Value.slice (some ⟨g0, 0, none⟩) n0 c0).ownBlock ∨ (Value.slice (some ⟨g, 0, none⟩) n c).ownBlock = some z) : g = g0 ∨ g = z := by
  rcases h with h | h
  · left; have : some g = some g0 := h; cases this; rfl
  · right; have : some g = some z := h; cases this; rfl

end Go.Proofs.Ytonnnjaooifpjaa

/- Walks: WindowsOf of the reference. -/
namespace Go.Proofs.Ytonnnjaooifpjaa
open Go.RowKit
set_option linter.unusedVariables false
set_option maxRecDepth 100000

set_option maxHeartbeats 6400000 in
theorem specWindowsOf_c (b1 : Int) (u1 v1 : Value) (s1 t1 : List Int) (d sz : Int) (w : World) (l1 m1 : Nat) (h1 : Ints w l1 u1 s1) (k1 : Ints w m1 v1 t1) (hsz : -1000000 ≤ sz ∧ sz ≤ 1000000) :
    Calls Try.prog 47 #[.agg #[.int .i64 b1, u1, v1], .int .i64 d, .int .i64 sz] w (PVB w (winV b1 s1 t1 d sz)) := by
  have hlen1 := ints_len h1
  have hlen2 := ints_len k1
  obtain ⟨a1, cp1, rfl⟩ := h1.form
  obtain ⟨a2, cp2, rfl⟩ := k1.form
  cases ha : viewB b1 s1 t1
  · have hr : Hid (winV b1 s1 t1 d sz = noV) := Lib.hid (by unfold winV; rw [ha]; rfl)
    replace ha := Lib.hid ha
    go_enter Try.func47, Try.ntmps47
    go_wp2_with fail
    refine (validView_c b1 _ _ s1 t1 _ l1 m1 (h1.ext (by repeat (first | (with_reducible assumption) | (with_reducible refine Ext.setCell ?_ (by first | (simp; done) | (simp; omega) | omega) _) | (with_reducible apply Ext.alloc) | (with_reducible apply Ext.drew) | (with_reducible apply Ext.drewN) | (with_reducible exact Ext.refl _)))) (k1.ext (by repeat (first | (with_reducible assumption) | (with_reducible refine Ext.setCell ?_ (by first | (simp; done) | (simp; omega) | omega) _) | (with_reducible apply Ext.alloc) | (with_reducible apply Ext.drew) | (with_reducible apply Ext.drewN) | (with_reducible exact Ext.refl _))))).mono ?_
    rintro e w1 ⟨rfl, xw1⟩
    have Lw1 : Ext w w1 := Ext.trans (by repeat (first | (with_reducible assumption) | (with_reducible refine Ext.setCell ?_ (by first | (simp; done) | (simp; omega) | omega) _) | (with_reducible apply Ext.alloc) | (with_reducible apply Ext.drew) | (with_reducible apply Ext.drewN) | (with_reducible exact Ext.refl _))) xw1
    have Xw1 : Ext w w1 := Lw1
    have va0 : w1.cell? ⟨w.heap.size, 0, none⟩ = some (.int .i64 b1) := xw1.cell (by first | (simp; done) | ((repeat rw [World.cell?_alloc_lt _ _ _ (by simp <;> omega)]); simp; done) | (go_simp; done))
    have va1 : w1.cell? ⟨w.heap.size, 1, none⟩ = some (.slice a1 s1.length cp1) := xw1.cell (by first | (simp; done) | ((repeat rw [World.cell?_alloc_lt _ _ _ (by simp <;> omega)]); simp; done) | (go_simp; done))
    have va2 : w1.cell? ⟨w.heap.size, 2, none⟩ = some (.slice a2 t1.length cp2) := xw1.cell (by first | (simp; done) | ((repeat rw [World.cell?_alloc_lt _ _ _ (by simp <;> omega)]); simp; done) | (go_simp; done))
    have q0 : w1.cell? ⟨w.heap.size + 1, 0, none⟩ = some (.int .i64 0) := xw1.cell (by first | (simp; done) | ((repeat rw [World.cell?_alloc_lt _ _ _ (by simp <;> omega)]); simp; done) | (go_simp; done))
    have q1 : w1.cell? ⟨w.heap.size + 1, 1, none⟩ = some (.slice none 0 0) := xw1.cell (by first | (simp; done) | ((repeat rw [World.cell?_alloc_lt _ _ _ (by simp <;> omega)]); simp; done) | (go_simp; done))
    have q2 : w1.cell? ⟨w.heap.size + 1, 2, none⟩ = some (.slice none 0 0) := xw1.cell (by first | (simp; done) | ((repeat rw [World.cell?_alloc_lt _ _ _ (by simp <;> omega)]); simp; done) | (go_simp; done))
    have f_q0 : w1.frozen? ⟨w.heap.size + 1, 0, none⟩ = false := xw1.frz (by simp <;> omega) (by first | (simp; done) | (go_simp; done))
    have f_q1 : w1.frozen? ⟨w.heap.size + 1, 1, none⟩ = false := xw1.frz (by simp <;> omega) (by first | (simp; done) | (go_simp; done))
    have f_q2 : w1.frozen? ⟨w.heap.size + 1, 2, none⟩ = false := xw1.frz (by simp <;> omega) (by first | (simp; done) | (go_simp; done))
    have z_va : w.heap.size < w1.heap.size := World.block_lt_of_cell? _ _ va0
    have z_q : w.heap.size + 1 < w1.heap.size := World.block_lt_of_cell? _ _ q0
    have s_w1 : w.heap.size ≤ w1.heap.size := Xw1.size
    clear xw1
    rw [ha.out]
    go_wp2_with fail
    refine bodyPost_ret (v := .tuple #[.agg #[.int .i64 0, .slice none 0 0, .slice none 0 0], .bool false]) (by simp only [results, Try.results47]; go_simp) rfl ?_
    exact PVB.no hr.out (by repeat (first | (with_reducible assumption) | (with_reducible refine Ext.setCell ?_ (by first | (simp; done) | (simp; omega) | omega) _) | (with_reducible apply Ext.alloc) | (with_reducible apply Ext.drew) | (with_reducible apply Ext.drewN) | (with_reducible exact Ext.refl _)))
  · have ht := (viewB_in ha).2.1
    have j4 := (shapeB_in (viewB_in ha).1).1
    have ht4 : t1.length ≤ 4 := by omega
    have j5 := Lib.hid (shapeB_in (viewB_in ha).1).2.1
    cases hb : inB 0 ((s1.length : Int) - 1) d
    · have hr : Hid (winV b1 s1 t1 d sz = noV) := Lib.hid (by unfold winV; rw [ha, hb]; rfl)
      replace ha := Lib.hid ha
      replace hb := Lib.hid hb
      replace ht := Lib.hid ht
      go_enter Try.func47, Try.ntmps47
      go_wp2_with fail
      refine (validView_c b1 _ _ s1 t1 _ l1 m1 (h1.ext (by repeat (first | (with_reducible assumption) | (with_reducible refine Ext.setCell ?_ (by first | (simp; done) | (simp; omega) | omega) _) | (with_reducible apply Ext.alloc) | (with_reducible apply Ext.drew) | (with_reducible apply Ext.drewN) | (with_reducible exact Ext.refl _)))) (k1.ext (by repeat (first | (with_reducible assumption) | (with_reducible refine Ext.setCell ?_ (by first | (simp; done) | (simp; omega) | omega) _) | (with_reducible apply Ext.alloc) | (with_reducible apply Ext.drew) | (with_reducible apply Ext.drewN) | (with_reducible exact Ext.refl _))))).mono ?_
      rintro e w1 ⟨rfl, xw1⟩
      have Lw1 : Ext w w1 := Ext.trans (by repeat (first | (with_reducible assumption) | (with_reducible refine Ext.setCell ?_ (by first | (simp; done) | (simp; omega) | omega) _) | (with_reducible apply Ext.alloc) | (with_reducible apply Ext.drew) | (with_reducible apply Ext.drewN) | (with_reducible exact Ext.refl _))) xw1
      have Xw1 : Ext w w1 := Lw1
      have va0 : w1.cell? ⟨w.heap.size, 0, none⟩ = some (.int .i64 b1) := xw1.cell (by first | (simp; done) | ((repeat rw [World.cell?_alloc_lt _ _ _ (by simp <;> omega)]); simp; done) | (go_simp; done))
      have va1 : w1.cell? ⟨w.heap.size, 1, none⟩ = some (.slice a1 s1.length cp1) := xw1.cell (by first | (simp; done) | ((repeat rw [World.cell?_alloc_lt _ _ _ (by simp <;> omega)]); simp; done) | (go_simp; done))
      have va2 : w1.cell? ⟨w.heap.size, 2, none⟩ = some (.slice a2 t1.length cp2) := xw1.cell (by first | (simp; done) | ((repeat rw [World.cell?_alloc_lt _ _ _ (by simp <;> omega)]); simp; done) | (go_simp; done))
      have q0 : w1.cell? ⟨w.heap.size + 1, 0, none⟩ = some (.int .i64 0) := xw1.cell (by first | (simp; done) | ((repeat rw [World.cell?_alloc_lt _ _ _ (by simp <;> omega)]); simp; done) | (go_simp; done))
      have q1 : w1.cell? ⟨w.heap.size + 1, 1, none⟩ = some (.slice none 0 0) := xw1.cell (by first | (simp; done) | ((repeat rw [World.cell?_alloc_lt _ _ _ (by simp <;> omega)]); simp; done) | (go_simp; done))
      have q2 : w1.cell? ⟨w.heap.size + 1, 2, none⟩ = some (.slice none 0 0) := xw1.cell (by first | (simp; done) | ((repeat rw [World.cell?_alloc_lt _ _ _ (by simp <;> omega)]); simp; done) | (go_simp; done))
      have f_q0 : w1.frozen? ⟨w.heap.size + 1, 0, none⟩ = false := xw1.frz (by simp <;> omega) (by first | (simp; done) | (go_simp; done))
      have f_q1 : w1.frozen? ⟨w.heap.size + 1, 1, none⟩ = false := xw1.frz (by simp <;> omega) (by first | (simp; done) | (go_simp; done))
      have f_q2 : w1.frozen? ⟨w.heap.size + 1, 2, none⟩ = false := xw1.frz (by simp <;> omega) (by first | (simp; done) | (go_simp; done))
      have z_va : w.heap.size < w1.heap.size := World.block_lt_of_cell? _ _ va0
      have z_q : w.heap.size + 1 < w1.heap.size := World.block_lt_of_cell? _ _ q0
      have s_w1 : w.heap.size ≤ w1.heap.size := Xw1.size
      clear xw1
      rw [ha.out]
      go_wp2_with fail
      refine (isDim_c b1 _ _ s1 t1 d _ l1 m1 (h1.ext (Xw1.trans (by repeat (first | (with_reducible assumption) | (with_reducible refine Ext.setCell ?_ (by first | (simp; done) | (simp; omega) | omega) _) | (with_reducible apply Ext.alloc) | (with_reducible apply Ext.drew) | (with_reducible apply Ext.drewN) | (with_reducible exact Ext.refl _))))) (k1.ext (Xw1.trans (by repeat (first | (with_reducible assumption) | (with_reducible refine Ext.setCell ?_ (by first | (simp; done) | (simp; omega) | omega) _) | (with_reducible apply Ext.alloc) | (with_reducible apply Ext.drew) | (with_reducible apply Ext.drewN) | (with_reducible exact Ext.refl _))))) (by omega)).mono ?_
      rintro e w2 ⟨rfl, xw2⟩
      have Lw2 : Ext w1 w2 := Ext.trans (by repeat (first | (with_reducible assumption) | (with_reducible refine Ext.setCell ?_ (by first | (simp; done) | (simp; omega) | omega) _) | (with_reducible apply Ext.alloc) | (with_reducible apply Ext.drew) | (with_reducible apply Ext.drewN) | (with_reducible exact Ext.refl _))) xw2
      have Xw2 : Ext w w2 := Xw1.trans Lw2
      replace va0 := Lw2.cell va0
      replace va1 := Lw2.cell va1
      replace va2 := Lw2.cell va2
      replace q0 := Lw2.cell q0
      replace q1 := Lw2.cell q1
      replace q2 := Lw2.cell q2
      replace f_q0 := Lw2.frz z_q f_q0
      replace f_q1 := Lw2.frz z_q f_q1
      replace f_q2 := Lw2.frz z_q f_q2
      have z_va : w.heap.size < w2.heap.size := World.block_lt_of_cell? _ _ va0
      have z_q : w.heap.size + 1 < w2.heap.size := World.block_lt_of_cell? _ _ q0
      have s_w2 : w.heap.size ≤ w2.heap.size := Xw2.size
      clear xw2
      rw [hb.out]
      go_wp2_with fail
      refine bodyPost_ret (v := .tuple #[.agg #[.int .i64 0, .slice none 0 0, .slice none 0 0], .bool false]) (by simp only [results, Try.results47]; go_simp) rfl ?_
      exact PVB.no hr.out (by repeat (first | (with_reducible assumption) | (with_reducible refine Ext.setCell ?_ (by first | (simp; done) | (simp; omega) | omega) _) | (with_reducible apply Ext.alloc) | (with_reducible apply Ext.drew) | (with_reducible apply Ext.drewN) | (with_reducible exact Ext.refl _)))
    · have hd : 0 ≤ d ∧ d < s1.length := by simp [inB] at hb; omega
      obtain ⟨n, rfl⟩ : ∃ n : Nat, d = n := ⟨d.toNat, by omega⟩
      have hd1 : n < s1.length := by omega
      have hd2 : n < t1.length := by omega
      have hI1 : (n : Int) < s1.length := by omega
      have hI2 : (n : Int) < t1.length := by omega
      have he := j5.out _ (getD_mem hd1)
      have hne1 : s1 ≠ [] := fun h => by rw [h] at hd1; simp at hd1
      have hne2 : t1 ≠ [] := fun h => by rw [h] at hd2; simp at hd2
      cases hc : inB 1 (s1.getD n 0) sz
      · have hr : Hid (winV b1 s1 t1 n sz = noV) := Lib.hid (by unfold winV; rw [ha, hb, Int.toNat_natCast, hc]; rfl)
        replace ha := Lib.hid ha
        replace hb := Lib.hid hb
        replace hc := Lib.hid hc
        replace ht := Lib.hid ht
        obtain ⟨bs, os, rfl, ea0⟩ := h1.at n hd1
        have y_ea : bs < w.heap.size := World.block_lt_of_cell? _ _ ea0
        have z_ea := y_ea
        generalize hge : s1.getD n 0 = e at *
        replace hge := Lib.hid hge
        go_enter Try.func47, Try.ntmps47
        go_wp2_with fail
        refine (validView_c b1 _ _ s1 t1 _ l1 m1 (h1.ext (by repeat (first | (with_reducible assumption) | (with_reducible refine Ext.setCell ?_ (by first | (simp; done) | (simp; omega) | omega) _) | (with_reducible apply Ext.alloc) | (with_reducible apply Ext.drew) | (with_reducible apply Ext.drewN) | (with_reducible exact Ext.refl _)))) (k1.ext (by repeat (first | (with_reducible assumption) | (with_reducible refine Ext.setCell ?_ (by first | (simp; done) | (simp; omega) | omega) _) | (with_reducible apply Ext.alloc) | (with_reducible apply Ext.drew) | (with_reducible apply Ext.drewN) | (with_reducible exact Ext.refl _))))).mono ?_
        rintro e w1 ⟨rfl, xw1⟩
        have Lw1 : Ext w w1 := Ext.trans (by repeat (first | (with_reducible assumption) | (with_reducible refine Ext.setCell ?_ (by first | (simp; done) | (simp; omega) | omega) _) | (with_reducible apply Ext.alloc) | (with_reducible apply Ext.drew) | (with_reducible apply Ext.drewN) | (with_reducible exact Ext.refl _))) xw1
        have Xw1 : Ext w w1 := Lw1
        replace ea0 := Lw1.cell ea0
        have va0 : w1.cell? ⟨w.heap.size, 0, none⟩ = some (.int .i64 b1) := xw1.cell (by first | (simp; done) | ((repeat rw [World.cell?_alloc_lt _ _ _ (by simp <;> omega)]); simp; done) | (go_simp; done))
        have va1 : w1.cell? ⟨w.heap.size, 1, none⟩ = some (.slice (some ⟨bs, os, none⟩) s1.length cp1) := xw1.cell (by first | (simp; done) | ((repeat rw [World.cell?_alloc_lt _ _ _ (by simp <;> omega)]); simp; done) | (go_simp; done))
        have va2 : w1.cell? ⟨w.heap.size, 2, none⟩ = some (.slice a2 t1.length cp2) := xw1.cell (by first | (simp; done) | ((repeat rw [World.cell?_alloc_lt _ _ _ (by simp <;> omega)]); simp; done) | (go_simp; done))
        have q0 : w1.cell? ⟨w.heap.size + 1, 0, none⟩ = some (.int .i64 0) := xw1.cell (by first | (simp; done) | ((repeat rw [World.cell?_alloc_lt _ _ _ (by simp <;> omega)]); simp; done) | (go_simp; done))
        have q1 : w1.cell? ⟨w.heap.size + 1, 1, none⟩ = some (.slice none 0 0) := xw1.cell (by first | (simp; done) | ((repeat rw [World.cell?_alloc_lt _ _ _ (by simp <;> omega)]); simp; done) | (go_simp; done))
        have q2 : w1.cell? ⟨w.heap.size + 1, 2, none⟩ = some (.slice none 0 0) := xw1.cell (by first | (simp; done) | ((repeat rw [World.cell?_alloc_lt _ _ _ (by simp <;> omega)]); simp; done) | (go_simp; done))
        have f_q0 : w1.frozen? ⟨w.heap.size + 1, 0, none⟩ = false := xw1.frz (by simp <;> omega) (by first | (simp; done) | (go_simp; done))
        have f_q1 : w1.frozen? ⟨w.heap.size + 1, 1, none⟩ = false := xw1.frz (by simp <;> omega) (by first | (simp; done) | (go_simp; done))
        have f_q2 : w1.frozen? ⟨w.heap.size + 1, 2, none⟩ = false := xw1.frz (by simp <;> omega) (by first | (simp; done) | (go_simp; done))
        have z_ea : bs < w1.heap.size := World.block_lt_of_cell? _ _ ea0
        have z_va : w.heap.size < w1.heap.size := World.block_lt_of_cell? _ _ va0
        have z_q : w.heap.size + 1 < w1.heap.size := World.block_lt_of_cell? _ _ q0
        have s_w1 : w.heap.size ≤ w1.heap.size := Xw1.size
        clear xw1
        rw [ha.out]
        go_wp2_with fail
        refine (isDim_c b1 _ _ s1 t1 n _ l1 m1 (h1.ext (Xw1.trans (by repeat (first | (with_reducible assumption) | (with_reducible refine Ext.setCell ?_ (by first | (simp; done) | (simp; omega) | omega) _) | (with_reducible apply Ext.alloc) | (with_reducible apply Ext.drew) | (with_reducible apply Ext.drewN) | (with_reducible exact Ext.refl _))))) (k1.ext (Xw1.trans (by repeat (first | (with_reducible assumption) | (with_reducible refine Ext.setCell ?_ (by first | (simp; done) | (simp; omega) | omega) _) | (with_reducible apply Ext.alloc) | (with_reducible apply Ext.drew) | (with_reducible apply Ext.drewN) | (with_reducible exact Ext.refl _))))) (by omega)).mono ?_
        rintro e w2 ⟨rfl, xw2⟩
        have Lw2 : Ext w1 w2 := Ext.trans (by repeat (first | (with_reducible assumption) | (with_reducible refine Ext.setCell ?_ (by first | (simp; done) | (simp; omega) | omega) _) | (with_reducible apply Ext.alloc) | (with_reducible apply Ext.drew) | (with_reducible apply Ext.drewN) | (with_reducible exact Ext.refl _))) xw2
        have Xw2 : Ext w w2 := Xw1.trans Lw2
        replace ea0 := Lw2.cell ea0
        replace va0 := Lw2.cell va0
        replace va1 := Lw2.cell va1
        replace va2 := Lw2.cell va2
        replace q0 := Lw2.cell q0
        replace q1 := Lw2.cell q1
        replace q2 := Lw2.cell q2
        replace f_q0 := Lw2.frz z_q f_q0
        replace f_q1 := Lw2.frz z_q f_q1
        replace f_q2 := Lw2.frz z_q f_q2
        have z_ea : bs < w2.heap.size := World.block_lt_of_cell? _ _ ea0
        have z_va : w.heap.size < w2.heap.size := World.block_lt_of_cell? _ _ va0
        have z_q : w.heap.size + 1 < w2.heap.size := World.block_lt_of_cell? _ _ q0
        have s_w2 : w.heap.size ≤ w2.heap.size := Xw2.size
        clear xw2
        rw [hb.out]
        go_wp2_with fail
        refine (inRange_c sz 1 e _).mono ?_
        rintro e w' ⟨rfl, rfl⟩
        rw [hc.out]
        go_wp2_with fail
        refine bodyPost_ret (v := .tuple #[.agg #[.int .i64 0, .slice none 0 0, .slice none 0 0], .bool false]) (by simp only [results, Try.results47]; go_simp) rfl ?_
        exact PVB.no hr.out (by repeat (first | (with_reducible assumption) | (with_reducible refine Ext.setCell ?_ (by first | (simp; done) | (simp; omega) | omega) _) | (with_reducible apply Ext.alloc) | (with_reducible apply Ext.drew) | (with_reducible apply Ext.drewN) | (with_reducible exact Ext.refl _)))
      · have hr0 : Hid (winV b1 s1 t1 n sz = madeV b1 (s1.set n (s1.getD n 0 - sz + 1) ++ [sz]) (t1 ++ [t1.getD n 0])) := Lib.hid (by unfold winV; rw [ha, hb, Int.toNat_natCast, hc]; rfl)
        obtain ⟨x, hr⟩ : ∃ x, madeV b1 (s1.set n (s1.getD n 0 - sz + 1) ++ [sz]) (t1 ++ [t1.getD n 0]) = x := ⟨_, rfl⟩
        obtain ⟨mb, ms, mt, mk⟩ := x
        have hmd : ∀ (W : World) (x1 x2 : Value) (l m : Nat), Ints W l x1 (s1.set n (s1.getD n 0 - sz + 1) ++ [sz]) → Ints W m x2 (t1 ++ [t1.getD n 0]) → Calls Try.prog 97 #[.agg #[.int .i64 b1, x1, x2]] W (PVB W (madeV b1 (s1.set n (s1.getD n 0 - sz + 1) ++ [sz]) (t1 ++ [t1.getD n 0]))) := fun W x1 x2 l m i j => made_c _ _ _ _ _ W l m i j
        rw [hr] at hmd
        replace hmd := Lib.hid hmd
        replace hr := Lib.hid hr
        have hsz1 : 1 ≤ sz ∧ sz ≤ s1.getD n 0 := by unfold inB at hc; exact of_decide_eq_true hc
        replace ha := Lib.hid ha
        replace hb := Lib.hid hb
        replace hc := Lib.hid hc
        replace ht := Lib.hid ht
        obtain ⟨bs, os, rfl, ea0⟩ := h1.at n hd1
        have y_ea : bs < w.heap.size := World.block_lt_of_cell? _ _ ea0
        have z_ea := y_ea
        obtain ⟨bt, ot, rfl, eb0⟩ := k1.at n hd2
        have y_eb : bt < w.heap.size := World.block_lt_of_cell? _ _ eb0
        have z_eb := y_eb
        generalize hge : s1.getD n 0 = e at *
        replace hge := Lib.hid hge
        generalize hgx : t1.getD n 0 = x at *
        replace hgx := Lib.hid hgx
        go_enter Try.func47, Try.ntmps47
        go_wp2_with fail
        refine (validView_c b1 _ _ s1 t1 _ l1 m1 (h1.ext (by repeat (first | (with_reducible assumption) | (with_reducible refine Ext.setCell ?_ (by first | (simp; done) | (simp; omega) | omega) _) | (with_reducible apply Ext.alloc) | (with_reducible apply Ext.drew) | (with_reducible apply Ext.drewN) | (with_reducible exact Ext.refl _)))) (k1.ext (by repeat (first | (with_reducible assumption) | (with_reducible refine Ext.setCell ?_ (by first | (simp; done) | (simp; omega) | omega) _) | (with_reducible apply Ext.alloc) | (with_reducible apply Ext.drew) | (with_reducible apply Ext.drewN) | (with_reducible exact Ext.refl _))))).mono ?_
        rintro e w1 ⟨rfl, xw1⟩
        have Lw1 : Ext w w1 := Ext.trans (by repeat (first | (with_reducible assumption) | (with_reducible refine Ext.setCell ?_ (by first | (simp; done) | (simp; omega) | omega) _) | (with_reducible apply Ext.alloc) | (with_reducible apply Ext.drew) | (with_reducible apply Ext.drewN) | (with_reducible exact Ext.refl _))) xw1
        have Xw1 : Ext w w1 := Lw1
        replace ea0 := Lw1.cell ea0
        replace eb0 := Lw1.cell eb0
        have va0 : w1.cell? ⟨w.heap.size, 0, none⟩ = some (.int .i64 b1) := xw1.cell (by first | (simp; done) | ((repeat rw [World.cell?_alloc_lt _ _ _ (by simp <;> omega)]); simp; done) | (go_simp; done))
        have va1 : w1.cell? ⟨w.heap.size, 1, none⟩ = some (.slice (some ⟨bs, os, none⟩) s1.length cp1) := xw1.cell (by first | (simp; done) | ((repeat rw [World.cell?_alloc_lt _ _ _ (by simp <;> omega)]); simp; done) | (go_simp; done))
        have va2 : w1.cell? ⟨w.heap.size, 2, none⟩ = some (.slice (some ⟨bt, ot, none⟩) t1.length cp2) := xw1.cell (by first | (simp; done) | ((repeat rw [World.cell?_alloc_lt _ _ _ (by simp <;> omega)]); simp; done) | (go_simp; done))
        have q0 : w1.cell? ⟨w.heap.size + 1, 0, none⟩ = some (.int .i64 0) := xw1.cell (by first | (simp; done) | ((repeat rw [World.cell?_alloc_lt _ _ _ (by simp <;> omega)]); simp; done) | (go_simp; done))
        have q1 : w1.cell? ⟨w.heap.size + 1, 1, none⟩ = some (.slice none 0 0) := xw1.cell (by first | (simp; done) | ((repeat rw [World.cell?_alloc_lt _ _ _ (by simp <;> omega)]); simp; done) | (go_simp; done))
        have q2 : w1.cell? ⟨w.heap.size + 1, 2, none⟩ = some (.slice none 0 0) := xw1.cell (by first | (simp; done) | ((repeat rw [World.cell?_alloc_lt _ _ _ (by simp <;> omega)]); simp; done) | (go_simp; done))
        have f_q0 : w1.frozen? ⟨w.heap.size + 1, 0, none⟩ = false := xw1.frz (by simp <;> omega) (by first | (simp; done) | (go_simp; done))
        have f_q1 : w1.frozen? ⟨w.heap.size + 1, 1, none⟩ = false := xw1.frz (by simp <;> omega) (by first | (simp; done) | (go_simp; done))
        have f_q2 : w1.frozen? ⟨w.heap.size + 1, 2, none⟩ = false := xw1.frz (by simp <;> omega) (by first | (simp; done) | (go_simp; done))
        have z_ea : bs < w1.heap.size := World.block_lt_of_cell? _ _ ea0
        have z_eb : bt < w1.heap.size := World.block_lt_of_cell? _ _ eb0
        have z_va : w.heap.size < w1.heap.size := World.block_lt_of_cell? _ _ va0
        have z_q : w.heap.size + 1 < w1.heap.size := World.block_lt_of_cell? _ _ q0
        have s_w1 : w.heap.size ≤ w1.heap.size := Xw1.size
        clear xw1
        rw [ha.out]
        go_wp2_with fail
        refine (isDim_c b1 _ _ s1 t1 n _ l1 m1 (h1.ext (Xw1.trans (by repeat (first | (with_reducible assumption) | (with_reducible refine Ext.setCell ?_ (by first | (simp; done) | (simp; omega) | omega) _) | (with_reducible apply Ext.alloc) | (with_reducible apply Ext.drew) | (with_reducible apply Ext.drewN) | (with_reducible exact Ext.refl _))))) (k1.ext (Xw1.trans (by repeat (first | (with_reducible assumption) | (with_reducible refine Ext.setCell ?_ (by first | (simp; done) | (simp; omega) | omega) _) | (with_reducible apply Ext.alloc) | (with_reducible apply Ext.drew) | (with_reducible apply Ext.drewN) | (with_reducible exact Ext.refl _))))) (by omega)).mono ?_
        rintro e w2 ⟨rfl, xw2⟩
        have Lw2 : Ext w1 w2 := Ext.trans (by repeat (first | (with_reducible assumption) | (with_reducible refine Ext.setCell ?_ (by first | (simp; done) | (simp; omega) | omega) _) | (with_reducible apply Ext.alloc) | (with_reducible apply Ext.drew) | (with_reducible apply Ext.drewN) | (with_reducible exact Ext.refl _))) xw2
        have Xw2 : Ext w w2 := Xw1.trans Lw2
        replace ea0 := Lw2.cell ea0
        replace eb0 := Lw2.cell eb0
        replace va0 := Lw2.cell va0
        replace va1 := Lw2.cell va1
        replace va2 := Lw2.cell va2
        replace q0 := Lw2.cell q0
        replace q1 := Lw2.cell q1
        replace q2 := Lw2.cell q2
        replace f_q0 := Lw2.frz z_q f_q0
        replace f_q1 := Lw2.frz z_q f_q1
        replace f_q2 := Lw2.frz z_q f_q2
        have z_ea : bs < w2.heap.size := World.block_lt_of_cell? _ _ ea0
        have z_eb : bt < w2.heap.size := World.block_lt_of_cell? _ _ eb0
        have z_va : w.heap.size < w2.heap.size := World.block_lt_of_cell? _ _ va0
        have z_q : w.heap.size + 1 < w2.heap.size := World.block_lt_of_cell? _ _ q0
        have s_w2 : w.heap.size ≤ w2.heap.size := Xw2.size
        clear xw2
        rw [hb.out]
        go_wp2_with fail
        refine (inRange_c sz 1 e _).mono ?_
        rintro e w' ⟨rfl, rfl⟩
        rw [hc.out]
        go_wp2_with fail
        refine (scopyView_c b1 _ _ s1 t1 _ l1 m1 (h1.ext (Xw2.trans (by repeat (first | (with_reducible assumption) | (with_reducible refine Ext.setCell ?_ (by first | (simp; done) | (simp; omega) | omega) _) | (with_reducible apply Ext.alloc) | (with_reducible apply Ext.drew) | (with_reducible apply Ext.drewN) | (with_reducible exact Ext.refl _))))) (k1.ext (Xw2.trans (by repeat (first | (with_reducible assumption) | (with_reducible refine Ext.setCell ?_ (by first | (simp; done) | (simp; omega) | omega) _) | (with_reducible apply Ext.alloc) | (with_reducible apply Ext.drew) | (with_reducible apply Ext.drewN) | (with_reducible exact Ext.refl _)))))).mono ?_
        rintro e w3 ⟨x1, x2, rfl, -, -, o1, o2, od, xw3⟩
        have Lw3 : Ext w2 w3 := Ext.trans (by repeat (first | (with_reducible assumption) | (with_reducible refine Ext.setCell ?_ (by first | (simp; done) | (simp; omega) | omega) _) | (with_reducible apply Ext.alloc) | (with_reducible apply Ext.drew) | (with_reducible apply Ext.drewN) | (with_reducible exact Ext.refl _))) xw3
        have Xw3 : Ext w w3 := Xw2.trans Lw3
        replace ea0 := Lw3.cell ea0
        replace eb0 := Lw3.cell eb0
        replace va0 := Lw3.cell va0
        replace va1 := Lw3.cell va1
        replace va2 := Lw3.cell va2
        replace q0 := Lw3.cell q0
        replace q1 := Lw3.cell q1
        replace q2 := Lw3.cell q2
        replace f_q0 := Lw3.frz z_q f_q0
        replace f_q1 := Lw3.frz z_q f_q1
        replace f_q2 := Lw3.frz z_q f_q2
        have z_ea : bs < w3.heap.size := World.block_lt_of_cell? _ _ ea0
        have z_eb : bt < w3.heap.size := World.block_lt_of_cell? _ _ eb0
        have z_va : w.heap.size < w3.heap.size := World.block_lt_of_cell? _ _ va0
        have z_q : w.heap.size + 1 < w3.heap.size := World.block_lt_of_cell? _ _ q0
        have s_w3 : w.heap.size ≤ w3.heap.size := Xw3.size
        clear xw3
        have O1 := (o1.ofNe hne1).lower (show w.heap.size + 2 ≤ _ by omega)
        have O2 := (o2.ofNe hne2).lower (show w.heap.size + 2 ≤ _ by omega)
        clear o1 o2
        obtain ⟨g1, r1, rfl, G1, G1'⟩ := O1.row hne1
        obtain ⟨g2, r2, rfl, G2, G2'⟩ := O2.row hne2
        have hgg : g1 ≠ g2 := fun h => od hne1 hne2 (by rw [h]; rfl)
        clear od
        go_wp2_with fail
        have Lw4 : Ext w3 (w3.alloc (.cells #[.int .i64 b1, .slice (some ⟨g1, 0, none⟩) s1.length r1, .slice (some ⟨g2, 0, none⟩) t1.length r2] 25)) := (by repeat (first | (with_reducible assumption) | (with_reducible refine Ext.setCell ?_ (by first | (simp; done) | (simp; omega) | omega) _) | (with_reducible apply Ext.alloc) | (with_reducible apply Ext.drew) | (with_reducible apply Ext.drewN) | (with_reducible exact Ext.refl _)))
        have Xw4 : Ext w (w3.alloc (.cells #[.int .i64 b1, .slice (some ⟨g1, 0, none⟩) s1.length r1, .slice (some ⟨g2, 0, none⟩) t1.length r2] 25)) := Xw3.trans Lw4
        replace ea0 := Lw4.cell ea0
        replace eb0 := Lw4.cell eb0
        replace va0 := Lw4.cell va0
        replace va1 := Lw4.cell va1
        replace va2 := Lw4.cell va2
        replace q0 := Lw4.cell q0
        replace q1 := Lw4.cell q1
        replace q2 := Lw4.cell q2
        replace f_q0 := Lw4.frz z_q f_q0
        replace f_q1 := Lw4.frz z_q f_q1
        replace f_q2 := Lw4.frz z_q f_q2
        have yo0 : (w3.alloc (.cells #[.int .i64 b1, .slice (some ⟨g1, 0, none⟩) s1.length r1, .slice (some ⟨g2, 0, none⟩) t1.length r2] 25)).cell? ⟨w3.heap.size, 0, none⟩ = some (.int .i64 b1) := (by first | (simp; done) | ((repeat rw [World.cell?_alloc_lt _ _ _ (by simp <;> omega)]); simp; done) | (go_simp; done))
        have yo1 : (w3.alloc (.cells #[.int .i64 b1, .slice (some ⟨g1, 0, none⟩) s1.length r1, .slice (some ⟨g2, 0, none⟩) t1.length r2] 25)).cell? ⟨w3.heap.size, 1, none⟩ = some (.slice (some ⟨g1, 0, none⟩) s1.length r1) := (by first | (simp; done) | ((repeat rw [World.cell?_alloc_lt _ _ _ (by simp <;> omega)]); simp; done) | (go_simp; done))
        have yo2 : (w3.alloc (.cells #[.int .i64 b1, .slice (some ⟨g1, 0, none⟩) s1.length r1, .slice (some ⟨g2, 0, none⟩) t1.length r2] 25)).cell? ⟨w3.heap.size, 2, none⟩ = some (.slice (some ⟨g2, 0, none⟩) t1.length r2) := (by first | (simp; done) | ((repeat rw [World.cell?_alloc_lt _ _ _ (by simp <;> omega)]); simp; done) | (go_simp; done))
        have f_yo0 : (w3.alloc (.cells #[.int .i64 b1, .slice (some ⟨g1, 0, none⟩) s1.length r1, .slice (some ⟨g2, 0, none⟩) t1.length r2] 25)).frozen? ⟨w3.heap.size, 0, none⟩ = false := (by first | (simp; done) | (go_simp; done))
        have f_yo1 : (w3.alloc (.cells #[.int .i64 b1, .slice (some ⟨g1, 0, none⟩) s1.length r1, .slice (some ⟨g2, 0, none⟩) t1.length r2] 25)).frozen? ⟨w3.heap.size, 1, none⟩ = false := (by first | (simp; done) | (go_simp; done))
        have f_yo2 : (w3.alloc (.cells #[.int .i64 b1, .slice (some ⟨g1, 0, none⟩) s1.length r1, .slice (some ⟨g2, 0, none⟩) t1.length r2] 25)).frozen? ⟨w3.heap.size, 2, none⟩ = false := (by first | (simp; done) | (go_simp; done))
        have z_ea : bs < (w3.alloc (.cells #[.int .i64 b1, .slice (some ⟨g1, 0, none⟩) s1.length r1, .slice (some ⟨g2, 0, none⟩) t1.length r2] 25)).heap.size := World.block_lt_of_cell? _ _ ea0
        have z_eb : bt < (w3.alloc (.cells #[.int .i64 b1, .slice (some ⟨g1, 0, none⟩) s1.length r1, .slice (some ⟨g2, 0, none⟩) t1.length r2] 25)).heap.size := World.block_lt_of_cell? _ _ eb0
        have z_va : w.heap.size < (w3.alloc (.cells #[.int .i64 b1, .slice (some ⟨g1, 0, none⟩) s1.length r1, .slice (some ⟨g2, 0, none⟩) t1.length r2] 25)).heap.size := World.block_lt_of_cell? _ _ va0
        have z_q : w.heap.size + 1 < (w3.alloc (.cells #[.int .i64 b1, .slice (some ⟨g1, 0, none⟩) s1.length r1, .slice (some ⟨g2, 0, none⟩) t1.length r2] 25)).heap.size := World.block_lt_of_cell? _ _ q0
        have z_yo : w3.heap.size < (w3.alloc (.cells #[.int .i64 b1, .slice (some ⟨g1, 0, none⟩) s1.length r1, .slice (some ⟨g2, 0, none⟩) t1.length r2] 25)).heap.size := World.block_lt_of_cell? _ _ yo0
        replace O1 := O1.ext Lw4
        replace O2 := O2.ext Lw4
        have s_w4 : w.heap.size ≤ (w3.alloc (.cells #[.int .i64 b1, .slice (some ⟨g1, 0, none⟩) s1.length r1, .slice (some ⟨g2, 0, none⟩) t1.length r2] 25)).heap.size := Xw4.size
        generalize w3.alloc (.cells #[.int .i64 b1, .slice (some ⟨g1, 0, none⟩) s1.length r1, .slice (some ⟨g2, 0, none⟩) t1.length r2] 25) = w4 at *
        have A1 := O1.cell n hd1
        obtain ⟨A1a, A1b⟩ := A1
        have hw0 : IntKind.i64.wrap (e - sz) = e - sz := IntWalk.i64_in _ (by omega)
        have hw1 : IntKind.i64.wrap (e - sz + 1) = e - sz + 1 := IntWalk.i64_in _ (by omega)
        refine wp_region_tail (S := fun w' => w'.cell? ⟨bs, os + n, none⟩ = some (.int .i64 e) ∧ w'.cell? ⟨w.heap.size, 1, none⟩ = some (.slice (some ⟨bs, os, none⟩) s1.length cp1) ∧ w'.cell? ⟨w3.heap.size, 1, none⟩ = some (.slice (some ⟨g1, 0, none⟩) s1.length r1)) (fun i => decide (12 ≤ i)) (by kernel_rfl) ⟨ea0, va1, yo1⟩ (fun hHeld => ?_)
        refine wpTail_take (i := 0) (v := ?_) rfl (by kernel_rfl) (by kernel_rfl) (by kernel_rfl) rfl (by kernel_rfl) (fun _ _ _ h => h) (Or.inl ⟨by rfl, ?_⟩) (by assumption) ?_
        rotate_left
        · (intro w hSw; (try dsimp only at hSw); go_simp; try with_reducible rfl)
        try simp only [Act.put, List.setIfInBounds_toArray, List.set_cons_zero, List.set_cons_succ, List.getElem_toArray, List.getElem_cons_succ, List.getElem_cons_zero]
        refine wpTail_take (i := 1) (v := ?_) rfl (by kernel_rfl) (by kernel_rfl) (by kernel_rfl) rfl (by kernel_rfl) (fun _ _ _ h => h) (Or.inl ⟨by rfl, ?_⟩) (by assumption) ?_
        rotate_left
        · (intro w hSw; (try dsimp only at hSw); go_simp; try with_reducible rfl)
        try simp only [Act.put, List.setIfInBounds_toArray, List.set_cons_zero, List.set_cons_succ, List.getElem_toArray, List.getElem_cons_succ, List.getElem_cons_zero]
        refine wpTail_take (i := 2) (v := ?_) rfl (by kernel_rfl) (by kernel_rfl) (by kernel_rfl) rfl (by kernel_rfl) (fun _ _ _ h => h) (Or.inl ⟨by rfl, ?_⟩) (by assumption) ?_
        rotate_left
        · (intro w hSw; (try dsimp only at hSw); go_simp; try with_reducible rfl)
        try simp only [Act.put, List.setIfInBounds_toArray, List.set_cons_zero, List.set_cons_succ, List.getElem_toArray, List.getElem_cons_succ, List.getElem_cons_zero]
        refine wpTail_take (i := 3) (v := ?_) rfl (by kernel_rfl) (by kernel_rfl) (by kernel_rfl) rfl (by kernel_rfl) (fun _ _ _ h => h) (Or.inl ⟨by rfl, ?_⟩) (by assumption) ?_
        rotate_left
        · (intro w hSw; (try dsimp only at hSw); go_simp; try with_reducible rfl)
        try simp only [Act.put, List.setIfInBounds_toArray, List.set_cons_zero, List.set_cons_succ, List.getElem_toArray, List.getElem_cons_succ, List.getElem_cons_zero]
        refine wpTail_take (i := 4) (v := ?_) rfl (by kernel_rfl) (by kernel_rfl) (by kernel_rfl) rfl (by kernel_rfl) (fun _ _ _ h => h) (Or.inl ⟨by rfl, ?_⟩) (by assumption) ?_
        rotate_left
        · (intro w hSw; (try dsimp only at hSw); go_simp; try with_reducible rfl)
        try simp only [Act.put, List.setIfInBounds_toArray, List.set_cons_zero, List.set_cons_succ, List.getElem_toArray, List.getElem_cons_succ, List.getElem_cons_zero]
        refine wpTail_take (i := 5) (v := ?_) rfl (by kernel_rfl) (by kernel_rfl) (by kernel_rfl) rfl (by kernel_rfl) (fun _ _ _ h => h) (Or.inl ⟨by rfl, ?_⟩) (by assumption) ?_
        rotate_left
        · (intro w hSw; (try dsimp only at hSw); go_simp; try with_reducible rfl)
        try simp only [Act.put, List.setIfInBounds_toArray, List.set_cons_zero, List.set_cons_succ, List.getElem_toArray, List.getElem_cons_succ, List.getElem_cons_zero]
        refine wpTail_take (i := 6) (v := ?_) rfl (by kernel_rfl) (by kernel_rfl) (by kernel_rfl) rfl (by kernel_rfl) (fun _ _ _ h => h) (Or.inl ⟨by rfl, ?_⟩) (by assumption) ?_
        rotate_left
        · (intro w hSw; (try dsimp only at hSw); go_simp; try with_reducible rfl)
        try simp only [Act.put, List.setIfInBounds_toArray, List.set_cons_zero, List.set_cons_succ, List.getElem_toArray, List.getElem_cons_succ, List.getElem_cons_zero]
        refine wpTail_take (i := 7) (v := ?_) rfl (by kernel_rfl) (by kernel_rfl) (by kernel_rfl) rfl (by kernel_rfl) (fun _ _ _ h => h) (Or.inl ⟨by rfl, ?_⟩) (by assumption) ?_
        rotate_left
        · (intro w hSw; (try dsimp only at hSw); go_simp; try with_reducible rfl)
        try simp only [Act.put, List.setIfInBounds_toArray, List.set_cons_zero, List.set_cons_succ, List.getElem_toArray, List.getElem_cons_succ, List.getElem_cons_zero]
        refine wpTail_take (i := 8) (v := ?_) rfl (by kernel_rfl) (by kernel_rfl) (by kernel_rfl) rfl (by kernel_rfl) (fun _ _ _ h => h) (Or.inl ⟨by rfl, ?_⟩) (by assumption) ?_
        rotate_left
        · (intro w hSw; (try dsimp only at hSw); go_simp; try with_reducible rfl)
        try simp only [Act.put, List.setIfInBounds_toArray, List.set_cons_zero, List.set_cons_succ, List.getElem_toArray, List.getElem_cons_succ, List.getElem_cons_zero]
        refine wpTail_take (i := 9) (v := ?_) rfl (by kernel_rfl) (by kernel_rfl) (by kernel_rfl) rfl (by kernel_rfl) (fun _ _ _ h => h) (Or.inl ⟨by rfl, ?_⟩) (by assumption) ?_
        rotate_left
        · (intro w hSw; (try dsimp only at hSw); go_simp; try with_reducible rfl)
        try simp only [Act.put, List.setIfInBounds_toArray, List.set_cons_zero, List.set_cons_succ, List.getElem_toArray, List.getElem_cons_succ, List.getElem_cons_zero]
        refine wpTail_take (i := 10) (v := ?_) rfl (by kernel_rfl) (by kernel_rfl) (by kernel_rfl) rfl (by kernel_rfl) (fun _ _ _ h => h) (Or.inl ⟨by rfl, ?_⟩) (by assumption) ?_
        rotate_left
        · (intro w hSw; (try dsimp only at hSw); go_simp; try with_reducible rfl)
        try simp only [Act.put, List.setIfInBounds_toArray, List.set_cons_zero, List.set_cons_succ, List.getElem_toArray, List.getElem_cons_succ, List.getElem_cons_zero]
        refine wpTail_take (i := 11) (v := ?_) rfl (by kernel_rfl) (by kernel_rfl) (by kernel_rfl) rfl (by kernel_rfl) (fun _ _ _ h => h) (Or.inl ⟨by rfl, ?_⟩) (by assumption) ?_
        rotate_left
        · (intro w hSw; (try dsimp only at hSw); go_simp; try with_reducible rfl)
        try simp only [Act.put, List.setIfInBounds_toArray, List.set_cons_zero, List.set_cons_succ, List.getElem_toArray, List.getElem_cons_succ, List.getElem_cons_zero]
        refine wpTail_last (i := 12) (by kernel_rfl) rfl rfl (fun K hK => ?_)
        try simp only [Act.put, List.setIfInBounds_toArray, List.set_cons_zero, List.set_cons_succ, List.getElem_toArray, List.getElem_cons_succ, List.getElem_cons_zero]
        go_simp
        refine hK.out _ _ ?_
        clear hK K
        try simp only [Act.put, List.setIfInBounds_toArray, List.set_cons_zero, List.set_cons_succ, List.getElem_toArray, List.getElem_cons_succ, List.getElem_cons_zero]
        refine wpTail_done (by kernel_rfl) ?_ _
        clear hHeld hw0 hw1
        have Kw5 : Chg (g1) (g1 + 1) w4 ((w4.setCell ⟨g1, n, none⟩ (.int .i64 (e - sz + 1))).drew) := ((Chg.setCell (p := ⟨g1, n, none⟩) (Chg.refl (g1) (g1 + 1) _) (Nat.le_refl _) (Nat.lt_succ_self _) (.int .i64 (e - sz + 1))).ext (Ext.drew (Ext.refl _)))
        have Xw5 : Ext w ((w4.setCell ⟨g1, n, none⟩ (.int .i64 (e - sz + 1))).drew) := (Ext.drew (Ext.setCell (p := ⟨g1, n, none⟩) Xw4 (by first | (simp; done) | (simp; omega) | omega) (.int .i64 (e - sz + 1))))
        replace ea0 := Kw5.cell (by omega) ea0
        replace eb0 := Kw5.cell (by omega) eb0
        replace va0 := Kw5.cell (by omega) va0
        replace va1 := Kw5.cell (by omega) va1
        replace va2 := Kw5.cell (by omega) va2
        replace q0 := Kw5.cell (by omega) q0
        replace f_q0 := Kw5.frzO (by omega) z_q f_q0
        replace q1 := Kw5.cell (by omega) q1
        replace f_q1 := Kw5.frzO (by omega) z_q f_q1
        replace q2 := Kw5.cell (by omega) q2
        replace f_q2 := Kw5.frzO (by omega) z_q f_q2
        replace yo0 := Kw5.cell (by omega) yo0
        replace f_yo0 := Kw5.frzO (by omega) z_yo f_yo0
        replace yo1 := Kw5.cell (by omega) yo1
        replace f_yo1 := Kw5.frzO (by omega) z_yo f_yo1
        replace yo2 := Kw5.cell (by omega) yo2
        replace f_yo2 := Kw5.frzO (by omega) z_yo f_yo2
        have n_O1 := O1.setD n (e - sz + 1) (by first | omega | (simp; omega))
        replace O1 := n_O1
        clear n_O1
        replace O2 := O2.chgN Kw5 (by omega)
        clear Kw5
        have z_ea : bs < ((w4.setCell ⟨g1, n, none⟩ (.int .i64 (e - sz + 1))).drew).heap.size := World.block_lt_of_cell? _ _ ea0
        have z_eb : bt < ((w4.setCell ⟨g1, n, none⟩ (.int .i64 (e - sz + 1))).drew).heap.size := World.block_lt_of_cell? _ _ eb0
        have z_va : w.heap.size < ((w4.setCell ⟨g1, n, none⟩ (.int .i64 (e - sz + 1))).drew).heap.size := World.block_lt_of_cell? _ _ va0
        have z_q : w.heap.size + 1 < ((w4.setCell ⟨g1, n, none⟩ (.int .i64 (e - sz + 1))).drew).heap.size := World.block_lt_of_cell? _ _ q0
        have z_yo : w3.heap.size < ((w4.setCell ⟨g1, n, none⟩ (.int .i64 (e - sz + 1))).drew).heap.size := World.block_lt_of_cell? _ _ yo0
        have s_w5 : w.heap.size ≤ ((w4.setCell ⟨g1, n, none⟩ (.int .i64 (e - sz + 1))).drew).heap.size := Xw5.size
        generalize ((w4.setCell ⟨g1, n, none⟩ (.int .i64 (e - sz + 1))).drew) = w5 at *
        clear A1a A1b
        go_wp2_with (
          at_builtin
          refine wpList_app rfl (.tmp 44) (.tmp 46) rfl rfl rfl (O1.ext ((Ext.refl _).alloc _)) (Ints.one _ 0 _ (Nat.zero_le _)) (by simp <;> omega) (by simp <;> omega) ?_
          intro vw6 w6 ho hgr hbl hvb
          obtain ⟨gw6, nw6, cw6, rfl, hnw6, Gw6, Gw6'⟩ := ho.row2 (by simp)
          have Bw6 := own_or hvb
          simp only [World.size_alloc] at Bw6
          have Kw6 : Chg (g1) (g1 + 1) w5 w6 := chg_grown hgr
          have Xw6 : Ext w w6 := Ext.chg (lo := g1) (hi := g1 + 1) Xw5 Kw6 (by omega)
          replace ea0 := Kw6.cell (by omega) ea0
          replace eb0 := Kw6.cell (by omega) eb0
          replace va0 := Kw6.cell (by omega) va0
          replace va1 := Kw6.cell (by omega) va1
          replace va2 := Kw6.cell (by omega) va2
          replace q0 := Kw6.cell (by omega) q0
          replace f_q0 := Kw6.frzO (by omega) z_q f_q0
          replace q1 := Kw6.cell (by omega) q1
          replace f_q1 := Kw6.frzO (by omega) z_q f_q1
          replace q2 := Kw6.cell (by omega) q2
          replace f_q2 := Kw6.frzO (by omega) z_q f_q2
          replace yo0 := Kw6.cell (by omega) yo0
          replace f_yo0 := Kw6.frzO (by omega) z_yo f_yo0
          replace yo1 := Kw6.cell (by omega) yo1
          replace f_yo1 := Kw6.frzO (by omega) z_yo f_yo1
          replace yo2 := Kw6.cell (by omega) yo2
          replace f_yo2 := Kw6.frzO (by omega) z_yo f_yo2
          have z_ea : bs < w6.heap.size := World.block_lt_of_cell? _ _ ea0
          have z_eb : bt < w6.heap.size := World.block_lt_of_cell? _ _ eb0
          have z_va : w.heap.size < w6.heap.size := World.block_lt_of_cell? _ _ va0
          have z_q : w.heap.size + 1 < w6.heap.size := World.block_lt_of_cell? _ _ q0
          have z_yo : w3.heap.size < w6.heap.size := World.block_lt_of_cell? _ _ yo0
          replace O2 := O2.chgN Kw6 (by omega)
          clear O1
          have O1 := ho
          have s_w6 : w.heap.size ≤ w6.heap.size := Xw6.size
          clear ho hgr hbl hvb Kw6)
        have Kw7 : Chg (w3.heap.size) (w3.heap.size + 1) w6 (w6.setCell ⟨w3.heap.size, 1, none⟩ (.slice (some ⟨gw6, 0, none⟩) nw6 cw6)) := (Chg.setCell (p := ⟨w3.heap.size, 1, none⟩) (Chg.refl (w3.heap.size) (w3.heap.size + 1) _) (Nat.le_refl _) (Nat.lt_succ_self _) (.slice (some ⟨gw6, 0, none⟩) nw6 cw6))
        have Xw7 : Ext w (w6.setCell ⟨w3.heap.size, 1, none⟩ (.slice (some ⟨gw6, 0, none⟩) nw6 cw6)) := (Ext.setCell (p := ⟨w3.heap.size, 1, none⟩) Xw6 (by first | (simp; done) | (simp; omega) | omega) (.slice (some ⟨gw6, 0, none⟩) nw6 cw6))
        replace ea0 := Kw7.cell (by omega) ea0
        replace eb0 := Kw7.cell (by omega) eb0
        replace va0 := Kw7.cell (by omega) va0
        replace va1 := Kw7.cell (by omega) va1
        replace va2 := Kw7.cell (by omega) va2
        replace q0 := Kw7.cell (by omega) q0
        replace f_q0 := Kw7.frzO (by omega) z_q f_q0
        replace q1 := Kw7.cell (by omega) q1
        replace f_q1 := Kw7.frzO (by omega) z_q f_q1
        replace q2 := Kw7.cell (by omega) q2
        replace f_q2 := Kw7.frzO (by omega) z_q f_q2
        have n_yo0 : (w6.setCell ⟨w3.heap.size, 1, none⟩ (.slice (some ⟨gw6, 0, none⟩) nw6 cw6)).cell? ⟨w3.heap.size, 0, none⟩ = some (.int .i64 b1) := by go_simp
        have n_f_yo0 : (w6.setCell ⟨w3.heap.size, 1, none⟩ (.slice (some ⟨gw6, 0, none⟩) nw6 cw6)).frozen? ⟨w3.heap.size, 0, none⟩ = false := by go_simp
        have n_yo1 : (w6.setCell ⟨w3.heap.size, 1, none⟩ (.slice (some ⟨gw6, 0, none⟩) nw6 cw6)).cell? ⟨w3.heap.size, 1, none⟩ = some (.slice (some ⟨gw6, 0, none⟩) nw6 cw6) := by go_simp
        have n_f_yo1 : (w6.setCell ⟨w3.heap.size, 1, none⟩ (.slice (some ⟨gw6, 0, none⟩) nw6 cw6)).frozen? ⟨w3.heap.size, 1, none⟩ = false := by go_simp
        have n_yo2 : (w6.setCell ⟨w3.heap.size, 1, none⟩ (.slice (some ⟨gw6, 0, none⟩) nw6 cw6)).cell? ⟨w3.heap.size, 2, none⟩ = some (.slice (some ⟨g2, 0, none⟩) t1.length r2) := by go_simp
        have n_f_yo2 : (w6.setCell ⟨w3.heap.size, 1, none⟩ (.slice (some ⟨gw6, 0, none⟩) nw6 cw6)).frozen? ⟨w3.heap.size, 2, none⟩ = false := by go_simp
        replace yo0 := n_yo0
        clear n_yo0
        replace f_yo0 := n_f_yo0
        clear n_f_yo0
        replace yo1 := n_yo1
        clear n_yo1
        replace f_yo1 := n_f_yo1
        clear n_f_yo1
        replace yo2 := n_yo2
        clear n_yo2
        replace f_yo2 := n_f_yo2
        clear n_f_yo2
        replace O1 := O1.chgN Kw7 (by omega)
        replace O2 := O2.chgN Kw7 (by omega)
        clear Kw7
        have z_ea : bs < (w6.setCell ⟨w3.heap.size, 1, none⟩ (.slice (some ⟨gw6, 0, none⟩) nw6 cw6)).heap.size := World.block_lt_of_cell? _ _ ea0
        have z_eb : bt < (w6.setCell ⟨w3.heap.size, 1, none⟩ (.slice (some ⟨gw6, 0, none⟩) nw6 cw6)).heap.size := World.block_lt_of_cell? _ _ eb0
        have z_va : w.heap.size < (w6.setCell ⟨w3.heap.size, 1, none⟩ (.slice (some ⟨gw6, 0, none⟩) nw6 cw6)).heap.size := World.block_lt_of_cell? _ _ va0
        have z_q : w.heap.size + 1 < (w6.setCell ⟨w3.heap.size, 1, none⟩ (.slice (some ⟨gw6, 0, none⟩) nw6 cw6)).heap.size := World.block_lt_of_cell? _ _ q0
        have z_yo : w3.heap.size < (w6.setCell ⟨w3.heap.size, 1, none⟩ (.slice (some ⟨gw6, 0, none⟩) nw6 cw6)).heap.size := World.block_lt_of_cell? _ _ yo0
        have s_w7 : w.heap.size ≤ (w6.setCell ⟨w3.heap.size, 1, none⟩ (.slice (some ⟨gw6, 0, none⟩) nw6 cw6)).heap.size := Xw7.size
        generalize (w6.setCell ⟨w3.heap.size, 1, none⟩ (.slice (some ⟨gw6, 0, none⟩) nw6 cw6)) = w7 at *
        go_wp2_with fail
        refine wp_region_tail (S := fun w' => w'.cell? ⟨bt, ot + n, none⟩ = some (.int .i64 x) ∧ w'.cell? ⟨w.heap.size, 2, none⟩ = some (.slice (some ⟨bt, ot, none⟩) t1.length cp2) ∧ w'.cell? ⟨w3.heap.size, 2, none⟩ = some (.slice (some ⟨g2, 0, none⟩) t1.length r2)) (fun i => decide (10 ≤ i)) (by kernel_rfl) ⟨eb0, va2, yo2⟩ (fun hHeld => ?_)
        refine wpTail_take (i := 0) (v := ?_) rfl (by kernel_rfl) (by kernel_rfl) (by kernel_rfl) rfl (by kernel_rfl) (fun _ _ _ h => h) (Or.inl ⟨by rfl, ?_⟩) (by assumption) ?_
        rotate_left
        · (intro w hSw; (try dsimp only at hSw); go_simp; try with_reducible rfl)
        try simp only [Act.put, List.setIfInBounds_toArray, List.set_cons_zero, List.set_cons_succ, List.getElem_toArray, List.getElem_cons_succ, List.getElem_cons_zero]
        refine wpTail_take (i := 1) (v := ?_) rfl (by kernel_rfl) (by kernel_rfl) (by kernel_rfl) rfl (by kernel_rfl) (fun _ _ _ h => h) (Or.inl ⟨by rfl, ?_⟩) (by assumption) ?_
        rotate_left
        · (intro w hSw; (try dsimp only at hSw); go_simp; try with_reducible rfl)
        try simp only [Act.put, List.setIfInBounds_toArray, List.set_cons_zero, List.set_cons_succ, List.getElem_toArray, List.getElem_cons_succ, List.getElem_cons_zero]
        refine wpTail_take (i := 2) (v := ?_) rfl (by kernel_rfl) (by kernel_rfl) (by kernel_rfl) rfl (by kernel_rfl) (fun _ _ _ h => h) (Or.inl ⟨by rfl, ?_⟩) (by assumption) ?_
        rotate_left
        · (intro w hSw; (try dsimp only at hSw); go_simp; try with_reducible rfl)
        try simp only [Act.put, List.setIfInBounds_toArray, List.set_cons_zero, List.set_cons_succ, List.getElem_toArray, List.getElem_cons_succ, List.getElem_cons_zero]
        refine wpTail_take (i := 3) (v := ?_) rfl (by kernel_rfl) (by kernel_rfl) (by kernel_rfl) rfl (by kernel_rfl) (fun _ _ _ h => h) (Or.inl ⟨by rfl, ?_⟩) (by assumption) ?_
        rotate_left
        · (intro w hSw; (try dsimp only at hSw); go_simp; try with_reducible rfl)
        try simp only [Act.put, List.setIfInBounds_toArray, List.set_cons_zero, List.set_cons_succ, List.getElem_toArray, List.getElem_cons_succ, List.getElem_cons_zero]
        refine wpTail_take (i := 4) (v := ?_) rfl (by kernel_rfl) (by kernel_rfl) (by kernel_rfl) rfl (by kernel_rfl) (fun _ _ _ h => h) (Or.inl ⟨by rfl, ?_⟩) (by assumption) ?_
        rotate_left
        · (intro w hSw; (try dsimp only at hSw); go_simp; try with_reducible rfl)
        try simp only [Act.put, List.setIfInBounds_toArray, List.set_cons_zero, List.set_cons_succ, List.getElem_toArray, List.getElem_cons_succ, List.getElem_cons_zero]
        refine wpTail_take (i := 5) (v := ?_) rfl (by kernel_rfl) (by kernel_rfl) (by kernel_rfl) rfl (by kernel_rfl) (fun _ _ _ h => h) (Or.inl ⟨by rfl, ?_⟩) (by assumption) ?_
        rotate_left
        · (intro w hSw; (try dsimp only at hSw); go_simp; try with_reducible rfl)
        try simp only [Act.put, List.setIfInBounds_toArray, List.set_cons_zero, List.set_cons_succ, List.getElem_toArray, List.getElem_cons_succ, List.getElem_cons_zero]
        refine wpTail_take (i := 6) (v := ?_) rfl (by kernel_rfl) (by kernel_rfl) (by kernel_rfl) rfl (by kernel_rfl) (fun _ _ _ h => h) (Or.inl ⟨by rfl, ?_⟩) (by assumption) ?_
        rotate_left
        · (intro w hSw; (try dsimp only at hSw); go_simp; try with_reducible rfl)
        try simp only [Act.put, List.setIfInBounds_toArray, List.set_cons_zero, List.set_cons_succ, List.getElem_toArray, List.getElem_cons_succ, List.getElem_cons_zero]
        refine wpTail_one (i := 7) (by kernel_rfl) rfl rfl (fun K hK => ?_)
        try simp only [Act.put, List.setIfInBounds_toArray, List.set_cons_zero, List.set_cons_succ, List.getElem_toArray, List.getElem_cons_succ, List.getElem_cons_zero]
        go_simp
        refine hK.out _ _ ⟨Ext.cell (w := w7) (by repeat (first | (with_reducible assumption) | (with_reducible refine Ext.setCell ?_ (by first | (simp; done) | (simp; omega) | omega) _) | (with_reducible apply Ext.alloc) | (with_reducible apply Ext.drew) | (with_reducible apply Ext.drewN) | (with_reducible exact Ext.refl _))) eb0, Ext.cell (w := w7) (by repeat (first | (with_reducible assumption) | (with_reducible refine Ext.setCell ?_ (by first | (simp; done) | (simp; omega) | omega) _) | (with_reducible apply Ext.alloc) | (with_reducible apply Ext.drew) | (with_reducible apply Ext.drewN) | (with_reducible exact Ext.refl _))) va2, Ext.cell (w := w7) (by repeat (first | (with_reducible assumption) | (with_reducible refine Ext.setCell ?_ (by first | (simp; done) | (simp; omega) | omega) _) | (with_reducible apply Ext.alloc) | (with_reducible apply Ext.drew) | (with_reducible apply Ext.drewN) | (with_reducible exact Ext.refl _))) yo2⟩ (fun hHeld => ?_)
        clear hK K
        try simp only [Act.put, List.setIfInBounds_toArray, List.set_cons_zero, List.set_cons_succ, List.getElem_toArray, List.getElem_cons_succ, List.getElem_cons_zero]
        refine wpTail_one (i := 8) (by kernel_rfl) rfl rfl (fun K hK => ?_)
        have EE : Ext w7 ((w7.drew).alloc (.cells #[.int .i64 (x)] 3)) := (by repeat (first | (with_reducible assumption) | (with_reducible refine Ext.setCell ?_ (by first | (simp; done) | (simp; omega) | omega) _) | (with_reducible apply Ext.alloc) | (with_reducible apply Ext.drew) | (with_reducible apply Ext.drewN) | (with_reducible exact Ext.refl _)))
        have SS : Ints ((w7.drew).alloc (.cells #[.int .i64 (x)] 3)) 0 (.slice (some ⟨w7.heap.size, 0, none⟩) 1 1) [x] := by simpa using Ints.one w7.drew 0 (x) (Nat.zero_le _)
        refine step_app rfl (.tmp 50) (.tmp 56) rfl rfl rfl (by exact O2.ext EE) (by exact SS) (by simp <;> omega) (by simp <;> omega) ?_
        intro vw8 w8 ho hgr hbl hvb
        obtain ⟨gw8, nw8, cw8, rfl, hnw8, Gw8, Gw8'⟩ := ho.row2 (by simp)
        have Bw8 := own_or hvb
        simp only [World.size_alloc, World.size_drew] at Bw8
        have Kw8 : Chg (g2) (g2 + 1) w7 w8 := chg_grownD hgr
        have Xw8 : Ext w w8 := Ext.chg (lo := g2) (hi := g2 + 1) Xw7 Kw8 (by omega)
        replace ea0 := Kw8.cell (by omega) ea0
        replace eb0 := Kw8.cell (by omega) eb0
        replace va0 := Kw8.cell (by omega) va0
        replace va1 := Kw8.cell (by omega) va1
        replace va2 := Kw8.cell (by omega) va2
        replace q0 := Kw8.cell (by omega) q0
        replace f_q0 := Kw8.frzO (by omega) z_q f_q0
        replace q1 := Kw8.cell (by omega) q1
        replace f_q1 := Kw8.frzO (by omega) z_q f_q1
        replace q2 := Kw8.cell (by omega) q2
        replace f_q2 := Kw8.frzO (by omega) z_q f_q2
        replace yo0 := Kw8.cell (by omega) yo0
        replace f_yo0 := Kw8.frzO (by omega) z_yo f_yo0
        replace yo1 := Kw8.cell (by omega) yo1
        replace f_yo1 := Kw8.frzO (by omega) z_yo f_yo1
        replace yo2 := Kw8.cell (by omega) yo2
        replace f_yo2 := Kw8.frzO (by omega) z_yo f_yo2
        have z_ea : bs < w8.heap.size := World.block_lt_of_cell? _ _ ea0
        have z_eb : bt < w8.heap.size := World.block_lt_of_cell? _ _ eb0
        have z_va : w.heap.size < w8.heap.size := World.block_lt_of_cell? _ _ va0
        have z_q : w.heap.size + 1 < w8.heap.size := World.block_lt_of_cell? _ _ q0
        have z_yo : w3.heap.size < w8.heap.size := World.block_lt_of_cell? _ _ yo0
        replace O1 := O1.chgN Kw8 (by omega)
        clear O2
        have O2 := ho
        have s_w8 : w.heap.size ≤ w8.heap.size := Xw8.size
        clear ho hgr hbl hvb Kw8
        clear EE SS
        refine hK.out _ _ ⟨eb0, va2, yo2⟩ (fun hHeld => ?_)
        clear hK K
        try simp only [Act.put, List.setIfInBounds_toArray, List.set_cons_zero, List.set_cons_succ, List.getElem_toArray, List.getElem_cons_succ, List.getElem_cons_zero]
        refine wpTail_take (i := 9) (v := ?_) rfl (by kernel_rfl) (by kernel_rfl) (by kernel_rfl) rfl (by kernel_rfl) (fun _ _ _ h => h) (Or.inl ⟨by rfl, ?_⟩) (by assumption) ?_
        rotate_left
        · (intro w hSw; (try dsimp only at hSw); go_simp; try with_reducible rfl)
        try simp only [Act.put, List.setIfInBounds_toArray, List.set_cons_zero, List.set_cons_succ, List.getElem_toArray, List.getElem_cons_succ, List.getElem_cons_zero]
        refine wpTail_last (i := 10) (by kernel_rfl) rfl rfl (fun K hK => ?_)
        try simp only [Act.put, List.setIfInBounds_toArray, List.set_cons_zero, List.set_cons_succ, List.getElem_toArray, List.getElem_cons_succ, List.getElem_cons_zero]
        go_simp
        refine hK.out _ _ ?_
        clear hK K
        try simp only [Act.put, List.setIfInBounds_toArray, List.set_cons_zero, List.set_cons_succ, List.getElem_toArray, List.getElem_cons_succ, List.getElem_cons_zero]
        refine wpTail_done (by kernel_rfl) ?_ _
        clear hHeld
        have Kw9 : Chg (w3.heap.size) (w3.heap.size + 1) w8 (w8.setCell ⟨w3.heap.size, 2, none⟩ (.slice (some ⟨gw8, 0, none⟩) nw8 cw8)) := (Chg.setCell (p := ⟨w3.heap.size, 2, none⟩) (Chg.refl (w3.heap.size) (w3.heap.size + 1) _) (Nat.le_refl _) (Nat.lt_succ_self _) (.slice (some ⟨gw8, 0, none⟩) nw8 cw8))
        have Xw9 : Ext w (w8.setCell ⟨w3.heap.size, 2, none⟩ (.slice (some ⟨gw8, 0, none⟩) nw8 cw8)) := (Ext.setCell (p := ⟨w3.heap.size, 2, none⟩) Xw8 (by first | (simp; done) | (simp; omega) | omega) (.slice (some ⟨gw8, 0, none⟩) nw8 cw8))
        replace ea0 := Kw9.cell (by omega) ea0
        replace eb0 := Kw9.cell (by omega) eb0
        replace va0 := Kw9.cell (by omega) va0
        replace va1 := Kw9.cell (by omega) va1
        replace va2 := Kw9.cell (by omega) va2
        replace q0 := Kw9.cell (by omega) q0
        replace f_q0 := Kw9.frzO (by omega) z_q f_q0
        replace q1 := Kw9.cell (by omega) q1
        replace f_q1 := Kw9.frzO (by omega) z_q f_q1
        replace q2 := Kw9.cell (by omega) q2
        replace f_q2 := Kw9.frzO (by omega) z_q f_q2
        have n_yo0 : (w8.setCell ⟨w3.heap.size, 2, none⟩ (.slice (some ⟨gw8, 0, none⟩) nw8 cw8)).cell? ⟨w3.heap.size, 0, none⟩ = some (.int .i64 b1) := by go_simp
        have n_f_yo0 : (w8.setCell ⟨w3.heap.size, 2, none⟩ (.slice (some ⟨gw8, 0, none⟩) nw8 cw8)).frozen? ⟨w3.heap.size, 0, none⟩ = false := by go_simp
        have n_yo1 : (w8.setCell ⟨w3.heap.size, 2, none⟩ (.slice (some ⟨gw8, 0, none⟩) nw8 cw8)).cell? ⟨w3.heap.size, 1, none⟩ = some (.slice (some ⟨gw6, 0, none⟩) nw6 cw6) := by go_simp
        have n_f_yo1 : (w8.setCell ⟨w3.heap.size, 2, none⟩ (.slice (some ⟨gw8, 0, none⟩) nw8 cw8)).frozen? ⟨w3.heap.size, 1, none⟩ = false := by go_simp
        have n_yo2 : (w8.setCell ⟨w3.heap.size, 2, none⟩ (.slice (some ⟨gw8, 0, none⟩) nw8 cw8)).cell? ⟨w3.heap.size, 2, none⟩ = some (.slice (some ⟨gw8, 0, none⟩) nw8 cw8) := by go_simp
        have n_f_yo2 : (w8.setCell ⟨w3.heap.size, 2, none⟩ (.slice (some ⟨gw8, 0, none⟩) nw8 cw8)).frozen? ⟨w3.heap.size, 2, none⟩ = false := by go_simp
        replace yo0 := n_yo0
        clear n_yo0
        replace f_yo0 := n_f_yo0
        clear n_f_yo0
        replace yo1 := n_yo1
        clear n_yo1
        replace f_yo1 := n_f_yo1
        clear n_f_yo1
        replace yo2 := n_yo2
        clear n_yo2
        replace f_yo2 := n_f_yo2
        clear n_f_yo2
        replace O1 := O1.chgN Kw9 (by omega)
        replace O2 := O2.chgN Kw9 (by omega)
        clear Kw9
        have z_ea : bs < (w8.setCell ⟨w3.heap.size, 2, none⟩ (.slice (some ⟨gw8, 0, none⟩) nw8 cw8)).heap.size := World.block_lt_of_cell? _ _ ea0
        have z_eb : bt < (w8.setCell ⟨w3.heap.size, 2, none⟩ (.slice (some ⟨gw8, 0, none⟩) nw8 cw8)).heap.size := World.block_lt_of_cell? _ _ eb0
        have z_va : w.heap.size < (w8.setCell ⟨w3.heap.size, 2, none⟩ (.slice (some ⟨gw8, 0, none⟩) nw8 cw8)).heap.size := World.block_lt_of_cell? _ _ va0
        have z_q : w.heap.size + 1 < (w8.setCell ⟨w3.heap.size, 2, none⟩ (.slice (some ⟨gw8, 0, none⟩) nw8 cw8)).heap.size := World.block_lt_of_cell? _ _ q0
        have z_yo : w3.heap.size < (w8.setCell ⟨w3.heap.size, 2, none⟩ (.slice (some ⟨gw8, 0, none⟩) nw8 cw8)).heap.size := World.block_lt_of_cell? _ _ yo0
        have s_w9 : w.heap.size ≤ (w8.setCell ⟨w3.heap.size, 2, none⟩ (.slice (some ⟨gw8, 0, none⟩) nw8 cw8)).heap.size := Xw9.size
        generalize (w8.setCell ⟨w3.heap.size, 2, none⟩ (.slice (some ⟨gw8, 0, none⟩) nw8 cw8)) = w9 at *
        have i1 := O1.ints (by simp <;> omega)
        have i2 := O2.ints (by simp <;> omega)
        clear O1 O2
        go_wp2_with fail
        refine (hmd.out _ _ _ _ _ (i1.ext (by repeat (first | (with_reducible assumption) | (with_reducible refine Ext.setCell ?_ (by first | (simp; done) | (simp; omega) | omega) _) | (with_reducible apply Ext.alloc) | (with_reducible apply Ext.drew) | (with_reducible apply Ext.drewN) | (with_reducible exact Ext.refl _)))) (i2.ext (by repeat (first | (with_reducible assumption) | (with_reducible refine Ext.setCell ?_ (by first | (simp; done) | (simp; omega) | omega) _) | (with_reducible apply Ext.alloc) | (with_reducible apply Ext.drew) | (with_reducible apply Ext.drewN) | (with_reducible exact Ext.refl _))))).mono ?_
        rintro e w10 ⟨y1, y2, rfl, j1, j2, o1, o2, od, xw10⟩
        have Lw10 : Ext w9 w10 := Ext.trans (by repeat (first | (with_reducible assumption) | (with_reducible refine Ext.setCell ?_ (by first | (simp; done) | (simp; omega) | omega) _) | (with_reducible apply Ext.alloc) | (with_reducible apply Ext.drew) | (with_reducible apply Ext.drewN) | (with_reducible exact Ext.refl _))) xw10
        have Xw10 : Ext w w10 := Xw9.trans Lw10
        replace ea0 := Lw10.cell ea0
        replace eb0 := Lw10.cell eb0
        replace va0 := Lw10.cell va0
        replace va1 := Lw10.cell va1
        replace va2 := Lw10.cell va2
        replace q0 := Lw10.cell q0
        replace q1 := Lw10.cell q1
        replace q2 := Lw10.cell q2
        replace f_q0 := Lw10.frz z_q f_q0
        replace f_q1 := Lw10.frz z_q f_q1
        replace f_q2 := Lw10.frz z_q f_q2
        replace yo0 := Lw10.cell yo0
        replace yo1 := Lw10.cell yo1
        replace yo2 := Lw10.cell yo2
        replace f_yo0 := Lw10.frz z_yo f_yo0
        replace f_yo1 := Lw10.frz z_yo f_yo1
        replace f_yo2 := Lw10.frz z_yo f_yo2
        have z_ea : bs < w10.heap.size := World.block_lt_of_cell? _ _ ea0
        have z_eb : bt < w10.heap.size := World.block_lt_of_cell? _ _ eb0
        have z_va : w.heap.size < w10.heap.size := World.block_lt_of_cell? _ _ va0
        have z_q : w.heap.size + 1 < w10.heap.size := World.block_lt_of_cell? _ _ q0
        have z_yo : w3.heap.size < w10.heap.size := World.block_lt_of_cell? _ _ yo0
        have s_w10 : w.heap.size ≤ w10.heap.size := Xw10.size
        clear xw10
        have hl1 := ints_len j1
        have hl2 := ints_len j2
        clear j1 j2
        replace o1 := o1.lower (show w.heap.size + 2 ≤ _ by first | (simp; done) | (simp; omega) | omega)
        replace o2 := o2.lower (show w.heap.size + 2 ≤ _ by first | (simp; done) | (simp; omega) | omega)
        obtain ⟨p1, n1, r1, rfl⟩ := o1.form
        obtain ⟨p2, n2, r2, rfl⟩ := o2.form
        clear i1 i2 hmd
        go_wp2_with fail
        have Kw11 : Chg (w.heap.size + 1) (w.heap.size + 1 + 1) w10 (((w10.setCell ⟨w.heap.size + 1, 0, none⟩ (.int .i64 mb)).setCell ⟨w.heap.size + 1, 1, none⟩ (.slice p1 n1 r1)).setCell ⟨w.heap.size + 1, 2, none⟩ (.slice p2 n2 r2)) := (Chg.setCell (p := ⟨w.heap.size + 1, 2, none⟩) (Chg.setCell (p := ⟨w.heap.size + 1, 1, none⟩) (Chg.setCell (p := ⟨w.heap.size + 1, 0, none⟩) (Chg.refl (w.heap.size + 1) (w.heap.size + 1 + 1) _) (Nat.le_refl _) (Nat.lt_succ_self _) (.int .i64 mb)) (Nat.le_refl _) (Nat.lt_succ_self _) (.slice p1 n1 r1)) (Nat.le_refl _) (Nat.lt_succ_self _) (.slice p2 n2 r2))
        have Xw11 : Ext w (((w10.setCell ⟨w.heap.size + 1, 0, none⟩ (.int .i64 mb)).setCell ⟨w.heap.size + 1, 1, none⟩ (.slice p1 n1 r1)).setCell ⟨w.heap.size + 1, 2, none⟩ (.slice p2 n2 r2)) := (Ext.setCell (p := ⟨w.heap.size + 1, 2, none⟩) (Ext.setCell (p := ⟨w.heap.size + 1, 1, none⟩) (Ext.setCell (p := ⟨w.heap.size + 1, 0, none⟩) Xw10 (by first | (simp; done) | (simp; omega) | omega) (.int .i64 mb)) (by first | (simp; done) | (simp; omega) | omega) (.slice p1 n1 r1)) (by first | (simp; done) | (simp; omega) | omega) (.slice p2 n2 r2))
        replace ea0 := Kw11.cell (by omega) ea0
        replace eb0 := Kw11.cell (by omega) eb0
        replace va0 := Kw11.cell (by omega) va0
        replace va1 := Kw11.cell (by omega) va1
        replace va2 := Kw11.cell (by omega) va2
        have n_q0 : (((w10.setCell ⟨w.heap.size + 1, 0, none⟩ (.int .i64 mb)).setCell ⟨w.heap.size + 1, 1, none⟩ (.slice p1 n1 r1)).setCell ⟨w.heap.size + 1, 2, none⟩ (.slice p2 n2 r2)).cell? ⟨w.heap.size + 1, 0, none⟩ = some (.int .i64 mb) := by go_simp
        have n_f_q0 : (((w10.setCell ⟨w.heap.size + 1, 0, none⟩ (.int .i64 mb)).setCell ⟨w.heap.size + 1, 1, none⟩ (.slice p1 n1 r1)).setCell ⟨w.heap.size + 1, 2, none⟩ (.slice p2 n2 r2)).frozen? ⟨w.heap.size + 1, 0, none⟩ = false := by go_simp
        have n_q1 : (((w10.setCell ⟨w.heap.size + 1, 0, none⟩ (.int .i64 mb)).setCell ⟨w.heap.size + 1, 1, none⟩ (.slice p1 n1 r1)).setCell ⟨w.heap.size + 1, 2, none⟩ (.slice p2 n2 r2)).cell? ⟨w.heap.size + 1, 1, none⟩ = some (.slice p1 n1 r1) := by go_simp
        have n_f_q1 : (((w10.setCell ⟨w.heap.size + 1, 0, none⟩ (.int .i64 mb)).setCell ⟨w.heap.size + 1, 1, none⟩ (.slice p1 n1 r1)).setCell ⟨w.heap.size + 1, 2, none⟩ (.slice p2 n2 r2)).frozen? ⟨w.heap.size + 1, 1, none⟩ = false := by go_simp
        have n_q2 : (((w10.setCell ⟨w.heap.size + 1, 0, none⟩ (.int .i64 mb)).setCell ⟨w.heap.size + 1, 1, none⟩ (.slice p1 n1 r1)).setCell ⟨w.heap.size + 1, 2, none⟩ (.slice p2 n2 r2)).cell? ⟨w.heap.size + 1, 2, none⟩ = some (.slice p2 n2 r2) := by go_simp
        have n_f_q2 : (((w10.setCell ⟨w.heap.size + 1, 0, none⟩ (.int .i64 mb)).setCell ⟨w.heap.size + 1, 1, none⟩ (.slice p1 n1 r1)).setCell ⟨w.heap.size + 1, 2, none⟩ (.slice p2 n2 r2)).frozen? ⟨w.heap.size + 1, 2, none⟩ = false := by go_simp
        replace q0 := n_q0
        clear n_q0
        replace f_q0 := n_f_q0
        clear n_f_q0
        replace q1 := n_q1
        clear n_q1
        replace f_q1 := n_f_q1
        clear n_f_q1
        replace q2 := n_q2
        clear n_q2
        replace f_q2 := n_f_q2
        clear n_f_q2
        replace yo0 := Kw11.cell (by omega) yo0
        replace f_yo0 := Kw11.frzO (by omega) z_yo f_yo0
        replace yo1 := Kw11.cell (by omega) yo1
        replace f_yo1 := Kw11.frzO (by omega) z_yo f_yo1
        replace yo2 := Kw11.cell (by omega) yo2
        replace f_yo2 := Kw11.frzO (by omega) z_yo f_yo2
        replace o1 := o1.chg Kw11 (by omega)
        replace o2 := o2.chg Kw11 (by omega)
        clear Kw11
        have z_ea : bs < (((w10.setCell ⟨w.heap.size + 1, 0, none⟩ (.int .i64 mb)).setCell ⟨w.heap.size + 1, 1, none⟩ (.slice p1 n1 r1)).setCell ⟨w.heap.size + 1, 2, none⟩ (.slice p2 n2 r2)).heap.size := World.block_lt_of_cell? _ _ ea0
        have z_eb : bt < (((w10.setCell ⟨w.heap.size + 1, 0, none⟩ (.int .i64 mb)).setCell ⟨w.heap.size + 1, 1, none⟩ (.slice p1 n1 r1)).setCell ⟨w.heap.size + 1, 2, none⟩ (.slice p2 n2 r2)).heap.size := World.block_lt_of_cell? _ _ eb0
        have z_va : w.heap.size < (((w10.setCell ⟨w.heap.size + 1, 0, none⟩ (.int .i64 mb)).setCell ⟨w.heap.size + 1, 1, none⟩ (.slice p1 n1 r1)).setCell ⟨w.heap.size + 1, 2, none⟩ (.slice p2 n2 r2)).heap.size := World.block_lt_of_cell? _ _ va0
        have z_q : w.heap.size + 1 < (((w10.setCell ⟨w.heap.size + 1, 0, none⟩ (.int .i64 mb)).setCell ⟨w.heap.size + 1, 1, none⟩ (.slice p1 n1 r1)).setCell ⟨w.heap.size + 1, 2, none⟩ (.slice p2 n2 r2)).heap.size := World.block_lt_of_cell? _ _ q0
        have z_yo : w3.heap.size < (((w10.setCell ⟨w.heap.size + 1, 0, none⟩ (.int .i64 mb)).setCell ⟨w.heap.size + 1, 1, none⟩ (.slice p1 n1 r1)).setCell ⟨w.heap.size + 1, 2, none⟩ (.slice p2 n2 r2)).heap.size := World.block_lt_of_cell? _ _ yo0
        have s_w11 : w.heap.size ≤ (((w10.setCell ⟨w.heap.size + 1, 0, none⟩ (.int .i64 mb)).setCell ⟨w.heap.size + 1, 1, none⟩ (.slice p1 n1 r1)).setCell ⟨w.heap.size + 1, 2, none⟩ (.slice p2 n2 r2)).heap.size := Xw11.size
        generalize (((w10.setCell ⟨w.heap.size + 1, 0, none⟩ (.int .i64 mb)).setCell ⟨w.heap.size + 1, 1, none⟩ (.slice p1 n1 r1)).setCell ⟨w.heap.size + 1, 2, none⟩ (.slice p2 n2 r2)) = w11 at *
        refine bodyPost_ret (v := .tuple #[.agg #[.int .i64 mb, .slice p1 n1 r1, .slice p2 n2 r2], .bool mk]) (by simp only [results, Try.results47]; go_simp) rfl ?_
        exact PVB.any (hr0.out.trans hr.out) (o1.lower (by omega)) (o2.lower (by omega)) od hl1 hl2 Xw11


end Go.Proofs.Ytonnnjaooifpjaa

/- Walks: drawn ranges and slices. -/
namespace Go.Proofs.Ytonnnjaooifpjaa
open Go.RowKit
set_option linter.unusedVariables false
set_option maxRecDepth 100000

end Go.Proofs.Ytonnnjaooifpjaa
