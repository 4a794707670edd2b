/- Walks: the drawn arguments of CoversRange. -/
import Derived.Test.YtjpngmdfnglabaaRngG
import Derived.StillTailTactics
namespace Go.Proofs.Ytjpngmdfnglabaa
open Go.RowKit
set_option linter.unusedVariables false
set_option maxRecDepth 100000

set_option maxHeartbeats 6400000 in
theorem drawCoversRange_c (a : Option Addr) (n cap : Nat) (w : World) (hb : BysIn w a n cap) :
    Calls Try.prog 19 #[.slice a n cap] w (PRange2 w) := by
  have c0 : ((w.alloc (.cells #[.int .i64 0, .int .i64 0, .int .i64 0] 24)).alloc (.cells #[.int .i64 0, .int .i64 0, .int .i64 0] 24)).cell? ⟨w.heap.size, 0, none⟩ = some (.int .i64 0) := by first | (simp; done) | (rw [World.cell?_alloc_lt _ _ _ (by simp)]; simp)
  have f0 : ((w.alloc (.cells #[.int .i64 0, .int .i64 0, .int .i64 0] 24)).alloc (.cells #[.int .i64 0, .int .i64 0, .int .i64 0] 24)).frozen? ⟨w.heap.size, 0, none⟩ = false := by first | (simp; done) | (go_simp; done)
  have c1 : ((w.alloc (.cells #[.int .i64 0, .int .i64 0, .int .i64 0] 24)).alloc (.cells #[.int .i64 0, .int .i64 0, .int .i64 0] 24)).cell? ⟨w.heap.size, 1, none⟩ = some (.int .i64 0) := by first | (simp; done) | (rw [World.cell?_alloc_lt _ _ _ (by simp)]; simp)
  have f1 : ((w.alloc (.cells #[.int .i64 0, .int .i64 0, .int .i64 0] 24)).alloc (.cells #[.int .i64 0, .int .i64 0, .int .i64 0] 24)).frozen? ⟨w.heap.size, 1, none⟩ = false := by first | (simp; done) | (go_simp; done)
  have c2 : ((w.alloc (.cells #[.int .i64 0, .int .i64 0, .int .i64 0] 24)).alloc (.cells #[.int .i64 0, .int .i64 0, .int .i64 0] 24)).cell? ⟨w.heap.size, 2, none⟩ = some (.int .i64 0) := by first | (simp; done) | (rw [World.cell?_alloc_lt _ _ _ (by simp)]; simp)
  have f2 : ((w.alloc (.cells #[.int .i64 0, .int .i64 0, .int .i64 0] 24)).alloc (.cells #[.int .i64 0, .int .i64 0, .int .i64 0] 24)).frozen? ⟨w.heap.size, 2, none⟩ = false := by first | (simp; done) | (go_simp; done)
  have c3 : ((w.alloc (.cells #[.int .i64 0, .int .i64 0, .int .i64 0] 24)).alloc (.cells #[.int .i64 0, .int .i64 0, .int .i64 0] 24)).cell? ⟨w.heap.size + 1, 0, none⟩ = some (.int .i64 0) := by first | (simp; done) | (rw [World.cell?_alloc_lt _ _ _ (by simp)]; simp)
  have f3 : ((w.alloc (.cells #[.int .i64 0, .int .i64 0, .int .i64 0] 24)).alloc (.cells #[.int .i64 0, .int .i64 0, .int .i64 0] 24)).frozen? ⟨w.heap.size + 1, 0, none⟩ = false := by first | (simp; done) | (go_simp; done)
  have c4 : ((w.alloc (.cells #[.int .i64 0, .int .i64 0, .int .i64 0] 24)).alloc (.cells #[.int .i64 0, .int .i64 0, .int .i64 0] 24)).cell? ⟨w.heap.size + 1, 1, none⟩ = some (.int .i64 0) := by first | (simp; done) | (rw [World.cell?_alloc_lt _ _ _ (by simp)]; simp)
  have f4 : ((w.alloc (.cells #[.int .i64 0, .int .i64 0, .int .i64 0] 24)).alloc (.cells #[.int .i64 0, .int .i64 0, .int .i64 0] 24)).frozen? ⟨w.heap.size + 1, 1, none⟩ = false := by first | (simp; done) | (go_simp; done)
  have c5 : ((w.alloc (.cells #[.int .i64 0, .int .i64 0, .int .i64 0] 24)).alloc (.cells #[.int .i64 0, .int .i64 0, .int .i64 0] 24)).cell? ⟨w.heap.size + 1, 2, none⟩ = some (.int .i64 0) := by first | (simp; done) | (rw [World.cell?_alloc_lt _ _ _ (by simp)]; simp)
  have f5 : ((w.alloc (.cells #[.int .i64 0, .int .i64 0, .int .i64 0] 24)).alloc (.cells #[.int .i64 0, .int .i64 0, .int .i64 0] 24)).frozen? ⟨w.heap.size + 1, 2, none⟩ = false := by first | (simp; done) | (go_simp; done)
  have X0 : Ext w ((w.alloc (.cells #[.int .i64 0, .int .i64 0, .int .i64 0] 24)).alloc (.cells #[.int .i64 0, .int .i64 0, .int .i64 0] 24)) := (by repeat (first | exact Ext.refl _ | assumption | apply Ext.drewN | apply Ext.drew | apply Ext.alloc))
  have z0 : w.heap.size + 1 < ((w.alloc (.cells #[.int .i64 0, .int .i64 0, .int .i64 0] 24)).alloc (.cells #[.int .i64 0, .int .i64 0, .int .i64 0] 24)).heap.size := by simp
  go_enter Try.func19, Try.ntmps19
  go_wp2_with fail
  revert c0 f0 c1 f1 c2 f2 c3 f3 c4 f4 c5 f5 X0 z0
  generalize ((w.alloc (.cells #[.int .i64 0, .int .i64 0, .int .i64 0] 24)).alloc (.cells #[.int .i64 0, .int .i64 0, .int .i64 0] 24)) = w0
  intro c0 f0 c1 f1 c2 f2 c3 f3 c4 f4 c5 f5 X0 z0
  replace hb := hb.ext X0
  have z1 : w.heap.size < w0.heap.size := by omega
  refine (newReader_c a n cap _ hb).mono ?_
  rintro e w1 ⟨rfl, hr, x1⟩
  have X1 : Ext w0 w1 := x1
  have hlt := hr.lt
  obtain ⟨rb, hrb⟩ : ∃ rb, rb = w0.heap.size := ⟨_, rfl⟩
  rw [← hrb] at hr hlt ⊢
  have hrb1 : w.heap.size + 1 < rb := by omega
  have hrb2 : w.heap.size < rb := by omega
  replace hrb := Lib.hid hrb
  replace c0 := x1.cell c0
  replace f0 := x1.frz (by omega) f0
  replace c1 := x1.cell c1
  replace f1 := x1.frz (by omega) f1
  replace c2 := x1.cell c2
  replace f2 := x1.frz (by omega) f2
  replace c3 := x1.cell c3
  replace f3 := x1.frz (by omega) f3
  replace c4 := x1.cell c4
  replace f4 := x1.frz (by omega) f4
  replace c5 := x1.cell c5
  replace f5 := x1.frz (by omega) f5
  go_wp2_with fail
  refine (someRange_c rb 0 _ hr (by omega)).mono ?_
  rintro e w2 ⟨x, y, z, rfl, hr, hC2⟩
  have hs2 := hC2.size
  replace c0 := hC2.cell (.inl (by omega)) c0
  replace f0 := (hC2.frz0 (by omega) (by omega)).trans f0
  replace c1 := hC2.cell (.inl (by omega)) c1
  replace f1 := (hC2.frz0 (by omega) (by omega)).trans f1
  replace c2 := hC2.cell (.inl (by omega)) c2
  replace f2 := (hC2.frz0 (by omega) (by omega)).trans f2
  replace c3 := hC2.cell (.inl (by omega)) c3
  replace f3 := (hC2.frz0 (by omega) (by omega)).trans f3
  replace c4 := hC2.cell (.inl (by omega)) c4
  replace f4 := (hC2.frz0 (by omega) (by omega)).trans f4
  replace c5 := hC2.cell (.inl (by omega)) c5
  replace f5 := (hC2.frz0 (by omega) (by omega)).trans f5
  go_wp2_with fail
  refine (someRange_c rb _ _ (by repeat (first | (with_reducible exact hr) | (with_reducible apply Rd.drewN) | (with_reducible apply Rd.drew) | (with_reducible apply Rd.alloc) | ((with_reducible apply Rd.set2); (· first | assumption | (simp; omega) | (simp; done) | omega)))) (by omega)).mono ?_
  rintro e w3 ⟨x', y', z', rfl, hr, hC3⟩
  have hs3 := hC3.size
  simp at hs3
  have q2 : rb < w2.heap.size := by omega
  have q3 : rb < w3.heap.size := by omega
  have q23 : w2.heap.size < w3.heap.size := by omega
  replace c0 := hC3.cell (.inl (by omega)) ((Ext.alloc (Ext.refl _) _).cell c0)
  replace f0 := (hC3.frz0 (by omega) (by simp <;> omega)).trans ((Ext.alloc (Ext.refl _) _).frz (by omega) f0)
  replace c1 := hC3.cell (.inl (by omega)) ((Ext.alloc (Ext.refl _) _).cell c1)
  replace f1 := (hC3.frz0 (by omega) (by simp <;> omega)).trans ((Ext.alloc (Ext.refl _) _).frz (by omega) f1)
  replace c2 := hC3.cell (.inl (by omega)) ((Ext.alloc (Ext.refl _) _).cell c2)
  replace f2 := (hC3.frz0 (by omega) (by simp <;> omega)).trans ((Ext.alloc (Ext.refl _) _).frz (by omega) f2)
  replace c3 := hC3.cell (.inl (by omega)) ((Ext.alloc (Ext.refl _) _).cell c3)
  replace f3 := (hC3.frz0 (by omega) (by simp <;> omega)).trans ((Ext.alloc (Ext.refl _) _).frz (by omega) f3)
  replace c4 := hC3.cell (.inl (by omega)) ((Ext.alloc (Ext.refl _) _).cell c4)
  replace f4 := (hC3.frz0 (by omega) (by simp <;> omega)).trans ((Ext.alloc (Ext.refl _) _).frz (by omega) f4)
  replace c5 := hC3.cell (.inl (by omega)) ((Ext.alloc (Ext.refl _) _).cell c5)
  replace f5 := (hC3.frz0 (by omega) (by simp <;> omega)).trans ((Ext.alloc (Ext.refl _) _).frz (by omega) f5)
  have d0 := hC3.cell (b := w2.heap.size) (o := 0) (v := .int .i64 x) (.inr (by omega)) (by simp)
  have d1 := hC3.cell (b := w2.heap.size) (o := 1) (v := .int .i64 y) (.inr (by omega)) (by simp)
  have d2 := hC3.cell (b := w2.heap.size) (o := 2) (v := .int .i64 z) (.inr (by omega)) (by simp)
  have X3 : Ext w w3 := X0.trans (Rch.toExt hC3 hrb.out ((Rch.toExt hC2 hrb.out X1).alloc _))
  go_wp2_with fail
  refine (pick1_c 2 rb _ _ (by repeat (first | (with_reducible exact hr) | (with_reducible apply Rd.drewN) | (with_reducible apply Rd.drew) | (with_reducible apply Rd.alloc) | ((with_reducible apply Rd.set2); (· first | assumption | (simp; omega) | (simp; done) | omega)))) (by omega) (by omega)).mono ?_
  rintro e w4 ⟨p, rfl, -, hr, hC4⟩
  have hs4 := hC4.size
  simp at hs4
  replace c0 := hC4.cell (.inl (by omega)) ((Ext.alloc (Ext.refl _) _).cell c0)
  replace f0 := (hC4.frz0 (by omega) (by simp <;> omega)).trans ((Ext.alloc (Ext.refl _) _).frz (by omega) f0)
  replace c1 := hC4.cell (.inl (by omega)) ((Ext.alloc (Ext.refl _) _).cell c1)
  replace f1 := (hC4.frz0 (by omega) (by simp <;> omega)).trans ((Ext.alloc (Ext.refl _) _).frz (by omega) f1)
  replace c2 := hC4.cell (.inl (by omega)) ((Ext.alloc (Ext.refl _) _).cell c2)
  replace f2 := (hC4.frz0 (by omega) (by simp <;> omega)).trans ((Ext.alloc (Ext.refl _) _).frz (by omega) f2)
  replace c3 := hC4.cell (.inl (by omega)) ((Ext.alloc (Ext.refl _) _).cell c3)
  replace f3 := (hC4.frz0 (by omega) (by simp <;> omega)).trans ((Ext.alloc (Ext.refl _) _).frz (by omega) f3)
  replace c4 := hC4.cell (.inl (by omega)) ((Ext.alloc (Ext.refl _) _).cell c4)
  replace f4 := (hC4.frz0 (by omega) (by simp <;> omega)).trans ((Ext.alloc (Ext.refl _) _).frz (by omega) f4)
  replace c5 := hC4.cell (.inl (by omega)) ((Ext.alloc (Ext.refl _) _).cell c5)
  replace f5 := (hC4.frz0 (by omega) (by simp <;> omega)).trans ((Ext.alloc (Ext.refl _) _).frz (by omega) f5)
  replace d0 := hC4.cell (.inr (by omega)) ((Ext.alloc (Ext.refl _) _).cell d0)
  replace d1 := hC4.cell (.inr (by omega)) ((Ext.alloc (Ext.refl _) _).cell d1)
  replace d2 := hC4.cell (.inr (by omega)) ((Ext.alloc (Ext.refl _) _).cell d2)
  have e0 := hC4.cell (b := w3.heap.size) (o := 0) (v := .int .i64 x') (.inr (by omega)) (by simp)
  have g0 : w4.frozen? ⟨w3.heap.size, 0, none⟩ = false := (Rch.frule hC4 w3.heap.size 0 (by omega) (by simp)).trans (by simp)
  have h0 : w4.frozen? ⟨w2.heap.size, 0, none⟩ = false := (Rch.frule hC4 w2.heap.size 0 (by omega) (by first | (simp; done) | (simp; omega))).trans ((Ext.alloc (Ext.refl _) _).frz (by omega) ((Rch.frule hC3 w2.heap.size 0 (by omega) (by simp)).trans (by simp)))
  have e1 := hC4.cell (b := w3.heap.size) (o := 1) (v := .int .i64 y') (.inr (by omega)) (by simp)
  have g1 : w4.frozen? ⟨w3.heap.size, 1, none⟩ = false := (Rch.frule hC4 w3.heap.size 1 (by omega) (by simp)).trans (by simp)
  have h1 : w4.frozen? ⟨w2.heap.size, 1, none⟩ = false := (Rch.frule hC4 w2.heap.size 1 (by omega) (by first | (simp; done) | (simp; omega))).trans ((Ext.alloc (Ext.refl _) _).frz (by omega) ((Rch.frule hC3 w2.heap.size 1 (by omega) (by simp)).trans (by simp)))
  have e2 := hC4.cell (b := w3.heap.size) (o := 2) (v := .int .i64 z') (.inr (by omega)) (by simp)
  have g2 : w4.frozen? ⟨w3.heap.size, 2, none⟩ = false := (Rch.frule hC4 w3.heap.size 2 (by omega) (by simp)).trans (by simp)
  have h2 : w4.frozen? ⟨w2.heap.size, 2, none⟩ = false := (Rch.frule hC4 w2.heap.size 2 (by omega) (by first | (simp; done) | (simp; omega))).trans ((Ext.alloc (Ext.refl _) _).frz (by omega) ((Rch.frule hC3 w2.heap.size 2 (by omega) (by simp)).trans (by simp)))
  have X4 : Ext w w4 := Rch.toExt' hC4 (by omega) (X3.alloc _)
  have b1 : w2.heap.size < w4.heap.size := by omega
  have b2 : w3.heap.size < w4.heap.size := by omega
  clear hs3 hs4
  go_upto_if 15 with fail
  go_cut [] (fun wx => RgAt wx w.heap.size ∧ RgAt wx (w.heap.size + 1) ∧ RgAt wx w2.heap.size ∧ RgAt wx w3.heap.size ∧ Ext w wx)
  case first =>
    by_cases hp : p = 0
    · subst hp
      go_wp2_with fail
      have Y : Rch rb w4 w4 := Rch.refl _ _
      refine wp_region_held_drew (S := fun w' => w'.cell? ⟨w2.heap.size, 0, none⟩ = some (.int .i64 x) ∧ w'.cell? ⟨w2.heap.size, 1, none⟩ = some (.int .i64 y) ∧ w'.cell? ⟨w2.heap.size, 2, none⟩ = some (.int .i64 z)) (by kernel_rfl) ⟨d0, d1, d2⟩ (fun hHeld => ?_)
      refine wpAnyH_take (i := 0) (v := ?_) rfl (by kernel_rfl) (by kernel_rfl) (by kernel_rfl) (fun _ _ _ h => h) (Or.inl ⟨by rfl, ?_⟩) (by assumption) ?_
      rotate_left
      · (intro w hSw; (try dsimp only at hSw); go_simp; try with_reducible rfl)
      try simp only [Act.put, List.setIfInBounds_toArray, List.set_cons_zero, List.set_cons_succ, List.getElem_toArray, List.getElem_cons_zero]
      refine wpAnyH_take (i := 1) (v := ?_) rfl (by kernel_rfl) (by kernel_rfl) (by kernel_rfl) (fun _ _ _ h => h) (Or.inl ⟨by rfl, ?_⟩) (by assumption) ?_
      rotate_left
      · (intro w hSw; (try dsimp only at hSw); go_simp; try with_reducible rfl)
      try simp only [Act.put, List.setIfInBounds_toArray, List.set_cons_zero, List.set_cons_succ, List.getElem_toArray, List.getElem_cons_succ, List.getElem_cons_zero]
      refine wpAnyH_ready (rs := [2]) (by kernel_rfl) (by simp) ?_
      refine AllReadyH.cons rfl (fun K hK => ?_) AllReadyH.nil
      try simp only [Act.put, List.setIfInBounds_toArray, List.set_cons_zero, List.set_cons_succ, List.getElem_toArray, List.getElem_cons_succ, List.getElem_cons_zero]
      go_simp
      refine (someSlice_c rb _ _ (by repeat (first | (with_reducible exact hr) | (with_reducible apply Rd.drewN) | (with_reducible apply Rd.drew) | (with_reducible apply Rd.alloc) | ((with_reducible apply Rd.set2); (· first | assumption | (simp; omega) | (simp; done) | omega)))) (by omega)).mono ?_
      rintro e wt1 ⟨F, T, B, hf, ht, rfl, hr, xx⟩
      have Y : Rch rb w4 wt1 := Rch.step (by repeat (first | (with_reducible exact Y) | (with_reducible exact Rch.refl _ _) | (with_reducible apply Rch.drewN) | (with_reducible apply Rch.drew) | (with_reducible apply Rch.alloc))) xx
      refine hK.out _ _ ⟨Chg.cell Y (.inr (by omega)) d0, Chg.cell Y (.inr (by omega)) d1, Chg.cell Y (.inr (by omega)) d2⟩ (fun hHeld => ?_)
      clear hK K
      try simp only [Act.put, List.setIfInBounds_toArray, List.set_cons_zero, List.set_cons_succ, List.getElem_toArray, List.getElem_cons_succ, List.getElem_cons_zero]
      refine wpAnyH_ready (rs := [3]) (by kernel_rfl) (by simp) ?_
      refine AllReadyH.cons rfl (fun K hK => ?_) AllReadyH.nil
      try simp only [Act.put, List.setIfInBounds_toArray, List.set_cons_zero, List.set_cons_succ, List.getElem_toArray, List.getElem_cons_succ, List.getElem_cons_zero]
      go_simp
      refine (specSliceRange_s x y z F T B hf ht _).mono ?_
      rintro e wt2 ⟨x2, y2, z2, rfl, xx⟩
      have Y : Rch rb w4 wt2 := Rch.ext (by repeat (first | (with_reducible exact Y) | (with_reducible exact Rch.refl _ _) | (with_reducible apply Rch.drewN) | (with_reducible apply Rch.drew) | (with_reducible apply Rch.alloc))) xx
      refine hK.out _ _ ⟨Chg.cell Y (.inr (by omega)) d0, Chg.cell Y (.inr (by omega)) d1, Chg.cell Y (.inr (by omega)) d2⟩ (fun hHeld => ?_)
      clear hK K
      try simp only [Act.put, List.setIfInBounds_toArray, List.set_cons_zero, List.set_cons_succ, List.getElem_toArray, List.getElem_cons_succ, List.getElem_cons_zero]
      have hs0 := Chg.cell Y (.inr (by omega)) d0
      have hs1 := Chg.cell Y (.inr (by omega)) d1
      have hs2 := Chg.cell Y (.inr (by omega)) d2
      have t0 := Chg.cell Y (.inr (by omega)) e0
      have t1 := Chg.cell Y (.inr (by omega)) e1
      have t2 := Chg.cell Y (.inr (by omega)) e2
      have u0 := (Rch.frule Y w3.heap.size 0 (by omega) (by omega)).trans g0
      have u1 := (Rch.frule Y w3.heap.size 1 (by omega) (by omega)).trans g1
      have u2 := (Rch.frule Y w3.heap.size 2 (by omega) (by omega)).trans g2
      have n1 : w3.heap.size ≠ w2.heap.size := by omega
      have n2 : w2.heap.size ≠ w3.heap.size := by omega
      refine wpAnyH_ready (rs := [4]) (by kernel_rfl) (by simp) ?_
      refine AllReadyH.cons rfl (fun K hK => ?_) AllReadyH.nil
      try simp only [Act.put, List.setIfInBounds_toArray, List.set_cons_zero, List.set_cons_succ, List.getElem_toArray, List.getElem_cons_succ, List.getElem_cons_zero]
      go_simp
      refine hK.out _ _ ⟨(by go_simp), (by go_simp), (by go_simp)⟩ (fun hHeld => ?_)
      clear hK K
      try simp only [Act.put, List.setIfInBounds_toArray, List.set_cons_zero, List.set_cons_succ, List.getElem_toArray, List.getElem_cons_succ, List.getElem_cons_zero]
      refine wpAnyH_done (by kernel_rfl) ?_ _
      have r0 := (Rch.frule Y w2.heap.size 0 (by omega) (by omega)).trans h0
      have r1 := (Rch.frule Y w2.heap.size 1 (by omega) (by omega)).trans h1
      have r2 := (Rch.frule Y w2.heap.size 2 (by omega) (by omega)).trans h2
      have n3 : w3.heap.size ≠ w.heap.size := by omega
      have n4 : w3.heap.size ≠ w.heap.size + 1 := by omega
      have n5 : w.heap.size ≠ w3.heap.size := by omega
      have n6 : w.heap.size + 1 ≠ w3.heap.size := by omega
      replace c0 := Chg.cell Y (.inl (by omega)) c0
      replace f0 := (Chg.frz0 Y (by omega) (by omega)).trans f0
      replace c1 := Chg.cell Y (.inl (by omega)) c1
      replace f1 := (Chg.frz0 Y (by omega) (by omega)).trans f1
      replace c2 := Chg.cell Y (.inl (by omega)) c2
      replace f2 := (Chg.frz0 Y (by omega) (by omega)).trans f2
      replace c3 := Chg.cell Y (.inl (by omega)) c3
      replace f3 := (Chg.frz0 Y (by omega) (by omega)).trans f3
      replace c4 := Chg.cell Y (.inl (by omega)) c4
      replace f4 := (Chg.frz0 Y (by omega) (by omega)).trans f4
      replace c5 := Chg.cell Y (.inl (by omega)) c5
      replace f5 := (Chg.frz0 Y (by omega) (by omega)).trans f5
      have X5 : Ext w wt2 := Rch.toExt' Y (by omega) X4
      go_wp2_with fail
      go_meet
      case rel => exact ⟨⟨_, _, _, (by first | (go_simp; done) | (go_simp; rfl)), (by first | (go_simp; done) | (go_simp; rfl)), (by first | (go_simp; done) | (go_simp; rfl)), (by first | (go_simp; done) | (simp; done) | assumption), (by first | (go_simp; done) | (simp; done) | assumption), (by first | (go_simp; done) | (simp; done) | assumption)⟩, ⟨_, _, _, (by first | (go_simp; done) | (go_simp; rfl)), (by first | (go_simp; done) | (go_simp; rfl)), (by first | (go_simp; done) | (go_simp; rfl)), (by first | (go_simp; done) | (simp; done) | assumption), (by first | (go_simp; done) | (simp; done) | assumption), (by first | (go_simp; done) | (simp; done) | assumption)⟩, ⟨_, _, _, (by first | (go_simp; done) | (go_simp; rfl)), (by first | (go_simp; done) | (go_simp; rfl)), (by first | (go_simp; done) | (go_simp; rfl)), (by first | (go_simp; done) | (simp; done) | assumption), (by first | (go_simp; done) | (simp; done) | assumption), (by first | (go_simp; done) | (simp; done) | assumption)⟩, ⟨_, _, _, (by first | (go_simp; done) | (go_simp; rfl)), (by first | (go_simp; done) | (go_simp; rfl)), (by first | (go_simp; done) | (go_simp; rfl)), (by first | (go_simp; done) | (simp; done) | assumption), (by first | (go_simp; done) | (simp; done) | assumption), (by first | (go_simp; done) | (simp; done) | assumption)⟩, (by repeat (first | (with_reducible assumption) | (with_reducible refine Ext.setCell ?_ (by first | (simp; done) | (simp; omega) | omega) _) | (with_reducible apply Ext.alloc) | (with_reducible apply Ext.drew) | (with_reducible apply Ext.drewN) | (with_reducible exact Ext.refl _)))⟩
    · have hpb : (p == 0) = false := by simpa using hp
      go_wp2_with fail
      go_meet
      case rel => exact ⟨⟨_, _, _, (by first | (go_simp; done) | (go_simp; rfl)), (by first | (go_simp; done) | (go_simp; rfl)), (by first | (go_simp; done) | (go_simp; rfl)), (by first | (go_simp; done) | (simp; done) | assumption), (by first | (go_simp; done) | (simp; done) | assumption), (by first | (go_simp; done) | (simp; done) | assumption)⟩, ⟨_, _, _, (by first | (go_simp; done) | (go_simp; rfl)), (by first | (go_simp; done) | (go_simp; rfl)), (by first | (go_simp; done) | (go_simp; rfl)), (by first | (go_simp; done) | (simp; done) | assumption), (by first | (go_simp; done) | (simp; done) | assumption), (by first | (go_simp; done) | (simp; done) | assumption)⟩, ⟨_, _, _, (by first | (go_simp; done) | (go_simp; rfl)), (by first | (go_simp; done) | (go_simp; rfl)), (by first | (go_simp; done) | (go_simp; rfl)), (by first | (go_simp; done) | (simp; done) | assumption), (by first | (go_simp; done) | (simp; done) | assumption), (by first | (go_simp; done) | (simp; done) | assumption)⟩, ⟨_, _, _, (by first | (go_simp; done) | (go_simp; rfl)), (by first | (go_simp; done) | (go_simp; rfl)), (by first | (go_simp; done) | (go_simp; rfl)), (by first | (go_simp; done) | (simp; done) | assumption), (by first | (go_simp; done) | (simp; done) | assumption), (by first | (go_simp; done) | (simp; done) | assumption)⟩, (by repeat (first | (with_reducible assumption) | (with_reducible refine Ext.setCell ?_ (by first | (simp; done) | (simp; omega) | omega) _) | (with_reducible apply Ext.alloc) | (with_reducible apply Ext.drew) | (with_reducible apply Ext.drewN) | (with_reducible exact Ext.refl _)))⟩
  case rest =>
    obtain ⟨g1, g2, g3, g4, X⟩ := hcut
    obtain ⟨p0, p1, p2, c0, c1, c2, f0, f1, f2⟩ := g1
    obtain ⟨q0, q1, q2, c3, c4, c5, f3, f4, f5⟩ := g2
    obtain ⟨x, y, z, d0, d1, d2, -, -, -⟩ := g3
    obtain ⟨x2, y2, z2, e0, e1, e2, -, -, -⟩ := g4
    have n1 : w.heap.size ≠ w2.heap.size := by omega
    have n2 : w.heap.size ≠ w3.heap.size := by omega
    have n3 : w.heap.size + 1 ≠ w2.heap.size := by omega
    have n4 : w.heap.size + 1 ≠ w3.heap.size := by omega
    go_wp2_with fail
    have Y : Ext wc wc := Ext.refl _
    refine wp_region_held_drew (S := fun w' => w'.cell? ⟨w2.heap.size, 0, none⟩ = some (.int .i64 x) ∧ w'.cell? ⟨w2.heap.size, 1, none⟩ = some (.int .i64 y) ∧ w'.cell? ⟨w2.heap.size, 2, none⟩ = some (.int .i64 z) ∧ w'.cell? ⟨w3.heap.size, 0, none⟩ = some (.int .i64 x2) ∧ w'.cell? ⟨w3.heap.size, 1, none⟩ = some (.int .i64 y2) ∧ w'.cell? ⟨w3.heap.size, 2, none⟩ = some (.int .i64 z2)) (by kernel_rfl) ⟨d0, d1, d2, e0, e1, e2⟩ (fun hHeld => ?_)
    refine wpAnyH_take (i := 0) (v := ?_) rfl (by kernel_rfl) (by kernel_rfl) (by kernel_rfl) (fun _ _ _ h => h) (Or.inl ⟨by rfl, ?_⟩) (by assumption) ?_
    rotate_left
    · (intro w hSw; (try dsimp only at hSw); go_simp; try with_reducible rfl)
    try simp only [Act.put, List.setIfInBounds_toArray, List.set_cons_zero, List.set_cons_succ, List.getElem_toArray, List.getElem_cons_zero]
    refine wpAnyH_take (i := 1) (v := ?_) rfl (by kernel_rfl) (by kernel_rfl) (by kernel_rfl) (fun _ _ _ h => h) (Or.inl ⟨by rfl, ?_⟩) (by assumption) ?_
    rotate_left
    · (intro w hSw; (try dsimp only at hSw); go_simp; try with_reducible rfl)
    try simp only [Act.put, List.setIfInBounds_toArray, List.set_cons_zero, List.set_cons_succ, List.getElem_toArray, List.getElem_cons_succ, List.getElem_cons_zero]
    have hs0 := Y.cell d0
    have hs1 := Y.cell d1
    have hs2 := Y.cell d2
    have hs3 := Y.cell e0
    have hs4 := Y.cell e1
    have hs5 := Y.cell e2
    refine wpAnyH_ready (rs := [2]) (by kernel_rfl) (by simp) ?_
    refine AllReadyH.cons rfl (fun K hK => ?_) AllReadyH.nil
    try simp only [Act.put, List.setIfInBounds_toArray, List.set_cons_zero, List.set_cons_succ, List.getElem_toArray, List.getElem_cons_succ, List.getElem_cons_zero]
    go_simp
    refine hK.out _ _ ⟨(by go_simp), (by go_simp), (by go_simp), (by go_simp), (by go_simp), (by go_simp)⟩ (fun hHeld => ?_)
    clear hK K
    try simp only [Act.put, List.setIfInBounds_toArray, List.set_cons_zero, List.set_cons_succ, List.getElem_toArray, List.getElem_cons_succ, List.getElem_cons_zero]
    have hs0 := Y.cell d0
    have hs1 := Y.cell d1
    have hs2 := Y.cell d2
    have hs3 := Y.cell e0
    have hs4 := Y.cell e1
    have hs5 := Y.cell e2
    refine wpAnyH_ready (rs := [3]) (by kernel_rfl) (by simp) ?_
    refine AllReadyH.cons rfl (fun K hK => ?_) AllReadyH.nil
    try simp only [Act.put, List.setIfInBounds_toArray, List.set_cons_zero, List.set_cons_succ, List.getElem_toArray, List.getElem_cons_succ, List.getElem_cons_zero]
    go_simp
    refine hK.out _ _ ⟨(by go_simp), (by go_simp), (by go_simp), (by go_simp), (by go_simp), (by go_simp)⟩ (fun hHeld => ?_)
    clear hK K
    try simp only [Act.put, List.setIfInBounds_toArray, List.set_cons_zero, List.set_cons_succ, List.getElem_toArray, List.getElem_cons_succ, List.getElem_cons_zero]
    refine wpAnyH_done (by kernel_rfl) ?_ _
    go_wp2_with fail
    refine bodyPost_ret (v := .tuple #[.agg #[.int .i64 x, .int .i64 y, .int .i64 z], .agg #[.int .i64 x2, .int .i64 y2, .int .i64 z2]]) (by simp only [results, Try.results19]; go_simp) rfl ⟨_, _, _, _, _, _, rfl, (by repeat (first | (with_reducible assumption) | (with_reducible refine Ext.setCell ?_ (by first | (simp; done) | (simp; omega) | omega) _) | (with_reducible apply Ext.alloc) | (with_reducible apply Ext.drew) | (with_reducible apply Ext.drewN) | (with_reducible exact Ext.refl _)))⟩

end Go.Proofs.Ytjpngmdfnglabaa
