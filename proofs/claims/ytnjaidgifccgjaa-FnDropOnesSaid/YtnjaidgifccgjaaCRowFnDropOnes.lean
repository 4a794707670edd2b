/- Texts of these proofs put together: LvA, LvC, LvD, LvE, LvB, LawFnDropOnes, RowFnDropOnes. No condition. -/
import Derived.Test.YtnjaidgifccgjaaM2
import Derived.Test.YtnjaidgifccgjaaM1
import Derived.Test.YtnjaidgifccgjaaM5
import Derived.Test.YtnjaidgifccgjaaM4
import Derived.Test.YtnjaidgifccgjaaM3
set_option linter.unusedVariables false
set_option linter.unusedSimpArgs false
/- Walks: ValidView, FitsIn, BoundsOf. -/
namespace Go.Proofs.Ytnjaidgifccgjaa
open Go.RowKit
set_option linter.unusedVariables false
set_option maxRecDepth 100000


theorem areCells_c (x : Int) (w : World) : Calls Try.prog 60 #[.int .i64 x] w fun e w' => e = .returned (.bool (inB 0 60 x)) ∧ w = w' := by
  by_cases h : 0 ≤ x
  · go_enter Try.func60, Try.ntmps60
    go_wp2_with fail
    go_ret
    exact ⟨by simp [inB, h], rfl⟩
  · have h' : x < 0 := by omega
    go_enter Try.func60, Try.ntmps60
    go_wp2_with fail
    go_ret
    exact ⟨by simp [inB]; intro; omega, rfl⟩
theorem min_lib (l : List Int) : Lib.minOf l = minL l := by cases l <;> rfl
theorem max_lib (l : List Int) : Lib.maxOf l = maxL l := by cases l <;> rfl
theorem min_c (xs : List Int) (v : Value) (w : World) (lo : Nat) (h : Ints w lo v xs) (hn : xs ≠ []) : Calls Try.prog 67 #[v] w fun e w' => e = .returned (.int .i64 (minL xs)) ∧ w = w' := by
  obtain ⟨a, cap, rfl, h1, h2, ⟨h3, h3'⟩, h4⟩ := h
  have hpos : 0 < xs.length := by cases xs <;> simp_all
  obtain ⟨b, off, rfl, _⟩ := h4 0 hpos
  refine (Try.slices_Min_int b off xs.length cap xs w hpos (Nat.le_refl _) (by omega) (fun j hj => by obtain ⟨b', off', he, _, hc, _⟩ := h4 j hj; cases he; exact hc)).mono ?_
  rintro e w' ⟨rfl, rfl⟩
  exact ⟨by rw [List.take_length, min_lib], rfl⟩
theorem max_c (xs : List Int) (v : Value) (w : World) (lo : Nat) (h : Ints w lo v xs) (hn : xs ≠ []) : Calls Try.prog 68 #[v] w fun e w' => e = .returned (.int .i64 (maxL xs)) ∧ w = w' := by
  obtain ⟨a, cap, rfl, h1, h2, ⟨h3, h3'⟩, h4⟩ := h
  have hpos : 0 < xs.length := by cases xs <;> simp_all
  obtain ⟨b, off, rfl, _⟩ := h4 0 hpos
  refine (Try.slices_Max_int b off xs.length cap xs w hpos (Nat.le_refl _) (by omega) (fun j hj => by obtain ⟨b', off', he, _, hc, _⟩ := h4 j hj; cases he; exact hc)).mono ?_
  rintro e w' ⟨rfl, rfl⟩
  exact ⟨by rw [List.take_length, max_lib], rfl⟩
def fitA (b : Int) (s t : List Int) (x : Int) : Bool := viewB b s t && (inB 0 60 x && fitB b s t x)
set_option maxHeartbeats 1600000 in
theorem implValidView_c (b1 : Int) (u1 v1 : Value) (s1 t1 : List Int) (w : World) (l1 m1 : Nat) (h1 : Ints w l1 u1 s1) (k1 : Ints w m1 v1 t1) :
    Calls Try.prog 16 #[.agg #[.int .i64 b1, u1, v1]] w (fun e w' => e = .returned (.bool (viewB b1 s1 t1)) ∧ Ext w w') := by
  obtain ⟨a1, cp1, rfl⟩ := h1.form
  obtain ⟨a2, cp2, rfl⟩ := k1.form
  go_enter Try.func16, Try.ntmps16
  go_wp2_with fail
  refine (isView_c b1 _ _ s1 t1 _ l1 m1 (h1.ext (by repeat (first | (with_reducible assumption) | (with_reducible refine Ext.setCell ?_ (by first | (simp; done) | (simp; omega) | omega) _) | (with_reducible apply Ext.alloc) | (with_reducible apply Ext.drew) | (with_reducible apply Ext.drewN) | (with_reducible exact Ext.refl _)))) (k1.ext (by repeat (first | (with_reducible assumption) | (with_reducible refine Ext.setCell ?_ (by first | (simp; done) | (simp; omega) | omega) _) | (with_reducible apply Ext.alloc) | (with_reducible apply Ext.drew) | (with_reducible apply Ext.drewN) | (with_reducible exact Ext.refl _))))).mono ?_
  rintro e w1 ⟨rfl, xw1⟩
  have Lw1 : Ext w w1 := Ext.trans (by repeat (first | (with_reducible assumption) | (with_reducible refine Ext.setCell ?_ (by first | (simp; done) | (simp; omega) | omega) _) | (with_reducible apply Ext.alloc) | (with_reducible apply Ext.drew) | (with_reducible apply Ext.drewN) | (with_reducible exact Ext.refl _))) xw1
  have Xw1 : Ext w w1 := Lw1
  have va0 : w1.cell? ⟨w.heap.size, 0, none⟩ = some (.int .i64 b1) := xw1.cell (by first | (simp; done) | ((repeat rw [World.cell?_alloc_lt _ _ _ (by simp <;> omega)]); simp; done) | (go_simp; done))
  have va1 : w1.cell? ⟨w.heap.size, 1, none⟩ = some (.slice a1 s1.length cp1) := xw1.cell (by first | (simp; done) | ((repeat rw [World.cell?_alloc_lt _ _ _ (by simp <;> omega)]); simp; done) | (go_simp; done))
  have va2 : w1.cell? ⟨w.heap.size, 2, none⟩ = some (.slice a2 t1.length cp2) := xw1.cell (by first | (simp; done) | ((repeat rw [World.cell?_alloc_lt _ _ _ (by simp <;> omega)]); simp; done) | (go_simp; done))
  have z_va : w.heap.size < w1.heap.size := World.block_lt_of_cell? _ _ va0
  have s_w1 : w.heap.size ≤ w1.heap.size := Xw1.size
  clear xw1
  go_wp2_with fail
  go_ret
  exact ⟨rfl, Xw1.trans (by repeat (first | (with_reducible assumption) | (with_reducible refine Ext.setCell ?_ (by first | (simp; done) | (simp; omega) | omega) _) | (with_reducible apply Ext.alloc) | (with_reducible apply Ext.drew) | (with_reducible apply Ext.drewN) | (with_reducible exact Ext.refl _)))⟩

set_option maxHeartbeats 1600000 in
theorem implFitsIn_c (b1 : Int) (u1 v1 : Value) (s1 t1 : List Int) (x : Int) (w : World) (l1 m1 : Nat) (h1 : Ints w l1 u1 s1) (k1 : Ints w m1 v1 t1) :
    Calls Try.prog 14 #[.agg #[.int .i64 b1, u1, v1], .int .i64 x] w (fun e w' => e = .returned (.bool (fitA b1 s1 t1 x)) ∧ Ext w w') := by
  obtain ⟨a1, cp1, rfl⟩ := h1.form
  obtain ⟨a2, cp2, rfl⟩ := k1.form
  cases ha : viewB b1 s1 t1
  · have hr : Hid (fitA b1 s1 t1 x = false) := Lib.hid (by unfold fitA; rw [ha]; rfl)
    replace ha := Lib.hid ha
    go_enter Try.func14, Try.ntmps14
    go_wp2_with fail
    refine (isView_c b1 _ _ s1 t1 _ l1 m1 (h1.ext (by repeat (first | (with_reducible assumption) | (with_reducible refine Ext.setCell ?_ (by first | (simp; done) | (simp; omega) | omega) _) | (with_reducible apply Ext.alloc) | (with_reducible apply Ext.drew) | (with_reducible apply Ext.drewN) | (with_reducible exact Ext.refl _)))) (k1.ext (by repeat (first | (with_reducible assumption) | (with_reducible refine Ext.setCell ?_ (by first | (simp; done) | (simp; omega) | omega) _) | (with_reducible apply Ext.alloc) | (with_reducible apply Ext.drew) | (with_reducible apply Ext.drewN) | (with_reducible exact Ext.refl _))))).mono ?_
    rintro e w1 ⟨rfl, xw1⟩
    have Lw1 : Ext w w1 := Ext.trans (by repeat (first | (with_reducible assumption) | (with_reducible refine Ext.setCell ?_ (by first | (simp; done) | (simp; omega) | omega) _) | (with_reducible apply Ext.alloc) | (with_reducible apply Ext.drew) | (with_reducible apply Ext.drewN) | (with_reducible exact Ext.refl _))) xw1
    have Xw1 : Ext w w1 := Lw1
    have va0 : w1.cell? ⟨w.heap.size, 0, none⟩ = some (.int .i64 b1) := xw1.cell (by first | (simp; done) | ((repeat rw [World.cell?_alloc_lt _ _ _ (by simp <;> omega)]); simp; done) | (go_simp; done))
    have va1 : w1.cell? ⟨w.heap.size, 1, none⟩ = some (.slice a1 s1.length cp1) := xw1.cell (by first | (simp; done) | ((repeat rw [World.cell?_alloc_lt _ _ _ (by simp <;> omega)]); simp; done) | (go_simp; done))
    have va2 : w1.cell? ⟨w.heap.size, 2, none⟩ = some (.slice a2 t1.length cp2) := xw1.cell (by first | (simp; done) | ((repeat rw [World.cell?_alloc_lt _ _ _ (by simp <;> omega)]); simp; done) | (go_simp; done))
    have z_va : w.heap.size < w1.heap.size := World.block_lt_of_cell? _ _ va0
    have s_w1 : w.heap.size ≤ w1.heap.size := Xw1.size
    clear xw1
    rw [ha.out]
    go_wp2_with fail
    go_ret
    exact ⟨by rw [hr.out] <;> rfl, Xw1.trans (by repeat (first | (with_reducible assumption) | (with_reducible refine Ext.setCell ?_ (by first | (simp; done) | (simp; omega) | omega) _) | (with_reducible apply Ext.alloc) | (with_reducible apply Ext.drew) | (with_reducible apply Ext.drewN) | (with_reducible exact Ext.refl _)))⟩
  · cases hb : inB 0 60 x
    · have hr : Hid (fitA b1 s1 t1 x = false) := Lib.hid (by unfold fitA; rw [ha, hb]; rfl)
      replace ha := Lib.hid ha
      replace hb := Lib.hid hb
      go_enter Try.func14, Try.ntmps14
      go_wp2_with fail
      refine (isView_c b1 _ _ s1 t1 _ l1 m1 (h1.ext (by repeat (first | (with_reducible assumption) | (with_reducible refine Ext.setCell ?_ (by first | (simp; done) | (simp; omega) | omega) _) | (with_reducible apply Ext.alloc) | (with_reducible apply Ext.drew) | (with_reducible apply Ext.drewN) | (with_reducible exact Ext.refl _)))) (k1.ext (by repeat (first | (with_reducible assumption) | (with_reducible refine Ext.setCell ?_ (by first | (simp; done) | (simp; omega) | omega) _) | (with_reducible apply Ext.alloc) | (with_reducible apply Ext.drew) | (with_reducible apply Ext.drewN) | (with_reducible exact Ext.refl _))))).mono ?_
      rintro e w1 ⟨rfl, xw1⟩
      have Lw1 : Ext w w1 := Ext.trans (by repeat (first | (with_reducible assumption) | (with_reducible refine Ext.setCell ?_ (by first | (simp; done) | (simp; omega) | omega) _) | (with_reducible apply Ext.alloc) | (with_reducible apply Ext.drew) | (with_reducible apply Ext.drewN) | (with_reducible exact Ext.refl _))) xw1
      have Xw1 : Ext w w1 := Lw1
      have va0 : w1.cell? ⟨w.heap.size, 0, none⟩ = some (.int .i64 b1) := xw1.cell (by first | (simp; done) | ((repeat rw [World.cell?_alloc_lt _ _ _ (by simp <;> omega)]); simp; done) | (go_simp; done))
      have va1 : w1.cell? ⟨w.heap.size, 1, none⟩ = some (.slice a1 s1.length cp1) := xw1.cell (by first | (simp; done) | ((repeat rw [World.cell?_alloc_lt _ _ _ (by simp <;> omega)]); simp; done) | (go_simp; done))
      have va2 : w1.cell? ⟨w.heap.size, 2, none⟩ = some (.slice a2 t1.length cp2) := xw1.cell (by first | (simp; done) | ((repeat rw [World.cell?_alloc_lt _ _ _ (by simp <;> omega)]); simp; done) | (go_simp; done))
      have z_va : w.heap.size < w1.heap.size := World.block_lt_of_cell? _ _ va0
      have s_w1 : w.heap.size ≤ w1.heap.size := Xw1.size
      clear xw1
      rw [ha.out]
      go_wp2_with fail
      refine (areCells_c x _).mono ?_
      rintro e w' ⟨rfl, rfl⟩
      rw [hb.out]
      go_wp2_with fail
      go_ret
      exact ⟨by rw [hr.out] <;> rfl, Xw1.trans (by repeat (first | (with_reducible assumption) | (with_reducible refine Ext.setCell ?_ (by first | (simp; done) | (simp; omega) | omega) _) | (with_reducible apply Ext.alloc) | (with_reducible apply Ext.drew) | (with_reducible apply Ext.drewN) | (with_reducible exact Ext.refl _)))⟩
    · have hr : Hid (fitA b1 s1 t1 x = fitB b1 s1 t1 x) := Lib.hid (by unfold fitA; rw [ha, hb]; rfl)
      have hx : 0 ≤ x ∧ x ≤ 60 := by unfold inB at hb; exact of_decide_eq_true hb
      replace ha := Lib.hid ha
      replace hb := Lib.hid hb
      go_enter Try.func14, Try.ntmps14
      go_wp2_with fail
      refine (isView_c b1 _ _ s1 t1 _ l1 m1 (h1.ext (by repeat (first | (with_reducible assumption) | (with_reducible refine Ext.setCell ?_ (by first | (simp; done) | (simp; omega) | omega) _) | (with_reducible apply Ext.alloc) | (with_reducible apply Ext.drew) | (with_reducible apply Ext.drewN) | (with_reducible exact Ext.refl _)))) (k1.ext (by repeat (first | (with_reducible assumption) | (with_reducible refine Ext.setCell ?_ (by first | (simp; done) | (simp; omega) | omega) _) | (with_reducible apply Ext.alloc) | (with_reducible apply Ext.drew) | (with_reducible apply Ext.drewN) | (with_reducible exact Ext.refl _))))).mono ?_
      rintro e w1 ⟨rfl, xw1⟩
      have Lw1 : Ext w w1 := Ext.trans (by repeat (first | (with_reducible assumption) | (with_reducible refine Ext.setCell ?_ (by first | (simp; done) | (simp; omega) | omega) _) | (with_reducible apply Ext.alloc) | (with_reducible apply Ext.drew) | (with_reducible apply Ext.drewN) | (with_reducible exact Ext.refl _))) xw1
      have Xw1 : Ext w w1 := Lw1
      have va0 : w1.cell? ⟨w.heap.size, 0, none⟩ = some (.int .i64 b1) := xw1.cell (by first | (simp; done) | ((repeat rw [World.cell?_alloc_lt _ _ _ (by simp <;> omega)]); simp; done) | (go_simp; done))
      have va1 : w1.cell? ⟨w.heap.size, 1, none⟩ = some (.slice a1 s1.length cp1) := xw1.cell (by first | (simp; done) | ((repeat rw [World.cell?_alloc_lt _ _ _ (by simp <;> omega)]); simp; done) | (go_simp; done))
      have va2 : w1.cell? ⟨w.heap.size, 2, none⟩ = some (.slice a2 t1.length cp2) := xw1.cell (by first | (simp; done) | ((repeat rw [World.cell?_alloc_lt _ _ _ (by simp <;> omega)]); simp; done) | (go_simp; done))
      have z_va : w.heap.size < w1.heap.size := World.block_lt_of_cell? _ _ va0
      have s_w1 : w.heap.size ≤ w1.heap.size := Xw1.size
      clear xw1
      rw [ha.out]
      go_wp2_with fail
      refine (areCells_c x _).mono ?_
      rintro e w' ⟨rfl, rfl⟩
      rw [hb.out]
      go_wp2_with fail
      refine (fitsIn_c b1 _ _ s1 t1 x _ l1 m1 (h1.ext (Xw1.trans (by repeat (first | (with_reducible assumption) | (with_reducible refine Ext.setCell ?_ (by first | (simp; done) | (simp; omega) | omega) _) | (with_reducible apply Ext.alloc) | (with_reducible apply Ext.drew) | (with_reducible apply Ext.drewN) | (with_reducible exact Ext.refl _))))) (k1.ext (Xw1.trans (by repeat (first | (with_reducible assumption) | (with_reducible refine Ext.setCell ?_ (by first | (simp; done) | (simp; omega) | omega) _) | (with_reducible apply Ext.alloc) | (with_reducible apply Ext.drew) | (with_reducible apply Ext.drewN) | (with_reducible exact Ext.refl _))))) ha.out).mono ?_
      rintro e w2 ⟨rfl, xw2⟩
      have Lw2 : Ext w1 w2 := Ext.trans (by repeat (first | (with_reducible assumption) | (with_reducible refine Ext.setCell ?_ (by first | (simp; done) | (simp; omega) | omega) _) | (with_reducible apply Ext.alloc) | (with_reducible apply Ext.drew) | (with_reducible apply Ext.drewN) | (with_reducible exact Ext.refl _))) xw2
      have Xw2 : Ext w w2 := Xw1.trans Lw2
      replace va0 := Lw2.cell va0
      replace va1 := Lw2.cell va1
      replace va2 := Lw2.cell va2
      have z_va : w.heap.size < w2.heap.size := World.block_lt_of_cell? _ _ va0
      have s_w2 : w.heap.size ≤ w2.heap.size := Xw2.size
      clear xw2
      go_wp2_with fail
      go_ret
      exact ⟨by rw [hr.out] <;> rfl, Xw2.trans (by repeat (first | (with_reducible assumption) | (with_reducible refine Ext.setCell ?_ (by first | (simp; done) | (simp; omega) | omega) _) | (with_reducible apply Ext.alloc) | (with_reducible apply Ext.drew) | (with_reducible apply Ext.drewN) | (with_reducible exact Ext.refl _)))⟩

set_option maxHeartbeats 1600000 in
theorem specFitsIn_c (b1 : Int) (u1 v1 : Value) (s1 t1 : List Int) (x : Int) (w : World) (l1 m1 : Nat) (h1 : Ints w l1 u1 s1) (k1 : Ints w m1 v1 t1) :
    Calls Try.prog 15 #[.agg #[.int .i64 b1, u1, v1], .int .i64 x] w (fun e w' => e = .returned (.bool (fitA b1 s1 t1 x)) ∧ Ext w w') := by
  obtain ⟨a1, cp1, rfl⟩ := h1.form
  obtain ⟨a2, cp2, rfl⟩ := k1.form
  cases ha : viewB b1 s1 t1
  · have hr : Hid (fitA b1 s1 t1 x = false) := Lib.hid (by unfold fitA; rw [ha]; rfl)
    replace ha := Lib.hid ha
    go_enter Try.func15, Try.ntmps15
    go_wp2_with fail
    refine (validView_c b1 _ _ s1 t1 _ l1 m1 (h1.ext (by repeat (first | (with_reducible assumption) | (with_reducible refine Ext.setCell ?_ (by first | (simp; done) | (simp; omega) | omega) _) | (with_reducible apply Ext.alloc) | (with_reducible apply Ext.drew) | (with_reducible apply Ext.drewN) | (with_reducible exact Ext.refl _)))) (k1.ext (by repeat (first | (with_reducible assumption) | (with_reducible refine Ext.setCell ?_ (by first | (simp; done) | (simp; omega) | omega) _) | (with_reducible apply Ext.alloc) | (with_reducible apply Ext.drew) | (with_reducible apply Ext.drewN) | (with_reducible exact Ext.refl _))))).mono ?_
    rintro e w1 ⟨rfl, xw1⟩
    have Lw1 : Ext w w1 := Ext.trans (by repeat (first | (with_reducible assumption) | (with_reducible refine Ext.setCell ?_ (by first | (simp; done) | (simp; omega) | omega) _) | (with_reducible apply Ext.alloc) | (with_reducible apply Ext.drew) | (with_reducible apply Ext.drewN) | (with_reducible exact Ext.refl _))) xw1
    have Xw1 : Ext w w1 := Lw1
    have va0 : w1.cell? ⟨w.heap.size, 0, none⟩ = some (.int .i64 b1) := xw1.cell (by first | (simp; done) | ((repeat rw [World.cell?_alloc_lt _ _ _ (by simp <;> omega)]); simp; done) | (go_simp; done))
    have va1 : w1.cell? ⟨w.heap.size, 1, none⟩ = some (.slice a1 s1.length cp1) := xw1.cell (by first | (simp; done) | ((repeat rw [World.cell?_alloc_lt _ _ _ (by simp <;> omega)]); simp; done) | (go_simp; done))
    have va2 : w1.cell? ⟨w.heap.size, 2, none⟩ = some (.slice a2 t1.length cp2) := xw1.cell (by first | (simp; done) | ((repeat rw [World.cell?_alloc_lt _ _ _ (by simp <;> omega)]); simp; done) | (go_simp; done))
    have z_va : w.heap.size < w1.heap.size := World.block_lt_of_cell? _ _ va0
    have s_w1 : w.heap.size ≤ w1.heap.size := Xw1.size
    clear xw1
    rw [ha.out]
    go_wp2_with fail
    go_ret
    exact ⟨by rw [hr.out] <;> rfl, Xw1.trans (by repeat (first | (with_reducible assumption) | (with_reducible refine Ext.setCell ?_ (by first | (simp; done) | (simp; omega) | omega) _) | (with_reducible apply Ext.alloc) | (with_reducible apply Ext.drew) | (with_reducible apply Ext.drewN) | (with_reducible exact Ext.refl _)))⟩
  · cases hb : inB 0 60 x
    · have hr : Hid (fitA b1 s1 t1 x = false) := Lib.hid (by unfold fitA; rw [ha, hb]; rfl)
      replace ha := Lib.hid ha
      replace hb := Lib.hid hb
      go_enter Try.func15, Try.ntmps15
      go_wp2_with fail
      refine (validView_c b1 _ _ s1 t1 _ l1 m1 (h1.ext (by repeat (first | (with_reducible assumption) | (with_reducible refine Ext.setCell ?_ (by first | (simp; done) | (simp; omega) | omega) _) | (with_reducible apply Ext.alloc) | (with_reducible apply Ext.drew) | (with_reducible apply Ext.drewN) | (with_reducible exact Ext.refl _)))) (k1.ext (by repeat (first | (with_reducible assumption) | (with_reducible refine Ext.setCell ?_ (by first | (simp; done) | (simp; omega) | omega) _) | (with_reducible apply Ext.alloc) | (with_reducible apply Ext.drew) | (with_reducible apply Ext.drewN) | (with_reducible exact Ext.refl _))))).mono ?_
      rintro e w1 ⟨rfl, xw1⟩
      have Lw1 : Ext w w1 := Ext.trans (by repeat (first | (with_reducible assumption) | (with_reducible refine Ext.setCell ?_ (by first | (simp; done) | (simp; omega) | omega) _) | (with_reducible apply Ext.alloc) | (with_reducible apply Ext.drew) | (with_reducible apply Ext.drewN) | (with_reducible exact Ext.refl _))) xw1
      have Xw1 : Ext w w1 := Lw1
      have va0 : w1.cell? ⟨w.heap.size, 0, none⟩ = some (.int .i64 b1) := xw1.cell (by first | (simp; done) | ((repeat rw [World.cell?_alloc_lt _ _ _ (by simp <;> omega)]); simp; done) | (go_simp; done))
      have va1 : w1.cell? ⟨w.heap.size, 1, none⟩ = some (.slice a1 s1.length cp1) := xw1.cell (by first | (simp; done) | ((repeat rw [World.cell?_alloc_lt _ _ _ (by simp <;> omega)]); simp; done) | (go_simp; done))
      have va2 : w1.cell? ⟨w.heap.size, 2, none⟩ = some (.slice a2 t1.length cp2) := xw1.cell (by first | (simp; done) | ((repeat rw [World.cell?_alloc_lt _ _ _ (by simp <;> omega)]); simp; done) | (go_simp; done))
      have z_va : w.heap.size < w1.heap.size := World.block_lt_of_cell? _ _ va0
      have s_w1 : w.heap.size ≤ w1.heap.size := Xw1.size
      clear xw1
      rw [ha.out]
      go_wp2_with fail
      refine (inRange_c x 0 60 _).mono ?_
      rintro e w' ⟨rfl, rfl⟩
      rw [hb.out]
      go_wp2_with fail
      go_ret
      exact ⟨by rw [hr.out] <;> rfl, Xw1.trans (by repeat (first | (with_reducible assumption) | (with_reducible refine Ext.setCell ?_ (by first | (simp; done) | (simp; omega) | omega) _) | (with_reducible apply Ext.alloc) | (with_reducible apply Ext.drew) | (with_reducible apply Ext.drewN) | (with_reducible exact Ext.refl _)))⟩
    · have hr : Hid (fitA b1 s1 t1 x = fitB b1 s1 t1 x) := Lib.hid (by unfold fitA; rw [ha, hb]; rfl)
      have hx : 0 ≤ x ∧ x ≤ 60 := by unfold inB at hb; exact of_decide_eq_true hb
      replace ha := Lib.hid ha
      replace hb := Lib.hid hb
      go_enter Try.func15, Try.ntmps15
      go_wp2_with fail
      refine (validView_c b1 _ _ s1 t1 _ l1 m1 (h1.ext (by repeat (first | (with_reducible assumption) | (with_reducible refine Ext.setCell ?_ (by first | (simp; done) | (simp; omega) | omega) _) | (with_reducible apply Ext.alloc) | (with_reducible apply Ext.drew) | (with_reducible apply Ext.drewN) | (with_reducible exact Ext.refl _)))) (k1.ext (by repeat (first | (with_reducible assumption) | (with_reducible refine Ext.setCell ?_ (by first | (simp; done) | (simp; omega) | omega) _) | (with_reducible apply Ext.alloc) | (with_reducible apply Ext.drew) | (with_reducible apply Ext.drewN) | (with_reducible exact Ext.refl _))))).mono ?_
      rintro e w1 ⟨rfl, xw1⟩
      have Lw1 : Ext w w1 := Ext.trans (by repeat (first | (with_reducible assumption) | (with_reducible refine Ext.setCell ?_ (by first | (simp; done) | (simp; omega) | omega) _) | (with_reducible apply Ext.alloc) | (with_reducible apply Ext.drew) | (with_reducible apply Ext.drewN) | (with_reducible exact Ext.refl _))) xw1
      have Xw1 : Ext w w1 := Lw1
      have va0 : w1.cell? ⟨w.heap.size, 0, none⟩ = some (.int .i64 b1) := xw1.cell (by first | (simp; done) | ((repeat rw [World.cell?_alloc_lt _ _ _ (by simp <;> omega)]); simp; done) | (go_simp; done))
      have va1 : w1.cell? ⟨w.heap.size, 1, none⟩ = some (.slice a1 s1.length cp1) := xw1.cell (by first | (simp; done) | ((repeat rw [World.cell?_alloc_lt _ _ _ (by simp <;> omega)]); simp; done) | (go_simp; done))
      have va2 : w1.cell? ⟨w.heap.size, 2, none⟩ = some (.slice a2 t1.length cp2) := xw1.cell (by first | (simp; done) | ((repeat rw [World.cell?_alloc_lt _ _ _ (by simp <;> omega)]); simp; done) | (go_simp; done))
      have z_va : w.heap.size < w1.heap.size := World.block_lt_of_cell? _ _ va0
      have s_w1 : w.heap.size ≤ w1.heap.size := Xw1.size
      clear xw1
      rw [ha.out]
      go_wp2_with fail
      refine (inRange_c x 0 60 _).mono ?_
      rintro e w' ⟨rfl, rfl⟩
      rw [hb.out]
      go_wp2_with fail
      refine (fits_c b1 _ _ s1 t1 x _ l1 m1 (h1.ext (Xw1.trans (by repeat (first | (with_reducible assumption) | (with_reducible refine Ext.setCell ?_ (by first | (simp; done) | (simp; omega) | omega) _) | (with_reducible apply Ext.alloc) | (with_reducible apply Ext.drew) | (with_reducible apply Ext.drewN) | (with_reducible exact Ext.refl _))))) (k1.ext (Xw1.trans (by repeat (first | (with_reducible assumption) | (with_reducible refine Ext.setCell ?_ (by first | (simp; done) | (simp; omega) | omega) _) | (with_reducible apply Ext.alloc) | (with_reducible apply Ext.drew) | (with_reducible apply Ext.drewN) | (with_reducible exact Ext.refl _))))) ha.out (by omega) (by omega)).mono ?_
      rintro e w2 ⟨rfl, xw2⟩
      have Lw2 : Ext w1 w2 := Ext.trans (by repeat (first | (with_reducible assumption) | (with_reducible refine Ext.setCell ?_ (by first | (simp; done) | (simp; omega) | omega) _) | (with_reducible apply Ext.alloc) | (with_reducible apply Ext.drew) | (with_reducible apply Ext.drewN) | (with_reducible exact Ext.refl _))) xw2
      have Xw2 : Ext w w2 := Xw1.trans Lw2
      replace va0 := Lw2.cell va0
      replace va1 := Lw2.cell va1
      replace va2 := Lw2.cell va2
      have z_va : w.heap.size < w2.heap.size := World.block_lt_of_cell? _ _ va0
      have s_w2 : w.heap.size ≤ w2.heap.size := Xw2.size
      clear xw2
      go_wp2_with fail
      go_ret
      exact ⟨by rw [hr.out] <;> rfl, Xw2.trans (by repeat (first | (with_reducible assumption) | (with_reducible refine Ext.setCell ?_ (by first | (simp; done) | (simp; omega) | omega) _) | (with_reducible apply Ext.alloc) | (with_reducible apply Ext.drew) | (with_reducible apply Ext.drewN) | (with_reducible exact Ext.refl _)))⟩

def bndT (b : Int) (s t : List Int) : Int × Int := if viewB b s t && !(countL s == 0) then (minL (offsL b s t), maxL (offsL b s t)) else (-1, -1)
set_option maxHeartbeats 1600000 in
theorem implBoundsOf_c (b1 : Int) (u1 v1 : Value) (s1 t1 : List Int) (w : World) (l1 m1 : Nat) (h1 : Ints w l1 u1 s1) (k1 : Ints w m1 v1 t1) :
    Calls Try.prog 17 #[.agg #[.int .i64 b1, u1, v1]] w (fun e w' => e = .returned (.tuple #[.int .i64 (bndT b1 s1 t1).1, .int .i64 (bndT b1 s1 t1).2]) ∧ Ext w w') := by
  obtain ⟨a1, cp1, rfl⟩ := h1.form
  obtain ⟨a2, cp2, rfl⟩ := k1.form
  cases ha : viewB b1 s1 t1
  · have hr : Hid (bndT b1 s1 t1 = (-1, -1)) := Lib.hid (by unfold bndT; rw [ha]; rfl)
    replace ha := Lib.hid ha
    go_enter Try.func17, Try.ntmps17
    go_wp2_with fail
    refine (isView_c b1 _ _ s1 t1 _ l1 m1 (h1.ext (by repeat (first | (with_reducible assumption) | (with_reducible refine Ext.setCell ?_ (by first | (simp; done) | (simp; omega) | omega) _) | (with_reducible apply Ext.alloc) | (with_reducible apply Ext.drew) | (with_reducible apply Ext.drewN) | (with_reducible exact Ext.refl _)))) (k1.ext (by repeat (first | (with_reducible assumption) | (with_reducible refine Ext.setCell ?_ (by first | (simp; done) | (simp; omega) | omega) _) | (with_reducible apply Ext.alloc) | (with_reducible apply Ext.drew) | (with_reducible apply Ext.drewN) | (with_reducible exact Ext.refl _))))).mono ?_
    rintro e w1 ⟨rfl, xw1⟩
    have Lw1 : Ext w w1 := Ext.trans (by repeat (first | (with_reducible assumption) | (with_reducible refine Ext.setCell ?_ (by first | (simp; done) | (simp; omega) | omega) _) | (with_reducible apply Ext.alloc) | (with_reducible apply Ext.drew) | (with_reducible apply Ext.drewN) | (with_reducible exact Ext.refl _))) xw1
    have Xw1 : Ext w w1 := Lw1
    have va0 : w1.cell? ⟨w.heap.size, 0, none⟩ = some (.int .i64 b1) := xw1.cell (by first | (simp; done) | ((repeat rw [World.cell?_alloc_lt _ _ _ (by simp <;> omega)]); simp; done) | (go_simp; done))
    have va1 : w1.cell? ⟨w.heap.size, 1, none⟩ = some (.slice a1 s1.length cp1) := xw1.cell (by first | (simp; done) | ((repeat rw [World.cell?_alloc_lt _ _ _ (by simp <;> omega)]); simp; done) | (go_simp; done))
    have va2 : w1.cell? ⟨w.heap.size, 2, none⟩ = some (.slice a2 t1.length cp2) := xw1.cell (by first | (simp; done) | ((repeat rw [World.cell?_alloc_lt _ _ _ (by simp <;> omega)]); simp; done) | (go_simp; done))
    have z_va : w.heap.size < w1.heap.size := World.block_lt_of_cell? _ _ va0
    have s_w1 : w.heap.size ≤ w1.heap.size := Xw1.size
    clear xw1
    rw [ha.out]
    go_wp2_with fail
    go_ret2
    rw [hr.out]
    exact ⟨rfl, Xw1.trans (by repeat (first | (with_reducible assumption) | (with_reducible refine Ext.setCell ?_ (by first | (simp; done) | (simp; omega) | omega) _) | (with_reducible apply Ext.alloc) | (with_reducible apply Ext.drew) | (with_reducible apply Ext.drewN) | (with_reducible exact Ext.refl _)))⟩
  · cases hz : (countL s1 == 0)
    · have hr : Hid (bndT b1 s1 t1 = (minL (offsL b1 s1 t1), maxL (offsL b1 s1 t1))) := Lib.hid (by unfold bndT; rw [ha, hz]; rfl)
      obtain ⟨j1, j2, -⟩ := viewB_in ha
      have hin := Lib.hid (shapeB_in j1)
      have hj2 := Lib.hid j2
      have hne : Hid (offsL b1 s1 t1 ≠ []) := Lib.hid (min_lo ha (by simpa using hz)).2.2
      clear j1 j2
      replace ha := Lib.hid ha
      go_enter Try.func17, Try.ntmps17
      go_wp2_with fail
      refine (isView_c b1 _ _ s1 t1 _ l1 m1 (h1.ext (by repeat (first | (with_reducible assumption) | (with_reducible refine Ext.setCell ?_ (by first | (simp; done) | (simp; omega) | omega) _) | (with_reducible apply Ext.alloc) | (with_reducible apply Ext.drew) | (with_reducible apply Ext.drewN) | (with_reducible exact Ext.refl _)))) (k1.ext (by repeat (first | (with_reducible assumption) | (with_reducible refine Ext.setCell ?_ (by first | (simp; done) | (simp; omega) | omega) _) | (with_reducible apply Ext.alloc) | (with_reducible apply Ext.drew) | (with_reducible apply Ext.drewN) | (with_reducible exact Ext.refl _))))).mono ?_
      rintro e w1 ⟨rfl, xw1⟩
      have Lw1 : Ext w w1 := Ext.trans (by repeat (first | (with_reducible assumption) | (with_reducible refine Ext.setCell ?_ (by first | (simp; done) | (simp; omega) | omega) _) | (with_reducible apply Ext.alloc) | (with_reducible apply Ext.drew) | (with_reducible apply Ext.drewN) | (with_reducible exact Ext.refl _))) xw1
      have Xw1 : Ext w w1 := Lw1
      have va0 : w1.cell? ⟨w.heap.size, 0, none⟩ = some (.int .i64 b1) := xw1.cell (by first | (simp; done) | ((repeat rw [World.cell?_alloc_lt _ _ _ (by simp <;> omega)]); simp; done) | (go_simp; done))
      have va1 : w1.cell? ⟨w.heap.size, 1, none⟩ = some (.slice a1 s1.length cp1) := xw1.cell (by first | (simp; done) | ((repeat rw [World.cell?_alloc_lt _ _ _ (by simp <;> omega)]); simp; done) | (go_simp; done))
      have va2 : w1.cell? ⟨w.heap.size, 2, none⟩ = some (.slice a2 t1.length cp2) := xw1.cell (by first | (simp; done) | ((repeat rw [World.cell?_alloc_lt _ _ _ (by simp <;> omega)]); simp; done) | (go_simp; done))
      have z_va : w.heap.size < w1.heap.size := World.block_lt_of_cell? _ _ va0
      have s_w1 : w.heap.size ≤ w1.heap.size := Xw1.size
      clear xw1
      rw [ha.out]
      go_wp2_with fail
      refine (countOf_c s1 _ _ l1 (h1.ext (Xw1.trans (by repeat (first | (with_reducible assumption) | (with_reducible refine Ext.setCell ?_ (by first | (simp; done) | (simp; omega) | omega) _) | (with_reducible apply Ext.alloc) | (with_reducible apply Ext.drew) | (with_reducible apply Ext.drewN) | (with_reducible exact Ext.refl _)))))).mono ?_
      rintro e w' ⟨rfl, rfl⟩
      go_wp2_with fail
      refine (offsetsOf_c b1 _ _ s1 t1 _ l1 m1 (h1.ext (Xw1.trans (by repeat (first | (with_reducible assumption) | (with_reducible refine Ext.setCell ?_ (by first | (simp; done) | (simp; omega) | omega) _) | (with_reducible apply Ext.alloc) | (with_reducible apply Ext.drew) | (with_reducible apply Ext.drewN) | (with_reducible exact Ext.refl _))))) (k1.ext (Xw1.trans (by repeat (first | (with_reducible assumption) | (with_reducible refine Ext.setCell ?_ (by first | (simp; done) | (simp; omega) | omega) _) | (with_reducible apply Ext.alloc) | (with_reducible apply Ext.drew) | (with_reducible apply Ext.drewN) | (with_reducible exact Ext.refl _))))) (by have := hj2.out; omega) hin.out.2.2.2.2 (by have := hin.out; omega)).mono ?_
      rintro e w2 ⟨r, rfl, i, -, xw2⟩
      have Lw2 : Ext w1 w2 := Ext.trans (by repeat (first | (with_reducible assumption) | (with_reducible refine Ext.setCell ?_ (by first | (simp; done) | (simp; omega) | omega) _) | (with_reducible apply Ext.alloc) | (with_reducible apply Ext.drew) | (with_reducible apply Ext.drewN) | (with_reducible exact Ext.refl _))) xw2
      have Xw2 : Ext w w2 := Xw1.trans Lw2
      replace va0 := Lw2.cell va0
      replace va1 := Lw2.cell va1
      replace va2 := Lw2.cell va2
      have z_va : w.heap.size < w2.heap.size := World.block_lt_of_cell? _ _ va0
      have s_w2 : w.heap.size ≤ w2.heap.size := Xw2.size
      clear xw2
      go_wp2_with fail
      refine (min_c _ _ _ _ i hne.out).mono ?_
      rintro e w' ⟨rfl, rfl⟩
      go_wp2_with fail
      refine (max_c _ _ _ _ i hne.out).mono ?_
      rintro e w' ⟨rfl, rfl⟩
      go_wp2_with fail
      go_ret2
      rw [hr.out]
      exact ⟨rfl, Xw2.trans (by repeat (first | (with_reducible assumption) | (with_reducible refine Ext.setCell ?_ (by first | (simp; done) | (simp; omega) | omega) _) | (with_reducible apply Ext.alloc) | (with_reducible apply Ext.drew) | (with_reducible apply Ext.drewN) | (with_reducible exact Ext.refl _)))⟩
    · have hr : Hid (bndT b1 s1 t1 = (-1, -1)) := Lib.hid (by unfold bndT; rw [ha, hz]; rfl)
      replace ha := Lib.hid ha
      go_enter Try.func17, Try.ntmps17
      go_wp2_with fail
      refine (isView_c b1 _ _ s1 t1 _ l1 m1 (h1.ext (by repeat (first | (with_reducible assumption) | (with_reducible refine Ext.setCell ?_ (by first | (simp; done) | (simp; omega) | omega) _) | (with_reducible apply Ext.alloc) | (with_reducible apply Ext.drew) | (with_reducible apply Ext.drewN) | (with_reducible exact Ext.refl _)))) (k1.ext (by repeat (first | (with_reducible assumption) | (with_reducible refine Ext.setCell ?_ (by first | (simp; done) | (simp; omega) | omega) _) | (with_reducible apply Ext.alloc) | (with_reducible apply Ext.drew) | (with_reducible apply Ext.drewN) | (with_reducible exact Ext.refl _))))).mono ?_
      rintro e w1 ⟨rfl, xw1⟩
      have Lw1 : Ext w w1 := Ext.trans (by repeat (first | (with_reducible assumption) | (with_reducible refine Ext.setCell ?_ (by first | (simp; done) | (simp; omega) | omega) _) | (with_reducible apply Ext.alloc) | (with_reducible apply Ext.drew) | (with_reducible apply Ext.drewN) | (with_reducible exact Ext.refl _))) xw1
      have Xw1 : Ext w w1 := Lw1
      have va0 : w1.cell? ⟨w.heap.size, 0, none⟩ = some (.int .i64 b1) := xw1.cell (by first | (simp; done) | ((repeat rw [World.cell?_alloc_lt _ _ _ (by simp <;> omega)]); simp; done) | (go_simp; done))
      have va1 : w1.cell? ⟨w.heap.size, 1, none⟩ = some (.slice a1 s1.length cp1) := xw1.cell (by first | (simp; done) | ((repeat rw [World.cell?_alloc_lt _ _ _ (by simp <;> omega)]); simp; done) | (go_simp; done))
      have va2 : w1.cell? ⟨w.heap.size, 2, none⟩ = some (.slice a2 t1.length cp2) := xw1.cell (by first | (simp; done) | ((repeat rw [World.cell?_alloc_lt _ _ _ (by simp <;> omega)]); simp; done) | (go_simp; done))
      have z_va : w.heap.size < w1.heap.size := World.block_lt_of_cell? _ _ va0
      have s_w1 : w.heap.size ≤ w1.heap.size := Xw1.size
      clear xw1
      rw [ha.out]
      go_wp2_with fail
      refine (countOf_c s1 _ _ l1 (h1.ext (Xw1.trans (by repeat (first | (with_reducible assumption) | (with_reducible refine Ext.setCell ?_ (by first | (simp; done) | (simp; omega) | omega) _) | (with_reducible apply Ext.alloc) | (with_reducible apply Ext.drew) | (with_reducible apply Ext.drewN) | (with_reducible exact Ext.refl _)))))).mono ?_
      rintro e w' ⟨rfl, rfl⟩
      go_wp2_with fail
      go_ret2
      rw [hr.out]
      exact ⟨rfl, Xw1.trans (by repeat (first | (with_reducible assumption) | (with_reducible refine Ext.setCell ?_ (by first | (simp; done) | (simp; omega) | omega) _) | (with_reducible apply Ext.alloc) | (with_reducible apply Ext.drew) | (with_reducible apply Ext.drewN) | (with_reducible exact Ext.refl _)))⟩


end Go.Proofs.Ytnjaidgifccgjaa

/- Walks: DropOnes of the program. -/
namespace Go.Proofs.Ytnjaidgifccgjaa
open Go.RowKit
set_option linter.unusedVariables false
set_option maxRecDepth 100000


theorem dropS_take (s : List Int) (j : Nat) (h : j < s.length) : dropS (s.take (j+1)) = dropS (s.take j) ++ if s.getD j 0 = 1 then [] else [s.getD j 0] := by
  induction s generalizing j with
  | nil => simp at h
  | cons e s ih =>
    cases j with
    | zero => simp [dropS]
    | succ j =>
      have := ih j (by simpa using h)
      simp only [List.take_succ_cons, dropS, List.getD_cons_succ]
      by_cases he : e = 1
      · rw [if_pos he, if_pos he, this]
      · rw [if_neg he, if_neg he, this]; rfl
theorem dropT_take : ∀ (s t : List Int) (j : Nat), t.length = s.length → j < s.length → dropT (s.take (j+1)) (t.take (j+1)) = dropT (s.take j) (t.take j) ++ if s.getD j 0 = 1 then [] else [t.getD j 0]
  | [], _, j, _, h => by simp at h
  | e :: s, [], _, h, _ => by cases h
  | e :: s, x :: t, 0, _, _ => by by_cases he : e = 1 <;> simp [dropT, he]
  | e :: s, x :: t, j+1, hl, h => by
    have := dropT_take s t j (by simpa using hl) (by simpa using h)
    simp only [List.take_succ_cons, dropT, List.getD_cons_succ]
    by_cases he : e = 1
    · rw [if_pos he, if_pos he, this]
    · rw [if_neg he, if_neg he, this]; rfl
theorem dropT_le (s t : List Int) : (dropT s t).length ≤ s.length := by
  induction s generalizing t with
  | nil => cases t <;> simp [dropT]
  | cons e s ih =>
    cases t with
    | nil => simp [dropT]
    | cons x t => have := ih t; rw [dropT]; split <;> simp <;> omega
def dropV (b : Int) (s t : List Int) : Int × List Int × List Int := if viewB b s t then (b, dropS s, dropT s t) else (0, [], [])
set_option maxHeartbeats 6400000 in
theorem implDropOnes_c (b1 : Int) (u1 v1 : Value) (s1 t1 : List Int) (w : World) (l1 m1 : Nat) (h1 : Ints w l1 u1 s1) (k1 : Ints w m1 v1 t1) :
    Calls Try.prog 45 #[.agg #[.int .i64 b1, u1, v1]] w (PView w (dropV b1 s1 t1).1 (dropV b1 s1 t1).2.1 (dropV b1 s1 t1).2.2) := by
  obtain ⟨a1, cp1, rfl⟩ := h1.form
  obtain ⟨a2, cp2, rfl⟩ := k1.form
  cases ha : viewB b1 s1 t1
  · have hr : Hid (dropV b1 s1 t1 = (0, [], [])) := Lib.hid (by unfold dropV; rw [ha]; rfl)
    replace ha := Lib.hid ha
    go_enter Try.func45, Try.ntmps45
    go_wp2_with fail
    refine (isView_c b1 _ _ s1 t1 _ l1 m1 (h1.ext (by repeat (first | (with_reducible assumption) | (with_reducible refine Ext.setCell ?_ (by first | (simp; done) | (simp; omega) | omega) _) | (with_reducible apply Ext.alloc) | (with_reducible apply Ext.drew) | (with_reducible apply Ext.drewN) | (with_reducible exact Ext.refl _)))) (k1.ext (by repeat (first | (with_reducible assumption) | (with_reducible refine Ext.setCell ?_ (by first | (simp; done) | (simp; omega) | omega) _) | (with_reducible apply Ext.alloc) | (with_reducible apply Ext.drew) | (with_reducible apply Ext.drewN) | (with_reducible exact Ext.refl _))))).mono ?_
    rintro e w1 ⟨rfl, xw1⟩
    have Lw1 : Ext w w1 := Ext.trans (by repeat (first | (with_reducible assumption) | (with_reducible refine Ext.setCell ?_ (by first | (simp; done) | (simp; omega) | omega) _) | (with_reducible apply Ext.alloc) | (with_reducible apply Ext.drew) | (with_reducible apply Ext.drewN) | (with_reducible exact Ext.refl _))) xw1
    have Xw1 : Ext w w1 := Lw1
    have va0 : w1.cell? ⟨w.heap.size, 0, none⟩ = some (.int .i64 b1) := xw1.cell (by first | (simp; done) | ((repeat rw [World.cell?_alloc_lt _ _ _ (by simp <;> omega)]); simp; done) | (go_simp; done))
    have va1 : w1.cell? ⟨w.heap.size, 1, none⟩ = some (.slice a1 s1.length cp1) := xw1.cell (by first | (simp; done) | ((repeat rw [World.cell?_alloc_lt _ _ _ (by simp <;> omega)]); simp; done) | (go_simp; done))
    have va2 : w1.cell? ⟨w.heap.size, 2, none⟩ = some (.slice a2 t1.length cp2) := xw1.cell (by first | (simp; done) | ((repeat rw [World.cell?_alloc_lt _ _ _ (by simp <;> omega)]); simp; done) | (go_simp; done))
    have q0 : w1.cell? ⟨w.heap.size + 1, 0, none⟩ = some (.int .i64 0) := xw1.cell (by first | (simp; done) | ((repeat rw [World.cell?_alloc_lt _ _ _ (by simp <;> omega)]); simp; done) | (go_simp; done))
    have q1 : w1.cell? ⟨w.heap.size + 1, 1, none⟩ = some (.slice none 0 0) := xw1.cell (by first | (simp; done) | ((repeat rw [World.cell?_alloc_lt _ _ _ (by simp <;> omega)]); simp; done) | (go_simp; done))
    have q2 : w1.cell? ⟨w.heap.size + 1, 2, none⟩ = some (.slice none 0 0) := xw1.cell (by first | (simp; done) | ((repeat rw [World.cell?_alloc_lt _ _ _ (by simp <;> omega)]); simp; done) | (go_simp; done))
    have f_q0 : w1.frozen? ⟨w.heap.size + 1, 0, none⟩ = false := xw1.frz (by simp <;> omega) (by first | (simp; done) | (go_simp; done))
    have f_q1 : w1.frozen? ⟨w.heap.size + 1, 1, none⟩ = false := xw1.frz (by simp <;> omega) (by first | (simp; done) | (go_simp; done))
    have f_q2 : w1.frozen? ⟨w.heap.size + 1, 2, none⟩ = false := xw1.frz (by simp <;> omega) (by first | (simp; done) | (go_simp; done))
    have z_va : w.heap.size < w1.heap.size := World.block_lt_of_cell? _ _ va0
    have z_q : w.heap.size + 1 < w1.heap.size := World.block_lt_of_cell? _ _ q0
    have s_w1 : w.heap.size ≤ w1.heap.size := Xw1.size
    clear xw1
    rw [ha.out]
    go_wp2_with fail
    refine bodyPost_ret (v := .agg #[.int .i64 0, .slice none 0 0, .slice none 0 0]) (by simp only [results, Try.results45]; go_simp) rfl ?_
    rw [hr.out]
    exact PView.no (by repeat (first | (with_reducible assumption) | (with_reducible refine Ext.setCell ?_ (by first | (simp; done) | (simp; omega) | omega) _) | (with_reducible apply Ext.alloc) | (with_reducible apply Ext.drew) | (with_reducible apply Ext.drewN) | (with_reducible exact Ext.refl _)))
  · have hr : Hid (dropV b1 s1 t1 = (b1, dropS s1, dropT s1 t1)) := Lib.hid (by unfold dropV; rw [ha]; rfl)
    have ht := (viewB_in ha).2.1
    have j4 := (shapeB_in (viewB_in ha).1).1
    replace ha := Lib.hid ha
    replace ht := Lib.hid ht
    go_enter Try.func45, Try.ntmps45
    go_wp2_with fail
    refine (isView_c b1 _ _ s1 t1 _ l1 m1 (h1.ext (by repeat (first | (with_reducible assumption) | (with_reducible refine Ext.setCell ?_ (by first | (simp; done) | (simp; omega) | omega) _) | (with_reducible apply Ext.alloc) | (with_reducible apply Ext.drew) | (with_reducible apply Ext.drewN) | (with_reducible exact Ext.refl _)))) (k1.ext (by repeat (first | (with_reducible assumption) | (with_reducible refine Ext.setCell ?_ (by first | (simp; done) | (simp; omega) | omega) _) | (with_reducible apply Ext.alloc) | (with_reducible apply Ext.drew) | (with_reducible apply Ext.drewN) | (with_reducible exact Ext.refl _))))).mono ?_
    rintro e w1 ⟨rfl, xw1⟩
    have Lw1 : Ext w w1 := Ext.trans (by repeat (first | (with_reducible assumption) | (with_reducible refine Ext.setCell ?_ (by first | (simp; done) | (simp; omega) | omega) _) | (with_reducible apply Ext.alloc) | (with_reducible apply Ext.drew) | (with_reducible apply Ext.drewN) | (with_reducible exact Ext.refl _))) xw1
    have Xw1 : Ext w w1 := Lw1
    have va0 : w1.cell? ⟨w.heap.size, 0, none⟩ = some (.int .i64 b1) := xw1.cell (by first | (simp; done) | ((repeat rw [World.cell?_alloc_lt _ _ _ (by simp <;> omega)]); simp; done) | (go_simp; done))
    have va1 : w1.cell? ⟨w.heap.size, 1, none⟩ = some (.slice a1 s1.length cp1) := xw1.cell (by first | (simp; done) | ((repeat rw [World.cell?_alloc_lt _ _ _ (by simp <;> omega)]); simp; done) | (go_simp; done))
    have va2 : w1.cell? ⟨w.heap.size, 2, none⟩ = some (.slice a2 t1.length cp2) := xw1.cell (by first | (simp; done) | ((repeat rw [World.cell?_alloc_lt _ _ _ (by simp <;> omega)]); simp; done) | (go_simp; done))
    have q0 : w1.cell? ⟨w.heap.size + 1, 0, none⟩ = some (.int .i64 0) := xw1.cell (by first | (simp; done) | ((repeat rw [World.cell?_alloc_lt _ _ _ (by simp <;> omega)]); simp; done) | (go_simp; done))
    have q1 : w1.cell? ⟨w.heap.size + 1, 1, none⟩ = some (.slice none 0 0) := xw1.cell (by first | (simp; done) | ((repeat rw [World.cell?_alloc_lt _ _ _ (by simp <;> omega)]); simp; done) | (go_simp; done))
    have q2 : w1.cell? ⟨w.heap.size + 1, 2, none⟩ = some (.slice none 0 0) := xw1.cell (by first | (simp; done) | ((repeat rw [World.cell?_alloc_lt _ _ _ (by simp <;> omega)]); simp; done) | (go_simp; done))
    have f_q0 : w1.frozen? ⟨w.heap.size + 1, 0, none⟩ = false := xw1.frz (by simp <;> omega) (by first | (simp; done) | (go_simp; done))
    have f_q1 : w1.frozen? ⟨w.heap.size + 1, 1, none⟩ = false := xw1.frz (by simp <;> omega) (by first | (simp; done) | (go_simp; done))
    have f_q2 : w1.frozen? ⟨w.heap.size + 1, 2, none⟩ = false := xw1.frz (by simp <;> omega) (by first | (simp; done) | (go_simp; done))
    have z_va : w.heap.size < w1.heap.size := World.block_lt_of_cell? _ _ va0
    have z_q : w.heap.size + 1 < w1.heap.size := World.block_lt_of_cell? _ _ q0
    have s_w1 : w.heap.size ≤ w1.heap.size := Xw1.size
    clear xw1
    rw [ha.out]
    go_wp2_with fail
    have Lw2 : Ext w1 (w1.alloc (.cells #[.int .i64 b1, .slice none 0 0, .slice none 0 0] 25)) := (by repeat (first | (with_reducible assumption) | (with_reducible refine Ext.setCell ?_ (by first | (simp; done) | (simp; omega) | omega) _) | (with_reducible apply Ext.alloc) | (with_reducible apply Ext.drew) | (with_reducible apply Ext.drewN) | (with_reducible exact Ext.refl _)))
    have Xw2 : Ext w (w1.alloc (.cells #[.int .i64 b1, .slice none 0 0, .slice none 0 0] 25)) := Xw1.trans Lw2
    replace va0 := Lw2.cell va0
    replace va1 := Lw2.cell va1
    replace va2 := Lw2.cell va2
    replace q0 := Lw2.cell q0
    replace q1 := Lw2.cell q1
    replace q2 := Lw2.cell q2
    replace f_q0 := Lw2.frz z_q f_q0
    replace f_q1 := Lw2.frz z_q f_q1
    replace f_q2 := Lw2.frz z_q f_q2
    have ou0 : (w1.alloc (.cells #[.int .i64 b1, .slice none 0 0, .slice none 0 0] 25)).cell? ⟨w1.heap.size, 0, none⟩ = some (.int .i64 b1) := (by first | (simp; done) | ((repeat rw [World.cell?_alloc_lt _ _ _ (by simp <;> omega)]); simp; done) | (go_simp; done))
    have ou1 : (w1.alloc (.cells #[.int .i64 b1, .slice none 0 0, .slice none 0 0] 25)).cell? ⟨w1.heap.size, 1, none⟩ = some (.slice none 0 0) := (by first | (simp; done) | ((repeat rw [World.cell?_alloc_lt _ _ _ (by simp <;> omega)]); simp; done) | (go_simp; done))
    have ou2 : (w1.alloc (.cells #[.int .i64 b1, .slice none 0 0, .slice none 0 0] 25)).cell? ⟨w1.heap.size, 2, none⟩ = some (.slice none 0 0) := (by first | (simp; done) | ((repeat rw [World.cell?_alloc_lt _ _ _ (by simp <;> omega)]); simp; done) | (go_simp; done))
    have f_ou0 : (w1.alloc (.cells #[.int .i64 b1, .slice none 0 0, .slice none 0 0] 25)).frozen? ⟨w1.heap.size, 0, none⟩ = false := (by first | (simp; done) | (go_simp; done))
    have f_ou1 : (w1.alloc (.cells #[.int .i64 b1, .slice none 0 0, .slice none 0 0] 25)).frozen? ⟨w1.heap.size, 1, none⟩ = false := (by first | (simp; done) | (go_simp; done))
    have f_ou2 : (w1.alloc (.cells #[.int .i64 b1, .slice none 0 0, .slice none 0 0] 25)).frozen? ⟨w1.heap.size, 2, none⟩ = false := (by first | (simp; done) | (go_simp; done))
    have z_va : w.heap.size < (w1.alloc (.cells #[.int .i64 b1, .slice none 0 0, .slice none 0 0] 25)).heap.size := World.block_lt_of_cell? _ _ va0
    have z_q : w.heap.size + 1 < (w1.alloc (.cells #[.int .i64 b1, .slice none 0 0, .slice none 0 0] 25)).heap.size := World.block_lt_of_cell? _ _ q0
    have z_ou : w1.heap.size < (w1.alloc (.cells #[.int .i64 b1, .slice none 0 0, .slice none 0 0] 25)).heap.size := World.block_lt_of_cell? _ _ ou0
    have s_w2 : w.heap.size ≤ (w1.alloc (.cells #[.int .i64 b1, .slice none 0 0, .slice none 0 0] 25)).heap.size := Xw2.size
    generalize w1.alloc (.cells #[.int .i64 b1, .slice none 0 0, .slice none 0 0] 25) = w2 at *
    have hzo : w.heap.size + 1 < w1.heap.size := by omega
    generalize w1.heap.size = go at *
    go_loopw [16] (fun i wr => ∃ (j : Nat) (p1 p2 : Value), j ≤ s1.length ∧ i = .int .i64 j ∧ Two (go + 1) wr p1 p2 (dropS (s1.take j)) (dropT (s1.take j) (t1.take j)) ∧ Ext w wr ∧ wr.cell? ⟨w.heap.size, 0, none⟩ = some (.int .i64 b1) ∧ wr.cell? ⟨w.heap.size, 1, none⟩ = some (.slice a1 s1.length cp1) ∧ wr.cell? ⟨w.heap.size, 2, none⟩ = some (.slice a2 t1.length cp2) ∧ wr.cell? ⟨w.heap.size + 1, 0, none⟩ = some (.int .i64 0) ∧ wr.cell? ⟨w.heap.size + 1, 1, none⟩ = some (.slice none 0 0) ∧ wr.cell? ⟨w.heap.size + 1, 2, none⟩ = some (.slice none 0 0) ∧ wr.frozen? ⟨w.heap.size + 1, 0, none⟩ = false ∧ wr.frozen? ⟨w.heap.size + 1, 1, none⟩ = false ∧ wr.frozen? ⟨w.heap.size + 1, 2, none⟩ = false ∧ wr.cell? ⟨go, 0, none⟩ = some (.int .i64 b1) ∧ wr.cell? ⟨go, 1, none⟩ = some (p1) ∧ wr.cell? ⟨go, 2, none⟩ = some (p2) ∧ wr.frozen? ⟨go, 0, none⟩ = false ∧ wr.frozen? ⟨go, 1, none⟩ = false ∧ wr.frozen? ⟨go, 2, none⟩ = false) (fun i _ => s1.length - (intOf i).toNat)
    case atStart => exact ⟨0, _, _, Nat.zero_le _, rfl, by simpa [dropS, dropT] using Two.nil (by omega), Xw2, va0, va1, va2, q0, q1, q2, f_q0, f_q1, f_q2, ou0, ou1, ou2, f_ou0, f_ou1, f_ou2⟩
    case round =>
      obtain ⟨j, p1, p2, hj, rfl, T, Xr, va0, va1, va2, q0, q1, q2, f_q0, f_q1, f_q2, ou0, ou1, ou2, f_ou0, f_ou1, f_ou2⟩ := hrel
      have hTs := T.size
      by_cases hlt : j < s1.length
      · have hI : (j : Int) < s1.length := by omega
        obtain ⟨b1s, o1s, rfl, hc1⟩ := h1.at j hlt
        obtain ⟨b2s, o2s, rfl, hc2⟩ := k1.at j (by have := ht.out; omega)
        have htI : (j : Int) < t1.length := by have := ht.out; omega
        have hs1 := dropS_take s1 j hlt
        have hs2 := dropT_take s1 t1 j ht.out hlt
        have tl1 : (dropS (s1.take j)).length ≤ 4 := by have := dropS_len (s1.take j); simp at this; omega
        have tl2 : (dropT (s1.take j) (t1.take j)).length ≤ 4 := by have := dropT_le (s1.take j) (t1.take j); simp at this; omega
        have hy1 : b1s < w.heap.size := World.block_lt_of_cell? _ _ hc1
        have hy2 : b2s < w.heap.size := World.block_lt_of_cell? _ _ hc2
        generalize s1.getD j 0 = xs at *
        generalize t1.getD j 0 = xt at *
        have es0 := Xr.cell hc1
        have et0 := Xr.cell hc2
        clear hc1 hc2
        have z_va : w.heap.size < wr.heap.size := World.block_lt_of_cell? _ _ va0
        have z_q : w.heap.size + 1 < wr.heap.size := World.block_lt_of_cell? _ _ q0
        have z_ou : go < wr.heap.size := World.block_lt_of_cell? _ _ ou0
        have z_es : b1s < wr.heap.size := World.block_lt_of_cell? _ _ es0
        have z_et : b2s < wr.heap.size := World.block_lt_of_cell? _ _ et0
        by_cases hx1 : xs = 1
        · rw [if_pos hx1, List.append_nil] at hs1 hs2
          replace hs1 := Lib.hid hs1
          replace hs2 := Lib.hid hs2
          have hxb : (xs != 1) = false := by simpa using hx1
          have hxb2 : (xs == 1) = true := by simpa using hx1
          replace hx1 := Lib.hid hx1
          go_wp2_with fail
          go_roundw
          case rel => exact ⟨j + 1, _, _, by omega, by go_num, by rw [hs1.out, hs2.out]; exact T, Xr, va0, va1, va2, q0, q1, q2, f_q0, f_q1, f_q2, ou0, ou1, ou2, f_ou0, f_ou1, f_ou2⟩
          case measure => simp [intOf]; omega
        · rw [if_neg hx1] at hs1 hs2
          replace hs1 := Lib.hid hs1
          replace hs2 := Lib.hid hs2
          have hxb : (xs != 1) = true := by simpa using hx1
          have hxb2 : (xs == 1) = false := by simpa using hx1
          clear hx1
          go_wp2_with (
            at_builtin
            refine wpList_app rfl (.tmp 24) (.tmp 26) rfl rfl rfl (T.o1.ext ((Ext.refl _).alloc _)) (Ints.one _ 0 _ (Nat.zero_le _)) (by have := tl1; simp only [List.length_cons, List.length_nil]; omega) (by simp <;> omega) ?_
            intro vw3 w3 ho hgr hbl hvb
            obtain ⟨pa_w3, pn_w3, pc_w3, rfl⟩ := ho.any
            have Ew3 : Ext wr (wr.alloc (.cells #[.int .i64 (xs)] 3)) := (by repeat (first | (with_reducible assumption) | (with_reducible refine Ext.setCell ?_ (by first | (simp; done) | (simp; omega) | omega) _) | (with_reducible apply Ext.alloc) | (with_reducible apply Ext.drew) | (with_reducible apply Ext.drewN) | (with_reducible exact Ext.refl _)))
            have Xw3 : Ext w w3 := Ext.below (Xr.trans Ew3) hbl (by omega)
            replace va0 := below_cell hbl (by omega) (Ew3.cell va0)
            replace va1 := below_cell hbl (by omega) (Ew3.cell va1)
            replace va2 := below_cell hbl (by omega) (Ew3.cell va2)
            replace q0 := below_cell hbl (by omega) (Ew3.cell q0)
            replace f_q0 := below_frz hbl (by omega) (Ew3.frz z_q f_q0)
            replace q1 := below_cell hbl (by omega) (Ew3.cell q1)
            replace f_q1 := below_frz hbl (by omega) (Ew3.frz z_q f_q1)
            replace q2 := below_cell hbl (by omega) (Ew3.cell q2)
            replace f_q2 := below_frz hbl (by omega) (Ew3.frz z_q f_q2)
            replace ou0 := below_cell hbl (by omega) (Ew3.cell ou0)
            replace f_ou0 := below_frz hbl (by omega) (Ew3.frz z_ou f_ou0)
            replace ou1 := below_cell hbl (by omega) (Ew3.cell ou1)
            replace f_ou1 := below_frz hbl (by omega) (Ew3.frz z_ou f_ou1)
            replace ou2 := below_cell hbl (by omega) (Ew3.cell ou2)
            replace f_ou2 := below_frz hbl (by omega) (Ew3.frz z_ou f_ou2)
            replace es0 := below_cell hbl (by omega) (Ew3.cell es0)
            replace et0 := below_cell hbl (by omega) (Ew3.cell et0)
            have z_va : w.heap.size < w3.heap.size := World.block_lt_of_cell? _ _ va0
            have z_q : w.heap.size + 1 < w3.heap.size := World.block_lt_of_cell? _ _ q0
            have z_ou : go < w3.heap.size := World.block_lt_of_cell? _ _ ou0
            have z_es : b1s < w3.heap.size := World.block_lt_of_cell? _ _ es0
            have z_et : b2s < w3.heap.size := World.block_lt_of_cell? _ _ et0
            replace T := (T.ext Ew3).app1 ho hgr hvb
            have s_w3 : w.heap.size ≤ w3.heap.size := Xw3.size
            clear ho hgr hbl hvb Ew3)
          have Kw4 : Chg (go) (go + 1) w3 (w3.setCell ⟨go, 1, none⟩ (.slice pa_w3 pn_w3 pc_w3)) := (Chg.setCell (p := ⟨go, 1, none⟩) (Chg.refl (go) (go + 1) _) (Nat.le_refl _) (Nat.lt_succ_self _) (.slice pa_w3 pn_w3 pc_w3))
          have Xw4 : Ext w (w3.setCell ⟨go, 1, none⟩ (.slice pa_w3 pn_w3 pc_w3)) := (Ext.setCell (p := ⟨go, 1, none⟩) Xw3 (by first | (simp; done) | (simp; omega) | omega) (.slice pa_w3 pn_w3 pc_w3))
          replace va0 := Kw4.cell (by omega) va0
          replace va1 := Kw4.cell (by omega) va1
          replace va2 := Kw4.cell (by omega) va2
          replace q0 := Kw4.cell (by omega) q0
          replace f_q0 := Kw4.frzO (by omega) z_q f_q0
          replace q1 := Kw4.cell (by omega) q1
          replace f_q1 := Kw4.frzO (by omega) z_q f_q1
          replace q2 := Kw4.cell (by omega) q2
          replace f_q2 := Kw4.frzO (by omega) z_q f_q2
          have n_ou0 : (w3.setCell ⟨go, 1, none⟩ (.slice pa_w3 pn_w3 pc_w3)).cell? ⟨go, 0, none⟩ = some (.int .i64 b1) := by go_simp
          have n_f_ou0 : (w3.setCell ⟨go, 1, none⟩ (.slice pa_w3 pn_w3 pc_w3)).frozen? ⟨go, 0, none⟩ = false := by go_simp
          have n_ou1 : (w3.setCell ⟨go, 1, none⟩ (.slice pa_w3 pn_w3 pc_w3)).cell? ⟨go, 1, none⟩ = some (.slice pa_w3 pn_w3 pc_w3) := by go_simp
          have n_f_ou1 : (w3.setCell ⟨go, 1, none⟩ (.slice pa_w3 pn_w3 pc_w3)).frozen? ⟨go, 1, none⟩ = false := by go_simp
          have n_ou2 : (w3.setCell ⟨go, 1, none⟩ (.slice pa_w3 pn_w3 pc_w3)).cell? ⟨go, 2, none⟩ = some (p2) := by go_simp
          have n_f_ou2 : (w3.setCell ⟨go, 1, none⟩ (.slice pa_w3 pn_w3 pc_w3)).frozen? ⟨go, 2, none⟩ = false := by go_simp
          replace ou0 := n_ou0
          clear n_ou0
          replace f_ou0 := n_f_ou0
          clear n_f_ou0
          replace ou1 := n_ou1
          clear n_ou1
          replace f_ou1 := n_f_ou1
          clear n_f_ou1
          replace ou2 := n_ou2
          clear n_ou2
          replace f_ou2 := n_f_ou2
          clear n_f_ou2
          replace es0 := Kw4.cell (by omega) es0
          replace et0 := Kw4.cell (by omega) et0
          replace T := T.chg Kw4 (by omega)
          clear Kw4
          have z_va : w.heap.size < (w3.setCell ⟨go, 1, none⟩ (.slice pa_w3 pn_w3 pc_w3)).heap.size := World.block_lt_of_cell? _ _ va0
          have z_q : w.heap.size + 1 < (w3.setCell ⟨go, 1, none⟩ (.slice pa_w3 pn_w3 pc_w3)).heap.size := World.block_lt_of_cell? _ _ q0
          have z_ou : go < (w3.setCell ⟨go, 1, none⟩ (.slice pa_w3 pn_w3 pc_w3)).heap.size := World.block_lt_of_cell? _ _ ou0
          have z_es : b1s < (w3.setCell ⟨go, 1, none⟩ (.slice pa_w3 pn_w3 pc_w3)).heap.size := World.block_lt_of_cell? _ _ es0
          have z_et : b2s < (w3.setCell ⟨go, 1, none⟩ (.slice pa_w3 pn_w3 pc_w3)).heap.size := World.block_lt_of_cell? _ _ et0
          have s_w4 : w.heap.size ≤ (w3.setCell ⟨go, 1, none⟩ (.slice pa_w3 pn_w3 pc_w3)).heap.size := Xw4.size
          generalize (w3.setCell ⟨go, 1, none⟩ (.slice pa_w3 pn_w3 pc_w3)) = w4 at *
          go_wp2_with fail
          refine wp_region_tail (S := fun w' => w'.cell? ⟨w.heap.size, 2, none⟩ = some (.slice (some ⟨b2s, o2s, none⟩) t1.length cp2) ∧ w'.cell? ⟨go, 2, none⟩ = some (p2) ∧ w'.cell? ⟨b2s, o2s + j, none⟩ = some (.int .i64 xt)) (fun i => decide (10 ≤ i)) (by kernel_rfl) ⟨va2, ou2, et0⟩ (fun hHeld => ?_)
          refine wpTail_take (i := 0) (v := ?_) rfl (by kernel_rfl) (by kernel_rfl) (by kernel_rfl) rfl (by kernel_rfl) (fun _ _ _ h => h) (Or.inl ⟨by rfl, ?_⟩) (by assumption) ?_
          rotate_left
          · (intro w hSw; (try dsimp only at hSw); go_simp; try with_reducible rfl)
          try simp only [Act.put, List.setIfInBounds_toArray, List.set_cons_zero, List.set_cons_succ, List.getElem_toArray, List.getElem_cons_succ, List.getElem_cons_zero]
          refine wpTail_take (i := 1) (v := ?_) rfl (by kernel_rfl) (by kernel_rfl) (by kernel_rfl) rfl (by kernel_rfl) (fun _ _ _ h => h) (Or.inl ⟨by rfl, ?_⟩) (by assumption) ?_
          rotate_left
          · (intro w hSw; (try dsimp only at hSw); go_simp; try with_reducible rfl)
          try simp only [Act.put, List.setIfInBounds_toArray, List.set_cons_zero, List.set_cons_succ, List.getElem_toArray, List.getElem_cons_succ, List.getElem_cons_zero]
          refine wpTail_take (i := 2) (v := ?_) rfl (by kernel_rfl) (by kernel_rfl) (by kernel_rfl) rfl (by kernel_rfl) (fun _ _ _ h => h) (Or.inl ⟨by rfl, ?_⟩) (by assumption) ?_
          rotate_left
          · (intro w hSw; (try dsimp only at hSw); go_simp; try with_reducible rfl)
          try simp only [Act.put, List.setIfInBounds_toArray, List.set_cons_zero, List.set_cons_succ, List.getElem_toArray, List.getElem_cons_succ, List.getElem_cons_zero]
          refine wpTail_take (i := 3) (v := ?_) rfl (by kernel_rfl) (by kernel_rfl) (by kernel_rfl) rfl (by kernel_rfl) (fun _ _ _ h => h) (Or.inl ⟨by rfl, ?_⟩) (by assumption) ?_
          rotate_left
          · (intro w hSw; (try dsimp only at hSw); go_simp; try with_reducible rfl)
          try simp only [Act.put, List.setIfInBounds_toArray, List.set_cons_zero, List.set_cons_succ, List.getElem_toArray, List.getElem_cons_succ, List.getElem_cons_zero]
          refine wpTail_take (i := 4) (v := ?_) rfl (by kernel_rfl) (by kernel_rfl) (by kernel_rfl) rfl (by kernel_rfl) (fun _ _ _ h => h) (Or.inl ⟨by rfl, ?_⟩) (by assumption) ?_
          rotate_left
          · (intro w hSw; (try dsimp only at hSw); go_simp; try with_reducible rfl)
          try simp only [Act.put, List.setIfInBounds_toArray, List.set_cons_zero, List.set_cons_succ, List.getElem_toArray, List.getElem_cons_succ, List.getElem_cons_zero]
          refine wpTail_take (i := 5) (v := ?_) rfl (by kernel_rfl) (by kernel_rfl) (by kernel_rfl) rfl (by kernel_rfl) (fun _ _ _ h => h) (Or.inl ⟨by rfl, ?_⟩) (by assumption) ?_
          rotate_left
          · (intro w hSw; (try dsimp only at hSw); go_simp; try with_reducible rfl)
          try simp only [Act.put, List.setIfInBounds_toArray, List.set_cons_zero, List.set_cons_succ, List.getElem_toArray, List.getElem_cons_succ, List.getElem_cons_zero]
          refine wpTail_take (i := 6) (v := ?_) rfl (by kernel_rfl) (by kernel_rfl) (by kernel_rfl) rfl (by kernel_rfl) (fun _ _ _ h => h) (Or.inl ⟨by rfl, ?_⟩) (by assumption) ?_
          rotate_left
          · (intro w hSw; (try dsimp only at hSw); go_simp; try with_reducible rfl)
          try simp only [Act.put, List.setIfInBounds_toArray, List.set_cons_zero, List.set_cons_succ, List.getElem_toArray, List.getElem_cons_succ, List.getElem_cons_zero]
          refine wpTail_one (i := 7) (by kernel_rfl) rfl rfl (fun K hK => ?_)
          try simp only [Act.put, List.setIfInBounds_toArray, List.set_cons_zero, List.set_cons_succ, List.getElem_toArray, List.getElem_cons_succ, List.getElem_cons_zero]
          go_simp
          refine hK.out _ _ ⟨Ext.cell (w := w4) (by repeat (first | (with_reducible assumption) | (with_reducible refine Ext.setCell ?_ (by first | (simp; done) | (simp; omega) | omega) _) | (with_reducible apply Ext.alloc) | (with_reducible apply Ext.drew) | (with_reducible apply Ext.drewN) | (with_reducible exact Ext.refl _))) va2, Ext.cell (w := w4) (by repeat (first | (with_reducible assumption) | (with_reducible refine Ext.setCell ?_ (by first | (simp; done) | (simp; omega) | omega) _) | (with_reducible apply Ext.alloc) | (with_reducible apply Ext.drew) | (with_reducible apply Ext.drewN) | (with_reducible exact Ext.refl _))) ou2, Ext.cell (w := w4) (by repeat (first | (with_reducible assumption) | (with_reducible refine Ext.setCell ?_ (by first | (simp; done) | (simp; omega) | omega) _) | (with_reducible apply Ext.alloc) | (with_reducible apply Ext.drew) | (with_reducible apply Ext.drewN) | (with_reducible exact Ext.refl _))) et0⟩ (fun hHeld => ?_)
          clear hK K
          try simp only [Act.put, List.setIfInBounds_toArray, List.set_cons_zero, List.set_cons_succ, List.getElem_toArray, List.getElem_cons_succ, List.getElem_cons_zero]
          refine wpTail_one (i := 8) (by kernel_rfl) rfl rfl (fun K hK => ?_)
          have Ew5 : Ext w4 ((w4.drew).alloc (.cells #[.int .i64 (xt)] 3)) := (by repeat (first | (with_reducible assumption) | (with_reducible refine Ext.setCell ?_ (by first | (simp; done) | (simp; omega) | omega) _) | (with_reducible apply Ext.alloc) | (with_reducible apply Ext.drew) | (with_reducible apply Ext.drewN) | (with_reducible exact Ext.refl _)))
          have Sw5 : Ints ((w4.drew).alloc (.cells #[.int .i64 (xt)] 3)) 0 (.slice (some ⟨w4.heap.size, 0, none⟩) 1 1) [xt] := by simpa using Ints.one w4.drew 0 (xt) (Nat.zero_le _)
          refine step_app rfl (.tmp 30) (.tmp 36) rfl rfl rfl (by exact T.o2.ext Ew5) (by exact Sw5) (by have := tl2; simp only [List.length_cons, List.length_nil]; omega) (by simp <;> omega) ?_
          intro vw5 w5 ho hgr hbl hvb
          obtain ⟨pa_w5, pn_w5, pc_w5, rfl⟩ := ho.any
          have Xw5 : Ext w w5 := Ext.below (Xw4.trans Ew5) hbl (by omega)
          replace va0 := below_cell hbl (by omega) (Ew5.cell va0)
          replace va1 := below_cell hbl (by omega) (Ew5.cell va1)
          replace va2 := below_cell hbl (by omega) (Ew5.cell va2)
          replace q0 := below_cell hbl (by omega) (Ew5.cell q0)
          replace f_q0 := below_frz hbl (by omega) (Ew5.frz z_q f_q0)
          replace q1 := below_cell hbl (by omega) (Ew5.cell q1)
          replace f_q1 := below_frz hbl (by omega) (Ew5.frz z_q f_q1)
          replace q2 := below_cell hbl (by omega) (Ew5.cell q2)
          replace f_q2 := below_frz hbl (by omega) (Ew5.frz z_q f_q2)
          replace ou0 := below_cell hbl (by omega) (Ew5.cell ou0)
          replace f_ou0 := below_frz hbl (by omega) (Ew5.frz z_ou f_ou0)
          replace ou1 := below_cell hbl (by omega) (Ew5.cell ou1)
          replace f_ou1 := below_frz hbl (by omega) (Ew5.frz z_ou f_ou1)
          replace ou2 := below_cell hbl (by omega) (Ew5.cell ou2)
          replace f_ou2 := below_frz hbl (by omega) (Ew5.frz z_ou f_ou2)
          replace es0 := below_cell hbl (by omega) (Ew5.cell es0)
          replace et0 := below_cell hbl (by omega) (Ew5.cell et0)
          have z_va : w.heap.size < w5.heap.size := World.block_lt_of_cell? _ _ va0
          have z_q : w.heap.size + 1 < w5.heap.size := World.block_lt_of_cell? _ _ q0
          have z_ou : go < w5.heap.size := World.block_lt_of_cell? _ _ ou0
          have z_es : b1s < w5.heap.size := World.block_lt_of_cell? _ _ es0
          have z_et : b2s < w5.heap.size := World.block_lt_of_cell? _ _ et0
          replace T := (T.ext Ew5).app2 ho hgr hvb
          have s_w5 : w.heap.size ≤ w5.heap.size := Xw5.size
          clear ho hgr hbl hvb Ew5 Sw5
          refine hK.out _ _ ⟨va2, ou2, et0⟩ (fun hHeld => ?_)
          clear hK K
          try simp only [Act.put, List.setIfInBounds_toArray, List.set_cons_zero, List.set_cons_succ, List.getElem_toArray, List.getElem_cons_succ, List.getElem_cons_zero]
          refine wpTail_take (i := 9) (v := ?_) rfl (by kernel_rfl) (by kernel_rfl) (by kernel_rfl) rfl (by kernel_rfl) (fun _ _ _ h => h) (Or.inl ⟨by rfl, ?_⟩) (by assumption) ?_
          rotate_left
          · (intro w hSw; (try dsimp only at hSw); go_simp; try with_reducible rfl)
          try simp only [Act.put, List.setIfInBounds_toArray, List.set_cons_zero, List.set_cons_succ, List.getElem_toArray, List.getElem_cons_succ, List.getElem_cons_zero]
          refine wpTail_last (i := 10) (by kernel_rfl) rfl rfl (fun K hK => ?_)
          try simp only [Act.put, List.setIfInBounds_toArray, List.set_cons_zero, List.set_cons_succ, List.getElem_toArray, List.getElem_cons_succ, List.getElem_cons_zero]
          go_simp
          refine hK.out _ _ ?_
          clear hK K
          try simp only [Act.put, List.setIfInBounds_toArray, List.set_cons_zero, List.set_cons_succ, List.getElem_toArray, List.getElem_cons_succ, List.getElem_cons_zero]
          refine wpTail_done (by kernel_rfl) ?_ _
          clear hHeld
          have Kw6 : Chg (go) (go + 1) w5 (w5.setCell ⟨go, 2, none⟩ (.slice pa_w5 pn_w5 pc_w5)) := (Chg.setCell (p := ⟨go, 2, none⟩) (Chg.refl (go) (go + 1) _) (Nat.le_refl _) (Nat.lt_succ_self _) (.slice pa_w5 pn_w5 pc_w5))
          have Xw6 : Ext w (w5.setCell ⟨go, 2, none⟩ (.slice pa_w5 pn_w5 pc_w5)) := (Ext.setCell (p := ⟨go, 2, none⟩) Xw5 (by first | (simp; done) | (simp; omega) | omega) (.slice pa_w5 pn_w5 pc_w5))
          replace va0 := Kw6.cell (by omega) va0
          replace va1 := Kw6.cell (by omega) va1
          replace va2 := Kw6.cell (by omega) va2
          replace q0 := Kw6.cell (by omega) q0
          replace f_q0 := Kw6.frzO (by omega) z_q f_q0
          replace q1 := Kw6.cell (by omega) q1
          replace f_q1 := Kw6.frzO (by omega) z_q f_q1
          replace q2 := Kw6.cell (by omega) q2
          replace f_q2 := Kw6.frzO (by omega) z_q f_q2
          have n_ou0 : (w5.setCell ⟨go, 2, none⟩ (.slice pa_w5 pn_w5 pc_w5)).cell? ⟨go, 0, none⟩ = some (.int .i64 b1) := by go_simp
          have n_f_ou0 : (w5.setCell ⟨go, 2, none⟩ (.slice pa_w5 pn_w5 pc_w5)).frozen? ⟨go, 0, none⟩ = false := by go_simp
          have n_ou1 : (w5.setCell ⟨go, 2, none⟩ (.slice pa_w5 pn_w5 pc_w5)).cell? ⟨go, 1, none⟩ = some (.slice pa_w3 pn_w3 pc_w3) := by go_simp
          have n_f_ou1 : (w5.setCell ⟨go, 2, none⟩ (.slice pa_w5 pn_w5 pc_w5)).frozen? ⟨go, 1, none⟩ = false := by go_simp
          have n_ou2 : (w5.setCell ⟨go, 2, none⟩ (.slice pa_w5 pn_w5 pc_w5)).cell? ⟨go, 2, none⟩ = some (.slice pa_w5 pn_w5 pc_w5) := by go_simp
          have n_f_ou2 : (w5.setCell ⟨go, 2, none⟩ (.slice pa_w5 pn_w5 pc_w5)).frozen? ⟨go, 2, none⟩ = false := by go_simp
          replace ou0 := n_ou0
          clear n_ou0
          replace f_ou0 := n_f_ou0
          clear n_f_ou0
          replace ou1 := n_ou1
          clear n_ou1
          replace f_ou1 := n_f_ou1
          clear n_f_ou1
          replace ou2 := n_ou2
          clear n_ou2
          replace f_ou2 := n_f_ou2
          clear n_f_ou2
          replace es0 := Kw6.cell (by omega) es0
          replace et0 := Kw6.cell (by omega) et0
          replace T := T.chg Kw6 (by omega)
          clear Kw6
          have z_va : w.heap.size < (w5.setCell ⟨go, 2, none⟩ (.slice pa_w5 pn_w5 pc_w5)).heap.size := World.block_lt_of_cell? _ _ va0
          have z_q : w.heap.size + 1 < (w5.setCell ⟨go, 2, none⟩ (.slice pa_w5 pn_w5 pc_w5)).heap.size := World.block_lt_of_cell? _ _ q0
          have z_ou : go < (w5.setCell ⟨go, 2, none⟩ (.slice pa_w5 pn_w5 pc_w5)).heap.size := World.block_lt_of_cell? _ _ ou0
          have z_es : b1s < (w5.setCell ⟨go, 2, none⟩ (.slice pa_w5 pn_w5 pc_w5)).heap.size := World.block_lt_of_cell? _ _ es0
          have z_et : b2s < (w5.setCell ⟨go, 2, none⟩ (.slice pa_w5 pn_w5 pc_w5)).heap.size := World.block_lt_of_cell? _ _ et0
          have s_w6 : w.heap.size ≤ (w5.setCell ⟨go, 2, none⟩ (.slice pa_w5 pn_w5 pc_w5)).heap.size := Xw6.size
          generalize (w5.setCell ⟨go, 2, none⟩ (.slice pa_w5 pn_w5 pc_w5)) = w6 at *
          go_wp2_with fail
          go_roundw
          case rel => exact ⟨j + 1, _, _, by omega, by go_num, by rw [hs1.out, hs2.out]; exact T, Xw6, va0, va1, va2, q0, q1, q2, f_q0, f_q1, f_q2, ou0, ou1, ou2, f_ou0, f_ou1, f_ou2⟩
          case measure => simp [intOf]; omega
      · obtain rfl : j = s1.length := by omega
        have hI : ¬ ((s1.length : Int) < s1.length) := by omega
        rw [List.take_length, List.take_of_length_le (by have := ht.out; omega)] at T
        have tl1 := dropS_len s1
        have tl2 := dropT_le s1 t1
        obtain ⟨a5, n5, c5, rfl⟩ := T.o1.any
        obtain ⟨a6, n6, c6, rfl⟩ := T.o2.any
        have z_va : w.heap.size < wr.heap.size := World.block_lt_of_cell? _ _ va0
        have z_q : w.heap.size + 1 < wr.heap.size := World.block_lt_of_cell? _ _ q0
        have z_ou : go < wr.heap.size := World.block_lt_of_cell? _ _ ou0
        go_wp2_with fail
        have Kw3 : Chg (w.heap.size + 1) (w.heap.size + 1 + 1) wr (((wr.setCell ⟨w.heap.size + 1, 0, none⟩ (.int .i64 b1)).setCell ⟨w.heap.size + 1, 1, none⟩ (.slice a5 n5 c5)).setCell ⟨w.heap.size + 1, 2, none⟩ (.slice a6 n6 c6)) := (Chg.setCell (p := ⟨w.heap.size + 1, 2, none⟩) (Chg.setCell (p := ⟨w.heap.size + 1, 1, none⟩) (Chg.setCell (p := ⟨w.heap.size + 1, 0, none⟩) (Chg.refl (w.heap.size + 1) (w.heap.size + 1 + 1) _) (Nat.le_refl _) (Nat.lt_succ_self _) (.int .i64 b1)) (Nat.le_refl _) (Nat.lt_succ_self _) (.slice a5 n5 c5)) (Nat.le_refl _) (Nat.lt_succ_self _) (.slice a6 n6 c6))
        have Xw3 : Ext w (((wr.setCell ⟨w.heap.size + 1, 0, none⟩ (.int .i64 b1)).setCell ⟨w.heap.size + 1, 1, none⟩ (.slice a5 n5 c5)).setCell ⟨w.heap.size + 1, 2, none⟩ (.slice a6 n6 c6)) := (Ext.setCell (p := ⟨w.heap.size + 1, 2, none⟩) (Ext.setCell (p := ⟨w.heap.size + 1, 1, none⟩) (Ext.setCell (p := ⟨w.heap.size + 1, 0, none⟩) Xr (by first | (simp; done) | (simp; omega) | omega) (.int .i64 b1)) (by first | (simp; done) | (simp; omega) | omega) (.slice a5 n5 c5)) (by first | (simp; done) | (simp; omega) | omega) (.slice a6 n6 c6))
        replace va0 := Kw3.cell (by omega) va0
        replace va1 := Kw3.cell (by omega) va1
        replace va2 := Kw3.cell (by omega) va2
        have n_q0 : (((wr.setCell ⟨w.heap.size + 1, 0, none⟩ (.int .i64 b1)).setCell ⟨w.heap.size + 1, 1, none⟩ (.slice a5 n5 c5)).setCell ⟨w.heap.size + 1, 2, none⟩ (.slice a6 n6 c6)).cell? ⟨w.heap.size + 1, 0, none⟩ = some (.int .i64 b1) := by go_simp
        have n_f_q0 : (((wr.setCell ⟨w.heap.size + 1, 0, none⟩ (.int .i64 b1)).setCell ⟨w.heap.size + 1, 1, none⟩ (.slice a5 n5 c5)).setCell ⟨w.heap.size + 1, 2, none⟩ (.slice a6 n6 c6)).frozen? ⟨w.heap.size + 1, 0, none⟩ = false := by go_simp
        have n_q1 : (((wr.setCell ⟨w.heap.size + 1, 0, none⟩ (.int .i64 b1)).setCell ⟨w.heap.size + 1, 1, none⟩ (.slice a5 n5 c5)).setCell ⟨w.heap.size + 1, 2, none⟩ (.slice a6 n6 c6)).cell? ⟨w.heap.size + 1, 1, none⟩ = some (.slice a5 n5 c5) := by go_simp
        have n_f_q1 : (((wr.setCell ⟨w.heap.size + 1, 0, none⟩ (.int .i64 b1)).setCell ⟨w.heap.size + 1, 1, none⟩ (.slice a5 n5 c5)).setCell ⟨w.heap.size + 1, 2, none⟩ (.slice a6 n6 c6)).frozen? ⟨w.heap.size + 1, 1, none⟩ = false := by go_simp
        have n_q2 : (((wr.setCell ⟨w.heap.size + 1, 0, none⟩ (.int .i64 b1)).setCell ⟨w.heap.size + 1, 1, none⟩ (.slice a5 n5 c5)).setCell ⟨w.heap.size + 1, 2, none⟩ (.slice a6 n6 c6)).cell? ⟨w.heap.size + 1, 2, none⟩ = some (.slice a6 n6 c6) := by go_simp
        have n_f_q2 : (((wr.setCell ⟨w.heap.size + 1, 0, none⟩ (.int .i64 b1)).setCell ⟨w.heap.size + 1, 1, none⟩ (.slice a5 n5 c5)).setCell ⟨w.heap.size + 1, 2, none⟩ (.slice a6 n6 c6)).frozen? ⟨w.heap.size + 1, 2, none⟩ = false := by go_simp
        replace q0 := n_q0
        clear n_q0
        replace f_q0 := n_f_q0
        clear n_f_q0
        replace q1 := n_q1
        clear n_q1
        replace f_q1 := n_f_q1
        clear n_f_q1
        replace q2 := n_q2
        clear n_q2
        replace f_q2 := n_f_q2
        clear n_f_q2
        replace ou0 := Kw3.cell (by omega) ou0
        replace f_ou0 := Kw3.frzO (by omega) z_ou f_ou0
        replace ou1 := Kw3.cell (by omega) ou1
        replace f_ou1 := Kw3.frzO (by omega) z_ou f_ou1
        replace ou2 := Kw3.cell (by omega) ou2
        replace f_ou2 := Kw3.frzO (by omega) z_ou f_ou2
        replace T := T.chg Kw3 (by omega)
        clear Kw3
        have z_va : w.heap.size < (((wr.setCell ⟨w.heap.size + 1, 0, none⟩ (.int .i64 b1)).setCell ⟨w.heap.size + 1, 1, none⟩ (.slice a5 n5 c5)).setCell ⟨w.heap.size + 1, 2, none⟩ (.slice a6 n6 c6)).heap.size := World.block_lt_of_cell? _ _ va0
        have z_q : w.heap.size + 1 < (((wr.setCell ⟨w.heap.size + 1, 0, none⟩ (.int .i64 b1)).setCell ⟨w.heap.size + 1, 1, none⟩ (.slice a5 n5 c5)).setCell ⟨w.heap.size + 1, 2, none⟩ (.slice a6 n6 c6)).heap.size := World.block_lt_of_cell? _ _ q0
        have z_ou : go < (((wr.setCell ⟨w.heap.size + 1, 0, none⟩ (.int .i64 b1)).setCell ⟨w.heap.size + 1, 1, none⟩ (.slice a5 n5 c5)).setCell ⟨w.heap.size + 1, 2, none⟩ (.slice a6 n6 c6)).heap.size := World.block_lt_of_cell? _ _ ou0
        have s_w3 : w.heap.size ≤ (((wr.setCell ⟨w.heap.size + 1, 0, none⟩ (.int .i64 b1)).setCell ⟨w.heap.size + 1, 1, none⟩ (.slice a5 n5 c5)).setCell ⟨w.heap.size + 1, 2, none⟩ (.slice a6 n6 c6)).heap.size := Xw3.size
        generalize (((wr.setCell ⟨w.heap.size + 1, 0, none⟩ (.int .i64 b1)).setCell ⟨w.heap.size + 1, 1, none⟩ (.slice a5 n5 c5)).setCell ⟨w.heap.size + 1, 2, none⟩ (.slice a6 n6 c6)) = w3 at *
        refine bodyPost_ret (v := .agg #[.int .i64 b1, .slice a5 n5 c5, .slice a6 n6 c6]) (by simp only [results, Try.results45]; go_simp) rfl ?_
        rw [hr.out]
        exact PView.own (T.o1.lower (by omega)).z (T.o2.lower (by omega)).z (fun n1 n2 h => by obtain ⟨g, _, h1, _⟩ := (T.o1).row n1; rw [h1] at h; exact T.sep g (by rw [h1]; rfl) (h ▸ rfl)) (show (dropS s1).length ≤ _ by omega) (show (dropT s1 t1).length ≤ _ by omega) Xw3

end Go.Proofs.Ytnjaidgifccgjaa

/- Walks: DropOnes of the reference. -/
namespace Go.Proofs.Ytnjaidgifccgjaa
open Go.RowKit
set_option linter.unusedVariables false
set_option maxRecDepth 100000

set_option maxHeartbeats 6400000 in
theorem specDropOnes_c (b1 : Int) (u1 v1 : Value) (s1 t1 : List Int) (w : World) (l1 m1 : Nat) (h1 : Ints w l1 u1 s1) (k1 : Ints w m1 v1 t1) :
    Calls Try.prog 47 #[.agg #[.int .i64 b1, u1, v1]] w (PView w (dropV b1 s1 t1).1 (dropV b1 s1 t1).2.1 (dropV b1 s1 t1).2.2) := by
  obtain ⟨a1, cp1, rfl⟩ := h1.form
  obtain ⟨a2, cp2, rfl⟩ := k1.form
  cases ha : viewB b1 s1 t1
  · have hr : Hid (dropV b1 s1 t1 = (0, [], [])) := Lib.hid (by unfold dropV; rw [ha]; rfl)
    replace ha := Lib.hid ha
    go_enter Try.func47, Try.ntmps47
    go_wp2_with fail
    refine (validView_c b1 _ _ s1 t1 _ l1 m1 (h1.ext (by repeat (first | (with_reducible assumption) | (with_reducible refine Ext.setCell ?_ (by first | (simp; done) | (simp; omega) | omega) _) | (with_reducible apply Ext.alloc) | (with_reducible apply Ext.drew) | (with_reducible apply Ext.drewN) | (with_reducible exact Ext.refl _)))) (k1.ext (by repeat (first | (with_reducible assumption) | (with_reducible refine Ext.setCell ?_ (by first | (simp; done) | (simp; omega) | omega) _) | (with_reducible apply Ext.alloc) | (with_reducible apply Ext.drew) | (with_reducible apply Ext.drewN) | (with_reducible exact Ext.refl _))))).mono ?_
    rintro e w1 ⟨rfl, xw1⟩
    have Lw1 : Ext w w1 := Ext.trans (by repeat (first | (with_reducible assumption) | (with_reducible refine Ext.setCell ?_ (by first | (simp; done) | (simp; omega) | omega) _) | (with_reducible apply Ext.alloc) | (with_reducible apply Ext.drew) | (with_reducible apply Ext.drewN) | (with_reducible exact Ext.refl _))) xw1
    have Xw1 : Ext w w1 := Lw1
    have va0 : w1.cell? ⟨w.heap.size, 0, none⟩ = some (.int .i64 b1) := xw1.cell (by first | (simp; done) | ((repeat rw [World.cell?_alloc_lt _ _ _ (by simp <;> omega)]); simp; done) | (go_simp; done))
    have va1 : w1.cell? ⟨w.heap.size, 1, none⟩ = some (.slice a1 s1.length cp1) := xw1.cell (by first | (simp; done) | ((repeat rw [World.cell?_alloc_lt _ _ _ (by simp <;> omega)]); simp; done) | (go_simp; done))
    have va2 : w1.cell? ⟨w.heap.size, 2, none⟩ = some (.slice a2 t1.length cp2) := xw1.cell (by first | (simp; done) | ((repeat rw [World.cell?_alloc_lt _ _ _ (by simp <;> omega)]); simp; done) | (go_simp; done))
    have q0 : w1.cell? ⟨w.heap.size + 1, 0, none⟩ = some (.int .i64 0) := xw1.cell (by first | (simp; done) | ((repeat rw [World.cell?_alloc_lt _ _ _ (by simp <;> omega)]); simp; done) | (go_simp; done))
    have q1 : w1.cell? ⟨w.heap.size + 1, 1, none⟩ = some (.slice none 0 0) := xw1.cell (by first | (simp; done) | ((repeat rw [World.cell?_alloc_lt _ _ _ (by simp <;> omega)]); simp; done) | (go_simp; done))
    have q2 : w1.cell? ⟨w.heap.size + 1, 2, none⟩ = some (.slice none 0 0) := xw1.cell (by first | (simp; done) | ((repeat rw [World.cell?_alloc_lt _ _ _ (by simp <;> omega)]); simp; done) | (go_simp; done))
    have f_q0 : w1.frozen? ⟨w.heap.size + 1, 0, none⟩ = false := xw1.frz (by simp <;> omega) (by first | (simp; done) | (go_simp; done))
    have f_q1 : w1.frozen? ⟨w.heap.size + 1, 1, none⟩ = false := xw1.frz (by simp <;> omega) (by first | (simp; done) | (go_simp; done))
    have f_q2 : w1.frozen? ⟨w.heap.size + 1, 2, none⟩ = false := xw1.frz (by simp <;> omega) (by first | (simp; done) | (go_simp; done))
    have z_va : w.heap.size < w1.heap.size := World.block_lt_of_cell? _ _ va0
    have z_q : w.heap.size + 1 < w1.heap.size := World.block_lt_of_cell? _ _ q0
    have s_w1 : w.heap.size ≤ w1.heap.size := Xw1.size
    clear xw1
    rw [ha.out]
    go_wp2_with fail
    refine bodyPost_ret (v := .agg #[.int .i64 0, .slice none 0 0, .slice none 0 0]) (by simp only [results, Try.results47]; go_simp) rfl ?_
    rw [hr.out]
    exact PView.no (by repeat (first | (with_reducible assumption) | (with_reducible refine Ext.setCell ?_ (by first | (simp; done) | (simp; omega) | omega) _) | (with_reducible apply Ext.alloc) | (with_reducible apply Ext.drew) | (with_reducible apply Ext.drewN) | (with_reducible exact Ext.refl _)))
  · have hr : Hid (dropV b1 s1 t1 = (b1, dropS s1, dropT s1 t1)) := Lib.hid (by unfold dropV; rw [ha]; rfl)
    have ht := (viewB_in ha).2.1
    have j4 := (shapeB_in (viewB_in ha).1).1
    replace ha := Lib.hid ha
    replace ht := Lib.hid ht
    go_enter Try.func47, Try.ntmps47
    go_wp2_with fail
    refine (validView_c b1 _ _ s1 t1 _ l1 m1 (h1.ext (by repeat (first | (with_reducible assumption) | (with_reducible refine Ext.setCell ?_ (by first | (simp; done) | (simp; omega) | omega) _) | (with_reducible apply Ext.alloc) | (with_reducible apply Ext.drew) | (with_reducible apply Ext.drewN) | (with_reducible exact Ext.refl _)))) (k1.ext (by repeat (first | (with_reducible assumption) | (with_reducible refine Ext.setCell ?_ (by first | (simp; done) | (simp; omega) | omega) _) | (with_reducible apply Ext.alloc) | (with_reducible apply Ext.drew) | (with_reducible apply Ext.drewN) | (with_reducible exact Ext.refl _))))).mono ?_
    rintro e w1 ⟨rfl, xw1⟩
    have Lw1 : Ext w w1 := Ext.trans (by repeat (first | (with_reducible assumption) | (with_reducible refine Ext.setCell ?_ (by first | (simp; done) | (simp; omega) | omega) _) | (with_reducible apply Ext.alloc) | (with_reducible apply Ext.drew) | (with_reducible apply Ext.drewN) | (with_reducible exact Ext.refl _))) xw1
    have Xw1 : Ext w w1 := Lw1
    have va0 : w1.cell? ⟨w.heap.size, 0, none⟩ = some (.int .i64 b1) := xw1.cell (by first | (simp; done) | ((repeat rw [World.cell?_alloc_lt _ _ _ (by simp <;> omega)]); simp; done) | (go_simp; done))
    have va1 : w1.cell? ⟨w.heap.size, 1, none⟩ = some (.slice a1 s1.length cp1) := xw1.cell (by first | (simp; done) | ((repeat rw [World.cell?_alloc_lt _ _ _ (by simp <;> omega)]); simp; done) | (go_simp; done))
    have va2 : w1.cell? ⟨w.heap.size, 2, none⟩ = some (.slice a2 t1.length cp2) := xw1.cell (by first | (simp; done) | ((repeat rw [World.cell?_alloc_lt _ _ _ (by simp <;> omega)]); simp; done) | (go_simp; done))
    have q0 : w1.cell? ⟨w.heap.size + 1, 0, none⟩ = some (.int .i64 0) := xw1.cell (by first | (simp; done) | ((repeat rw [World.cell?_alloc_lt _ _ _ (by simp <;> omega)]); simp; done) | (go_simp; done))
    have q1 : w1.cell? ⟨w.heap.size + 1, 1, none⟩ = some (.slice none 0 0) := xw1.cell (by first | (simp; done) | ((repeat rw [World.cell?_alloc_lt _ _ _ (by simp <;> omega)]); simp; done) | (go_simp; done))
    have q2 : w1.cell? ⟨w.heap.size + 1, 2, none⟩ = some (.slice none 0 0) := xw1.cell (by first | (simp; done) | ((repeat rw [World.cell?_alloc_lt _ _ _ (by simp <;> omega)]); simp; done) | (go_simp; done))
    have f_q0 : w1.frozen? ⟨w.heap.size + 1, 0, none⟩ = false := xw1.frz (by simp <;> omega) (by first | (simp; done) | (go_simp; done))
    have f_q1 : w1.frozen? ⟨w.heap.size + 1, 1, none⟩ = false := xw1.frz (by simp <;> omega) (by first | (simp; done) | (go_simp; done))
    have f_q2 : w1.frozen? ⟨w.heap.size + 1, 2, none⟩ = false := xw1.frz (by simp <;> omega) (by first | (simp; done) | (go_simp; done))
    have z_va : w.heap.size < w1.heap.size := World.block_lt_of_cell? _ _ va0
    have z_q : w.heap.size + 1 < w1.heap.size := World.block_lt_of_cell? _ _ q0
    have s_w1 : w.heap.size ≤ w1.heap.size := Xw1.size
    clear xw1
    rw [ha.out]
    go_wp2_with fail
    have O1 : OwnI (((w1.alloc (.cells #[] 3)).alloc (.cells #[] 3)).alloc (.cells #[.int .i64 b1, .slice (some ⟨w1.heap.size, 0, none⟩) 0 0, .slice (some ⟨w1.heap.size + 1, 0, none⟩) 0 0] 25)) w1.heap.size (.slice (some ⟨w1.heap.size, 0, none⟩) 0 0) [] := (OwnI.lit0 w1 w1.heap.size (Nat.le_refl _)).ext (((Ext.refl _).alloc _).alloc _)
    have O2 : OwnI (((w1.alloc (.cells #[] 3)).alloc (.cells #[] 3)).alloc (.cells #[.int .i64 b1, .slice (some ⟨w1.heap.size, 0, none⟩) 0 0, .slice (some ⟨w1.heap.size + 1, 0, none⟩) 0 0] 25)) w1.heap.size (.slice (some ⟨w1.heap.size + 1, 0, none⟩) 0 0) [] := by
      have := OwnI.lit0 (w1.alloc (.cells #[] 3)) w1.heap.size (by simp)
      simp only [World.size_alloc] at this
      exact this.ext ((Ext.refl _).alloc _)
    have Lw2 : Ext w1 (((w1.alloc (.cells #[] 3)).alloc (.cells #[] 3)).alloc (.cells #[.int .i64 b1, .slice (some ⟨w1.heap.size, 0, none⟩) 0 0, .slice (some ⟨w1.heap.size + 1, 0, none⟩) 0 0] 25)) := (by repeat (first | (with_reducible assumption) | (with_reducible refine Ext.setCell ?_ (by first | (simp; done) | (simp; omega) | omega) _) | (with_reducible apply Ext.alloc) | (with_reducible apply Ext.drew) | (with_reducible apply Ext.drewN) | (with_reducible exact Ext.refl _)))
    have Xw2 : Ext w (((w1.alloc (.cells #[] 3)).alloc (.cells #[] 3)).alloc (.cells #[.int .i64 b1, .slice (some ⟨w1.heap.size, 0, none⟩) 0 0, .slice (some ⟨w1.heap.size + 1, 0, none⟩) 0 0] 25)) := Xw1.trans Lw2
    replace va0 := Lw2.cell va0
    replace va1 := Lw2.cell va1
    replace va2 := Lw2.cell va2
    replace q0 := Lw2.cell q0
    replace q1 := Lw2.cell q1
    replace q2 := Lw2.cell q2
    replace f_q0 := Lw2.frz z_q f_q0
    replace f_q1 := Lw2.frz z_q f_q1
    replace f_q2 := Lw2.frz z_q f_q2
    have ou0 : (((w1.alloc (.cells #[] 3)).alloc (.cells #[] 3)).alloc (.cells #[.int .i64 b1, .slice (some ⟨w1.heap.size, 0, none⟩) 0 0, .slice (some ⟨w1.heap.size + 1, 0, none⟩) 0 0] 25)).cell? ⟨w1.heap.size + 1 + 1, 0, none⟩ = some (.int .i64 b1) := (by first | (simp; done) | ((repeat rw [World.cell?_alloc_lt _ _ _ (by simp <;> omega)]); simp; done) | (go_simp; done))
    have ou1 : (((w1.alloc (.cells #[] 3)).alloc (.cells #[] 3)).alloc (.cells #[.int .i64 b1, .slice (some ⟨w1.heap.size, 0, none⟩) 0 0, .slice (some ⟨w1.heap.size + 1, 0, none⟩) 0 0] 25)).cell? ⟨w1.heap.size + 1 + 1, 1, none⟩ = some (.slice (some ⟨w1.heap.size, 0, none⟩) 0 0) := (by first | (simp; done) | ((repeat rw [World.cell?_alloc_lt _ _ _ (by simp <;> omega)]); simp; done) | (go_simp; done))
    have ou2 : (((w1.alloc (.cells #[] 3)).alloc (.cells #[] 3)).alloc (.cells #[.int .i64 b1, .slice (some ⟨w1.heap.size, 0, none⟩) 0 0, .slice (some ⟨w1.heap.size + 1, 0, none⟩) 0 0] 25)).cell? ⟨w1.heap.size + 1 + 1, 2, none⟩ = some (.slice (some ⟨w1.heap.size + 1, 0, none⟩) 0 0) := (by first | (simp; done) | ((repeat rw [World.cell?_alloc_lt _ _ _ (by simp <;> omega)]); simp; done) | (go_simp; done))
    have f_ou0 : (((w1.alloc (.cells #[] 3)).alloc (.cells #[] 3)).alloc (.cells #[.int .i64 b1, .slice (some ⟨w1.heap.size, 0, none⟩) 0 0, .slice (some ⟨w1.heap.size + 1, 0, none⟩) 0 0] 25)).frozen? ⟨w1.heap.size + 1 + 1, 0, none⟩ = false := (by first | (simp; done) | (go_simp; done))
    have f_ou1 : (((w1.alloc (.cells #[] 3)).alloc (.cells #[] 3)).alloc (.cells #[.int .i64 b1, .slice (some ⟨w1.heap.size, 0, none⟩) 0 0, .slice (some ⟨w1.heap.size + 1, 0, none⟩) 0 0] 25)).frozen? ⟨w1.heap.size + 1 + 1, 1, none⟩ = false := (by first | (simp; done) | (go_simp; done))
    have f_ou2 : (((w1.alloc (.cells #[] 3)).alloc (.cells #[] 3)).alloc (.cells #[.int .i64 b1, .slice (some ⟨w1.heap.size, 0, none⟩) 0 0, .slice (some ⟨w1.heap.size + 1, 0, none⟩) 0 0] 25)).frozen? ⟨w1.heap.size + 1 + 1, 2, none⟩ = false := (by first | (simp; done) | (go_simp; done))
    have z_va : w.heap.size < (((w1.alloc (.cells #[] 3)).alloc (.cells #[] 3)).alloc (.cells #[.int .i64 b1, .slice (some ⟨w1.heap.size, 0, none⟩) 0 0, .slice (some ⟨w1.heap.size + 1, 0, none⟩) 0 0] 25)).heap.size := World.block_lt_of_cell? _ _ va0
    have z_q : w.heap.size + 1 < (((w1.alloc (.cells #[] 3)).alloc (.cells #[] 3)).alloc (.cells #[.int .i64 b1, .slice (some ⟨w1.heap.size, 0, none⟩) 0 0, .slice (some ⟨w1.heap.size + 1, 0, none⟩) 0 0] 25)).heap.size := World.block_lt_of_cell? _ _ q0
    have z_ou : w1.heap.size + 1 + 1 < (((w1.alloc (.cells #[] 3)).alloc (.cells #[] 3)).alloc (.cells #[.int .i64 b1, .slice (some ⟨w1.heap.size, 0, none⟩) 0 0, .slice (some ⟨w1.heap.size + 1, 0, none⟩) 0 0] 25)).heap.size := World.block_lt_of_cell? _ _ ou0
    have s_w2 : w.heap.size ≤ (((w1.alloc (.cells #[] 3)).alloc (.cells #[] 3)).alloc (.cells #[.int .i64 b1, .slice (some ⟨w1.heap.size, 0, none⟩) 0 0, .slice (some ⟨w1.heap.size + 1, 0, none⟩) 0 0] 25)).heap.size := Xw2.size
    generalize ((w1.alloc (.cells #[] 3)).alloc (.cells #[] 3)).alloc (.cells #[.int .i64 b1, .slice (some ⟨w1.heap.size, 0, none⟩) 0 0, .slice (some ⟨w1.heap.size + 1, 0, none⟩) 0 0] 25) = w2 at *
    have hzo : w.heap.size + 1 < w1.heap.size := by omega
    generalize w1.heap.size = ga at *
    go_loopw [4] (fun i wr => ∃ (j g1 n1 c1 g2 n2 c2 : Nat), j ≤ s1.length ∧ i = .int .i64 j ∧ OwnI wr ga (.slice (some ⟨g1, 0, none⟩) n1 c1) (dropS (s1.take j)) ∧ OwnI wr ga (.slice (some ⟨g2, 0, none⟩) n2 c2) (dropT (s1.take j) (t1.take j)) ∧ (g1 ≠ g2 ∧ g1 ≠ ga + 1 + 1 ∧ g2 ≠ ga + 1 + 1) ∧ Ext w wr ∧ wr.cell? ⟨w.heap.size, 0, none⟩ = some (.int .i64 b1) ∧ wr.cell? ⟨w.heap.size, 1, none⟩ = some (.slice a1 s1.length cp1) ∧ wr.cell? ⟨w.heap.size, 2, none⟩ = some (.slice a2 t1.length cp2) ∧ wr.cell? ⟨w.heap.size + 1, 0, none⟩ = some (.int .i64 0) ∧ wr.cell? ⟨w.heap.size + 1, 1, none⟩ = some (.slice none 0 0) ∧ wr.cell? ⟨w.heap.size + 1, 2, none⟩ = some (.slice none 0 0) ∧ wr.frozen? ⟨w.heap.size + 1, 0, none⟩ = false ∧ wr.frozen? ⟨w.heap.size + 1, 1, none⟩ = false ∧ wr.frozen? ⟨w.heap.size + 1, 2, none⟩ = false ∧ wr.cell? ⟨ga + 1 + 1, 0, none⟩ = some (.int .i64 b1) ∧ wr.cell? ⟨ga + 1 + 1, 1, none⟩ = some (.slice (some ⟨g1, 0, none⟩) n1 c1) ∧ wr.cell? ⟨ga + 1 + 1, 2, none⟩ = some (.slice (some ⟨g2, 0, none⟩) n2 c2) ∧ wr.frozen? ⟨ga + 1 + 1, 0, none⟩ = false ∧ wr.frozen? ⟨ga + 1 + 1, 1, none⟩ = false ∧ wr.frozen? ⟨ga + 1 + 1, 2, none⟩ = false) (fun i _ => s1.length - (intOf i).toNat)
    case atStart => exact ⟨0, _, _, _, _, _, _, Nat.zero_le _, rfl, O1, O2, by omega, Xw2, va0, va1, va2, q0, q1, q2, f_q0, f_q1, f_q2, ou0, ou1, ou2, f_ou0, f_ou1, f_ou2⟩
    case round =>
      clear O1 O2
      obtain ⟨j, g1, n1, c1, g2, n2, c2, hj, rfl, O1, O2, hgs, Xr, va0, va1, va2, q0, q1, q2, f_q0, f_q1, f_q2, ou0, ou1, ou2, f_ou0, f_ou1, f_ou2⟩ := hrel
      have hB1 := own_lt O1 rfl
      have hB2 := own_lt O2 rfl
      by_cases hlt : j < s1.length
      · have hI : (j : Int) < s1.length := by omega
        obtain ⟨b1s, o1s, rfl, hc1⟩ := h1.at j hlt
        obtain ⟨b2s, o2s, rfl, hc2⟩ := k1.at j (by have := ht.out; omega)
        have htI : (j : Int) < t1.length := by have := ht.out; omega
        have hs1 := dropS_take s1 j hlt
        have hs2 := dropT_take s1 t1 j ht.out hlt
        have tl1 : (dropS (s1.take j)).length ≤ 4 := by have := dropS_len (s1.take j); simp at this; omega
        have tl2 : (dropT (s1.take j) (t1.take j)).length ≤ 4 := by have := dropT_le (s1.take j) (t1.take j); simp at this; omega
        have hy1 : b1s < w.heap.size := World.block_lt_of_cell? _ _ hc1
        have hy2 : b2s < w.heap.size := World.block_lt_of_cell? _ _ hc2
        generalize s1.getD j 0 = xs at *
        generalize t1.getD j 0 = xt at *
        have es0 := Xr.cell hc1
        have et0 := Xr.cell hc2
        clear hc1 hc2
        have z_va : w.heap.size < wr.heap.size := World.block_lt_of_cell? _ _ va0
        have z_q : w.heap.size + 1 < wr.heap.size := World.block_lt_of_cell? _ _ q0
        have z_ou : ga + 1 + 1 < wr.heap.size := World.block_lt_of_cell? _ _ ou0
        have z_es : b1s < wr.heap.size := World.block_lt_of_cell? _ _ es0
        have z_et : b2s < wr.heap.size := World.block_lt_of_cell? _ _ et0
        by_cases hx1 : xs = 1
        · rw [if_pos hx1, List.append_nil] at hs1 hs2
          replace hs1 := Lib.hid hs1
          replace hs2 := Lib.hid hs2
          have hxb : (xs != 1) = false := by simpa using hx1
          have hxb2 : (xs == 1) = true := by simpa using hx1
          replace hx1 := Lib.hid hx1
          go_wp2_with fail
          go_roundw
          case rel => exact ⟨j + 1, _, _, _, _, _, _, by omega, by go_num, by rw [hs1.out]; exact O1, by rw [hs2.out]; exact O2, hgs, Xr, va0, va1, va2, q0, q1, q2, f_q0, f_q1, f_q2, ou0, ou1, ou2, f_ou0, f_ou1, f_ou2⟩
          case measure => simp [intOf]; omega
        · rw [if_neg hx1] at hs1 hs2
          replace hs1 := Lib.hid hs1
          replace hs2 := Lib.hid hs2
          have hxb : (xs != 1) = true := by simpa using hx1
          have hxb2 : (xs == 1) = false := by simpa using hx1
          clear hx1
          go_wp2_with fail
          refine wp_region_tail (S := fun w' => w'.cell? ⟨w.heap.size, 1, none⟩ = some (.slice (some ⟨b1s, o1s, none⟩) s1.length cp1) ∧ w'.cell? ⟨ga + 1 + 1, 1, none⟩ = some (.slice (some ⟨g1, 0, none⟩) n1 c1) ∧ w'.cell? ⟨b1s, o1s + j, none⟩ = some (.int .i64 xs)) (fun i => decide (10 ≤ i)) (by kernel_rfl) ⟨va1, ou1, es0⟩ (fun hHeld => ?_)
          refine wpTail_take (i := 0) (v := ?_) rfl (by kernel_rfl) (by kernel_rfl) (by kernel_rfl) rfl (by kernel_rfl) (fun _ _ _ h => h) (Or.inl ⟨by rfl, ?_⟩) (by assumption) ?_
          rotate_left
          · (intro w hSw; (try dsimp only at hSw); go_simp; try with_reducible rfl)
          try simp only [Act.put, List.setIfInBounds_toArray, List.set_cons_zero, List.set_cons_succ, List.getElem_toArray, List.getElem_cons_succ, List.getElem_cons_zero]
          refine wpTail_take (i := 1) (v := ?_) rfl (by kernel_rfl) (by kernel_rfl) (by kernel_rfl) rfl (by kernel_rfl) (fun _ _ _ h => h) (Or.inl ⟨by rfl, ?_⟩) (by assumption) ?_
          rotate_left
          · (intro w hSw; (try dsimp only at hSw); go_simp; try with_reducible rfl)
          try simp only [Act.put, List.setIfInBounds_toArray, List.set_cons_zero, List.set_cons_succ, List.getElem_toArray, List.getElem_cons_succ, List.getElem_cons_zero]
          refine wpTail_take (i := 2) (v := ?_) rfl (by kernel_rfl) (by kernel_rfl) (by kernel_rfl) rfl (by kernel_rfl) (fun _ _ _ h => h) (Or.inl ⟨by rfl, ?_⟩) (by assumption) ?_
          rotate_left
          · (intro w hSw; (try dsimp only at hSw); go_simp; try with_reducible rfl)
          try simp only [Act.put, List.setIfInBounds_toArray, List.set_cons_zero, List.set_cons_succ, List.getElem_toArray, List.getElem_cons_succ, List.getElem_cons_zero]
          refine wpTail_take (i := 3) (v := ?_) rfl (by kernel_rfl) (by kernel_rfl) (by kernel_rfl) rfl (by kernel_rfl) (fun _ _ _ h => h) (Or.inl ⟨by rfl, ?_⟩) (by assumption) ?_
          rotate_left
          · (intro w hSw; (try dsimp only at hSw); go_simp; try with_reducible rfl)
          try simp only [Act.put, List.setIfInBounds_toArray, List.set_cons_zero, List.set_cons_succ, List.getElem_toArray, List.getElem_cons_succ, List.getElem_cons_zero]
          refine wpTail_take (i := 4) (v := ?_) rfl (by kernel_rfl) (by kernel_rfl) (by kernel_rfl) rfl (by kernel_rfl) (fun _ _ _ h => h) (Or.inl ⟨by rfl, ?_⟩) (by assumption) ?_
          rotate_left
          · (intro w hSw; (try dsimp only at hSw); go_simp; try with_reducible rfl)
          try simp only [Act.put, List.setIfInBounds_toArray, List.set_cons_zero, List.set_cons_succ, List.getElem_toArray, List.getElem_cons_succ, List.getElem_cons_zero]
          refine wpTail_take (i := 5) (v := ?_) rfl (by kernel_rfl) (by kernel_rfl) (by kernel_rfl) rfl (by kernel_rfl) (fun _ _ _ h => h) (Or.inl ⟨by rfl, ?_⟩) (by assumption) ?_
          rotate_left
          · (intro w hSw; (try dsimp only at hSw); go_simp; try with_reducible rfl)
          try simp only [Act.put, List.setIfInBounds_toArray, List.set_cons_zero, List.set_cons_succ, List.getElem_toArray, List.getElem_cons_succ, List.getElem_cons_zero]
          refine wpTail_take (i := 6) (v := ?_) rfl (by kernel_rfl) (by kernel_rfl) (by kernel_rfl) rfl (by kernel_rfl) (fun _ _ _ h => h) (Or.inl ⟨by rfl, ?_⟩) (by assumption) ?_
          rotate_left
          · (intro w hSw; (try dsimp only at hSw); go_simp; try with_reducible rfl)
          try simp only [Act.put, List.setIfInBounds_toArray, List.set_cons_zero, List.set_cons_succ, List.getElem_toArray, List.getElem_cons_succ, List.getElem_cons_zero]
          refine wpTail_one (i := 7) (by kernel_rfl) rfl rfl (fun K hK => ?_)
          try simp only [Act.put, List.setIfInBounds_toArray, List.set_cons_zero, List.set_cons_succ, List.getElem_toArray, List.getElem_cons_succ, List.getElem_cons_zero]
          go_simp
          refine hK.out _ _ ⟨Ext.cell (w := wr) (by repeat (first | (with_reducible assumption) | (with_reducible refine Ext.setCell ?_ (by first | (simp; done) | (simp; omega) | omega) _) | (with_reducible apply Ext.alloc) | (with_reducible apply Ext.drew) | (with_reducible apply Ext.drewN) | (with_reducible exact Ext.refl _))) va1, Ext.cell (w := wr) (by repeat (first | (with_reducible assumption) | (with_reducible refine Ext.setCell ?_ (by first | (simp; done) | (simp; omega) | omega) _) | (with_reducible apply Ext.alloc) | (with_reducible apply Ext.drew) | (with_reducible apply Ext.drewN) | (with_reducible exact Ext.refl _))) ou1, Ext.cell (w := wr) (by repeat (first | (with_reducible assumption) | (with_reducible refine Ext.setCell ?_ (by first | (simp; done) | (simp; omega) | omega) _) | (with_reducible apply Ext.alloc) | (with_reducible apply Ext.drew) | (with_reducible apply Ext.drewN) | (with_reducible exact Ext.refl _))) es0⟩ (fun hHeld => ?_)
          clear hK K
          try simp only [Act.put, List.setIfInBounds_toArray, List.set_cons_zero, List.set_cons_succ, List.getElem_toArray, List.getElem_cons_succ, List.getElem_cons_zero]
          refine wpTail_one (i := 8) (by kernel_rfl) rfl rfl (fun K hK => ?_)
          have EE : Ext wr ((wr.drew).alloc (.cells #[.int .i64 (xs)] 3)) := (by repeat (first | (with_reducible assumption) | (with_reducible refine Ext.setCell ?_ (by first | (simp; done) | (simp; omega) | omega) _) | (with_reducible apply Ext.alloc) | (with_reducible apply Ext.drew) | (with_reducible apply Ext.drewN) | (with_reducible exact Ext.refl _)))
          have SS : Ints ((wr.drew).alloc (.cells #[.int .i64 (xs)] 3)) 0 (.slice (some ⟨wr.heap.size, 0, none⟩) 1 1) [xs] := by simpa using Ints.one wr.drew 0 (xs) (Nat.zero_le _)
          refine step_app rfl (.tmp 28) (.tmp 34) rfl rfl rfl (by exact O1.ext EE) (by exact SS) (by have := tl1; simp only [List.length_cons, List.length_nil]; omega) (by simp <;> omega) ?_
          intro vw3 w3 ho hgr hbl hvb
          obtain ⟨gw3, nw3, cw3, rfl, hnw3, Gw3, Gw3'⟩ := ho.row2 (by simp)
          have Bw3 := own_or hvb
          simp only [World.size_alloc, World.size_drew] at Bw3
          have Kw3 : Chg (g1) (g1 + 1) wr w3 := chg_grownD hgr
          have Xw3 : Ext w w3 := Ext.chg (lo := g1) (hi := g1 + 1) Xr Kw3 (by omega)
          replace va0 := Kw3.cell (by omega) va0
          replace va1 := Kw3.cell (by omega) va1
          replace va2 := Kw3.cell (by omega) va2
          replace q0 := Kw3.cell (by omega) q0
          replace f_q0 := Kw3.frzO (by omega) z_q f_q0
          replace q1 := Kw3.cell (by omega) q1
          replace f_q1 := Kw3.frzO (by omega) z_q f_q1
          replace q2 := Kw3.cell (by omega) q2
          replace f_q2 := Kw3.frzO (by omega) z_q f_q2
          replace ou0 := Kw3.cell (by omega) ou0
          replace f_ou0 := Kw3.frzO (by omega) z_ou f_ou0
          replace ou1 := Kw3.cell (by omega) ou1
          replace f_ou1 := Kw3.frzO (by omega) z_ou f_ou1
          replace ou2 := Kw3.cell (by omega) ou2
          replace f_ou2 := Kw3.frzO (by omega) z_ou f_ou2
          replace es0 := Kw3.cell (by omega) es0
          replace et0 := Kw3.cell (by omega) et0
          have z_va : w.heap.size < w3.heap.size := World.block_lt_of_cell? _ _ va0
          have z_q : w.heap.size + 1 < w3.heap.size := World.block_lt_of_cell? _ _ q0
          have z_ou : ga + 1 + 1 < w3.heap.size := World.block_lt_of_cell? _ _ ou0
          have z_es : b1s < w3.heap.size := World.block_lt_of_cell? _ _ es0
          have z_et : b2s < w3.heap.size := World.block_lt_of_cell? _ _ et0
          replace O2 := O2.chgN Kw3 (by omega)
          clear O1
          have O1 := ho
          have s_w3 : w.heap.size ≤ w3.heap.size := Xw3.size
          clear ho hgr hbl hvb Kw3
          clear EE SS
          refine hK.out _ _ ⟨va1, ou1, es0⟩ (fun hHeld => ?_)
          clear hK K
          try simp only [Act.put, List.setIfInBounds_toArray, List.set_cons_zero, List.set_cons_succ, List.getElem_toArray, List.getElem_cons_succ, List.getElem_cons_zero]
          refine wpTail_take (i := 9) (v := ?_) rfl (by kernel_rfl) (by kernel_rfl) (by kernel_rfl) rfl (by kernel_rfl) (fun _ _ _ h => h) (Or.inl ⟨by rfl, ?_⟩) (by assumption) ?_
          rotate_left
          · (intro w hSw; (try dsimp only at hSw); go_simp; try with_reducible rfl)
          try simp only [Act.put, List.setIfInBounds_toArray, List.set_cons_zero, List.set_cons_succ, List.getElem_toArray, List.getElem_cons_succ, List.getElem_cons_zero]
          refine wpTail_last (i := 10) (by kernel_rfl) rfl rfl (fun K hK => ?_)
          try simp only [Act.put, List.setIfInBounds_toArray, List.set_cons_zero, List.set_cons_succ, List.getElem_toArray, List.getElem_cons_succ, List.getElem_cons_zero]
          go_simp
          refine hK.out _ _ ?_
          clear hK K
          try simp only [Act.put, List.setIfInBounds_toArray, List.set_cons_zero, List.set_cons_succ, List.getElem_toArray, List.getElem_cons_succ, List.getElem_cons_zero]
          refine wpTail_done (by kernel_rfl) ?_ _
          clear hHeld
          have Kw4 : Chg (ga + 1 + 1) (ga + 1 + 1 + 1) w3 (w3.setCell ⟨ga + 1 + 1, 1, none⟩ (.slice (some ⟨gw3, 0, none⟩) nw3 cw3)) := (Chg.setCell (p := ⟨ga + 1 + 1, 1, none⟩) (Chg.refl (ga + 1 + 1) (ga + 1 + 1 + 1) _) (Nat.le_refl _) (Nat.lt_succ_self _) (.slice (some ⟨gw3, 0, none⟩) nw3 cw3))
          have Xw4 : Ext w (w3.setCell ⟨ga + 1 + 1, 1, none⟩ (.slice (some ⟨gw3, 0, none⟩) nw3 cw3)) := (Ext.setCell (p := ⟨ga + 1 + 1, 1, none⟩) Xw3 (by first | (simp; done) | (simp; omega) | omega) (.slice (some ⟨gw3, 0, none⟩) nw3 cw3))
          replace va0 := Kw4.cell (by omega) va0
          replace va1 := Kw4.cell (by omega) va1
          replace va2 := Kw4.cell (by omega) va2
          replace q0 := Kw4.cell (by omega) q0
          replace f_q0 := Kw4.frzO (by omega) z_q f_q0
          replace q1 := Kw4.cell (by omega) q1
          replace f_q1 := Kw4.frzO (by omega) z_q f_q1
          replace q2 := Kw4.cell (by omega) q2
          replace f_q2 := Kw4.frzO (by omega) z_q f_q2
          have n_ou0 : (w3.setCell ⟨ga + 1 + 1, 1, none⟩ (.slice (some ⟨gw3, 0, none⟩) nw3 cw3)).cell? ⟨ga + 1 + 1, 0, none⟩ = some (.int .i64 b1) := by go_simp
          have n_f_ou0 : (w3.setCell ⟨ga + 1 + 1, 1, none⟩ (.slice (some ⟨gw3, 0, none⟩) nw3 cw3)).frozen? ⟨ga + 1 + 1, 0, none⟩ = false := by go_simp
          have n_ou1 : (w3.setCell ⟨ga + 1 + 1, 1, none⟩ (.slice (some ⟨gw3, 0, none⟩) nw3 cw3)).cell? ⟨ga + 1 + 1, 1, none⟩ = some (.slice (some ⟨gw3, 0, none⟩) nw3 cw3) := by go_simp
          have n_f_ou1 : (w3.setCell ⟨ga + 1 + 1, 1, none⟩ (.slice (some ⟨gw3, 0, none⟩) nw3 cw3)).frozen? ⟨ga + 1 + 1, 1, none⟩ = false := by go_simp
          have n_ou2 : (w3.setCell ⟨ga + 1 + 1, 1, none⟩ (.slice (some ⟨gw3, 0, none⟩) nw3 cw3)).cell? ⟨ga + 1 + 1, 2, none⟩ = some (.slice (some ⟨g2, 0, none⟩) n2 c2) := by go_simp
          have n_f_ou2 : (w3.setCell ⟨ga + 1 + 1, 1, none⟩ (.slice (some ⟨gw3, 0, none⟩) nw3 cw3)).frozen? ⟨ga + 1 + 1, 2, none⟩ = false := by go_simp
          replace ou0 := n_ou0
          clear n_ou0
          replace f_ou0 := n_f_ou0
          clear n_f_ou0
          replace ou1 := n_ou1
          clear n_ou1
          replace f_ou1 := n_f_ou1
          clear n_f_ou1
          replace ou2 := n_ou2
          clear n_ou2
          replace f_ou2 := n_f_ou2
          clear n_f_ou2
          replace es0 := Kw4.cell (by omega) es0
          replace et0 := Kw4.cell (by omega) et0
          replace O1 := O1.chgN Kw4 (by omega)
          replace O2 := O2.chgN Kw4 (by omega)
          clear Kw4
          have z_va : w.heap.size < (w3.setCell ⟨ga + 1 + 1, 1, none⟩ (.slice (some ⟨gw3, 0, none⟩) nw3 cw3)).heap.size := World.block_lt_of_cell? _ _ va0
          have z_q : w.heap.size + 1 < (w3.setCell ⟨ga + 1 + 1, 1, none⟩ (.slice (some ⟨gw3, 0, none⟩) nw3 cw3)).heap.size := World.block_lt_of_cell? _ _ q0
          have z_ou : ga + 1 + 1 < (w3.setCell ⟨ga + 1 + 1, 1, none⟩ (.slice (some ⟨gw3, 0, none⟩) nw3 cw3)).heap.size := World.block_lt_of_cell? _ _ ou0
          have z_es : b1s < (w3.setCell ⟨ga + 1 + 1, 1, none⟩ (.slice (some ⟨gw3, 0, none⟩) nw3 cw3)).heap.size := World.block_lt_of_cell? _ _ es0
          have z_et : b2s < (w3.setCell ⟨ga + 1 + 1, 1, none⟩ (.slice (some ⟨gw3, 0, none⟩) nw3 cw3)).heap.size := World.block_lt_of_cell? _ _ et0
          have s_w4 : w.heap.size ≤ (w3.setCell ⟨ga + 1 + 1, 1, none⟩ (.slice (some ⟨gw3, 0, none⟩) nw3 cw3)).heap.size := Xw4.size
          generalize (w3.setCell ⟨ga + 1 + 1, 1, none⟩ (.slice (some ⟨gw3, 0, none⟩) nw3 cw3)) = w4 at *
          have hB3 := own_lt O1 rfl
          go_wp2_with fail
          refine wp_region_tail (S := fun w' => w'.cell? ⟨w.heap.size, 2, none⟩ = some (.slice (some ⟨b2s, o2s, none⟩) t1.length cp2) ∧ w'.cell? ⟨ga + 1 + 1, 2, none⟩ = some (.slice (some ⟨g2, 0, none⟩) n2 c2) ∧ w'.cell? ⟨b2s, o2s + j, none⟩ = some (.int .i64 xt)) (fun i => decide (10 ≤ i)) (by kernel_rfl) ⟨va2, ou2, et0⟩ (fun hHeld => ?_)
          refine wpTail_take (i := 0) (v := ?_) rfl (by kernel_rfl) (by kernel_rfl) (by kernel_rfl) rfl (by kernel_rfl) (fun _ _ _ h => h) (Or.inl ⟨by rfl, ?_⟩) (by assumption) ?_
          rotate_left
          · (intro w hSw; (try dsimp only at hSw); go_simp; try with_reducible rfl)
          try simp only [Act.put, List.setIfInBounds_toArray, List.set_cons_zero, List.set_cons_succ, List.getElem_toArray, List.getElem_cons_succ, List.getElem_cons_zero]
          refine wpTail_take (i := 1) (v := ?_) rfl (by kernel_rfl) (by kernel_rfl) (by kernel_rfl) rfl (by kernel_rfl) (fun _ _ _ h => h) (Or.inl ⟨by rfl, ?_⟩) (by assumption) ?_
          rotate_left
          · (intro w hSw; (try dsimp only at hSw); go_simp; try with_reducible rfl)
          try simp only [Act.put, List.setIfInBounds_toArray, List.set_cons_zero, List.set_cons_succ, List.getElem_toArray, List.getElem_cons_succ, List.getElem_cons_zero]
          refine wpTail_take (i := 2) (v := ?_) rfl (by kernel_rfl) (by kernel_rfl) (by kernel_rfl) rfl (by kernel_rfl) (fun _ _ _ h => h) (Or.inl ⟨by rfl, ?_⟩) (by assumption) ?_
          rotate_left
          · (intro w hSw; (try dsimp only at hSw); go_simp; try with_reducible rfl)
          try simp only [Act.put, List.setIfInBounds_toArray, List.set_cons_zero, List.set_cons_succ, List.getElem_toArray, List.getElem_cons_succ, List.getElem_cons_zero]
          refine wpTail_take (i := 3) (v := ?_) rfl (by kernel_rfl) (by kernel_rfl) (by kernel_rfl) rfl (by kernel_rfl) (fun _ _ _ h => h) (Or.inl ⟨by rfl, ?_⟩) (by assumption) ?_
          rotate_left
          · (intro w hSw; (try dsimp only at hSw); go_simp; try with_reducible rfl)
          try simp only [Act.put, List.setIfInBounds_toArray, List.set_cons_zero, List.set_cons_succ, List.getElem_toArray, List.getElem_cons_succ, List.getElem_cons_zero]
          refine wpTail_take (i := 4) (v := ?_) rfl (by kernel_rfl) (by kernel_rfl) (by kernel_rfl) rfl (by kernel_rfl) (fun _ _ _ h => h) (Or.inl ⟨by rfl, ?_⟩) (by assumption) ?_
          rotate_left
          · (intro w hSw; (try dsimp only at hSw); go_simp; try with_reducible rfl)
          try simp only [Act.put, List.setIfInBounds_toArray, List.set_cons_zero, List.set_cons_succ, List.getElem_toArray, List.getElem_cons_succ, List.getElem_cons_zero]
          refine wpTail_take (i := 5) (v := ?_) rfl (by kernel_rfl) (by kernel_rfl) (by kernel_rfl) rfl (by kernel_rfl) (fun _ _ _ h => h) (Or.inl ⟨by rfl, ?_⟩) (by assumption) ?_
          rotate_left
          · (intro w hSw; (try dsimp only at hSw); go_simp; try with_reducible rfl)
          try simp only [Act.put, List.setIfInBounds_toArray, List.set_cons_zero, List.set_cons_succ, List.getElem_toArray, List.getElem_cons_succ, List.getElem_cons_zero]
          refine wpTail_take (i := 6) (v := ?_) rfl (by kernel_rfl) (by kernel_rfl) (by kernel_rfl) rfl (by kernel_rfl) (fun _ _ _ h => h) (Or.inl ⟨by rfl, ?_⟩) (by assumption) ?_
          rotate_left
          · (intro w hSw; (try dsimp only at hSw); go_simp; try with_reducible rfl)
          try simp only [Act.put, List.setIfInBounds_toArray, List.set_cons_zero, List.set_cons_succ, List.getElem_toArray, List.getElem_cons_succ, List.getElem_cons_zero]
          refine wpTail_one (i := 7) (by kernel_rfl) rfl rfl (fun K hK => ?_)
          try simp only [Act.put, List.setIfInBounds_toArray, List.set_cons_zero, List.set_cons_succ, List.getElem_toArray, List.getElem_cons_succ, List.getElem_cons_zero]
          go_simp
          refine hK.out _ _ ⟨Ext.cell (w := w4) (by repeat (first | (with_reducible assumption) | (with_reducible refine Ext.setCell ?_ (by first | (simp; done) | (simp; omega) | omega) _) | (with_reducible apply Ext.alloc) | (with_reducible apply Ext.drew) | (with_reducible apply Ext.drewN) | (with_reducible exact Ext.refl _))) va2, Ext.cell (w := w4) (by repeat (first | (with_reducible assumption) | (with_reducible refine Ext.setCell ?_ (by first | (simp; done) | (simp; omega) | omega) _) | (with_reducible apply Ext.alloc) | (with_reducible apply Ext.drew) | (with_reducible apply Ext.drewN) | (with_reducible exact Ext.refl _))) ou2, Ext.cell (w := w4) (by repeat (first | (with_reducible assumption) | (with_reducible refine Ext.setCell ?_ (by first | (simp; done) | (simp; omega) | omega) _) | (with_reducible apply Ext.alloc) | (with_reducible apply Ext.drew) | (with_reducible apply Ext.drewN) | (with_reducible exact Ext.refl _))) et0⟩ (fun hHeld => ?_)
          clear hK K
          try simp only [Act.put, List.setIfInBounds_toArray, List.set_cons_zero, List.set_cons_succ, List.getElem_toArray, List.getElem_cons_succ, List.getElem_cons_zero]
          refine wpTail_one (i := 8) (by kernel_rfl) rfl rfl (fun K hK => ?_)
          have EE : Ext w4 ((w4.drew).alloc (.cells #[.int .i64 (xt)] 3)) := (by repeat (first | (with_reducible assumption) | (with_reducible refine Ext.setCell ?_ (by first | (simp; done) | (simp; omega) | omega) _) | (with_reducible apply Ext.alloc) | (with_reducible apply Ext.drew) | (with_reducible apply Ext.drewN) | (with_reducible exact Ext.refl _)))
          have SS : Ints ((w4.drew).alloc (.cells #[.int .i64 (xt)] 3)) 0 (.slice (some ⟨w4.heap.size, 0, none⟩) 1 1) [xt] := by simpa using Ints.one w4.drew 0 (xt) (Nat.zero_le _)
          refine step_app rfl (.tmp 38) (.tmp 44) rfl rfl rfl (by exact O2.ext EE) (by exact SS) (by have := tl2; simp only [List.length_cons, List.length_nil]; omega) (by simp <;> omega) ?_
          intro vw5 w5 ho hgr hbl hvb
          obtain ⟨gw5, nw5, cw5, rfl, hnw5, Gw5, Gw5'⟩ := ho.row2 (by simp)
          have Bw5 := own_or hvb
          simp only [World.size_alloc, World.size_drew] at Bw5
          have Kw5 : Chg (g2) (g2 + 1) w4 w5 := chg_grownD hgr
          have Xw5 : Ext w w5 := Ext.chg (lo := g2) (hi := g2 + 1) Xw4 Kw5 (by omega)
          replace va0 := Kw5.cell (by omega) va0
          replace va1 := Kw5.cell (by omega) va1
          replace va2 := Kw5.cell (by omega) va2
          replace q0 := Kw5.cell (by omega) q0
          replace f_q0 := Kw5.frzO (by omega) z_q f_q0
          replace q1 := Kw5.cell (by omega) q1
          replace f_q1 := Kw5.frzO (by omega) z_q f_q1
          replace q2 := Kw5.cell (by omega) q2
          replace f_q2 := Kw5.frzO (by omega) z_q f_q2
          replace ou0 := Kw5.cell (by omega) ou0
          replace f_ou0 := Kw5.frzO (by omega) z_ou f_ou0
          replace ou1 := Kw5.cell (by omega) ou1
          replace f_ou1 := Kw5.frzO (by omega) z_ou f_ou1
          replace ou2 := Kw5.cell (by omega) ou2
          replace f_ou2 := Kw5.frzO (by omega) z_ou f_ou2
          replace es0 := Kw5.cell (by omega) es0
          replace et0 := Kw5.cell (by omega) et0
          have z_va : w.heap.size < w5.heap.size := World.block_lt_of_cell? _ _ va0
          have z_q : w.heap.size + 1 < w5.heap.size := World.block_lt_of_cell? _ _ q0
          have z_ou : ga + 1 + 1 < w5.heap.size := World.block_lt_of_cell? _ _ ou0
          have z_es : b1s < w5.heap.size := World.block_lt_of_cell? _ _ es0
          have z_et : b2s < w5.heap.size := World.block_lt_of_cell? _ _ et0
          replace O1 := O1.chgN Kw5 (by omega)
          clear O2
          have O2 := ho
          have s_w5 : w.heap.size ≤ w5.heap.size := Xw5.size
          clear ho hgr hbl hvb Kw5
          clear EE SS
          refine hK.out _ _ ⟨va2, ou2, et0⟩ (fun hHeld => ?_)
          clear hK K
          try simp only [Act.put, List.setIfInBounds_toArray, List.set_cons_zero, List.set_cons_succ, List.getElem_toArray, List.getElem_cons_succ, List.getElem_cons_zero]
          refine wpTail_take (i := 9) (v := ?_) rfl (by kernel_rfl) (by kernel_rfl) (by kernel_rfl) rfl (by kernel_rfl) (fun _ _ _ h => h) (Or.inl ⟨by rfl, ?_⟩) (by assumption) ?_
          rotate_left
          · (intro w hSw; (try dsimp only at hSw); go_simp; try with_reducible rfl)
          try simp only [Act.put, List.setIfInBounds_toArray, List.set_cons_zero, List.set_cons_succ, List.getElem_toArray, List.getElem_cons_succ, List.getElem_cons_zero]
          refine wpTail_last (i := 10) (by kernel_rfl) rfl rfl (fun K hK => ?_)
          try simp only [Act.put, List.setIfInBounds_toArray, List.set_cons_zero, List.set_cons_succ, List.getElem_toArray, List.getElem_cons_succ, List.getElem_cons_zero]
          go_simp
          refine hK.out _ _ ?_
          clear hK K
          try simp only [Act.put, List.setIfInBounds_toArray, List.set_cons_zero, List.set_cons_succ, List.getElem_toArray, List.getElem_cons_succ, List.getElem_cons_zero]
          refine wpTail_done (by kernel_rfl) ?_ _
          clear hHeld
          have Kw6 : Chg (ga + 1 + 1) (ga + 1 + 1 + 1) w5 (w5.setCell ⟨ga + 1 + 1, 2, none⟩ (.slice (some ⟨gw5, 0, none⟩) nw5 cw5)) := (Chg.setCell (p := ⟨ga + 1 + 1, 2, none⟩) (Chg.refl (ga + 1 + 1) (ga + 1 + 1 + 1) _) (Nat.le_refl _) (Nat.lt_succ_self _) (.slice (some ⟨gw5, 0, none⟩) nw5 cw5))
          have Xw6 : Ext w (w5.setCell ⟨ga + 1 + 1, 2, none⟩ (.slice (some ⟨gw5, 0, none⟩) nw5 cw5)) := (Ext.setCell (p := ⟨ga + 1 + 1, 2, none⟩) Xw5 (by first | (simp; done) | (simp; omega) | omega) (.slice (some ⟨gw5, 0, none⟩) nw5 cw5))
          replace va0 := Kw6.cell (by omega) va0
          replace va1 := Kw6.cell (by omega) va1
          replace va2 := Kw6.cell (by omega) va2
          replace q0 := Kw6.cell (by omega) q0
          replace f_q0 := Kw6.frzO (by omega) z_q f_q0
          replace q1 := Kw6.cell (by omega) q1
          replace f_q1 := Kw6.frzO (by omega) z_q f_q1
          replace q2 := Kw6.cell (by omega) q2
          replace f_q2 := Kw6.frzO (by omega) z_q f_q2
          have n_ou0 : (w5.setCell ⟨ga + 1 + 1, 2, none⟩ (.slice (some ⟨gw5, 0, none⟩) nw5 cw5)).cell? ⟨ga + 1 + 1, 0, none⟩ = some (.int .i64 b1) := by go_simp
          have n_f_ou0 : (w5.setCell ⟨ga + 1 + 1, 2, none⟩ (.slice (some ⟨gw5, 0, none⟩) nw5 cw5)).frozen? ⟨ga + 1 + 1, 0, none⟩ = false := by go_simp
          have n_ou1 : (w5.setCell ⟨ga + 1 + 1, 2, none⟩ (.slice (some ⟨gw5, 0, none⟩) nw5 cw5)).cell? ⟨ga + 1 + 1, 1, none⟩ = some (.slice (some ⟨gw3, 0, none⟩) nw3 cw3) := by go_simp
          have n_f_ou1 : (w5.setCell ⟨ga + 1 + 1, 2, none⟩ (.slice (some ⟨gw5, 0, none⟩) nw5 cw5)).frozen? ⟨ga + 1 + 1, 1, none⟩ = false := by go_simp
          have n_ou2 : (w5.setCell ⟨ga + 1 + 1, 2, none⟩ (.slice (some ⟨gw5, 0, none⟩) nw5 cw5)).cell? ⟨ga + 1 + 1, 2, none⟩ = some (.slice (some ⟨gw5, 0, none⟩) nw5 cw5) := by go_simp
          have n_f_ou2 : (w5.setCell ⟨ga + 1 + 1, 2, none⟩ (.slice (some ⟨gw5, 0, none⟩) nw5 cw5)).frozen? ⟨ga + 1 + 1, 2, none⟩ = false := by go_simp
          replace ou0 := n_ou0
          clear n_ou0
          replace f_ou0 := n_f_ou0
          clear n_f_ou0
          replace ou1 := n_ou1
          clear n_ou1
          replace f_ou1 := n_f_ou1
          clear n_f_ou1
          replace ou2 := n_ou2
          clear n_ou2
          replace f_ou2 := n_f_ou2
          clear n_f_ou2
          replace es0 := Kw6.cell (by omega) es0
          replace et0 := Kw6.cell (by omega) et0
          replace O1 := O1.chgN Kw6 (by omega)
          replace O2 := O2.chgN Kw6 (by omega)
          clear Kw6
          have z_va : w.heap.size < (w5.setCell ⟨ga + 1 + 1, 2, none⟩ (.slice (some ⟨gw5, 0, none⟩) nw5 cw5)).heap.size := World.block_lt_of_cell? _ _ va0
          have z_q : w.heap.size + 1 < (w5.setCell ⟨ga + 1 + 1, 2, none⟩ (.slice (some ⟨gw5, 0, none⟩) nw5 cw5)).heap.size := World.block_lt_of_cell? _ _ q0
          have z_ou : ga + 1 + 1 < (w5.setCell ⟨ga + 1 + 1, 2, none⟩ (.slice (some ⟨gw5, 0, none⟩) nw5 cw5)).heap.size := World.block_lt_of_cell? _ _ ou0
          have z_es : b1s < (w5.setCell ⟨ga + 1 + 1, 2, none⟩ (.slice (some ⟨gw5, 0, none⟩) nw5 cw5)).heap.size := World.block_lt_of_cell? _ _ es0
          have z_et : b2s < (w5.setCell ⟨ga + 1 + 1, 2, none⟩ (.slice (some ⟨gw5, 0, none⟩) nw5 cw5)).heap.size := World.block_lt_of_cell? _ _ et0
          have s_w6 : w.heap.size ≤ (w5.setCell ⟨ga + 1 + 1, 2, none⟩ (.slice (some ⟨gw5, 0, none⟩) nw5 cw5)).heap.size := Xw6.size
          generalize (w5.setCell ⟨ga + 1 + 1, 2, none⟩ (.slice (some ⟨gw5, 0, none⟩) nw5 cw5)) = w6 at *
          go_wp2_with fail
          go_roundw
          case rel => exact ⟨j + 1, _, _, _, _, _, _, by omega, by go_num, by rw [hs1.out]; exact O1, by rw [hs2.out]; exact O2, by (obtain ⟨hg12, hg1o, hg2o⟩ := hgs; omega), Xw6, va0, va1, va2, q0, q1, q2, f_q0, f_q1, f_q2, ou0, ou1, ou2, f_ou0, f_ou1, f_ou2⟩
          case measure => simp [intOf]; omega
      · obtain rfl : j = s1.length := by omega
        have hI : ¬ ((s1.length : Int) < s1.length) := by omega
        rw [List.take_length] at O1 O2
        rw [List.take_of_length_le (by have := ht.out; omega)] at O2
        have tl1 := dropS_len s1
        have tl2 := dropT_le s1 t1
        have z_va : w.heap.size < wr.heap.size := World.block_lt_of_cell? _ _ va0
        have z_q : w.heap.size + 1 < wr.heap.size := World.block_lt_of_cell? _ _ q0
        have z_ou : ga + 1 + 1 < wr.heap.size := World.block_lt_of_cell? _ _ ou0
        go_wp2_with fail
        have Kw3 : Chg (w.heap.size + 1) (w.heap.size + 1 + 1) wr (((wr.setCell ⟨w.heap.size + 1, 0, none⟩ (.int .i64 b1)).setCell ⟨w.heap.size + 1, 1, none⟩ (.slice (some ⟨g1, 0, none⟩) n1 c1)).setCell ⟨w.heap.size + 1, 2, none⟩ (.slice (some ⟨g2, 0, none⟩) n2 c2)) := (Chg.setCell (p := ⟨w.heap.size + 1, 2, none⟩) (Chg.setCell (p := ⟨w.heap.size + 1, 1, none⟩) (Chg.setCell (p := ⟨w.heap.size + 1, 0, none⟩) (Chg.refl (w.heap.size + 1) (w.heap.size + 1 + 1) _) (Nat.le_refl _) (Nat.lt_succ_self _) (.int .i64 b1)) (Nat.le_refl _) (Nat.lt_succ_self _) (.slice (some ⟨g1, 0, none⟩) n1 c1)) (Nat.le_refl _) (Nat.lt_succ_self _) (.slice (some ⟨g2, 0, none⟩) n2 c2))
        have Xw3 : Ext w (((wr.setCell ⟨w.heap.size + 1, 0, none⟩ (.int .i64 b1)).setCell ⟨w.heap.size + 1, 1, none⟩ (.slice (some ⟨g1, 0, none⟩) n1 c1)).setCell ⟨w.heap.size + 1, 2, none⟩ (.slice (some ⟨g2, 0, none⟩) n2 c2)) := (Ext.setCell (p := ⟨w.heap.size + 1, 2, none⟩) (Ext.setCell (p := ⟨w.heap.size + 1, 1, none⟩) (Ext.setCell (p := ⟨w.heap.size + 1, 0, none⟩) Xr (by first | (simp; done) | (simp; omega) | omega) (.int .i64 b1)) (by first | (simp; done) | (simp; omega) | omega) (.slice (some ⟨g1, 0, none⟩) n1 c1)) (by first | (simp; done) | (simp; omega) | omega) (.slice (some ⟨g2, 0, none⟩) n2 c2))
        replace va0 := Kw3.cell (by omega) va0
        replace va1 := Kw3.cell (by omega) va1
        replace va2 := Kw3.cell (by omega) va2
        have n_q0 : (((wr.setCell ⟨w.heap.size + 1, 0, none⟩ (.int .i64 b1)).setCell ⟨w.heap.size + 1, 1, none⟩ (.slice (some ⟨g1, 0, none⟩) n1 c1)).setCell ⟨w.heap.size + 1, 2, none⟩ (.slice (some ⟨g2, 0, none⟩) n2 c2)).cell? ⟨w.heap.size + 1, 0, none⟩ = some (.int .i64 b1) := by go_simp
        have n_f_q0 : (((wr.setCell ⟨w.heap.size + 1, 0, none⟩ (.int .i64 b1)).setCell ⟨w.heap.size + 1, 1, none⟩ (.slice (some ⟨g1, 0, none⟩) n1 c1)).setCell ⟨w.heap.size + 1, 2, none⟩ (.slice (some ⟨g2, 0, none⟩) n2 c2)).frozen? ⟨w.heap.size + 1, 0, none⟩ = false := by go_simp
        have n_q1 : (((wr.setCell ⟨w.heap.size + 1, 0, none⟩ (.int .i64 b1)).setCell ⟨w.heap.size + 1, 1, none⟩ (.slice (some ⟨g1, 0, none⟩) n1 c1)).setCell ⟨w.heap.size + 1, 2, none⟩ (.slice (some ⟨g2, 0, none⟩) n2 c2)).cell? ⟨w.heap.size + 1, 1, none⟩ = some (.slice (some ⟨g1, 0, none⟩) n1 c1) := by go_simp
        have n_f_q1 : (((wr.setCell ⟨w.heap.size + 1, 0, none⟩ (.int .i64 b1)).setCell ⟨w.heap.size + 1, 1, none⟩ (.slice (some ⟨g1, 0, none⟩) n1 c1)).setCell ⟨w.heap.size + 1, 2, none⟩ (.slice (some ⟨g2, 0, none⟩) n2 c2)).frozen? ⟨w.heap.size + 1, 1, none⟩ = false := by go_simp
        have n_q2 : (((wr.setCell ⟨w.heap.size + 1, 0, none⟩ (.int .i64 b1)).setCell ⟨w.heap.size + 1, 1, none⟩ (.slice (some ⟨g1, 0, none⟩) n1 c1)).setCell ⟨w.heap.size + 1, 2, none⟩ (.slice (some ⟨g2, 0, none⟩) n2 c2)).cell? ⟨w.heap.size + 1, 2, none⟩ = some (.slice (some ⟨g2, 0, none⟩) n2 c2) := by go_simp
        have n_f_q2 : (((wr.setCell ⟨w.heap.size + 1, 0, none⟩ (.int .i64 b1)).setCell ⟨w.heap.size + 1, 1, none⟩ (.slice (some ⟨g1, 0, none⟩) n1 c1)).setCell ⟨w.heap.size + 1, 2, none⟩ (.slice (some ⟨g2, 0, none⟩) n2 c2)).frozen? ⟨w.heap.size + 1, 2, none⟩ = false := by go_simp
        replace q0 := n_q0
        clear n_q0
        replace f_q0 := n_f_q0
        clear n_f_q0
        replace q1 := n_q1
        clear n_q1
        replace f_q1 := n_f_q1
        clear n_f_q1
        replace q2 := n_q2
        clear n_q2
        replace f_q2 := n_f_q2
        clear n_f_q2
        replace ou0 := Kw3.cell (by omega) ou0
        replace f_ou0 := Kw3.frzO (by omega) z_ou f_ou0
        replace ou1 := Kw3.cell (by omega) ou1
        replace f_ou1 := Kw3.frzO (by omega) z_ou f_ou1
        replace ou2 := Kw3.cell (by omega) ou2
        replace f_ou2 := Kw3.frzO (by omega) z_ou f_ou2
        replace O1 := O1.chgN Kw3 (by omega)
        replace O2 := O2.chgN Kw3 (by omega)
        clear Kw3
        have z_va : w.heap.size < (((wr.setCell ⟨w.heap.size + 1, 0, none⟩ (.int .i64 b1)).setCell ⟨w.heap.size + 1, 1, none⟩ (.slice (some ⟨g1, 0, none⟩) n1 c1)).setCell ⟨w.heap.size + 1, 2, none⟩ (.slice (some ⟨g2, 0, none⟩) n2 c2)).heap.size := World.block_lt_of_cell? _ _ va0
        have z_q : w.heap.size + 1 < (((wr.setCell ⟨w.heap.size + 1, 0, none⟩ (.int .i64 b1)).setCell ⟨w.heap.size + 1, 1, none⟩ (.slice (some ⟨g1, 0, none⟩) n1 c1)).setCell ⟨w.heap.size + 1, 2, none⟩ (.slice (some ⟨g2, 0, none⟩) n2 c2)).heap.size := World.block_lt_of_cell? _ _ q0
        have z_ou : ga + 1 + 1 < (((wr.setCell ⟨w.heap.size + 1, 0, none⟩ (.int .i64 b1)).setCell ⟨w.heap.size + 1, 1, none⟩ (.slice (some ⟨g1, 0, none⟩) n1 c1)).setCell ⟨w.heap.size + 1, 2, none⟩ (.slice (some ⟨g2, 0, none⟩) n2 c2)).heap.size := World.block_lt_of_cell? _ _ ou0
        have s_w3 : w.heap.size ≤ (((wr.setCell ⟨w.heap.size + 1, 0, none⟩ (.int .i64 b1)).setCell ⟨w.heap.size + 1, 1, none⟩ (.slice (some ⟨g1, 0, none⟩) n1 c1)).setCell ⟨w.heap.size + 1, 2, none⟩ (.slice (some ⟨g2, 0, none⟩) n2 c2)).heap.size := Xw3.size
        generalize (((wr.setCell ⟨w.heap.size + 1, 0, none⟩ (.int .i64 b1)).setCell ⟨w.heap.size + 1, 1, none⟩ (.slice (some ⟨g1, 0, none⟩) n1 c1)).setCell ⟨w.heap.size + 1, 2, none⟩ (.slice (some ⟨g2, 0, none⟩) n2 c2)) = w3 at *
        refine bodyPost_ret (v := .agg #[.int .i64 b1, .slice (some ⟨g1, 0, none⟩) n1 c1, .slice (some ⟨g2, 0, none⟩) n2 c2]) (by simp only [results, Try.results47]; go_simp) rfl ?_
        rw [hr.out]
        exact PView.own (O1.lower (by omega)).z (O2.lower (by omega)).z (fun _ _ h => by have h7 : some g1 = some g2 := h; cases h7; omega) (show (dropS s1).length ≤ _ by omega) (show (dropT s1 t1).length ≤ _ by omega) Xw3

end Go.Proofs.Ytnjaidgifccgjaa

/- Helpers of the laws: equal lists, equal views, a number in a list. -/
namespace Go.Proofs.Ytnjaidgifccgjaa
open Go.RowKit
set_option linter.unusedVariables false
set_option maxRecDepth 100000



set_option maxHeartbeats 1600000 in
theorem leqInts_c (xs : List Int) (a b : Value) (w : World) (la lb : Nat) (ha : Ints w la a xs) (hb : Ints w lb b xs) :
    Calls Try.prog 20 #[a, b] w fun e w' => e = .returned (.bool true) ∧ Ext w w' := by
  obtain ⟨a1, cap1, rfl, _, _, ⟨hlen, _⟩, hc1⟩ := ha
  obtain ⟨a2, cap2, rfl, _, _, ⟨hlen2, _⟩, hc2⟩ := hb
  go_enter Try.func20, Try.ntmps20
  go_wp2_with fail
  go_loopw [5] (fun i wr => ∃ k m : Nat, k ≤ xs.length ∧ i = .int .i64 k ∧ wr = w.drewN m) (fun i _ => xs.length - (intOf i).toNat)
  case atStart => exact ⟨0, 0, Nat.zero_le _, rfl, rfl⟩
  case round =>
    obtain ⟨k, m, hk, rfl, rfl⟩ := hrel
    by_cases hlt : k < xs.length
    · obtain ⟨b1, off1, rfl, _, hcell1, _⟩ := hc1 k hlt
      obtain ⟨b2, off2, rfl, _, hcell2, _⟩ := hc2 k hlt
      have hk4 : (k : Int) < xs.length := by omega
      clear hc1 hc2
      generalize xs.getD k 0 = x at *
      go_wp2_with fail
      go_quiet (fail)
      go_wp2_with fail
      go_roundw
      case rel => exact ⟨k+1, _, by omega, by go_num, rfl⟩
      case measure => simp [intOf]; omega
    · obtain rfl : k = xs.length := by omega
      go_wp2_with fail
      go_ret
      exact ⟨rfl, (by repeat (first | exact Ext.refl _ | assumption | apply Ext.drewN | apply Ext.drew | apply Ext.alloc))⟩

set_option maxHeartbeats 1600000 in
theorem isIn_c (xs : List Int) (n : Int) (a : Value) (w : World) (la : Nat) (ha : Ints w la a xs) :
    Calls Try.prog 29 #[a, .int .i64 n] w fun e w' => e = .returned (.bool (decide (n ∈ xs))) ∧ Ext w w' := by
  obtain ⟨a1, cap1, rfl, _, _, ⟨hlen, _⟩, hc1⟩ := ha
  go_enter Try.func29, Try.ntmps29
  go_wp2_with fail
  go_loopw [5] (fun i wr => ∃ k m : Nat, k ≤ xs.length ∧ i = .int .i64 k ∧ wr = w.drewN m ∧ Hid (n ∉ xs.take k)) (fun i _ => xs.length - (intOf i).toNat)
  case atStart => exact ⟨0, 0, Nat.zero_le _, rfl, rfl, Lib.hid (by simp)⟩
  case round =>
    obtain ⟨k, m, hk, rfl, rfl, ht⟩ := hrel
    by_cases hlt : k < xs.length
    · obtain ⟨b1, off1, rfl, _, hcell1, _⟩ := hc1 k hlt
      have hk4 : (k : Int) < xs.length := by omega
      have hg := Lib.hid (show xs.getD k 0 ∈ xs by simp [hlt])
      have hs := Lib.hid (show xs.take (k+1) = xs.take k ++ [xs.getD k 0] by rw [List.take_succ_eq_append_getElem hlt]; simp [hlt])
      clear hc1
      generalize xs.getD k 0 = x at *
      by_cases hx : x = n
      · have hq : (x == n) = true := by simpa using hx
        have hn := Lib.hid (show decide (n ∈ xs) = true by rw [← hx]; simpa using hg.out)
        replace hx := Lib.hid hx
        go_wp2_with fail
        go_ret
        exact ⟨by rw [hn.out] <;> rfl, (by repeat (first | exact Ext.refl _ | assumption | apply Ext.drewN | apply Ext.drew | apply Ext.alloc))⟩
      · have hq : (x == n) = false := by simpa using hx
        have hn := Lib.hid (show n ∉ xs.take (k+1) by rw [hs.out]; simp only [List.mem_append, List.mem_singleton, not_or]; exact ⟨ht.out, fun h => hx h.symm⟩)
        replace hx := Lib.hid hx
        go_wp2_with fail
        go_roundw
        case rel => exact ⟨k+1, _, by omega, by go_num, rfl, hn⟩
        case measure => simp [intOf]; omega
    · obtain rfl : k = xs.length := by omega
      have hn := Lib.hid (show decide (n ∈ xs) = false by have := ht.out; rw [List.take_length] at this; simpa using this)
      go_wp2_with fail
      go_ret
      exact ⟨by rw [hn.out] <;> rfl, (by repeat (first | exact Ext.refl _ | assumption | apply Ext.drewN | apply Ext.drew | apply Ext.alloc))⟩

set_option maxHeartbeats 1600000 in
theorem leqView_c (b1 : Int) (u1 v1 u2 v2 : Value) (s1 t1 : List Int) (w : World) (l1 m1 l2 m2 : Nat) (h1 : Ints w l1 u1 s1) (k1 : Ints w m1 v1 t1) (h2 : Ints w l2 u2 s1) (k2 : Ints w m2 v2 t1) :
    Calls Try.prog 46 #[.agg #[.int .i64 b1, u1, v1], .agg #[.int .i64 b1, u2, v2]] w fun e w' => e = .returned (.bool true) ∧ Ext w w' := by
  obtain ⟨a1, cp1, rfl⟩ := h1.form
  obtain ⟨a2, cp2, rfl⟩ := k1.form
  obtain ⟨a3, cp3, rfl⟩ := h2.form
  obtain ⟨a4, cp4, rfl⟩ := k2.form
  go_enter Try.func46, Try.ntmps46
  go_wp2_with fail
  refine (leqInts_c s1 _ _ _ l1 l2 (h1.ext (by repeat (first | (with_reducible assumption) | (with_reducible refine Ext.setCell ?_ (by first | (simp; done) | (simp; omega) | omega) _) | (with_reducible apply Ext.alloc) | (with_reducible apply Ext.drew) | (with_reducible apply Ext.drewN) | (with_reducible exact Ext.refl _)))) (h2.ext (by repeat (first | (with_reducible assumption) | (with_reducible refine Ext.setCell ?_ (by first | (simp; done) | (simp; omega) | omega) _) | (with_reducible apply Ext.alloc) | (with_reducible apply Ext.drew) | (with_reducible apply Ext.drewN) | (with_reducible exact Ext.refl _))))).mono ?_
  rintro e w1 ⟨rfl, xw1⟩
  have Lw1 : Ext w w1 := Ext.trans (by repeat (first | (with_reducible assumption) | (with_reducible refine Ext.setCell ?_ (by first | (simp; done) | (simp; omega) | omega) _) | (with_reducible apply Ext.alloc) | (with_reducible apply Ext.drew) | (with_reducible apply Ext.drewN) | (with_reducible exact Ext.refl _))) xw1
  have Xw1 : Ext w w1 := Lw1
  have va0 : w1.cell? ⟨w.heap.size, 0, none⟩ = some (.int .i64 b1) := xw1.cell (by first | (simp; done) | ((repeat rw [World.cell?_alloc_lt _ _ _ (by simp <;> omega)]); simp; done) | (go_simp; done))
  have va1 : w1.cell? ⟨w.heap.size, 1, none⟩ = some (.slice a1 s1.length cp1) := xw1.cell (by first | (simp; done) | ((repeat rw [World.cell?_alloc_lt _ _ _ (by simp <;> omega)]); simp; done) | (go_simp; done))
  have va2 : w1.cell? ⟨w.heap.size, 2, none⟩ = some (.slice a2 t1.length cp2) := xw1.cell (by first | (simp; done) | ((repeat rw [World.cell?_alloc_lt _ _ _ (by simp <;> omega)]); simp; done) | (go_simp; done))
  have vb0 : w1.cell? ⟨w.heap.size + 1, 0, none⟩ = some (.int .i64 b1) := xw1.cell (by first | (simp; done) | ((repeat rw [World.cell?_alloc_lt _ _ _ (by simp <;> omega)]); simp; done) | (go_simp; done))
  have vb1 : w1.cell? ⟨w.heap.size + 1, 1, none⟩ = some (.slice a3 s1.length cp3) := xw1.cell (by first | (simp; done) | ((repeat rw [World.cell?_alloc_lt _ _ _ (by simp <;> omega)]); simp; done) | (go_simp; done))
  have vb2 : w1.cell? ⟨w.heap.size + 1, 2, none⟩ = some (.slice a4 t1.length cp4) := xw1.cell (by first | (simp; done) | ((repeat rw [World.cell?_alloc_lt _ _ _ (by simp <;> omega)]); simp; done) | (go_simp; done))
  have z_va : w.heap.size < w1.heap.size := World.block_lt_of_cell? _ _ va0
  have z_vb : w.heap.size + 1 < w1.heap.size := World.block_lt_of_cell? _ _ vb0
  have s_w1 : w.heap.size ≤ w1.heap.size := Xw1.size
  clear xw1
  go_wp2_with fail
  refine (leqInts_c t1 _ _ _ m1 m2 (k1.ext (Xw1.trans (by repeat (first | (with_reducible assumption) | (with_reducible refine Ext.setCell ?_ (by first | (simp; done) | (simp; omega) | omega) _) | (with_reducible apply Ext.alloc) | (with_reducible apply Ext.drew) | (with_reducible apply Ext.drewN) | (with_reducible exact Ext.refl _))))) (k2.ext (Xw1.trans (by repeat (first | (with_reducible assumption) | (with_reducible refine Ext.setCell ?_ (by first | (simp; done) | (simp; omega) | omega) _) | (with_reducible apply Ext.alloc) | (with_reducible apply Ext.drew) | (with_reducible apply Ext.drewN) | (with_reducible exact Ext.refl _)))))).mono ?_
  rintro e w2 ⟨rfl, xw2⟩
  have Lw2 : Ext w1 w2 := Ext.trans (by repeat (first | (with_reducible assumption) | (with_reducible refine Ext.setCell ?_ (by first | (simp; done) | (simp; omega) | omega) _) | (with_reducible apply Ext.alloc) | (with_reducible apply Ext.drew) | (with_reducible apply Ext.drewN) | (with_reducible exact Ext.refl _))) xw2
  have Xw2 : Ext w w2 := Xw1.trans Lw2
  replace va0 := Lw2.cell va0
  replace va1 := Lw2.cell va1
  replace va2 := Lw2.cell va2
  replace vb0 := Lw2.cell vb0
  replace vb1 := Lw2.cell vb1
  replace vb2 := Lw2.cell vb2
  have z_va : w.heap.size < w2.heap.size := World.block_lt_of_cell? _ _ va0
  have z_vb : w.heap.size + 1 < w2.heap.size := World.block_lt_of_cell? _ _ vb0
  have s_w2 : w.heap.size ≤ w2.heap.size := Xw2.size
  clear xw2
  go_wp2_with fail
  go_ret
  exact ⟨rfl, Xw2.trans (by repeat (first | (with_reducible assumption) | (with_reducible refine Ext.setCell ?_ (by first | (simp; done) | (simp; omega) | omega) _) | (with_reducible apply Ext.alloc) | (with_reducible apply Ext.drew) | (with_reducible apply Ext.drewN) | (with_reducible exact Ext.refl _)))⟩

end Go.Proofs.Ytnjaidgifccgjaa

/- Walks: OffsetsOf and IsRow of the program and of the reference. -/
namespace Go.Proofs.Ytnjaidgifccgjaa
open Go.RowKit
set_option linter.unusedVariables false
set_option maxRecDepth 100000


def offA (b : Int) (s t : List Int) : List Int := if viewB b s t then offsL b s t else []
set_option maxHeartbeats 1600000 in
theorem implOffsetsOf_c (b1 : Int) (u1 v1 : Value) (s1 t1 : List Int) (w : World) (l1 m1 : Nat) (h1 : Ints w l1 u1 s1) (k1 : Ints w m1 v1 t1) :
    Calls Try.prog 19 #[.agg #[.int .i64 b1, u1, v1]] w (PInts w (offA b1 s1 t1)) := by
  obtain ⟨a1, cp1, rfl⟩ := h1.form
  obtain ⟨a2, cp2, rfl⟩ := k1.form
  cases ha : viewB b1 s1 t1
  · have hr : Hid (offA b1 s1 t1 = []) := Lib.hid (by unfold offA; rw [ha]; rfl)
    replace ha := Lib.hid ha
    go_enter Try.func19, Try.ntmps19
    go_wp2_with fail
    refine (isView_c b1 _ _ s1 t1 _ l1 m1 (h1.ext (by repeat (first | (with_reducible assumption) | (with_reducible refine Ext.setCell ?_ (by first | (simp; done) | (simp; omega) | omega) _) | (with_reducible apply Ext.alloc) | (with_reducible apply Ext.drew) | (with_reducible apply Ext.drewN) | (with_reducible exact Ext.refl _)))) (k1.ext (by repeat (first | (with_reducible assumption) | (with_reducible refine Ext.setCell ?_ (by first | (simp; done) | (simp; omega) | omega) _) | (with_reducible apply Ext.alloc) | (with_reducible apply Ext.drew) | (with_reducible apply Ext.drewN) | (with_reducible exact Ext.refl _))))).mono ?_
    rintro e w1 ⟨rfl, xw1⟩
    have Lw1 : Ext w w1 := Ext.trans (by repeat (first | (with_reducible assumption) | (with_reducible refine Ext.setCell ?_ (by first | (simp; done) | (simp; omega) | omega) _) | (with_reducible apply Ext.alloc) | (with_reducible apply Ext.drew) | (with_reducible apply Ext.drewN) | (with_reducible exact Ext.refl _))) xw1
    have Xw1 : Ext w w1 := Lw1
    have va0 : w1.cell? ⟨w.heap.size, 0, none⟩ = some (.int .i64 b1) := xw1.cell (by first | (simp; done) | ((repeat rw [World.cell?_alloc_lt _ _ _ (by simp <;> omega)]); simp; done) | (go_simp; done))
    have va1 : w1.cell? ⟨w.heap.size, 1, none⟩ = some (.slice a1 s1.length cp1) := xw1.cell (by first | (simp; done) | ((repeat rw [World.cell?_alloc_lt _ _ _ (by simp <;> omega)]); simp; done) | (go_simp; done))
    have va2 : w1.cell? ⟨w.heap.size, 2, none⟩ = some (.slice a2 t1.length cp2) := xw1.cell (by first | (simp; done) | ((repeat rw [World.cell?_alloc_lt _ _ _ (by simp <;> omega)]); simp; done) | (go_simp; done))
    have z_va : w.heap.size < w1.heap.size := World.block_lt_of_cell? _ _ va0
    have s_w1 : w.heap.size ≤ w1.heap.size := Xw1.size
    clear xw1
    rw [ha.out]
    go_wp2_with fail
    go_ret
    rw [hr.out]
    exact PInts.nilv (Xw1.trans (by repeat (first | (with_reducible assumption) | (with_reducible refine Ext.setCell ?_ (by first | (simp; done) | (simp; omega) | omega) _) | (with_reducible apply Ext.alloc) | (with_reducible apply Ext.drew) | (with_reducible apply Ext.drewN) | (with_reducible exact Ext.refl _))))
  · have hr : Hid (offA b1 s1 t1 = offsL b1 s1 t1) := Lib.hid (by unfold offA; rw [ha]; rfl)
    obtain ⟨j1, j2, -⟩ := viewB_in ha
    have hin := Lib.hid (shapeB_in j1)
    have hj2 := Lib.hid j2
    clear j1 j2
    replace ha := Lib.hid ha
    go_enter Try.func19, Try.ntmps19
    go_wp2_with fail
    refine (isView_c b1 _ _ s1 t1 _ l1 m1 (h1.ext (by repeat (first | (with_reducible assumption) | (with_reducible refine Ext.setCell ?_ (by first | (simp; done) | (simp; omega) | omega) _) | (with_reducible apply Ext.alloc) | (with_reducible apply Ext.drew) | (with_reducible apply Ext.drewN) | (with_reducible exact Ext.refl _)))) (k1.ext (by repeat (first | (with_reducible assumption) | (with_reducible refine Ext.setCell ?_ (by first | (simp; done) | (simp; omega) | omega) _) | (with_reducible apply Ext.alloc) | (with_reducible apply Ext.drew) | (with_reducible apply Ext.drewN) | (with_reducible exact Ext.refl _))))).mono ?_
    rintro e w1 ⟨rfl, xw1⟩
    have Lw1 : Ext w w1 := Ext.trans (by repeat (first | (with_reducible assumption) | (with_reducible refine Ext.setCell ?_ (by first | (simp; done) | (simp; omega) | omega) _) | (with_reducible apply Ext.alloc) | (with_reducible apply Ext.drew) | (with_reducible apply Ext.drewN) | (with_reducible exact Ext.refl _))) xw1
    have Xw1 : Ext w w1 := Lw1
    have va0 : w1.cell? ⟨w.heap.size, 0, none⟩ = some (.int .i64 b1) := xw1.cell (by first | (simp; done) | ((repeat rw [World.cell?_alloc_lt _ _ _ (by simp <;> omega)]); simp; done) | (go_simp; done))
    have va1 : w1.cell? ⟨w.heap.size, 1, none⟩ = some (.slice a1 s1.length cp1) := xw1.cell (by first | (simp; done) | ((repeat rw [World.cell?_alloc_lt _ _ _ (by simp <;> omega)]); simp; done) | (go_simp; done))
    have va2 : w1.cell? ⟨w.heap.size, 2, none⟩ = some (.slice a2 t1.length cp2) := xw1.cell (by first | (simp; done) | ((repeat rw [World.cell?_alloc_lt _ _ _ (by simp <;> omega)]); simp; done) | (go_simp; done))
    have z_va : w.heap.size < w1.heap.size := World.block_lt_of_cell? _ _ va0
    have s_w1 : w.heap.size ≤ w1.heap.size := Xw1.size
    clear xw1
    rw [ha.out]
    go_wp2_with fail
    refine (offsetsOf_c b1 _ _ s1 t1 _ l1 m1 (h1.ext (Xw1.trans (by repeat (first | (with_reducible assumption) | (with_reducible refine Ext.setCell ?_ (by first | (simp; done) | (simp; omega) | omega) _) | (with_reducible apply Ext.alloc) | (with_reducible apply Ext.drew) | (with_reducible apply Ext.drewN) | (with_reducible exact Ext.refl _))))) (k1.ext (Xw1.trans (by repeat (first | (with_reducible assumption) | (with_reducible refine Ext.setCell ?_ (by first | (simp; done) | (simp; omega) | omega) _) | (with_reducible apply Ext.alloc) | (with_reducible apply Ext.drew) | (with_reducible apply Ext.drewN) | (with_reducible exact Ext.refl _))))) (by have := hj2.out; omega) hin.out.2.2.2.2 (by have := hin.out; omega)).mono ?_
    rintro e w2 ⟨r, rfl, i, o, xw2⟩
    have Lw2 : Ext w1 w2 := Ext.trans (by repeat (first | (with_reducible assumption) | (with_reducible refine Ext.setCell ?_ (by first | (simp; done) | (simp; omega) | omega) _) | (with_reducible apply Ext.alloc) | (with_reducible apply Ext.drew) | (with_reducible apply Ext.drewN) | (with_reducible exact Ext.refl _))) xw2
    have Xw2 : Ext w w2 := Xw1.trans Lw2
    replace va0 := Lw2.cell va0
    replace va1 := Lw2.cell va1
    replace va2 := Lw2.cell va2
    have z_va : w.heap.size < w2.heap.size := World.block_lt_of_cell? _ _ va0
    have s_w2 : w.heap.size ≤ w2.heap.size := Xw2.size
    clear xw2
    go_wp2_with fail
    go_ret
    rw [hr.out]
    exact PInts.of o i (by first | omega | (simp; omega)) (Xw2.trans (by repeat (first | (with_reducible assumption) | (with_reducible refine Ext.setCell ?_ (by first | (simp; done) | (simp; omega) | omega) _) | (with_reducible apply Ext.alloc) | (with_reducible apply Ext.drew) | (with_reducible apply Ext.drewN) | (with_reducible exact Ext.refl _))))

set_option maxHeartbeats 1600000 in
theorem specOffsetsOf_c (b1 : Int) (u1 v1 : Value) (s1 t1 : List Int) (w : World) (l1 m1 : Nat) (h1 : Ints w l1 u1 s1) (k1 : Ints w m1 v1 t1) :
    Calls Try.prog 21 #[.agg #[.int .i64 b1, u1, v1]] w (PInts w (offA b1 s1 t1)) := by
  obtain ⟨a1, cp1, rfl⟩ := h1.form
  obtain ⟨a2, cp2, rfl⟩ := k1.form
  cases ha : viewB b1 s1 t1
  · have hr : Hid (offA b1 s1 t1 = []) := Lib.hid (by unfold offA; rw [ha]; rfl)
    replace ha := Lib.hid ha
    go_enter Try.func21, Try.ntmps21
    go_wp2_with fail
    refine (validView_c b1 _ _ s1 t1 _ l1 m1 (h1.ext (by repeat (first | (with_reducible assumption) | (with_reducible refine Ext.setCell ?_ (by first | (simp; done) | (simp; omega) | omega) _) | (with_reducible apply Ext.alloc) | (with_reducible apply Ext.drew) | (with_reducible apply Ext.drewN) | (with_reducible exact Ext.refl _)))) (k1.ext (by repeat (first | (with_reducible assumption) | (with_reducible refine Ext.setCell ?_ (by first | (simp; done) | (simp; omega) | omega) _) | (with_reducible apply Ext.alloc) | (with_reducible apply Ext.drew) | (with_reducible apply Ext.drewN) | (with_reducible exact Ext.refl _))))).mono ?_
    rintro e w1 ⟨rfl, xw1⟩
    have Lw1 : Ext w w1 := Ext.trans (by repeat (first | (with_reducible assumption) | (with_reducible refine Ext.setCell ?_ (by first | (simp; done) | (simp; omega) | omega) _) | (with_reducible apply Ext.alloc) | (with_reducible apply Ext.drew) | (with_reducible apply Ext.drewN) | (with_reducible exact Ext.refl _))) xw1
    have Xw1 : Ext w w1 := Lw1
    have va0 : w1.cell? ⟨w.heap.size, 0, none⟩ = some (.int .i64 b1) := xw1.cell (by first | (simp; done) | ((repeat rw [World.cell?_alloc_lt _ _ _ (by simp <;> omega)]); simp; done) | (go_simp; done))
    have va1 : w1.cell? ⟨w.heap.size, 1, none⟩ = some (.slice a1 s1.length cp1) := xw1.cell (by first | (simp; done) | ((repeat rw [World.cell?_alloc_lt _ _ _ (by simp <;> omega)]); simp; done) | (go_simp; done))
    have va2 : w1.cell? ⟨w.heap.size, 2, none⟩ = some (.slice a2 t1.length cp2) := xw1.cell (by first | (simp; done) | ((repeat rw [World.cell?_alloc_lt _ _ _ (by simp <;> omega)]); simp; done) | (go_simp; done))
    have z_va : w.heap.size < w1.heap.size := World.block_lt_of_cell? _ _ va0
    have s_w1 : w.heap.size ≤ w1.heap.size := Xw1.size
    clear xw1
    rw [ha.out]
    go_wp2_with fail
    go_ret
    rw [hr.out]
    exact PInts.nilv (Xw1.trans (by repeat (first | (with_reducible assumption) | (with_reducible refine Ext.setCell ?_ (by first | (simp; done) | (simp; omega) | omega) _) | (with_reducible apply Ext.alloc) | (with_reducible apply Ext.drew) | (with_reducible apply Ext.drewN) | (with_reducible exact Ext.refl _))))
  · have hr : Hid (offA b1 s1 t1 = offsL b1 s1 t1) := Lib.hid (by unfold offA; rw [ha]; rfl)
    obtain ⟨j1, j2, -⟩ := viewB_in ha
    have hin := Lib.hid (shapeB_in j1)
    have hj2 := Lib.hid j2
    clear j1 j2
    replace ha := Lib.hid ha
    go_enter Try.func21, Try.ntmps21
    go_wp2_with fail
    refine (validView_c b1 _ _ s1 t1 _ l1 m1 (h1.ext (by repeat (first | (with_reducible assumption) | (with_reducible refine Ext.setCell ?_ (by first | (simp; done) | (simp; omega) | omega) _) | (with_reducible apply Ext.alloc) | (with_reducible apply Ext.drew) | (with_reducible apply Ext.drewN) | (with_reducible exact Ext.refl _)))) (k1.ext (by repeat (first | (with_reducible assumption) | (with_reducible refine Ext.setCell ?_ (by first | (simp; done) | (simp; omega) | omega) _) | (with_reducible apply Ext.alloc) | (with_reducible apply Ext.drew) | (with_reducible apply Ext.drewN) | (with_reducible exact Ext.refl _))))).mono ?_
    rintro e w1 ⟨rfl, xw1⟩
    have Lw1 : Ext w w1 := Ext.trans (by repeat (first | (with_reducible assumption) | (with_reducible refine Ext.setCell ?_ (by first | (simp; done) | (simp; omega) | omega) _) | (with_reducible apply Ext.alloc) | (with_reducible apply Ext.drew) | (with_reducible apply Ext.drewN) | (with_reducible exact Ext.refl _))) xw1
    have Xw1 : Ext w w1 := Lw1
    have va0 : w1.cell? ⟨w.heap.size, 0, none⟩ = some (.int .i64 b1) := xw1.cell (by first | (simp; done) | ((repeat rw [World.cell?_alloc_lt _ _ _ (by simp <;> omega)]); simp; done) | (go_simp; done))
    have va1 : w1.cell? ⟨w.heap.size, 1, none⟩ = some (.slice a1 s1.length cp1) := xw1.cell (by first | (simp; done) | ((repeat rw [World.cell?_alloc_lt _ _ _ (by simp <;> omega)]); simp; done) | (go_simp; done))
    have va2 : w1.cell? ⟨w.heap.size, 2, none⟩ = some (.slice a2 t1.length cp2) := xw1.cell (by first | (simp; done) | ((repeat rw [World.cell?_alloc_lt _ _ _ (by simp <;> omega)]); simp; done) | (go_simp; done))
    have z_va : w.heap.size < w1.heap.size := World.block_lt_of_cell? _ _ va0
    have s_w1 : w.heap.size ≤ w1.heap.size := Xw1.size
    clear xw1
    rw [ha.out]
    go_wp2_with fail
    refine (offsets_c b1 _ _ s1 t1 _ l1 m1 (h1.ext (Xw1.trans (by repeat (first | (with_reducible assumption) | (with_reducible refine Ext.setCell ?_ (by first | (simp; done) | (simp; omega) | omega) _) | (with_reducible apply Ext.alloc) | (with_reducible apply Ext.drew) | (with_reducible apply Ext.drewN) | (with_reducible exact Ext.refl _))))) (k1.ext (Xw1.trans (by repeat (first | (with_reducible assumption) | (with_reducible refine Ext.setCell ?_ (by first | (simp; done) | (simp; omega) | omega) _) | (with_reducible apply Ext.alloc) | (with_reducible apply Ext.drew) | (with_reducible apply Ext.drewN) | (with_reducible exact Ext.refl _))))) (by have := hj2.out; omega) hin.out.2.2.2.2 (by have := hin.out; omega)).mono ?_
    rintro e w2 ⟨r, rfl, i, o, xw2⟩
    have Lw2 : Ext w1 w2 := Ext.trans (by repeat (first | (with_reducible assumption) | (with_reducible refine Ext.setCell ?_ (by first | (simp; done) | (simp; omega) | omega) _) | (with_reducible apply Ext.alloc) | (with_reducible apply Ext.drew) | (with_reducible apply Ext.drewN) | (with_reducible exact Ext.refl _))) xw2
    have Xw2 : Ext w w2 := Xw1.trans Lw2
    replace va0 := Lw2.cell va0
    replace va1 := Lw2.cell va1
    replace va2 := Lw2.cell va2
    have z_va : w.heap.size < w2.heap.size := World.block_lt_of_cell? _ _ va0
    have s_w2 : w.heap.size ≤ w2.heap.size := Xw2.size
    clear xw2
    go_wp2_with fail
    go_ret
    rw [hr.out]
    exact PInts.of o i (by first | omega | (simp; omega)) (Xw2.trans (by repeat (first | (with_reducible assumption) | (with_reducible refine Ext.setCell ?_ (by first | (simp; done) | (simp; omega) | omega) _) | (with_reducible apply Ext.alloc) | (with_reducible apply Ext.drew) | (with_reducible apply Ext.drewN) | (with_reducible exact Ext.refl _))))


end Go.Proofs.Ytnjaidgifccgjaa

/- FnDropOnes returns true for all bytes: no condition. -/
namespace Go.Proofs.Ytnjaidgifccgjaa
open Go.RowKit
set_option linter.unusedVariables false
set_option maxRecDepth 100000


theorem drop_fin {b : Int} {s t : List Int} (h : viewB b s t = true) : offA (dropV b s t).1 (dropV b s t).2.1 (dropV b s t).2.2 = offA b s t ∧ decide ((1 : Int) ∈ (dropV b s t).2.1) = false ∧ dropV (dropV b s t).1 (dropV b s t).2.1 (dropV b s t).2.2 = dropV b s t := by
  obtain ⟨h1, h2⟩ := drop_view h
  have e : dropV b s t = (b, dropS s, dropT s t) := by unfold dropV; rw [if_pos h]
  have hl : t.length = s.length := by obtain ⟨g1, g2, g3, g4, g5⟩ := viewB_in h; omega
  rw [e]
  refine ⟨by simp only [offA]; rw [if_pos h1, if_pos h, h2], by simpa using fun hm => (dropS_mem hm).2 rfl, ?_⟩
  obtain ⟨q1, q2⟩ := drop_none (dropS s) (dropT s t) (fun x hx => (dropS_mem hx).2) (dropT_len s t hl)
  simp only [dropV]
  rw [if_pos h1, q1, q2]

set_option maxHeartbeats 6400000 in
theorem lawFnDropOnes_c (a : Option Addr) (n cap : Nat) (w : World) (hb : BysIn w a n cap) :
    Calls Try.prog 11 #[.slice a n cap] w fun e w' => e = .returned (.bool true) ∧ Ext w w' := by
  have hcm := hb.1
  have hcm2 := hb.2.1
  unfold maxLen at hcm2
  by_cases hbig : 1048576 < n
  · have hI : (1048576 : Int) < n := by omega
    go_enter Try.func11, Try.ntmps11
    go_wp2_with fail
    go_ret
    exact ⟨rfl, (by repeat (first | exact Ext.refl _ | assumption | apply Ext.drewN | apply Ext.drew | apply Ext.alloc))⟩
  have hI : ¬ (1048576 : Int) < n := by omega
  go_enter Try.func11, Try.ntmps11
  go_wp2_with fail
  refine (drawDropOnes_c a n cap _ hb).mono ?_
  rintro e w1 ⟨b, s, t, p1, p2, n1, r1, n2, r2, rfl, i1, i2, l1, l2, X1⟩
  clear hb hI hbig
  have hip : Hid (∀ W, Ext w1 W → Calls Try.prog 45 #[.agg #[.int .i64 b, .slice p1 n1 r1, .slice p2 n2 r2]] W (PView W (dropV b s t).1 (dropV b s t).2.1 (dropV b s t).2.2)) := Lib.hid (fun W hW => implDropOnes_c b _ _ s t W _ _ (i1.ext hW) (i2.ext hW))
  have hsp : Hid (∀ W, Ext w1 W → Calls Try.prog 47 #[.agg #[.int .i64 b, .slice p1 n1 r1, .slice p2 n2 r2]] W (PView W (dropV b s t).1 (dropV b s t).2.1 (dropV b s t).2.2)) := Lib.hid (fun W hW => specDropOnes_c b _ _ s t W _ _ (i1.ext hW) (i2.ext hW))
  have hvp : Hid (∀ W, Ext w1 W → Calls Try.prog 16 #[.agg #[.int .i64 b, .slice p1 n1 r1, .slice p2 n2 r2]] W (fun e w' => e = .returned (.bool (viewB b s t)) ∧ Ext W w')) := Lib.hid (fun W hW => implValidView_c b _ _ s t W _ _ (i1.ext hW) (i2.ext hW))
  have hof : Hid (∀ W, Ext w1 W → Calls Try.prog 19 #[.agg #[.int .i64 b, .slice p1 n1 r1, .slice p2 n2 r2]] W (PInts W (offA b s t))) := Lib.hid (fun W hW => implOffsetsOf_c b _ _ s t W _ _ (i1.ext hW) (i2.ext hW))
  have hpu := Lib.hid (fun h => drop_fin (b := b) (s := s) (t := t) h)
  clear i1 i2
  generalize dropV b s t = D at *
  obtain ⟨B, S, T⟩ := D
  dsimp only at *
  generalize offA b s t = F at *
  generalize viewB b s t = vb at *
  cases vb
  · clear hpu hof
    have Z1 : Ext w1 w1 := Ext.refl _
    go_wp2_with fail
    refine (hip.out _ (Z1.trans (by repeat (first | (with_reducible assumption) | (with_reducible refine Ext.setCell ?_ (by first | (simp; done) | (simp; omega) | omega) _) | (with_reducible apply Ext.alloc) | (with_reducible apply Ext.drew) | (with_reducible apply Ext.drewN) | (with_reducible exact Ext.refl _))))).mono ?_
    rintro e w2 ⟨u, v, rfl, j1, j2, -, -, -, xw2⟩
    have Lw2 : Ext w1 w2 := Ext.trans (by repeat (first | (with_reducible assumption) | (with_reducible refine Ext.setCell ?_ (by first | (simp; done) | (simp; omega) | omega) _) | (with_reducible apply Ext.alloc) | (with_reducible apply Ext.drew) | (with_reducible apply Ext.drewN) | (with_reducible exact Ext.refl _))) xw2
    have Xw2 : Ext w w2 := X1.trans Lw2
    have va0 : w2.cell? ⟨w1.heap.size, 0, none⟩ = some (.int .i64 b) := xw2.cell (by first | (simp; done) | ((repeat rw [World.cell?_alloc_lt _ _ _ (by simp <;> omega)]); simp; done) | (go_simp; done))
    have va1 : w2.cell? ⟨w1.heap.size, 1, none⟩ = some (.slice p1 n1 r1) := xw2.cell (by first | (simp; done) | ((repeat rw [World.cell?_alloc_lt _ _ _ (by simp <;> omega)]); simp; done) | (go_simp; done))
    have va2 : w2.cell? ⟨w1.heap.size, 2, none⟩ = some (.slice p2 n2 r2) := xw2.cell (by first | (simp; done) | ((repeat rw [World.cell?_alloc_lt _ _ _ (by simp <;> omega)]); simp; done) | (go_simp; done))
    have z_va : w1.heap.size < w2.heap.size := World.block_lt_of_cell? _ _ va0
    have s_w2 : w.heap.size ≤ w2.heap.size := Xw2.size
    clear xw2
    obtain ⟨ua, un, uc, rfl⟩ := j1.any
    obtain ⟨va_, vn, vc, rfl⟩ := j2.any
    have Z2 : Ext w1 w2 := Z1.trans Lw2
    go_wp2_with fail
    have Lw3 : Ext w2 (w2.alloc (.cells #[.int .i64 B, .slice ua un uc, .slice va_ vn vc] 25)) := (by repeat (first | (with_reducible assumption) | (with_reducible refine Ext.setCell ?_ (by first | (simp; done) | (simp; omega) | omega) _) | (with_reducible apply Ext.alloc) | (with_reducible apply Ext.drew) | (with_reducible apply Ext.drewN) | (with_reducible exact Ext.refl _)))
    have Xw3 : Ext w (w2.alloc (.cells #[.int .i64 B, .slice ua un uc, .slice va_ vn vc] 25)) := Xw2.trans Lw3
    replace va0 := Lw3.cell va0
    replace va1 := Lw3.cell va1
    replace va2 := Lw3.cell va2
    have vo0 : (w2.alloc (.cells #[.int .i64 B, .slice ua un uc, .slice va_ vn vc] 25)).cell? ⟨w2.heap.size, 0, none⟩ = some (.int .i64 B) := (by first | (simp; done) | ((repeat rw [World.cell?_alloc_lt _ _ _ (by simp <;> omega)]); simp; done) | (go_simp; done))
    have vo1 : (w2.alloc (.cells #[.int .i64 B, .slice ua un uc, .slice va_ vn vc] 25)).cell? ⟨w2.heap.size, 1, none⟩ = some (.slice ua un uc) := (by first | (simp; done) | ((repeat rw [World.cell?_alloc_lt _ _ _ (by simp <;> omega)]); simp; done) | (go_simp; done))
    have vo2 : (w2.alloc (.cells #[.int .i64 B, .slice ua un uc, .slice va_ vn vc] 25)).cell? ⟨w2.heap.size, 2, none⟩ = some (.slice va_ vn vc) := (by first | (simp; done) | ((repeat rw [World.cell?_alloc_lt _ _ _ (by simp <;> omega)]); simp; done) | (go_simp; done))
    have z_va : w1.heap.size < (w2.alloc (.cells #[.int .i64 B, .slice ua un uc, .slice va_ vn vc] 25)).heap.size := World.block_lt_of_cell? _ _ va0
    have z_vo : w2.heap.size < (w2.alloc (.cells #[.int .i64 B, .slice ua un uc, .slice va_ vn vc] 25)).heap.size := World.block_lt_of_cell? _ _ vo0
    replace j1 := j1.ext Lw3
    replace j2 := j2.ext Lw3
    have s_w3 : w.heap.size ≤ (w2.alloc (.cells #[.int .i64 B, .slice ua un uc, .slice va_ vn vc] 25)).heap.size := Xw3.size
    generalize w2.alloc (.cells #[.int .i64 B, .slice ua un uc, .slice va_ vn vc] 25) = w3 at *
    have Z3 : Ext w1 w3 := Z2.trans Lw3
    go_wp2_with fail
    refine wp_region_tail (S := fun w' => w'.cell? ⟨w1.heap.size, 0, none⟩ = some (.int .i64 b) ∧ w'.cell? ⟨w1.heap.size, 1, none⟩ = some (.slice p1 n1 r1) ∧ w'.cell? ⟨w1.heap.size, 2, none⟩ = some (.slice p2 n2 r2) ∧ w'.cell? ⟨w2.heap.size, 0, none⟩ = some (.int .i64 B) ∧ w'.cell? ⟨w2.heap.size, 1, none⟩ = some (.slice ua un uc) ∧ w'.cell? ⟨w2.heap.size, 2, none⟩ = some (.slice va_ vn vc)) (fun i => decide (10 ≤ i)) (by kernel_rfl) ⟨va0, va1, va2, vo0, vo1, vo2⟩ (fun hHeld => ?_)
    refine wpTail_take (i := 0) (v := ?_) rfl (by kernel_rfl) (by kernel_rfl) (by kernel_rfl) rfl (by kernel_rfl) (fun _ _ _ h => h) (Or.inl ⟨by rfl, ?_⟩) (by assumption) ?_
    rotate_left
    · (intro w hSw; (try dsimp only at hSw); go_simp; try with_reducible rfl)
    try simp only [Act.put, List.setIfInBounds_toArray, List.set_cons_zero, List.set_cons_succ, List.getElem_toArray, List.getElem_cons_succ, List.getElem_cons_zero]
    refine wpTail_take (i := 1) (v := ?_) rfl (by kernel_rfl) (by kernel_rfl) (by kernel_rfl) rfl (by kernel_rfl) (fun _ _ _ h => h) (Or.inl ⟨by rfl, ?_⟩) (by assumption) ?_
    rotate_left
    · (intro w hSw; (try dsimp only at hSw); go_simp; try with_reducible rfl)
    try simp only [Act.put, List.setIfInBounds_toArray, List.set_cons_zero, List.set_cons_succ, List.getElem_toArray, List.getElem_cons_succ, List.getElem_cons_zero]
    refine wpTail_one (i := 2) (by kernel_rfl) rfl rfl (fun K hK => ?_)
    try simp only [Act.put, List.setIfInBounds_toArray, List.set_cons_zero, List.set_cons_succ, List.getElem_toArray, List.getElem_cons_succ, List.getElem_cons_zero]
    go_simp
    refine (hsp.out _ (Z3.trans (by repeat (first | (with_reducible assumption) | (with_reducible refine Ext.setCell ?_ (by first | (simp; done) | (simp; omega) | omega) _) | (with_reducible apply Ext.alloc) | (with_reducible apply Ext.drew) | (with_reducible apply Ext.drewN) | (with_reducible exact Ext.refl _))))).mono ?_
    rintro e w4 ⟨su, sv, rfl, y1, y2, -, -, -, xw4⟩
    have Lw4 : Ext w3 w4 := Ext.trans (by repeat (first | (with_reducible assumption) | (with_reducible refine Ext.setCell ?_ (by first | (simp; done) | (simp; omega) | omega) _) | (with_reducible apply Ext.alloc) | (with_reducible apply Ext.drew) | (with_reducible apply Ext.drewN) | (with_reducible exact Ext.refl _))) xw4
    have Xw4 : Ext w w4 := Xw3.trans Lw4
    replace va0 := Lw4.cell va0
    replace va1 := Lw4.cell va1
    replace va2 := Lw4.cell va2
    replace vo0 := Lw4.cell vo0
    replace vo1 := Lw4.cell vo1
    replace vo2 := Lw4.cell vo2
    have z_va : w1.heap.size < w4.heap.size := World.block_lt_of_cell? _ _ va0
    have z_vo : w2.heap.size < w4.heap.size := World.block_lt_of_cell? _ _ vo0
    replace j1 := j1.ext Lw4
    replace j2 := j2.ext Lw4
    have s_w4 : w.heap.size ≤ w4.heap.size := Xw4.size
    clear xw4
    have Z4 : Ext w1 w4 := Z3.trans Lw4
    refine hK.out _ _ ⟨va0, va1, va2, vo0, vo1, vo2⟩ (fun hHeld => ?_)
    clear hK K
    try simp only [Act.put, List.setIfInBounds_toArray, List.set_cons_zero, List.set_cons_succ, List.getElem_toArray, List.getElem_cons_succ, List.getElem_cons_zero]
    refine wpTail_one (i := 3) (by kernel_rfl) rfl rfl (fun K hK => ?_)
    try simp only [Act.put, List.setIfInBounds_toArray, List.set_cons_zero, List.set_cons_succ, List.getElem_toArray, List.getElem_cons_succ, List.getElem_cons_zero]
    go_simp
    refine (leqView_c B _ _ _ _ S T _ _ _ _ _ (j1.ext (by repeat (first | (with_reducible assumption) | (with_reducible refine Ext.setCell ?_ (by first | (simp; done) | (simp; omega) | omega) _) | (with_reducible apply Ext.alloc) | (with_reducible apply Ext.drew) | (with_reducible apply Ext.drewN) | (with_reducible exact Ext.refl _)))) (j2.ext (by repeat (first | (with_reducible assumption) | (with_reducible refine Ext.setCell ?_ (by first | (simp; done) | (simp; omega) | omega) _) | (with_reducible apply Ext.alloc) | (with_reducible apply Ext.drew) | (with_reducible apply Ext.drewN) | (with_reducible exact Ext.refl _)))) (y1.ext (by repeat (first | (with_reducible assumption) | (with_reducible refine Ext.setCell ?_ (by first | (simp; done) | (simp; omega) | omega) _) | (with_reducible apply Ext.alloc) | (with_reducible apply Ext.drew) | (with_reducible apply Ext.drewN) | (with_reducible exact Ext.refl _)))) (y2.ext (by repeat (first | (with_reducible assumption) | (with_reducible refine Ext.setCell ?_ (by first | (simp; done) | (simp; omega) | omega) _) | (with_reducible apply Ext.alloc) | (with_reducible apply Ext.drew) | (with_reducible apply Ext.drewN) | (with_reducible exact Ext.refl _))))).mono ?_
    rintro e w5 ⟨rfl, xw5⟩
    have Lw5 : Ext w4 w5 := Ext.trans (by repeat (first | (with_reducible assumption) | (with_reducible refine Ext.setCell ?_ (by first | (simp; done) | (simp; omega) | omega) _) | (with_reducible apply Ext.alloc) | (with_reducible apply Ext.drew) | (with_reducible apply Ext.drewN) | (with_reducible exact Ext.refl _))) xw5
    have Xw5 : Ext w w5 := Xw4.trans Lw5
    replace va0 := Lw5.cell va0
    replace va1 := Lw5.cell va1
    replace va2 := Lw5.cell va2
    replace vo0 := Lw5.cell vo0
    replace vo1 := Lw5.cell vo1
    replace vo2 := Lw5.cell vo2
    have z_va : w1.heap.size < w5.heap.size := World.block_lt_of_cell? _ _ va0
    have z_vo : w2.heap.size < w5.heap.size := World.block_lt_of_cell? _ _ vo0
    replace j1 := j1.ext Lw5
    replace j2 := j2.ext Lw5
    replace y1 := y1.ext Lw5
    replace y2 := y2.ext Lw5
    have s_w5 : w.heap.size ≤ w5.heap.size := Xw5.size
    clear xw5
    have Z5 : Ext w1 w5 := Z4.trans Lw5
    refine hK.out _ _ ⟨va0, va1, va2, vo0, vo1, vo2⟩ (fun hHeld => ?_)
    clear hK K
    try simp only [Act.put, List.setIfInBounds_toArray, List.set_cons_zero, List.set_cons_succ, List.getElem_toArray, List.getElem_cons_succ, List.getElem_cons_zero]
    refine wpTail_take (i := 4) (v := ?_) rfl (by kernel_rfl) (by kernel_rfl) (by kernel_rfl) rfl (by kernel_rfl) (fun _ _ _ h => h) (Or.inl ⟨by rfl, ?_⟩) (by assumption) ?_
    rotate_left
    · (intro w hSw; (try dsimp only at hSw); go_simp; try with_reducible rfl)
    try simp only [Act.put, List.setIfInBounds_toArray, List.set_cons_zero, List.set_cons_succ, List.getElem_toArray, List.getElem_cons_succ, List.getElem_cons_zero]
    refine wpTail_take (i := 5) (v := ?_) rfl (by kernel_rfl) (by kernel_rfl) (by kernel_rfl) rfl (by kernel_rfl) (fun _ _ _ h => h) (Or.inl ⟨by rfl, ?_⟩) (by assumption) ?_
    rotate_left
    · (intro w hSw; (try dsimp only at hSw); go_simp; try with_reducible rfl)
    try simp only [Act.put, List.setIfInBounds_toArray, List.set_cons_zero, List.set_cons_succ, List.getElem_toArray, List.getElem_cons_succ, List.getElem_cons_zero]
    refine wpTail_take (i := 6) (v := ?_) rfl (by kernel_rfl) (by kernel_rfl) (by kernel_rfl) rfl (by kernel_rfl) (fun _ _ _ h => h) (Or.inl ⟨by rfl, ?_⟩) (by assumption) ?_
    rotate_left
    · (intro w hSw; (try dsimp only at hSw); go_simp; try with_reducible rfl)
    try simp only [Act.put, List.setIfInBounds_toArray, List.set_cons_zero, List.set_cons_succ, List.getElem_toArray, List.getElem_cons_succ, List.getElem_cons_zero]
    refine wpTail_one (i := 7) (by kernel_rfl) rfl rfl (fun K hK => ?_)
    try simp only [Act.put, List.setIfInBounds_toArray, List.set_cons_zero, List.set_cons_succ, List.getElem_toArray, List.getElem_cons_succ, List.getElem_cons_zero]
    go_simp
    refine (hvp.out _ (Z5.trans (by repeat (first | (with_reducible assumption) | (with_reducible refine Ext.setCell ?_ (by first | (simp; done) | (simp; omega) | omega) _) | (with_reducible apply Ext.alloc) | (with_reducible apply Ext.drew) | (with_reducible apply Ext.drewN) | (with_reducible exact Ext.refl _))))).mono ?_
    rintro e w6 ⟨rfl, xw6⟩
    have Lw6 : Ext w5 w6 := Ext.trans (by repeat (first | (with_reducible assumption) | (with_reducible refine Ext.setCell ?_ (by first | (simp; done) | (simp; omega) | omega) _) | (with_reducible apply Ext.alloc) | (with_reducible apply Ext.drew) | (with_reducible apply Ext.drewN) | (with_reducible exact Ext.refl _))) xw6
    have Xw6 : Ext w w6 := Xw5.trans Lw6
    replace va0 := Lw6.cell va0
    replace va1 := Lw6.cell va1
    replace va2 := Lw6.cell va2
    replace vo0 := Lw6.cell vo0
    replace vo1 := Lw6.cell vo1
    replace vo2 := Lw6.cell vo2
    have z_va : w1.heap.size < w6.heap.size := World.block_lt_of_cell? _ _ va0
    have z_vo : w2.heap.size < w6.heap.size := World.block_lt_of_cell? _ _ vo0
    replace j1 := j1.ext Lw6
    replace j2 := j2.ext Lw6
    replace y1 := y1.ext Lw6
    replace y2 := y2.ext Lw6
    have s_w6 : w.heap.size ≤ w6.heap.size := Xw6.size
    clear xw6
    have Z6 : Ext w1 w6 := Z5.trans Lw6
    refine hK.out _ _ ⟨va0, va1, va2, vo0, vo1, vo2⟩ (fun hHeld => ?_)
    clear hK K
    try simp only [Act.put, List.setIfInBounds_toArray, List.set_cons_zero, List.set_cons_succ, List.getElem_toArray, List.getElem_cons_succ, List.getElem_cons_zero]
    refine wpTail_take (i := 8) (v := ?_) rfl (by kernel_rfl) (by kernel_rfl) (by kernel_rfl) rfl (by kernel_rfl) (fun _ _ _ h => h) (Or.inl ⟨by rfl, ?_⟩) (by assumption) ?_
    rotate_left
    · (intro w hSw; (try dsimp only at hSw); go_simp; try with_reducible rfl)
    try simp only [Act.put, List.setIfInBounds_toArray, List.set_cons_zero, List.set_cons_succ, List.getElem_toArray, List.getElem_cons_succ, List.getElem_cons_zero]
    refine wpTail_take (i := 9) (v := ?_) rfl (by kernel_rfl) (by kernel_rfl) (by kernel_rfl) rfl (by kernel_rfl) (fun _ _ _ h => h) (Or.inl ⟨by rfl, ?_⟩) (by assumption) ?_
    rotate_left
    · (intro w hSw; (try dsimp only at hSw); go_simp; try with_reducible rfl)
    try simp only [Act.put, List.setIfInBounds_toArray, List.set_cons_zero, List.set_cons_succ, List.getElem_toArray, List.getElem_cons_succ, List.getElem_cons_zero]
    refine wpTail_done (by kernel_rfl) ?_ _
    clear hHeld
    go_wp2_with fail
    refine wp_region_tail (S := fun w' => w'.cell? ⟨w1.heap.size, 0, none⟩ = some (.int .i64 b) ∧ w'.cell? ⟨w1.heap.size, 1, none⟩ = some (.slice p1 n1 r1) ∧ w'.cell? ⟨w1.heap.size, 2, none⟩ = some (.slice p2 n2 r2) ∧ w'.cell? ⟨w2.heap.size, 0, none⟩ = some (.int .i64 B) ∧ w'.cell? ⟨w2.heap.size, 1, none⟩ = some (.slice ua un uc) ∧ w'.cell? ⟨w2.heap.size, 2, none⟩ = some (.slice va_ vn vc)) (fun i => decide (5 ≤ i)) (by kernel_rfl) ⟨va0, va1, va2, vo0, vo1, vo2⟩ (fun hHeld => ?_)
    refine wpTail_take (i := 0) (v := ?_) rfl (by kernel_rfl) (by kernel_rfl) (by kernel_rfl) rfl (by kernel_rfl) (fun _ _ _ h => h) (Or.inl ⟨by rfl, ?_⟩) (by assumption) ?_
    rotate_left
    · (intro w hSw; (try dsimp only at hSw); go_simp; try with_reducible rfl)
    try simp only [Act.put, List.setIfInBounds_toArray, List.set_cons_zero, List.set_cons_succ, List.getElem_toArray, List.getElem_cons_succ, List.getElem_cons_zero]
    refine wpTail_take (i := 1) (v := ?_) rfl (by kernel_rfl) (by kernel_rfl) (by kernel_rfl) rfl (by kernel_rfl) (fun _ _ _ h => h) (Or.inl ⟨by rfl, ?_⟩) (by assumption) ?_
    rotate_left
    · (intro w hSw; (try dsimp only at hSw); go_simp; try with_reducible rfl)
    try simp only [Act.put, List.setIfInBounds_toArray, List.set_cons_zero, List.set_cons_succ, List.getElem_toArray, List.getElem_cons_succ, List.getElem_cons_zero]
    refine wpTail_one (i := 2) (by kernel_rfl) rfl rfl (fun K hK => ?_)
    try simp only [Act.put, List.setIfInBounds_toArray, List.set_cons_zero, List.set_cons_succ, List.getElem_toArray, List.getElem_cons_succ, List.getElem_cons_zero]
    go_simp
    refine (hsp.out _ (Z6.trans (by repeat (first | (with_reducible assumption) | (with_reducible refine Ext.setCell ?_ (by first | (simp; done) | (simp; omega) | omega) _) | (with_reducible apply Ext.alloc) | (with_reducible apply Ext.drew) | (with_reducible apply Ext.drewN) | (with_reducible exact Ext.refl _))))).mono ?_
    rintro e w7 ⟨su2, sv2, rfl, x1, x2, -, -, -, xw7⟩
    have Lw7 : Ext w6 w7 := Ext.trans (by repeat (first | (with_reducible assumption) | (with_reducible refine Ext.setCell ?_ (by first | (simp; done) | (simp; omega) | omega) _) | (with_reducible apply Ext.alloc) | (with_reducible apply Ext.drew) | (with_reducible apply Ext.drewN) | (with_reducible exact Ext.refl _))) xw7
    have Xw7 : Ext w w7 := Xw6.trans Lw7
    replace va0 := Lw7.cell va0
    replace va1 := Lw7.cell va1
    replace va2 := Lw7.cell va2
    replace vo0 := Lw7.cell vo0
    replace vo1 := Lw7.cell vo1
    replace vo2 := Lw7.cell vo2
    have z_va : w1.heap.size < w7.heap.size := World.block_lt_of_cell? _ _ va0
    have z_vo : w2.heap.size < w7.heap.size := World.block_lt_of_cell? _ _ vo0
    replace j1 := j1.ext Lw7
    replace j2 := j2.ext Lw7
    replace y1 := y1.ext Lw7
    replace y2 := y2.ext Lw7
    have s_w7 : w.heap.size ≤ w7.heap.size := Xw7.size
    clear xw7
    refine hK.out _ _ ⟨va0, va1, va2, vo0, vo1, vo2⟩ (fun hHeld => ?_)
    clear hK K
    try simp only [Act.put, List.setIfInBounds_toArray, List.set_cons_zero, List.set_cons_succ, List.getElem_toArray, List.getElem_cons_succ, List.getElem_cons_zero]
    refine wpTail_one (i := 3) (by kernel_rfl) rfl rfl (fun K hK => ?_)
    try simp only [Act.put, List.setIfInBounds_toArray, List.set_cons_zero, List.set_cons_succ, List.getElem_toArray, List.getElem_cons_succ, List.getElem_cons_zero]
    go_simp
    refine (leqView_c B _ _ _ _ S T _ _ _ _ _ (j1.ext (by repeat (first | (with_reducible assumption) | (with_reducible refine Ext.setCell ?_ (by first | (simp; done) | (simp; omega) | omega) _) | (with_reducible apply Ext.alloc) | (with_reducible apply Ext.drew) | (with_reducible apply Ext.drewN) | (with_reducible exact Ext.refl _)))) (j2.ext (by repeat (first | (with_reducible assumption) | (with_reducible refine Ext.setCell ?_ (by first | (simp; done) | (simp; omega) | omega) _) | (with_reducible apply Ext.alloc) | (with_reducible apply Ext.drew) | (with_reducible apply Ext.drewN) | (with_reducible exact Ext.refl _)))) (x1.ext (by repeat (first | (with_reducible assumption) | (with_reducible refine Ext.setCell ?_ (by first | (simp; done) | (simp; omega) | omega) _) | (with_reducible apply Ext.alloc) | (with_reducible apply Ext.drew) | (with_reducible apply Ext.drewN) | (with_reducible exact Ext.refl _)))) (x2.ext (by repeat (first | (with_reducible assumption) | (with_reducible refine Ext.setCell ?_ (by first | (simp; done) | (simp; omega) | omega) _) | (with_reducible apply Ext.alloc) | (with_reducible apply Ext.drew) | (with_reducible apply Ext.drewN) | (with_reducible exact Ext.refl _))))).mono ?_
    rintro e w8 ⟨rfl, xw8⟩
    have Lw8 : Ext w7 w8 := Ext.trans (by repeat (first | (with_reducible assumption) | (with_reducible refine Ext.setCell ?_ (by first | (simp; done) | (simp; omega) | omega) _) | (with_reducible apply Ext.alloc) | (with_reducible apply Ext.drew) | (with_reducible apply Ext.drewN) | (with_reducible exact Ext.refl _))) xw8
    have Xw8 : Ext w w8 := Xw7.trans Lw8
    replace va0 := Lw8.cell va0
    replace va1 := Lw8.cell va1
    replace va2 := Lw8.cell va2
    replace vo0 := Lw8.cell vo0
    replace vo1 := Lw8.cell vo1
    replace vo2 := Lw8.cell vo2
    have z_va : w1.heap.size < w8.heap.size := World.block_lt_of_cell? _ _ va0
    have z_vo : w2.heap.size < w8.heap.size := World.block_lt_of_cell? _ _ vo0
    replace j1 := j1.ext Lw8
    replace j2 := j2.ext Lw8
    replace y1 := y1.ext Lw8
    replace y2 := y2.ext Lw8
    replace x1 := x1.ext Lw8
    replace x2 := x2.ext Lw8
    have s_w8 : w.heap.size ≤ w8.heap.size := Xw8.size
    clear xw8
    refine hK.out _ _ ⟨va0, va1, va2, vo0, vo1, vo2⟩ (fun hHeld => ?_)
    clear hK K
    try simp only [Act.put, List.setIfInBounds_toArray, List.set_cons_zero, List.set_cons_succ, List.getElem_toArray, List.getElem_cons_succ, List.getElem_cons_zero]
    refine wpTail_take (i := 4) (v := ?_) rfl (by kernel_rfl) (by kernel_rfl) (by kernel_rfl) rfl (by kernel_rfl) (fun _ _ _ h => h) (Or.inl ⟨by rfl, ?_⟩) (by assumption) ?_
    rotate_left
    · (intro w hSw; (try dsimp only at hSw); go_simp; try with_reducible rfl)
    try simp only [Act.put, List.setIfInBounds_toArray, List.set_cons_zero, List.set_cons_succ, List.getElem_toArray, List.getElem_cons_succ, List.getElem_cons_zero]
    refine wpTail_done (by kernel_rfl) ?_ _
    clear hHeld
    go_wp2_with fail
    go_ret
    exact ⟨rfl, Xw8.trans (by repeat (first | (with_reducible assumption) | (with_reducible refine Ext.setCell ?_ (by first | (simp; done) | (simp; omega) | omega) _) | (with_reducible apply Ext.alloc) | (with_reducible apply Ext.drew) | (with_reducible apply Ext.drewN) | (with_reducible exact Ext.refl _)))⟩
  · obtain ⟨g1, g2, g3⟩ := hpu.out rfl
    clear hpu
    replace g1 := Lib.hid g1
    have hin := Lib.hid g2
    replace g3 := Lib.hid g3
    clear g2
    have hio : Hid (∀ (u v : Value) (l m : Nat) (W : World), Ints W l u S → Ints W m v T → Calls Try.prog 19 #[.agg #[.int .i64 B, u, v]] W (PInts W F)) := Lib.hid (fun u v l m W h1 h2 => by have := implOffsetsOf_c B u v S T W l m h1 h2; rw [g1.out] at this; exact this)
    have hid : Hid (∀ (u v : Value) (l m : Nat) (W : World), Ints W l u S → Ints W m v T → Calls Try.prog 45 #[.agg #[.int .i64 B, u, v]] W (PView W B S T)) := Lib.hid (fun u v l m W h1 h2 => by have := implDropOnes_c B u v S T W l m h1 h2; rw [g3.out] at this; exact this)
    clear g1 g3
    have Z1 : Ext w1 w1 := Ext.refl _
    go_wp2_with fail
    refine (hip.out _ (Z1.trans (by repeat (first | (with_reducible assumption) | (with_reducible refine Ext.setCell ?_ (by first | (simp; done) | (simp; omega) | omega) _) | (with_reducible apply Ext.alloc) | (with_reducible apply Ext.drew) | (with_reducible apply Ext.drewN) | (with_reducible exact Ext.refl _))))).mono ?_
    rintro e w2 ⟨u, v, rfl, j1, j2, -, -, -, xw2⟩
    have Lw2 : Ext w1 w2 := Ext.trans (by repeat (first | (with_reducible assumption) | (with_reducible refine Ext.setCell ?_ (by first | (simp; done) | (simp; omega) | omega) _) | (with_reducible apply Ext.alloc) | (with_reducible apply Ext.drew) | (with_reducible apply Ext.drewN) | (with_reducible exact Ext.refl _))) xw2
    have Xw2 : Ext w w2 := X1.trans Lw2
    have va0 : w2.cell? ⟨w1.heap.size, 0, none⟩ = some (.int .i64 b) := xw2.cell (by first | (simp; done) | ((repeat rw [World.cell?_alloc_lt _ _ _ (by simp <;> omega)]); simp; done) | (go_simp; done))
    have va1 : w2.cell? ⟨w1.heap.size, 1, none⟩ = some (.slice p1 n1 r1) := xw2.cell (by first | (simp; done) | ((repeat rw [World.cell?_alloc_lt _ _ _ (by simp <;> omega)]); simp; done) | (go_simp; done))
    have va2 : w2.cell? ⟨w1.heap.size, 2, none⟩ = some (.slice p2 n2 r2) := xw2.cell (by first | (simp; done) | ((repeat rw [World.cell?_alloc_lt _ _ _ (by simp <;> omega)]); simp; done) | (go_simp; done))
    have z_va : w1.heap.size < w2.heap.size := World.block_lt_of_cell? _ _ va0
    have s_w2 : w.heap.size ≤ w2.heap.size := Xw2.size
    clear xw2
    obtain ⟨ua, un, uc, rfl⟩ := j1.any
    obtain ⟨va_, vn, vc, rfl⟩ := j2.any
    have Z2 : Ext w1 w2 := Z1.trans Lw2
    go_wp2_with fail
    have Lw3 : Ext w2 (w2.alloc (.cells #[.int .i64 B, .slice ua un uc, .slice va_ vn vc] 25)) := (by repeat (first | (with_reducible assumption) | (with_reducible refine Ext.setCell ?_ (by first | (simp; done) | (simp; omega) | omega) _) | (with_reducible apply Ext.alloc) | (with_reducible apply Ext.drew) | (with_reducible apply Ext.drewN) | (with_reducible exact Ext.refl _)))
    have Xw3 : Ext w (w2.alloc (.cells #[.int .i64 B, .slice ua un uc, .slice va_ vn vc] 25)) := Xw2.trans Lw3
    replace va0 := Lw3.cell va0
    replace va1 := Lw3.cell va1
    replace va2 := Lw3.cell va2
    have vo0 : (w2.alloc (.cells #[.int .i64 B, .slice ua un uc, .slice va_ vn vc] 25)).cell? ⟨w2.heap.size, 0, none⟩ = some (.int .i64 B) := (by first | (simp; done) | ((repeat rw [World.cell?_alloc_lt _ _ _ (by simp <;> omega)]); simp; done) | (go_simp; done))
    have vo1 : (w2.alloc (.cells #[.int .i64 B, .slice ua un uc, .slice va_ vn vc] 25)).cell? ⟨w2.heap.size, 1, none⟩ = some (.slice ua un uc) := (by first | (simp; done) | ((repeat rw [World.cell?_alloc_lt _ _ _ (by simp <;> omega)]); simp; done) | (go_simp; done))
    have vo2 : (w2.alloc (.cells #[.int .i64 B, .slice ua un uc, .slice va_ vn vc] 25)).cell? ⟨w2.heap.size, 2, none⟩ = some (.slice va_ vn vc) := (by first | (simp; done) | ((repeat rw [World.cell?_alloc_lt _ _ _ (by simp <;> omega)]); simp; done) | (go_simp; done))
    have z_va : w1.heap.size < (w2.alloc (.cells #[.int .i64 B, .slice ua un uc, .slice va_ vn vc] 25)).heap.size := World.block_lt_of_cell? _ _ va0
    have z_vo : w2.heap.size < (w2.alloc (.cells #[.int .i64 B, .slice ua un uc, .slice va_ vn vc] 25)).heap.size := World.block_lt_of_cell? _ _ vo0
    replace j1 := j1.ext Lw3
    replace j2 := j2.ext Lw3
    have s_w3 : w.heap.size ≤ (w2.alloc (.cells #[.int .i64 B, .slice ua un uc, .slice va_ vn vc] 25)).heap.size := Xw3.size
    generalize w2.alloc (.cells #[.int .i64 B, .slice ua un uc, .slice va_ vn vc] 25) = w3 at *
    have Z3 : Ext w1 w3 := Z2.trans Lw3
    go_wp2_with fail
    refine wp_region_tail (S := fun w' => w'.cell? ⟨w1.heap.size, 0, none⟩ = some (.int .i64 b) ∧ w'.cell? ⟨w1.heap.size, 1, none⟩ = some (.slice p1 n1 r1) ∧ w'.cell? ⟨w1.heap.size, 2, none⟩ = some (.slice p2 n2 r2) ∧ w'.cell? ⟨w2.heap.size, 0, none⟩ = some (.int .i64 B) ∧ w'.cell? ⟨w2.heap.size, 1, none⟩ = some (.slice ua un uc) ∧ w'.cell? ⟨w2.heap.size, 2, none⟩ = some (.slice va_ vn vc)) (fun i => decide (10 ≤ i)) (by kernel_rfl) ⟨va0, va1, va2, vo0, vo1, vo2⟩ (fun hHeld => ?_)
    refine wpTail_take (i := 0) (v := ?_) rfl (by kernel_rfl) (by kernel_rfl) (by kernel_rfl) rfl (by kernel_rfl) (fun _ _ _ h => h) (Or.inl ⟨by rfl, ?_⟩) (by assumption) ?_
    rotate_left
    · (intro w hSw; (try dsimp only at hSw); go_simp; try with_reducible rfl)
    try simp only [Act.put, List.setIfInBounds_toArray, List.set_cons_zero, List.set_cons_succ, List.getElem_toArray, List.getElem_cons_succ, List.getElem_cons_zero]
    refine wpTail_take (i := 1) (v := ?_) rfl (by kernel_rfl) (by kernel_rfl) (by kernel_rfl) rfl (by kernel_rfl) (fun _ _ _ h => h) (Or.inl ⟨by rfl, ?_⟩) (by assumption) ?_
    rotate_left
    · (intro w hSw; (try dsimp only at hSw); go_simp; try with_reducible rfl)
    try simp only [Act.put, List.setIfInBounds_toArray, List.set_cons_zero, List.set_cons_succ, List.getElem_toArray, List.getElem_cons_succ, List.getElem_cons_zero]
    refine wpTail_one (i := 2) (by kernel_rfl) rfl rfl (fun K hK => ?_)
    try simp only [Act.put, List.setIfInBounds_toArray, List.set_cons_zero, List.set_cons_succ, List.getElem_toArray, List.getElem_cons_succ, List.getElem_cons_zero]
    go_simp
    refine (hsp.out _ (Z3.trans (by repeat (first | (with_reducible assumption) | (with_reducible refine Ext.setCell ?_ (by first | (simp; done) | (simp; omega) | omega) _) | (with_reducible apply Ext.alloc) | (with_reducible apply Ext.drew) | (with_reducible apply Ext.drewN) | (with_reducible exact Ext.refl _))))).mono ?_
    rintro e w4 ⟨su, sv, rfl, y1, y2, -, -, -, xw4⟩
    have Lw4 : Ext w3 w4 := Ext.trans (by repeat (first | (with_reducible assumption) | (with_reducible refine Ext.setCell ?_ (by first | (simp; done) | (simp; omega) | omega) _) | (with_reducible apply Ext.alloc) | (with_reducible apply Ext.drew) | (with_reducible apply Ext.drewN) | (with_reducible exact Ext.refl _))) xw4
    have Xw4 : Ext w w4 := Xw3.trans Lw4
    replace va0 := Lw4.cell va0
    replace va1 := Lw4.cell va1
    replace va2 := Lw4.cell va2
    replace vo0 := Lw4.cell vo0
    replace vo1 := Lw4.cell vo1
    replace vo2 := Lw4.cell vo2
    have z_va : w1.heap.size < w4.heap.size := World.block_lt_of_cell? _ _ va0
    have z_vo : w2.heap.size < w4.heap.size := World.block_lt_of_cell? _ _ vo0
    replace j1 := j1.ext Lw4
    replace j2 := j2.ext Lw4
    have s_w4 : w.heap.size ≤ w4.heap.size := Xw4.size
    clear xw4
    have Z4 : Ext w1 w4 := Z3.trans Lw4
    refine hK.out _ _ ⟨va0, va1, va2, vo0, vo1, vo2⟩ (fun hHeld => ?_)
    clear hK K
    try simp only [Act.put, List.setIfInBounds_toArray, List.set_cons_zero, List.set_cons_succ, List.getElem_toArray, List.getElem_cons_succ, List.getElem_cons_zero]
    refine wpTail_one (i := 3) (by kernel_rfl) rfl rfl (fun K hK => ?_)
    try simp only [Act.put, List.setIfInBounds_toArray, List.set_cons_zero, List.set_cons_succ, List.getElem_toArray, List.getElem_cons_succ, List.getElem_cons_zero]
    go_simp
    refine (leqView_c B _ _ _ _ S T _ _ _ _ _ (j1.ext (by repeat (first | (with_reducible assumption) | (with_reducible refine Ext.setCell ?_ (by first | (simp; done) | (simp; omega) | omega) _) | (with_reducible apply Ext.alloc) | (with_reducible apply Ext.drew) | (with_reducible apply Ext.drewN) | (with_reducible exact Ext.refl _)))) (j2.ext (by repeat (first | (with_reducible assumption) | (with_reducible refine Ext.setCell ?_ (by first | (simp; done) | (simp; omega) | omega) _) | (with_reducible apply Ext.alloc) | (with_reducible apply Ext.drew) | (with_reducible apply Ext.drewN) | (with_reducible exact Ext.refl _)))) (y1.ext (by repeat (first | (with_reducible assumption) | (with_reducible refine Ext.setCell ?_ (by first | (simp; done) | (simp; omega) | omega) _) | (with_reducible apply Ext.alloc) | (with_reducible apply Ext.drew) | (with_reducible apply Ext.drewN) | (with_reducible exact Ext.refl _)))) (y2.ext (by repeat (first | (with_reducible assumption) | (with_reducible refine Ext.setCell ?_ (by first | (simp; done) | (simp; omega) | omega) _) | (with_reducible apply Ext.alloc) | (with_reducible apply Ext.drew) | (with_reducible apply Ext.drewN) | (with_reducible exact Ext.refl _))))).mono ?_
    rintro e w5 ⟨rfl, xw5⟩
    have Lw5 : Ext w4 w5 := Ext.trans (by repeat (first | (with_reducible assumption) | (with_reducible refine Ext.setCell ?_ (by first | (simp; done) | (simp; omega) | omega) _) | (with_reducible apply Ext.alloc) | (with_reducible apply Ext.drew) | (with_reducible apply Ext.drewN) | (with_reducible exact Ext.refl _))) xw5
    have Xw5 : Ext w w5 := Xw4.trans Lw5
    replace va0 := Lw5.cell va0
    replace va1 := Lw5.cell va1
    replace va2 := Lw5.cell va2
    replace vo0 := Lw5.cell vo0
    replace vo1 := Lw5.cell vo1
    replace vo2 := Lw5.cell vo2
    have z_va : w1.heap.size < w5.heap.size := World.block_lt_of_cell? _ _ va0
    have z_vo : w2.heap.size < w5.heap.size := World.block_lt_of_cell? _ _ vo0
    replace j1 := j1.ext Lw5
    replace j2 := j2.ext Lw5
    replace y1 := y1.ext Lw5
    replace y2 := y2.ext Lw5
    have s_w5 : w.heap.size ≤ w5.heap.size := Xw5.size
    clear xw5
    have Z5 : Ext w1 w5 := Z4.trans Lw5
    refine hK.out _ _ ⟨va0, va1, va2, vo0, vo1, vo2⟩ (fun hHeld => ?_)
    clear hK K
    try simp only [Act.put, List.setIfInBounds_toArray, List.set_cons_zero, List.set_cons_succ, List.getElem_toArray, List.getElem_cons_succ, List.getElem_cons_zero]
    refine wpTail_take (i := 4) (v := ?_) rfl (by kernel_rfl) (by kernel_rfl) (by kernel_rfl) rfl (by kernel_rfl) (fun _ _ _ h => h) (Or.inl ⟨by rfl, ?_⟩) (by assumption) ?_
    rotate_left
    · (intro w hSw; (try dsimp only at hSw); go_simp; try with_reducible rfl)
    try simp only [Act.put, List.setIfInBounds_toArray, List.set_cons_zero, List.set_cons_succ, List.getElem_toArray, List.getElem_cons_succ, List.getElem_cons_zero]
    refine wpTail_take (i := 5) (v := ?_) rfl (by kernel_rfl) (by kernel_rfl) (by kernel_rfl) rfl (by kernel_rfl) (fun _ _ _ h => h) (Or.inl ⟨by rfl, ?_⟩) (by assumption) ?_
    rotate_left
    · (intro w hSw; (try dsimp only at hSw); go_simp; try with_reducible rfl)
    try simp only [Act.put, List.setIfInBounds_toArray, List.set_cons_zero, List.set_cons_succ, List.getElem_toArray, List.getElem_cons_succ, List.getElem_cons_zero]
    refine wpTail_take (i := 6) (v := ?_) rfl (by kernel_rfl) (by kernel_rfl) (by kernel_rfl) rfl (by kernel_rfl) (fun _ _ _ h => h) (Or.inl ⟨by rfl, ?_⟩) (by assumption) ?_
    rotate_left
    · (intro w hSw; (try dsimp only at hSw); go_simp; try with_reducible rfl)
    try simp only [Act.put, List.setIfInBounds_toArray, List.set_cons_zero, List.set_cons_succ, List.getElem_toArray, List.getElem_cons_succ, List.getElem_cons_zero]
    refine wpTail_one (i := 7) (by kernel_rfl) rfl rfl (fun K hK => ?_)
    try simp only [Act.put, List.setIfInBounds_toArray, List.set_cons_zero, List.set_cons_succ, List.getElem_toArray, List.getElem_cons_succ, List.getElem_cons_zero]
    go_simp
    refine (hvp.out _ (Z5.trans (by repeat (first | (with_reducible assumption) | (with_reducible refine Ext.setCell ?_ (by first | (simp; done) | (simp; omega) | omega) _) | (with_reducible apply Ext.alloc) | (with_reducible apply Ext.drew) | (with_reducible apply Ext.drewN) | (with_reducible exact Ext.refl _))))).mono ?_
    rintro e w6 ⟨rfl, xw6⟩
    have Lw6 : Ext w5 w6 := Ext.trans (by repeat (first | (with_reducible assumption) | (with_reducible refine Ext.setCell ?_ (by first | (simp; done) | (simp; omega) | omega) _) | (with_reducible apply Ext.alloc) | (with_reducible apply Ext.drew) | (with_reducible apply Ext.drewN) | (with_reducible exact Ext.refl _))) xw6
    have Xw6 : Ext w w6 := Xw5.trans Lw6
    replace va0 := Lw6.cell va0
    replace va1 := Lw6.cell va1
    replace va2 := Lw6.cell va2
    replace vo0 := Lw6.cell vo0
    replace vo1 := Lw6.cell vo1
    replace vo2 := Lw6.cell vo2
    have z_va : w1.heap.size < w6.heap.size := World.block_lt_of_cell? _ _ va0
    have z_vo : w2.heap.size < w6.heap.size := World.block_lt_of_cell? _ _ vo0
    replace j1 := j1.ext Lw6
    replace j2 := j2.ext Lw6
    replace y1 := y1.ext Lw6
    replace y2 := y2.ext Lw6
    have s_w6 : w.heap.size ≤ w6.heap.size := Xw6.size
    clear xw6
    have Z6 : Ext w1 w6 := Z5.trans Lw6
    refine hK.out _ _ ⟨va0, va1, va2, vo0, vo1, vo2⟩ (fun hHeld => ?_)
    clear hK K
    try simp only [Act.put, List.setIfInBounds_toArray, List.set_cons_zero, List.set_cons_succ, List.getElem_toArray, List.getElem_cons_succ, List.getElem_cons_zero]
    refine wpTail_take (i := 8) (v := ?_) rfl (by kernel_rfl) (by kernel_rfl) (by kernel_rfl) rfl (by kernel_rfl) (fun _ _ _ h => h) (Or.inl ⟨by rfl, ?_⟩) (by assumption) ?_
    rotate_left
    · (intro w hSw; (try dsimp only at hSw); go_simp; try with_reducible rfl)
    try simp only [Act.put, List.setIfInBounds_toArray, List.set_cons_zero, List.set_cons_succ, List.getElem_toArray, List.getElem_cons_succ, List.getElem_cons_zero]
    refine wpTail_take (i := 9) (v := ?_) rfl (by kernel_rfl) (by kernel_rfl) (by kernel_rfl) rfl (by kernel_rfl) (fun _ _ _ h => h) (Or.inl ⟨by rfl, ?_⟩) (by assumption) ?_
    rotate_left
    · (intro w hSw; (try dsimp only at hSw); go_simp; try with_reducible rfl)
    try simp only [Act.put, List.setIfInBounds_toArray, List.set_cons_zero, List.set_cons_succ, List.getElem_toArray, List.getElem_cons_succ, List.getElem_cons_zero]
    refine wpTail_done (by kernel_rfl) ?_ _
    clear hHeld
    go_wp2_with fail
    refine wp_region_tail (S := fun w' => w'.cell? ⟨w1.heap.size, 0, none⟩ = some (.int .i64 b) ∧ w'.cell? ⟨w1.heap.size, 1, none⟩ = some (.slice p1 n1 r1) ∧ w'.cell? ⟨w1.heap.size, 2, none⟩ = some (.slice p2 n2 r2) ∧ w'.cell? ⟨w2.heap.size, 0, none⟩ = some (.int .i64 B) ∧ w'.cell? ⟨w2.heap.size, 1, none⟩ = some (.slice ua un uc) ∧ w'.cell? ⟨w2.heap.size, 2, none⟩ = some (.slice va_ vn vc)) (fun i => decide (18 ≤ i)) (by kernel_rfl) ⟨va0, va1, va2, vo0, vo1, vo2⟩ (fun hHeld => ?_)
    refine wpTail_take (i := 0) (v := ?_) rfl (by kernel_rfl) (by kernel_rfl) (by kernel_rfl) rfl (by kernel_rfl) (fun _ _ _ h => h) (Or.inl ⟨by rfl, ?_⟩) (by assumption) ?_
    rotate_left
    · (intro w hSw; (try dsimp only at hSw); go_simp; try with_reducible rfl)
    try simp only [Act.put, List.setIfInBounds_toArray, List.set_cons_zero, List.set_cons_succ, List.getElem_toArray, List.getElem_cons_succ, List.getElem_cons_zero]
    refine wpTail_take (i := 2) (v := ?_) rfl (by kernel_rfl) (by kernel_rfl) (by kernel_rfl) rfl (by kernel_rfl) (fun _ _ _ h => h) (Or.inl ⟨by rfl, ?_⟩) (by assumption) ?_
    rotate_left
    · (intro w hSw; (try dsimp only at hSw); go_simp; try with_reducible rfl)
    try simp only [Act.put, List.setIfInBounds_toArray, List.set_cons_zero, List.set_cons_succ, List.getElem_toArray, List.getElem_cons_succ, List.getElem_cons_zero]
    refine wpTail_one (i := 1) (by kernel_rfl) rfl rfl (fun K hK => ?_)
    try simp only [Act.put, List.setIfInBounds_toArray, List.set_cons_zero, List.set_cons_succ, List.getElem_toArray, List.getElem_cons_succ, List.getElem_cons_zero]
    go_simp
    refine (hio.out _ _ _ _ _ (j1.ext (by repeat (first | (with_reducible assumption) | (with_reducible refine Ext.setCell ?_ (by first | (simp; done) | (simp; omega) | omega) _) | (with_reducible apply Ext.alloc) | (with_reducible apply Ext.drew) | (with_reducible apply Ext.drewN) | (with_reducible exact Ext.refl _)))) (j2.ext (by repeat (first | (with_reducible assumption) | (with_reducible refine Ext.setCell ?_ (by first | (simp; done) | (simp; omega) | omega) _) | (with_reducible apply Ext.alloc) | (with_reducible apply Ext.drew) | (with_reducible apply Ext.drewN) | (with_reducible exact Ext.refl _))))).mono ?_
    rintro e w7 ⟨f1, rfl, x1, -, xw7⟩
    have Lw7 : Ext w6 w7 := Ext.trans (by repeat (first | (with_reducible assumption) | (with_reducible refine Ext.setCell ?_ (by first | (simp; done) | (simp; omega) | omega) _) | (with_reducible apply Ext.alloc) | (with_reducible apply Ext.drew) | (with_reducible apply Ext.drewN) | (with_reducible exact Ext.refl _))) xw7
    have Xw7 : Ext w w7 := Xw6.trans Lw7
    replace va0 := Lw7.cell va0
    replace va1 := Lw7.cell va1
    replace va2 := Lw7.cell va2
    replace vo0 := Lw7.cell vo0
    replace vo1 := Lw7.cell vo1
    replace vo2 := Lw7.cell vo2
    have z_va : w1.heap.size < w7.heap.size := World.block_lt_of_cell? _ _ va0
    have z_vo : w2.heap.size < w7.heap.size := World.block_lt_of_cell? _ _ vo0
    replace j1 := j1.ext Lw7
    replace j2 := j2.ext Lw7
    replace y1 := y1.ext Lw7
    replace y2 := y2.ext Lw7
    have s_w7 : w.heap.size ≤ w7.heap.size := Xw7.size
    clear xw7
    have Z7 : Ext w1 w7 := Z6.trans Lw7
    refine hK.out _ _ ⟨va0, va1, va2, vo0, vo1, vo2⟩ (fun hHeld => ?_)
    clear hK K
    try simp only [Act.put, List.setIfInBounds_toArray, List.set_cons_zero, List.set_cons_succ, List.getElem_toArray, List.getElem_cons_succ, List.getElem_cons_zero]
    refine wpTail_one (i := 3) (by kernel_rfl) rfl rfl (fun K hK => ?_)
    try simp only [Act.put, List.setIfInBounds_toArray, List.set_cons_zero, List.set_cons_succ, List.getElem_toArray, List.getElem_cons_succ, List.getElem_cons_zero]
    go_simp
    refine (hof.out _ (Z7.trans (by repeat (first | (with_reducible assumption) | (with_reducible refine Ext.setCell ?_ (by first | (simp; done) | (simp; omega) | omega) _) | (with_reducible apply Ext.alloc) | (with_reducible apply Ext.drew) | (with_reducible apply Ext.drewN) | (with_reducible exact Ext.refl _))))).mono ?_
    rintro e w8 ⟨f2, rfl, x2, -, xw8⟩
    have Lw8 : Ext w7 w8 := Ext.trans (by repeat (first | (with_reducible assumption) | (with_reducible refine Ext.setCell ?_ (by first | (simp; done) | (simp; omega) | omega) _) | (with_reducible apply Ext.alloc) | (with_reducible apply Ext.drew) | (with_reducible apply Ext.drewN) | (with_reducible exact Ext.refl _))) xw8
    have Xw8 : Ext w w8 := Xw7.trans Lw8
    replace va0 := Lw8.cell va0
    replace va1 := Lw8.cell va1
    replace va2 := Lw8.cell va2
    replace vo0 := Lw8.cell vo0
    replace vo1 := Lw8.cell vo1
    replace vo2 := Lw8.cell vo2
    have z_va : w1.heap.size < w8.heap.size := World.block_lt_of_cell? _ _ va0
    have z_vo : w2.heap.size < w8.heap.size := World.block_lt_of_cell? _ _ vo0
    replace j1 := j1.ext Lw8
    replace j2 := j2.ext Lw8
    replace y1 := y1.ext Lw8
    replace y2 := y2.ext Lw8
    replace x1 := x1.ext Lw8
    have s_w8 : w.heap.size ≤ w8.heap.size := Xw8.size
    clear xw8
    refine hK.out _ _ ⟨va0, va1, va2, vo0, vo1, vo2⟩ (fun hHeld => ?_)
    clear hK K
    try simp only [Act.put, List.setIfInBounds_toArray, List.set_cons_zero, List.set_cons_succ, List.getElem_toArray, List.getElem_cons_succ, List.getElem_cons_zero]
    refine wpTail_one (i := 4) (by kernel_rfl) rfl rfl (fun K hK => ?_)
    try simp only [Act.put, List.setIfInBounds_toArray, List.set_cons_zero, List.set_cons_succ, List.getElem_toArray, List.getElem_cons_succ, List.getElem_cons_zero]
    go_simp
    refine (leqInts_c F _ _ _ _ _ (x1.ext (by repeat (first | (with_reducible assumption) | (with_reducible refine Ext.setCell ?_ (by first | (simp; done) | (simp; omega) | omega) _) | (with_reducible apply Ext.alloc) | (with_reducible apply Ext.drew) | (with_reducible apply Ext.drewN) | (with_reducible exact Ext.refl _)))) (x2.ext (by repeat (first | (with_reducible assumption) | (with_reducible refine Ext.setCell ?_ (by first | (simp; done) | (simp; omega) | omega) _) | (with_reducible apply Ext.alloc) | (with_reducible apply Ext.drew) | (with_reducible apply Ext.drewN) | (with_reducible exact Ext.refl _))))).mono ?_
    rintro e w9 ⟨rfl, xw9⟩
    have Lw9 : Ext w8 w9 := Ext.trans (by repeat (first | (with_reducible assumption) | (with_reducible refine Ext.setCell ?_ (by first | (simp; done) | (simp; omega) | omega) _) | (with_reducible apply Ext.alloc) | (with_reducible apply Ext.drew) | (with_reducible apply Ext.drewN) | (with_reducible exact Ext.refl _))) xw9
    have Xw9 : Ext w w9 := Xw8.trans Lw9
    replace va0 := Lw9.cell va0
    replace va1 := Lw9.cell va1
    replace va2 := Lw9.cell va2
    replace vo0 := Lw9.cell vo0
    replace vo1 := Lw9.cell vo1
    replace vo2 := Lw9.cell vo2
    have z_va : w1.heap.size < w9.heap.size := World.block_lt_of_cell? _ _ va0
    have z_vo : w2.heap.size < w9.heap.size := World.block_lt_of_cell? _ _ vo0
    replace j1 := j1.ext Lw9
    replace j2 := j2.ext Lw9
    replace y1 := y1.ext Lw9
    replace y2 := y2.ext Lw9
    replace x1 := x1.ext Lw9
    replace x2 := x2.ext Lw9
    have s_w9 : w.heap.size ≤ w9.heap.size := Xw9.size
    clear xw9
    refine hK.out _ _ ⟨va0, va1, va2, vo0, vo1, vo2⟩ (fun hHeld => ?_)
    clear hK K
    try simp only [Act.put, List.setIfInBounds_toArray, List.set_cons_zero, List.set_cons_succ, List.getElem_toArray, List.getElem_cons_succ, List.getElem_cons_zero]
    refine wpTail_take (i := 5) (v := ?_) rfl (by kernel_rfl) (by kernel_rfl) (by kernel_rfl) rfl (by kernel_rfl) (fun _ _ _ h => h) (Or.inl ⟨by rfl, ?_⟩) (by assumption) ?_
    rotate_left
    · (intro w hSw; (try dsimp only at hSw); go_simp; try with_reducible rfl)
    try simp only [Act.put, List.setIfInBounds_toArray, List.set_cons_zero, List.set_cons_succ, List.getElem_toArray, List.getElem_cons_succ, List.getElem_cons_zero]
    refine wpTail_take (i := 6) (v := ?_) rfl (by kernel_rfl) (by kernel_rfl) (by kernel_rfl) rfl (by kernel_rfl) (fun _ _ _ h => h) (Or.inl ⟨by rfl, ?_⟩) (by assumption) ?_
    rotate_left
    · (intro w hSw; (try dsimp only at hSw); go_simp; try with_reducible rfl)
    try simp only [Act.put, List.setIfInBounds_toArray, List.set_cons_zero, List.set_cons_succ, List.getElem_toArray, List.getElem_cons_succ, List.getElem_cons_zero]
    refine wpTail_take (i := 7) (v := ?_) rfl (by kernel_rfl) (by kernel_rfl) (by kernel_rfl) rfl (by kernel_rfl) (fun _ _ _ h => h) (Or.inl ⟨by rfl, ?_⟩) (by assumption) ?_
    rotate_left
    · (intro w hSw; (try dsimp only at hSw); go_simp; try with_reducible rfl)
    try simp only [Act.put, List.setIfInBounds_toArray, List.set_cons_zero, List.set_cons_succ, List.getElem_toArray, List.getElem_cons_succ, List.getElem_cons_zero]
    refine wpTail_one (i := 8) (by kernel_rfl) rfl rfl (fun K hK => ?_)
    try simp only [Act.put, List.setIfInBounds_toArray, List.set_cons_zero, List.set_cons_succ, List.getElem_toArray, List.getElem_cons_succ, List.getElem_cons_zero]
    go_simp
    refine (isIn_c S 1 _ _ _ (j1.ext (by repeat (first | (with_reducible assumption) | (with_reducible refine Ext.setCell ?_ (by first | (simp; done) | (simp; omega) | omega) _) | (with_reducible apply Ext.alloc) | (with_reducible apply Ext.drew) | (with_reducible apply Ext.drewN) | (with_reducible exact Ext.refl _))))).mono ?_
    rintro e w10 ⟨rfl, xw10⟩
    have Lw10 : Ext w9 w10 := Ext.trans (by repeat (first | (with_reducible assumption) | (with_reducible refine Ext.setCell ?_ (by first | (simp; done) | (simp; omega) | omega) _) | (with_reducible apply Ext.alloc) | (with_reducible apply Ext.drew) | (with_reducible apply Ext.drewN) | (with_reducible exact Ext.refl _))) xw10
    have Xw10 : Ext w w10 := Xw9.trans Lw10
    replace va0 := Lw10.cell va0
    replace va1 := Lw10.cell va1
    replace va2 := Lw10.cell va2
    replace vo0 := Lw10.cell vo0
    replace vo1 := Lw10.cell vo1
    replace vo2 := Lw10.cell vo2
    have z_va : w1.heap.size < w10.heap.size := World.block_lt_of_cell? _ _ va0
    have z_vo : w2.heap.size < w10.heap.size := World.block_lt_of_cell? _ _ vo0
    replace j1 := j1.ext Lw10
    replace j2 := j2.ext Lw10
    replace y1 := y1.ext Lw10
    replace y2 := y2.ext Lw10
    replace x1 := x1.ext Lw10
    replace x2 := x2.ext Lw10
    have s_w10 : w.heap.size ≤ w10.heap.size := Xw10.size
    clear xw10
    rw [hin.out]
    refine hK.out _ _ ⟨va0, va1, va2, vo0, vo1, vo2⟩ (fun hHeld => ?_)
    clear hK K
    try simp only [Act.put, List.setIfInBounds_toArray, List.set_cons_zero, List.set_cons_succ, List.getElem_toArray, List.getElem_cons_succ, List.getElem_cons_zero]
    refine wpTail_take (i := 9) (v := ?_) rfl (by kernel_rfl) (by kernel_rfl) (by kernel_rfl) rfl (by kernel_rfl) (fun _ _ _ h => h) (Or.inl ⟨by rfl, ?_⟩) (by assumption) ?_
    rotate_left
    · (intro w hSw; (try dsimp only at hSw); go_simp; try with_reducible rfl)
    try simp only [Act.put, List.setIfInBounds_toArray, List.set_cons_zero, List.set_cons_succ, List.getElem_toArray, List.getElem_cons_succ, List.getElem_cons_zero]
    refine wpTail_take (i := 10) (v := ?_) rfl (by kernel_rfl) (by kernel_rfl) (by kernel_rfl) rfl (by kernel_rfl) (fun _ _ _ h => h) (Or.inl ⟨by rfl, ?_⟩) (by assumption) ?_
    rotate_left
    · (intro w hSw; (try dsimp only at hSw); go_simp; try with_reducible rfl)
    try simp only [Act.put, List.setIfInBounds_toArray, List.set_cons_zero, List.set_cons_succ, List.getElem_toArray, List.getElem_cons_succ, List.getElem_cons_zero]
    refine wpTail_take (i := 11) (v := ?_) rfl (by kernel_rfl) (by kernel_rfl) (by kernel_rfl) rfl (by kernel_rfl) (fun _ _ _ h => h) (Or.inl ⟨by rfl, ?_⟩) (by assumption) ?_
    rotate_left
    · (intro w hSw; (try dsimp only at hSw); go_simp; try with_reducible rfl)
    try simp only [Act.put, List.setIfInBounds_toArray, List.set_cons_zero, List.set_cons_succ, List.getElem_toArray, List.getElem_cons_succ, List.getElem_cons_zero]
    refine wpTail_take (i := 12) (v := ?_) rfl (by kernel_rfl) (by kernel_rfl) (by kernel_rfl) rfl (by kernel_rfl) (fun _ _ _ h => h) (Or.inl ⟨by rfl, ?_⟩) (by assumption) ?_
    rotate_left
    · (intro w hSw; (try dsimp only at hSw); go_simp; try with_reducible rfl)
    try simp only [Act.put, List.setIfInBounds_toArray, List.set_cons_zero, List.set_cons_succ, List.getElem_toArray, List.getElem_cons_succ, List.getElem_cons_zero]
    refine wpTail_take (i := 14) (v := ?_) rfl (by kernel_rfl) (by kernel_rfl) (by kernel_rfl) rfl (by kernel_rfl) (fun _ _ _ h => h) (Or.inl ⟨by rfl, ?_⟩) (by assumption) ?_
    rotate_left
    · (intro w hSw; (try dsimp only at hSw); go_simp; try with_reducible rfl)
    try simp only [Act.put, List.setIfInBounds_toArray, List.set_cons_zero, List.set_cons_succ, List.getElem_toArray, List.getElem_cons_succ, List.getElem_cons_zero]
    refine wpTail_one (i := 13) (by kernel_rfl) rfl rfl (fun K hK => ?_)
    try simp only [Act.put, List.setIfInBounds_toArray, List.set_cons_zero, List.set_cons_succ, List.getElem_toArray, List.getElem_cons_succ, List.getElem_cons_zero]
    go_simp
    refine (hid.out _ _ _ _ _ (j1.ext (by repeat (first | (with_reducible assumption) | (with_reducible refine Ext.setCell ?_ (by first | (simp; done) | (simp; omega) | omega) _) | (with_reducible apply Ext.alloc) | (with_reducible apply Ext.drew) | (with_reducible apply Ext.drewN) | (with_reducible exact Ext.refl _)))) (j2.ext (by repeat (first | (with_reducible assumption) | (with_reducible refine Ext.setCell ?_ (by first | (simp; done) | (simp; omega) | omega) _) | (with_reducible apply Ext.alloc) | (with_reducible apply Ext.drew) | (with_reducible apply Ext.drewN) | (with_reducible exact Ext.refl _))))).mono ?_
    rintro e w11 ⟨du, dv, rfl, d1, d2, -, -, -, xw11⟩
    have Lw11 : Ext w10 w11 := Ext.trans (by repeat (first | (with_reducible assumption) | (with_reducible refine Ext.setCell ?_ (by first | (simp; done) | (simp; omega) | omega) _) | (with_reducible apply Ext.alloc) | (with_reducible apply Ext.drew) | (with_reducible apply Ext.drewN) | (with_reducible exact Ext.refl _))) xw11
    have Xw11 : Ext w w11 := Xw10.trans Lw11
    replace va0 := Lw11.cell va0
    replace va1 := Lw11.cell va1
    replace va2 := Lw11.cell va2
    replace vo0 := Lw11.cell vo0
    replace vo1 := Lw11.cell vo1
    replace vo2 := Lw11.cell vo2
    have z_va : w1.heap.size < w11.heap.size := World.block_lt_of_cell? _ _ va0
    have z_vo : w2.heap.size < w11.heap.size := World.block_lt_of_cell? _ _ vo0
    replace j1 := j1.ext Lw11
    replace j2 := j2.ext Lw11
    replace y1 := y1.ext Lw11
    replace y2 := y2.ext Lw11
    replace x1 := x1.ext Lw11
    replace x2 := x2.ext Lw11
    have s_w11 : w.heap.size ≤ w11.heap.size := Xw11.size
    clear xw11
    refine hK.out _ _ ⟨va0, va1, va2, vo0, vo1, vo2⟩ (fun hHeld => ?_)
    clear hK K
    try simp only [Act.put, List.setIfInBounds_toArray, List.set_cons_zero, List.set_cons_succ, List.getElem_toArray, List.getElem_cons_succ, List.getElem_cons_zero]
    refine wpTail_one (i := 15) (by kernel_rfl) rfl rfl (fun K hK => ?_)
    try simp only [Act.put, List.setIfInBounds_toArray, List.set_cons_zero, List.set_cons_succ, List.getElem_toArray, List.getElem_cons_succ, List.getElem_cons_zero]
    go_simp
    refine (leqView_c B _ _ _ _ S T _ _ _ _ _ (d1.ext (by repeat (first | (with_reducible assumption) | (with_reducible refine Ext.setCell ?_ (by first | (simp; done) | (simp; omega) | omega) _) | (with_reducible apply Ext.alloc) | (with_reducible apply Ext.drew) | (with_reducible apply Ext.drewN) | (with_reducible exact Ext.refl _)))) (d2.ext (by repeat (first | (with_reducible assumption) | (with_reducible refine Ext.setCell ?_ (by first | (simp; done) | (simp; omega) | omega) _) | (with_reducible apply Ext.alloc) | (with_reducible apply Ext.drew) | (with_reducible apply Ext.drewN) | (with_reducible exact Ext.refl _)))) (j1.ext (by repeat (first | (with_reducible assumption) | (with_reducible refine Ext.setCell ?_ (by first | (simp; done) | (simp; omega) | omega) _) | (with_reducible apply Ext.alloc) | (with_reducible apply Ext.drew) | (with_reducible apply Ext.drewN) | (with_reducible exact Ext.refl _)))) (j2.ext (by repeat (first | (with_reducible assumption) | (with_reducible refine Ext.setCell ?_ (by first | (simp; done) | (simp; omega) | omega) _) | (with_reducible apply Ext.alloc) | (with_reducible apply Ext.drew) | (with_reducible apply Ext.drewN) | (with_reducible exact Ext.refl _))))).mono ?_
    rintro e w12 ⟨rfl, xw12⟩
    have Lw12 : Ext w11 w12 := Ext.trans (by repeat (first | (with_reducible assumption) | (with_reducible refine Ext.setCell ?_ (by first | (simp; done) | (simp; omega) | omega) _) | (with_reducible apply Ext.alloc) | (with_reducible apply Ext.drew) | (with_reducible apply Ext.drewN) | (with_reducible exact Ext.refl _))) xw12
    have Xw12 : Ext w w12 := Xw11.trans Lw12
    replace va0 := Lw12.cell va0
    replace va1 := Lw12.cell va1
    replace va2 := Lw12.cell va2
    replace vo0 := Lw12.cell vo0
    replace vo1 := Lw12.cell vo1
    replace vo2 := Lw12.cell vo2
    have z_va : w1.heap.size < w12.heap.size := World.block_lt_of_cell? _ _ va0
    have z_vo : w2.heap.size < w12.heap.size := World.block_lt_of_cell? _ _ vo0
    replace j1 := j1.ext Lw12
    replace j2 := j2.ext Lw12
    replace y1 := y1.ext Lw12
    replace y2 := y2.ext Lw12
    replace x1 := x1.ext Lw12
    replace x2 := x2.ext Lw12
    replace d1 := d1.ext Lw12
    replace d2 := d2.ext Lw12
    have s_w12 : w.heap.size ≤ w12.heap.size := Xw12.size
    clear xw12
    refine hK.out _ _ ⟨va0, va1, va2, vo0, vo1, vo2⟩ (fun hHeld => ?_)
    clear hK K
    try simp only [Act.put, List.setIfInBounds_toArray, List.set_cons_zero, List.set_cons_succ, List.getElem_toArray, List.getElem_cons_succ, List.getElem_cons_zero]
    refine wpTail_take (i := 16) (v := ?_) rfl (by kernel_rfl) (by kernel_rfl) (by kernel_rfl) rfl (by kernel_rfl) (fun _ _ _ h => h) (Or.inl ⟨by rfl, ?_⟩) (by assumption) ?_
    rotate_left
    · (intro w hSw; (try dsimp only at hSw); go_simp; try with_reducible rfl)
    try simp only [Act.put, List.setIfInBounds_toArray, List.set_cons_zero, List.set_cons_succ, List.getElem_toArray, List.getElem_cons_succ, List.getElem_cons_zero]
    refine wpTail_take (i := 17) (v := ?_) rfl (by kernel_rfl) (by kernel_rfl) (by kernel_rfl) rfl (by kernel_rfl) (fun _ _ _ h => h) (Or.inl ⟨by rfl, ?_⟩) (by assumption) ?_
    rotate_left
    · (intro w hSw; (try dsimp only at hSw); go_simp; try with_reducible rfl)
    try simp only [Act.put, List.setIfInBounds_toArray, List.set_cons_zero, List.set_cons_succ, List.getElem_toArray, List.getElem_cons_succ, List.getElem_cons_zero]
    refine wpTail_done (by kernel_rfl) ?_ _
    clear hHeld
    go_wp2_with fail
    go_ret
    exact ⟨rfl, Xw12.trans (by repeat (first | (with_reducible assumption) | (with_reducible refine Ext.setCell ?_ (by first | (simp; done) | (simp; omega) | omega) _) | (with_reducible apply Ext.alloc) | (with_reducible apply Ext.drew) | (with_reducible apply Ext.drewN) | (with_reducible exact Ext.refl _)))⟩

end Go.Proofs.Ytnjaidgifccgjaa

/- The law FnDropOnes holds for all bytes: the call returns true, and its argument reads as it did. No condition. -/
namespace Go.Proofs.Ytnjaidgifccgjaa.rowFnDropOnes
open Go.ChangeShapes Go.WideShapes Go.ChangeAt Go.RowKit
set_option linter.unusedVariables false

set_option maxHeartbeats 1000000 in
set_option maxRecDepth 100000 in
theorem lifted (os : Os) (started : os.Started) (H : Type) (enc : TypeId × Value → H) :
    ReturnsInHanded {} Try.checked os 11 .any (Rows.fnDropOnesSpec.pre6 enc Try.prog Try.f11 Rows.fnDropOnesRow.domain false) (Rows.fnDropOnesSpec.post enc Try.prog Try.f11 false true false false) := by
  refine returnsInHanded_of_change (C := Try.checked) own started (by kernel_rfl) Try.func11
    (ChangeSpec.witness6 (enc := enc) (C := Try.checked) false ⟨#[], #[.slice none 0 0], []⟩ 8 (by kernel_rfl) (by kernel_rfl) (by kernel_rfl) (by kernel_rfl)) ?_
  intro W base args ds gs before hval0 hW hcnd _
  have hval : ∀ (j : Nat) t v, Try.f11.params[j]? = some t → args[j]? = some v → Value.okWide Try.prog W .any base t v := hval0
  have hW' := hW
  obtain ⟨p, q, hA0, hV, rfl, hfz, hnd⟩ := hW
  have hA : DataW.TrodAll enc Try.prog W 0 (fun _ => true) true Try.f11.params.toList args.toList ds p := hA0
  rw [Try.params11] at hA hval
  obtain ⟨v0, vs0, d0, ds0, p0, q0, hargs0, rfl, rfl, h0, r0⟩ := trodAll_cons hA
  obtain ⟨rfl, rfl, rfl⟩ := trodAll_nil r0
  obtain rfl : args = #[v0] := by cases args; simp_all
  obtain ⟨rfl, rfl⟩ := trodVars_none hV
  obtain ⟨a0, len0, cap0, rfl⟩ := okWide_slice Try.underlying22 (hval 0 22 v0 rfl rfl)
  have k0 := h0
  have lt0 : ∀ x ∈ p0, x.block < W.heap.size := by obtain ⟨m, hm⟩ := k0; exact DataW.trod_lt m _ _ _ hm
  have w0 : BysIn W a0 len0 cap0 := by
    obtain ⟨fuel, hf⟩ := h0
    rcases open_ints Try.underlying22 Try.underlying5 (by kernel_rfl) hf with ⟨hcs, _⟩ | ⟨x, l, c, zs, hcs, _, hl, hm, hz, _, hcell, hwz⟩
    · simp [Value.cells] at hcs
      obtain ⟨rfl, rfl, rfl⟩ := hcs
      exact ⟨Nat.le_refl _, by simp, fun i hi => absurd hi (by simp)⟩
    · simp [Value.cells] at hcs
      obtain ⟨rfl, rfl, rfl⟩ := hcs
      have hzl : zs.length = cap0 := by simpa using hz
      exact bys_of_cells hl hm hzl hcell hwz
  clear hA0 hval0
  refine (lawFnDropOnes_c a0 len0 cap0 W w0).mono fun e W' ⟨he, bel⟩ => ?_
  subst he
  exact ⟨_, rfl, _, _, _, [], _, [], hW', trodAll_mk1 (shut_bool Try.underlying4 _), (trodAll_cons_mk (Below.trod laidOut (by kernel_rfl) (of_decide_eq_true (by kernel_rfl)) k0 bel lt0) trodAll_mk0), rfl, Below.frame bel _, fun h => by cases h⟩

set_option maxHeartbeats 2000000 in
theorem closed : joinedFacts Try.checked.prog 11 Try.f11 Rows.fnDropOnesSpec Rows.fnDropOnesRow = true :=
  facts.all (by kernel_rfl) (by kernel_rfl) (by kernel_rfl) (by kernel_rfl) (by kernel_rfl) (by as_aux_lemma => kernel_rfl) (by as_aux_lemma => kernel_rfl) (by as_aux_lemma => kernel_rfl) (by as_aux_lemma => kernel_rfl)
    (by as_aux_lemma => kernel_rfl) (by as_aux_lemma => kernel_rfl) rfl rfl rfl rfl (by kernel_rfl) (by kernel_rfl) (by as_aux_lemma => kernel_rfl) (by as_aux_lemma => kernel_rfl)

theorem named : Try.pinned.checked.prog.funcNamed Rows.fnDropOnesRow.func = some 11 := by kernel_rfl

theorem over : Rows.fnDropOnesRow.holds Try.pinned (OpenSpec.ofChange Rows.fnDropOnesSpec) :=
  OpenClaim.holds_of_wide 11 Try.f11 rfl rfl rfl rfl rfl rfl rfl ⟨rfl, rfl, rfl, rfl, rfl⟩ rfl rfl rfl rfl rfl named Try.func11 closed
    (of_decide_eq_true (by kernel_rfl)) (by unfold Func.isWrapper; exact ⟨rfl, rfl⟩)
    (fun os started H enc _ => lifted os started H enc)

theorem proved : Rows.FnDropOnesSaid := over

end Go.Proofs.Ytnjaidgifccgjaa.rowFnDropOnes
