/- Texts of these proofs put together: LvA, LawFnFitsIn, RowFnFitsIn. No condition. -/
import Derived.Test.YtnjaidgifccgjaaM2
import Derived.Test.YtnjaidgifccgjaaM1
import Derived.Test.YtnjaidgifccgjaaM5
/- Walks: ValidView, FitsIn, BoundsOf. -/
namespace Go.Proofs.Ytnjaidgifccgjaa
open Go.RowKit
set_option linter.unusedVariables false
set_option maxRecDepth 100000


theorem areCells_c (x : Int) (w : World) : Calls Try.prog 60 #[.int .i64 x] w fun e w' => e = .returned (.bool (inB 0 60 x)) ∧ w = w' := by
  by_cases h : 0 ≤ x
  · go_enter Try.func60, Try.ntmps60
    go_wp2_with fail
    go_ret
    exact ⟨by simp [inB, h], rfl⟩
  · have h' : x < 0 := by omega
    go_enter Try.func60, Try.ntmps60
    go_wp2_with fail
    go_ret
    exact ⟨by simp [inB]; intro; omega, rfl⟩
theorem min_lib (l : List Int) : Lib.minOf l = minL l := by cases l <;> rfl
theorem max_lib (l : List Int) : Lib.maxOf l = maxL l := by cases l <;> rfl
theorem min_c (xs : List Int) (v : Value) (w : World) (lo : Nat) (h : Ints w lo v xs) (hn : xs ≠ []) : Calls Try.prog 67 #[v] w fun e w' => e = .returned (.int .i64 (minL xs)) ∧ w = w' := by
  obtain ⟨a, cap, rfl, h1, h2, ⟨h3, h3'⟩, h4⟩ := h
  have hpos : 0 < xs.length := by cases xs <;> simp_all
  obtain ⟨b, off, rfl, _⟩ := h4 0 hpos
  refine (Try.slices_Min_int b off xs.length cap xs w hpos (Nat.le_refl _) (by omega) (fun j hj => by obtain ⟨b', off', he, _, hc, _⟩ := h4 j hj; cases he; exact hc)).mono ?_
  rintro e w' ⟨rfl, rfl⟩
  exact ⟨by rw [List.take_length, min_lib], rfl⟩
theorem max_c (xs : List Int) (v : Value) (w : World) (lo : Nat) (h : Ints w lo v xs) (hn : xs ≠ []) : Calls Try.prog 68 #[v] w fun e w' => e = .returned (.int .i64 (maxL xs)) ∧ w = w' := by
  obtain ⟨a, cap, rfl, h1, h2, ⟨h3, h3'⟩, h4⟩ := h
  have hpos : 0 < xs.length := by cases xs <;> simp_all
  obtain ⟨b, off, rfl, _⟩ := h4 0 hpos
  refine (Try.slices_Max_int b off xs.length cap xs w hpos (Nat.le_refl _) (by omega) (fun j hj => by obtain ⟨b', off', he, _, hc, _⟩ := h4 j hj; cases he; exact hc)).mono ?_
  rintro e w' ⟨rfl, rfl⟩
  exact ⟨by rw [List.take_length, max_lib], rfl⟩
def fitA (b : Int) (s t : List Int) (x : Int) : Bool := viewB b s t && (inB 0 60 x && fitB b s t x)
set_option maxHeartbeats 1600000 in
theorem implValidView_c (b1 : Int) (u1 v1 : Value) (s1 t1 : List Int) (w : World) (l1 m1 : Nat) (h1 : Ints w l1 u1 s1) (k1 : Ints w m1 v1 t1) :
    Calls Try.prog 16 #[.agg #[.int .i64 b1, u1, v1]] w (fun e w' => e = .returned (.bool (viewB b1 s1 t1)) ∧ Ext w w') := by
  obtain ⟨a1, cp1, rfl⟩ := h1.form
  obtain ⟨a2, cp2, rfl⟩ := k1.form
  go_enter Try.func16, Try.ntmps16
  go_wp2_with fail
  refine (isView_c b1 _ _ s1 t1 _ l1 m1 (h1.ext (by repeat (first | (with_reducible assumption) | (with_reducible refine Ext.setCell ?_ (by first | (simp; done) | (simp; omega) | omega) _) | (with_reducible apply Ext.alloc) | (with_reducible apply Ext.drew) | (with_reducible apply Ext.drewN) | (with_reducible exact Ext.refl _)))) (k1.ext (by repeat (first | (with_reducible assumption) | (with_reducible refine Ext.setCell ?_ (by first | (simp; done) | (simp; omega) | omega) _) | (with_reducible apply Ext.alloc) | (with_reducible apply Ext.drew) | (with_reducible apply Ext.drewN) | (with_reducible exact Ext.refl _))))).mono ?_
  rintro e w1 ⟨rfl, xw1⟩
  have Lw1 : Ext w w1 := Ext.trans (by repeat (first | (with_reducible assumption) | (with_reducible refine Ext.setCell ?_ (by first | (simp; done) | (simp; omega) | omega) _) | (with_reducible apply Ext.alloc) | (with_reducible apply Ext.drew) | (with_reducible apply Ext.drewN) | (with_reducible exact Ext.refl _))) xw1
  have Xw1 : Ext w w1 := Lw1
  have va0 : w1.cell? ⟨w.heap.size, 0, none⟩ = some (.int .i64 b1) := xw1.cell (by first | (simp; done) | ((repeat rw [World.cell?_alloc_lt _ _ _ (by simp <;> omega)]); simp; done) | (go_simp; done))
  have va1 : w1.cell? ⟨w.heap.size, 1, none⟩ = some (.slice a1 s1.length cp1) := xw1.cell (by first | (simp; done) | ((repeat rw [World.cell?_alloc_lt _ _ _ (by simp <;> omega)]); simp; done) | (go_simp; done))
  have va2 : w1.cell? ⟨w.heap.size, 2, none⟩ = some (.slice a2 t1.length cp2) := xw1.cell (by first | (simp; done) | ((repeat rw [World.cell?_alloc_lt _ _ _ (by simp <;> omega)]); simp; done) | (go_simp; done))
  have z_va : w.heap.size < w1.heap.size := World.block_lt_of_cell? _ _ va0
  have s_w1 : w.heap.size ≤ w1.heap.size := Xw1.size
  clear xw1
  go_wp2_with fail
  go_ret
  exact ⟨rfl, Xw1.trans (by repeat (first | (with_reducible assumption) | (with_reducible refine Ext.setCell ?_ (by first | (simp; done) | (simp; omega) | omega) _) | (with_reducible apply Ext.alloc) | (with_reducible apply Ext.drew) | (with_reducible apply Ext.drewN) | (with_reducible exact Ext.refl _)))⟩

set_option maxHeartbeats 1600000 in
theorem implFitsIn_c (b1 : Int) (u1 v1 : Value) (s1 t1 : List Int) (x : Int) (w : World) (l1 m1 : Nat) (h1 : Ints w l1 u1 s1) (k1 : Ints w m1 v1 t1) :
    Calls Try.prog 14 #[.agg #[.int .i64 b1, u1, v1], .int .i64 x] w (fun e w' => e = .returned (.bool (fitA b1 s1 t1 x)) ∧ Ext w w') := by
  obtain ⟨a1, cp1, rfl⟩ := h1.form
  obtain ⟨a2, cp2, rfl⟩ := k1.form
  cases ha : viewB b1 s1 t1
  · have hr : Hid (fitA b1 s1 t1 x = false) := Lib.hid (by unfold fitA; rw [ha]; rfl)
    replace ha := Lib.hid ha
    go_enter Try.func14, Try.ntmps14
    go_wp2_with fail
    refine (isView_c b1 _ _ s1 t1 _ l1 m1 (h1.ext (by repeat (first | (with_reducible assumption) | (with_reducible refine Ext.setCell ?_ (by first | (simp; done) | (simp; omega) | omega) _) | (with_reducible apply Ext.alloc) | (with_reducible apply Ext.drew) | (with_reducible apply Ext.drewN) | (with_reducible exact Ext.refl _)))) (k1.ext (by repeat (first | (with_reducible assumption) | (with_reducible refine Ext.setCell ?_ (by first | (simp; done) | (simp; omega) | omega) _) | (with_reducible apply Ext.alloc) | (with_reducible apply Ext.drew) | (with_reducible apply Ext.drewN) | (with_reducible exact Ext.refl _))))).mono ?_
    rintro e w1 ⟨rfl, xw1⟩
    have Lw1 : Ext w w1 := Ext.trans (by repeat (first | (with_reducible assumption) | (with_reducible refine Ext.setCell ?_ (by first | (simp; done) | (simp; omega) | omega) _) | (with_reducible apply Ext.alloc) | (with_reducible apply Ext.drew) | (with_reducible apply Ext.drewN) | (with_reducible exact Ext.refl _))) xw1
    have Xw1 : Ext w w1 := Lw1
    have va0 : w1.cell? ⟨w.heap.size, 0, none⟩ = some (.int .i64 b1) := xw1.cell (by first | (simp; done) | ((repeat rw [World.cell?_alloc_lt _ _ _ (by simp <;> omega)]); simp; done) | (go_simp; done))
    have va1 : w1.cell? ⟨w.heap.size, 1, none⟩ = some (.slice a1 s1.length cp1) := xw1.cell (by first | (simp; done) | ((repeat rw [World.cell?_alloc_lt _ _ _ (by simp <;> omega)]); simp; done) | (go_simp; done))
    have va2 : w1.cell? ⟨w.heap.size, 2, none⟩ = some (.slice a2 t1.length cp2) := xw1.cell (by first | (simp; done) | ((repeat rw [World.cell?_alloc_lt _ _ _ (by simp <;> omega)]); simp; done) | (go_simp; done))
    have z_va : w.heap.size < w1.heap.size := World.block_lt_of_cell? _ _ va0
    have s_w1 : w.heap.size ≤ w1.heap.size := Xw1.size
    clear xw1
    rw [ha.out]
    go_wp2_with fail
    go_ret
    exact ⟨by rw [hr.out] <;> rfl, Xw1.trans (by repeat (first | (with_reducible assumption) | (with_reducible refine Ext.setCell ?_ (by first | (simp; done) | (simp; omega) | omega) _) | (with_reducible apply Ext.alloc) | (with_reducible apply Ext.drew) | (with_reducible apply Ext.drewN) | (with_reducible exact Ext.refl _)))⟩
  · cases hb : inB 0 60 x
    · have hr : Hid (fitA b1 s1 t1 x = false) := Lib.hid (by unfold fitA; rw [ha, hb]; rfl)
      replace ha := Lib.hid ha
      replace hb := Lib.hid hb
      go_enter Try.func14, Try.ntmps14
      go_wp2_with fail
      refine (isView_c b1 _ _ s1 t1 _ l1 m1 (h1.ext (by repeat (first | (with_reducible assumption) | (with_reducible refine Ext.setCell ?_ (by first | (simp; done) | (simp; omega) | omega) _) | (with_reducible apply Ext.alloc) | (with_reducible apply Ext.drew) | (with_reducible apply Ext.drewN) | (with_reducible exact Ext.refl _)))) (k1.ext (by repeat (first | (with_reducible assumption) | (with_reducible refine Ext.setCell ?_ (by first | (simp; done) | (simp; omega) | omega) _) | (with_reducible apply Ext.alloc) | (with_reducible apply Ext.drew) | (with_reducible apply Ext.drewN) | (with_reducible exact Ext.refl _))))).mono ?_
      rintro e w1 ⟨rfl, xw1⟩
      have Lw1 : Ext w w1 := Ext.trans (by repeat (first | (with_reducible assumption) | (with_reducible refine Ext.setCell ?_ (by first | (simp; done) | (simp; omega) | omega) _) | (with_reducible apply Ext.alloc) | (with_reducible apply Ext.drew) | (with_reducible apply Ext.drewN) | (with_reducible exact Ext.refl _))) xw1
      have Xw1 : Ext w w1 := Lw1
      have va0 : w1.cell? ⟨w.heap.size, 0, none⟩ = some (.int .i64 b1) := xw1.cell (by first | (simp; done) | ((repeat rw [World.cell?_alloc_lt _ _ _ (by simp <;> omega)]); simp; done) | (go_simp; done))
      have va1 : w1.cell? ⟨w.heap.size, 1, none⟩ = some (.slice a1 s1.length cp1) := xw1.cell (by first | (simp; done) | ((repeat rw [World.cell?_alloc_lt _ _ _ (by simp <;> omega)]); simp; done) | (go_simp; done))
      have va2 : w1.cell? ⟨w.heap.size, 2, none⟩ = some (.slice a2 t1.length cp2) := xw1.cell (by first | (simp; done) | ((repeat rw [World.cell?_alloc_lt _ _ _ (by simp <;> omega)]); simp; done) | (go_simp; done))
      have z_va : w.heap.size < w1.heap.size := World.block_lt_of_cell? _ _ va0
      have s_w1 : w.heap.size ≤ w1.heap.size := Xw1.size
      clear xw1
      rw [ha.out]
      go_wp2_with fail
      refine (areCells_c x _).mono ?_
      rintro e w' ⟨rfl, rfl⟩
      rw [hb.out]
      go_wp2_with fail
      go_ret
      exact ⟨by rw [hr.out] <;> rfl, Xw1.trans (by repeat (first | (with_reducible assumption) | (with_reducible refine Ext.setCell ?_ (by first | (simp; done) | (simp; omega) | omega) _) | (with_reducible apply Ext.alloc) | (with_reducible apply Ext.drew) | (with_reducible apply Ext.drewN) | (with_reducible exact Ext.refl _)))⟩
    · have hr : Hid (fitA b1 s1 t1 x = fitB b1 s1 t1 x) := Lib.hid (by unfold fitA; rw [ha, hb]; rfl)
      have hx : 0 ≤ x ∧ x ≤ 60 := by unfold inB at hb; exact of_decide_eq_true hb
      replace ha := Lib.hid ha
      replace hb := Lib.hid hb
      go_enter Try.func14, Try.ntmps14
      go_wp2_with fail
      refine (isView_c b1 _ _ s1 t1 _ l1 m1 (h1.ext (by repeat (first | (with_reducible assumption) | (with_reducible refine Ext.setCell ?_ (by first | (simp; done) | (simp; omega) | omega) _) | (with_reducible apply Ext.alloc) | (with_reducible apply Ext.drew) | (with_reducible apply Ext.drewN) | (with_reducible exact Ext.refl _)))) (k1.ext (by repeat (first | (with_reducible assumption) | (with_reducible refine Ext.setCell ?_ (by first | (simp; done) | (simp; omega) | omega) _) | (with_reducible apply Ext.alloc) | (with_reducible apply Ext.drew) | (with_reducible apply Ext.drewN) | (with_reducible exact Ext.refl _))))).mono ?_
      rintro e w1 ⟨rfl, xw1⟩
      have Lw1 : Ext w w1 := Ext.trans (by repeat (first | (with_reducible assumption) | (with_reducible refine Ext.setCell ?_ (by first | (simp; done) | (simp; omega) | omega) _) | (with_reducible apply Ext.alloc) | (with_reducible apply Ext.drew) | (with_reducible apply Ext.drewN) | (with_reducible exact Ext.refl _))) xw1
      have Xw1 : Ext w w1 := Lw1
      have va0 : w1.cell? ⟨w.heap.size, 0, none⟩ = some (.int .i64 b1) := xw1.cell (by first | (simp; done) | ((repeat rw [World.cell?_alloc_lt _ _ _ (by simp <;> omega)]); simp; done) | (go_simp; done))
      have va1 : w1.cell? ⟨w.heap.size, 1, none⟩ = some (.slice a1 s1.length cp1) := xw1.cell (by first | (simp; done) | ((repeat rw [World.cell?_alloc_lt _ _ _ (by simp <;> omega)]); simp; done) | (go_simp; done))
      have va2 : w1.cell? ⟨w.heap.size, 2, none⟩ = some (.slice a2 t1.length cp2) := xw1.cell (by first | (simp; done) | ((repeat rw [World.cell?_alloc_lt _ _ _ (by simp <;> omega)]); simp; done) | (go_simp; done))
      have z_va : w.heap.size < w1.heap.size := World.block_lt_of_cell? _ _ va0
      have s_w1 : w.heap.size ≤ w1.heap.size := Xw1.size
      clear xw1
      rw [ha.out]
      go_wp2_with fail
      refine (areCells_c x _).mono ?_
      rintro e w' ⟨rfl, rfl⟩
      rw [hb.out]
      go_wp2_with fail
      refine (fitsIn_c b1 _ _ s1 t1 x _ l1 m1 (h1.ext (Xw1.trans (by repeat (first | (with_reducible assumption) | (with_reducible refine Ext.setCell ?_ (by first | (simp; done) | (simp; omega) | omega) _) | (with_reducible apply Ext.alloc) | (with_reducible apply Ext.drew) | (with_reducible apply Ext.drewN) | (with_reducible exact Ext.refl _))))) (k1.ext (Xw1.trans (by repeat (first | (with_reducible assumption) | (with_reducible refine Ext.setCell ?_ (by first | (simp; done) | (simp; omega) | omega) _) | (with_reducible apply Ext.alloc) | (with_reducible apply Ext.drew) | (with_reducible apply Ext.drewN) | (with_reducible exact Ext.refl _))))) ha.out).mono ?_
      rintro e w2 ⟨rfl, xw2⟩
      have Lw2 : Ext w1 w2 := Ext.trans (by repeat (first | (with_reducible assumption) | (with_reducible refine Ext.setCell ?_ (by first | (simp; done) | (simp; omega) | omega) _) | (with_reducible apply Ext.alloc) | (with_reducible apply Ext.drew) | (with_reducible apply Ext.drewN) | (with_reducible exact Ext.refl _))) xw2
      have Xw2 : Ext w w2 := Xw1.trans Lw2
      replace va0 := Lw2.cell va0
      replace va1 := Lw2.cell va1
      replace va2 := Lw2.cell va2
      have z_va : w.heap.size < w2.heap.size := World.block_lt_of_cell? _ _ va0
      have s_w2 : w.heap.size ≤ w2.heap.size := Xw2.size
      clear xw2
      go_wp2_with fail
      go_ret
      exact ⟨by rw [hr.out] <;> rfl, Xw2.trans (by repeat (first | (with_reducible assumption) | (with_reducible refine Ext.setCell ?_ (by first | (simp; done) | (simp; omega) | omega) _) | (with_reducible apply Ext.alloc) | (with_reducible apply Ext.drew) | (with_reducible apply Ext.drewN) | (with_reducible exact Ext.refl _)))⟩

set_option maxHeartbeats 1600000 in
theorem specFitsIn_c (b1 : Int) (u1 v1 : Value) (s1 t1 : List Int) (x : Int) (w : World) (l1 m1 : Nat) (h1 : Ints w l1 u1 s1) (k1 : Ints w m1 v1 t1) :
    Calls Try.prog 15 #[.agg #[.int .i64 b1, u1, v1], .int .i64 x] w (fun e w' => e = .returned (.bool (fitA b1 s1 t1 x)) ∧ Ext w w') := by
  obtain ⟨a1, cp1, rfl⟩ := h1.form
  obtain ⟨a2, cp2, rfl⟩ := k1.form
  cases ha : viewB b1 s1 t1
  · have hr : Hid (fitA b1 s1 t1 x = false) := Lib.hid (by unfold fitA; rw [ha]; rfl)
    replace ha := Lib.hid ha
    go_enter Try.func15, Try.ntmps15
    go_wp2_with fail
    refine (validView_c b1 _ _ s1 t1 _ l1 m1 (h1.ext (by repeat (first | (with_reducible assumption) | (with_reducible refine Ext.setCell ?_ (by first | (simp; done) | (simp; omega) | omega) _) | (with_reducible apply Ext.alloc) | (with_reducible apply Ext.drew) | (with_reducible apply Ext.drewN) | (with_reducible exact Ext.refl _)))) (k1.ext (by repeat (first | (with_reducible assumption) | (with_reducible refine Ext.setCell ?_ (by first | (simp; done) | (simp; omega) | omega) _) | (with_reducible apply Ext.alloc) | (with_reducible apply Ext.drew) | (with_reducible apply Ext.drewN) | (with_reducible exact Ext.refl _))))).mono ?_
    rintro e w1 ⟨rfl, xw1⟩
    have Lw1 : Ext w w1 := Ext.trans (by repeat (first | (with_reducible assumption) | (with_reducible refine Ext.setCell ?_ (by first | (simp; done) | (simp; omega) | omega) _) | (with_reducible apply Ext.alloc) | (with_reducible apply Ext.drew) | (with_reducible apply Ext.drewN) | (with_reducible exact Ext.refl _))) xw1
    have Xw1 : Ext w w1 := Lw1
    have va0 : w1.cell? ⟨w.heap.size, 0, none⟩ = some (.int .i64 b1) := xw1.cell (by first | (simp; done) | ((repeat rw [World.cell?_alloc_lt _ _ _ (by simp <;> omega)]); simp; done) | (go_simp; done))
    have va1 : w1.cell? ⟨w.heap.size, 1, none⟩ = some (.slice a1 s1.length cp1) := xw1.cell (by first | (simp; done) | ((repeat rw [World.cell?_alloc_lt _ _ _ (by simp <;> omega)]); simp; done) | (go_simp; done))
    have va2 : w1.cell? ⟨w.heap.size, 2, none⟩ = some (.slice a2 t1.length cp2) := xw1.cell (by first | (simp; done) | ((repeat rw [World.cell?_alloc_lt _ _ _ (by simp <;> omega)]); simp; done) | (go_simp; done))
    have z_va : w.heap.size < w1.heap.size := World.block_lt_of_cell? _ _ va0
    have s_w1 : w.heap.size ≤ w1.heap.size := Xw1.size
    clear xw1
    rw [ha.out]
    go_wp2_with fail
    go_ret
    exact ⟨by rw [hr.out] <;> rfl, Xw1.trans (by repeat (first | (with_reducible assumption) | (with_reducible refine Ext.setCell ?_ (by first | (simp; done) | (simp; omega) | omega) _) | (with_reducible apply Ext.alloc) | (with_reducible apply Ext.drew) | (with_reducible apply Ext.drewN) | (with_reducible exact Ext.refl _)))⟩
  · cases hb : inB 0 60 x
    · have hr : Hid (fitA b1 s1 t1 x = false) := Lib.hid (by unfold fitA; rw [ha, hb]; rfl)
      replace ha := Lib.hid ha
      replace hb := Lib.hid hb
      go_enter Try.func15, Try.ntmps15
      go_wp2_with fail
      refine (validView_c b1 _ _ s1 t1 _ l1 m1 (h1.ext (by repeat (first | (with_reducible assumption) | (with_reducible refine Ext.setCell ?_ (by first | (simp; done) | (simp; omega) | omega) _) | (with_reducible apply Ext.alloc) | (with_reducible apply Ext.drew) | (with_reducible apply Ext.drewN) | (with_reducible exact Ext.refl _)))) (k1.ext (by repeat (first | (with_reducible assumption) | (with_reducible refine Ext.setCell ?_ (by first | (simp; done) | (simp; omega) | omega) _) | (with_reducible apply Ext.alloc) | (with_reducible apply Ext.drew) | (with_reducible apply Ext.drewN) | (with_reducible exact Ext.refl _))))).mono ?_
      rintro e w1 ⟨rfl, xw1⟩
      have Lw1 : Ext w w1 := Ext.trans (by repeat (first | (with_reducible assumption) | (with_reducible refine Ext.setCell ?_ (by first | (simp; done) | (simp; omega) | omega) _) | (with_reducible apply Ext.alloc) | (with_reducible apply Ext.drew) | (with_reducible apply Ext.drewN) | (with_reducible exact Ext.refl _))) xw1
      have Xw1 : Ext w w1 := Lw1
      have va0 : w1.cell? ⟨w.heap.size, 0, none⟩ = some (.int .i64 b1) := xw1.cell (by first | (simp; done) | ((repeat rw [World.cell?_alloc_lt _ _ _ (by simp <;> omega)]); simp; done) | (go_simp; done))
      have va1 : w1.cell? ⟨w.heap.size, 1, none⟩ = some (.slice a1 s1.length cp1) := xw1.cell (by first | (simp; done) | ((repeat rw [World.cell?_alloc_lt _ _ _ (by simp <;> omega)]); simp; done) | (go_simp; done))
      have va2 : w1.cell? ⟨w.heap.size, 2, none⟩ = some (.slice a2 t1.length cp2) := xw1.cell (by first | (simp; done) | ((repeat rw [World.cell?_alloc_lt _ _ _ (by simp <;> omega)]); simp; done) | (go_simp; done))
      have z_va : w.heap.size < w1.heap.size := World.block_lt_of_cell? _ _ va0
      have s_w1 : w.heap.size ≤ w1.heap.size := Xw1.size
      clear xw1
      rw [ha.out]
      go_wp2_with fail
      refine (inRange_c x 0 60 _).mono ?_
      rintro e w' ⟨rfl, rfl⟩
      rw [hb.out]
      go_wp2_with fail
      go_ret
      exact ⟨by rw [hr.out] <;> rfl, Xw1.trans (by repeat (first | (with_reducible assumption) | (with_reducible refine Ext.setCell ?_ (by first | (simp; done) | (simp; omega) | omega) _) | (with_reducible apply Ext.alloc) | (with_reducible apply Ext.drew) | (with_reducible apply Ext.drewN) | (with_reducible exact Ext.refl _)))⟩
    · have hr : Hid (fitA b1 s1 t1 x = fitB b1 s1 t1 x) := Lib.hid (by unfold fitA; rw [ha, hb]; rfl)
      have hx : 0 ≤ x ∧ x ≤ 60 := by unfold inB at hb; exact of_decide_eq_true hb
      replace ha := Lib.hid ha
      replace hb := Lib.hid hb
      go_enter Try.func15, Try.ntmps15
      go_wp2_with fail
      refine (validView_c b1 _ _ s1 t1 _ l1 m1 (h1.ext (by repeat (first | (with_reducible assumption) | (with_reducible refine Ext.setCell ?_ (by first | (simp; done) | (simp; omega) | omega) _) | (with_reducible apply Ext.alloc) | (with_reducible apply Ext.drew) | (with_reducible apply Ext.drewN) | (with_reducible exact Ext.refl _)))) (k1.ext (by repeat (first | (with_reducible assumption) | (with_reducible refine Ext.setCell ?_ (by first | (simp; done) | (simp; omega) | omega) _) | (with_reducible apply Ext.alloc) | (with_reducible apply Ext.drew) | (with_reducible apply Ext.drewN) | (with_reducible exact Ext.refl _))))).mono ?_
      rintro e w1 ⟨rfl, xw1⟩
      have Lw1 : Ext w w1 := Ext.trans (by repeat (first | (with_reducible assumption) | (with_reducible refine Ext.setCell ?_ (by first | (simp; done) | (simp; omega) | omega) _) | (with_reducible apply Ext.alloc) | (with_reducible apply Ext.drew) | (with_reducible apply Ext.drewN) | (with_reducible exact Ext.refl _))) xw1
      have Xw1 : Ext w w1 := Lw1
      have va0 : w1.cell? ⟨w.heap.size, 0, none⟩ = some (.int .i64 b1) := xw1.cell (by first | (simp; done) | ((repeat rw [World.cell?_alloc_lt _ _ _ (by simp <;> omega)]); simp; done) | (go_simp; done))
      have va1 : w1.cell? ⟨w.heap.size, 1, none⟩ = some (.slice a1 s1.length cp1) := xw1.cell (by first | (simp; done) | ((repeat rw [World.cell?_alloc_lt _ _ _ (by simp <;> omega)]); simp; done) | (go_simp; done))
      have va2 : w1.cell? ⟨w.heap.size, 2, none⟩ = some (.slice a2 t1.length cp2) := xw1.cell (by first | (simp; done) | ((repeat rw [World.cell?_alloc_lt _ _ _ (by simp <;> omega)]); simp; done) | (go_simp; done))
      have z_va : w.heap.size < w1.heap.size := World.block_lt_of_cell? _ _ va0
      have s_w1 : w.heap.size ≤ w1.heap.size := Xw1.size
      clear xw1
      rw [ha.out]
      go_wp2_with fail
      refine (inRange_c x 0 60 _).mono ?_
      rintro e w' ⟨rfl, rfl⟩
      rw [hb.out]
      go_wp2_with fail
      refine (fits_c b1 _ _ s1 t1 x _ l1 m1 (h1.ext (Xw1.trans (by repeat (first | (with_reducible assumption) | (with_reducible refine Ext.setCell ?_ (by first | (simp; done) | (simp; omega) | omega) _) | (with_reducible apply Ext.alloc) | (with_reducible apply Ext.drew) | (with_reducible apply Ext.drewN) | (with_reducible exact Ext.refl _))))) (k1.ext (Xw1.trans (by repeat (first | (with_reducible assumption) | (with_reducible refine Ext.setCell ?_ (by first | (simp; done) | (simp; omega) | omega) _) | (with_reducible apply Ext.alloc) | (with_reducible apply Ext.drew) | (with_reducible apply Ext.drewN) | (with_reducible exact Ext.refl _))))) ha.out (by omega) (by omega)).mono ?_
      rintro e w2 ⟨rfl, xw2⟩
      have Lw2 : Ext w1 w2 := Ext.trans (by repeat (first | (with_reducible assumption) | (with_reducible refine Ext.setCell ?_ (by first | (simp; done) | (simp; omega) | omega) _) | (with_reducible apply Ext.alloc) | (with_reducible apply Ext.drew) | (with_reducible apply Ext.drewN) | (with_reducible exact Ext.refl _))) xw2
      have Xw2 : Ext w w2 := Xw1.trans Lw2
      replace va0 := Lw2.cell va0
      replace va1 := Lw2.cell va1
      replace va2 := Lw2.cell va2
      have z_va : w.heap.size < w2.heap.size := World.block_lt_of_cell? _ _ va0
      have s_w2 : w.heap.size ≤ w2.heap.size := Xw2.size
      clear xw2
      go_wp2_with fail
      go_ret
      exact ⟨by rw [hr.out] <;> rfl, Xw2.trans (by repeat (first | (with_reducible assumption) | (with_reducible refine Ext.setCell ?_ (by first | (simp; done) | (simp; omega) | omega) _) | (with_reducible apply Ext.alloc) | (with_reducible apply Ext.drew) | (with_reducible apply Ext.drewN) | (with_reducible exact Ext.refl _)))⟩

def bndT (b : Int) (s t : List Int) : Int × Int := if viewB b s t && !(countL s == 0) then (minL (offsL b s t), maxL (offsL b s t)) else (-1, -1)
set_option maxHeartbeats 1600000 in
theorem implBoundsOf_c (b1 : Int) (u1 v1 : Value) (s1 t1 : List Int) (w : World) (l1 m1 : Nat) (h1 : Ints w l1 u1 s1) (k1 : Ints w m1 v1 t1) :
    Calls Try.prog 17 #[.agg #[.int .i64 b1, u1, v1]] w (fun e w' => e = .returned (.tuple #[.int .i64 (bndT b1 s1 t1).1, .int .i64 (bndT b1 s1 t1).2]) ∧ Ext w w') := by
  obtain ⟨a1, cp1, rfl⟩ := h1.form
  obtain ⟨a2, cp2, rfl⟩ := k1.form
  cases ha : viewB b1 s1 t1
  · have hr : Hid (bndT b1 s1 t1 = (-1, -1)) := Lib.hid (by unfold bndT; rw [ha]; rfl)
    replace ha := Lib.hid ha
    go_enter Try.func17, Try.ntmps17
    go_wp2_with fail
    refine (isView_c b1 _ _ s1 t1 _ l1 m1 (h1.ext (by repeat (first | (with_reducible assumption) | (with_reducible refine Ext.setCell ?_ (by first | (simp; done) | (simp; omega) | omega) _) | (with_reducible apply Ext.alloc) | (with_reducible apply Ext.drew) | (with_reducible apply Ext.drewN) | (with_reducible exact Ext.refl _)))) (k1.ext (by repeat (first | (with_reducible assumption) | (with_reducible refine Ext.setCell ?_ (by first | (simp; done) | (simp; omega) | omega) _) | (with_reducible apply Ext.alloc) | (with_reducible apply Ext.drew) | (with_reducible apply Ext.drewN) | (with_reducible exact Ext.refl _))))).mono ?_
    rintro e w1 ⟨rfl, xw1⟩
    have Lw1 : Ext w w1 := Ext.trans (by repeat (first | (with_reducible assumption) | (with_reducible refine Ext.setCell ?_ (by first | (simp; done) | (simp; omega) | omega) _) | (with_reducible apply Ext.alloc) | (with_reducible apply Ext.drew) | (with_reducible apply Ext.drewN) | (with_reducible exact Ext.refl _))) xw1
    have Xw1 : Ext w w1 := Lw1
    have va0 : w1.cell? ⟨w.heap.size, 0, none⟩ = some (.int .i64 b1) := xw1.cell (by first | (simp; done) | ((repeat rw [World.cell?_alloc_lt _ _ _ (by simp <;> omega)]); simp; done) | (go_simp; done))
    have va1 : w1.cell? ⟨w.heap.size, 1, none⟩ = some (.slice a1 s1.length cp1) := xw1.cell (by first | (simp; done) | ((repeat rw [World.cell?_alloc_lt _ _ _ (by simp <;> omega)]); simp; done) | (go_simp; done))
    have va2 : w1.cell? ⟨w.heap.size, 2, none⟩ = some (.slice a2 t1.length cp2) := xw1.cell (by first | (simp; done) | ((repeat rw [World.cell?_alloc_lt _ _ _ (by simp <;> omega)]); simp; done) | (go_simp; done))
    have z_va : w.heap.size < w1.heap.size := World.block_lt_of_cell? _ _ va0
    have s_w1 : w.heap.size ≤ w1.heap.size := Xw1.size
    clear xw1
    rw [ha.out]
    go_wp2_with fail
    go_ret2
    rw [hr.out]
    exact ⟨rfl, Xw1.trans (by repeat (first | (with_reducible assumption) | (with_reducible refine Ext.setCell ?_ (by first | (simp; done) | (simp; omega) | omega) _) | (with_reducible apply Ext.alloc) | (with_reducible apply Ext.drew) | (with_reducible apply Ext.drewN) | (with_reducible exact Ext.refl _)))⟩
  · cases hz : (countL s1 == 0)
    · have hr : Hid (bndT b1 s1 t1 = (minL (offsL b1 s1 t1), maxL (offsL b1 s1 t1))) := Lib.hid (by unfold bndT; rw [ha, hz]; rfl)
      obtain ⟨j1, j2, -⟩ := viewB_in ha
      have hin := Lib.hid (shapeB_in j1)
      have hj2 := Lib.hid j2
      have hne : Hid (offsL b1 s1 t1 ≠ []) := Lib.hid (min_lo ha (by simpa using hz)).2.2
      clear j1 j2
      replace ha := Lib.hid ha
      go_enter Try.func17, Try.ntmps17
      go_wp2_with fail
      refine (isView_c b1 _ _ s1 t1 _ l1 m1 (h1.ext (by repeat (first | (with_reducible assumption) | (with_reducible refine Ext.setCell ?_ (by first | (simp; done) | (simp; omega) | omega) _) | (with_reducible apply Ext.alloc) | (with_reducible apply Ext.drew) | (with_reducible apply Ext.drewN) | (with_reducible exact Ext.refl _)))) (k1.ext (by repeat (first | (with_reducible assumption) | (with_reducible refine Ext.setCell ?_ (by first | (simp; done) | (simp; omega) | omega) _) | (with_reducible apply Ext.alloc) | (with_reducible apply Ext.drew) | (with_reducible apply Ext.drewN) | (with_reducible exact Ext.refl _))))).mono ?_
      rintro e w1 ⟨rfl, xw1⟩
      have Lw1 : Ext w w1 := Ext.trans (by repeat (first | (with_reducible assumption) | (with_reducible refine Ext.setCell ?_ (by first | (simp; done) | (simp; omega) | omega) _) | (with_reducible apply Ext.alloc) | (with_reducible apply Ext.drew) | (with_reducible apply Ext.drewN) | (with_reducible exact Ext.refl _))) xw1
      have Xw1 : Ext w w1 := Lw1
      have va0 : w1.cell? ⟨w.heap.size, 0, none⟩ = some (.int .i64 b1) := xw1.cell (by first | (simp; done) | ((repeat rw [World.cell?_alloc_lt _ _ _ (by simp <;> omega)]); simp; done) | (go_simp; done))
      have va1 : w1.cell? ⟨w.heap.size, 1, none⟩ = some (.slice a1 s1.length cp1) := xw1.cell (by first | (simp; done) | ((repeat rw [World.cell?_alloc_lt _ _ _ (by simp <;> omega)]); simp; done) | (go_simp; done))
      have va2 : w1.cell? ⟨w.heap.size, 2, none⟩ = some (.slice a2 t1.length cp2) := xw1.cell (by first | (simp; done) | ((repeat rw [World.cell?_alloc_lt _ _ _ (by simp <;> omega)]); simp; done) | (go_simp; done))
      have z_va : w.heap.size < w1.heap.size := World.block_lt_of_cell? _ _ va0
      have s_w1 : w.heap.size ≤ w1.heap.size := Xw1.size
      clear xw1
      rw [ha.out]
      go_wp2_with fail
      refine (countOf_c s1 _ _ l1 (h1.ext (Xw1.trans (by repeat (first | (with_reducible assumption) | (with_reducible refine Ext.setCell ?_ (by first | (simp; done) | (simp; omega) | omega) _) | (with_reducible apply Ext.alloc) | (with_reducible apply Ext.drew) | (with_reducible apply Ext.drewN) | (with_reducible exact Ext.refl _)))))).mono ?_
      rintro e w' ⟨rfl, rfl⟩
      go_wp2_with fail
      refine (offsetsOf_c b1 _ _ s1 t1 _ l1 m1 (h1.ext (Xw1.trans (by repeat (first | (with_reducible assumption) | (with_reducible refine Ext.setCell ?_ (by first | (simp; done) | (simp; omega) | omega) _) | (with_reducible apply Ext.alloc) | (with_reducible apply Ext.drew) | (with_reducible apply Ext.drewN) | (with_reducible exact Ext.refl _))))) (k1.ext (Xw1.trans (by repeat (first | (with_reducible assumption) | (with_reducible refine Ext.setCell ?_ (by first | (simp; done) | (simp; omega) | omega) _) | (with_reducible apply Ext.alloc) | (with_reducible apply Ext.drew) | (with_reducible apply Ext.drewN) | (with_reducible exact Ext.refl _))))) (by have := hj2.out; omega) hin.out.2.2.2.2 (by have := hin.out; omega)).mono ?_
      rintro e w2 ⟨r, rfl, i, -, xw2⟩
      have Lw2 : Ext w1 w2 := Ext.trans (by repeat (first | (with_reducible assumption) | (with_reducible refine Ext.setCell ?_ (by first | (simp; done) | (simp; omega) | omega) _) | (with_reducible apply Ext.alloc) | (with_reducible apply Ext.drew) | (with_reducible apply Ext.drewN) | (with_reducible exact Ext.refl _))) xw2
      have Xw2 : Ext w w2 := Xw1.trans Lw2
      replace va0 := Lw2.cell va0
      replace va1 := Lw2.cell va1
      replace va2 := Lw2.cell va2
      have z_va : w.heap.size < w2.heap.size := World.block_lt_of_cell? _ _ va0
      have s_w2 : w.heap.size ≤ w2.heap.size := Xw2.size
      clear xw2
      go_wp2_with fail
      refine (min_c _ _ _ _ i hne.out).mono ?_
      rintro e w' ⟨rfl, rfl⟩
      go_wp2_with fail
      refine (max_c _ _ _ _ i hne.out).mono ?_
      rintro e w' ⟨rfl, rfl⟩
      go_wp2_with fail
      go_ret2
      rw [hr.out]
      exact ⟨rfl, Xw2.trans (by repeat (first | (with_reducible assumption) | (with_reducible refine Ext.setCell ?_ (by first | (simp; done) | (simp; omega) | omega) _) | (with_reducible apply Ext.alloc) | (with_reducible apply Ext.drew) | (with_reducible apply Ext.drewN) | (with_reducible exact Ext.refl _)))⟩
    · have hr : Hid (bndT b1 s1 t1 = (-1, -1)) := Lib.hid (by unfold bndT; rw [ha, hz]; rfl)
      replace ha := Lib.hid ha
      go_enter Try.func17, Try.ntmps17
      go_wp2_with fail
      refine (isView_c b1 _ _ s1 t1 _ l1 m1 (h1.ext (by repeat (first | (with_reducible assumption) | (with_reducible refine Ext.setCell ?_ (by first | (simp; done) | (simp; omega) | omega) _) | (with_reducible apply Ext.alloc) | (with_reducible apply Ext.drew) | (with_reducible apply Ext.drewN) | (with_reducible exact Ext.refl _)))) (k1.ext (by repeat (first | (with_reducible assumption) | (with_reducible refine Ext.setCell ?_ (by first | (simp; done) | (simp; omega) | omega) _) | (with_reducible apply Ext.alloc) | (with_reducible apply Ext.drew) | (with_reducible apply Ext.drewN) | (with_reducible exact Ext.refl _))))).mono ?_
      rintro e w1 ⟨rfl, xw1⟩
      have Lw1 : Ext w w1 := Ext.trans (by repeat (first | (with_reducible assumption) | (with_reducible refine Ext.setCell ?_ (by first | (simp; done) | (simp; omega) | omega) _) | (with_reducible apply Ext.alloc) | (with_reducible apply Ext.drew) | (with_reducible apply Ext.drewN) | (with_reducible exact Ext.refl _))) xw1
      have Xw1 : Ext w w1 := Lw1
      have va0 : w1.cell? ⟨w.heap.size, 0, none⟩ = some (.int .i64 b1) := xw1.cell (by first | (simp; done) | ((repeat rw [World.cell?_alloc_lt _ _ _ (by simp <;> omega)]); simp; done) | (go_simp; done))
      have va1 : w1.cell? ⟨w.heap.size, 1, none⟩ = some (.slice a1 s1.length cp1) := xw1.cell (by first | (simp; done) | ((repeat rw [World.cell?_alloc_lt _ _ _ (by simp <;> omega)]); simp; done) | (go_simp; done))
      have va2 : w1.cell? ⟨w.heap.size, 2, none⟩ = some (.slice a2 t1.length cp2) := xw1.cell (by first | (simp; done) | ((repeat rw [World.cell?_alloc_lt _ _ _ (by simp <;> omega)]); simp; done) | (go_simp; done))
      have z_va : w.heap.size < w1.heap.size := World.block_lt_of_cell? _ _ va0
      have s_w1 : w.heap.size ≤ w1.heap.size := Xw1.size
      clear xw1
      rw [ha.out]
      go_wp2_with fail
      refine (countOf_c s1 _ _ l1 (h1.ext (Xw1.trans (by repeat (first | (with_reducible assumption) | (with_reducible refine Ext.setCell ?_ (by first | (simp; done) | (simp; omega) | omega) _) | (with_reducible apply Ext.alloc) | (with_reducible apply Ext.drew) | (with_reducible apply Ext.drewN) | (with_reducible exact Ext.refl _)))))).mono ?_
      rintro e w' ⟨rfl, rfl⟩
      go_wp2_with fail
      go_ret2
      rw [hr.out]
      exact ⟨rfl, Xw1.trans (by repeat (first | (with_reducible assumption) | (with_reducible refine Ext.setCell ?_ (by first | (simp; done) | (simp; omega) | omega) _) | (with_reducible apply Ext.alloc) | (with_reducible apply Ext.drew) | (with_reducible apply Ext.drewN) | (with_reducible exact Ext.refl _)))⟩


end Go.Proofs.Ytnjaidgifccgjaa

/- FnFitsIn returns true for all bytes: no condition. -/
namespace Go.Proofs.Ytnjaidgifccgjaa
open Go.RowKit
set_option linter.unusedVariables false
set_option maxRecDepth 100000


theorem fit_bnd {b : Int} {s t : List Int} {x : Int} (h : viewB b s t = true) (hx : 0 ≤ x ∧ x ≤ 60) : (fitA b s t x = true → (bndT b s t).2 < x) ∧ (fitA b s t x = false → ¬ (bndT b s t).2 < x) := by
  have e1 : fitA b s t x = fitB b s t x := by unfold fitA; rw [h, show inB 0 60 x = true by unfold inB; exact decide_eq_true hx]; rfl
  rw [e1]
  unfold bndT fitB
  rw [h]
  by_cases hz : countL s = 0
  · rw [show (countL s == 0) = true by simpa using hz, offsL_zero hz]
    simp; omega
  · rw [show (countL s == 0) = false by simpa using hz]
    obtain ⟨_, _, hne⟩ := min_lo h hz
    obtain ⟨a1, a2⟩ := maxL_spec hne
    simp only [Bool.not_false, Bool.and_self, if_true]
    constructor
    · intro hh; rw [List.all_eq_true] at hh; have := hh _ a1; simpa using this
    · intro hh hlt
      have : (offsL b s t).all (fun y => decide (y < x)) = true := by rw [List.all_eq_true]; intro y hy; have := a2 y hy; simp; omega
      rw [this] at hh; cases hh

set_option maxHeartbeats 3200000 in
theorem lawFnFitsIn_c (a : Option Addr) (n cap : Nat) (w : World) (hb : BysIn w a n cap) :
    Calls Try.prog 3 #[.slice a n cap] w fun e w' => e = .returned (.bool true) ∧ Ext w w' := by
  have hcm := hb.1
  have hcm2 := hb.2.1
  unfold maxLen at hcm2
  by_cases hbig : 1048576 < n
  · have hI : (1048576 : Int) < n := by omega
    go_enter Try.func3, Try.ntmps3
    go_wp2_with fail
    go_ret
    exact ⟨rfl, (by repeat (first | exact Ext.refl _ | assumption | apply Ext.drewN | apply Ext.drew | apply Ext.alloc))⟩
  have hI : ¬ (1048576 : Int) < n := by omega
  go_enter Try.func3, Try.ntmps3
  go_wp2_with fail
  refine (drawFitsIn_c a n cap _ hb).mono ?_
  rintro e w1 ⟨b, s, t, p1, p2, n1, r1, n2, r2, x, rfl, hx, i1, i2, l1, l2, X1⟩
  clear hb hI hbig
  have hsp : Hid (∀ W, Ext w1 W → Calls Try.prog 15 #[.agg #[.int .i64 b, .slice p1 n1 r1, .slice p2 n2 r2], .int .i64 x] W (fun e w' => e = .returned (.bool (fitA b s t x)) ∧ Ext W w')) := Lib.hid (fun W hW => specFitsIn_c b _ _ s t x W _ _ (i1.ext hW) (i2.ext hW))
  have hip : Hid (∀ W, Ext w1 W → Calls Try.prog 14 #[.agg #[.int .i64 b, .slice p1 n1 r1, .slice p2 n2 r2], .int .i64 x] W (fun e w' => e = .returned (.bool (fitA b s t x)) ∧ Ext W w')) := Lib.hid (fun W hW => implFitsIn_c b _ _ s t x W _ _ (i1.ext hW) (i2.ext hW))
  have hvp : Hid (∀ W, Ext w1 W → Calls Try.prog 16 #[.agg #[.int .i64 b, .slice p1 n1 r1, .slice p2 n2 r2]] W (fun e w' => e = .returned (.bool (viewB b s t)) ∧ Ext W w')) := Lib.hid (fun W hW => implValidView_c b _ _ s t W _ _ (i1.ext hW) (i2.ext hW))
  have hbp : Hid (∀ W, Ext w1 W → Calls Try.prog 17 #[.agg #[.int .i64 b, .slice p1 n1 r1, .slice p2 n2 r2]] W (fun e w' => e = .returned (.tuple #[.int .i64 (bndT b s t).1, .int .i64 (bndT b s t).2]) ∧ Ext W w')) := Lib.hid (fun W hW => implBoundsOf_c b _ _ s t W _ _ (i1.ext hW) (i2.ext hW))
  have hpu := Lib.hid (fun h k => fit_bnd (b := b) (s := s) (t := t) (x := x) h k)
  clear i1 i2
  generalize fitA b s t x = q at *
  generalize viewB b s t = vb at *
  generalize (bndT b s t).1 = lo at *
  generalize (bndT b s t).2 = hi at *
  cases vb
  · clear hpu
    cases q
    · have Z1 : Ext w1 w1 := Ext.refl _
      go_wp2_with fail
      refine (hip.out _ (Z1.trans (by repeat (first | (with_reducible assumption) | (with_reducible refine Ext.setCell ?_ (by first | (simp; done) | (simp; omega) | omega) _) | (with_reducible apply Ext.alloc) | (with_reducible apply Ext.drew) | (with_reducible apply Ext.drewN) | (with_reducible exact Ext.refl _))))).mono ?_
      rintro e w2 ⟨rfl, xw2⟩
      have Lw2 : Ext w1 w2 := Ext.trans (by repeat (first | (with_reducible assumption) | (with_reducible refine Ext.setCell ?_ (by first | (simp; done) | (simp; omega) | omega) _) | (with_reducible apply Ext.alloc) | (with_reducible apply Ext.drew) | (with_reducible apply Ext.drewN) | (with_reducible exact Ext.refl _))) xw2
      have Xw2 : Ext w w2 := X1.trans Lw2
      have va0 : w2.cell? ⟨w1.heap.size, 0, none⟩ = some (.int .i64 b) := xw2.cell (by first | (simp; done) | ((repeat rw [World.cell?_alloc_lt _ _ _ (by simp <;> omega)]); simp; done) | (go_simp; done))
      have va1 : w2.cell? ⟨w1.heap.size, 1, none⟩ = some (.slice p1 n1 r1) := xw2.cell (by first | (simp; done) | ((repeat rw [World.cell?_alloc_lt _ _ _ (by simp <;> omega)]); simp; done) | (go_simp; done))
      have va2 : w2.cell? ⟨w1.heap.size, 2, none⟩ = some (.slice p2 n2 r2) := xw2.cell (by first | (simp; done) | ((repeat rw [World.cell?_alloc_lt _ _ _ (by simp <;> omega)]); simp; done) | (go_simp; done))
      have z_va : w1.heap.size < w2.heap.size := World.block_lt_of_cell? _ _ va0
      have s_w2 : w.heap.size ≤ w2.heap.size := Xw2.size
      clear xw2
      have Z2 : Ext w1 w2 := Z1.trans Lw2
      go_wp2_with fail
      refine (hsp.out _ (Z2.trans (by repeat (first | (with_reducible assumption) | (with_reducible refine Ext.setCell ?_ (by first | (simp; done) | (simp; omega) | omega) _) | (with_reducible apply Ext.alloc) | (with_reducible apply Ext.drew) | (with_reducible apply Ext.drewN) | (with_reducible exact Ext.refl _))))).mono ?_
      rintro e w3 ⟨rfl, xw3⟩
      have Lw3 : Ext w2 w3 := Ext.trans (by repeat (first | (with_reducible assumption) | (with_reducible refine Ext.setCell ?_ (by first | (simp; done) | (simp; omega) | omega) _) | (with_reducible apply Ext.alloc) | (with_reducible apply Ext.drew) | (with_reducible apply Ext.drewN) | (with_reducible exact Ext.refl _))) xw3
      have Xw3 : Ext w w3 := Xw2.trans Lw3
      replace va0 := Lw3.cell va0
      replace va1 := Lw3.cell va1
      replace va2 := Lw3.cell va2
      have z_va : w1.heap.size < w3.heap.size := World.block_lt_of_cell? _ _ va0
      have s_w3 : w.heap.size ≤ w3.heap.size := Xw3.size
      clear xw3
      have Z3 : Ext w1 w3 := Z2.trans Lw3
      go_wp2_with fail
      refine (hvp.out _ (Z3.trans (by repeat (first | (with_reducible assumption) | (with_reducible refine Ext.setCell ?_ (by first | (simp; done) | (simp; omega) | omega) _) | (with_reducible apply Ext.alloc) | (with_reducible apply Ext.drew) | (with_reducible apply Ext.drewN) | (with_reducible exact Ext.refl _))))).mono ?_
      rintro e w4 ⟨rfl, xw4⟩
      have Lw4 : Ext w3 w4 := Ext.trans (by repeat (first | (with_reducible assumption) | (with_reducible refine Ext.setCell ?_ (by first | (simp; done) | (simp; omega) | omega) _) | (with_reducible apply Ext.alloc) | (with_reducible apply Ext.drew) | (with_reducible apply Ext.drewN) | (with_reducible exact Ext.refl _))) xw4
      have Xw4 : Ext w w4 := Xw3.trans Lw4
      replace va0 := Lw4.cell va0
      replace va1 := Lw4.cell va1
      replace va2 := Lw4.cell va2
      have z_va : w1.heap.size < w4.heap.size := World.block_lt_of_cell? _ _ va0
      have s_w4 : w.heap.size ≤ w4.heap.size := Xw4.size
      clear xw4
      have Z4 : Ext w1 w4 := Z3.trans Lw4
      go_wp2_with fail
      refine (hsp.out _ (Z4.trans (by repeat (first | (with_reducible assumption) | (with_reducible refine Ext.setCell ?_ (by first | (simp; done) | (simp; omega) | omega) _) | (with_reducible apply Ext.alloc) | (with_reducible apply Ext.drew) | (with_reducible apply Ext.drewN) | (with_reducible exact Ext.refl _))))).mono ?_
      rintro e w5 ⟨rfl, xw5⟩
      have Lw5 : Ext w4 w5 := Ext.trans (by repeat (first | (with_reducible assumption) | (with_reducible refine Ext.setCell ?_ (by first | (simp; done) | (simp; omega) | omega) _) | (with_reducible apply Ext.alloc) | (with_reducible apply Ext.drew) | (with_reducible apply Ext.drewN) | (with_reducible exact Ext.refl _))) xw5
      have Xw5 : Ext w w5 := Xw4.trans Lw5
      replace va0 := Lw5.cell va0
      replace va1 := Lw5.cell va1
      replace va2 := Lw5.cell va2
      have z_va : w1.heap.size < w5.heap.size := World.block_lt_of_cell? _ _ va0
      have s_w5 : w.heap.size ≤ w5.heap.size := Xw5.size
      clear xw5
      have Z5 : Ext w1 w5 := Z4.trans Lw5
      go_wp2_with fail
      go_ret
      exact ⟨by first | rfl | exact ret_b (by simp [hlt]) | exact ret_b (by simpa using hlt), Xw5.trans (by repeat (first | (with_reducible assumption) | (with_reducible refine Ext.setCell ?_ (by first | (simp; done) | (simp; omega) | omega) _) | (with_reducible apply Ext.alloc) | (with_reducible apply Ext.drew) | (with_reducible apply Ext.drewN) | (with_reducible exact Ext.refl _)))⟩
    · have Z1 : Ext w1 w1 := Ext.refl _
      go_wp2_with fail
      refine (hip.out _ (Z1.trans (by repeat (first | (with_reducible assumption) | (with_reducible refine Ext.setCell ?_ (by first | (simp; done) | (simp; omega) | omega) _) | (with_reducible apply Ext.alloc) | (with_reducible apply Ext.drew) | (with_reducible apply Ext.drewN) | (with_reducible exact Ext.refl _))))).mono ?_
      rintro e w2 ⟨rfl, xw2⟩
      have Lw2 : Ext w1 w2 := Ext.trans (by repeat (first | (with_reducible assumption) | (with_reducible refine Ext.setCell ?_ (by first | (simp; done) | (simp; omega) | omega) _) | (with_reducible apply Ext.alloc) | (with_reducible apply Ext.drew) | (with_reducible apply Ext.drewN) | (with_reducible exact Ext.refl _))) xw2
      have Xw2 : Ext w w2 := X1.trans Lw2
      have va0 : w2.cell? ⟨w1.heap.size, 0, none⟩ = some (.int .i64 b) := xw2.cell (by first | (simp; done) | ((repeat rw [World.cell?_alloc_lt _ _ _ (by simp <;> omega)]); simp; done) | (go_simp; done))
      have va1 : w2.cell? ⟨w1.heap.size, 1, none⟩ = some (.slice p1 n1 r1) := xw2.cell (by first | (simp; done) | ((repeat rw [World.cell?_alloc_lt _ _ _ (by simp <;> omega)]); simp; done) | (go_simp; done))
      have va2 : w2.cell? ⟨w1.heap.size, 2, none⟩ = some (.slice p2 n2 r2) := xw2.cell (by first | (simp; done) | ((repeat rw [World.cell?_alloc_lt _ _ _ (by simp <;> omega)]); simp; done) | (go_simp; done))
      have z_va : w1.heap.size < w2.heap.size := World.block_lt_of_cell? _ _ va0
      have s_w2 : w.heap.size ≤ w2.heap.size := Xw2.size
      clear xw2
      have Z2 : Ext w1 w2 := Z1.trans Lw2
      go_wp2_with fail
      refine (hsp.out _ (Z2.trans (by repeat (first | (with_reducible assumption) | (with_reducible refine Ext.setCell ?_ (by first | (simp; done) | (simp; omega) | omega) _) | (with_reducible apply Ext.alloc) | (with_reducible apply Ext.drew) | (with_reducible apply Ext.drewN) | (with_reducible exact Ext.refl _))))).mono ?_
      rintro e w3 ⟨rfl, xw3⟩
      have Lw3 : Ext w2 w3 := Ext.trans (by repeat (first | (with_reducible assumption) | (with_reducible refine Ext.setCell ?_ (by first | (simp; done) | (simp; omega) | omega) _) | (with_reducible apply Ext.alloc) | (with_reducible apply Ext.drew) | (with_reducible apply Ext.drewN) | (with_reducible exact Ext.refl _))) xw3
      have Xw3 : Ext w w3 := Xw2.trans Lw3
      replace va0 := Lw3.cell va0
      replace va1 := Lw3.cell va1
      replace va2 := Lw3.cell va2
      have z_va : w1.heap.size < w3.heap.size := World.block_lt_of_cell? _ _ va0
      have s_w3 : w.heap.size ≤ w3.heap.size := Xw3.size
      clear xw3
      have Z3 : Ext w1 w3 := Z2.trans Lw3
      go_wp2_with fail
      refine (hvp.out _ (Z3.trans (by repeat (first | (with_reducible assumption) | (with_reducible refine Ext.setCell ?_ (by first | (simp; done) | (simp; omega) | omega) _) | (with_reducible apply Ext.alloc) | (with_reducible apply Ext.drew) | (with_reducible apply Ext.drewN) | (with_reducible exact Ext.refl _))))).mono ?_
      rintro e w4 ⟨rfl, xw4⟩
      have Lw4 : Ext w3 w4 := Ext.trans (by repeat (first | (with_reducible assumption) | (with_reducible refine Ext.setCell ?_ (by first | (simp; done) | (simp; omega) | omega) _) | (with_reducible apply Ext.alloc) | (with_reducible apply Ext.drew) | (with_reducible apply Ext.drewN) | (with_reducible exact Ext.refl _))) xw4
      have Xw4 : Ext w w4 := Xw3.trans Lw4
      replace va0 := Lw4.cell va0
      replace va1 := Lw4.cell va1
      replace va2 := Lw4.cell va2
      have z_va : w1.heap.size < w4.heap.size := World.block_lt_of_cell? _ _ va0
      have s_w4 : w.heap.size ≤ w4.heap.size := Xw4.size
      clear xw4
      have Z4 : Ext w1 w4 := Z3.trans Lw4
      go_wp2_with fail
      refine (hsp.out _ (Z4.trans (by repeat (first | (with_reducible assumption) | (with_reducible refine Ext.setCell ?_ (by first | (simp; done) | (simp; omega) | omega) _) | (with_reducible apply Ext.alloc) | (with_reducible apply Ext.drew) | (with_reducible apply Ext.drewN) | (with_reducible exact Ext.refl _))))).mono ?_
      rintro e w5 ⟨rfl, xw5⟩
      have Lw5 : Ext w4 w5 := Ext.trans (by repeat (first | (with_reducible assumption) | (with_reducible refine Ext.setCell ?_ (by first | (simp; done) | (simp; omega) | omega) _) | (with_reducible apply Ext.alloc) | (with_reducible apply Ext.drew) | (with_reducible apply Ext.drewN) | (with_reducible exact Ext.refl _))) xw5
      have Xw5 : Ext w w5 := Xw4.trans Lw5
      replace va0 := Lw5.cell va0
      replace va1 := Lw5.cell va1
      replace va2 := Lw5.cell va2
      have z_va : w1.heap.size < w5.heap.size := World.block_lt_of_cell? _ _ va0
      have s_w5 : w.heap.size ≤ w5.heap.size := Xw5.size
      clear xw5
      have Z5 : Ext w1 w5 := Z4.trans Lw5
      go_wp2_with fail
      go_ret
      exact ⟨by first | rfl | exact ret_b (by simp [hlt]) | exact ret_b (by simpa using hlt), Xw5.trans (by repeat (first | (with_reducible assumption) | (with_reducible refine Ext.setCell ?_ (by first | (simp; done) | (simp; omega) | omega) _) | (with_reducible apply Ext.alloc) | (with_reducible apply Ext.drew) | (with_reducible apply Ext.drewN) | (with_reducible exact Ext.refl _)))⟩
  · by_cases hx0 : x < 0
    · clear hpu
      cases q
      · have Z1 : Ext w1 w1 := Ext.refl _
        go_wp2_with fail
        refine (hip.out _ (Z1.trans (by repeat (first | (with_reducible assumption) | (with_reducible refine Ext.setCell ?_ (by first | (simp; done) | (simp; omega) | omega) _) | (with_reducible apply Ext.alloc) | (with_reducible apply Ext.drew) | (with_reducible apply Ext.drewN) | (with_reducible exact Ext.refl _))))).mono ?_
        rintro e w2 ⟨rfl, xw2⟩
        have Lw2 : Ext w1 w2 := Ext.trans (by repeat (first | (with_reducible assumption) | (with_reducible refine Ext.setCell ?_ (by first | (simp; done) | (simp; omega) | omega) _) | (with_reducible apply Ext.alloc) | (with_reducible apply Ext.drew) | (with_reducible apply Ext.drewN) | (with_reducible exact Ext.refl _))) xw2
        have Xw2 : Ext w w2 := X1.trans Lw2
        have va0 : w2.cell? ⟨w1.heap.size, 0, none⟩ = some (.int .i64 b) := xw2.cell (by first | (simp; done) | ((repeat rw [World.cell?_alloc_lt _ _ _ (by simp <;> omega)]); simp; done) | (go_simp; done))
        have va1 : w2.cell? ⟨w1.heap.size, 1, none⟩ = some (.slice p1 n1 r1) := xw2.cell (by first | (simp; done) | ((repeat rw [World.cell?_alloc_lt _ _ _ (by simp <;> omega)]); simp; done) | (go_simp; done))
        have va2 : w2.cell? ⟨w1.heap.size, 2, none⟩ = some (.slice p2 n2 r2) := xw2.cell (by first | (simp; done) | ((repeat rw [World.cell?_alloc_lt _ _ _ (by simp <;> omega)]); simp; done) | (go_simp; done))
        have z_va : w1.heap.size < w2.heap.size := World.block_lt_of_cell? _ _ va0
        have s_w2 : w.heap.size ≤ w2.heap.size := Xw2.size
        clear xw2
        have Z2 : Ext w1 w2 := Z1.trans Lw2
        go_wp2_with fail
        refine (hsp.out _ (Z2.trans (by repeat (first | (with_reducible assumption) | (with_reducible refine Ext.setCell ?_ (by first | (simp; done) | (simp; omega) | omega) _) | (with_reducible apply Ext.alloc) | (with_reducible apply Ext.drew) | (with_reducible apply Ext.drewN) | (with_reducible exact Ext.refl _))))).mono ?_
        rintro e w3 ⟨rfl, xw3⟩
        have Lw3 : Ext w2 w3 := Ext.trans (by repeat (first | (with_reducible assumption) | (with_reducible refine Ext.setCell ?_ (by first | (simp; done) | (simp; omega) | omega) _) | (with_reducible apply Ext.alloc) | (with_reducible apply Ext.drew) | (with_reducible apply Ext.drewN) | (with_reducible exact Ext.refl _))) xw3
        have Xw3 : Ext w w3 := Xw2.trans Lw3
        replace va0 := Lw3.cell va0
        replace va1 := Lw3.cell va1
        replace va2 := Lw3.cell va2
        have z_va : w1.heap.size < w3.heap.size := World.block_lt_of_cell? _ _ va0
        have s_w3 : w.heap.size ≤ w3.heap.size := Xw3.size
        clear xw3
        have Z3 : Ext w1 w3 := Z2.trans Lw3
        go_wp2_with fail
        refine (hvp.out _ (Z3.trans (by repeat (first | (with_reducible assumption) | (with_reducible refine Ext.setCell ?_ (by first | (simp; done) | (simp; omega) | omega) _) | (with_reducible apply Ext.alloc) | (with_reducible apply Ext.drew) | (with_reducible apply Ext.drewN) | (with_reducible exact Ext.refl _))))).mono ?_
        rintro e w4 ⟨rfl, xw4⟩
        have Lw4 : Ext w3 w4 := Ext.trans (by repeat (first | (with_reducible assumption) | (with_reducible refine Ext.setCell ?_ (by first | (simp; done) | (simp; omega) | omega) _) | (with_reducible apply Ext.alloc) | (with_reducible apply Ext.drew) | (with_reducible apply Ext.drewN) | (with_reducible exact Ext.refl _))) xw4
        have Xw4 : Ext w w4 := Xw3.trans Lw4
        replace va0 := Lw4.cell va0
        replace va1 := Lw4.cell va1
        replace va2 := Lw4.cell va2
        have z_va : w1.heap.size < w4.heap.size := World.block_lt_of_cell? _ _ va0
        have s_w4 : w.heap.size ≤ w4.heap.size := Xw4.size
        clear xw4
        have Z4 : Ext w1 w4 := Z3.trans Lw4
        go_wp2_with fail
        refine (hsp.out _ (Z4.trans (by repeat (first | (with_reducible assumption) | (with_reducible refine Ext.setCell ?_ (by first | (simp; done) | (simp; omega) | omega) _) | (with_reducible apply Ext.alloc) | (with_reducible apply Ext.drew) | (with_reducible apply Ext.drewN) | (with_reducible exact Ext.refl _))))).mono ?_
        rintro e w5 ⟨rfl, xw5⟩
        have Lw5 : Ext w4 w5 := Ext.trans (by repeat (first | (with_reducible assumption) | (with_reducible refine Ext.setCell ?_ (by first | (simp; done) | (simp; omega) | omega) _) | (with_reducible apply Ext.alloc) | (with_reducible apply Ext.drew) | (with_reducible apply Ext.drewN) | (with_reducible exact Ext.refl _))) xw5
        have Xw5 : Ext w w5 := Xw4.trans Lw5
        replace va0 := Lw5.cell va0
        replace va1 := Lw5.cell va1
        replace va2 := Lw5.cell va2
        have z_va : w1.heap.size < w5.heap.size := World.block_lt_of_cell? _ _ va0
        have s_w5 : w.heap.size ≤ w5.heap.size := Xw5.size
        clear xw5
        have Z5 : Ext w1 w5 := Z4.trans Lw5
        go_wp2_with fail
        go_ret
        exact ⟨by first | rfl | exact ret_b (by simp [hlt]) | exact ret_b (by simpa using hlt), Xw5.trans (by repeat (first | (with_reducible assumption) | (with_reducible refine Ext.setCell ?_ (by first | (simp; done) | (simp; omega) | omega) _) | (with_reducible apply Ext.alloc) | (with_reducible apply Ext.drew) | (with_reducible apply Ext.drewN) | (with_reducible exact Ext.refl _)))⟩
      · have Z1 : Ext w1 w1 := Ext.refl _
        go_wp2_with fail
        refine (hip.out _ (Z1.trans (by repeat (first | (with_reducible assumption) | (with_reducible refine Ext.setCell ?_ (by first | (simp; done) | (simp; omega) | omega) _) | (with_reducible apply Ext.alloc) | (with_reducible apply Ext.drew) | (with_reducible apply Ext.drewN) | (with_reducible exact Ext.refl _))))).mono ?_
        rintro e w2 ⟨rfl, xw2⟩
        have Lw2 : Ext w1 w2 := Ext.trans (by repeat (first | (with_reducible assumption) | (with_reducible refine Ext.setCell ?_ (by first | (simp; done) | (simp; omega) | omega) _) | (with_reducible apply Ext.alloc) | (with_reducible apply Ext.drew) | (with_reducible apply Ext.drewN) | (with_reducible exact Ext.refl _))) xw2
        have Xw2 : Ext w w2 := X1.trans Lw2
        have va0 : w2.cell? ⟨w1.heap.size, 0, none⟩ = some (.int .i64 b) := xw2.cell (by first | (simp; done) | ((repeat rw [World.cell?_alloc_lt _ _ _ (by simp <;> omega)]); simp; done) | (go_simp; done))
        have va1 : w2.cell? ⟨w1.heap.size, 1, none⟩ = some (.slice p1 n1 r1) := xw2.cell (by first | (simp; done) | ((repeat rw [World.cell?_alloc_lt _ _ _ (by simp <;> omega)]); simp; done) | (go_simp; done))
        have va2 : w2.cell? ⟨w1.heap.size, 2, none⟩ = some (.slice p2 n2 r2) := xw2.cell (by first | (simp; done) | ((repeat rw [World.cell?_alloc_lt _ _ _ (by simp <;> omega)]); simp; done) | (go_simp; done))
        have z_va : w1.heap.size < w2.heap.size := World.block_lt_of_cell? _ _ va0
        have s_w2 : w.heap.size ≤ w2.heap.size := Xw2.size
        clear xw2
        have Z2 : Ext w1 w2 := Z1.trans Lw2
        go_wp2_with fail
        refine (hsp.out _ (Z2.trans (by repeat (first | (with_reducible assumption) | (with_reducible refine Ext.setCell ?_ (by first | (simp; done) | (simp; omega) | omega) _) | (with_reducible apply Ext.alloc) | (with_reducible apply Ext.drew) | (with_reducible apply Ext.drewN) | (with_reducible exact Ext.refl _))))).mono ?_
        rintro e w3 ⟨rfl, xw3⟩
        have Lw3 : Ext w2 w3 := Ext.trans (by repeat (first | (with_reducible assumption) | (with_reducible refine Ext.setCell ?_ (by first | (simp; done) | (simp; omega) | omega) _) | (with_reducible apply Ext.alloc) | (with_reducible apply Ext.drew) | (with_reducible apply Ext.drewN) | (with_reducible exact Ext.refl _))) xw3
        have Xw3 : Ext w w3 := Xw2.trans Lw3
        replace va0 := Lw3.cell va0
        replace va1 := Lw3.cell va1
        replace va2 := Lw3.cell va2
        have z_va : w1.heap.size < w3.heap.size := World.block_lt_of_cell? _ _ va0
        have s_w3 : w.heap.size ≤ w3.heap.size := Xw3.size
        clear xw3
        have Z3 : Ext w1 w3 := Z2.trans Lw3
        go_wp2_with fail
        refine (hvp.out _ (Z3.trans (by repeat (first | (with_reducible assumption) | (with_reducible refine Ext.setCell ?_ (by first | (simp; done) | (simp; omega) | omega) _) | (with_reducible apply Ext.alloc) | (with_reducible apply Ext.drew) | (with_reducible apply Ext.drewN) | (with_reducible exact Ext.refl _))))).mono ?_
        rintro e w4 ⟨rfl, xw4⟩
        have Lw4 : Ext w3 w4 := Ext.trans (by repeat (first | (with_reducible assumption) | (with_reducible refine Ext.setCell ?_ (by first | (simp; done) | (simp; omega) | omega) _) | (with_reducible apply Ext.alloc) | (with_reducible apply Ext.drew) | (with_reducible apply Ext.drewN) | (with_reducible exact Ext.refl _))) xw4
        have Xw4 : Ext w w4 := Xw3.trans Lw4
        replace va0 := Lw4.cell va0
        replace va1 := Lw4.cell va1
        replace va2 := Lw4.cell va2
        have z_va : w1.heap.size < w4.heap.size := World.block_lt_of_cell? _ _ va0
        have s_w4 : w.heap.size ≤ w4.heap.size := Xw4.size
        clear xw4
        have Z4 : Ext w1 w4 := Z3.trans Lw4
        go_wp2_with fail
        refine (hsp.out _ (Z4.trans (by repeat (first | (with_reducible assumption) | (with_reducible refine Ext.setCell ?_ (by first | (simp; done) | (simp; omega) | omega) _) | (with_reducible apply Ext.alloc) | (with_reducible apply Ext.drew) | (with_reducible apply Ext.drewN) | (with_reducible exact Ext.refl _))))).mono ?_
        rintro e w5 ⟨rfl, xw5⟩
        have Lw5 : Ext w4 w5 := Ext.trans (by repeat (first | (with_reducible assumption) | (with_reducible refine Ext.setCell ?_ (by first | (simp; done) | (simp; omega) | omega) _) | (with_reducible apply Ext.alloc) | (with_reducible apply Ext.drew) | (with_reducible apply Ext.drewN) | (with_reducible exact Ext.refl _))) xw5
        have Xw5 : Ext w w5 := Xw4.trans Lw5
        replace va0 := Lw5.cell va0
        replace va1 := Lw5.cell va1
        replace va2 := Lw5.cell va2
        have z_va : w1.heap.size < w5.heap.size := World.block_lt_of_cell? _ _ va0
        have s_w5 : w.heap.size ≤ w5.heap.size := Xw5.size
        clear xw5
        have Z5 : Ext w1 w5 := Z4.trans Lw5
        go_wp2_with fail
        go_ret
        exact ⟨by first | rfl | exact ret_b (by simp [hlt]) | exact ret_b (by simpa using hlt), Xw5.trans (by repeat (first | (with_reducible assumption) | (with_reducible refine Ext.setCell ?_ (by first | (simp; done) | (simp; omega) | omega) _) | (with_reducible apply Ext.alloc) | (with_reducible apply Ext.drew) | (with_reducible apply Ext.drewN) | (with_reducible exact Ext.refl _)))⟩
    · by_cases hx1 : 60 < x
      · clear hpu
        cases q
        · have Z1 : Ext w1 w1 := Ext.refl _
          go_wp2_with fail
          refine (hip.out _ (Z1.trans (by repeat (first | (with_reducible assumption) | (with_reducible refine Ext.setCell ?_ (by first | (simp; done) | (simp; omega) | omega) _) | (with_reducible apply Ext.alloc) | (with_reducible apply Ext.drew) | (with_reducible apply Ext.drewN) | (with_reducible exact Ext.refl _))))).mono ?_
          rintro e w2 ⟨rfl, xw2⟩
          have Lw2 : Ext w1 w2 := Ext.trans (by repeat (first | (with_reducible assumption) | (with_reducible refine Ext.setCell ?_ (by first | (simp; done) | (simp; omega) | omega) _) | (with_reducible apply Ext.alloc) | (with_reducible apply Ext.drew) | (with_reducible apply Ext.drewN) | (with_reducible exact Ext.refl _))) xw2
          have Xw2 : Ext w w2 := X1.trans Lw2
          have va0 : w2.cell? ⟨w1.heap.size, 0, none⟩ = some (.int .i64 b) := xw2.cell (by first | (simp; done) | ((repeat rw [World.cell?_alloc_lt _ _ _ (by simp <;> omega)]); simp; done) | (go_simp; done))
          have va1 : w2.cell? ⟨w1.heap.size, 1, none⟩ = some (.slice p1 n1 r1) := xw2.cell (by first | (simp; done) | ((repeat rw [World.cell?_alloc_lt _ _ _ (by simp <;> omega)]); simp; done) | (go_simp; done))
          have va2 : w2.cell? ⟨w1.heap.size, 2, none⟩ = some (.slice p2 n2 r2) := xw2.cell (by first | (simp; done) | ((repeat rw [World.cell?_alloc_lt _ _ _ (by simp <;> omega)]); simp; done) | (go_simp; done))
          have z_va : w1.heap.size < w2.heap.size := World.block_lt_of_cell? _ _ va0
          have s_w2 : w.heap.size ≤ w2.heap.size := Xw2.size
          clear xw2
          have Z2 : Ext w1 w2 := Z1.trans Lw2
          go_wp2_with fail
          refine (hsp.out _ (Z2.trans (by repeat (first | (with_reducible assumption) | (with_reducible refine Ext.setCell ?_ (by first | (simp; done) | (simp; omega) | omega) _) | (with_reducible apply Ext.alloc) | (with_reducible apply Ext.drew) | (with_reducible apply Ext.drewN) | (with_reducible exact Ext.refl _))))).mono ?_
          rintro e w3 ⟨rfl, xw3⟩
          have Lw3 : Ext w2 w3 := Ext.trans (by repeat (first | (with_reducible assumption) | (with_reducible refine Ext.setCell ?_ (by first | (simp; done) | (simp; omega) | omega) _) | (with_reducible apply Ext.alloc) | (with_reducible apply Ext.drew) | (with_reducible apply Ext.drewN) | (with_reducible exact Ext.refl _))) xw3
          have Xw3 : Ext w w3 := Xw2.trans Lw3
          replace va0 := Lw3.cell va0
          replace va1 := Lw3.cell va1
          replace va2 := Lw3.cell va2
          have z_va : w1.heap.size < w3.heap.size := World.block_lt_of_cell? _ _ va0
          have s_w3 : w.heap.size ≤ w3.heap.size := Xw3.size
          clear xw3
          have Z3 : Ext w1 w3 := Z2.trans Lw3
          go_wp2_with fail
          refine (hvp.out _ (Z3.trans (by repeat (first | (with_reducible assumption) | (with_reducible refine Ext.setCell ?_ (by first | (simp; done) | (simp; omega) | omega) _) | (with_reducible apply Ext.alloc) | (with_reducible apply Ext.drew) | (with_reducible apply Ext.drewN) | (with_reducible exact Ext.refl _))))).mono ?_
          rintro e w4 ⟨rfl, xw4⟩
          have Lw4 : Ext w3 w4 := Ext.trans (by repeat (first | (with_reducible assumption) | (with_reducible refine Ext.setCell ?_ (by first | (simp; done) | (simp; omega) | omega) _) | (with_reducible apply Ext.alloc) | (with_reducible apply Ext.drew) | (with_reducible apply Ext.drewN) | (with_reducible exact Ext.refl _))) xw4
          have Xw4 : Ext w w4 := Xw3.trans Lw4
          replace va0 := Lw4.cell va0
          replace va1 := Lw4.cell va1
          replace va2 := Lw4.cell va2
          have z_va : w1.heap.size < w4.heap.size := World.block_lt_of_cell? _ _ va0
          have s_w4 : w.heap.size ≤ w4.heap.size := Xw4.size
          clear xw4
          have Z4 : Ext w1 w4 := Z3.trans Lw4
          go_wp2_with fail
          refine (hsp.out _ (Z4.trans (by repeat (first | (with_reducible assumption) | (with_reducible refine Ext.setCell ?_ (by first | (simp; done) | (simp; omega) | omega) _) | (with_reducible apply Ext.alloc) | (with_reducible apply Ext.drew) | (with_reducible apply Ext.drewN) | (with_reducible exact Ext.refl _))))).mono ?_
          rintro e w5 ⟨rfl, xw5⟩
          have Lw5 : Ext w4 w5 := Ext.trans (by repeat (first | (with_reducible assumption) | (with_reducible refine Ext.setCell ?_ (by first | (simp; done) | (simp; omega) | omega) _) | (with_reducible apply Ext.alloc) | (with_reducible apply Ext.drew) | (with_reducible apply Ext.drewN) | (with_reducible exact Ext.refl _))) xw5
          have Xw5 : Ext w w5 := Xw4.trans Lw5
          replace va0 := Lw5.cell va0
          replace va1 := Lw5.cell va1
          replace va2 := Lw5.cell va2
          have z_va : w1.heap.size < w5.heap.size := World.block_lt_of_cell? _ _ va0
          have s_w5 : w.heap.size ≤ w5.heap.size := Xw5.size
          clear xw5
          have Z5 : Ext w1 w5 := Z4.trans Lw5
          go_wp2_with fail
          go_ret
          exact ⟨by first | rfl | exact ret_b (by simp [hlt]) | exact ret_b (by simpa using hlt), Xw5.trans (by repeat (first | (with_reducible assumption) | (with_reducible refine Ext.setCell ?_ (by first | (simp; done) | (simp; omega) | omega) _) | (with_reducible apply Ext.alloc) | (with_reducible apply Ext.drew) | (with_reducible apply Ext.drewN) | (with_reducible exact Ext.refl _)))⟩
        · have Z1 : Ext w1 w1 := Ext.refl _
          go_wp2_with fail
          refine (hip.out _ (Z1.trans (by repeat (first | (with_reducible assumption) | (with_reducible refine Ext.setCell ?_ (by first | (simp; done) | (simp; omega) | omega) _) | (with_reducible apply Ext.alloc) | (with_reducible apply Ext.drew) | (with_reducible apply Ext.drewN) | (with_reducible exact Ext.refl _))))).mono ?_
          rintro e w2 ⟨rfl, xw2⟩
          have Lw2 : Ext w1 w2 := Ext.trans (by repeat (first | (with_reducible assumption) | (with_reducible refine Ext.setCell ?_ (by first | (simp; done) | (simp; omega) | omega) _) | (with_reducible apply Ext.alloc) | (with_reducible apply Ext.drew) | (with_reducible apply Ext.drewN) | (with_reducible exact Ext.refl _))) xw2
          have Xw2 : Ext w w2 := X1.trans Lw2
          have va0 : w2.cell? ⟨w1.heap.size, 0, none⟩ = some (.int .i64 b) := xw2.cell (by first | (simp; done) | ((repeat rw [World.cell?_alloc_lt _ _ _ (by simp <;> omega)]); simp; done) | (go_simp; done))
          have va1 : w2.cell? ⟨w1.heap.size, 1, none⟩ = some (.slice p1 n1 r1) := xw2.cell (by first | (simp; done) | ((repeat rw [World.cell?_alloc_lt _ _ _ (by simp <;> omega)]); simp; done) | (go_simp; done))
          have va2 : w2.cell? ⟨w1.heap.size, 2, none⟩ = some (.slice p2 n2 r2) := xw2.cell (by first | (simp; done) | ((repeat rw [World.cell?_alloc_lt _ _ _ (by simp <;> omega)]); simp; done) | (go_simp; done))
          have z_va : w1.heap.size < w2.heap.size := World.block_lt_of_cell? _ _ va0
          have s_w2 : w.heap.size ≤ w2.heap.size := Xw2.size
          clear xw2
          have Z2 : Ext w1 w2 := Z1.trans Lw2
          go_wp2_with fail
          refine (hsp.out _ (Z2.trans (by repeat (first | (with_reducible assumption) | (with_reducible refine Ext.setCell ?_ (by first | (simp; done) | (simp; omega) | omega) _) | (with_reducible apply Ext.alloc) | (with_reducible apply Ext.drew) | (with_reducible apply Ext.drewN) | (with_reducible exact Ext.refl _))))).mono ?_
          rintro e w3 ⟨rfl, xw3⟩
          have Lw3 : Ext w2 w3 := Ext.trans (by repeat (first | (with_reducible assumption) | (with_reducible refine Ext.setCell ?_ (by first | (simp; done) | (simp; omega) | omega) _) | (with_reducible apply Ext.alloc) | (with_reducible apply Ext.drew) | (with_reducible apply Ext.drewN) | (with_reducible exact Ext.refl _))) xw3
          have Xw3 : Ext w w3 := Xw2.trans Lw3
          replace va0 := Lw3.cell va0
          replace va1 := Lw3.cell va1
          replace va2 := Lw3.cell va2
          have z_va : w1.heap.size < w3.heap.size := World.block_lt_of_cell? _ _ va0
          have s_w3 : w.heap.size ≤ w3.heap.size := Xw3.size
          clear xw3
          have Z3 : Ext w1 w3 := Z2.trans Lw3
          go_wp2_with fail
          refine (hvp.out _ (Z3.trans (by repeat (first | (with_reducible assumption) | (with_reducible refine Ext.setCell ?_ (by first | (simp; done) | (simp; omega) | omega) _) | (with_reducible apply Ext.alloc) | (with_reducible apply Ext.drew) | (with_reducible apply Ext.drewN) | (with_reducible exact Ext.refl _))))).mono ?_
          rintro e w4 ⟨rfl, xw4⟩
          have Lw4 : Ext w3 w4 := Ext.trans (by repeat (first | (with_reducible assumption) | (with_reducible refine Ext.setCell ?_ (by first | (simp; done) | (simp; omega) | omega) _) | (with_reducible apply Ext.alloc) | (with_reducible apply Ext.drew) | (with_reducible apply Ext.drewN) | (with_reducible exact Ext.refl _))) xw4
          have Xw4 : Ext w w4 := Xw3.trans Lw4
          replace va0 := Lw4.cell va0
          replace va1 := Lw4.cell va1
          replace va2 := Lw4.cell va2
          have z_va : w1.heap.size < w4.heap.size := World.block_lt_of_cell? _ _ va0
          have s_w4 : w.heap.size ≤ w4.heap.size := Xw4.size
          clear xw4
          have Z4 : Ext w1 w4 := Z3.trans Lw4
          go_wp2_with fail
          refine (hsp.out _ (Z4.trans (by repeat (first | (with_reducible assumption) | (with_reducible refine Ext.setCell ?_ (by first | (simp; done) | (simp; omega) | omega) _) | (with_reducible apply Ext.alloc) | (with_reducible apply Ext.drew) | (with_reducible apply Ext.drewN) | (with_reducible exact Ext.refl _))))).mono ?_
          rintro e w5 ⟨rfl, xw5⟩
          have Lw5 : Ext w4 w5 := Ext.trans (by repeat (first | (with_reducible assumption) | (with_reducible refine Ext.setCell ?_ (by first | (simp; done) | (simp; omega) | omega) _) | (with_reducible apply Ext.alloc) | (with_reducible apply Ext.drew) | (with_reducible apply Ext.drewN) | (with_reducible exact Ext.refl _))) xw5
          have Xw5 : Ext w w5 := Xw4.trans Lw5
          replace va0 := Lw5.cell va0
          replace va1 := Lw5.cell va1
          replace va2 := Lw5.cell va2
          have z_va : w1.heap.size < w5.heap.size := World.block_lt_of_cell? _ _ va0
          have s_w5 : w.heap.size ≤ w5.heap.size := Xw5.size
          clear xw5
          have Z5 : Ext w1 w5 := Z4.trans Lw5
          go_wp2_with fail
          go_ret
          exact ⟨by first | rfl | exact ret_b (by simp [hlt]) | exact ret_b (by simpa using hlt), Xw5.trans (by repeat (first | (with_reducible assumption) | (with_reducible refine Ext.setCell ?_ (by first | (simp; done) | (simp; omega) | omega) _) | (with_reducible apply Ext.alloc) | (with_reducible apply Ext.drew) | (with_reducible apply Ext.drewN) | (with_reducible exact Ext.refl _)))⟩
      · obtain ⟨g1, g2⟩ := hpu.out rfl (by omega)
        clear hpu
        cases q
        · have hlt := g2 rfl
          clear g1 g2
          have Z1 : Ext w1 w1 := Ext.refl _
          go_wp2_with fail
          refine (hip.out _ (Z1.trans (by repeat (first | (with_reducible assumption) | (with_reducible refine Ext.setCell ?_ (by first | (simp; done) | (simp; omega) | omega) _) | (with_reducible apply Ext.alloc) | (with_reducible apply Ext.drew) | (with_reducible apply Ext.drewN) | (with_reducible exact Ext.refl _))))).mono ?_
          rintro e w2 ⟨rfl, xw2⟩
          have Lw2 : Ext w1 w2 := Ext.trans (by repeat (first | (with_reducible assumption) | (with_reducible refine Ext.setCell ?_ (by first | (simp; done) | (simp; omega) | omega) _) | (with_reducible apply Ext.alloc) | (with_reducible apply Ext.drew) | (with_reducible apply Ext.drewN) | (with_reducible exact Ext.refl _))) xw2
          have Xw2 : Ext w w2 := X1.trans Lw2
          have va0 : w2.cell? ⟨w1.heap.size, 0, none⟩ = some (.int .i64 b) := xw2.cell (by first | (simp; done) | ((repeat rw [World.cell?_alloc_lt _ _ _ (by simp <;> omega)]); simp; done) | (go_simp; done))
          have va1 : w2.cell? ⟨w1.heap.size, 1, none⟩ = some (.slice p1 n1 r1) := xw2.cell (by first | (simp; done) | ((repeat rw [World.cell?_alloc_lt _ _ _ (by simp <;> omega)]); simp; done) | (go_simp; done))
          have va2 : w2.cell? ⟨w1.heap.size, 2, none⟩ = some (.slice p2 n2 r2) := xw2.cell (by first | (simp; done) | ((repeat rw [World.cell?_alloc_lt _ _ _ (by simp <;> omega)]); simp; done) | (go_simp; done))
          have z_va : w1.heap.size < w2.heap.size := World.block_lt_of_cell? _ _ va0
          have s_w2 : w.heap.size ≤ w2.heap.size := Xw2.size
          clear xw2
          have Z2 : Ext w1 w2 := Z1.trans Lw2
          go_wp2_with fail
          refine (hsp.out _ (Z2.trans (by repeat (first | (with_reducible assumption) | (with_reducible refine Ext.setCell ?_ (by first | (simp; done) | (simp; omega) | omega) _) | (with_reducible apply Ext.alloc) | (with_reducible apply Ext.drew) | (with_reducible apply Ext.drewN) | (with_reducible exact Ext.refl _))))).mono ?_
          rintro e w3 ⟨rfl, xw3⟩
          have Lw3 : Ext w2 w3 := Ext.trans (by repeat (first | (with_reducible assumption) | (with_reducible refine Ext.setCell ?_ (by first | (simp; done) | (simp; omega) | omega) _) | (with_reducible apply Ext.alloc) | (with_reducible apply Ext.drew) | (with_reducible apply Ext.drewN) | (with_reducible exact Ext.refl _))) xw3
          have Xw3 : Ext w w3 := Xw2.trans Lw3
          replace va0 := Lw3.cell va0
          replace va1 := Lw3.cell va1
          replace va2 := Lw3.cell va2
          have z_va : w1.heap.size < w3.heap.size := World.block_lt_of_cell? _ _ va0
          have s_w3 : w.heap.size ≤ w3.heap.size := Xw3.size
          clear xw3
          have Z3 : Ext w1 w3 := Z2.trans Lw3
          go_wp2_with fail
          refine (hvp.out _ (Z3.trans (by repeat (first | (with_reducible assumption) | (with_reducible refine Ext.setCell ?_ (by first | (simp; done) | (simp; omega) | omega) _) | (with_reducible apply Ext.alloc) | (with_reducible apply Ext.drew) | (with_reducible apply Ext.drewN) | (with_reducible exact Ext.refl _))))).mono ?_
          rintro e w4 ⟨rfl, xw4⟩
          have Lw4 : Ext w3 w4 := Ext.trans (by repeat (first | (with_reducible assumption) | (with_reducible refine Ext.setCell ?_ (by first | (simp; done) | (simp; omega) | omega) _) | (with_reducible apply Ext.alloc) | (with_reducible apply Ext.drew) | (with_reducible apply Ext.drewN) | (with_reducible exact Ext.refl _))) xw4
          have Xw4 : Ext w w4 := Xw3.trans Lw4
          replace va0 := Lw4.cell va0
          replace va1 := Lw4.cell va1
          replace va2 := Lw4.cell va2
          have z_va : w1.heap.size < w4.heap.size := World.block_lt_of_cell? _ _ va0
          have s_w4 : w.heap.size ≤ w4.heap.size := Xw4.size
          clear xw4
          have Z4 : Ext w1 w4 := Z3.trans Lw4
          go_wp2_with fail
          refine (hbp.out _ (Z4.trans (by repeat (first | (with_reducible assumption) | (with_reducible refine Ext.setCell ?_ (by first | (simp; done) | (simp; omega) | omega) _) | (with_reducible apply Ext.alloc) | (with_reducible apply Ext.drew) | (with_reducible apply Ext.drewN) | (with_reducible exact Ext.refl _))))).mono ?_
          rintro e w5 ⟨rfl, xw5⟩
          have Lw5 : Ext w4 w5 := Ext.trans (by repeat (first | (with_reducible assumption) | (with_reducible refine Ext.setCell ?_ (by first | (simp; done) | (simp; omega) | omega) _) | (with_reducible apply Ext.alloc) | (with_reducible apply Ext.drew) | (with_reducible apply Ext.drewN) | (with_reducible exact Ext.refl _))) xw5
          have Xw5 : Ext w w5 := Xw4.trans Lw5
          replace va0 := Lw5.cell va0
          replace va1 := Lw5.cell va1
          replace va2 := Lw5.cell va2
          have z_va : w1.heap.size < w5.heap.size := World.block_lt_of_cell? _ _ va0
          have s_w5 : w.heap.size ≤ w5.heap.size := Xw5.size
          clear xw5
          have Z5 : Ext w1 w5 := Z4.trans Lw5
          go_wp2_with fail
          go_ret
          exact ⟨by first | rfl | exact ret_b (by simp [hlt]) | exact ret_b (by simpa using hlt), Xw5.trans (by repeat (first | (with_reducible assumption) | (with_reducible refine Ext.setCell ?_ (by first | (simp; done) | (simp; omega) | omega) _) | (with_reducible apply Ext.alloc) | (with_reducible apply Ext.drew) | (with_reducible apply Ext.drewN) | (with_reducible exact Ext.refl _)))⟩
        · have hlt := g1 rfl
          clear g1 g2
          have Z1 : Ext w1 w1 := Ext.refl _
          go_wp2_with fail
          refine (hip.out _ (Z1.trans (by repeat (first | (with_reducible assumption) | (with_reducible refine Ext.setCell ?_ (by first | (simp; done) | (simp; omega) | omega) _) | (with_reducible apply Ext.alloc) | (with_reducible apply Ext.drew) | (with_reducible apply Ext.drewN) | (with_reducible exact Ext.refl _))))).mono ?_
          rintro e w2 ⟨rfl, xw2⟩
          have Lw2 : Ext w1 w2 := Ext.trans (by repeat (first | (with_reducible assumption) | (with_reducible refine Ext.setCell ?_ (by first | (simp; done) | (simp; omega) | omega) _) | (with_reducible apply Ext.alloc) | (with_reducible apply Ext.drew) | (with_reducible apply Ext.drewN) | (with_reducible exact Ext.refl _))) xw2
          have Xw2 : Ext w w2 := X1.trans Lw2
          have va0 : w2.cell? ⟨w1.heap.size, 0, none⟩ = some (.int .i64 b) := xw2.cell (by first | (simp; done) | ((repeat rw [World.cell?_alloc_lt _ _ _ (by simp <;> omega)]); simp; done) | (go_simp; done))
          have va1 : w2.cell? ⟨w1.heap.size, 1, none⟩ = some (.slice p1 n1 r1) := xw2.cell (by first | (simp; done) | ((repeat rw [World.cell?_alloc_lt _ _ _ (by simp <;> omega)]); simp; done) | (go_simp; done))
          have va2 : w2.cell? ⟨w1.heap.size, 2, none⟩ = some (.slice p2 n2 r2) := xw2.cell (by first | (simp; done) | ((repeat rw [World.cell?_alloc_lt _ _ _ (by simp <;> omega)]); simp; done) | (go_simp; done))
          have z_va : w1.heap.size < w2.heap.size := World.block_lt_of_cell? _ _ va0
          have s_w2 : w.heap.size ≤ w2.heap.size := Xw2.size
          clear xw2
          have Z2 : Ext w1 w2 := Z1.trans Lw2
          go_wp2_with fail
          refine (hsp.out _ (Z2.trans (by repeat (first | (with_reducible assumption) | (with_reducible refine Ext.setCell ?_ (by first | (simp; done) | (simp; omega) | omega) _) | (with_reducible apply Ext.alloc) | (with_reducible apply Ext.drew) | (with_reducible apply Ext.drewN) | (with_reducible exact Ext.refl _))))).mono ?_
          rintro e w3 ⟨rfl, xw3⟩
          have Lw3 : Ext w2 w3 := Ext.trans (by repeat (first | (with_reducible assumption) | (with_reducible refine Ext.setCell ?_ (by first | (simp; done) | (simp; omega) | omega) _) | (with_reducible apply Ext.alloc) | (with_reducible apply Ext.drew) | (with_reducible apply Ext.drewN) | (with_reducible exact Ext.refl _))) xw3
          have Xw3 : Ext w w3 := Xw2.trans Lw3
          replace va0 := Lw3.cell va0
          replace va1 := Lw3.cell va1
          replace va2 := Lw3.cell va2
          have z_va : w1.heap.size < w3.heap.size := World.block_lt_of_cell? _ _ va0
          have s_w3 : w.heap.size ≤ w3.heap.size := Xw3.size
          clear xw3
          have Z3 : Ext w1 w3 := Z2.trans Lw3
          go_wp2_with fail
          refine (hvp.out _ (Z3.trans (by repeat (first | (with_reducible assumption) | (with_reducible refine Ext.setCell ?_ (by first | (simp; done) | (simp; omega) | omega) _) | (with_reducible apply Ext.alloc) | (with_reducible apply Ext.drew) | (with_reducible apply Ext.drewN) | (with_reducible exact Ext.refl _))))).mono ?_
          rintro e w4 ⟨rfl, xw4⟩
          have Lw4 : Ext w3 w4 := Ext.trans (by repeat (first | (with_reducible assumption) | (with_reducible refine Ext.setCell ?_ (by first | (simp; done) | (simp; omega) | omega) _) | (with_reducible apply Ext.alloc) | (with_reducible apply Ext.drew) | (with_reducible apply Ext.drewN) | (with_reducible exact Ext.refl _))) xw4
          have Xw4 : Ext w w4 := Xw3.trans Lw4
          replace va0 := Lw4.cell va0
          replace va1 := Lw4.cell va1
          replace va2 := Lw4.cell va2
          have z_va : w1.heap.size < w4.heap.size := World.block_lt_of_cell? _ _ va0
          have s_w4 : w.heap.size ≤ w4.heap.size := Xw4.size
          clear xw4
          have Z4 : Ext w1 w4 := Z3.trans Lw4
          go_wp2_with fail
          refine (hbp.out _ (Z4.trans (by repeat (first | (with_reducible assumption) | (with_reducible refine Ext.setCell ?_ (by first | (simp; done) | (simp; omega) | omega) _) | (with_reducible apply Ext.alloc) | (with_reducible apply Ext.drew) | (with_reducible apply Ext.drewN) | (with_reducible exact Ext.refl _))))).mono ?_
          rintro e w5 ⟨rfl, xw5⟩
          have Lw5 : Ext w4 w5 := Ext.trans (by repeat (first | (with_reducible assumption) | (with_reducible refine Ext.setCell ?_ (by first | (simp; done) | (simp; omega) | omega) _) | (with_reducible apply Ext.alloc) | (with_reducible apply Ext.drew) | (with_reducible apply Ext.drewN) | (with_reducible exact Ext.refl _))) xw5
          have Xw5 : Ext w w5 := Xw4.trans Lw5
          replace va0 := Lw5.cell va0
          replace va1 := Lw5.cell va1
          replace va2 := Lw5.cell va2
          have z_va : w1.heap.size < w5.heap.size := World.block_lt_of_cell? _ _ va0
          have s_w5 : w.heap.size ≤ w5.heap.size := Xw5.size
          clear xw5
          have Z5 : Ext w1 w5 := Z4.trans Lw5
          go_wp2_with fail
          go_ret
          exact ⟨by first | rfl | exact ret_b (by simp [hlt]) | exact ret_b (by simpa using hlt), Xw5.trans (by repeat (first | (with_reducible assumption) | (with_reducible refine Ext.setCell ?_ (by first | (simp; done) | (simp; omega) | omega) _) | (with_reducible apply Ext.alloc) | (with_reducible apply Ext.drew) | (with_reducible apply Ext.drewN) | (with_reducible exact Ext.refl _)))⟩

end Go.Proofs.Ytnjaidgifccgjaa

/- The law FnFitsIn holds for all bytes: the call returns true, and its argument reads as it did. No condition. -/
namespace Go.Proofs.Ytnjaidgifccgjaa.rowFnFitsIn
open Go.ChangeShapes Go.WideShapes Go.ChangeAt Go.RowKit
set_option linter.unusedVariables false

set_option maxHeartbeats 1000000 in
set_option maxRecDepth 100000 in
theorem lifted (os : Os) (started : os.Started) (H : Type) (enc : TypeId × Value → H) :
    ReturnsInHanded {} Try.checked os 3 .any (Rows.fnFitsInSpec.pre6 enc Try.prog Try.f3 Rows.fnFitsInRow.domain false) (Rows.fnFitsInSpec.post enc Try.prog Try.f3 false true false false) := by
  refine returnsInHanded_of_change (C := Try.checked) own started (by kernel_rfl) Try.func3
    (ChangeSpec.witness6 (enc := enc) (C := Try.checked) false ⟨#[], #[.slice none 0 0], []⟩ 8 (by kernel_rfl) (by kernel_rfl) (by kernel_rfl) (by kernel_rfl)) ?_
  intro W base args ds gs before hval0 hW hcnd _
  have hval : ∀ (j : Nat) t v, Try.f3.params[j]? = some t → args[j]? = some v → Value.okWide Try.prog W .any base t v := hval0
  have hW' := hW
  obtain ⟨p, q, hA0, hV, rfl, hfz, hnd⟩ := hW
  have hA : DataW.TrodAll enc Try.prog W 0 (fun _ => true) true Try.f3.params.toList args.toList ds p := hA0
  rw [Try.params3] at hA hval
  obtain ⟨v0, vs0, d0, ds0, p0, q0, hargs0, rfl, rfl, h0, r0⟩ := trodAll_cons hA
  obtain ⟨rfl, rfl, rfl⟩ := trodAll_nil r0
  obtain rfl : args = #[v0] := by cases args; simp_all
  obtain ⟨rfl, rfl⟩ := trodVars_none hV
  obtain ⟨a0, len0, cap0, rfl⟩ := okWide_slice Try.underlying22 (hval 0 22 v0 rfl rfl)
  have k0 := h0
  have lt0 : ∀ x ∈ p0, x.block < W.heap.size := by obtain ⟨m, hm⟩ := k0; exact DataW.trod_lt m _ _ _ hm
  have w0 : BysIn W a0 len0 cap0 := by
    obtain ⟨fuel, hf⟩ := h0
    rcases open_ints Try.underlying22 Try.underlying5 (by kernel_rfl) hf with ⟨hcs, _⟩ | ⟨x, l, c, zs, hcs, _, hl, hm, hz, _, hcell, hwz⟩
    · simp [Value.cells] at hcs
      obtain ⟨rfl, rfl, rfl⟩ := hcs
      exact ⟨Nat.le_refl _, by simp, fun i hi => absurd hi (by simp)⟩
    · simp [Value.cells] at hcs
      obtain ⟨rfl, rfl, rfl⟩ := hcs
      have hzl : zs.length = cap0 := by simpa using hz
      exact bys_of_cells hl hm hzl hcell hwz
  clear hA0 hval0
  refine (lawFnFitsIn_c a0 len0 cap0 W w0).mono fun e W' ⟨he, bel⟩ => ?_
  subst he
  exact ⟨_, rfl, _, _, _, [], _, [], hW', trodAll_mk1 (shut_bool Try.underlying4 _), (trodAll_cons_mk (Below.trod laidOut (by kernel_rfl) (of_decide_eq_true (by kernel_rfl)) k0 bel lt0) trodAll_mk0), rfl, Below.frame bel _, fun h => by cases h⟩

set_option maxHeartbeats 2000000 in
theorem closed : joinedFacts Try.checked.prog 3 Try.f3 Rows.fnFitsInSpec Rows.fnFitsInRow = true :=
  facts.all (by kernel_rfl) (by kernel_rfl) (by kernel_rfl) (by kernel_rfl) (by kernel_rfl) (by as_aux_lemma => kernel_rfl) (by as_aux_lemma => kernel_rfl) (by as_aux_lemma => kernel_rfl) (by as_aux_lemma => kernel_rfl)
    (by as_aux_lemma => kernel_rfl) (by as_aux_lemma => kernel_rfl) rfl rfl rfl rfl (by kernel_rfl) (by kernel_rfl) (by as_aux_lemma => kernel_rfl) (by as_aux_lemma => kernel_rfl)

theorem named : Try.pinned.checked.prog.funcNamed Rows.fnFitsInRow.func = some 3 := by kernel_rfl

theorem over : Rows.fnFitsInRow.holds Try.pinned (OpenSpec.ofChange Rows.fnFitsInSpec) :=
  OpenClaim.holds_of_wide 3 Try.f3 rfl rfl rfl rfl rfl rfl rfl ⟨rfl, rfl, rfl, rfl, rfl⟩ rfl rfl rfl rfl rfl named Try.func3 closed
    (of_decide_eq_true (by kernel_rfl)) (by unfold Func.isWrapper; exact ⟨rfl, rfl⟩)
    (fun os started H enc _ => lifted os started H enc)

theorem proved : Rows.FnFitsInSaid := over

end Go.Proofs.Ytnjaidgifccgjaa.rowFnFitsIn
