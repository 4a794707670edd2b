/- Walks: MeetRanges of the program and of the reference. -/
import Derived.Test.YtjpngmdfnglabaaRngA
namespace Go.Proofs.Ytjpngmdfnglabaa
open Go.RowKit
set_option linter.unusedVariables false
set_option maxRecDepth 100000

def meetR (a1 e1 d1 a2 e2 d2 : Int) : List Int := meetL (ascL (numL a1 e1 d1)) (numL a2 e2 d2)
def meetT (a1 e1 d1 a2 e2 d2 : Int) : Int × Int × Int := if rangeB a1 e1 d1 && rangeB a2 e2 d2 then normL (meetR a1 e1 d1 a2 e2 d2) else (0, 0, 0)
theorem meetR_in {a1 e1 d1 a2 e2 d2 : Int} (h : rangeB a1 e1 d1 = true) : ∀ x ∈ meetR a1 e1 d1 a2 e2 d2, -1000000 ≤ x ∧ x ≤ 1000000 := by
  intro x hx
  obtain ⟨h1, h2, h3, h4⟩ := rangeB_in h
  have hm := ((ascL_num (a := a1) (b := e1) h4).2 x).1 (List.mem_filter.1 hx).1
  have := numL_in h4 hm
  omega

set_option maxHeartbeats 6400000 in
theorem implMeetRanges_c (a1 e1 d1 a2 e2 d2 : Int) (w : World) :
    Calls Try.prog 11 #[.agg #[.int .i64 a1, .int .i64 e1, .int .i64 d1], .agg #[.int .i64 a2, .int .i64 e2, .int .i64 d2]] w (fun e w' => e = .returned (.agg #[.int .i64 (meetT a1 e1 d1 a2 e2 d2).1, .int .i64 (meetT a1 e1 d1 a2 e2 d2).2.1, .int .i64 (meetT a1 e1 d1 a2 e2 d2).2.2]) ∧ Ext w w') := by
  cases ha : rangeB a1 e1 d1
  · have hr := Lib.hid (show meetT a1 e1 d1 a2 e2 d2 = (0, 0, 0) by unfold meetT; rw [ha]; rfl)
    go_enter Try.func11, Try.ntmps11
    go_wp2_with fail
    refine (isRange_c a1 e1 d1 _).mono ?_
    rintro e w1 ⟨rfl, xw1⟩
    have Lw1 : Ext w w1 := Ext.trans (by repeat (first | exact Ext.refl _ | assumption | apply Ext.drewN | apply Ext.drew | apply Ext.alloc)) xw1
    have Xw1 : Ext w w1 := Lw1
    have c10 : w1.cell? ⟨w.heap.size, 0, none⟩ = some (.int .i64 a1) := xw1.cell (by first | (simp; done) | ((repeat rw [World.cell?_alloc_lt _ _ _ (by simp <;> omega)]); simp; done) | (go_simp; done))
    have c11 : w1.cell? ⟨w.heap.size, 1, none⟩ = some (.int .i64 e1) := xw1.cell (by first | (simp; done) | ((repeat rw [World.cell?_alloc_lt _ _ _ (by simp <;> omega)]); simp; done) | (go_simp; done))
    have c12 : w1.cell? ⟨w.heap.size, 2, none⟩ = some (.int .i64 d1) := xw1.cell (by first | (simp; done) | ((repeat rw [World.cell?_alloc_lt _ _ _ (by simp <;> omega)]); simp; done) | (go_simp; done))
    have c20 : w1.cell? ⟨w.heap.size + 1, 0, none⟩ = some (.int .i64 a2) := xw1.cell (by first | (simp; done) | ((repeat rw [World.cell?_alloc_lt _ _ _ (by simp <;> omega)]); simp; done) | (go_simp; done))
    have c21 : w1.cell? ⟨w.heap.size + 1, 1, none⟩ = some (.int .i64 e2) := xw1.cell (by first | (simp; done) | ((repeat rw [World.cell?_alloc_lt _ _ _ (by simp <;> omega)]); simp; done) | (go_simp; done))
    have c22 : w1.cell? ⟨w.heap.size + 1, 2, none⟩ = some (.int .i64 d2) := xw1.cell (by first | (simp; done) | ((repeat rw [World.cell?_alloc_lt _ _ _ (by simp <;> omega)]); simp; done) | (go_simp; done))
    have q0 : w1.cell? ⟨w.heap.size + 1 + 1, 0, none⟩ = some (.int .i64 0) := xw1.cell (by first | (simp; done) | ((repeat rw [World.cell?_alloc_lt _ _ _ (by simp <;> omega)]); simp; done) | (go_simp; done))
    have q1 : w1.cell? ⟨w.heap.size + 1 + 1, 1, none⟩ = some (.int .i64 0) := xw1.cell (by first | (simp; done) | ((repeat rw [World.cell?_alloc_lt _ _ _ (by simp <;> omega)]); simp; done) | (go_simp; done))
    have q2 : w1.cell? ⟨w.heap.size + 1 + 1, 2, none⟩ = some (.int .i64 0) := xw1.cell (by first | (simp; done) | ((repeat rw [World.cell?_alloc_lt _ _ _ (by simp <;> omega)]); simp; done) | (go_simp; done))
    have zr : w.heap.size + 1 + 1 < w1.heap.size := World.block_lt_of_cell? _ _ q0
    have p0 : w1.frozen? ⟨w.heap.size + 1 + 1, 0, none⟩ = false := xw1.frz (by simp <;> omega) (by first | (simp; done) | (go_simp; done))
    have p1 : w1.frozen? ⟨w.heap.size + 1 + 1, 1, none⟩ = false := xw1.frz (by simp <;> omega) (by first | (simp; done) | (go_simp; done))
    have p2 : w1.frozen? ⟨w.heap.size + 1 + 1, 2, none⟩ = false := xw1.frz (by simp <;> omega) (by first | (simp; done) | (go_simp; done))
    have z1 : w.heap.size < w1.heap.size := World.block_lt_of_cell? _ _ c10
    have z2 : w.heap.size + 1 < w1.heap.size := World.block_lt_of_cell? _ _ c20
    have sw1 : w.heap.size ≤ w1.heap.size := Lw1.size
    rw [ha]
    go_wp2_with fail
    refine bodyPost_ret (v := .agg #[.int .i64 (0), .int .i64 (0), .int .i64 (0)]) (by simp only [results, Try.results11]; go_simp) rfl ⟨?_, ?_⟩
    · rw [hr.out]
    · exact (((Xw1.trans (by repeat (first | exact Ext.refl _ | assumption | apply Ext.drewN | apply Ext.drew | apply Ext.alloc))).setCell (by first | omega | (simp <;> omega)) _).setCell (by first | omega | (simp <;> omega)) _).setCell (by first | omega | (simp <;> omega)) _
  · cases hb : rangeB a2 e2 d2
    · have hr := Lib.hid (show meetT a1 e1 d1 a2 e2 d2 = (0, 0, 0) by unfold meetT; rw [ha, hb]; rfl)
      have ha' := Lib.hid ha
      have hb' := Lib.hid hb
      clear ha hb
      go_enter Try.func11, Try.ntmps11
      go_wp2_with fail
      refine (isRange_c a1 e1 d1 _).mono ?_
      rintro e w1 ⟨rfl, xw1⟩
      have Lw1 : Ext w w1 := Ext.trans (by repeat (first | exact Ext.refl _ | assumption | apply Ext.drewN | apply Ext.drew | apply Ext.alloc)) xw1
      have Xw1 : Ext w w1 := Lw1
      have c10 : w1.cell? ⟨w.heap.size, 0, none⟩ = some (.int .i64 a1) := xw1.cell (by first | (simp; done) | ((repeat rw [World.cell?_alloc_lt _ _ _ (by simp <;> omega)]); simp; done) | (go_simp; done))
      have c11 : w1.cell? ⟨w.heap.size, 1, none⟩ = some (.int .i64 e1) := xw1.cell (by first | (simp; done) | ((repeat rw [World.cell?_alloc_lt _ _ _ (by simp <;> omega)]); simp; done) | (go_simp; done))
      have c12 : w1.cell? ⟨w.heap.size, 2, none⟩ = some (.int .i64 d1) := xw1.cell (by first | (simp; done) | ((repeat rw [World.cell?_alloc_lt _ _ _ (by simp <;> omega)]); simp; done) | (go_simp; done))
      have c20 : w1.cell? ⟨w.heap.size + 1, 0, none⟩ = some (.int .i64 a2) := xw1.cell (by first | (simp; done) | ((repeat rw [World.cell?_alloc_lt _ _ _ (by simp <;> omega)]); simp; done) | (go_simp; done))
      have c21 : w1.cell? ⟨w.heap.size + 1, 1, none⟩ = some (.int .i64 e2) := xw1.cell (by first | (simp; done) | ((repeat rw [World.cell?_alloc_lt _ _ _ (by simp <;> omega)]); simp; done) | (go_simp; done))
      have c22 : w1.cell? ⟨w.heap.size + 1, 2, none⟩ = some (.int .i64 d2) := xw1.cell (by first | (simp; done) | ((repeat rw [World.cell?_alloc_lt _ _ _ (by simp <;> omega)]); simp; done) | (go_simp; done))
      have q0 : w1.cell? ⟨w.heap.size + 1 + 1, 0, none⟩ = some (.int .i64 0) := xw1.cell (by first | (simp; done) | ((repeat rw [World.cell?_alloc_lt _ _ _ (by simp <;> omega)]); simp; done) | (go_simp; done))
      have q1 : w1.cell? ⟨w.heap.size + 1 + 1, 1, none⟩ = some (.int .i64 0) := xw1.cell (by first | (simp; done) | ((repeat rw [World.cell?_alloc_lt _ _ _ (by simp <;> omega)]); simp; done) | (go_simp; done))
      have q2 : w1.cell? ⟨w.heap.size + 1 + 1, 2, none⟩ = some (.int .i64 0) := xw1.cell (by first | (simp; done) | ((repeat rw [World.cell?_alloc_lt _ _ _ (by simp <;> omega)]); simp; done) | (go_simp; done))
      have zr : w.heap.size + 1 + 1 < w1.heap.size := World.block_lt_of_cell? _ _ q0
      have p0 : w1.frozen? ⟨w.heap.size + 1 + 1, 0, none⟩ = false := xw1.frz (by simp <;> omega) (by first | (simp; done) | (go_simp; done))
      have p1 : w1.frozen? ⟨w.heap.size + 1 + 1, 1, none⟩ = false := xw1.frz (by simp <;> omega) (by first | (simp; done) | (go_simp; done))
      have p2 : w1.frozen? ⟨w.heap.size + 1 + 1, 2, none⟩ = false := xw1.frz (by simp <;> omega) (by first | (simp; done) | (go_simp; done))
      have z1 : w.heap.size < w1.heap.size := World.block_lt_of_cell? _ _ c10
      have z2 : w.heap.size + 1 < w1.heap.size := World.block_lt_of_cell? _ _ c20
      have sw1 : w.heap.size ≤ w1.heap.size := Lw1.size
      rw [ha'.out]
      go_wp2_with fail
      refine (isRange_c a2 e2 d2 _).mono ?_
      rintro e w2 ⟨rfl, xw2⟩
      have Lw2 : Ext w1 w2 := Ext.trans (by repeat (first | exact Ext.refl _ | assumption | apply Ext.drewN | apply Ext.drew | apply Ext.alloc)) xw2
      have Xw2 : Ext w w2 := Xw1.trans Lw2
      replace c10 := Lw2.cell c10
      replace c11 := Lw2.cell c11
      replace c12 := Lw2.cell c12
      replace c20 := Lw2.cell c20
      replace c21 := Lw2.cell c21
      replace c22 := Lw2.cell c22
      replace q0 := Lw2.cell q0
      replace p0 := Lw2.frz zr p0
      replace q1 := Lw2.cell q1
      replace p1 := Lw2.frz zr p1
      replace q2 := Lw2.cell q2
      replace p2 := Lw2.frz zr p2
      replace zr := Nat.lt_of_lt_of_le zr Lw2.size
      have z3 : w.heap.size < w2.heap.size := World.block_lt_of_cell? _ _ c10
      have z4 : w.heap.size + 1 < w2.heap.size := World.block_lt_of_cell? _ _ c20
      have sw2 : w1.heap.size ≤ w2.heap.size := Lw2.size
      rw [hb'.out]
      go_wp2_with fail
      refine bodyPost_ret (v := .agg #[.int .i64 (0), .int .i64 (0), .int .i64 (0)]) (by simp only [results, Try.results11]; go_simp) rfl ⟨?_, ?_⟩
      · rw [hr.out]
      · exact (((Xw2.trans (by repeat (first | exact Ext.refl _ | assumption | apply Ext.drewN | apply Ext.drew | apply Ext.alloc))).setCell (by first | omega | (simp <;> omega)) _).setCell (by first | omega | (simp <;> omega)) _).setCell (by first | omega | (simp <;> omega)) _
    · have hr := Lib.hid (show meetT a1 e1 d1 a2 e2 d2 = normL (meetR a1 e1 d1 a2 e2 d2) by unfold meetT; rw [ha, hb]; rfl)
      have hin := Lib.hid (meetR_in (a2 := a2) (e2 := e2) (d2 := d2) ha)
      have ha' := Lib.hid ha
      have hb' := Lib.hid hb
      have ra := Lib.hid (rangeB_in ha)
      have rb := Lib.hid (rangeB_in hb)
      clear ha hb
      have hms := Lib.hid (meet_sort (a := a1) (b := e1) (s := d1) ra.out.2.2.2 (numL a2 e2 d2))
      go_enter Try.func11, Try.ntmps11
      go_wp2_with fail
      refine (isRange_c a1 e1 d1 _).mono ?_
      rintro e w1 ⟨rfl, xw1⟩
      have Lw1 : Ext w w1 := Ext.trans (by repeat (first | exact Ext.refl _ | assumption | apply Ext.drewN | apply Ext.drew | apply Ext.alloc)) xw1
      have Xw1 : Ext w w1 := Lw1
      have c10 : w1.cell? ⟨w.heap.size, 0, none⟩ = some (.int .i64 a1) := xw1.cell (by first | (simp; done) | ((repeat rw [World.cell?_alloc_lt _ _ _ (by simp <;> omega)]); simp; done) | (go_simp; done))
      have c11 : w1.cell? ⟨w.heap.size, 1, none⟩ = some (.int .i64 e1) := xw1.cell (by first | (simp; done) | ((repeat rw [World.cell?_alloc_lt _ _ _ (by simp <;> omega)]); simp; done) | (go_simp; done))
      have c12 : w1.cell? ⟨w.heap.size, 2, none⟩ = some (.int .i64 d1) := xw1.cell (by first | (simp; done) | ((repeat rw [World.cell?_alloc_lt _ _ _ (by simp <;> omega)]); simp; done) | (go_simp; done))
      have c20 : w1.cell? ⟨w.heap.size + 1, 0, none⟩ = some (.int .i64 a2) := xw1.cell (by first | (simp; done) | ((repeat rw [World.cell?_alloc_lt _ _ _ (by simp <;> omega)]); simp; done) | (go_simp; done))
      have c21 : w1.cell? ⟨w.heap.size + 1, 1, none⟩ = some (.int .i64 e2) := xw1.cell (by first | (simp; done) | ((repeat rw [World.cell?_alloc_lt _ _ _ (by simp <;> omega)]); simp; done) | (go_simp; done))
      have c22 : w1.cell? ⟨w.heap.size + 1, 2, none⟩ = some (.int .i64 d2) := xw1.cell (by first | (simp; done) | ((repeat rw [World.cell?_alloc_lt _ _ _ (by simp <;> omega)]); simp; done) | (go_simp; done))
      have q0 : w1.cell? ⟨w.heap.size + 1 + 1, 0, none⟩ = some (.int .i64 0) := xw1.cell (by first | (simp; done) | ((repeat rw [World.cell?_alloc_lt _ _ _ (by simp <;> omega)]); simp; done) | (go_simp; done))
      have q1 : w1.cell? ⟨w.heap.size + 1 + 1, 1, none⟩ = some (.int .i64 0) := xw1.cell (by first | (simp; done) | ((repeat rw [World.cell?_alloc_lt _ _ _ (by simp <;> omega)]); simp; done) | (go_simp; done))
      have q2 : w1.cell? ⟨w.heap.size + 1 + 1, 2, none⟩ = some (.int .i64 0) := xw1.cell (by first | (simp; done) | ((repeat rw [World.cell?_alloc_lt _ _ _ (by simp <;> omega)]); simp; done) | (go_simp; done))
      have zr : w.heap.size + 1 + 1 < w1.heap.size := World.block_lt_of_cell? _ _ q0
      have p0 : w1.frozen? ⟨w.heap.size + 1 + 1, 0, none⟩ = false := xw1.frz (by simp <;> omega) (by first | (simp; done) | (go_simp; done))
      have p1 : w1.frozen? ⟨w.heap.size + 1 + 1, 1, none⟩ = false := xw1.frz (by simp <;> omega) (by first | (simp; done) | (go_simp; done))
      have p2 : w1.frozen? ⟨w.heap.size + 1 + 1, 2, none⟩ = false := xw1.frz (by simp <;> omega) (by first | (simp; done) | (go_simp; done))
      have z1 : w.heap.size < w1.heap.size := World.block_lt_of_cell? _ _ c10
      have z2 : w.heap.size + 1 < w1.heap.size := World.block_lt_of_cell? _ _ c20
      have sw1 : w.heap.size ≤ w1.heap.size := Lw1.size
      rw [ha'.out]
      go_wp2_with fail
      refine (isRange_c a2 e2 d2 _).mono ?_
      rintro e w2 ⟨rfl, xw2⟩
      have Lw2 : Ext w1 w2 := Ext.trans (by repeat (first | exact Ext.refl _ | assumption | apply Ext.drewN | apply Ext.drew | apply Ext.alloc)) xw2
      have Xw2 : Ext w w2 := Xw1.trans Lw2
      replace c10 := Lw2.cell c10
      replace c11 := Lw2.cell c11
      replace c12 := Lw2.cell c12
      replace c20 := Lw2.cell c20
      replace c21 := Lw2.cell c21
      replace c22 := Lw2.cell c22
      replace q0 := Lw2.cell q0
      replace p0 := Lw2.frz zr p0
      replace q1 := Lw2.cell q1
      replace p1 := Lw2.frz zr p1
      replace q2 := Lw2.cell q2
      replace p2 := Lw2.frz zr p2
      replace zr := Nat.lt_of_lt_of_le zr Lw2.size
      have z3 : w.heap.size < w2.heap.size := World.block_lt_of_cell? _ _ c10
      have z4 : w.heap.size + 1 < w2.heap.size := World.block_lt_of_cell? _ _ c20
      have sw2 : w1.heap.size ≤ w2.heap.size := Lw2.size
      rw [hb'.out]
      go_wp2_with fail
      refine (numbersOf_c a2 e2 d2 _ (by have := rb.out; omega) (by have := rb.out; omega) (by have := rb.out; omega) rb.out.2.2.2).mono ?_
      rintro e w3 ⟨r3, rfl, i3, _, xw3⟩
      have Lw3 : Ext w2 w3 := Ext.trans (by repeat (first | exact Ext.refl _ | assumption | apply Ext.drewN | apply Ext.drew | apply Ext.alloc)) xw3
      have Xw3 : Ext w w3 := Xw2.trans Lw3
      replace c10 := Lw3.cell c10
      replace c11 := Lw3.cell c11
      replace c12 := Lw3.cell c12
      replace c20 := Lw3.cell c20
      replace c21 := Lw3.cell c21
      replace c22 := Lw3.cell c22
      replace q0 := Lw3.cell q0
      replace p0 := Lw3.frz zr p0
      replace q1 := Lw3.cell q1
      replace p1 := Lw3.frz zr p1
      replace q2 := Lw3.cell q2
      replace p2 := Lw3.frz zr p2
      replace zr := Nat.lt_of_lt_of_le zr Lw3.size
      have z5 : w.heap.size < w3.heap.size := World.block_lt_of_cell? _ _ c10
      have z6 : w.heap.size + 1 < w3.heap.size := World.block_lt_of_cell? _ _ c20
      have sw3 : w2.heap.size ≤ w3.heap.size := Lw3.size
      have i3o := i3
      have q30 := q0
      have q31 := q1
      have q32 := q2
      have p30 := p0
      have p31 := p1
      have p32 := p2
      have zr3 := zr
      go_wp2_with fail
      refine (numbersOf_c a1 e1 d1 _ (by have := ra.out; omega) (by have := ra.out; omega) (by have := ra.out; omega) ra.out.2.2.2).mono ?_
      rintro e w4 ⟨r4, rfl, i4, _, xw4⟩
      have Lw4 : Ext w3 w4 := Ext.trans (by repeat (first | exact Ext.refl _ | assumption | apply Ext.drewN | apply Ext.drew | apply Ext.alloc)) xw4
      have Xw4 : Ext w w4 := Xw3.trans Lw4
      replace c10 := Lw4.cell c10
      replace c11 := Lw4.cell c11
      replace c12 := Lw4.cell c12
      replace c20 := Lw4.cell c20
      replace c21 := Lw4.cell c21
      replace c22 := Lw4.cell c22
      replace i3 := i3.ext Lw4
      replace q0 := Lw4.cell q0
      replace p0 := Lw4.frz zr p0
      replace q1 := Lw4.cell q1
      replace p1 := Lw4.frz zr p1
      replace q2 := Lw4.cell q2
      replace p2 := Lw4.frz zr p2
      replace zr := Nat.lt_of_lt_of_le zr Lw4.size
      have z7 : w.heap.size < w4.heap.size := World.block_lt_of_cell? _ _ c10
      have z8 : w.heap.size + 1 < w4.heap.size := World.block_lt_of_cell? _ _ c20
      have sw4 : w3.heap.size ≤ w4.heap.size := Lw4.size
      have hsd := Beside.start xw4 i4 (by simp)
      have hxl := numL_len a1 e1 d1
      have hcl := cntL_le (a := a1) (b := e1) (s := d1) (by have := ra.out; omega) (by have := ra.out; omega) ra.out.2.2.2
      replace hxl : (numL a1 e1 d1).length ≤ 2000 := by omega
      have hin2 := Lib.hid (show ∀ x ∈ sortL (meetL (numL a1 e1 d1) (numL a2 e2 d2)), -1000000 ≤ x ∧ x ≤ 1000000 from fun x hx => hin.out x (by unfold meetR; rw [← hms.out]; exact hx))
      have hmr := Lib.hid (show meetR a1 e1 d1 a2 e2 d2 = sortL (meetL (numL a1 e1 d1) (numL a2 e2 d2)) by unfold meetR; rw [hms.out])
      clear hms hin hcl
      generalize numL a1 e1 d1 = xs at *
      generalize numL a2 e2 d2 = ys at *
      obtain ⟨aa, cc, rfl⟩ := i4.form
      clear c10 c11 c12 c20 c21 c22 i4
      replace zr := zr
      go_wp2_with fail
      go_loopw [6, 24] (fun v i wr => ∃ k : Nat, k ≤ xs.length ∧ i = .int .i64 k ∧ Beside w3.heap.size w3 wr v (meetL (xs.take k) ys) (.slice aa xs.length cc) xs) (fun _ i _ => xs.length - (intOf i).toNat)
      case atStart => exact ⟨0, Nat.zero_le _, rfl, hsd⟩
      case round =>
        obtain ⟨k, hk, rfl, hB⟩ := hrel
        have hz := hB.size
        have hl := Lib.hid (meetL_len (xs.take k) ys)
        have hor := Lib.hid (show Ints wr _ _ ys from i3o.ext hB.bel)
        have hir := hB.ints
        by_cases hlt : k < xs.length
        · obtain ⟨_, _, hv, _, _, _, hc⟩ := hir
          cases hv
          obtain ⟨b, off, rfl, _, hcell, _⟩ := hc k hlt
          have g : xs.getD k 0 = xs[k] := by simp [hlt]
          rw [g] at hcell
          have hs := Lib.hid (meetL_take xs ys k hlt)
          clear hc g
          cases hq : hasB ys xs[k]
          · have hs' := Lib.hid (show meetL (xs.take (k+1)) ys = meetL (xs.take k) ys by rw [hs.out, show ys.contains xs[k] = false from hq]; simp)
            have hq' := Lib.hid hq
            clear hq
            go_wp2_with fail
            refine (contains_c _ _ _ _ _ hor.out).mono ?_
            rintro e w' ⟨rfl, rfl⟩
            rw [hq'.out]
            go_wp2_with fail
            go_roundw
            case rel => exact ⟨k+1, by omega, by go_num, by rw [hs'.out]; exact hB⟩
            case measure => simp [intOf]; omega
          · have hs' := Lib.hid (show meetL (xs.take (k+1)) ys = meetL (xs.take k) ys ++ [xs[k]] by rw [hs.out, show ys.contains xs[k] = true from hq]; rfl)
            have hq' := Lib.hid hq
            clear hq
            go_wp2_with fail
            refine (contains_c _ _ _ _ _ hor.out).mono ?_
            rintro e w' ⟨rfl, rfl⟩
            rw [hq'.out]
            go_wp2_with (at_builtin; refine wpList_app rfl (.tmp 31) (.tmp 33) rfl rfl rfl (hB.own.ext ((Ext.refl _).alloc _)) (Ints.one _ 0 _ (Nat.zero_le _)) (by have := hl.out; simp only [List.length_cons, List.length_nil, List.length_take] at this ⊢; omega) (by simp; omega) ?_)
            intro v' w5 ho3 hg3 hb3 hv3
            have hB3 := Lib.hid (hB.app _ ho3 hg3 hb3 (by simpa using hv3))
            clear ho3 hg3 hb3 hv3 hB hcell
            go_wp2_with fail
            go_roundw
            case rel => exact ⟨k+1, by omega, by go_num, by rw [hs'.out]; exact hB3.out⟩
            case measure => simp [intOf]; omega
        · obtain rfl : k = xs.length := by omega
          have hbl : Ext w3 wr := hB.bel
          have how := Lib.hid (show OwnI wr w3.heap.size u6 (meetL xs ys) by have := hB.own; rw [List.take_length] at this; exact this)
          have hll := meetL_len xs ys
          clear hir hB
          go_wp2_with fail
          refine (sort_c _ _ _ w3.heap.size how.out.z (by omega) (by omega)).mono ?_
          rintro e w5 ⟨rfl, ho5, hb5⟩
          have X5 : Ext w3 w5 := Below.trans hbl hb5
          have i5 := ho5.ints (by rw [sortL_len]; omega)
          clear ho5 hb5
          have zr5 := Nat.lt_of_lt_of_le zr3 X5.size
          go_wp2_with fail
          refine (normalOf_c _ _ _ _ (i5.ext (by repeat (first | exact Ext.refl _ | assumption | apply Ext.drewN | apply Ext.drew | apply Ext.alloc))) hin2.out).mono ?_
          rintro e w6 ⟨rfl, xw6⟩
          have X6 : Ext w3 w6 := X5.trans (Ext.trans (by repeat (first | exact Ext.refl _ | assumption | apply Ext.drewN | apply Ext.drew | apply Ext.alloc)) xw6)
          have zr6 := Nat.lt_of_lt_of_le zr3 X6.size
          replace q0 := X6.cell q30
          replace q1 := X6.cell q31
          replace q2 := X6.cell q32
          replace p0 := X6.frz zr3 p30
          replace p1 := X6.frz zr3 p31
          replace p2 := X6.frz zr3 p32
          go_wp2_with fail
          refine bodyPost_ret (v := .agg #[.int .i64 (normL (sortL (meetL xs ys))).1, .int .i64 (normL (sortL (meetL xs ys))).2.1, .int .i64 (normL (sortL (meetL xs ys))).2.2]) (by simp only [results, Try.results11]; go_simp) rfl ⟨?_, ?_⟩
          · rw [hr.out, hmr.out]
          · exact (((Xw3.trans (X6.trans (by repeat (first | exact Ext.refl _ | assumption | apply Ext.drewN | apply Ext.drew | apply Ext.alloc)))).setCell (by first | omega | (simp <;> omega)) _).setCell (by first | omega | (simp <;> omega)) _).setCell (by first | omega | (simp <;> omega)) _

set_option maxHeartbeats 6400000 in
theorem specMeetRanges_c (a1 e1 d1 a2 e2 d2 : Int) (w : World) :
    Calls Try.prog 13 #[.agg #[.int .i64 a1, .int .i64 e1, .int .i64 d1], .agg #[.int .i64 a2, .int .i64 e2, .int .i64 d2]] w (fun e w' => e = .returned (.agg #[.int .i64 (meetT a1 e1 d1 a2 e2 d2).1, .int .i64 (meetT a1 e1 d1 a2 e2 d2).2.1, .int .i64 (meetT a1 e1 d1 a2 e2 d2).2.2]) ∧ Ext w w') := by
  cases ha : rangeB a1 e1 d1
  · have hr := Lib.hid (show meetT a1 e1 d1 a2 e2 d2 = (0, 0, 0) by unfold meetT; rw [ha]; rfl)
    go_enter Try.func13, Try.ntmps13
    go_wp2_with fail
    refine (validRange_c a1 e1 d1 _).mono ?_
    rintro e w1 ⟨rfl, xw1⟩
    have Lw1 : Ext w w1 := Ext.trans (by repeat (first | exact Ext.refl _ | assumption | apply Ext.drewN | apply Ext.drew | apply Ext.alloc)) xw1
    have Xw1 : Ext w w1 := Lw1
    have c10 : w1.cell? ⟨w.heap.size, 0, none⟩ = some (.int .i64 a1) := xw1.cell (by first | (simp; done) | ((repeat rw [World.cell?_alloc_lt _ _ _ (by simp <;> omega)]); simp; done) | (go_simp; done))
    have c11 : w1.cell? ⟨w.heap.size, 1, none⟩ = some (.int .i64 e1) := xw1.cell (by first | (simp; done) | ((repeat rw [World.cell?_alloc_lt _ _ _ (by simp <;> omega)]); simp; done) | (go_simp; done))
    have c12 : w1.cell? ⟨w.heap.size, 2, none⟩ = some (.int .i64 d1) := xw1.cell (by first | (simp; done) | ((repeat rw [World.cell?_alloc_lt _ _ _ (by simp <;> omega)]); simp; done) | (go_simp; done))
    have c20 : w1.cell? ⟨w.heap.size + 1, 0, none⟩ = some (.int .i64 a2) := xw1.cell (by first | (simp; done) | ((repeat rw [World.cell?_alloc_lt _ _ _ (by simp <;> omega)]); simp; done) | (go_simp; done))
    have c21 : w1.cell? ⟨w.heap.size + 1, 1, none⟩ = some (.int .i64 e2) := xw1.cell (by first | (simp; done) | ((repeat rw [World.cell?_alloc_lt _ _ _ (by simp <;> omega)]); simp; done) | (go_simp; done))
    have c22 : w1.cell? ⟨w.heap.size + 1, 2, none⟩ = some (.int .i64 d2) := xw1.cell (by first | (simp; done) | ((repeat rw [World.cell?_alloc_lt _ _ _ (by simp <;> omega)]); simp; done) | (go_simp; done))
    have q0 : w1.cell? ⟨w.heap.size + 1 + 1, 0, none⟩ = some (.int .i64 0) := xw1.cell (by first | (simp; done) | ((repeat rw [World.cell?_alloc_lt _ _ _ (by simp <;> omega)]); simp; done) | (go_simp; done))
    have q1 : w1.cell? ⟨w.heap.size + 1 + 1, 1, none⟩ = some (.int .i64 0) := xw1.cell (by first | (simp; done) | ((repeat rw [World.cell?_alloc_lt _ _ _ (by simp <;> omega)]); simp; done) | (go_simp; done))
    have q2 : w1.cell? ⟨w.heap.size + 1 + 1, 2, none⟩ = some (.int .i64 0) := xw1.cell (by first | (simp; done) | ((repeat rw [World.cell?_alloc_lt _ _ _ (by simp <;> omega)]); simp; done) | (go_simp; done))
    have zr : w.heap.size + 1 + 1 < w1.heap.size := World.block_lt_of_cell? _ _ q0
    have p0 : w1.frozen? ⟨w.heap.size + 1 + 1, 0, none⟩ = false := xw1.frz (by simp <;> omega) (by first | (simp; done) | (go_simp; done))
    have p1 : w1.frozen? ⟨w.heap.size + 1 + 1, 1, none⟩ = false := xw1.frz (by simp <;> omega) (by first | (simp; done) | (go_simp; done))
    have p2 : w1.frozen? ⟨w.heap.size + 1 + 1, 2, none⟩ = false := xw1.frz (by simp <;> omega) (by first | (simp; done) | (go_simp; done))
    have z1 : w.heap.size < w1.heap.size := World.block_lt_of_cell? _ _ c10
    have z2 : w.heap.size + 1 < w1.heap.size := World.block_lt_of_cell? _ _ c20
    have sw1 : w.heap.size ≤ w1.heap.size := Lw1.size
    rw [ha]
    go_wp2_with fail
    refine bodyPost_ret (v := .agg #[.int .i64 (0), .int .i64 (0), .int .i64 (0)]) (by simp only [results, Try.results13]; go_simp) rfl ⟨?_, ?_⟩
    · rw [hr.out]
    · exact (((Xw1.trans (by repeat (first | exact Ext.refl _ | assumption | apply Ext.drewN | apply Ext.drew | apply Ext.alloc))).setCell (by first | omega | (simp <;> omega)) _).setCell (by first | omega | (simp <;> omega)) _).setCell (by first | omega | (simp <;> omega)) _
  · cases hb : rangeB a2 e2 d2
    · have hr := Lib.hid (show meetT a1 e1 d1 a2 e2 d2 = (0, 0, 0) by unfold meetT; rw [ha, hb]; rfl)
      have ha' := Lib.hid ha
      have hb' := Lib.hid hb
      clear ha hb
      go_enter Try.func13, Try.ntmps13
      go_wp2_with fail
      refine (validRange_c a1 e1 d1 _).mono ?_
      rintro e w1 ⟨rfl, xw1⟩
      have Lw1 : Ext w w1 := Ext.trans (by repeat (first | exact Ext.refl _ | assumption | apply Ext.drewN | apply Ext.drew | apply Ext.alloc)) xw1
      have Xw1 : Ext w w1 := Lw1
      have c10 : w1.cell? ⟨w.heap.size, 0, none⟩ = some (.int .i64 a1) := xw1.cell (by first | (simp; done) | ((repeat rw [World.cell?_alloc_lt _ _ _ (by simp <;> omega)]); simp; done) | (go_simp; done))
      have c11 : w1.cell? ⟨w.heap.size, 1, none⟩ = some (.int .i64 e1) := xw1.cell (by first | (simp; done) | ((repeat rw [World.cell?_alloc_lt _ _ _ (by simp <;> omega)]); simp; done) | (go_simp; done))
      have c12 : w1.cell? ⟨w.heap.size, 2, none⟩ = some (.int .i64 d1) := xw1.cell (by first | (simp; done) | ((repeat rw [World.cell?_alloc_lt _ _ _ (by simp <;> omega)]); simp; done) | (go_simp; done))
      have c20 : w1.cell? ⟨w.heap.size + 1, 0, none⟩ = some (.int .i64 a2) := xw1.cell (by first | (simp; done) | ((repeat rw [World.cell?_alloc_lt _ _ _ (by simp <;> omega)]); simp; done) | (go_simp; done))
      have c21 : w1.cell? ⟨w.heap.size + 1, 1, none⟩ = some (.int .i64 e2) := xw1.cell (by first | (simp; done) | ((repeat rw [World.cell?_alloc_lt _ _ _ (by simp <;> omega)]); simp; done) | (go_simp; done))
      have c22 : w1.cell? ⟨w.heap.size + 1, 2, none⟩ = some (.int .i64 d2) := xw1.cell (by first | (simp; done) | ((repeat rw [World.cell?_alloc_lt _ _ _ (by simp <;> omega)]); simp; done) | (go_simp; done))
      have q0 : w1.cell? ⟨w.heap.size + 1 + 1, 0, none⟩ = some (.int .i64 0) := xw1.cell (by first | (simp; done) | ((repeat rw [World.cell?_alloc_lt _ _ _ (by simp <;> omega)]); simp; done) | (go_simp; done))
      have q1 : w1.cell? ⟨w.heap.size + 1 + 1, 1, none⟩ = some (.int .i64 0) := xw1.cell (by first | (simp; done) | ((repeat rw [World.cell?_alloc_lt _ _ _ (by simp <;> omega)]); simp; done) | (go_simp; done))
      have q2 : w1.cell? ⟨w.heap.size + 1 + 1, 2, none⟩ = some (.int .i64 0) := xw1.cell (by first | (simp; done) | ((repeat rw [World.cell?_alloc_lt _ _ _ (by simp <;> omega)]); simp; done) | (go_simp; done))
      have zr : w.heap.size + 1 + 1 < w1.heap.size := World.block_lt_of_cell? _ _ q0
      have p0 : w1.frozen? ⟨w.heap.size + 1 + 1, 0, none⟩ = false := xw1.frz (by simp <;> omega) (by first | (simp; done) | (go_simp; done))
      have p1 : w1.frozen? ⟨w.heap.size + 1 + 1, 1, none⟩ = false := xw1.frz (by simp <;> omega) (by first | (simp; done) | (go_simp; done))
      have p2 : w1.frozen? ⟨w.heap.size + 1 + 1, 2, none⟩ = false := xw1.frz (by simp <;> omega) (by first | (simp; done) | (go_simp; done))
      have z1 : w.heap.size < w1.heap.size := World.block_lt_of_cell? _ _ c10
      have z2 : w.heap.size + 1 < w1.heap.size := World.block_lt_of_cell? _ _ c20
      have sw1 : w.heap.size ≤ w1.heap.size := Lw1.size
      rw [ha'.out]
      go_wp2_with fail
      refine (validRange_c a2 e2 d2 _).mono ?_
      rintro e w2 ⟨rfl, xw2⟩
      have Lw2 : Ext w1 w2 := Ext.trans (by repeat (first | exact Ext.refl _ | assumption | apply Ext.drewN | apply Ext.drew | apply Ext.alloc)) xw2
      have Xw2 : Ext w w2 := Xw1.trans Lw2
      replace c10 := Lw2.cell c10
      replace c11 := Lw2.cell c11
      replace c12 := Lw2.cell c12
      replace c20 := Lw2.cell c20
      replace c21 := Lw2.cell c21
      replace c22 := Lw2.cell c22
      replace q0 := Lw2.cell q0
      replace p0 := Lw2.frz zr p0
      replace q1 := Lw2.cell q1
      replace p1 := Lw2.frz zr p1
      replace q2 := Lw2.cell q2
      replace p2 := Lw2.frz zr p2
      replace zr := Nat.lt_of_lt_of_le zr Lw2.size
      have z3 : w.heap.size < w2.heap.size := World.block_lt_of_cell? _ _ c10
      have z4 : w.heap.size + 1 < w2.heap.size := World.block_lt_of_cell? _ _ c20
      have sw2 : w1.heap.size ≤ w2.heap.size := Lw2.size
      rw [hb'.out]
      go_wp2_with fail
      refine bodyPost_ret (v := .agg #[.int .i64 (0), .int .i64 (0), .int .i64 (0)]) (by simp only [results, Try.results13]; go_simp) rfl ⟨?_, ?_⟩
      · rw [hr.out]
      · exact (((Xw2.trans (by repeat (first | exact Ext.refl _ | assumption | apply Ext.drewN | apply Ext.drew | apply Ext.alloc))).setCell (by first | omega | (simp <;> omega)) _).setCell (by first | omega | (simp <;> omega)) _).setCell (by first | omega | (simp <;> omega)) _
    · have hr := Lib.hid (show meetT a1 e1 d1 a2 e2 d2 = normL (meetR a1 e1 d1 a2 e2 d2) by unfold meetT; rw [ha, hb]; rfl)
      have hin := Lib.hid (meetR_in (a2 := a2) (e2 := e2) (d2 := d2) ha)
      have ha' := Lib.hid ha
      have hb' := Lib.hid hb
      have ra := Lib.hid (rangeB_in ha)
      have rb := Lib.hid (rangeB_in hb)
      clear ha hb
      go_enter Try.func13, Try.ntmps13
      go_wp2_with fail
      refine (validRange_c a1 e1 d1 _).mono ?_
      rintro e w1 ⟨rfl, xw1⟩
      have Lw1 : Ext w w1 := Ext.trans (by repeat (first | exact Ext.refl _ | assumption | apply Ext.drewN | apply Ext.drew | apply Ext.alloc)) xw1
      have Xw1 : Ext w w1 := Lw1
      have c10 : w1.cell? ⟨w.heap.size, 0, none⟩ = some (.int .i64 a1) := xw1.cell (by first | (simp; done) | ((repeat rw [World.cell?_alloc_lt _ _ _ (by simp <;> omega)]); simp; done) | (go_simp; done))
      have c11 : w1.cell? ⟨w.heap.size, 1, none⟩ = some (.int .i64 e1) := xw1.cell (by first | (simp; done) | ((repeat rw [World.cell?_alloc_lt _ _ _ (by simp <;> omega)]); simp; done) | (go_simp; done))
      have c12 : w1.cell? ⟨w.heap.size, 2, none⟩ = some (.int .i64 d1) := xw1.cell (by first | (simp; done) | ((repeat rw [World.cell?_alloc_lt _ _ _ (by simp <;> omega)]); simp; done) | (go_simp; done))
      have c20 : w1.cell? ⟨w.heap.size + 1, 0, none⟩ = some (.int .i64 a2) := xw1.cell (by first | (simp; done) | ((repeat rw [World.cell?_alloc_lt _ _ _ (by simp <;> omega)]); simp; done) | (go_simp; done))
      have c21 : w1.cell? ⟨w.heap.size + 1, 1, none⟩ = some (.int .i64 e2) := xw1.cell (by first | (simp; done) | ((repeat rw [World.cell?_alloc_lt _ _ _ (by simp <;> omega)]); simp; done) | (go_simp; done))
      have c22 : w1.cell? ⟨w.heap.size + 1, 2, none⟩ = some (.int .i64 d2) := xw1.cell (by first | (simp; done) | ((repeat rw [World.cell?_alloc_lt _ _ _ (by simp <;> omega)]); simp; done) | (go_simp; done))
      have q0 : w1.cell? ⟨w.heap.size + 1 + 1, 0, none⟩ = some (.int .i64 0) := xw1.cell (by first | (simp; done) | ((repeat rw [World.cell?_alloc_lt _ _ _ (by simp <;> omega)]); simp; done) | (go_simp; done))
      have q1 : w1.cell? ⟨w.heap.size + 1 + 1, 1, none⟩ = some (.int .i64 0) := xw1.cell (by first | (simp; done) | ((repeat rw [World.cell?_alloc_lt _ _ _ (by simp <;> omega)]); simp; done) | (go_simp; done))
      have q2 : w1.cell? ⟨w.heap.size + 1 + 1, 2, none⟩ = some (.int .i64 0) := xw1.cell (by first | (simp; done) | ((repeat rw [World.cell?_alloc_lt _ _ _ (by simp <;> omega)]); simp; done) | (go_simp; done))
      have zr : w.heap.size + 1 + 1 < w1.heap.size := World.block_lt_of_cell? _ _ q0
      have p0 : w1.frozen? ⟨w.heap.size + 1 + 1, 0, none⟩ = false := xw1.frz (by simp <;> omega) (by first | (simp; done) | (go_simp; done))
      have p1 : w1.frozen? ⟨w.heap.size + 1 + 1, 1, none⟩ = false := xw1.frz (by simp <;> omega) (by first | (simp; done) | (go_simp; done))
      have p2 : w1.frozen? ⟨w.heap.size + 1 + 1, 2, none⟩ = false := xw1.frz (by simp <;> omega) (by first | (simp; done) | (go_simp; done))
      have z1 : w.heap.size < w1.heap.size := World.block_lt_of_cell? _ _ c10
      have z2 : w.heap.size + 1 < w1.heap.size := World.block_lt_of_cell? _ _ c20
      have sw1 : w.heap.size ≤ w1.heap.size := Lw1.size
      rw [ha'.out]
      go_wp2_with fail
      refine (validRange_c a2 e2 d2 _).mono ?_
      rintro e w2 ⟨rfl, xw2⟩
      have Lw2 : Ext w1 w2 := Ext.trans (by repeat (first | exact Ext.refl _ | assumption | apply Ext.drewN | apply Ext.drew | apply Ext.alloc)) xw2
      have Xw2 : Ext w w2 := Xw1.trans Lw2
      replace c10 := Lw2.cell c10
      replace c11 := Lw2.cell c11
      replace c12 := Lw2.cell c12
      replace c20 := Lw2.cell c20
      replace c21 := Lw2.cell c21
      replace c22 := Lw2.cell c22
      replace q0 := Lw2.cell q0
      replace p0 := Lw2.frz zr p0
      replace q1 := Lw2.cell q1
      replace p1 := Lw2.frz zr p1
      replace q2 := Lw2.cell q2
      replace p2 := Lw2.frz zr p2
      replace zr := Nat.lt_of_lt_of_le zr Lw2.size
      have z3 : w.heap.size < w2.heap.size := World.block_lt_of_cell? _ _ c10
      have z4 : w.heap.size + 1 < w2.heap.size := World.block_lt_of_cell? _ _ c20
      have sw2 : w1.heap.size ≤ w2.heap.size := Lw2.size
      rw [hb'.out]
      go_wp2_with fail
      refine wp_region_held_drew (S := fun w' => w'.cell? ⟨w.heap.size, 0, none⟩ = some (.int .i64 a1) ∧ w'.cell? ⟨w.heap.size, 1, none⟩ = some (.int .i64 e1) ∧ w'.cell? ⟨w.heap.size, 2, none⟩ = some (.int .i64 d1) ∧ w'.cell? ⟨w.heap.size + 1, 0, none⟩ = some (.int .i64 a2) ∧ w'.cell? ⟨w.heap.size + 1, 1, none⟩ = some (.int .i64 e2) ∧ w'.cell? ⟨w.heap.size + 1, 2, none⟩ = some (.int .i64 d2)) (by kernel_rfl) ⟨c10, c11, c12, c20, c21, c22⟩ (fun hHeld => ?_)
      refine wpAnyH_take (i := 0) (v := ?_) rfl (by kernel_rfl) (by kernel_rfl) (by kernel_rfl) (fun _ _ _ h => h) (Or.inl ⟨by rfl, ?_⟩) (by assumption) ?_
      rotate_left
      · (intro w hSw; (try dsimp only at hSw); go_simp; try with_reducible rfl)
      try simp only [Act.put, List.setIfInBounds_toArray, List.set_cons_zero, List.set_cons_succ, List.getElem_toArray, List.getElem_cons_zero]
      refine wpAnyH_take (i := 3) (v := ?_) rfl (by kernel_rfl) (by kernel_rfl) (by kernel_rfl) (fun _ _ _ h => h) (Or.inl ⟨by rfl, ?_⟩) (by assumption) ?_
      rotate_left
      · (intro w hSw; (try dsimp only at hSw); go_simp; try with_reducible rfl)
      try simp only [Act.put, List.setIfInBounds_toArray, List.set_cons_zero, List.set_cons_succ, List.getElem_toArray, List.getElem_cons_succ, List.getElem_cons_zero]
      refine wpAnyH_ready (rs := [1]) (by kernel_rfl) (by simp) ?_
      refine AllReadyH.cons rfl (fun K hK => ?_) AllReadyH.nil
      try simp only [Act.put, List.setIfInBounds_toArray, List.set_cons_zero, List.set_cons_succ, List.getElem_toArray, List.getElem_cons_succ, List.getElem_cons_zero]
      go_simp
      go_at_call 57
      refine (numbers_c a1 e1 d1 _ (by have := ra.out; omega) (by have := ra.out; omega) (by have := ra.out; omega) ra.out.2.2.2).mono ?_
      rintro e w3 ⟨r3, rfl, i3, _, xw3⟩
      have Yw3 : Ext (w2) w3 := Ext.trans (by repeat (first | exact Ext.refl _ | assumption | apply Ext.drewN | apply Ext.drew | apply Ext.alloc)) xw3
      refine hK.out _ _ ⟨Yw3.cell c10, Yw3.cell c11, Yw3.cell c12, Yw3.cell c20, Yw3.cell c21, Yw3.cell c22⟩ (fun hHeld => ?_)
      clear hK K
      try simp only [Act.put, List.setIfInBounds_toArray, List.set_cons_zero, List.set_cons_succ, List.getElem_toArray, List.getElem_cons_succ, List.getElem_cons_zero]
      refine wpAnyH_ready (rs := [2]) (by kernel_rfl) (by simp) ?_
      refine AllReadyH.cons rfl (fun K hK => ?_) AllReadyH.nil
      try simp only [Act.put, List.setIfInBounds_toArray, List.set_cons_zero, List.set_cons_succ, List.getElem_toArray, List.getElem_cons_succ, List.getElem_cons_zero]
      go_simp
      go_at_call 56
      refine (ascending_c _ _ _ _ (i3.ext (by repeat (first | exact Ext.refl _ | assumption | apply Ext.drewN | apply Ext.drew | apply Ext.alloc)))).mono ?_
      rintro e w4 ⟨r4, rfl, i4, _, xw4⟩
      have Yw4 : Ext (w2) w4 := Yw3.trans (Ext.trans (by repeat (first | exact Ext.refl _ | assumption | apply Ext.drewN | apply Ext.drew | apply Ext.alloc)) xw4)
      replace i3 := i3.ext (Ext.trans (by repeat (first | exact Ext.refl _ | assumption | apply Ext.drewN | apply Ext.drew | apply Ext.alloc)) xw4)
      refine hK.out _ _ ⟨Yw4.cell c10, Yw4.cell c11, Yw4.cell c12, Yw4.cell c20, Yw4.cell c21, Yw4.cell c22⟩ (fun hHeld => ?_)
      clear hK K
      try simp only [Act.put, List.setIfInBounds_toArray, List.set_cons_zero, List.set_cons_succ, List.getElem_toArray, List.getElem_cons_succ, List.getElem_cons_zero]
      refine wpAnyH_ready (rs := [4]) (by kernel_rfl) (by simp) ?_
      refine AllReadyH.cons rfl (fun K hK => ?_) AllReadyH.nil
      try simp only [Act.put, List.setIfInBounds_toArray, List.set_cons_zero, List.set_cons_succ, List.getElem_toArray, List.getElem_cons_succ, List.getElem_cons_zero]
      go_simp
      go_at_call 57
      refine (numbers_c a2 e2 d2 _ (by have := rb.out; omega) (by have := rb.out; omega) (by have := rb.out; omega) rb.out.2.2.2).mono ?_
      rintro e w5 ⟨r5, rfl, i5, _, xw5⟩
      have Yw5 : Ext (w2) w5 := Yw4.trans (Ext.trans (by repeat (first | exact Ext.refl _ | assumption | apply Ext.drewN | apply Ext.drew | apply Ext.alloc)) xw5)
      replace i3 := i3.ext (Ext.trans (by repeat (first | exact Ext.refl _ | assumption | apply Ext.drewN | apply Ext.drew | apply Ext.alloc)) xw5)
      replace i4 := i4.ext (Ext.trans (by repeat (first | exact Ext.refl _ | assumption | apply Ext.drewN | apply Ext.drew | apply Ext.alloc)) xw5)
      refine hK.out _ _ ⟨Yw5.cell c10, Yw5.cell c11, Yw5.cell c12, Yw5.cell c20, Yw5.cell c21, Yw5.cell c22⟩ (fun hHeld => ?_)
      clear hK K
      try simp only [Act.put, List.setIfInBounds_toArray, List.set_cons_zero, List.set_cons_succ, List.getElem_toArray, List.getElem_cons_succ, List.getElem_cons_zero]
      refine wpAnyH_ready (rs := [5]) (by kernel_rfl) (by simp) ?_
      refine AllReadyH.cons rfl (fun K hK => ?_) AllReadyH.nil
      try simp only [Act.put, List.setIfInBounds_toArray, List.set_cons_zero, List.set_cons_succ, List.getElem_toArray, List.getElem_cons_succ, List.getElem_cons_zero]
      go_simp
      go_at_call 55
      refine (common_c _ _ _ _ _ _ _ (i4.ext (by repeat (first | exact Ext.refl _ | assumption | apply Ext.drewN | apply Ext.drew | apply Ext.alloc))) (i5.ext (by repeat (first | exact Ext.refl _ | assumption | apply Ext.drewN | apply Ext.drew | apply Ext.alloc)))).mono ?_
      rintro e w6 ⟨r6, rfl, i6, _, xw6⟩
      have Yw6 : Ext (w2) w6 := Yw5.trans (Ext.trans (by repeat (first | exact Ext.refl _ | assumption | apply Ext.drewN | apply Ext.drew | apply Ext.alloc)) xw6)
      replace i3 := i3.ext (Ext.trans (by repeat (first | exact Ext.refl _ | assumption | apply Ext.drewN | apply Ext.drew | apply Ext.alloc)) xw6)
      replace i4 := i4.ext (Ext.trans (by repeat (first | exact Ext.refl _ | assumption | apply Ext.drewN | apply Ext.drew | apply Ext.alloc)) xw6)
      replace i5 := i5.ext (Ext.trans (by repeat (first | exact Ext.refl _ | assumption | apply Ext.drewN | apply Ext.drew | apply Ext.alloc)) xw6)
      refine hK.out _ _ ⟨Yw6.cell c10, Yw6.cell c11, Yw6.cell c12, Yw6.cell c20, Yw6.cell c21, Yw6.cell c22⟩ (fun hHeld => ?_)
      clear hK K
      try simp only [Act.put, List.setIfInBounds_toArray, List.set_cons_zero, List.set_cons_succ, List.getElem_toArray, List.getElem_cons_succ, List.getElem_cons_zero]
      refine wpAnyH_ready (rs := [6]) (by kernel_rfl) (by simp) ?_
      refine AllReadyH.cons rfl (fun K hK => ?_) AllReadyH.nil
      try simp only [Act.put, List.setIfInBounds_toArray, List.set_cons_zero, List.set_cons_succ, List.getElem_toArray, List.getElem_cons_succ, List.getElem_cons_zero]
      go_simp
      go_at_call 54
      refine (normal_c _ _ _ _ (i6.ext (by repeat (first | exact Ext.refl _ | assumption | apply Ext.drewN | apply Ext.drew | apply Ext.alloc))) hin.out).mono ?_
      rintro e w7 ⟨rfl, xw7⟩
      have Yw7 : Ext (w2) w7 := Yw6.trans (Ext.trans (by repeat (first | exact Ext.refl _ | assumption | apply Ext.drewN | apply Ext.drew | apply Ext.alloc)) xw7)
      replace i3 := i3.ext (Ext.trans (by repeat (first | exact Ext.refl _ | assumption | apply Ext.drewN | apply Ext.drew | apply Ext.alloc)) xw7)
      replace i4 := i4.ext (Ext.trans (by repeat (first | exact Ext.refl _ | assumption | apply Ext.drewN | apply Ext.drew | apply Ext.alloc)) xw7)
      replace i5 := i5.ext (Ext.trans (by repeat (first | exact Ext.refl _ | assumption | apply Ext.drewN | apply Ext.drew | apply Ext.alloc)) xw7)
      replace i6 := i6.ext (Ext.trans (by repeat (first | exact Ext.refl _ | assumption | apply Ext.drewN | apply Ext.drew | apply Ext.alloc)) xw7)
      have qq0 := Yw7.cell q0
      have pp0 := Yw7.frz zr p0
      have qq1 := Yw7.cell q1
      have pp1 := Yw7.frz zr p1
      have qq2 := Yw7.cell q2
      have pp2 := Yw7.frz zr p2
      have zz := Nat.lt_of_lt_of_le zr Yw7.size
      have hc10 := Yw7.cell c10
      have hc11 := Yw7.cell c11
      have hc12 := Yw7.cell c12
      have hc20 := Yw7.cell c20
      have hc21 := Yw7.cell c21
      have hc22 := Yw7.cell c22
      refine hK.out _ _ ⟨Yw7.cell c10, Yw7.cell c11, Yw7.cell c12, Yw7.cell c20, Yw7.cell c21, Yw7.cell c22⟩ (fun hHeld => ?_)
      clear hK K
      try simp only [Act.put, List.setIfInBounds_toArray, List.set_cons_zero, List.set_cons_succ, List.getElem_toArray, List.getElem_cons_succ, List.getElem_cons_zero]
      refine wpAnyH_ready (rs := [7]) (by kernel_rfl) (by simp) ?_
      refine AllReadyH.cons rfl (fun K hK => ?_) AllReadyH.nil
      try simp only [Act.put, List.getElem_toArray, List.getElem_cons_succ, List.getElem_cons_zero]
      go_simp
      refine hK.out _ _ ⟨((((Chg.refl (w.heap.size + 1 + 1) (w.heap.size + 1 + 1 + 1) _).setCell (by simp) (by simp) _).setCell (by simp) (by simp) _).setCell (by simp) (by simp) _).cell (by first | (left; omega) | (right; omega)) hc10, ((((Chg.refl (w.heap.size + 1 + 1) (w.heap.size + 1 + 1 + 1) _).setCell (by simp) (by simp) _).setCell (by simp) (by simp) _).setCell (by simp) (by simp) _).cell (by first | (left; omega) | (right; omega)) hc11, ((((Chg.refl (w.heap.size + 1 + 1) (w.heap.size + 1 + 1 + 1) _).setCell (by simp) (by simp) _).setCell (by simp) (by simp) _).setCell (by simp) (by simp) _).cell (by first | (left; omega) | (right; omega)) hc12, ((((Chg.refl (w.heap.size + 1 + 1) (w.heap.size + 1 + 1 + 1) _).setCell (by simp) (by simp) _).setCell (by simp) (by simp) _).setCell (by simp) (by simp) _).cell (by first | (left; omega) | (right; omega)) hc20, ((((Chg.refl (w.heap.size + 1 + 1) (w.heap.size + 1 + 1 + 1) _).setCell (by simp) (by simp) _).setCell (by simp) (by simp) _).setCell (by simp) (by simp) _).cell (by first | (left; omega) | (right; omega)) hc21, ((((Chg.refl (w.heap.size + 1 + 1) (w.heap.size + 1 + 1 + 1) _).setCell (by simp) (by simp) _).setCell (by simp) (by simp) _).setCell (by simp) (by simp) _).cell (by first | (left; omega) | (right; omega)) hc22⟩ (fun hHeld => ?_)
      clear hK K
      try simp only [Act.put, List.setIfInBounds_toArray, List.set_cons_zero, List.set_cons_succ, List.getElem_toArray, List.getElem_cons_succ, List.getElem_cons_zero]
      refine wpAnyH_done (by kernel_rfl) ?_ _
      all_goals
        go_wp2_with fail
        refine bodyPost_ret (v := .agg #[.int .i64 ((normL (meetL (ascL (numL a1 e1 d1)) (numL a2 e2 d2))).1), .int .i64 ((normL (meetL (ascL (numL a1 e1 d1)) (numL a2 e2 d2))).2.1), .int .i64 ((normL (meetL (ascL (numL a1 e1 d1)) (numL a2 e2 d2))).2.2)]) (by simp only [results, Try.results13]; go_simp) rfl ⟨?_, ?_⟩
        · rw [hr.out]; rfl
        · exact (((Xw2.trans (Yw7.trans (by repeat (first | exact Ext.refl _ | assumption | apply Ext.drewN | apply Ext.drew | apply Ext.alloc)))).setCell (by first | omega | (simp <;> omega)) _).setCell (by first | omega | (simp <;> omega)) _).setCell (by first | omega | (simp <;> omega)) _

end Go.Proofs.Ytjpngmdfnglabaa
