/- FnExactIsOneToOne returns true for every view: no condition. -/
import Derived.Test.YtfdpoepidlmbaaaExA
import Derived.Test.YtfdpoepidlmbaaaLwB
namespace Go.Proofs.Ytfdpoepidlmbaaa
open Go.RowKit
set_option linter.unusedVariables false
set_option maxRecDepth 100000

theorem szV_ge {left : Int} {n m : Nat} (h0 : 0 ≤ left) (h : ¬ szV left n m < 0) : (n : Int) ≤ left ∧ (m : Int) ≤ left ∧ szV left n m = left - n - m := by
  unfold szV at h ⊢
  have g := szN_ge left n
  split at h
  · omega
  · rename_i h1
    rw [if_neg h1]
    have g2 := szN_ge (szN left n) m
    omega

set_option maxHeartbeats 1000000 in
theorem lawIsOneToOne_c (base : Int) (a a2 : Option Addr) (cap cap2 : Nat) (shape strides : List Int) (w : World) (hsh : Raw w (.slice a shape.length cap) shape) (hst : Raw w (.slice a2 strides.length cap2) strides) (hn : shape.length ≤ maxLen) (hn2 : strides.length ≤ maxLen) :
    Calls Try.prog 12 #[.agg #[.int .i64 base, .slice a shape.length cap, .slice a2 strides.length cap2]] w fun e w' => e = .returned (.bool true) ∧ Ext w w' := by
  by_cases h : szV 1048576 shape.length strides.length < 0
  · go_enter Try.func12, Try.ntmps12
    go_wp2_with fail
    refine (szView_c base a a2 _ cap _ cap2 _ _ (by omega) (by omega) hn hn2).mono ?_
    rintro e w1 ⟨rfl, hx1⟩
    go_wp2_with fail
    go_ret
    exact ⟨rfl, Ext.trans (by repeat (first | exact Ext.refl _ | assumption | apply Ext.drewN | apply Ext.drew | apply Ext.alloc)) hx1⟩
  · obtain ⟨hl1, hl2, _⟩ := szV_ge (by omega) h
    go_enter Try.func12, Try.ntmps12
    go_wp2_with fail
    refine (szView_c base a a2 _ cap _ cap2 _ _ (by omega) (by omega) hn hn2).mono ?_
    rintro e w1 ⟨rfl, hx1⟩
    have R1 := hx1.rule
    have X1 : Ext w w1 := Ext.trans (by repeat (first | exact Ext.refl _ | assumption | apply Ext.drewN | apply Ext.drew | apply Ext.alloc)) hx1
    go_wp2_with fail
    refine (toView_c base _ _ shape strides _ (hsh.ext (X1.trans (by repeat (first | exact Ext.refl _ | assumption | apply Ext.drewN | apply Ext.drew | apply Ext.alloc)))) (hst.ext (X1.trans (by repeat (first | exact Ext.refl _ | assumption | apply Ext.drewN | apply Ext.drew | apply Ext.alloc)))) (by omega) (by omega)).mono ?_
    rintro e w2 ⟨u1, u2, rfl, hi1, hi2, _, _, _, hx2⟩
    have R2 := hx2.rule
    have X2 : Ext w w2 := X1.trans hx2
    have z1 := hx1.size
    simp at z1
    have z1' : w.heap.size < w1.heap.size := by omega
    have z2 := hx2.size
    go_wp2_with fail
    refine (specIsOneToOne_c base _ _ shape strides _ _ _ hi1 hi2).mono ?_
    rintro e w3 ⟨rfl, hx3⟩
    have R3 := hx3.rule
    have X3 : Ext w w3 := X2.trans hx3
    have z2' : w.heap.size < w2.heap.size := by omega
    have z3 := hx3.size
    go_wp2_with fail
    refine (toView_c base _ _ shape strides _ (hsh.ext (X3.trans (by repeat (first | exact Ext.refl _ | assumption | apply Ext.drewN | apply Ext.drew | apply Ext.alloc)))) (hst.ext (X3.trans (by repeat (first | exact Ext.refl _ | assumption | apply Ext.drewN | apply Ext.drew | apply Ext.alloc)))) (by omega) (by omega)).mono ?_
    rintro e w4 ⟨x1, x2, rfl, hj1, hj2, _, _, _, hx4⟩
    have R4 := hx4.rule
    have X4 : Ext w w4 := X3.trans hx4
    have z3' : w.heap.size < w3.heap.size := by omega
    have z4 := hx4.size
    obtain ⟨p1, q1, rfl⟩ := hj1.form
    obtain ⟨p2, q2, rfl⟩ := hj2.form
    go_wp2_with fail
    refine (implIsOneToOne_c base _ _ shape strides _ _ _ (hj1.ext (by repeat (first | exact Ext.refl _ | assumption | apply Ext.drewN | apply Ext.drew | apply Ext.alloc))) (hj2.ext (by repeat (first | exact Ext.refl _ | assumption | apply Ext.drewN | apply Ext.drew | apply Ext.alloc)))).mono ?_
    rintro e w5 ⟨rfl, hx5⟩
    have R5 := hx5.rule
    have X45 : Ext w4 w5 := Ext.trans (by repeat (first | exact Ext.refl _ | assumption | apply Ext.drewN | apply Ext.drew | apply Ext.alloc)) hx5
    have X5 : Ext w w5 := X4.trans X45
    have z4' : w.heap.size < w4.heap.size := by omega
    have z5 := hx5.size
    simp at z5
    have z5' : w.heap.size < w5.heap.size := by omega
    have z5a : w4.heap.size < w5.heap.size := by omega
    go_wp2_with fail
    have c0 : w5.cell? ⟨w.heap.size, 0, none⟩ = some (.int .i64 base) := by go_simp
    have c1 : w5.cell? ⟨w.heap.size, 1, none⟩ = some (.slice a shape.length cap) := by go_simp
    have c2 : w5.cell? ⟨w.heap.size, 2, none⟩ = some (.slice a2 strides.length cap2) := by go_simp
    have d0 : w5.cell? ⟨w4.heap.size, 0, none⟩ = some (.int .i64 base) := by go_simp
    have d1 : w5.cell? ⟨w4.heap.size, 1, none⟩ = some (.slice p1 shape.length q1) := by go_simp
    have d2 : w5.cell? ⟨w4.heap.size, 2, none⟩ = some (.slice p2 strides.length q2) := by go_simp
    clear R1 R2 R3 R4 R5
    go_region_held3 (fun w' => w'.cell? ⟨w.heap.size, 0, none⟩ = some (.int .i64 base) ∧ w'.cell? ⟨w.heap.size, 1, none⟩ = some (.slice a shape.length cap) ∧ w'.cell? ⟨w.heap.size, 2, none⟩ = some (.slice a2 strides.length cap2) ∧
        w'.cell? ⟨w4.heap.size, 0, none⟩ = some (.int .i64 base) ∧ w'.cell? ⟨w4.heap.size, 1, none⟩ = some (.slice p1 shape.length q1) ∧ w'.cell? ⟨w4.heap.size, 2, none⟩ = some (.slice p2 strides.length q2))
      (first
        | go_keep
        | exact ⟨Y6.cell c0, Y6.cell c1, Y6.cell c2, Y6.cell d0, Y6.cell d1, Y6.cell d2⟩
        | exact ⟨Y7.cell c0, Y7.cell c1, Y7.cell c2, Y7.cell d0, Y7.cell d1, Y7.cell d2⟩)
      (first
        | (go_at_call 29; refine (toView_c base _ _ shape strides _ (hsh.ext (X5.trans (by repeat (first | exact Ext.refl _ | assumption | apply Ext.drewN | apply Ext.drew | apply Ext.alloc)))) (hst.ext (X5.trans (by repeat (first | exact Ext.refl _ | assumption | apply Ext.drewN | apply Ext.drew | apply Ext.alloc)))) (by omega) (by omega)).mono ?_; rintro e w6 ⟨y1, y2, rfl, hk1, hk2, _, _, _, hx6⟩; have Y6 : Ext w5 w6 := Ext.trans (by repeat (first | exact Ext.refl _ | assumption | apply Ext.drewN | apply Ext.drew | apply Ext.alloc)) hx6)
        | (go_at_call 32; refine (eqView_c base _ _ _ _ shape strides _ _ _ _ _ (hj1.ext (X45.trans Y6)) (hj2.ext (X45.trans Y6)) hk1 hk2).mono ?_; rintro e w7 ⟨rfl, hx7⟩; have Y7 : Ext w5 w7 := Y6.trans hx7))
    all_goals
      go_wp2_with fail
      go_ret
      exact ⟨rfl, X5.trans Y7⟩

end Go.Proofs.Ytfdpoepidlmbaaa
