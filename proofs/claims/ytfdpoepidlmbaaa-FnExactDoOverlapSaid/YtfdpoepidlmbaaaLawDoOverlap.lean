/- FnExactDoOverlap returns true for every view: no condition. -/
import Derived.Test.YtfdpoepidlmbaaaExB
import Derived.Test.YtfdpoepidlmbaaaLwB
import Derived.Test.YtfdpoepidlmbaaaLawIsOneToOne
namespace Go.Proofs.Ytfdpoepidlmbaaa
open Go.RowKit
set_option linter.unusedVariables false
set_option maxRecDepth 100000

set_option maxHeartbeats 3200000 in
theorem lawDoOverlap_c (b1 : Int) (a1 d1 : Option Addr) (f1 g1 : Nat) (s1 t1 : List Int) (b2 : Int) (a2 d2 : Option Addr) (f2 g2 : Nat) (s2 t2 : List Int) (w : World) (h1 : Raw w (.slice a1 s1.length f1) s1) (k1 : Raw w (.slice d1 t1.length g1) t1) (n1 : s1.length ≤ maxLen) (m1 : t1.length ≤ maxLen) (h2 : Raw w (.slice a2 s2.length f2) s2) (k2 : Raw w (.slice d2 t2.length g2) t2) (n2 : s2.length ≤ maxLen) (m2 : t2.length ≤ maxLen) :
    Calls Try.prog 13 #[.agg #[.int .i64 b1, .slice a1 s1.length f1, .slice d1 t1.length g1], .agg #[.int .i64 b2, .slice a2 s2.length f2, .slice d2 t2.length g2]] w fun e w' => e = .returned (.bool true) ∧ Ext w w' := by
  by_cases q1 : szV 1048576 s1.length t1.length < 0
  · go_enter Try.func13, Try.ntmps13
    go_wp2_with fail
    refine (szView_c b1 a1 d1 _ f1 _ g1 (1048576) _ (by omega) (by omega) n1 m1).mono ?_
    rintro e w1 ⟨rfl, x1⟩
    have X1 : Ext w w1 := Ext.trans (by repeat (first | exact Ext.refl _ | assumption | apply Ext.drewN | apply Ext.drew | apply Ext.alloc)) x1
    go_wp2_with fail
    go_ret
    exact ⟨rfl, X1.trans (by repeat (first | exact Ext.refl _ | assumption | apply Ext.drewN | apply Ext.drew | apply Ext.alloc))⟩
  · have y1 := szV_ge (by omega) q1
    by_cases q2 : szV (1048576 - (s1.length : Int) - t1.length) s2.length t2.length < 0
    · go_enter Try.func13, Try.ntmps13
      go_wp2_with fail
      refine (szView_c b1 a1 d1 _ f1 _ g1 (1048576) _ (by omega) (by omega) n1 m1).mono ?_
      rintro e w1 ⟨rfl, x1⟩
      have X1 : Ext w w1 := Ext.trans (by repeat (first | exact Ext.refl _ | assumption | apply Ext.drewN | apply Ext.drew | apply Ext.alloc)) x1
      have R1 := x1.rule
      have z1 := x1.size
      try simp at z1
      have z1_0 : w.heap.size < w1.heap.size := by omega
      have z1_1 : w.heap.size + 1 < w1.heap.size := by omega
      go_wp2_with fail
      refine (szView_c b2 a2 d2 _ f2 _ g2 (1048576 - (s1.length : Int) - t1.length) _ (by omega) (by omega) n2 m2).mono ?_
      rintro e w2 ⟨rfl, x2⟩
      have X2 : Ext w w2 := X1.trans (Ext.trans (by repeat (first | exact Ext.refl _ | assumption | apply Ext.drewN | apply Ext.drew | apply Ext.alloc)) x2)
      go_wp2_with fail
      go_ret
      exact ⟨rfl, X2.trans (by repeat (first | exact Ext.refl _ | assumption | apply Ext.drewN | apply Ext.drew | apply Ext.alloc))⟩
    · have y2 := szV_ge (by omega) q2
      go_enter Try.func13, Try.ntmps13
      go_wp2_with fail
      refine (szView_c b1 a1 d1 _ f1 _ g1 (1048576) _ (by omega) (by omega) n1 m1).mono ?_
      rintro e w1 ⟨rfl, x1⟩
      have X1 : Ext w w1 := Ext.trans (by repeat (first | exact Ext.refl _ | assumption | apply Ext.drewN | apply Ext.drew | apply Ext.alloc)) x1
      have R1 := x1.rule
      have z1 := x1.size
      try simp at z1
      have z1_0 : w.heap.size < w1.heap.size := by omega
      have z1_1 : w.heap.size + 1 < w1.heap.size := by omega
      go_wp2_with fail
      refine (szView_c b2 a2 d2 _ f2 _ g2 (1048576 - (s1.length : Int) - t1.length) _ (by omega) (by omega) n2 m2).mono ?_
      rintro e w2 ⟨rfl, x2⟩
      have X2 : Ext w w2 := X1.trans (Ext.trans (by repeat (first | exact Ext.refl _ | assumption | apply Ext.drewN | apply Ext.drew | apply Ext.alloc)) x2)
      have R2 := x2.rule
      have z2 := x2.size
      try simp at z2
      have z2_0 : w.heap.size < w2.heap.size := by omega
      have z2_1 : w.heap.size + 1 < w2.heap.size := by omega
      go_wp2_with fail
      have c10 : w2.cell? ⟨w.heap.size, 0, none⟩ = some (.int .i64 b1) := by go_simp
      have c11 : w2.cell? ⟨w.heap.size, 1, none⟩ = some (.slice a1 s1.length f1) := by go_simp
      have c12 : w2.cell? ⟨w.heap.size, 2, none⟩ = some (.slice d1 t1.length g1) := by go_simp
      have c20 : w2.cell? ⟨w.heap.size + 1, 0, none⟩ = some (.int .i64 b2) := by go_simp
      have c21 : w2.cell? ⟨w.heap.size + 1, 1, none⟩ = some (.slice a2 s2.length f2) := by go_simp
      have c22 : w2.cell? ⟨w.heap.size + 1, 2, none⟩ = some (.slice d2 t2.length g2) := by go_simp
      clear R1 R2
      go_region_held3 (fun w' => w'.cell? ⟨w.heap.size, 0, none⟩ = some (.int .i64 b1) ∧ w'.cell? ⟨w.heap.size, 1, none⟩ = some (.slice a1 s1.length f1) ∧ w'.cell? ⟨w.heap.size, 2, none⟩ = some (.slice d1 t1.length g1) ∧ w'.cell? ⟨w.heap.size + 1, 0, none⟩ = some (.int .i64 b2) ∧ w'.cell? ⟨w.heap.size + 1, 1, none⟩ = some (.slice a2 s2.length f2) ∧ w'.cell? ⟨w.heap.size + 1, 2, none⟩ = some (.slice d2 t2.length g2))
        (first
          | go_keep
          | exact ⟨Y5.cell c10, Y5.cell c11, Y5.cell c12, Y5.cell c20, Y5.cell c21, Y5.cell c22⟩
          | exact ⟨Y4.cell c10, Y4.cell c11, Y4.cell c12, Y4.cell c20, Y4.cell c21, Y4.cell c22⟩
          | exact ⟨Y3.cell c10, Y3.cell c11, Y3.cell c12, Y3.cell c20, Y3.cell c21, Y3.cell c22⟩)
        (first
          | (go_at_call 69; refine (specDoOverlap_c b1 _ _ s1 t1 b2 _ _ s2 t2 _ _ _ _ _ (i1.ext (L1_4.trans (by repeat (first | exact Ext.refl _ | assumption | apply Ext.drewN | apply Ext.drew | apply Ext.alloc)))) (j1.ext (L1_4.trans (by repeat (first | exact Ext.refl _ | assumption | apply Ext.drewN | apply Ext.drew | apply Ext.alloc)))) (i2.ext (by repeat (first | exact Ext.refl _ | assumption | apply Ext.drewN | apply Ext.drew | apply Ext.alloc))) (j2.ext (by repeat (first | exact Ext.refl _ | assumption | apply Ext.drewN | apply Ext.drew | apply Ext.alloc)))).mono ?_; rintro e w5 ⟨rfl, x5⟩; have Y5 : Ext w2 w5 := Y4.trans (Ext.trans (by repeat (first | exact Ext.refl _ | assumption | apply Ext.drewN | apply Ext.drew | apply Ext.alloc)) x5))
          | (go_at_call 29; refine (toView_c b2 _ _ s2 t2 _ (h2.ext (X2.trans (Y3.trans (by repeat (first | exact Ext.refl _ | assumption | apply Ext.drewN | apply Ext.drew | apply Ext.alloc))))) (k2.ext (X2.trans (Y3.trans (by repeat (first | exact Ext.refl _ | assumption | apply Ext.drewN | apply Ext.drew | apply Ext.alloc))))) (by omega) (by omega)).mono ?_; rintro e w4 ⟨u2, v2, rfl, i2, j2, _, _, _, x4⟩; have Y4 : Ext w2 w4 := Y3.trans (Ext.trans (by repeat (first | exact Ext.refl _ | assumption | apply Ext.drewN | apply Ext.drew | apply Ext.alloc)) x4); have L1_4 : Ext w3 w4 := Ext.trans (by repeat (first | exact Ext.refl _ | assumption | apply Ext.drewN | apply Ext.drew | apply Ext.alloc)) x4)
          | (go_at_call 29; refine (toView_c b1 _ _ s1 t1 _ (h1.ext (X2.trans (by repeat (first | exact Ext.refl _ | assumption | apply Ext.drewN | apply Ext.drew | apply Ext.alloc)))) (k1.ext (X2.trans (by repeat (first | exact Ext.refl _ | assumption | apply Ext.drewN | apply Ext.drew | apply Ext.alloc)))) (by omega) (by omega)).mono ?_; rintro e w3 ⟨u1, v1, rfl, i1, j1, _, _, _, x3⟩; have Y3 : Ext w2 w3 := Ext.trans (by repeat (first | exact Ext.refl _ | assumption | apply Ext.drewN | apply Ext.drew | apply Ext.alloc)) x3))
      have X5 : Ext w w5 := X2.trans Y5
      replace c10 := Y5.cell c10
      replace c11 := Y5.cell c11
      replace c12 := Y5.cell c12
      replace c20 := Y5.cell c20
      replace c21 := Y5.cell c21
      replace c22 := Y5.cell c22
      have z5 := Y5.size
      have z5_0 : w.heap.size < w5.heap.size := by omega
      have z5_1 : w.heap.size + 1 < w5.heap.size := by omega
      go_wp2_with fail
      refine (toView_c b1 _ _ s1 t1 _ (h1.ext (X5.trans (by repeat (first | exact Ext.refl _ | assumption | apply Ext.drewN | apply Ext.drew | apply Ext.alloc)))) (k1.ext (X5.trans (by repeat (first | exact Ext.refl _ | assumption | apply Ext.drewN | apply Ext.drew | apply Ext.alloc)))) (by omega) (by omega)).mono ?_
      rintro e w6 ⟨p1, r1, rfl, hp1, hr1, _, _, _, x6⟩
      have L6 : Ext w5 w6 := Ext.trans (by repeat (first | exact Ext.refl _ | assumption | apply Ext.drewN | apply Ext.drew | apply Ext.alloc)) x6
      have X6 : Ext w w6 := X5.trans L6
      have R6 := x6.rule
      have z6 := x6.size
      try simp at z6
      have z6_0 : w.heap.size < w6.heap.size := by omega
      have z6_1 : w.heap.size + 1 < w6.heap.size := by omega
      obtain ⟨P1, Q1, rfl⟩ := hp1.form
      obtain ⟨P1', Q1', rfl⟩ := hr1.form
      go_wp2_with fail
      refine (toView_c b2 _ _ s2 t2 _ (h2.ext (X6.trans (by repeat (first | exact Ext.refl _ | assumption | apply Ext.drewN | apply Ext.drew | apply Ext.alloc)))) (k2.ext (X6.trans (by repeat (first | exact Ext.refl _ | assumption | apply Ext.drewN | apply Ext.drew | apply Ext.alloc)))) (by omega) (by omega)).mono ?_
      rintro e w7 ⟨p2, r2, rfl, hp2, hr2, _, _, _, x7⟩
      have L7 : Ext w6 w7 := Ext.trans (by repeat (first | exact Ext.refl _ | assumption | apply Ext.drewN | apply Ext.drew | apply Ext.alloc)) x7
      have X7 : Ext w w7 := X6.trans L7
      have R7 := x7.rule
      have z7 := x7.size
      try simp at z7
      have z7_0 : w.heap.size < w7.heap.size := by omega
      have z7_1 : w.heap.size + 1 < w7.heap.size := by omega
      have zx7_0 : w6.heap.size < w7.heap.size := by omega
      obtain ⟨P2, Q2, rfl⟩ := hp2.form
      obtain ⟨P2', Q2', rfl⟩ := hr2.form
      go_wp2_with fail
      refine (implDoOverlap_c b1 _ _ s1 t1 b2 _ _ s2 t2 _ _ _ _ _ (hp1.ext (L7.trans (by repeat (first | exact Ext.refl _ | assumption | apply Ext.drewN | apply Ext.drew | apply Ext.alloc)))) (hr1.ext (L7.trans (by repeat (first | exact Ext.refl _ | assumption | apply Ext.drewN | apply Ext.drew | apply Ext.alloc)))) (hp2.ext (by repeat (first | exact Ext.refl _ | assumption | apply Ext.drewN | apply Ext.drew | apply Ext.alloc))) (hr2.ext (by repeat (first | exact Ext.refl _ | assumption | apply Ext.drewN | apply Ext.drew | apply Ext.alloc)))).mono ?_
      rintro e w8 ⟨rfl, x8⟩
      have L8 : Ext w7 w8 := Ext.trans (by repeat (first | exact Ext.refl _ | assumption | apply Ext.drewN | apply Ext.drew | apply Ext.alloc)) x8
      have X8 : Ext w w8 := X7.trans L8
      have R8 := x8.rule
      have z8 := x8.size
      try simp at z8
      have z8_0 : w.heap.size < w8.heap.size := by omega
      have z8_1 : w.heap.size + 1 < w8.heap.size := by omega
      have zx8_0 : w6.heap.size < w8.heap.size := by omega
      have zx8_1 : w7.heap.size < w8.heap.size := by omega
      go_wp2_with fail
      replace c10 : w8.cell? ⟨w.heap.size, 0, none⟩ = some (.int .i64 b1) := by go_simp
      replace c11 : w8.cell? ⟨w.heap.size, 1, none⟩ = some (.slice a1 s1.length f1) := by go_simp
      replace c12 : w8.cell? ⟨w.heap.size, 2, none⟩ = some (.slice d1 t1.length g1) := by go_simp
      replace c20 : w8.cell? ⟨w.heap.size + 1, 0, none⟩ = some (.int .i64 b2) := by go_simp
      replace c21 : w8.cell? ⟨w.heap.size + 1, 1, none⟩ = some (.slice a2 s2.length f2) := by go_simp
      replace c22 : w8.cell? ⟨w.heap.size + 1, 2, none⟩ = some (.slice d2 t2.length g2) := by go_simp
      have e10 : w8.cell? ⟨w6.heap.size, 0, none⟩ = some (.int .i64 b1) := by go_simp
      have e11 : w8.cell? ⟨w6.heap.size, 1, none⟩ = some (.slice P1 s1.length Q1) := by go_simp
      have e12 : w8.cell? ⟨w6.heap.size, 2, none⟩ = some (.slice P1' t1.length Q1') := by go_simp
      have e20 : w8.cell? ⟨w7.heap.size, 0, none⟩ = some (.int .i64 b2) := by go_simp
      have e21 : w8.cell? ⟨w7.heap.size, 1, none⟩ = some (.slice P2 s2.length Q2) := by go_simp
      have e22 : w8.cell? ⟨w7.heap.size, 2, none⟩ = some (.slice P2' t2.length Q2') := by go_simp
      clear R6 R7 R8
      go_region_held3 (fun w' => w'.cell? ⟨w.heap.size, 0, none⟩ = some (.int .i64 b1) ∧ w'.cell? ⟨w.heap.size, 1, none⟩ = some (.slice a1 s1.length f1) ∧ w'.cell? ⟨w.heap.size, 2, none⟩ = some (.slice d1 t1.length g1) ∧ w'.cell? ⟨w6.heap.size, 0, none⟩ = some (.int .i64 b1) ∧ w'.cell? ⟨w6.heap.size, 1, none⟩ = some (.slice P1 s1.length Q1) ∧ w'.cell? ⟨w6.heap.size, 2, none⟩ = some (.slice P1' t1.length Q1'))
        (first
          | go_keep
          | exact ⟨Y10.cell c10, Y10.cell c11, Y10.cell c12, Y10.cell e10, Y10.cell e11, Y10.cell e12⟩
          | exact ⟨Y9.cell c10, Y9.cell c11, Y9.cell c12, Y9.cell e10, Y9.cell e11, Y9.cell e12⟩)
        (first
          | (go_at_call 29; refine (toView_c b1 _ _ s1 t1 _ (h1.ext (X8.trans (by repeat (first | exact Ext.refl _ | assumption | apply Ext.drewN | apply Ext.drew | apply Ext.alloc)))) (k1.ext (X8.trans (by repeat (first | exact Ext.refl _ | assumption | apply Ext.drewN | apply Ext.drew | apply Ext.alloc)))) (by omega) (by omega)).mono ?_; rintro e w9 ⟨y1a, y1b, rfl, hk1, hl1, _, _, _, x9⟩; have Y9 : Ext w8 w9 := Ext.trans (by repeat (first | exact Ext.refl _ | assumption | apply Ext.drewN | apply Ext.drew | apply Ext.alloc)) x9)
          | (go_at_call 32; refine (eqView_c b1 _ _ _ _ s1 t1 _ _ _ _ _ (hp1.ext (L7.trans (L8.trans (Y9.trans (by repeat (first | exact Ext.refl _ | assumption | apply Ext.drewN | apply Ext.drew | apply Ext.alloc)))))) (hr1.ext (L7.trans (L8.trans (Y9.trans (by repeat (first | exact Ext.refl _ | assumption | apply Ext.drewN | apply Ext.drew | apply Ext.alloc)))))) (hk1.ext (by repeat (first | exact Ext.refl _ | assumption | apply Ext.drewN | apply Ext.drew | apply Ext.alloc))) (hl1.ext (by repeat (first | exact Ext.refl _ | assumption | apply Ext.drewN | apply Ext.drew | apply Ext.alloc)))).mono ?_; rintro e w10 ⟨rfl, x10⟩; have Y10 : Ext w8 w10 := Y9.trans (Ext.trans (by repeat (first | exact Ext.refl _ | assumption | apply Ext.drewN | apply Ext.drew | apply Ext.alloc)) x10)))
      have L10 : Ext w8 w10 := Y10
      have X10 : Ext w w10 := X8.trans L10
      replace c10 := L10.cell c10
      replace c11 := L10.cell c11
      replace c12 := L10.cell c12
      replace c20 := L10.cell c20
      replace c21 := L10.cell c21
      replace c22 := L10.cell c22
      replace e10 := L10.cell e10
      replace e11 := L10.cell e11
      replace e12 := L10.cell e12
      replace e20 := L10.cell e20
      replace e21 := L10.cell e21
      replace e22 := L10.cell e22
      go_wp2_with fail
      replace hp2 := hp2.ext (L8.trans L10)
      replace hr2 := hr2.ext (L8.trans L10)
      go_region_held3 (fun w' => w'.cell? ⟨w.heap.size + 1, 0, none⟩ = some (.int .i64 b2) ∧ w'.cell? ⟨w.heap.size + 1, 1, none⟩ = some (.slice a2 s2.length f2) ∧ w'.cell? ⟨w.heap.size + 1, 2, none⟩ = some (.slice d2 t2.length g2) ∧ w'.cell? ⟨w7.heap.size, 0, none⟩ = some (.int .i64 b2) ∧ w'.cell? ⟨w7.heap.size, 1, none⟩ = some (.slice P2 s2.length Q2) ∧ w'.cell? ⟨w7.heap.size, 2, none⟩ = some (.slice P2' t2.length Q2'))
        (first
          | go_keep
          | exact ⟨Y12.cell c20, Y12.cell c21, Y12.cell c22, Y12.cell e20, Y12.cell e21, Y12.cell e22⟩
          | exact ⟨Y11.cell c20, Y11.cell c21, Y11.cell c22, Y11.cell e20, Y11.cell e21, Y11.cell e22⟩)
        (first
          | (go_at_call 29; refine (toView_c b2 _ _ s2 t2 _ (h2.ext (X10.trans (by repeat (first | exact Ext.refl _ | assumption | apply Ext.drewN | apply Ext.drew | apply Ext.alloc)))) (k2.ext (X10.trans (by repeat (first | exact Ext.refl _ | assumption | apply Ext.drewN | apply Ext.drew | apply Ext.alloc)))) (by omega) (by omega)).mono ?_; rintro e w11 ⟨y2a, y2b, rfl, hk2, hl2, _, _, _, x11⟩; have Y11 : Ext w10 w11 := Ext.trans (by repeat (first | exact Ext.refl _ | assumption | apply Ext.drewN | apply Ext.drew | apply Ext.alloc)) x11)
          | (go_at_call 32; refine (eqView_c b2 _ _ _ _ s2 t2 _ _ _ _ _ (hp2.ext (Y11.trans (by repeat (first | exact Ext.refl _ | assumption | apply Ext.drewN | apply Ext.drew | apply Ext.alloc)))) (hr2.ext (Y11.trans (by repeat (first | exact Ext.refl _ | assumption | apply Ext.drewN | apply Ext.drew | apply Ext.alloc)))) (hk2.ext (by repeat (first | exact Ext.refl _ | assumption | apply Ext.drewN | apply Ext.drew | apply Ext.alloc))) (hl2.ext (by repeat (first | exact Ext.refl _ | assumption | apply Ext.drewN | apply Ext.drew | apply Ext.alloc)))).mono ?_; rintro e w12 ⟨rfl, x12⟩; have Y12 : Ext w10 w12 := Y11.trans (Ext.trans (by repeat (first | exact Ext.refl _ | assumption | apply Ext.drewN | apply Ext.drew | apply Ext.alloc)) x12)))
      have L12 : Ext w10 w12 := Y12
      have X12 : Ext w w12 := X10.trans L12
      go_wp2_with fail
      go_ret
      exact ⟨rfl, X12.trans (by repeat (first | exact Ext.refl _ | assumption | apply Ext.drewN | apply Ext.drew | apply Ext.alloc))⟩

end Go.Proofs.Ytfdpoepidlmbaaa
