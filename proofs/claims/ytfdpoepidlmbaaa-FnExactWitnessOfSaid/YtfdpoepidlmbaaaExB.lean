/- Walks: DoOverlap, CoversView and LineOf of the program and of the reference. -/
import Derived.Test.YtfdpoepidlmbaaaViewF
namespace Go.Proofs.Ytfdpoepidlmbaaa
open Go.RowKit
set_option linter.unusedVariables false
set_option maxRecDepth 100000

def meetB (b1 : Int) (s1 t1 : List Int) (b2 : Int) (s2 t2 : List Int) : Bool := viewB b1 s1 t1 && (viewB b2 s2 t2 && decide (0 < (bothL (offsL b1 s1 t1) (offsL b2 s2 t2)).length))

set_option maxHeartbeats 1600000 in
theorem implDoOverlap_c (b1 : Int) (u1 v1 : Value) (s1 t1 : List Int) (b2 : Int) (u2 v2 : Value) (s2 t2 : List Int) (w : World) (l1 m1 l2 m2 : Nat)
    (h1 : Ints w l1 u1 s1) (k1 : Ints w m1 v1 t1) (h2 : Ints w l2 u2 s2) (k2 : Ints w m2 v2 t2) :
    Calls Try.prog 70 #[.agg #[.int .i64 b1, u1, v1], .agg #[.int .i64 b2, u2, v2]] w fun e w' => e = .returned (.bool (meetB b1 s1 t1 b2 s2 t2)) ∧ Ext w w' := by
  unfold meetB
  cases ha : viewB b1 s1 t1
  · go_enter Try.func70, Try.ntmps70
    go_wp2_with fail
    refine (isView_c b1 _ _ s1 t1 _ l1 m1 (h1.ext (by repeat (first | exact Ext.refl _ | assumption | apply Ext.drewN | apply Ext.drew | apply Ext.alloc))) (k1.ext (by repeat (first | exact Ext.refl _ | assumption | apply Ext.drewN | apply Ext.drew | apply Ext.alloc)))).mono ?_
    rintro e w1 ⟨rfl, hx1⟩
    rw [ha]
    go_wp2_with fail
    go_ret
    exact ⟨rfl, Ext.trans (by repeat (first | exact Ext.refl _ | assumption | apply Ext.drewN | apply Ext.drew | apply Ext.alloc)) hx1⟩
  · have ha' := Lib.hid ha
    cases hb : viewB b2 s2 t2
    · have hb' := Lib.hid hb
      clear ha hb
      go_enter Try.func70, Try.ntmps70
      go_wp2_with fail
      refine (isView_c b1 _ _ s1 t1 _ l1 m1 (h1.ext (by repeat (first | exact Ext.refl _ | assumption | apply Ext.drewN | apply Ext.drew | apply Ext.alloc))) (k1.ext (by repeat (first | exact Ext.refl _ | assumption | apply Ext.drewN | apply Ext.drew | apply Ext.alloc)))).mono ?_
      rintro e w1 ⟨rfl, hx1⟩
      have R1 := hx1.rule
      have X1 : Ext w w1 := Ext.trans (by repeat (first | exact Ext.refl _ | assumption | apply Ext.drewN | apply Ext.drew | apply Ext.alloc)) hx1
      have z1 := hx1.size
      simp at z1
      have z1a : w.heap.size < w1.heap.size := by omega
      have z1b : w.heap.size + 1 < w1.heap.size := by omega
      rw [ha'.out]
      go_wp2_with fail
      refine (isView_c b2 _ _ s2 t2 _ l2 m2 (h2.ext (X1.trans (by repeat (first | exact Ext.refl _ | assumption | apply Ext.drewN | apply Ext.drew | apply Ext.alloc)))) (k2.ext (X1.trans (by repeat (first | exact Ext.refl _ | assumption | apply Ext.drewN | apply Ext.drew | apply Ext.alloc))))).mono ?_
      rintro e w2 ⟨rfl, hx2⟩
      rw [hb'.out]
      go_wp2_with fail
      go_ret
      exact ⟨rfl, X1.trans (Ext.trans (by repeat (first | exact Ext.refl _ | assumption | apply Ext.drewN | apply Ext.drew | apply Ext.alloc)) hx2)⟩
    · have hb' := Lib.hid hb
      have ho := Lib.hid (over_both (base2 := b2) (shape2 := s2) (strides2 := t2) ha)
      clear ha hb
      go_enter Try.func70, Try.ntmps70
      go_wp2_with fail
      refine (isView_c b1 _ _ s1 t1 _ l1 m1 (h1.ext (by repeat (first | exact Ext.refl _ | assumption | apply Ext.drewN | apply Ext.drew | apply Ext.alloc))) (k1.ext (by repeat (first | exact Ext.refl _ | assumption | apply Ext.drewN | apply Ext.drew | apply Ext.alloc)))).mono ?_
      rintro e w1 ⟨rfl, hx1⟩
      have R1 := hx1.rule
      have X1 : Ext w w1 := Ext.trans (by repeat (first | exact Ext.refl _ | assumption | apply Ext.drewN | apply Ext.drew | apply Ext.alloc)) hx1
      have z1 := hx1.size
      simp at z1
      have z1a : w.heap.size < w1.heap.size := by omega
      have z1b : w.heap.size + 1 < w1.heap.size := by omega
      rw [ha'.out]
      go_wp2_with fail
      refine (isView_c b2 _ _ s2 t2 _ l2 m2 (h2.ext (X1.trans (by repeat (first | exact Ext.refl _ | assumption | apply Ext.drewN | apply Ext.drew | apply Ext.alloc)))) (k2.ext (X1.trans (by repeat (first | exact Ext.refl _ | assumption | apply Ext.drewN | apply Ext.drew | apply Ext.alloc))))).mono ?_
      rintro e w2 ⟨rfl, hx2⟩
      have X12 : Ext w1 w2 := Ext.trans (by repeat (first | exact Ext.refl _ | assumption | apply Ext.drewN | apply Ext.drew | apply Ext.alloc)) hx2
      have R2 := X12.rule
      have X2 : Ext w w2 := X1.trans X12
      rw [hb'.out]
      go_wp2_with fail
      refine (overlapOf_c b1 _ _ s1 t1 b2 _ _ s2 t2 _ l1 m1 l2 m2 (h1.ext (X2.trans (by repeat (first | exact Ext.refl _ | assumption | apply Ext.drewN | apply Ext.drew | apply Ext.alloc)))) (k1.ext (X2.trans (by repeat (first | exact Ext.refl _ | assumption | apply Ext.drewN | apply Ext.drew | apply Ext.alloc)))) (h2.ext (X2.trans (by repeat (first | exact Ext.refl _ | assumption | apply Ext.drewN | apply Ext.drew | apply Ext.alloc)))) (k2.ext (X2.trans (by repeat (first | exact Ext.refl _ | assumption | apply Ext.drewN | apply Ext.drew | apply Ext.alloc)))) ha'.out hb'.out).mono ?_
      rintro e w3 ⟨v3, rfl, hi3, _, hx3⟩
      rw [ho.out] at hi3
      obtain ⟨a3, c3, rfl⟩ := hi3.form
      go_wp2_with fail
      go_ret
      exact ⟨by first | rfl | simp, X2.trans (Ext.trans (by repeat (first | exact Ext.refl _ | assumption | apply Ext.drewN | apply Ext.drew | apply Ext.alloc)) hx3)⟩

set_option maxHeartbeats 1600000 in
theorem specDoOverlap_c (b1 : Int) (u1 v1 : Value) (s1 t1 : List Int) (b2 : Int) (u2 v2 : Value) (s2 t2 : List Int) (w : World) (l1 m1 l2 m2 : Nat)
    (h1 : Ints w l1 u1 s1) (k1 : Ints w m1 v1 t1) (h2 : Ints w l2 u2 s2) (k2 : Ints w m2 v2 t2) :
    Calls Try.prog 69 #[.agg #[.int .i64 b1, u1, v1], .agg #[.int .i64 b2, u2, v2]] w fun e w' => e = .returned (.bool (meetB b1 s1 t1 b2 s2 t2)) ∧ Ext w w' := by
  unfold meetB
  have hx0 : Ext w ((w.alloc (.cells #[.int .i64 b1, u1, v1] 36)).alloc (.cells #[.int .i64 b2, u2, v2] 36)) := (by repeat (first | exact Ext.refl _ | assumption | apply Ext.drewN | apply Ext.drew | apply Ext.alloc))
  cases ha : viewB b1 s1 t1
  · have ha' := Lib.hid ha
    clear ha
    go_enter Try.func69, Try.ntmps69
    go_wp2_with fail
    go_region_law (first
      | (go_simp; go_at_call 100; refine (validView_c b1 _ _ s1 t1 _ l1 m1 (h1.ext (hx0.trans (by repeat (first | exact Ext.refl _ | assumption | apply Ext.drewN | apply Ext.drew | apply Ext.alloc)))) (k1.ext (hx0.trans (by repeat (first | exact Ext.refl _ | assumption | apply Ext.drewN | apply Ext.drew | apply Ext.alloc))))).mono ?_; rintro e w1 ⟨rfl, hx1⟩; rw [ha'.out]; have X1 : Ext ((w.alloc (.cells #[.int .i64 b1, u1, v1] 36)).alloc (.cells #[.int .i64 b2, u2, v2] 36)) w1 := Ext.trans (by repeat (first | exact Ext.refl _ | assumption | apply Ext.drewN | apply Ext.drew | apply Ext.alloc)) hx1; have R1 := X1.rule))
    all_goals
      go_wp2_with fail
      go_ret
      exact ⟨rfl, hx0.trans (X1.trans (by repeat (first | exact Ext.refl _ | assumption | apply Ext.drewN | apply Ext.drew | apply Ext.alloc)))⟩
  · have ha' := Lib.hid ha
    cases hb : viewB b2 s2 t2
    · have hb' := Lib.hid hb
      clear ha hb
      go_enter Try.func69, Try.ntmps69
      go_wp2_with fail
      go_region_law (first
        | (go_simp; go_at_call 100; refine (validView_c b2 _ _ s2 t2 _ l2 m2 (h2.ext (hx0.trans (X1.trans (by repeat (first | exact Ext.refl _ | assumption | apply Ext.drewN | apply Ext.drew | apply Ext.alloc))))) (k2.ext (hx0.trans (X1.trans (by repeat (first | exact Ext.refl _ | assumption | apply Ext.drewN | apply Ext.drew | apply Ext.alloc)))))).mono ?_; rintro e w2 ⟨rfl, hx2⟩; rw [hb'.out]; have X2 : Ext ((w.alloc (.cells #[.int .i64 b1, u1, v1] 36)).alloc (.cells #[.int .i64 b2, u2, v2] 36)) w2 := X1.trans (Ext.trans (by repeat (first | exact Ext.refl _ | assumption | apply Ext.drewN | apply Ext.drew | apply Ext.alloc)) hx2); have R2 := X2.rule)
        | (go_simp; go_at_call 100; refine (validView_c b1 _ _ s1 t1 _ l1 m1 (h1.ext (hx0.trans (by repeat (first | exact Ext.refl _ | assumption | apply Ext.drewN | apply Ext.drew | apply Ext.alloc)))) (k1.ext (hx0.trans (by repeat (first | exact Ext.refl _ | assumption | apply Ext.drewN | apply Ext.drew | apply Ext.alloc))))).mono ?_; rintro e w1 ⟨rfl, hx1⟩; rw [ha'.out]; have X1 : Ext ((w.alloc (.cells #[.int .i64 b1, u1, v1] 36)).alloc (.cells #[.int .i64 b2, u2, v2] 36)) w1 := Ext.trans (by repeat (first | exact Ext.refl _ | assumption | apply Ext.drewN | apply Ext.drew | apply Ext.alloc)) hx1; have R1 := X1.rule))
      all_goals
        go_wp2_with fail
        go_ret
        exact ⟨rfl, hx0.trans (X2.trans (by repeat (first | exact Ext.refl _ | assumption | apply Ext.drewN | apply Ext.drew | apply Ext.alloc)))⟩
    · have hb' := Lib.hid hb
      obtain ⟨g1, g2, _⟩ := viewB_in ha
      have hin := Lib.hid (shapeB_in g1)
      have g2 := Lib.hid g2
      obtain ⟨g3, g4, _⟩ := viewB_in hb
      have hin2 := Lib.hid (shapeB_in g3)
      have g4 := Lib.hid g4
      clear ha hb g1 g3
      go_enter Try.func69, Try.ntmps69
      go_wp2_with fail
      go_region_law (first
        | (go_simp; go_at_call 131; refine (both_c _ _ _ _ _ _ _ (hi3.ext (X34.trans (by repeat (first | exact Ext.refl _ | assumption | apply Ext.drewN | apply Ext.drew | apply Ext.alloc)))) (hi4.ext (by repeat (first | exact Ext.refl _ | assumption | apply Ext.drewN | apply Ext.drew | apply Ext.alloc)))).mono ?_; rintro e w5 ⟨r5, rfl, hi5, _, hx5⟩; obtain ⟨a5, c5, rfl⟩ := hi5.form; have X5 : Ext ((w.alloc (.cells #[.int .i64 b1, u1, v1] 36)).alloc (.cells #[.int .i64 b2, u2, v2] 36)) w5 := X4.trans (Ext.trans (by repeat (first | exact Ext.refl _ | assumption | apply Ext.drewN | apply Ext.drew | apply Ext.alloc)) hx5))
        | (go_simp; go_at_call 132; refine (offsets_c b2 _ _ s2 t2 _ l2 m2 (h2.ext (hx0.trans (X3.trans (by repeat (first | exact Ext.refl _ | assumption | apply Ext.drewN | apply Ext.drew | apply Ext.alloc))))) (k2.ext (hx0.trans (X3.trans (by repeat (first | exact Ext.refl _ | assumption | apply Ext.drewN | apply Ext.drew | apply Ext.alloc))))) (by have := g4.out; omega) hin2.out.2.2.2.2 (by have := hin2.out; omega)).mono ?_; rintro e w4 ⟨r4, rfl, hi4, _, hx4⟩; have X34 : Ext w3 w4 := Ext.trans (by repeat (first | exact Ext.refl _ | assumption | apply Ext.drewN | apply Ext.drew | apply Ext.alloc)) hx4; have X4 : Ext ((w.alloc (.cells #[.int .i64 b1, u1, v1] 36)).alloc (.cells #[.int .i64 b2, u2, v2] 36)) w4 := X3.trans X34; have R4 := X4.rule)
        | (go_simp; go_at_call 132; refine (offsets_c b1 _ _ s1 t1 _ l1 m1 (h1.ext (hx0.trans (X2.trans (by repeat (first | exact Ext.refl _ | assumption | apply Ext.drewN | apply Ext.drew | apply Ext.alloc))))) (k1.ext (hx0.trans (X2.trans (by repeat (first | exact Ext.refl _ | assumption | apply Ext.drewN | apply Ext.drew | apply Ext.alloc))))) (by have := g2.out; omega) hin.out.2.2.2.2 (by have := hin.out; omega)).mono ?_; rintro e w3 ⟨r3, rfl, hi3, _, hx3⟩; have X3 : Ext ((w.alloc (.cells #[.int .i64 b1, u1, v1] 36)).alloc (.cells #[.int .i64 b2, u2, v2] 36)) w3 := X2.trans (Ext.trans (by repeat (first | exact Ext.refl _ | assumption | apply Ext.drewN | apply Ext.drew | apply Ext.alloc)) hx3); have R3 := X3.rule)
        | (go_simp; go_at_call 100; refine (validView_c b2 _ _ s2 t2 _ l2 m2 (h2.ext (hx0.trans (X1.trans (by repeat (first | exact Ext.refl _ | assumption | apply Ext.drewN | apply Ext.drew | apply Ext.alloc))))) (k2.ext (hx0.trans (X1.trans (by repeat (first | exact Ext.refl _ | assumption | apply Ext.drewN | apply Ext.drew | apply Ext.alloc)))))).mono ?_; rintro e w2 ⟨rfl, hx2⟩; rw [hb'.out]; have X2 : Ext ((w.alloc (.cells #[.int .i64 b1, u1, v1] 36)).alloc (.cells #[.int .i64 b2, u2, v2] 36)) w2 := X1.trans (Ext.trans (by repeat (first | exact Ext.refl _ | assumption | apply Ext.drewN | apply Ext.drew | apply Ext.alloc)) hx2); have R2 := X2.rule)
        | (go_simp; go_at_call 100; refine (validView_c b1 _ _ s1 t1 _ l1 m1 (h1.ext (hx0.trans (by repeat (first | exact Ext.refl _ | assumption | apply Ext.drewN | apply Ext.drew | apply Ext.alloc)))) (k1.ext (hx0.trans (by repeat (first | exact Ext.refl _ | assumption | apply Ext.drewN | apply Ext.drew | apply Ext.alloc))))).mono ?_; rintro e w1 ⟨rfl, hx1⟩; rw [ha'.out]; have X1 : Ext ((w.alloc (.cells #[.int .i64 b1, u1, v1] 36)).alloc (.cells #[.int .i64 b2, u2, v2] 36)) w1 := Ext.trans (by repeat (first | exact Ext.refl _ | assumption | apply Ext.drewN | apply Ext.drew | apply Ext.alloc)) hx1; have R1 := X1.rule))
      all_goals
        go_wp2_with fail
        go_ret
        exact ⟨by first | rfl | simp, hx0.trans (X5.trans (by repeat (first | exact Ext.refl _ | assumption | apply Ext.drewN | apply Ext.drew | apply Ext.alloc)))⟩

end Go.Proofs.Ytfdpoepidlmbaaa
