/- Walks: IsOneToOne of the program and of the reference. -/
import Derived.Test.YtfdpoepidlmbaaaViewF
namespace Go.Proofs.Ytfdpoepidlmbaaa
open Go.RowKit
set_option linter.unusedVariables false
set_option maxRecDepth 100000

set_option maxHeartbeats 400000 in
theorem implIsOneToOne_c (base : Int) (sh st : Value) (shape strides : List Int) (w : World) (lo lo' : Nat) (hsh : Ints w lo sh shape) (hst : Ints w lo' st strides) :
    Calls Try.prog 68 #[.agg #[.int .i64 base, sh, st]] w fun e w' => e = .returned (.bool (viewB base shape strides && decide (offsL base shape strides).Nodup)) ∧ Ext w w' := by
  cases hv : viewB base shape strides
  · go_enter Try.func68, Try.ntmps68
    go_wp2_with fail
    refine (isView_c base _ _ shape strides _ lo lo' (hsh.ext (by repeat (first | exact Ext.refl _ | assumption | apply Ext.drewN | apply Ext.drew | apply Ext.alloc))) (hst.ext (by repeat (first | exact Ext.refl _ | assumption | apply Ext.drewN | apply Ext.drew | apply Ext.alloc)))).mono ?_
    rintro e w1 ⟨rfl, hx1⟩
    rw [hv]
    go_wp2_with fail
    go_ret
    exact ⟨rfl, Ext.trans (by repeat (first | exact Ext.refl _ | assumption | apply Ext.drewN | apply Ext.drew | apply Ext.alloc)) hx1⟩
  · have hv' := Lib.hid hv
    have ho := Lib.hid (one_diff hv)
    clear hv
    go_enter Try.func68, Try.ntmps68
    go_wp2_with fail
    refine (isView_c base _ _ shape strides _ lo lo' (hsh.ext (by repeat (first | exact Ext.refl _ | assumption | apply Ext.drewN | apply Ext.drew | apply Ext.alloc))) (hst.ext (by repeat (first | exact Ext.refl _ | assumption | apply Ext.drewN | apply Ext.drew | apply Ext.alloc)))).mono ?_
    rintro e w1 ⟨rfl, hx1⟩
    have R1 := hx1.rule
    rw [hv'.out]
    go_wp2_with fail
    refine (isOneToOne_c base _ _ shape strides _ lo lo' (hsh.ext (Ext.trans (by repeat (first | exact Ext.refl _ | assumption | apply Ext.drewN | apply Ext.drew | apply Ext.alloc)) hx1)) (hst.ext (Ext.trans (by repeat (first | exact Ext.refl _ | assumption | apply Ext.drewN | apply Ext.drew | apply Ext.alloc)) hx1)) hv'.out).mono ?_
    rintro e w2 ⟨rfl, hx2⟩
    rw [ho.out]
    go_wp2_with fail
    go_ret
    exact ⟨by simp, Ext.trans (Ext.trans (by repeat (first | exact Ext.refl _ | assumption | apply Ext.drewN | apply Ext.drew | apply Ext.alloc)) hx1) hx2⟩

set_option maxHeartbeats 400000 in
theorem specIsOneToOne_c (base : Int) (sh st : Value) (shape strides : List Int) (w : World) (lo lo' : Nat) (hsh : Ints w lo sh shape) (hst : Ints w lo' st strides) :
    Calls Try.prog 67 #[.agg #[.int .i64 base, sh, st]] w fun e w' => e = .returned (.bool (viewB base shape strides && decide (offsL base shape strides).Nodup)) ∧ Ext w w' := by
  cases hv : viewB base shape strides
  · go_enter Try.func67, Try.ntmps67
    go_wp2_with fail
    refine (validView_c base _ _ shape strides _ lo lo' (hsh.ext (by repeat (first | exact Ext.refl _ | assumption | apply Ext.drewN | apply Ext.drew | apply Ext.alloc))) (hst.ext (by repeat (first | exact Ext.refl _ | assumption | apply Ext.drewN | apply Ext.drew | apply Ext.alloc)))).mono ?_
    rintro e w1 ⟨rfl, hx1⟩
    rw [hv]
    go_wp2_with fail
    go_ret
    exact ⟨rfl, Ext.trans (by repeat (first | exact Ext.refl _ | assumption | apply Ext.drewN | apply Ext.drew | apply Ext.alloc)) hx1⟩
  · have hv' := Lib.hid hv
    obtain ⟨h1, h2, _⟩ := viewB_in hv
    have hin := Lib.hid (shapeB_in h1)
    have h2 := Lib.hid h2
    clear hv h1
    go_enter Try.func67, Try.ntmps67
    go_wp2_with fail
    refine (validView_c base _ _ shape strides _ lo lo' (hsh.ext (by repeat (first | exact Ext.refl _ | assumption | apply Ext.drewN | apply Ext.drew | apply Ext.alloc))) (hst.ext (by repeat (first | exact Ext.refl _ | assumption | apply Ext.drewN | apply Ext.drew | apply Ext.alloc)))).mono ?_
    rintro e w1 ⟨rfl, hx1⟩
    have R1 := hx1.rule
    rw [hv'.out]
    go_wp2_with fail
    refine (offsets_c base _ _ shape strides _ lo lo' (hsh.ext (Ext.trans (by repeat (first | exact Ext.refl _ | assumption | apply Ext.drewN | apply Ext.drew | apply Ext.alloc)) hx1)) (hst.ext (Ext.trans (by repeat (first | exact Ext.refl _ | assumption | apply Ext.drewN | apply Ext.drew | apply Ext.alloc)) hx1)) (by have := h2.out; omega) hin.out.2.2.2.2 (by have := hin.out; omega)).mono ?_
    rintro e w2 ⟨v2, rfl, hi2, _, hx2⟩
    go_wp2_with fail
    refine (different_c _ _ _ _ hi2).mono ?_
    rintro e w3 ⟨rfl, hx3⟩
    go_wp2_with fail
    go_ret
    exact ⟨by simp, (Ext.trans (Ext.trans (by repeat (first | exact Ext.refl _ | assumption | apply Ext.drewN | apply Ext.drew | apply Ext.alloc)) hx1) hx2).trans hx3⟩

end Go.Proofs.Ytfdpoepidlmbaaa
