/- Plain laws on covered ranges; the program's ValidRange. -/
import Derived.Test.YtjpngmdfnglabaaRngF
namespace Go.Proofs.Ytjpngmdfnglabaa
open Go.RowKit
set_option linter.unusedVariables false
set_option maxRecDepth 100000

theorem rcov_len {x y z x2 y2 z2 : Int} (h1 : rangeB x y z = true) (h2 : rangeB x2 y2 z2 = true) :
    (rlenA (meetT x y z x2 y2 z2).1 (meetT x y z x2 y2 z2).2.1 (meetT x y z x2 y2 z2).2.2 == rlenA x2 y2 z2) = rcovB x y z x2 y2 z2 := by
  have hl := meet_len h2 h1
  rw [meet_swap h1 h2] at hl
  have h3 : rlenA x2 y2 z2 = ((numL x2 y2 z2).length : Int) := by unfold rlenA; rw [h2, if_pos rfl, numL_len]
  rw [hl, h3, rnum_eq h2]
  unfold rcovB cntB
  rw [h1, h2, Bool.eq_iff_iff]
  simp only [Bool.true_and, beq_iff_eq, List.all_eq_true]
  rw [← List.countP_eq_length]
  exact Int.ofNat_inj
theorem rcov_self {x y z : Int} (h1 : rangeB x y z = true) : rcovB x y z x y z = true := by
  unfold rcovB
  rw [h1]
  simp

set_option maxHeartbeats 400000 in
theorem implValidRange_c (a b s : Int) (w : World) :
    Calls Try.prog 21 #[.agg #[.int .i64 a, .int .i64 b, .int .i64 s]] w fun e w' => e = .returned (.bool (rangeB a b s)) ∧ Ext w w' := by
  go_enter Try.func21, Try.ntmps21
  go_wp2_with fail
  refine (isRange_c a b s _).mono ?_
  rintro e w1 ⟨rfl, x1⟩
  go_wp2_with fail
  go_ret
  exact ⟨rfl, Ext.trans (by repeat (first | exact Ext.refl _ | assumption | apply Ext.drewN | apply Ext.drew | apply Ext.alloc)) x1⟩
theorem implValidRange_b {a b s : Int} {q : Bool} (h : rangeB a b s = q) (w : World) :
    Calls Try.prog 21 #[.agg #[.int .i64 a, .int .i64 b, .int .i64 s]] w fun e w' => e = .returned (.bool q) ∧ Ext w w' := by
  have := implValidRange_c a b s w; rwa [h] at this
end Go.Proofs.Ytjpngmdfnglabaa
