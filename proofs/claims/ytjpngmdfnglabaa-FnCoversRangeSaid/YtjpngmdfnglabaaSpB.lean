/- Walks of the reference's views: valid views. -/
import Derived.Test.YtjpngmdfnglabaaSpA
namespace Go.Proofs.Ytjpngmdfnglabaa
open Go.RowKit
set_option linter.unusedVariables false
set_option maxRecDepth 100000

theorem offsL_zero {base : Int} {shape strides : List Int} (h : countL shape = 0) : offsL base shape strides = [] := by simp [offsL, h]

set_option maxHeartbeats 1000000 in
theorem validView_c (base : Int) (sh st : Value) (shape strides : List Int) (w : World) (lo lo' : Nat) (hsh : Ints w lo sh shape) (hst : Ints w lo' st strides) :
    Calls Try.prog 69 #[.agg #[.int .i64 base, sh, st]] w fun e w' => e = .returned (.bool (viewB base shape strides)) ∧ Ext w w' := by
  have hst0 := Lib.hid hst
  have hsh0 := Lib.hid hsh
  obtain ⟨a, cap, rfl, hlc, hcm, ⟨hlen, _⟩, hc⟩ := hst
  obtain ⟨a2, cap2, rfl, hlc2, hcm2, ⟨hlen2, _⟩, hc2⟩ := hsh
  clear hc hc2
  cases h1 : shapeB shape
  case false =>
    have hv := Lib.hid (show viewB base shape strides = false by simp [viewB, h1])
    go_enter Try.func69, Try.ntmps69
    go_wp2_with (go_at_call 110; refine (validShape_c shape _ _ lo (hsh0.out.ext ((Ext.refl _).alloc _))).mono ?_; rintro e w' ⟨rfl, rfl⟩)
    go_ret
    exact ⟨by rw [hv.out]; rfl, (Ext.refl _).alloc _⟩
  have hin := shapeB_in h1
  by_cases h2 : strides.length = shape.length
  case neg =>
    have hv := Lib.hid (show viewB base shape strides = false by simp [viewB, h2])
    have h2' : ((strides.length : Int) == (shape.length : Int)) = false := by simp; omega
    go_enter Try.func69, Try.ntmps69
    go_wp2_with (go_at_call 110; refine (validShape_c shape _ _ lo (hsh0.out.ext ((Ext.refl _).alloc _))).mono ?_; rintro e w' ⟨rfl, rfl⟩)
    go_ret
    exact ⟨by rw [hv.out]; rfl, (Ext.refl _).alloc _⟩
  rw [h2] at hst0
  cases h3 : strides.all (inB (-60) 60)
  case false =>
    have hv := Lib.hid (show viewB base shape strides = false by simp [viewB, h3])
    go_enter Try.func69, Try.ntmps69
    go_wp2_with (first
      | (go_at_call 110; refine (validShape_c shape _ _ lo (hsh0.out.ext ((Ext.refl _).alloc _))).mono ?_; rintro e w' ⟨rfl, rfl⟩)
      | (go_at_call 80; refine (allIn_c strides _ _ _ _ lo' (hst0.out.ext ((Ext.refl _).alloc _))).mono ?_; rintro e w' ⟨rfl, rfl⟩))
    go_ret
    exact ⟨by rw [hv.out]; rfl, (Ext.refl _).alloc _⟩
  cases h4 : inB 0 60 base
  case false =>
    have hv := Lib.hid (show viewB base shape strides = false by simp [viewB, h4])
    go_enter Try.func69, Try.ntmps69
    go_wp2_with (first
      | (go_at_call 110; refine (validShape_c shape _ _ lo (hsh0.out.ext ((Ext.refl _).alloc _))).mono ?_; rintro e w' ⟨rfl, rfl⟩)
      | (go_at_call 80; refine (allIn_c strides _ _ _ _ lo' (hst0.out.ext ((Ext.refl _).alloc _))).mono ?_; rintro e w' ⟨rfl, rfl⟩)
      | (go_at_call 70; refine (inRange_c _ _ _ _).mono ?_; rintro e w' ⟨rfl, rfl⟩))
    go_ret
    exact ⟨by rw [hv.out]; rfl, (Ext.refl _).alloc _⟩
  by_cases h5 : countL shape = 0
  case pos =>
    have hv := Lib.hid (show viewB base shape strides = true by simp [viewB, h1, h2, h3, h4, offsL_zero h5])
    clear hin
    go_enter Try.func69, Try.ntmps69
    go_wp2_with (first
      | (go_at_call 110; refine (validShape_c shape _ _ lo (hsh0.out.ext ((Ext.refl _).alloc _))).mono ?_; rintro e w' ⟨rfl, rfl⟩)
      | (go_at_call 80; refine (allIn_c strides _ _ _ _ lo' (hst0.out.ext ((Ext.refl _).alloc _))).mono ?_; rintro e w' ⟨rfl, rfl⟩)
      | (go_at_call 70; refine (inRange_c _ _ _ _).mono ?_; rintro e w' ⟨rfl, rfl⟩)
      | (go_at_call 79; refine (count_c shape _ _ lo (hsh0.out.ext ((Ext.refl _).alloc _))).mono ?_; rintro e w' ⟨rfl, rfl⟩))
    go_ret
    exact ⟨by rw [hv.out]; rfl, (Ext.refl _).alloc _⟩
  have hin' := Lib.hid hin
  clear hin
  have h5' : (countL shape == 0) = false := by simpa using h5
  clear h5
  cases h6 : (offsL base shape strides).all (inB 0 59)
  all_goals
    have hv := Lib.hid (show viewB base shape strides = (offsL base shape strides).all (inB 0 59) by simp [viewB, h1, h2, h3, h4])
    rw [h6] at hv
    go_enter Try.func69, Try.ntmps69
    go_wp2_with (first
      | (go_at_call 110; refine (validShape_c shape _ _ lo (hsh0.out.ext ((Ext.refl _).alloc _))).mono ?_; rintro e w' ⟨rfl, rfl⟩)
      | (go_at_call_of 80 cap; refine (allIn_c strides _ _ _ _ lo' (hst0.out.ext ((Ext.refl _).alloc _))).mono ?_; rintro e w' ⟨rfl, rfl⟩)
      | (go_at_call 70; refine (inRange_c _ _ _ _).mono ?_; rintro e w' ⟨rfl, rfl⟩)
      | (go_at_call 79; refine (count_c shape _ _ lo (hsh0.out.ext ((Ext.refl _).alloc _))).mono ?_; rintro e w' ⟨rfl, rfl⟩)
      | (go_at_call 82; refine (offsets_c base _ _ shape strides _ lo lo' (hsh0.out.ext ((Ext.refl _).alloc _)) (hst0.out.ext ((Ext.refl _).alloc _)) (by have := hin'.out; omega) hin'.out.2.2.2.2 (by have := hin'.out; omega)).mono ?_; rintro e w1 ⟨v1, rfl, hi1, _, hx1⟩)
      | (go_at_call 80; refine (allIn_c _ _ _ _ _ _ hi1).mono ?_; rintro e w' ⟨rfl, rfl⟩))
    go_ret
    exact ⟨by rw [hv.out]; rfl, Ext.trans ((Ext.refl _).alloc _) hx1⟩

end Go.Proofs.Ytjpngmdfnglabaa
