/- The walk of the program's isView. -/
import Derived.Test.YtjpngmdfnglabaaViewB
namespace Go.Proofs.Ytjpngmdfnglabaa
open Go.RowKit
set_option linter.unusedVariables false
set_option maxRecDepth 100000

theorem countL_zero_or {xs : List Int} (hl : xs.length ≤ 4) (hb : ∀ e ∈ xs, 0 ≤ e ∧ e ≤ 60) : 0 ≤ countL xs ∧ countL xs ≤ 12960000 ∧ (0 < countL xs → ∀ e ∈ xs, 1 ≤ e) ∧ countL xs = xs.foldr (· * ·) 1 := by
  have key : ∀ (xs : List Int) (n B : Int), 0 ≤ n → n ≤ B → B * 60 ^ xs.length ≤ 12960000 → (∀ e ∈ xs, 0 ≤ e ∧ e ≤ 60) →
      xs.foldl (fun n x => wrap64 (n * x)) n = n * xs.foldr (· * ·) 1 ∧ 0 ≤ xs.foldr (· * ·) 1 ∧ n * xs.foldr (· * ·) 1 ≤ 12960000 ∧ (0 < xs.foldr (· * ·) 1 → ∀ e ∈ xs, 1 ≤ e) := by
    intro xs
    induction xs with
    | nil => intro n B h0 h1 h2 _; simp at h2 ⊢; omega
    | cons x xs ih =>
      intro n B h0 h1 h2 hb
      have hx := hb x (List.mem_cons_self ..)
      have hB : 0 ≤ B := by omega
      have hnx : n * x ≤ B * 60 := Int.mul_le_mul h1 hx.2 hx.1 hB
      have hnx0 : 0 ≤ n * x := Int.mul_nonneg h0 hx.1
      have hp : (1 : Int) ≤ 60 ^ xs.length := Int.pow_pos (by decide)
      have h2' : B * 60 * 60 ^ xs.length ≤ 12960000 := by
        rw [List.length_cons, Int.pow_succ] at h2
        rw [Int.mul_assoc, Int.mul_comm 60]; exact h2
      have hB60 : B * 60 ≤ 12960000 := Int.le_trans (by
        have := Int.mul_le_mul_of_nonneg_left hp (show 0 ≤ B * 60 by omega)
        simpa using this) h2'
      have hw : wrap64 (n * x) = n * x := IntWalk.wrap64_in _ ⟨by omega, by omega⟩
      obtain ⟨e1, e2, e3, e4⟩ := ih (n * x) (B * 60) hnx0 hnx h2' (fun e he => hb e (List.mem_cons_of_mem _ he))
      refine ⟨?_, ?_, ?_, ?_⟩
      · rw [List.foldl_cons, hw, e1, List.foldr_cons, Int.mul_assoc]
      · rw [List.foldr_cons]; exact Int.mul_nonneg hx.1 e2
      · rw [List.foldr_cons, ← Int.mul_assoc]; exact e3
      · rw [List.foldr_cons]; intro hpos e he
        have hx1 : 1 ≤ x := by
          rcases Int.lt_or_le 0 x with h | h
          · omega
          · have : x = 0 := by omega
            subst this; simp at hpos
        have : 0 < xs.foldr (· * ·) 1 := by
          rcases Int.lt_or_le 0 (xs.foldr (· * ·) 1) with h | h
          · exact h
          · have h0 : xs.foldr (· * ·) 1 = 0 := by omega
            rw [h0] at hpos; simp at hpos
        rcases List.mem_cons.1 he with rfl | he
        · exact hx1
        · exact e4 this e he
  have hpow : (1 : Int) * 60 ^ xs.length ≤ 12960000 := by
    have h4 : xs.length = 0 ∨ xs.length = 1 ∨ xs.length = 2 ∨ xs.length = 3 ∨ xs.length = 4 := by omega
    rcases h4 with h | h | h | h | h <;> rw [h] <;> decide
  obtain ⟨e1, e2, e3, e4⟩ := key xs 1 1 (by decide) (by decide) hpow hb
  have e : countL xs = xs.foldr (· * ·) 1 := by unfold countL; rw [e1]; simp
  rw [Int.one_mul] at e3
  exact ⟨by omega, by omega, fun h => e4 (by omega), e⟩
theorem shapeB_in {xs : List Int} (h : shapeB xs = true) : xs.length ≤ 4 ∧ (∀ e ∈ xs, 0 ≤ e ∧ e ≤ 60) ∧ 0 ≤ countL xs ∧ countL xs ≤ 60 ∧ (0 < countL xs → ∀ e ∈ xs, 1 ≤ e) := by
  simp only [shapeB, inB, Bool.and_eq_true, decide_eq_true_eq, List.all_eq_true] at h
  have := countL_zero_or h.1.1 h.1.2
  exact ⟨h.1.1, h.1.2, this.1, h.2, this.2.2.1⟩

def viewB (base : Int) (shape strides : List Int) : Bool :=
  shapeB shape && decide (strides.length = shape.length) && inB 0 60 base && strides.all (inB (-60) 60) && (offsL base shape strides).all (inB 0 59)

theorem any_out (l : List Int) : (!l.any outB) = l.all (inB 0 59) := by
  rw [List.not_any_eq_all_not]
  congr 1; funext x; unfold outB inB; rw [Bool.eq_iff_iff]; simp; omega
theorem viewB_end {base : Int} {shape strides : List Int} (h1 : (shapeB shape && decide (strides.length = shape.length) && inB 0 60 base) = true) (h2 : strides.all (inB (-60) 60) = true) :
    viewB base shape strides = !(offsL base shape strides).any outB := by
  unfold viewB; rw [h1, h2, any_out]; simp
set_option maxHeartbeats 800000 in
theorem isView_c (base : Int) (sh st : Value) (shape strides : List Int) (w : World) (lo lo' : Nat) (hsh : Ints w lo sh shape) (hst : Ints w lo' st strides) :
    Calls Try.prog 66 #[.agg #[.int .i64 base, sh, st]] w fun e w' => e = .returned (.bool (viewB base shape strides)) ∧ Ext w w' := by
  have hst0 := Lib.hid hst
  have hsh0 := Lib.hid hsh
  obtain ⟨a, cap, rfl, hlc, hcm, ⟨hlen, _⟩, hc⟩ := hst
  obtain ⟨a2, cap2, rfl, hlc2, hcm2, ⟨hlen2, _⟩, hc2⟩ := hsh
  by_cases hb : (shapeB shape && decide (strides.length = shape.length) && inB 0 60 base) = true
  case neg =>
    have hv := Lib.hid (show viewB base shape strides = false by unfold viewB; simp only [Bool.not_eq_true] at hb; simp only [hb, Bool.false_and])
    have hb := Lib.hid (show (shapeB shape && decide (strides.length = shape.length) && inB 0 60 base) = false by simpa using hb)
    go_enter Try.func66, Try.ntmps66
    go_wp2_with (go_at_call 107; refine (isShape_c shape _ _ lo (hsh0.out.ext ((Ext.refl _).alloc _))).mono ?_; rintro e w' ⟨rfl, rfl⟩)
    all_goals first
      | (go_ret; exact ⟨by rw [hv.out]; rfl, (Ext.refl _).alloc _⟩)
      | (exfalso; have := hb.out; simp [inB, *] at this; omega)
  have hbs := hb
  simp only [Bool.and_eq_true, decide_eq_true_eq, inB] at hbs
  obtain ⟨⟨h1, h2⟩, h3, h4⟩ := hbs
  have h1' := Lib.hid h1
  have hb := Lib.hid hb
  rw [h2] at hst0
  go_enter Try.func66, Try.ntmps66
  go_wp2_with (go_at_call 107; refine (isShape_c shape _ _ lo (hsh0.out.ext ((Ext.refl _).alloc _))).mono ?_; rintro e w' ⟨rfl, rfl⟩)
  clear h1
  go_loop [31] (fun i => ∃ k : Nat, k ≤ strides.length ∧ i = .int .i64 k ∧ (strides.take k).all (inB (-60) 60) = true) (fun i => strides.length - (intOf i).toNat)
  case atStart => exact ⟨0, Nat.zero_le _, rfl, rfl⟩
  case round =>
    obtain ⟨k, hk, rfl, hall0⟩ := hrel
    have hall := Lib.hid hall0
    clear hall0
    by_cases hlt : k < strides.length
    · obtain ⟨b, off, rfl, _, hcell, _⟩ := hc k hlt
      have hbl := World.block_lt_of_cell? _ _ hcell
      have hlt2 : k < shape.length := by omega
      clear hc hc2
      go_wp2_with fail
      all_goals first
        | (go_ret; exact ⟨by simp [viewB, all_no (inB (-60) 60) strides k hlt (by unfold inB; simp; omega)], (Ext.refl _).alloc _⟩)
        | (go_round; (case rel => exact ⟨k+1, by omega, by go_num, all_take _ strides k hlt hall.out (by unfold inB; simp; omega)⟩); (case measure => simp [intOf]; omega))
    · have hk' := Lib.hid (show k = strides.length by omega)
      have hin := shapeB_in h1'.out
      clear hc hc2
      go_wp2_with (first
        | (go_at_call 73; refine (offsetsOf_c base _ _ shape strides _ lo lo' (hsh0.out.ext ((Ext.refl _).alloc _)) (hst0.out.ext ((Ext.refl _).alloc _)) (by omega) hin.2.2.2.2 (by omega)).mono ?_; rintro e w1 ⟨v1, rfl, hi1, _, hx1⟩)
        | (go_at_call 59; refine (containsFunc_c _ _ outB _ _ _ _ hi1 (isViewF_c _)).mono ?_; rintro e w2 ⟨rfl, rfl⟩))
      go_ret
      exact ⟨by rw [viewB_end hb.out (by have := hall.out; rw [hk'.out] at this; simpa using this)]; rfl, (Ext.trans ((Ext.refl _).alloc _) hx1)⟩
theorem viewB_in {base : Int} {shape strides : List Int} (h : viewB base shape strides = true) :
    shapeB shape = true ∧ strides.length = shape.length ∧ (0 ≤ base ∧ base ≤ 60) ∧ (∀ s ∈ strides, -60 ≤ s ∧ s ≤ 60) ∧ (∀ x ∈ offsL base shape strides, 0 ≤ x ∧ x ≤ 59) := by
  simp only [viewB, inB, Bool.and_eq_true, decide_eq_true_eq, List.all_eq_true] at h
  exact ⟨h.1.1.1.1, h.1.1.1.2, h.1.1.2, h.1.2, h.2⟩

end Go.Proofs.Ytjpngmdfnglabaa
