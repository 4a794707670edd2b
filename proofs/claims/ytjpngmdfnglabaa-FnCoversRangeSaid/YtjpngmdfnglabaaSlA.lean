/- Walks: slices of the reference: valid ones, ends, indices, and what a slice takes of a range. -/
import Derived.Test.YtjpngmdfnglabaaRngC
namespace Go.Proofs.Ytjpngmdfnglabaa
open Go.RowKit
set_option linter.unusedVariables false
set_option maxRecDepth 100000

def sliceB (F T B : Int) (hf ht : Bool) : Bool := inB (-100) 100 F && (inB (-100) 100 T && (inB (-200) 200 B && (!(B == 0) && ((hf || F == 0) && (ht || T == 0)))))
theorem sliceB_in {F T B : Int} {hf ht : Bool} (h : sliceB F T B hf ht = true) : (-100 ≤ F ∧ F ≤ 100) ∧ (-100 ≤ T ∧ T ≤ 100) ∧ (-200 ≤ B ∧ B ≤ 200) ∧ B ≠ 0 := by
  simp only [sliceB, inB, Bool.and_eq_true, decide_eq_true_eq, Bool.not_eq_true', beq_eq_false_iff_ne] at h
  exact ⟨h.1, h.2.1, h.2.2.1, h.2.2.2.1⟩
/-- an end of a slice that is given -/
def boundI (n x b : Int) : Int := min (if b < 0 then n - 1 else n) (max (if b < 0 then -1 else 0) (if x < 0 then x + n else x))
def fromI (n F B : Int) (hf : Bool) : Int := if hf then boundI n F B else if B < 0 then n - 1 else 0
def toI (n T B : Int) (ht : Bool) : Int := if ht then boundI n T B else if B < 0 then -1 else n
/-- the indices that a slice takes of n -/
def idxS (n F T B : Int) (hf ht : Bool) : List Int := numL (fromI n F B hf) (toI n T B ht) B
theorem boundI_in {n x b : Int} (hn : 0 ≤ n) : (-1 ≤ boundI n x b ∧ boundI n x b ≤ n) ∧ (b < 0 → boundI n x b ≤ n - 1) ∧ (0 ≤ b → 0 ≤ boundI n x b) := by unfold boundI; split <;> split <;> omega
theorem fromI_in {n F B : Int} {hf : Bool} (hn : 0 ≤ n) : (-1 ≤ fromI n F B hf ∧ fromI n F B hf ≤ n) ∧ (B < 0 → fromI n F B hf ≤ n - 1) ∧ (0 ≤ B → 0 ≤ fromI n F B hf) := by
  have := boundI_in (n := n) (x := F) (b := B) hn
  unfold fromI; split
  · exact this
  · split <;> omega
theorem toI_in {n T B : Int} {ht : Bool} (hn : 0 ≤ n) : (-1 ≤ toI n T B ht ∧ toI n T B ht ≤ n) := by
  have := boundI_in (n := n) (x := T) (b := B) hn
  unfold toI; split
  · exact this.1
  · split <;> omega
theorem idxS_in {n F T B : Int} {hf ht : Bool} (hn : 0 ≤ n) (hB : B ≠ 0) : ∀ i ∈ idxS n F T B hf ht, 0 ≤ i ∧ i < n := by
  intro i hi
  have h1 := fromI_in (n := n) (F := F) (B := B) (hf := hf) hn
  have h2 := toI_in (n := n) (T := T) (B := B) (ht := ht) hn
  have h3 := numL_in hB hi
  omega
theorem ret_i {x y : Int} (h : x = y) : Ending.returned (.int .i64 x) = .returned (.int .i64 y) := by rw [h]

set_option maxHeartbeats 1600000 in
theorem bound_c (n x b : Int) (w : World) (hn : 0 ≤ n ∧ n ≤ 1000) (hx : -1000 ≤ x ∧ x ≤ 1000) :
    Calls Try.prog 137 #[.int .i64 n, .int .i64 x, .int .i64 b] w fun e w' => e = .returned (.int .i64 (boundI n x b)) ∧ w = w' := by
  obtain ⟨n0, n1⟩ := hn
  obtain ⟨x0, x1⟩ := hx
  by_cases hb : b < 0
  · by_cases hx0 : x < 0
    all_goals
      go_enter Try.func137, Try.ntmps137
      go_wp2_with fail
      go_ret
      exact ⟨ret_i (by unfold boundI; (repeat' split) <;> omega), rfl⟩
  · by_cases hx0 : x < 0
    all_goals
      go_enter Try.func137, Try.ntmps137
      go_wp2_with fail
      go_ret
      exact ⟨ret_i (by unfold boundI; (repeat' split) <;> omega), rfl⟩

set_option maxHeartbeats 3200000 in
theorem validSlice_c (F T B : Int) (hf ht : Bool) (w : World) :
    Calls Try.prog 104 #[.agg #[.int .i64 F, .int .i64 T, .int .i64 B, .bool hf, .bool ht]] w fun e w' => e = .returned (.bool (sliceB F T B hf ht)) ∧ Ext w w' := by
  unfold sliceB
  cases h1 : inB (-100) 100 F
  · go_enter Try.func104, Try.ntmps104
    go_wp2_with (go_at_call 70; refine (inRange_c _ _ _ _).mono ?_; rintro e w' ⟨rfl, rfl⟩)
    go_ret
    exact ⟨rfl, (by repeat (first | exact Ext.refl _ | assumption | apply Ext.drewN | apply Ext.drew | apply Ext.alloc))⟩
  · cases h2 : inB (-100) 100 T
    · go_enter Try.func104, Try.ntmps104
      go_wp2_with (go_at_call 70; refine (inRange_c _ _ _ _).mono ?_; rintro e w' ⟨rfl, rfl⟩)
      go_ret
      exact ⟨rfl, (by repeat (first | exact Ext.refl _ | assumption | apply Ext.drewN | apply Ext.drew | apply Ext.alloc))⟩
    · cases h3 : inB (-200) 200 B
      · go_enter Try.func104, Try.ntmps104
        go_wp2_with (go_at_call 70; refine (inRange_c _ _ _ _).mono ?_; rintro e w' ⟨rfl, rfl⟩)
        go_ret
        exact ⟨rfl, (by repeat (first | exact Ext.refl _ | assumption | apply Ext.drewN | apply Ext.drew | apply Ext.alloc))⟩
      · cases h4 : (B == 0)
        · have h5 : (B != 0) = true := by simpa using h4
          cases hf
          · cases h6 : (F == 0)
            · cases ht
              all_goals
                go_enter Try.func104, Try.ntmps104
                go_wp2_with (go_at_call 70; refine (inRange_c _ _ _ _).mono ?_; rintro e w' ⟨rfl, rfl⟩)
                go_ret
                exact ⟨rfl, (by repeat (first | exact Ext.refl _ | assumption | apply Ext.drewN | apply Ext.drew | apply Ext.alloc))⟩
            · cases ht
              · cases h7 : (T == 0)
                all_goals
                  go_enter Try.func104, Try.ntmps104
                  go_wp2_with (go_at_call 70; refine (inRange_c _ _ _ _).mono ?_; rintro e w' ⟨rfl, rfl⟩)
                  go_ret
                  exact ⟨rfl, (by repeat (first | exact Ext.refl _ | assumption | apply Ext.drewN | apply Ext.drew | apply Ext.alloc))⟩
              · go_enter Try.func104, Try.ntmps104
                go_wp2_with (go_at_call 70; refine (inRange_c _ _ _ _).mono ?_; rintro e w' ⟨rfl, rfl⟩)
                go_ret
                exact ⟨rfl, (by repeat (first | exact Ext.refl _ | assumption | apply Ext.drewN | apply Ext.drew | apply Ext.alloc))⟩
          · cases ht
            · cases h7 : (T == 0)
              all_goals
                go_enter Try.func104, Try.ntmps104
                go_wp2_with (go_at_call 70; refine (inRange_c _ _ _ _).mono ?_; rintro e w' ⟨rfl, rfl⟩)
                go_ret
                exact ⟨rfl, (by repeat (first | exact Ext.refl _ | assumption | apply Ext.drewN | apply Ext.drew | apply Ext.alloc))⟩
            · go_enter Try.func104, Try.ntmps104
              go_wp2_with (go_at_call 70; refine (inRange_c _ _ _ _).mono ?_; rintro e w' ⟨rfl, rfl⟩)
              go_ret
              exact ⟨rfl, (by repeat (first | exact Ext.refl _ | assumption | apply Ext.drewN | apply Ext.drew | apply Ext.alloc))⟩
        · have h5 : (B != 0) = false := by simpa using h4
          go_enter Try.func104, Try.ntmps104
          go_wp2_with (go_at_call 70; refine (inRange_c _ _ _ _).mono ?_; rintro e w' ⟨rfl, rfl⟩)
          go_ret
          exact ⟨rfl, (by repeat (first | exact Ext.refl _ | assumption | apply Ext.drewN | apply Ext.drew | apply Ext.alloc))⟩

set_option maxHeartbeats 3200000 in
theorem indices_c (n F T B : Int) (hf ht : Bool) (w : World) (hn : 0 ≤ n ∧ n ≤ 200) (hs : sliceB F T B hf ht = true) :
    Calls Try.prog 105 #[.int .i64 n, .agg #[.int .i64 F, .int .i64 T, .int .i64 B, .bool hf, .bool ht]] w (PInts w (idxS n F T B hf ht)) := by
  have hi := sliceB_in hs
  have hF := fromI_in (n := n) (F := F) (B := B) (hf := hf) hn.1
  have hT := toI_in (n := n) (T := T) (B := B) (ht := ht) hn.1
  have hB0 := hi.2.2.2
  have hnum := Lib.hid (fun W => numbers_c (fromI n F B hf) (toI n T B ht) B W (by omega) (by omega) (by omega) hB0)
  obtain ⟨⟨F0, F1⟩, ⟨T0, T1⟩, ⟨B0, B1⟩, -⟩ := hi
  obtain ⟨n0, n1⟩ := hn
  unfold idxS
  clear hs hF hT hB0
  unfold fromI toI at hnum ⊢
  cases hf <;> cases ht <;> by_cases hb : B < 0
  all_goals
    simp only [hb, if_true, if_false, Bool.false_eq_true] at hnum ⊢
    go_enter Try.func105, Try.ntmps105
    go_wp2_with (go_at_call 137; refine (bound_c _ _ _ _ (by omega) (by omega)).mono ?_; rintro e w' ⟨rfl, rfl⟩)
    refine (hnum.out _).mono ?_
    rintro e w1 ⟨v1, rfl, i1, o1, x1⟩
    go_wp2_with fail
    go_ret
    exact PInts.of o1 i1 (Ext.size (show Ext w _ from (by repeat (first | exact Ext.refl _ | assumption | apply Ext.drewN | apply Ext.drew | apply Ext.alloc)))) (Ext.trans (by repeat (first | exact Ext.refl _ | assumption | apply Ext.drewN | apply Ext.drew | apply Ext.alloc)) x1)

end Go.Proofs.Ytjpngmdfnglabaa
