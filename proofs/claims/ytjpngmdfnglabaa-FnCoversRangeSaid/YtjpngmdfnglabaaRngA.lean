/- Walks: valid ranges and the numbers of a range, of the program and of the reference. -/
import Derived.Test.YtjpngmdfnglabaaExG
namespace Go.Proofs.Ytjpngmdfnglabaa
open Go.RowKit
set_option linter.unusedVariables false
set_option maxRecDepth 100000

def rangeB (a b s : Int) : Bool := inB (-100) 100 a && (inB (-101) 101 b && (inB (-200) 200 s && !(s == 0)))
theorem rangeB_in {a b s : Int} (h : rangeB a b s = true) : (-100 ≤ a ∧ a ≤ 100) ∧ (-101 ≤ b ∧ b ≤ 101) ∧ (-200 ≤ s ∧ s ≤ 200) ∧ s ≠ 0 := by
  simpa [rangeB, inB] using h
theorem ret_b {x y : Bool} (h : x = y) : Ending.returned (.bool x) = .returned (.bool y) := by rw [h]

set_option maxHeartbeats 1600000 in
theorem isRange_c (a b s : Int) (w : World) :
    Calls Try.prog 48 #[.agg #[.int .i64 a, .int .i64 b, .int .i64 s]] w fun e w' => e = .returned (.bool (rangeB a b s)) ∧ Ext w w' := by
  cases h : rangeB a b s
  · have h' := Lib.hid h
    clear h
    go_enter Try.func48, Try.ntmps48
    go_wp2_with fail
    all_goals
      go_ret
      refine ⟨?_, (by repeat (first | exact Ext.refl _ | assumption | apply Ext.drewN | apply Ext.drew | apply Ext.alloc))⟩
      rw [← h'.out]
      refine ret_b ?_
      first | rfl | (rw [Bool.eq_iff_iff]; first | done | (simp [rangeB, inB] <;> omega))
  · obtain ⟨⟨h1, h2⟩, ⟨h3, h4⟩, ⟨h5, h6⟩, h7⟩ := rangeB_in h
    have h8 : (s == 0) = false := by simpa using h7
    have h9 : (s != 0) = true := by simpa using h7
    clear h h7
    go_enter Try.func48, Try.ntmps48
    go_wp2_with fail
    go_ret
    exact ⟨rfl, (by repeat (first | exact Ext.refl _ | assumption | apply Ext.drewN | apply Ext.drew | apply Ext.alloc))⟩

set_option maxHeartbeats 1600000 in
theorem validRange_c (a b s : Int) (w : World) :
    Calls Try.prog 53 #[.agg #[.int .i64 a, .int .i64 b, .int .i64 s]] w fun e w' => e = .returned (.bool (rangeB a b s)) ∧ Ext w w' := by
  unfold rangeB
  cases h1 : inB (-100) 100 a
  · go_enter Try.func53, Try.ntmps53
    go_wp2_with (go_at_call 70; refine (inRange_c _ _ _ _).mono ?_; rintro e w' ⟨rfl, rfl⟩)
    go_ret
    exact ⟨rfl, (by repeat (first | exact Ext.refl _ | assumption | apply Ext.drewN | apply Ext.drew | apply Ext.alloc))⟩
  · cases h2 : inB (-101) 101 b
    · go_enter Try.func53, Try.ntmps53
      go_wp2_with (go_at_call 70; refine (inRange_c _ _ _ _).mono ?_; rintro e w' ⟨rfl, rfl⟩)
      go_ret
      exact ⟨rfl, (by repeat (first | exact Ext.refl _ | assumption | apply Ext.drewN | apply Ext.drew | apply Ext.alloc))⟩
    · cases h3 : inB (-200) 200 s
      · go_enter Try.func53, Try.ntmps53
        go_wp2_with (go_at_call 70; refine (inRange_c _ _ _ _).mono ?_; rintro e w' ⟨rfl, rfl⟩)
        go_ret
        exact ⟨rfl, (by repeat (first | exact Ext.refl _ | assumption | apply Ext.drewN | apply Ext.drew | apply Ext.alloc))⟩
      · cases h4 : (s == 0)
        · have h5 : (s != 0) = true := by simpa using h4
          go_enter Try.func53, Try.ntmps53
          go_wp2_with (go_at_call 70; refine (inRange_c _ _ _ _).mono ?_; rintro e w' ⟨rfl, rfl⟩)
          go_ret
          exact ⟨rfl, (by repeat (first | exact Ext.refl _ | assumption | apply Ext.drewN | apply Ext.drew | apply Ext.alloc))⟩
        · have h5 : (s != 0) = false := by simpa using h4
          go_enter Try.func53, Try.ntmps53
          go_wp2_with (go_at_call 70; refine (inRange_c _ _ _ _).mono ?_; rintro e w' ⟨rfl, rfl⟩)
          go_ret
          exact ⟨rfl, (by repeat (first | exact Ext.refl _ | assumption | apply Ext.drewN | apply Ext.drew | apply Ext.alloc))⟩

theorem cntL_le {a b s : Int} (h1 : -1000 ≤ a ∧ a ≤ 1000) (h2 : -1000 ≤ b ∧ b ≤ 1000) (h3 : s ≠ 0) : cntL a b s ≤ 2000 := by
  rcases Nat.lt_or_ge 2000 (cntL a b s) with h | h
  · exfalso
    have hk := (num_step (a := a) (b := b) h3 2000).2 h
    rcases hk with ⟨hs, hk⟩ | ⟨hs, hk⟩
    · have := Int.mul_le_mul_of_nonneg_left (show (1 : Int) ≤ s by omega) (show (0 : Int) ≤ 2000 by omega)
      simp at hk this; omega
    · have := Int.mul_le_mul_of_nonneg_left (show s ≤ (-1 : Int) by omega) (show (0 : Int) ≤ 2000 by omega)
      simp at hk this; omega
  · exact h
theorem numL_take (a b s : Int) (k : Nat) (h : k < cntL a b s) : (numL a b s).take (k+1) = (numL a b s).take k ++ [a + k * s] := by
  rw [List.take_succ_eq_append_getElem (by rw [numL_len]; exact h), numL_get]

set_option maxHeartbeats 3200000 in
theorem numbersOf_c (a b s : Int) (w : World) (h1 : -1000 ≤ a ∧ a ≤ 1000) (h2 : -1000 ≤ b ∧ b ≤ 1000) (h3 : -1000 ≤ s ∧ s ≤ 1000) (h4 : s ≠ 0) :
    Calls Try.prog 49 #[.agg #[.int .i64 a, .int .i64 b, .int .i64 s]] w (PInts w (numL a b s)) := by
  have hcl := cntL_le h1 h2 h4
  obtain ⟨h1a, h1b⟩ := h1
  obtain ⟨h2a, h2b⟩ := h2
  obtain ⟨h3a, h3b⟩ := h3
  have hst := Lib.hid (fun k : Nat => num_step (a := a) (b := b) h4 k)
  have hnl := Lib.hid (numL_len a b s)
  rcases Int.lt_or_lt_of_ne h4 with hs | hs
  · replace h4 := Lib.hid h4
    go_enter Try.func49, Try.ntmps49
    go_wp2_with fail
    go_loopw [3, 4] (fun v x wr => ∃ (k : Nat) (x0 : Int), k ≤ cntL a b s ∧ x = .int .i64 x0 ∧ Hid (x0 = a + k * s) ∧ OwnI wr (w.heap.size + 1) v ((numL a b s).take k) ∧
        wr.cell? ⟨w.heap.size, 0, none⟩ = some (.int .i64 a) ∧ wr.cell? ⟨w.heap.size, 1, none⟩ = some (.int .i64 b) ∧ wr.cell? ⟨w.heap.size, 2, none⟩ = some (.int .i64 s) ∧ Ext w wr ∧ w.heap.size < wr.heap.size)
      (fun _ x _ => (if 0 < s then b - intOf x else intOf x - b).toNat)
    case atStart =>
      refine ⟨0, a, Nat.zero_le _, rfl, Lib.hid (by simp), ?_, by simp, by simp, by simp, (by repeat (first | exact Ext.refl _ | assumption | apply Ext.drewN | apply Ext.drew | apply Ext.alloc)), by simp; omega⟩
      simpa using OwnI.lit0 (w.alloc (.cells #[.int .i64 a, .int .i64 b, .int .i64 s] 24)) (w.heap.size + 1) (by simp)
    case round =>
      obtain ⟨k, x0, hk, rfl, hx0, ho, c0, c1, c2, hx, hz⟩ := hrel
      have hz2 : w.heap.size + 1 ≤ wr.heap.size := hz
      have hsk := hst.out k
      rw [← hx0.out] at hsk
      by_cases hlt : k < cntL a b s
      · have htk := Lib.hid (numL_take a b s k hlt)
        have hgo := hsk.2 hlt
        have hnext := Lib.hid (show x0 + s = a + ((k + 1 : Nat) : Int) * s by rw [hx0.out, Int.natCast_add, Int.add_mul]; omega)
        have g1 : b < x0 := by omega
        have g2 : x0 ≤ a := by rw [hx0.out]; have := Int.mul_nonneg (show (0 : Int) ≤ k by omega) (show (0 : Int) ≤ -s by omega); rw [Int.mul_neg] at this; omega
        have g3 : ¬ 0 < s := by omega
        have g4 : decide (0 < s) = false := by simpa using g3
        clear hsk hgo
        go_wp2_with (at_builtin; refine wpList_app rfl (.tmp 32) (.tmp 34) rfl rfl rfl (ho.ext ((Ext.refl _).alloc _)) (Ints.one _ 0 _ (Nat.zero_le _)) (by have := hnl.out; simp only [List.length_cons, List.length_nil, List.length_take]; omega) (by simp; omega) ?_)
        intro v' w3 ho3 _ hb3 _
        have hx3 := (hx.alloc (.cells #[.int .i64 x0] 3)).below hb3 (by omega)
        have d0 := below_cell hb3 (b := w.heap.size) (by omega) (((Ext.refl _).alloc (.cells #[.int .i64 x0] 3)).cell c0)
        have d1 := below_cell hb3 (b := w.heap.size) (by omega) (((Ext.refl _).alloc (.cells #[.int .i64 x0] 3)).cell c1)
        have d2 := below_cell hb3 (b := w.heap.size) (by omega) (((Ext.refl _).alloc (.cells #[.int .i64 x0] 3)).cell c2)
        have hz3 := hb3.size
        simp at hz3
        have hz4 : w.heap.size < w3.heap.size := by omega
        clear hb3 ho c0 c1 c2
        replace ho3 := Lib.hid ho3
        go_wp2_with fail
        go_roundw
        case rel => exact ⟨k+1, x0 + s, by omega, rfl, hnext, by rw [htk.out, ← hx0.out]; exact ho3.out, d0, d1, d2, hx3, hz4⟩
        case measure => simp [intOf]; first | (rw [if_pos hs, if_pos hs]; omega) | (rw [if_neg (by omega), if_neg (by omega)]; omega) | omega
      · obtain rfl : k = cntL a b s := by omega
        have hno : ¬ (0 < s ∧ x0 < b ∨ s < 0 ∧ b < x0) := fun h => hlt (hsk.1 h)
        have g1 : ¬ b < x0 := by omega
        have g3 : ¬ 0 < s := by omega
        have g4 : decide (0 < s) = false := by simpa using g3
        have g5 : decide (b < x0) = false := by simpa using g1
        clear hsk hno
        replace ho := Lib.hid ho
        go_wp2_with fail
        go_ret
        exact PInts.mk (by have := ho.out; rw [List.take_of_length_le (by rw [hnl.out]; omega)] at this; exact this) (Nat.le_succ _) (by rw [hnl.out]; omega) hx
  · replace h4 := Lib.hid h4
    go_enter Try.func49, Try.ntmps49
    go_wp2_with fail
    go_loopw [3, 4] (fun v x wr => ∃ (k : Nat) (x0 : Int), k ≤ cntL a b s ∧ x = .int .i64 x0 ∧ Hid (x0 = a + k * s) ∧ OwnI wr (w.heap.size + 1) v ((numL a b s).take k) ∧
        wr.cell? ⟨w.heap.size, 0, none⟩ = some (.int .i64 a) ∧ wr.cell? ⟨w.heap.size, 1, none⟩ = some (.int .i64 b) ∧ wr.cell? ⟨w.heap.size, 2, none⟩ = some (.int .i64 s) ∧ Ext w wr ∧ w.heap.size < wr.heap.size)
      (fun _ x _ => (if 0 < s then b - intOf x else intOf x - b).toNat)
    case atStart =>
      refine ⟨0, a, Nat.zero_le _, rfl, Lib.hid (by simp), ?_, by simp, by simp, by simp, (by repeat (first | exact Ext.refl _ | assumption | apply Ext.drewN | apply Ext.drew | apply Ext.alloc)), by simp; omega⟩
      simpa using OwnI.lit0 (w.alloc (.cells #[.int .i64 a, .int .i64 b, .int .i64 s] 24)) (w.heap.size + 1) (by simp)
    case round =>
      obtain ⟨k, x0, hk, rfl, hx0, ho, c0, c1, c2, hx, hz⟩ := hrel
      have hz2 : w.heap.size + 1 ≤ wr.heap.size := hz
      have hsk := hst.out k
      rw [← hx0.out] at hsk
      by_cases hlt : k < cntL a b s
      · have htk := Lib.hid (numL_take a b s k hlt)
        have hgo := hsk.2 hlt
        have hnext := Lib.hid (show x0 + s = a + ((k + 1 : Nat) : Int) * s by rw [hx0.out, Int.natCast_add, Int.add_mul]; omega)
        have g1 : x0 < b := by omega
        have g2 : a ≤ x0 := by rw [hx0.out]; have := Int.mul_nonneg (show (0 : Int) ≤ k by omega) (show (0 : Int) ≤ s by omega); omega
        have g3 : ¬ s < 0 := by omega
        clear hsk hgo
        go_wp2_with (at_builtin; refine wpList_app rfl (.tmp 32) (.tmp 34) rfl rfl rfl (ho.ext ((Ext.refl _).alloc _)) (Ints.one _ 0 _ (Nat.zero_le _)) (by have := hnl.out; simp only [List.length_cons, List.length_nil, List.length_take]; omega) (by simp; omega) ?_)
        intro v' w3 ho3 _ hb3 _
        have hx3 := (hx.alloc (.cells #[.int .i64 x0] 3)).below hb3 (by omega)
        have d0 := below_cell hb3 (b := w.heap.size) (by omega) (((Ext.refl _).alloc (.cells #[.int .i64 x0] 3)).cell c0)
        have d1 := below_cell hb3 (b := w.heap.size) (by omega) (((Ext.refl _).alloc (.cells #[.int .i64 x0] 3)).cell c1)
        have d2 := below_cell hb3 (b := w.heap.size) (by omega) (((Ext.refl _).alloc (.cells #[.int .i64 x0] 3)).cell c2)
        have hz3 := hb3.size
        simp at hz3
        have hz4 : w.heap.size < w3.heap.size := by omega
        clear hb3 ho c0 c1 c2
        replace ho3 := Lib.hid ho3
        go_wp2_with fail
        go_roundw
        case rel => exact ⟨k+1, x0 + s, by omega, rfl, hnext, by rw [htk.out, ← hx0.out]; exact ho3.out, d0, d1, d2, hx3, hz4⟩
        case measure => simp [intOf]; first | (rw [if_pos hs, if_pos hs]; omega) | (rw [if_neg (by omega), if_neg (by omega)]; omega) | omega
      · obtain rfl : k = cntL a b s := by omega
        have hno : ¬ (0 < s ∧ x0 < b ∨ s < 0 ∧ b < x0) := fun h => hlt (hsk.1 h)
        have g1 : ¬ x0 < b := by omega
        have g3 : ¬ s < 0 := by omega
        have g4 : decide (s < 0) = false := by simpa using g3
        have g5 : decide (x0 < b) = false := by simpa using g1
        clear hsk hno
        replace ho := Lib.hid ho
        go_wp2_with fail
        go_ret
        exact PInts.mk (by have := ho.out; rw [List.take_of_length_le (by rw [hnl.out]; omega)] at this; exact this) (Nat.le_succ _) (by rw [hnl.out]; omega) hx

set_option maxHeartbeats 3200000 in
theorem numbers_c (a b s : Int) (w : World) (h1 : -1000 ≤ a ∧ a ≤ 1000) (h2 : -1000 ≤ b ∧ b ≤ 1000) (h3 : -1000 ≤ s ∧ s ≤ 1000) (h4 : s ≠ 0) :
    Calls Try.prog 57 #[.agg #[.int .i64 a, .int .i64 b, .int .i64 s]] w (PInts w (numL a b s)) := by
  have hcl := cntL_le h1 h2 h4
  obtain ⟨h1a, h1b⟩ := h1
  obtain ⟨h2a, h2b⟩ := h2
  obtain ⟨h3a, h3b⟩ := h3
  have hst := Lib.hid (fun k : Nat => num_step (a := a) (b := b) h4 k)
  have hnl := Lib.hid (numL_len a b s)
  rcases Int.lt_or_lt_of_ne h4 with hs | hs
  · replace h4 := Lib.hid h4
    go_enter Try.func57, Try.ntmps57
    go_wp2_with fail
    go_loopw [3, 4] (fun v x wr => ∃ (k : Nat) (x0 : Int), k ≤ cntL a b s ∧ x = .int .i64 x0 ∧ Hid (x0 = a + k * s) ∧ OwnI wr (w.heap.size + 1) v ((numL a b s).take k) ∧
        wr.cell? ⟨w.heap.size, 0, none⟩ = some (.int .i64 a) ∧ wr.cell? ⟨w.heap.size, 1, none⟩ = some (.int .i64 b) ∧ wr.cell? ⟨w.heap.size, 2, none⟩ = some (.int .i64 s) ∧ Ext w wr ∧ w.heap.size < wr.heap.size)
      (fun _ x _ => (if 0 < s then b - intOf x else intOf x - b).toNat)
    case atStart =>
      refine ⟨0, a, Nat.zero_le _, rfl, Lib.hid (by simp), ?_, by simp, by simp, by simp, (by repeat (first | exact Ext.refl _ | assumption | apply Ext.drewN | apply Ext.drew | apply Ext.alloc)), by simp; omega⟩
      simpa using OwnI.lit0 (w.alloc (.cells #[.int .i64 a, .int .i64 b, .int .i64 s] 24)) (w.heap.size + 1) (by simp)
    case round =>
      obtain ⟨k, x0, hk, rfl, hx0, ho, c0, c1, c2, hx, hz⟩ := hrel
      have hz2 : w.heap.size + 1 ≤ wr.heap.size := hz
      have hsk := hst.out k
      rw [← hx0.out] at hsk
      by_cases hlt : k < cntL a b s
      · have htk := Lib.hid (numL_take a b s k hlt)
        have hgo := hsk.2 hlt
        have hnext := Lib.hid (show x0 + s = a + ((k + 1 : Nat) : Int) * s by rw [hx0.out, Int.natCast_add, Int.add_mul]; omega)
        have g1 : b < x0 := by omega
        have g2 : x0 ≤ a := by rw [hx0.out]; have := Int.mul_nonneg (show (0 : Int) ≤ k by omega) (show (0 : Int) ≤ -s by omega); rw [Int.mul_neg] at this; omega
        have g3 : ¬ 0 < s := by omega
        have g4 : decide (0 < s) = false := by simpa using g3
        clear hsk hgo
        go_wp2_with (at_builtin; refine wpList_app rfl (.tmp 32) (.tmp 34) rfl rfl rfl (ho.ext ((Ext.refl _).alloc _)) (Ints.one _ 0 _ (Nat.zero_le _)) (by have := hnl.out; simp only [List.length_cons, List.length_nil, List.length_take]; omega) (by simp; omega) ?_)
        intro v' w3 ho3 _ hb3 _
        have hx3 := (hx.alloc (.cells #[.int .i64 x0] 3)).below hb3 (by omega)
        have d0 := below_cell hb3 (b := w.heap.size) (by omega) (((Ext.refl _).alloc (.cells #[.int .i64 x0] 3)).cell c0)
        have d1 := below_cell hb3 (b := w.heap.size) (by omega) (((Ext.refl _).alloc (.cells #[.int .i64 x0] 3)).cell c1)
        have d2 := below_cell hb3 (b := w.heap.size) (by omega) (((Ext.refl _).alloc (.cells #[.int .i64 x0] 3)).cell c2)
        have hz3 := hb3.size
        simp at hz3
        have hz4 : w.heap.size < w3.heap.size := by omega
        clear hb3 ho c0 c1 c2
        replace ho3 := Lib.hid ho3
        go_wp2_with fail
        go_roundw
        case rel => exact ⟨k+1, x0 + s, by omega, rfl, hnext, by rw [htk.out, ← hx0.out]; exact ho3.out, d0, d1, d2, hx3, hz4⟩
        case measure => simp [intOf]; first | (rw [if_pos hs, if_pos hs]; omega) | (rw [if_neg (by omega), if_neg (by omega)]; omega) | omega
      · obtain rfl : k = cntL a b s := by omega
        have hno : ¬ (0 < s ∧ x0 < b ∨ s < 0 ∧ b < x0) := fun h => hlt (hsk.1 h)
        have g1 : ¬ b < x0 := by omega
        have g3 : ¬ 0 < s := by omega
        have g4 : decide (0 < s) = false := by simpa using g3
        have g5 : decide (b < x0) = false := by simpa using g1
        clear hsk hno
        replace ho := Lib.hid ho
        go_wp2_with fail
        go_ret
        exact PInts.mk (by have := ho.out; rw [List.take_of_length_le (by rw [hnl.out]; omega)] at this; exact this) (Nat.le_succ _) (by rw [hnl.out]; omega) hx
  · replace h4 := Lib.hid h4
    go_enter Try.func57, Try.ntmps57
    go_wp2_with fail
    go_loopw [3, 4] (fun v x wr => ∃ (k : Nat) (x0 : Int), k ≤ cntL a b s ∧ x = .int .i64 x0 ∧ Hid (x0 = a + k * s) ∧ OwnI wr (w.heap.size + 1) v ((numL a b s).take k) ∧
        wr.cell? ⟨w.heap.size, 0, none⟩ = some (.int .i64 a) ∧ wr.cell? ⟨w.heap.size, 1, none⟩ = some (.int .i64 b) ∧ wr.cell? ⟨w.heap.size, 2, none⟩ = some (.int .i64 s) ∧ Ext w wr ∧ w.heap.size < wr.heap.size)
      (fun _ x _ => (if 0 < s then b - intOf x else intOf x - b).toNat)
    case atStart =>
      refine ⟨0, a, Nat.zero_le _, rfl, Lib.hid (by simp), ?_, by simp, by simp, by simp, (by repeat (first | exact Ext.refl _ | assumption | apply Ext.drewN | apply Ext.drew | apply Ext.alloc)), by simp; omega⟩
      simpa using OwnI.lit0 (w.alloc (.cells #[.int .i64 a, .int .i64 b, .int .i64 s] 24)) (w.heap.size + 1) (by simp)
    case round =>
      obtain ⟨k, x0, hk, rfl, hx0, ho, c0, c1, c2, hx, hz⟩ := hrel
      have hz2 : w.heap.size + 1 ≤ wr.heap.size := hz
      have hsk := hst.out k
      rw [← hx0.out] at hsk
      by_cases hlt : k < cntL a b s
      · have htk := Lib.hid (numL_take a b s k hlt)
        have hgo := hsk.2 hlt
        have hnext := Lib.hid (show x0 + s = a + ((k + 1 : Nat) : Int) * s by rw [hx0.out, Int.natCast_add, Int.add_mul]; omega)
        have g1 : x0 < b := by omega
        have g2 : a ≤ x0 := by rw [hx0.out]; have := Int.mul_nonneg (show (0 : Int) ≤ k by omega) (show (0 : Int) ≤ s by omega); omega
        have g3 : ¬ s < 0 := by omega
        clear hsk hgo
        go_wp2_with (at_builtin; refine wpList_app rfl (.tmp 32) (.tmp 34) rfl rfl rfl (ho.ext ((Ext.refl _).alloc _)) (Ints.one _ 0 _ (Nat.zero_le _)) (by have := hnl.out; simp only [List.length_cons, List.length_nil, List.length_take]; omega) (by simp; omega) ?_)
        intro v' w3 ho3 _ hb3 _
        have hx3 := (hx.alloc (.cells #[.int .i64 x0] 3)).below hb3 (by omega)
        have d0 := below_cell hb3 (b := w.heap.size) (by omega) (((Ext.refl _).alloc (.cells #[.int .i64 x0] 3)).cell c0)
        have d1 := below_cell hb3 (b := w.heap.size) (by omega) (((Ext.refl _).alloc (.cells #[.int .i64 x0] 3)).cell c1)
        have d2 := below_cell hb3 (b := w.heap.size) (by omega) (((Ext.refl _).alloc (.cells #[.int .i64 x0] 3)).cell c2)
        have hz3 := hb3.size
        simp at hz3
        have hz4 : w.heap.size < w3.heap.size := by omega
        clear hb3 ho c0 c1 c2
        replace ho3 := Lib.hid ho3
        go_wp2_with fail
        go_roundw
        case rel => exact ⟨k+1, x0 + s, by omega, rfl, hnext, by rw [htk.out, ← hx0.out]; exact ho3.out, d0, d1, d2, hx3, hz4⟩
        case measure => simp [intOf]; first | (rw [if_pos hs, if_pos hs]; omega) | (rw [if_neg (by omega), if_neg (by omega)]; omega) | omega
      · obtain rfl : k = cntL a b s := by omega
        have hno : ¬ (0 < s ∧ x0 < b ∨ s < 0 ∧ b < x0) := fun h => hlt (hsk.1 h)
        have g1 : ¬ x0 < b := by omega
        have g3 : ¬ s < 0 := by omega
        have g4 : decide (s < 0) = false := by simpa using g3
        have g5 : decide (x0 < b) = false := by simpa using g1
        clear hsk hno
        replace ho := Lib.hid ho
        go_wp2_with fail
        go_ret
        exact PInts.mk (by have := ho.out; rw [List.take_of_length_le (by rw [hnl.out]; omega)] at this; exact this) (Nat.le_succ _) (by rw [hnl.out]; omega) hx


set_option maxHeartbeats 1600000 in
theorem reversed_c (xs : List Int) (v : Value) (w : World) (lo : Nat) (hv : Ints w lo v xs) :
    Calls Try.prog 102 #[v] w (PInts w xs.reverse) := by
  obtain ⟨a, cap, rfl, hlc, hcm, ⟨hlen, _⟩, hc⟩ := hv
  go_enter Try.func102, Try.ntmps102
  go_wp2_with fail
  go_loopw [3, 4] (fun v i wr => ∃ k : Nat, k ≤ xs.length ∧ i = .int .i64 ((k : Int) - 1) ∧ OwnI wr w.heap.size v (xs.drop k).reverse ∧ Ext w wr) (fun _ i _ => (intOf i + 1).toNat)
  case atStart => exact ⟨xs.length, Nat.le_refl _, by go_num, by simpa using OwnI.lit0 w w.heap.size (Nat.le_refl _), (by repeat (first | exact Ext.refl _ | assumption | apply Ext.drewN | apply Ext.drew | apply Ext.alloc))⟩
  case round =>
    obtain ⟨k, hk, rfl, ho, hx⟩ := hrel
    have hz := hx.size
    cases k with
    | zero =>
      replace ho := Lib.hid ho
      clear hc
      go_wp2_with fail
      go_ret
      exact PInts.mk (by simpa using ho.out) (Nat.le_refl _) (by simpa using hlen) hx
    | succ m =>
      rw [show ((m + 1 : Nat) : Int) - 1 = (m : Int) by omega]
      obtain ⟨b, off, rfl, _, hcell0, _⟩ := hc m (by omega)
      have hcell := hx.cell hcell0
      have g : xs.getD m 0 = xs[m] := by simp [show m < xs.length by omega]
      rw [g] at hcell
      have hs := Lib.hid (show (xs.drop m).reverse = (xs.drop (m+1)).reverse ++ [xs[m]] by rw [List.drop_eq_getElem_cons (show m < xs.length by omega), List.reverse_cons])
      have hmI : (m : Int) < xs.length := by omega
      have hll := Lib.hid (show (xs.drop (m+1)).reverse.length + 1 ≤ xs.length by simp; omega)
      clear hc hcell0 g
      go_wp2_with (at_builtin; refine wpList_app rfl (.tmp 13) (.tmp 18) rfl rfl rfl (ho.ext ((Ext.refl _).alloc _)) (Ints.one _ 0 _ (Nat.zero_le _)) (by have := hll.out; simp only [List.length_cons, List.length_nil]; omega) (by simp; omega) ?_)
      intro v' w3 ho3 _ hb3 _
      have hx3 := (hx.alloc (.cells #[.int .i64 xs[m]] 3)).below hb3 (by omega)
      clear hb3 ho
      replace ho3 := Lib.hid ho3
      go_wp2_with fail
      go_roundw
      case rel => exact ⟨m, by omega, rfl, by rw [hs.out]; exact ho3.out, hx3⟩
      case measure => simp [intOf]

theorem ascL_len (xs : List Int) : (ascL xs).length = xs.length := by
  unfold ascL; split
  · split <;> simp
  · rfl

set_option maxHeartbeats 1600000 in
theorem ascending_c (xs : List Int) (v : Value) (w : World) (lo : Nat) (hv : Ints w lo v xs) :
    Calls Try.prog 56 #[v] w (PInts w (ascL xs)) := by
  have hv' := Lib.hid hv
  rcases xs with _ | ⟨x, _ | ⟨y, r⟩⟩
  · obtain ⟨a, cap, rfl, _⟩ := hv
    go_enter Try.func56, Try.ntmps56
    go_wp2_with fail
    go_quiet (fail)
    go_wp2_with fail
    refine (copyInts_c _ _ _ _ (hv'.out.ext (by repeat (first | exact Ext.refl _ | assumption | apply Ext.drewN | apply Ext.drew | apply Ext.alloc)))).mono ?_
    rintro e w1 ⟨r1, rfl, i1, o1, x1⟩
    go_wp2_with fail
    go_ret
    exact PInts.of o1 i1 (Ext.size (show Ext w _ from (by repeat (first | exact Ext.refl _ | assumption | apply Ext.drewN | apply Ext.drew | apply Ext.alloc)))) (Ext.trans (by repeat (first | exact Ext.refl _ | assumption | apply Ext.drewN | apply Ext.drew | apply Ext.alloc)) x1)
  · obtain ⟨b, off, c, rfl, _⟩ := hv.head (by simp)
    go_enter Try.func56, Try.ntmps56
    go_wp2_with fail
    go_quiet (fail)
    go_wp2_with fail
    refine (copyInts_c _ _ _ _ (hv'.out.ext (by repeat (first | exact Ext.refl _ | assumption | apply Ext.drewN | apply Ext.drew | apply Ext.alloc)))).mono ?_
    rintro e w1 ⟨r1, rfl, i1, o1, x1⟩
    go_wp2_with fail
    go_ret
    exact PInts.of o1 i1 (Ext.size (show Ext w _ from (by repeat (first | exact Ext.refl _ | assumption | apply Ext.drewN | apply Ext.drew | apply Ext.alloc)))) (Ext.trans (by repeat (first | exact Ext.refl _ | assumption | apply Ext.drewN | apply Ext.drew | apply Ext.alloc)) x1)
  · obtain ⟨a, c, hv2, _, _, _, hc⟩ := hv
    subst hv2
    obtain ⟨b, off, rfl, _, hcell, _⟩ := hc 0 (by simp)
    obtain ⟨_, _, hh, _, hcell1, _⟩ := hc 1 (by simp)
    cases hh
    simp at hcell hcell1
    have hn : 2 ≤ (x :: y :: r).length := by simp
    have hr := Lib.hid (show ascL (x :: y :: r) = if y < x then (x :: y :: r).reverse else x :: y :: r from rfl)
    generalize (x :: y :: r).length = n at *
    have e1 : (1 : Int) < n := by omega
    have e2 : (0 : Int) < n := by omega
    have e3 : 1 < n := by omega
    have e4 : 0 < n := by omega
    have e5 : decide (1 < n) = true := by simpa using e3
    clear hc hn
    by_cases hlt : y < x
    · have hr' := Lib.hid (show ascL (x :: y :: r) = (x :: y :: r).reverse by rw [hr.out, if_pos hlt])
      have d1 : decide (y < x) = true := by simpa using hlt
      go_enter Try.func56, Try.ntmps56
      go_wp2_with fail
      go_quiet (fail)
      go_wp2_with fail
      refine (reversed_c _ _ _ _ (hv'.out.ext (by repeat (first | exact Ext.refl _ | assumption | apply Ext.drewN | apply Ext.drew | apply Ext.alloc)))).mono ?_
      rintro e w1 ⟨r1, rfl, i1, o1, x1⟩
      go_wp2_with fail
      go_ret
      rw [hr'.out]
      exact PInts.of o1 i1 (Ext.size (show Ext w _ from (by repeat (first | exact Ext.refl _ | assumption | apply Ext.drewN | apply Ext.drew | apply Ext.alloc)))) (Ext.trans (by repeat (first | exact Ext.refl _ | assumption | apply Ext.drewN | apply Ext.drew | apply Ext.alloc)) x1)
    · have hr' := Lib.hid (show ascL (x :: y :: r) = x :: y :: r by rw [hr.out, if_neg hlt])
      have d1 : decide (y < x) = false := by simpa using hlt
      go_enter Try.func56, Try.ntmps56
      go_wp2_with fail
      go_quiet (fail)
      go_wp2_with fail
      refine (copyInts_c _ _ _ _ (hv'.out.ext (by repeat (first | exact Ext.refl _ | assumption | apply Ext.drewN | apply Ext.drew | apply Ext.alloc)))).mono ?_
      rintro e w1 ⟨r1, rfl, i1, o1, x1⟩
      go_wp2_with fail
      go_ret
      rw [hr'.out]
      exact PInts.of o1 i1 (Ext.size (show Ext w _ from (by repeat (first | exact Ext.refl _ | assumption | apply Ext.drewN | apply Ext.drew | apply Ext.alloc)))) (Ext.trans (by repeat (first | exact Ext.refl _ | assumption | apply Ext.drewN | apply Ext.drew | apply Ext.alloc)) x1)

theorem meetL_take (a b : List Int) (k : Nat) (hk : k < a.length) : meetL (a.take (k+1)) b = meetL (a.take k) b ++ if b.contains a[k] then [a[k]] else [] := by
  unfold meetL; rw [List.take_succ_eq_append_getElem hk, List.filter_append]; congr 1; simp only [List.filter_cons, List.filter_nil]
theorem meetL_len (a b : List Int) : (meetL a b).length ≤ a.length := List.length_filter_le _ _

set_option maxHeartbeats 1600000 in
theorem common_c (xs ys : List Int) (a b : Value) (w : World) (la lb : Nat) (ha : Ints w la a xs) (hb : Ints w lb b ys) :
    Calls Try.prog 55 #[a, b] w (PInts w (meetL xs ys)) := by
  obtain ⟨a1, c1, rfl⟩ := ha.form
  have hlen := ha.len
  go_enter Try.func55, Try.ntmps55
  go_wp2_with fail
  go_loopw [5, 6] (fun v i wr => ∃ k : Nat, k ≤ xs.length ∧ i = .int .i64 k ∧ OwnI wr w.heap.size v (meetL (xs.take k) ys) ∧ Ext w wr) (fun _ i _ => xs.length - (intOf i).toNat)
  case atStart => exact ⟨0, Nat.zero_le _, rfl, OwnI.lit0 w w.heap.size (Nat.le_refl _), (by repeat (first | exact Ext.refl _ | assumption | apply Ext.drewN | apply Ext.drew | apply Ext.alloc))⟩
  case round =>
    obtain ⟨k, hk, rfl, ho, hx⟩ := hrel
    have hz := hx.size
    have hl := Lib.hid (meetL_len (xs.take k) ys)
    have hbr := Lib.hid (hb.ext hx)
    by_cases hlt : k < xs.length
    · obtain ⟨_, _, hv, _, _, _, hc⟩ := ha.ext hx
      cases hv
      obtain ⟨b1, off, rfl, _, hcell, _⟩ := hc k hlt
      have g : xs.getD k 0 = xs[k] := by simp [hlt]
      rw [g] at hcell
      have hs := Lib.hid (meetL_take xs ys k hlt)
      have hp := placeL_ge ys xs[k]
      clear hc g
      cases hq : ys.contains xs[k]
      · have hn : placeL ys xs[k] < 0 := by rw [hq] at hp; simpa using hp
        have hs' := Lib.hid (show meetL (xs.take (k+1)) ys = meetL (xs.take k) ys by rw [hs.out, hq]; simp)
        clear hq hp
        go_wp2_with (go_at_call 101; refine (placeIn_c ys _ _ _ _ hbr.out).mono ?_; rintro e w' ⟨rfl, rfl⟩)
        go_roundw
        case rel => exact ⟨k+1, by omega, by go_num, by rw [hs'.out]; exact ho, hx⟩
        case measure => simp [intOf]; omega
      · have hn : 0 ≤ placeL ys xs[k] := by rw [hq] at hp; simpa using hp
        have hs' := Lib.hid (show meetL (xs.take (k+1)) ys = meetL (xs.take k) ys ++ [xs[k]] by rw [hs.out, hq]; rfl)
        clear hq hp
        go_wp2_with fail
        refine (placeIn_c ys _ _ _ _ hbr.out).mono ?_
        rintro e w' ⟨rfl, rfl⟩
        go_wp2_with (at_builtin; refine wpList_app rfl (.tmp 21) (.tmp 26) rfl rfl rfl (ho.ext ((Ext.refl _).alloc _)) (Ints.one _ 0 _ (Nat.zero_le _)) (by have := hl.out; simp only [List.length_cons, List.length_nil, List.length_take] at this ⊢; omega) (by simp; omega) ?_)
        intro v' w3 ho3 _ hb3 _
        have hx3 := (hx.alloc (.cells #[.int .i64 xs[k]] 3)).below hb3 (by omega)
        clear hb3 ho
        replace ho3 := Lib.hid ho3
        go_wp2_with fail
        go_roundw
        case rel => exact ⟨k+1, by omega, by go_num, by rw [hs'.out]; exact ho3.out, hx3⟩
        case measure => simp [intOf]; omega
    · obtain rfl : k = xs.length := by omega
      replace ho := Lib.hid ho
      go_wp2_with fail
      go_ret
      exact PInts.mk (by have := ho.out; rw [List.take_length] at this; exact this) (Nat.le_refl _) (by have := meetL_len xs ys; omega) hx

end Go.Proofs.Ytjpngmdfnglabaa
