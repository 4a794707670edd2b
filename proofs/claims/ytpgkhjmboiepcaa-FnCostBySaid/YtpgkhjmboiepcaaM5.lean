/- Texts of these proofs put together: TnA, TnB, TnQ, PkA, PoB, TnC, Facts. No condition. -/
import Derived.Test.YtpgkhjmboiepcaaM1
import Derived.Test.YtpgkhjmboiepcaaM4
import Derived.Test.YtpgkhjmboiepcaaM3
import Derived.Test.YtpgkhjmboiepcaaRows
import Derived.KernelRfl
import Derived.JoinedOf
set_option linter.unusedVariables false
set_option linter.unusedSimpArgs false
/- Walks: valid tensors, labels. -/
namespace Go.Proofs.Ytpgkhjmboiepcaa
open Go.RowKit
set_option linter.unusedVariables false
set_option maxRecDepth 100000


theorem tensorF_c (w : World) : Asks 90 #[] w (fun x => !inB (-1000000) 1000000 x) := by
 refine ⟨⟨Try.f90, Try.func90, rfl, by decide +kernel⟩, fun x => ?_⟩
 rw [show (#[Value.int .i64 x] ++ #[]) = #[.int .i64 x] by simp]
 by_cases h : x < -1000000
 ·
  go_enter Try.func90, Try.ntmps90
  go_wp2_with fail
  go_ret
  exact ⟨by simp [inB]; intros; omega, rfl⟩
 ·
  have h' : ¬ (x < -1000000) := h
  by_cases h2 : 1000000 < x
  ·
   go_enter Try.func90, Try.ntmps90
   go_wp2_with fail
   go_ret
   exact ⟨by rw [show inB (-1000000) 1000000 x = false by unfold inB; simp; omega] <;> rfl, rfl⟩
  ·
   go_enter Try.func90, Try.ntmps90
   go_wp2_with fail
   go_ret
   exact ⟨by rw [show inB (-1000000) 1000000 x = true by unfold inB; simp; omega] <;> rfl, rfl⟩
theorem labelsF_c (w : World) : Asks 103 #[] w (fun x => !inB 0 4 x) := by
 refine ⟨⟨Try.f103, Try.func103, rfl, by decide +kernel⟩, fun x => ?_⟩
 rw [show (#[Value.int .i64 x] ++ #[]) = #[.int .i64 x] by simp]
 by_cases h : x < 0
 ·
  go_enter Try.func103, Try.ntmps103
  go_wp2_with fail
  go_ret
  exact ⟨by simp [inB]; intros; omega, rfl⟩
 ·
  have h' : ¬ (x < 0) := h
  by_cases h2 : 4 < x
  ·
   go_enter Try.func103, Try.ntmps103
   go_wp2_with fail
   go_ret
   exact ⟨by rw [show inB 0 4 x = false by unfold inB; simp; omega] <;> rfl, rfl⟩
  ·
   go_enter Try.func103, Try.ntmps103
   go_wp2_with fail
   go_ret
   exact ⟨by rw [show inB 0 4 x = true by unfold inB; simp; omega] <;> rfl, rfl⟩
theorem anyT_c (xs : List Int) (v : Value) (w : World) (lo : Nat) (hv : Ints w lo v xs) :
  Calls Try.prog 87 #[v, .func (.func 90) #[] #[]] w fun e w' => e = .returned (.bool (!xs.all (inB (-1000000) 1000000))) ∧ w = w' := by
 rw [← any_not]; exact containsFunc_c _ _ _ xs v w lo hv (tensorF_c w)
theorem anyL_c (xs : List Int) (v : Value) (w : World) (lo : Nat) (hv : Ints w lo v xs) :
  Calls Try.prog 87 #[v, .func (.func 103) #[] #[]] w fun e w' => e = .returned (.bool (!xs.all (inB 0 4))) ∧ w = w' := by
 rw [← any_not]; exact containsFunc_c _ _ _ xs v w lo hv (labelsF_c w)
set_option maxHeartbeats 1600000 in
theorem isTensor_c (u v : Value) (s t : List Int) (w : World) (l1 l2 : Nat) (h1 : Ints w l1 u s) (h2 : Ints w l2 v t) :
  Calls Try.prog 46 #[.agg #[u, v]] w (fun e w' => e = .returned (.bool (tenB s t)) ∧ Ext w w') := by
 obtain ⟨p0, c0, rfl⟩ := h1.form
 obtain ⟨p1, c1, rfl⟩ := h2.form
 go_enter Try.func46, Try.ntmps46
 go_wp2_with fail
 generalize hW1 : w.alloc (.cells #[.slice p0 s.length c0, .slice p1 t.length c1] 29) = w1 at *
 have Lw1 : Ext w w1 := by subst hW1; exact qXt
 have Xw1 : Ext w w1 := by subst hW1; exact Lw1
 have b10 : w1.cell? ⟨w.heap.size, 0, none⟩ = some (.slice p0 s.length c0) := by subst hW1; exact qCl
 have b11 : w1.cell? ⟨w.heap.size, 1, none⟩ = some (.slice p1 t.length c1) := by subst hW1; exact qCl
 have z_b1 : w.heap.size < w1.heap.size := qB b10
 have s_w1 : w.heap.size ≤ w1.heap.size := Xw1.size
 clear hW1
 refine wp_region_tail (S := fun w' => w'.cell? ⟨w.heap.size, 0, none⟩ = some (.slice p0 s.length c0) ∧ w'.cell? ⟨w.heap.size, 1, none⟩ = some (.slice p1 t.length c1)) (fun i => decide (13 ≤ i)) qKr ⟨b10, b11⟩ (fun hHeld => ?_)
 refine qTk (v := ?_) 0 rfl (.inl ⟨by rfl, ?_⟩) ?_
 rotate_left
 ·
  (intro w hSw; (try dsimp only at hSw); go_simp; try with_reducible rfl)
 try simp only [Act.put, qa, qb, qc, qD, qE, qF]
 refine qTk (v := ?_) 1 rfl (.inl ⟨by rfl, ?_⟩) ?_
 rotate_left
 ·
  (intro w hSw; (try dsimp only at hSw); go_simp; try with_reducible rfl)
 try simp only [Act.put, qa, qb, qc, qD, qE, qF]
 refine wpTail_one (i := 2) qKr rfl rfl (fun K hK => ?_)
 try simp only [Act.put, qa, qb, qc, qD, qE, qF]
 go_simp
 refine (isShape_c s (.slice p0 s.length c0) _ _ (h1.ext (Xw1.trans qXt))).mono ?_
 rintro e w' ⟨rfl, rfl⟩
 cases hB2 : shapeB s
 ·
  replace hB2 := Lib.hid hB2
  refine hK.out _ _ ⟨b10, b11⟩ (fun hHeld => ?_)
  clear hK K
  try simp only [Act.put, qa, qb, qc, qD, qE, qF]
  refine qTk (v := ?_) 3 rfl (.inl ⟨by rfl, ?_⟩) ?_
  rotate_left
  ·
   (intro w hSw; (try dsimp only at hSw); go_simp; try with_reducible rfl)
  try simp only [Act.put, qa, qb, qc, qD, qE, qF]
  refine qTk (v := ?_) 4 rfl (.inl ⟨by rfl, ?_⟩) ?_
  rotate_left
  ·
   (intro w hSw; (try dsimp only at hSw); go_simp; try with_reducible rfl)
  try simp only [Act.put, qa, qb, qc, qD, qE, qF]
  refine qTs 5 rfl (.inr ⟨by rfl, rfl⟩) ?_
  try simp only [Act.put, qa, qb, qc, qD, qE, qF]
  refine qTs 6 rfl (.inr ⟨by rfl, rfl⟩) ?_
  try simp only [Act.put, qa, qb, qc, qD, qE, qF]
  refine qTs 7 rfl (.inr ⟨by rfl, rfl⟩) ?_
  try simp only [Act.put, qa, qb, qc, qD, qE, qF]
  refine qTs 8 rfl (.inr ⟨by rfl, rfl⟩) ?_
  try simp only [Act.put, qa, qb, qc, qD, qE, qF]
  refine qTs 9 rfl (.inr ⟨by rfl, rfl⟩) ?_
  try simp only [Act.put, qa, qb, qc, qD, qE, qF]
  refine qTs 10 rfl (.inr ⟨by rfl, rfl⟩) ?_
  try simp only [Act.put, qa, qb, qc, qD, qE, qF]
  refine qTs 11 rfl (.inr ⟨by rfl, rfl⟩) ?_
  try simp only [Act.put, qa, qb, qc, qD, qE, qF]
  refine qTk (v := ?_) 12 rfl (.inl ⟨by rfl, ?_⟩) ?_
  rotate_left
  ·
   (intro w hSw; (try dsimp only at hSw); go_simp; try with_reducible rfl)
  try simp only [Act.put, qa, qb, qc, qD, qE, qF]
  refine wpTail_done qKr ?_ _
  clear hHeld 
  go_wp2_with fail
  go_ret
  exact ⟨by rw [show tenB s t = false from by unfold tenB; rw [hB2.out]; rfl] <;> rfl, (Xw1.trans qXt)⟩
 ·
  replace hB2 := Lib.hid hB2
  refine hK.out _ _ ⟨b10, b11⟩ (fun hHeld => ?_)
  clear hK K
  try simp only [Act.put, qa, qb, qc, qD, qE, qF]
  refine qTk (v := ?_) 3 rfl (.inl ⟨by rfl, ?_⟩) ?_
  rotate_left
  ·
   (intro w hSw; (try dsimp only at hSw); go_simp; try with_reducible rfl)
  try simp only [Act.put, qa, qb, qc, qD, qE, qF]
  refine qTk (v := ?_) 4 rfl (.inl ⟨by rfl, ?_⟩) ?_
  rotate_left
  ·
   (intro w hSw; (try dsimp only at hSw); go_simp; try with_reducible rfl)
  try simp only [Act.put, qa, qb, qc, qD, qE, qF]
  refine qTk (v := ?_) 5 rfl (.inl ⟨by rfl, ?_⟩) ?_
  rotate_left
  ·
   (intro w hSw; (try dsimp only at hSw); go_simp; try with_reducible rfl)
  try simp only [Act.put, qa, qb, qc, qD, qE, qF]
  refine qTk (v := ?_) 6 rfl (.inl ⟨by rfl, ?_⟩) ?_
  rotate_left
  ·
   (intro w hSw; (try dsimp only at hSw); go_simp; try with_reducible rfl)
  try simp only [Act.put, qa, qb, qc, qD, qE, qF]
  refine qTk (v := ?_) 7 rfl (.inl ⟨by rfl, ?_⟩) ?_
  rotate_left
  ·
   (intro w hSw; (try dsimp only at hSw); go_simp; try with_reducible rfl)
  try simp only [Act.put, qa, qb, qc, qD, qE, qF]
  refine qTk (v := ?_) 8 rfl (.inl ⟨by rfl, ?_⟩) ?_
  rotate_left
  ·
   (intro w hSw; (try dsimp only at hSw); go_simp; try with_reducible rfl)
  try simp only [Act.put, qa, qb, qc, qD, qE, qF]
  refine qTk (v := ?_) 9 rfl (.inl ⟨by rfl, ?_⟩) ?_
  rotate_left
  ·
   (intro w hSw; (try dsimp only at hSw); go_simp; try with_reducible rfl)
  try simp only [Act.put, qa, qb, qc, qD, qE, qF]
  refine wpTail_one (i := 10) qKr rfl rfl (fun K hK => ?_)
  try simp only [Act.put, qa, qb, qc, qD, qE, qF]
  go_simp
  refine (countOf_c s (.slice p0 s.length c0) _ _ (h1.ext (Xw1.trans qXt))).mono ?_
  rintro e w' ⟨rfl, rfl⟩
  refine hK.out _ _ ⟨b10, b11⟩ (fun hHeld => ?_)
  clear hK K
  try simp only [Act.put, qa, qb, qc, qD, qE, qF]
  by_cases hc3 : (t.length : Int) = (countL s : Int)
  ·
   have hc3e : ((t.length : Int) == (countL s : Int)) = true := by simpa using hc3
   have hc3n : ((t.length : Int) != (countL s : Int)) = false := by simpa using hc3
   replace hc3 := Lib.hid hc3
   refine qTk (v := ?_) 11 rfl (.inl ⟨by rfl, ?_⟩) ?_
   rotate_left
   ·
    (intro w hSw; (try dsimp only at hSw); go_simp; try with_reducible rfl)
   try simp only [Act.put, qa, qb, qc, qD, qE, qF]
   refine qTk (v := ?_) 12 rfl (.inl ⟨by rfl, ?_⟩) ?_
   rotate_left
   ·
    (intro w hSw; (try dsimp only at hSw); go_simp; try with_reducible rfl)
   try simp only [Act.put, qa, qb, qc, qD, qE, qF]
   refine wpTail_done qKr ?_ _
   clear hHeld 
   go_wp2_with fail
   refine (anyT_c t (.slice p1 t.length c1) _ _ (h2.ext (Xw1.trans qXt))).mono ?_
   rintro e w' ⟨rfl, rfl⟩
   cases hB4 : !(t.all (inB (-1000000) 1000000))
   ·
    replace hB4 := Lib.hid hB4
    go_wp2_with fail
    go_ret
    exact ⟨by rw [show tenB s t = true from by unfold tenB; rw [hB2.out, decide_eq_true (show ((t.length : Int) = countL s) from hc3.out), show t.all (inB (-1000000) 1000000) = true from by simpa using hB4.out]; rfl] <;> rfl, (Xw1.trans qXt)⟩
   ·
    replace hB4 := Lib.hid hB4
    go_wp2_with fail
    go_ret
    exact ⟨by rw [show tenB s t = false from by unfold tenB; rw [hB2.out, decide_eq_true (show ((t.length : Int) = countL s) from hc3.out), show t.all (inB (-1000000) 1000000) = false from by simpa using hB4.out]; rfl] <;> rfl, (Xw1.trans qXt)⟩
  ·
   have hc3e : ((t.length : Int) == (countL s : Int)) = false := by simpa using hc3
   have hc3n : ((t.length : Int) != (countL s : Int)) = true := by simpa using hc3
   replace hc3 := Lib.hid hc3
   refine qTk (v := ?_) 11 rfl (.inl ⟨by rfl, ?_⟩) ?_
   rotate_left
   ·
    (intro w hSw; (try dsimp only at hSw); go_simp; try with_reducible rfl)
   try simp only [Act.put, qa, qb, qc, qD, qE, qF]
   refine qTk (v := ?_) 12 rfl (.inl ⟨by rfl, ?_⟩) ?_
   rotate_left
   ·
    (intro w hSw; (try dsimp only at hSw); go_simp; try with_reducible rfl)
   try simp only [Act.put, qa, qb, qc, qD, qE, qF]
   refine wpTail_done qKr ?_ _
   clear hHeld 
   go_wp2_with fail
   go_ret
   exact ⟨by rw [show tenB s t = false from by unfold tenB; rw [hB2.out, decide_eq_false (show ¬ ((t.length : Int) = countL s) from hc3.out)]; rfl] <;> rfl, (Xw1.trans qXt)⟩

set_option maxHeartbeats 1600000 in
theorem validTensor_c (u v : Value) (s t : List Int) (w : World) (l1 l2 : Nat) (h1 : Ints w l1 u s) (h2 : Ints w l2 v t) :
  Calls Try.prog 121 #[.agg #[u, v]] w (fun e w' => e = .returned (.bool (tenB s t)) ∧ Ext w w') := by
 obtain ⟨p0, c0, rfl⟩ := h1.form
 obtain ⟨p1, c1, rfl⟩ := h2.form
 go_enter Try.func121, Try.ntmps121
 go_wp2_with fail
 generalize hW2 : w.alloc (.cells #[.slice p0 s.length c0, .slice p1 t.length c1] 29) = w1 at *
 have Lw1 : Ext w w1 := by subst hW2; exact qXt
 have Xw1 : Ext w w1 := by subst hW2; exact Lw1
 have b10 : w1.cell? ⟨w.heap.size, 0, none⟩ = some (.slice p0 s.length c0) := by subst hW2; exact qCl
 have b11 : w1.cell? ⟨w.heap.size, 1, none⟩ = some (.slice p1 t.length c1) := by subst hW2; exact qCl
 have z_b1 : w.heap.size < w1.heap.size := qB b10
 have s_w1 : w.heap.size ≤ w1.heap.size := Xw1.size
 clear hW2
 refine wp_region_tail (S := fun w' => w'.cell? ⟨w.heap.size, 0, none⟩ = some (.slice p0 s.length c0) ∧ w'.cell? ⟨w.heap.size, 1, none⟩ = some (.slice p1 t.length c1)) (fun i => decide (18 ≤ i)) qKr ⟨b10, b11⟩ (fun hHeld => ?_)
 refine qTk (v := ?_) 0 rfl (.inl ⟨by rfl, ?_⟩) ?_
 rotate_left
 ·
  (intro w hSw; (try dsimp only at hSw); go_simp; try with_reducible rfl)
 try simp only [Act.put, qa, qb, qc, qD, qE, qF]
 refine qTk (v := ?_) 1 rfl (.inl ⟨by rfl, ?_⟩) ?_
 rotate_left
 ·
  (intro w hSw; (try dsimp only at hSw); go_simp; try with_reducible rfl)
 try simp only [Act.put, qa, qb, qc, qD, qE, qF]
 refine wpTail_one (i := 2) qKr rfl rfl (fun K hK => ?_)
 try simp only [Act.put, qa, qb, qc, qD, qE, qF]
 go_simp
 refine (validShape_c s (.slice p0 s.length c0) _ _ (h1.ext (Xw1.trans qXt))).mono ?_
 rintro e w' ⟨rfl, rfl⟩
 cases hB2 : shapeB s
 ·
  replace hB2 := Lib.hid hB2
  refine hK.out _ _ ⟨b10, b11⟩ (fun hHeld => ?_)
  clear hK K
  try simp only [Act.put, qa, qb, qc, qD, qE, qF]
  refine qTk (v := ?_) 3 rfl (.inl ⟨by rfl, ?_⟩) ?_
  rotate_left
  ·
   (intro w hSw; (try dsimp only at hSw); go_simp; try with_reducible rfl)
  try simp only [Act.put, qa, qb, qc, qD, qE, qF]
  refine qTs 4 rfl (.inr ⟨by rfl, rfl⟩) ?_
  try simp only [Act.put, qa, qb, qc, qD, qE, qF]
  refine qTs 5 rfl (.inr ⟨by rfl, rfl⟩) ?_
  try simp only [Act.put, qa, qb, qc, qD, qE, qF]
  refine qTs 6 rfl (.inr ⟨by rfl, rfl⟩) ?_
  try simp only [Act.put, qa, qb, qc, qD, qE, qF]
  refine qTs 7 rfl (.inr ⟨by rfl, rfl⟩) ?_
  try simp only [Act.put, qa, qb, qc, qD, qE, qF]
  refine qTs 8 rfl (.inr ⟨by rfl, rfl⟩) ?_
  try simp only [Act.put, qa, qb, qc, qD, qE, qF]
  refine qTs 9 rfl (.inr ⟨by rfl, rfl⟩) ?_
  try simp only [Act.put, qa, qb, qc, qD, qE, qF]
  refine qTs 10 rfl (.inr ⟨by rfl, rfl⟩) ?_
  try simp only [Act.put, qa, qb, qc, qD, qE, qF]
  refine qTk (v := ?_) 11 rfl (.inl ⟨by rfl, ?_⟩) ?_
  rotate_left
  ·
   (intro w hSw; (try dsimp only at hSw); go_simp; try with_reducible rfl)
  try simp only [Act.put, qa, qb, qc, qD, qE, qF]
  refine qTk (v := ?_) 12 rfl (.inl ⟨by rfl, ?_⟩) ?_
  rotate_left
  ·
   (intro w hSw; (try dsimp only at hSw); go_simp; try with_reducible rfl)
  try simp only [Act.put, qa, qb, qc, qD, qE, qF]
  refine qTs 13 rfl (.inr ⟨by rfl, rfl⟩) ?_
  try simp only [Act.put, qa, qb, qc, qD, qE, qF]
  refine qTs 14 rfl (.inr ⟨by rfl, rfl⟩) ?_
  try simp only [Act.put, qa, qb, qc, qD, qE, qF]
  refine qTs 15 rfl (.inr ⟨by rfl, rfl⟩) ?_
  try simp only [Act.put, qa, qb, qc, qD, qE, qF]
  refine qTk (v := ?_) 16 rfl (.inl ⟨by rfl, ?_⟩) ?_
  rotate_left
  ·
   (intro w hSw; (try dsimp only at hSw); go_simp; try with_reducible rfl)
  try simp only [Act.put, qa, qb, qc, qD, qE, qF]
  refine qTk (v := ?_) 17 rfl (.inl ⟨by rfl, ?_⟩) ?_
  rotate_left
  ·
   (intro w hSw; (try dsimp only at hSw); go_simp; try with_reducible rfl)
  try simp only [Act.put, qa, qb, qc, qD, qE, qF]
  refine wpTail_done qKr ?_ _
  clear hHeld 
  go_wp2_with fail
  go_ret
  exact ⟨by rw [show tenB s t = false from by unfold tenB; rw [hB2.out]; rfl] <;> rfl, (Xw1.trans qXt)⟩
 ·
  replace hB2 := Lib.hid hB2
  refine hK.out _ _ ⟨b10, b11⟩ (fun hHeld => ?_)
  clear hK K
  try simp only [Act.put, qa, qb, qc, qD, qE, qF]
  refine qTk (v := ?_) 3 rfl (.inl ⟨by rfl, ?_⟩) ?_
  rotate_left
  ·
   (intro w hSw; (try dsimp only at hSw); go_simp; try with_reducible rfl)
  try simp only [Act.put, qa, qb, qc, qD, qE, qF]
  refine qTk (v := ?_) 4 rfl (.inl ⟨by rfl, ?_⟩) ?_
  rotate_left
  ·
   (intro w hSw; (try dsimp only at hSw); go_simp; try with_reducible rfl)
  try simp only [Act.put, qa, qb, qc, qD, qE, qF]
  refine qTk (v := ?_) 5 rfl (.inl ⟨by rfl, ?_⟩) ?_
  rotate_left
  ·
   (intro w hSw; (try dsimp only at hSw); go_simp; try with_reducible rfl)
  try simp only [Act.put, qa, qb, qc, qD, qE, qF]
  refine qTk (v := ?_) 6 rfl (.inl ⟨by rfl, ?_⟩) ?_
  rotate_left
  ·
   (intro w hSw; (try dsimp only at hSw); go_simp; try with_reducible rfl)
  try simp only [Act.put, qa, qb, qc, qD, qE, qF]
  refine qTk (v := ?_) 7 rfl (.inl ⟨by rfl, ?_⟩) ?_
  rotate_left
  ·
   (intro w hSw; (try dsimp only at hSw); go_simp; try with_reducible rfl)
  try simp only [Act.put, qa, qb, qc, qD, qE, qF]
  refine qTk (v := ?_) 8 rfl (.inl ⟨by rfl, ?_⟩) ?_
  rotate_left
  ·
   (intro w hSw; (try dsimp only at hSw); go_simp; try with_reducible rfl)
  try simp only [Act.put, qa, qb, qc, qD, qE, qF]
  refine wpTail_one (i := 9) qKr rfl rfl (fun K hK => ?_)
  try simp only [Act.put, qa, qb, qc, qD, qE, qF]
  go_simp
  refine (count_c s (.slice p0 s.length c0) _ _ (h1.ext (Xw1.trans qXt))).mono ?_
  rintro e w' ⟨rfl, rfl⟩
  refine hK.out _ _ ⟨b10, b11⟩ (fun hHeld => ?_)
  clear hK K
  try simp only [Act.put, qa, qb, qc, qD, qE, qF]
  by_cases hc3 : (t.length : Int) = (countL s : Int)
  ·
   have hc3e : ((t.length : Int) == (countL s : Int)) = true := by simpa using hc3
   have hc3n : ((t.length : Int) != (countL s : Int)) = false := by simpa using hc3
   replace hc3 := Lib.hid hc3
   refine qTk (v := ?_) 10 rfl (.inl ⟨by rfl, ?_⟩) ?_
   rotate_left
   ·
    (intro w hSw; (try dsimp only at hSw); go_simp; try with_reducible rfl)
   try simp only [Act.put, qa, qb, qc, qD, qE, qF]
   refine qTk (v := ?_) 11 rfl (.inl ⟨by rfl, ?_⟩) ?_
   rotate_left
   ·
    (intro w hSw; (try dsimp only at hSw); go_simp; try with_reducible rfl)
   try simp only [Act.put, qa, qb, qc, qD, qE, qF]
   refine qTk (v := ?_) 12 rfl (.inl ⟨by rfl, ?_⟩) ?_
   rotate_left
   ·
    (intro w hSw; (try dsimp only at hSw); go_simp; try with_reducible rfl)
   try simp only [Act.put, qa, qb, qc, qD, qE, qF]
   refine qTk (v := ?_) 13 rfl (.inl ⟨by rfl, ?_⟩) ?_
   rotate_left
   ·
    (intro w hSw; (try dsimp only at hSw); go_simp; try with_reducible rfl)
   try simp only [Act.put, qa, qb, qc, qD, qE, qF]
   refine qTk (v := ?_) 14 rfl (.inl ⟨by rfl, ?_⟩) ?_
   rotate_left
   ·
    (intro w hSw; (try dsimp only at hSw); go_simp; try with_reducible rfl)
   try simp only [Act.put, qa, qb, qc, qD, qE, qF]
   refine wpTail_one (i := 15) qKr rfl rfl (fun K hK => ?_)
   try simp only [Act.put, qa, qb, qc, qD, qE, qF]
   go_simp
   refine (allIn_c t (.slice p1 t.length c1) (-1000000) 1000000 _ _ (h2.ext (Xw1.trans qXt))).mono ?_
   rintro e w' ⟨rfl, rfl⟩
   cases hB4 : t.all (inB (-1000000) 1000000)
   ·
    replace hB4 := Lib.hid hB4
    refine hK.out _ _ ⟨b10, b11⟩ (fun hHeld => ?_)
    clear hK K
    try simp only [Act.put, qa, qb, qc, qD, qE, qF]
    refine qTk (v := ?_) 16 rfl (.inl ⟨by rfl, ?_⟩) ?_
    rotate_left
    ·
     (intro w hSw; (try dsimp only at hSw); go_simp; try with_reducible rfl)
    try simp only [Act.put, qa, qb, qc, qD, qE, qF]
    refine qTk (v := ?_) 17 rfl (.inl ⟨by rfl, ?_⟩) ?_
    rotate_left
    ·
     (intro w hSw; (try dsimp only at hSw); go_simp; try with_reducible rfl)
    try simp only [Act.put, qa, qb, qc, qD, qE, qF]
    refine wpTail_done qKr ?_ _
    clear hHeld 
    go_wp2_with fail
    go_ret
    exact ⟨by rw [show tenB s t = false from by unfold tenB; rw [hB2.out, decide_eq_true (show ((t.length : Int) = countL s) from hc3.out), hB4.out]; rfl] <;> rfl, (Xw1.trans qXt)⟩
   ·
    replace hB4 := Lib.hid hB4
    refine hK.out _ _ ⟨b10, b11⟩ (fun hHeld => ?_)
    clear hK K
    try simp only [Act.put, qa, qb, qc, qD, qE, qF]
    refine qTk (v := ?_) 16 rfl (.inl ⟨by rfl, ?_⟩) ?_
    rotate_left
    ·
     (intro w hSw; (try dsimp only at hSw); go_simp; try with_reducible rfl)
    try simp only [Act.put, qa, qb, qc, qD, qE, qF]
    refine qTk (v := ?_) 17 rfl (.inl ⟨by rfl, ?_⟩) ?_
    rotate_left
    ·
     (intro w hSw; (try dsimp only at hSw); go_simp; try with_reducible rfl)
    try simp only [Act.put, qa, qb, qc, qD, qE, qF]
    refine wpTail_done qKr ?_ _
    clear hHeld 
    go_wp2_with fail
    go_ret
    exact ⟨by rw [show tenB s t = true from by unfold tenB; rw [hB2.out, decide_eq_true (show ((t.length : Int) = countL s) from hc3.out), hB4.out]; rfl] <;> rfl, (Xw1.trans qXt)⟩
  ·
   have hc3e : ((t.length : Int) == (countL s : Int)) = false := by simpa using hc3
   have hc3n : ((t.length : Int) != (countL s : Int)) = true := by simpa using hc3
   replace hc3 := Lib.hid hc3
   refine qTk (v := ?_) 10 rfl (.inl ⟨by rfl, ?_⟩) ?_
   rotate_left
   ·
    (intro w hSw; (try dsimp only at hSw); go_simp; try with_reducible rfl)
   try simp only [Act.put, qa, qb, qc, qD, qE, qF]
   refine qTk (v := ?_) 11 rfl (.inl ⟨by rfl, ?_⟩) ?_
   rotate_left
   ·
    (intro w hSw; (try dsimp only at hSw); go_simp; try with_reducible rfl)
   try simp only [Act.put, qa, qb, qc, qD, qE, qF]
   refine qTk (v := ?_) 12 rfl (.inl ⟨by rfl, ?_⟩) ?_
   rotate_left
   ·
    (intro w hSw; (try dsimp only at hSw); go_simp; try with_reducible rfl)
   try simp only [Act.put, qa, qb, qc, qD, qE, qF]
   refine qTs 13 rfl (.inr ⟨by rfl, rfl⟩) ?_
   try simp only [Act.put, qa, qb, qc, qD, qE, qF]
   refine qTs 14 rfl (.inr ⟨by rfl, rfl⟩) ?_
   try simp only [Act.put, qa, qb, qc, qD, qE, qF]
   refine qTs 15 rfl (.inr ⟨by rfl, rfl⟩) ?_
   try simp only [Act.put, qa, qb, qc, qD, qE, qF]
   refine qTk (v := ?_) 16 rfl (.inl ⟨by rfl, ?_⟩) ?_
   rotate_left
   ·
    (intro w hSw; (try dsimp only at hSw); go_simp; try with_reducible rfl)
   try simp only [Act.put, qa, qb, qc, qD, qE, qF]
   refine qTk (v := ?_) 17 rfl (.inl ⟨by rfl, ?_⟩) ?_
   rotate_left
   ·
    (intro w hSw; (try dsimp only at hSw); go_simp; try with_reducible rfl)
   try simp only [Act.put, qa, qb, qc, qD, qE, qF]
   refine wpTail_done qKr ?_ _
   clear hHeld 
   go_wp2_with fail
   go_ret
   exact ⟨by rw [show tenB s t = false from by unfold tenB; rw [hB2.out, decide_eq_false (show ¬ ((t.length : Int) = countL s) from hc3.out)]; rfl] <;> rfl, (Xw1.trans qXt)⟩

set_option maxHeartbeats 1600000 in
theorem areLabels_c (l : List Int) (v : Value) (w : World) (l1 : Nat) (h1 : Ints w l1 v l) :
  Calls Try.prog 71 #[v] w (fun e w' => e = .returned (.bool (labB l)) ∧ Ext w w') := by
 obtain ⟨p0, c0, rfl⟩ := h1.form
 go_enter Try.func71, Try.ntmps71
 go_wp2_with fail
 refine (anyL_c l (.slice p0 l.length c0) _ _ (h1.ext qXt)).mono ?_
 rintro e w' ⟨rfl, rfl⟩
 cases hB1 : !(l.all (inB 0 4))
 ·
  replace hB1 := Lib.hid hB1
  go_wp2_with fail
  go_ret
  exact ⟨by rw [show labB l = true from by simpa using hB1.out] <;> rfl, qXt⟩
 ·
  replace hB1 := Lib.hid hB1
  go_wp2_with fail
  go_ret
  exact ⟨by rw [show labB l = false from by simpa using hB1.out] <;> rfl, qXt⟩

set_option maxHeartbeats 1600000 in
theorem validTensors_c (ts : List Ten) (ls : List Lst) (tv lv : Value) (w : World) (l1 l2 : Nat) (h1 : Tens w l1 tv ts) (h2 : Lsts w l2 lv ls) :
  Calls Try.prog 101 #[tv, lv] w (fun e w' => e = .returned (.bool (tensB ts ls)) ∧ Ext w w') := by
 obtain ⟨p0, c0, rfl⟩ := h1.form
 obtain ⟨p1, c1, rfl⟩ := h2.form
 have hlt1 := h1.len
 have hlt2 := h2.len
 go_enter Try.func101, Try.ntmps101
 go_wp2_with fail
 go_loopw [5] (fun i wr => ∃ (k : Nat), k ≤ ts.length ∧ i = .int .i64 k ∧ Hid (tnB ts k = true) ∧ Ext w wr) (fun i _ => ts.length - (intOf i).toNat)
 case atStart => exact ⟨0, Nat.zero_le _, rfl, Lib.hid rfl, qXt⟩
 case round =>
  obtain ⟨k, hk, rfl, ht, Lwr⟩ := hrel
  have Xwr : Ext w wr := Lwr
  have s_wr : w.heap.size ≤ wr.heap.size := Xwr.size
  have t_wr : w.heap.size ≤ wr.heap.size := Lwr.size
  have Bwr : Ext w wr := Lwr
  by_cases hlt : k < ts.length
  ·
   have hkI : (k : Int) < ts.length := by omega
   have hN_x1 : k < ts.length := hlt
   have hI_x1 : (k : Int) < (ts.length : Int) := by omega
   obtain ⟨bl3, ol4, u5, c7, u6, c8, rfl, x10, x11, i9, i10⟩ := h1.at k hN_x1
   obtain ⟨X2, hX2⟩ : ∃ x, tenAt ts k = x := ⟨_, rfl⟩
   rw [hX2] at x10 x11 i9 i10
   obtain ⟨S11, T12⟩ := X2
   dsimp only at x10 x11 i9 i10
   replace hX2 := Lib.hid hX2
   have hLS11 := i9.len
   have hLT12 := i10.len
   have y_x1 : bl3 < w.heap.size := qB x10
   replace x10 := Xwr.cell x10
   replace x11 := Xwr.cell x11
   have z_x1 : bl3 < wr.heap.size := qB x10
   go_wp2_with fail
   refine (validTensor_c (.slice u5 S11.length c7) (.slice u6 T12.length c8) S11 T12 _ _ _ (i9.ext (Xwr.trans qXt)) (i10.ext (Xwr.trans qXt))).mono ?_
   rintro e w1 ⟨rfl, xw1⟩
   have Lw1 : Ext wr w1 := Ext.trans qXt xw1
   have Xw1 : Ext w w1 := Xwr.trans Lw1
   replace x10 := Lw1.cell x10
   replace x11 := Lw1.cell x11
   have z_x1 : bl3 < w1.heap.size := qB x10
   have s_w1 : w.heap.size ≤ w1.heap.size := Xw1.size
   have Bwr_w1 : Ext w w1 := Bwr.trans Lw1
   clear xw1
   cases hB13 : tenB S11 T12
   ·
    replace hB13 := Lib.hid hB13
    go_wp2_with fail
    go_ret
    exact ⟨by rw [show tensB ts ls = false from by unfold tensB; rw [tnB_no hlt (by rw [hX2.out]; exact hB13.out)]; rfl] <;> rfl, (Xw1.trans qXt)⟩
   ·
    replace hB13 := Lib.hid hB13
    go_wp2_with fail
    go_roundw
    case rel => exact ⟨k + 1, by omega, by go_num, Lib.hid (by rw [tnB_succ, ht.out, Bool.true_and, hX2.out]; exact hB13.out), (Bwr_w1.trans qXt)⟩
    case measure => simp [intOf]; omega
  ·
   obtain rfl : k = ts.length := by omega
   have hkI : ¬ (ts.length : Int) < ts.length := by omega
   go_wp2_with fail
   refine (inRange_c (ts.length : Int) 1 3 _).mono ?_
   rintro e w' ⟨rfl, rfl⟩
   cases hB14 : inB 1 3 (ts.length : Int)
   ·
    replace hB14 := Lib.hid hB14
    go_wp2_with fail
    go_ret
    exact ⟨by rw [show tensB ts ls = false from by unfold tensB; rw [ht.out, hB14.out]; rfl] <;> rfl, (Xwr.trans qXt)⟩
   ·
    replace hB14 := Lib.hid hB14
    by_cases hc15 : (ls.length : Int) = (ts.length : Int)
    ·
     have hc15e : ((ls.length : Int) == (ts.length : Int)) = true := by simpa using hc15
     have hc15n : ((ls.length : Int) != (ts.length : Int)) = false := by simpa using hc15
     replace hc15 := Lib.hid hc15
     go_wp2_with fail
     go_ret
     exact ⟨by rw [show tensB ts ls = true from by unfold tensB; rw [ht.out, hB14.out, decide_eq_true (show ((ls.length : Int) = (ts.length : Int)) from hc15.out)]; rfl] <;> rfl, (Xwr.trans qXt)⟩
    ·
     have hc15e : ((ls.length : Int) == (ts.length : Int)) = false := by simpa using hc15
     have hc15n : ((ls.length : Int) != (ts.length : Int)) = true := by simpa using hc15
     replace hc15 := Lib.hid hc15
     go_wp2_with fail
     go_ret
     exact ⟨by rw [show tensB ts ls = false from by unfold tensB; rw [ht.out, hB14.out, decide_eq_false (show ¬ ((ls.length : Int) = (ts.length : Int)) from hc15.out)]; rfl] <;> rfl, (Xwr.trans qXt)⟩


end Go.Proofs.Ytpgkhjmboiepcaa

/- Walks: the extents of labels. -/
namespace Go.Proofs.Ytpgkhjmboiepcaa
open Go.RowKit
set_option linter.unusedVariables false
set_option maxRecDepth 100000

set_option maxHeartbeats 6400000 in
theorem extentsOf_c (ts : List Ten) (ls : List Lst) (tv lv : Value) (w : World) (l1 l2 : Nat) (h1 : Tens w l1 tv ts) (h2 : Lsts w l2 lv ls) :
  Calls Try.prog 64 #[tv, lv] w (PIntsB w (extL (extA ts ls)) (extA ts ls).isSome) := by
 obtain ⟨p0, c0, rfl⟩ := h1.form
 obtain ⟨p1, c1, rfl⟩ := h2.form
 have hlt1 := h1.len
 have hlt2 := h2.len
 go_enter Try.func64, Try.ntmps64
 by_cases hc1 : (ts.length : Int) < (1 : Int)
 ·
  go_wp2_with fail
  go_ret2
  rw [extA_none (ts := ts) (ls := ls) (.inl (by unfold tensB inB; simp; omega))]
  exact PIntsB.no qXt
 ·
  by_cases hc2 : (3 : Int) < (ts.length : Int)
  ·
   go_wp2_with fail
   go_ret2
   rw [extA_none (ts := ts) (ls := ls) (.inl (by unfold tensB inB; simp; omega))]
   exact PIntsB.no qXt
  ·
   by_cases hc3 : (ls.length : Int) = (ts.length : Int)
   ·
    have hc3e : ((ls.length : Int) == (ts.length : Int)) = true := by simpa using hc3
    have hc3n : ((ls.length : Int) != (ts.length : Int)) = false := by simpa using hc3
    replace hc3 := Lib.hid hc3
    have BL5 : Ext w w := Ext.refl _
    obtain ⟨i0mk6, himk6, hz0mk6, hz1mk6, hz2mk6⟩ := info_parts infoInt
    go_wp2_with (at_make; refine wpList_make_full _ rfl _ _ 23 rfl w.heap.size 3 i0mk6 (.int .i64 0) 1 Try.underlying23 himk6 hz0mk6 hz1mk6 .i64 .i64 _ _ 5 rfl rfl rfl rfl (by rw [hz2mk6]; omega) (by unfold maxLen; omega) (Nat.le_refl _) ?_)
    intro w1 hown7 hgr7
    have xw1 : Ext w w1 := (Ext.refl w).grown hgr7 (by simp)
    rw [made_ints] at hown7
    clear hgr7
    have O7 : OwnI w1 w.heap.size (.slice (some ⟨w.heap.size, 0, none⟩) 5 5) (List.replicate 5 0) := by unfold OwnI; simpa using hown7
    clear hown7 himk6 hz0mk6 hz1mk6 hz2mk6
    have Lw1 : Ext w w1 := Ext.trans qXt xw1
    have Xw1 : Ext w w1 := Lw1
    have s_w1 : w.heap.size ≤ w1.heap.size := Xw1.size
    have BL5_w1 : Ext w w1 := BL5.trans Lw1
    clear xw1
    skip
    go_wp2_with fail
    go_loopw [30] (fun i wr => ∃ (j : Nat), j ≤ 5 ∧ i = .int .i64 j ∧ OwnI wr (w.heap.size) (.slice (some ⟨w.heap.size, 0, none⟩) 5 5) (negL j) ∧ Chg w.heap.size (w.heap.size + 1) w1 wr ∧ Ext w wr) (fun i _ => 5 - (intOf i).toNat)
    case atStart => exact ⟨0, by omega, rfl, (show OwnI _ _ _ (negL 0) from (O7.ext qXt)), Chg.refl _ _ _, BL5_w1⟩
    case round =>
     generalize wr = wa at hrel ⊢
     obtain ⟨j, hj, rfl, O7n, Kr8, Er9⟩ := hrel
     have Xwa : Ext w wa := Er9
     have s_wa : w.heap.size ≤ wa.heap.size := Xwa.size
     have t_wa : w1.heap.size ≤ wa.heap.size := Kr8.size
     clear O7
     have O7 := O7n
     clear O7n
     have GL_wa := (own_lt O7 rfl).2
     by_cases hjl : j < 5
     ·
      have hjI : (j : Int) < (5 : Int) := by omega
      have hnl : 5 ≤ (negL j).length := by rw [negL_len hj]; omega
      have A10 := O7.cell j (by omega)
      obtain ⟨A10a, A10b⟩ := A10
      go_wp2_with fail
      generalize hW1 : (wa.setCell ⟨w.heap.size, j, none⟩ (.int .i64 (-1))) = w2 at *
      have Kw2 : Chg (w.heap.size) (w.heap.size + 1) wa w2 := by subst hW1; exact qCh
      have Xw2 : Ext w w2 := by subst hW1; exact qXt
      have BL5_w2 : Ext w w2 := by subst hW1; exact qXt
      have Kr8_w2 : Chg w.heap.size (w.heap.size + 1) w1 w2 := Chg.trans Kr8 Kw2
      have n_O7 := O7.set j (-1) (by first | omega | (simp; omega) | (rw [putUp_len]; simp; omega) | (rw [addUp_len]; omega))
      rw [hW1] at n_O7
      replace O7 := n_O7
      clear n_O7
      clear Kw2
      have s_w2 : w.heap.size ≤ w2.heap.size := Xw2.size
      clear hW1
      clear A10a A10b
      go_roundw
      case rel => exact ⟨j + 1, by omega, by go_num, (by rw [show negL (j+1) = (negL j).set j (-1) from (negL_set hjl).symm]; exact O7.ext qXt), Kr8_w2.ext qXt, BL5_w2.trans qXt⟩
      case measure => simp [intOf]; omega
     ·
      obtain rfl : j = 5 := by omega
      have hjI : ¬ (5 : Int) < (5 : Int) := by omega
      rw [show negL 5 = List.replicate 5 (-1) from rfl] at O7
      go_wp2_with fail
      go_loopw [39] (fun v wr => ∃ (i : Nat) (e : List Int), i ≤ ts.length ∧ v = .int .i64 i ∧ Hid (extT ts ls i = some e) ∧ Hid (tnB ts i = true) ∧ OwnI wr (w.heap.size) (.slice (some ⟨w.heap.size, 0, none⟩) 5 5) e ∧ Chg w.heap.size (w.heap.size + 1) wa wr ∧ Ext w wr) (fun v _ => ts.length - (intOf v).toNat)
      case atStart => exact ⟨0, List.replicate 5 (-1), Nat.zero_le _, rfl, Lib.hid rfl, Lib.hid rfl, (show OwnI _ _ _ (List.replicate 5 (-1)) from (O7.ext qXt)), Chg.refl _ _ _, Er9⟩
      case round =>
       generalize wr = wb at hrel ⊢
       obtain ⟨i, e, hi, rfl, het, htn, O7n, Kr11, Er12⟩ := hrel
       have Xwb : Ext w wb := Er12
       have s_wb : w.heap.size ≤ wb.heap.size := Xwb.size
       have t_wb : wa.heap.size ≤ wb.heap.size := Kr11.size
       clear O7
       have O7 := O7n
       clear O7n
       have GL_wb := (own_lt O7 rfl).2
       have Kr8_wb := Chg.trans Kr8 Kr11
       have he5 : 5 ≤ e.length := by rw [extT_len het.out]; omega
       have he6 : e.length ≤ 5 := by rw [extT_len het.out]; omega
       by_cases hil : i < ts.length
       ·
        have hiI : (i : Int) < ts.length := by omega
        have hil2 : i < ls.length := by have h7 := hc3.out; omega
        have hN_x13 : i < ts.length := hil
        have hI_x13 : (i : Int) < (ts.length : Int) := by omega
        obtain ⟨bl15, ol16, u17, c19, u18, c20, rfl, x130, x131, i21, i22⟩ := h1.at i hN_x13
        obtain ⟨X14, hX14⟩ : ∃ x, tenAt ts i = x := ⟨_, rfl⟩
        rw [hX14] at x130 x131 i21 i22
        obtain ⟨S23, T24⟩ := X14
        dsimp only at x130 x131 i21 i22
        replace hX14 := Lib.hid hX14
        have hLS23 := i21.len
        have hLT24 := i22.len
        have y_x13 : bl15 < w.heap.size := qB x130
        replace x130 := Xwb.cell x130
        replace x131 := Xwb.cell x131
        have z_x13 : bl15 < wb.heap.size := qB x130
        go_wp2_with fail
        generalize hW2 : wb.alloc (.cells #[.slice u17 S23.length c19, .slice u18 T24.length c20] 29) = w2 at *
        have Lw2 : Ext wb w2 := by subst hW2; exact qXt
        have Xw2 : Ext w w2 := Xwb.trans Lw2
        replace x130 := Lw2.cell x130
        replace x131 := Lw2.cell x131
        have b250 : w2.cell? ⟨wb.heap.size, 0, none⟩ = some (.slice u17 S23.length c19) := by subst hW2; exact qCl
        have b251 : w2.cell? ⟨wb.heap.size, 1, none⟩ = some (.slice u18 T24.length c20) := by subst hW2; exact qCl
        have z_x13 : bl15 < w2.heap.size := qB x130
        have z_b25 : wb.heap.size < w2.heap.size := qB b250
        replace O7 := O7.ext Lw2
        have s_w2 : w.heap.size ≤ w2.heap.size := Xw2.size
        have BL5_w2 : Ext w w2 := Er12.trans Lw2
        have Kr8_w2 : Chg w.heap.size (w.heap.size + 1) w1 w2 := Chg.ext Kr8_wb Lw2
        have Kr11_w2 : Chg w.heap.size (w.heap.size + 1) wa w2 := Chg.ext Kr11 Lw2
        clear hW2
        have hN_x26 : i < ls.length := hil2
        have hI_x26 : (i : Int) < (ls.length : Int) := by omega
        obtain ⟨bl28, ol29, u30, c31, rfl, x260, i32⟩ := h2.at i hN_x26
        obtain ⟨X27, hX27⟩ : ∃ x, lstAt ls i = x := ⟨_, rfl⟩
        rw [hX27] at x260 i32
        obtain ⟨S33⟩ := X27
        dsimp only at x260 i32
        replace hX27 := Lib.hid hX27
        have hLS33 := i32.len
        have y_x26 : bl28 < w.heap.size := qB x260
        replace x260 := Xw2.cell x260
        have z_x26 : bl28 < w2.heap.size := qB x260
        go_wp2_with fail
        refine wp_region_tail (S := fun w' => w'.cell? ⟨bl15, ol16 + i * 2, none⟩ = some (.slice u17 S23.length c19) ∧ w'.cell? ⟨bl15, ol16 + i * 2 + 1, none⟩ = some (.slice u18 T24.length c20) ∧ w'.cell? ⟨wb.heap.size, 0, none⟩ = some (.slice u17 S23.length c19) ∧ w'.cell? ⟨wb.heap.size, 1, none⟩ = some (.slice u18 T24.length c20) ∧ w'.cell? ⟨bl28, ol29 + i, none⟩ = some (.slice u30 S33.length c31)) (fun i => decide (22 ≤ i)) qKr ⟨x130, x131, b250, b251, x260⟩ (fun hHeld => ?_)
        refine qTk (v := ?_) 0 rfl (.inl ⟨by rfl, ?_⟩) ?_
        rotate_left
        ·
         (intro w hSw; (try dsimp only at hSw); go_simp; try with_reducible rfl)
        try simp only [Act.put, qa, qb, qc, qD, qE, qF]
        refine wpTail_one (i := 1) qKr rfl rfl (fun K hK => ?_)
        try simp only [Act.put, qa, qb, qc, qD, qE, qF]
        go_simp
        refine (isTensor_c (.slice u17 S23.length c19) (.slice u18 T24.length c20) S23 T24 _ _ _ (i21.ext (Xw2.trans qXt)) (i22.ext (Xw2.trans qXt))).mono ?_
        rintro e w3 ⟨rfl, xw3⟩
        have Lw3 : Ext w2 w3 := Ext.trans qXt xw3
        have Xw3 : Ext w w3 := Xw2.trans Lw3
        replace x130 := Lw3.cell x130
        replace x131 := Lw3.cell x131
        replace b250 := Lw3.cell b250
        replace b251 := Lw3.cell b251
        replace x260 := Lw3.cell x260
        have z_x13 : bl15 < w3.heap.size := qB x130
        have z_b25 : wb.heap.size < w3.heap.size := qB b250
        have z_x26 : bl28 < w3.heap.size := qB x260
        replace O7 := O7.ext Lw3
        have s_w3 : w.heap.size ≤ w3.heap.size := Xw3.size
        have BL5_w3 : Ext w w3 := BL5_w2.trans Lw3
        have Kr8_w3 : Chg w.heap.size (w.heap.size + 1) w1 w3 := Chg.ext Kr8_w2 Lw3
        have Kr11_w3 : Chg w.heap.size (w.heap.size + 1) wa w3 := Chg.ext Kr11_w2 Lw3
        clear xw3
        cases hB34 : tenB S23 T24
        ·
         replace hB34 := Lib.hid hB34
         refine hK.out _ _ ⟨x130, x131, b250, b251, x260⟩ (fun hHeld => ?_)
         clear hK K
         try simp only [Act.put, qa, qb, qc, qD, qE, qF]
         refine qTk (v := ?_) 2 rfl (.inl ⟨by rfl, ?_⟩) ?_
         rotate_left
         ·
          (intro w hSw; (try dsimp only at hSw); go_simp; try with_reducible rfl)
         try simp only [Act.put, qa, qb, qc, qD, qE, qF]
         refine qTk (v := ?_) 3 rfl (.inl ⟨by rfl, ?_⟩) ?_
         rotate_left
         ·
          (intro w hSw; (try dsimp only at hSw); go_simp; try with_reducible rfl)
         try simp only [Act.put, qa, qb, qc, qD, qE, qF]
         refine qTs 4 rfl (.inr ⟨by rfl, rfl⟩) ?_
         try simp only [Act.put, qa, qb, qc, qD, qE, qF]
         refine qTs 5 rfl (.inr ⟨by rfl, rfl⟩) ?_
         try simp only [Act.put, qa, qb, qc, qD, qE, qF]
         refine qTs 6 rfl (.inr ⟨by rfl, rfl⟩) ?_
         try simp only [Act.put, qa, qb, qc, qD, qE, qF]
         refine qTs 7 rfl (.inr ⟨by rfl, rfl⟩) ?_
         try simp only [Act.put, qa, qb, qc, qD, qE, qF]
         refine qTs 8 rfl (.inr ⟨by rfl, rfl⟩) ?_
         try simp only [Act.put, qa, qb, qc, qD, qE, qF]
         refine qTs 9 rfl (.inr ⟨by rfl, rfl⟩) ?_
         try simp only [Act.put, qa, qb, qc, qD, qE, qF]
         refine qTs 10 rfl (.inr ⟨by rfl, rfl⟩) ?_
         try simp only [Act.put, qa, qb, qc, qD, qE, qF]
         refine qTs 11 rfl (.inr ⟨by rfl, rfl⟩) ?_
         try simp only [Act.put, qa, qb, qc, qD, qE, qF]
         refine qTs 12 rfl (.inr ⟨by rfl, rfl⟩) ?_
         try simp only [Act.put, qa, qb, qc, qD, qE, qF]
         refine qTk (v := ?_) 13 rfl (.inl ⟨by rfl, ?_⟩) ?_
         rotate_left
         ·
          (intro w hSw; (try dsimp only at hSw); go_simp; try with_reducible rfl)
         try simp only [Act.put, qa, qb, qc, qD, qE, qF]
         refine qTk (v := ?_) 14 rfl (.inl ⟨by rfl, ?_⟩) ?_
         rotate_left
         ·
          (intro w hSw; (try dsimp only at hSw); go_simp; try with_reducible rfl)
         try simp only [Act.put, qa, qb, qc, qD, qE, qF]
         refine qTs 15 rfl (.inr ⟨by rfl, rfl⟩) ?_
         try simp only [Act.put, qa, qb, qc, qD, qE, qF]
         refine qTs 16 rfl (.inr ⟨by rfl, rfl⟩) ?_
         try simp only [Act.put, qa, qb, qc, qD, qE, qF]
         refine qTs 17 rfl (.inr ⟨by rfl, rfl⟩) ?_
         try simp only [Act.put, qa, qb, qc, qD, qE, qF]
         refine qTs 18 rfl (.inr ⟨by rfl, rfl⟩) ?_
         try simp only [Act.put, qa, qb, qc, qD, qE, qF]
         refine qTs 19 rfl (.inr ⟨by rfl, rfl⟩) ?_
         try simp only [Act.put, qa, qb, qc, qD, qE, qF]
         refine qTs 20 rfl (.inr ⟨by rfl, rfl⟩) ?_
         try simp only [Act.put, qa, qb, qc, qD, qE, qF]
         refine qTk (v := ?_) 21 rfl (.inl ⟨by rfl, ?_⟩) ?_
         rotate_left
         ·
          (intro w hSw; (try dsimp only at hSw); go_simp; try with_reducible rfl)
         try simp only [Act.put, qa, qb, qc, qD, qE, qF]
         refine wpTail_done qKr ?_ _
         clear hHeld 
         go_wp2_with fail
         go_ret2
         rw [extA_none (ts := ts) (ls := ls) (.inl (by unfold tensB; rw [tnB_no hil (by rw [hX14.out]; exact hB34.out)]; rfl))]
         exact PIntsB.no (Xw3.trans qXt)
        ·
         replace hB34 := Lib.hid hB34
         refine hK.out _ _ ⟨x130, x131, b250, b251, x260⟩ (fun hHeld => ?_)
         clear hK K
         try simp only [Act.put, qa, qb, qc, qD, qE, qF]
         refine qTk (v := ?_) 2 rfl (.inl ⟨by rfl, ?_⟩) ?_
         rotate_left
         ·
          (intro w hSw; (try dsimp only at hSw); go_simp; try with_reducible rfl)
         try simp only [Act.put, qa, qb, qc, qD, qE, qF]
         refine qTk (v := ?_) 3 rfl (.inl ⟨by rfl, ?_⟩) ?_
         rotate_left
         ·
          (intro w hSw; (try dsimp only at hSw); go_simp; try with_reducible rfl)
         try simp only [Act.put, qa, qb, qc, qD, qE, qF]
         refine qTk (v := ?_) 4 rfl (.inl ⟨by rfl, ?_⟩) ?_
         rotate_left
         ·
          (intro w hSw; (try dsimp only at hSw); go_simp; try with_reducible rfl)
         try simp only [Act.put, qa, qb, qc, qD, qE, qF]
         refine qTk (v := ?_) 5 rfl (.inl ⟨by rfl, ?_⟩) ?_
         rotate_left
         ·
          (intro w hSw; (try dsimp only at hSw); go_simp; try with_reducible rfl)
         try simp only [Act.put, qa, qb, qc, qD, qE, qF]
         refine qTk (v := ?_) 6 rfl (.inl ⟨by rfl, ?_⟩) ?_
         rotate_left
         ·
          (intro w hSw; (try dsimp only at hSw); go_simp; try with_reducible rfl)
         try simp only [Act.put, qa, qb, qc, qD, qE, qF]
         refine qTk (v := ?_) 7 rfl (.inl ⟨by rfl, ?_⟩) ?_
         rotate_left
         ·
          (intro w hSw; (try dsimp only at hSw); go_simp; try with_reducible rfl)
         try simp only [Act.put, qa, qb, qc, qD, qE, qF]
         refine qTk (v := ?_) 8 rfl (.inl ⟨by rfl, ?_⟩) ?_
         rotate_left
         ·
          (intro w hSw; (try dsimp only at hSw); go_simp; try with_reducible rfl)
         try simp only [Act.put, qa, qb, qc, qD, qE, qF]
         refine qTk (v := ?_) 9 rfl (.inl ⟨by rfl, ?_⟩) ?_
         rotate_left
         ·
          (intro w hSw; (try dsimp only at hSw); go_simp; try with_reducible rfl)
         try simp only [Act.put, qa, qb, qc, qD, qE, qF]
         refine qTk (v := ?_) 10 rfl (.inl ⟨by rfl, ?_⟩) ?_
         rotate_left
         ·
          (intro w hSw; (try dsimp only at hSw); go_simp; try with_reducible rfl)
         try simp only [Act.put, qa, qb, qc, qD, qE, qF]
         refine qTk (v := ?_) 11 rfl (.inl ⟨by rfl, ?_⟩) ?_
         rotate_left
         ·
          (intro w hSw; (try dsimp only at hSw); go_simp; try with_reducible rfl)
         try simp only [Act.put, qa, qb, qc, qD, qE, qF]
         by_cases hc35 : (S33.length : Int) = (S23.length : Int)
         ·
          have hc35e : ((S33.length : Int) == (S23.length : Int)) = true := by simpa using hc35
          have hc35n : ((S33.length : Int) != (S23.length : Int)) = false := by simpa using hc35
          replace hc35 := Lib.hid hc35
          refine qTk (v := ?_) 12 rfl (.inl ⟨by rfl, ?_⟩) ?_
          rotate_left
          ·
           (intro w hSw; (try dsimp only at hSw); go_simp; try with_reducible rfl)
          try simp only [Act.put, qa, qb, qc, qD, qE, qF]
          refine qTk (v := ?_) 13 rfl (.inl ⟨by rfl, ?_⟩) ?_
          rotate_left
          ·
           (intro w hSw; (try dsimp only at hSw); go_simp; try with_reducible rfl)
          try simp only [Act.put, qa, qb, qc, qD, qE, qF]
          refine qTk (v := ?_) 14 rfl (.inl ⟨by rfl, ?_⟩) ?_
          rotate_left
          ·
           (intro w hSw; (try dsimp only at hSw); go_simp; try with_reducible rfl)
          try simp only [Act.put, qa, qb, qc, qD, qE, qF]
          refine qTk (v := ?_) 15 rfl (.inl ⟨by rfl, ?_⟩) ?_
          rotate_left
          ·
           (intro w hSw; (try dsimp only at hSw); go_simp; try with_reducible rfl)
          try simp only [Act.put, qa, qb, qc, qD, qE, qF]
          refine qTk (v := ?_) 16 rfl (.inl ⟨by rfl, ?_⟩) ?_
          rotate_left
          ·
           (intro w hSw; (try dsimp only at hSw); go_simp; try with_reducible rfl)
          try simp only [Act.put, qa, qb, qc, qD, qE, qF]
          refine qTk (v := ?_) 17 rfl (.inl ⟨by rfl, ?_⟩) ?_
          rotate_left
          ·
           (intro w hSw; (try dsimp only at hSw); go_simp; try with_reducible rfl)
          try simp only [Act.put, qa, qb, qc, qD, qE, qF]
          refine qTk (v := ?_) 18 rfl (.inl ⟨by rfl, ?_⟩) ?_
          rotate_left
          ·
           (intro w hSw; (try dsimp only at hSw); go_simp; try with_reducible rfl)
          try simp only [Act.put, qa, qb, qc, qD, qE, qF]
          refine wpTail_one (i := 19) qKr rfl rfl (fun K hK => ?_)
          try simp only [Act.put, qa, qb, qc, qD, qE, qF]
          go_simp
          refine (areLabels_c S33 (.slice u30 S33.length c31) _ _ (i32.ext (Xw3.trans qXt))).mono ?_
          rintro e w4 ⟨rfl, xw4⟩
          have Lw4 : Ext w3 w4 := Ext.trans qXt xw4
          have Xw4 : Ext w w4 := Xw3.trans Lw4
          replace x130 := Lw4.cell x130
          replace x131 := Lw4.cell x131
          replace b250 := Lw4.cell b250
          replace b251 := Lw4.cell b251
          replace x260 := Lw4.cell x260
          have z_x13 : bl15 < w4.heap.size := qB x130
          have z_b25 : wb.heap.size < w4.heap.size := qB b250
          have z_x26 : bl28 < w4.heap.size := qB x260
          replace O7 := O7.ext Lw4
          have s_w4 : w.heap.size ≤ w4.heap.size := Xw4.size
          have BL5_w4 : Ext w w4 := BL5_w3.trans Lw4
          have Kr8_w4 : Chg w.heap.size (w.heap.size + 1) w1 w4 := Chg.ext Kr8_w3 Lw4
          have Kr11_w4 : Chg w.heap.size (w.heap.size + 1) wa w4 := Chg.ext Kr11_w3 Lw4
          clear xw4
          cases hB36 : labB S33
          ·
           replace hB36 := Lib.hid hB36
           refine hK.out _ _ ⟨x130, x131, b250, b251, x260⟩ (fun hHeld => ?_)
           clear hK K
           try simp only [Act.put, qa, qb, qc, qD, qE, qF]
           refine qTk (v := ?_) 20 rfl (.inl ⟨by rfl, ?_⟩) ?_
           rotate_left
           ·
            (intro w hSw; (try dsimp only at hSw); go_simp; try with_reducible rfl)
           try simp only [Act.put, qa, qb, qc, qD, qE, qF]
           refine qTk (v := ?_) 21 rfl (.inl ⟨by rfl, ?_⟩) ?_
           rotate_left
           ·
            (intro w hSw; (try dsimp only at hSw); go_simp; try with_reducible rfl)
           try simp only [Act.put, qa, qb, qc, qD, qE, qF]
           refine wpTail_done qKr ?_ _
           clear hHeld 
           go_wp2_with fail
           go_ret2
           rw [extA_none (ts := ts) (ls := ls) (.inr (extT_row hil (by rw [hX14.out, hX27.out]; unfold rowOk; rw [hB36.out, Bool.and_false])))]
           exact PIntsB.no (Xw4.trans qXt)
          ·
           replace hB36 := Lib.hid hB36
           refine hK.out _ _ ⟨x130, x131, b250, b251, x260⟩ (fun hHeld => ?_)
           clear hK K
           try simp only [Act.put, qa, qb, qc, qD, qE, qF]
           refine qTk (v := ?_) 20 rfl (.inl ⟨by rfl, ?_⟩) ?_
           rotate_left
           ·
            (intro w hSw; (try dsimp only at hSw); go_simp; try with_reducible rfl)
           try simp only [Act.put, qa, qb, qc, qD, qE, qF]
           refine qTk (v := ?_) 21 rfl (.inl ⟨by rfl, ?_⟩) ?_
           rotate_left
           ·
            (intro w hSw; (try dsimp only at hSw); go_simp; try with_reducible rfl)
           try simp only [Act.put, qa, qb, qc, qD, qE, qF]
           refine wpTail_done qKr ?_ _
           clear hHeld 
           have hro : Hid (rowOk S23 S33 = true) := Lib.hid (by unfold rowOk; rw [decide_eq_true (show (S33.length : Int) = (S23.length : Int) from hc35.out), hB36.out]; rfl)
           have hLS : S33.length ≤ S23.length := by have h7 := hc35.out; omega
           go_wp2_with fail
           go_loopw [71] (fun v wr => ∃ (d : Nat) (x : List Int), d ≤ S33.length ∧ v = .int .i64 d ∧ Hid (extIn e S23 S33 d = some x) ∧ OwnI wr (w.heap.size) (.slice (some ⟨w.heap.size, 0, none⟩) 5 5) x ∧ Chg w.heap.size (w.heap.size + 1) w4 wr ∧ Ext w wr) (fun v _ => S33.length - (intOf v).toNat)
           case atStart => exact ⟨0, e, Nat.zero_le _, rfl, Lib.hid rfl, (show OwnI _ _ _ e from (O7.ext qXt)), Chg.refl _ _ _, BL5_w4⟩
           case round =>
            generalize wr = wc at hrel ⊢
            obtain ⟨d, x, hd, rfl, hxt, O7n, Kr37, Er38⟩ := hrel
            have Xwc : Ext w wc := Er38
            have s_wc : w.heap.size ≤ wc.heap.size := Xwc.size
            have t_wc : w4.heap.size ≤ wc.heap.size := Kr37.size
            replace x130 := Kr37.cell (by omega) x130
            replace x131 := Kr37.cell (by omega) x131
            replace b250 := Kr37.cell (by omega) b250
            replace b251 := Kr37.cell (by omega) b251
            replace x260 := Kr37.cell (by omega) x260
            have z_x13 : bl15 < wc.heap.size := qB x130
            have z_b25 : wb.heap.size < wc.heap.size := qB b250
            have z_x26 : bl28 < wc.heap.size := qB x260
            clear O7
            have O7 := O7n
            clear O7n
            have GL_wc := (own_lt O7 rfl).2
            have Kr8_wc := Chg.trans Kr8_w4 Kr37
            have Kr11_wc := Chg.trans Kr11_w4 Kr37
            have hx5 : 5 ≤ x.length := by rw [extIn_len hxt.out]; omega
            have hx6 : x.length ≤ 5 := by rw [extIn_len hxt.out]; omega
            by_cases hdl : d < S33.length
            ·
             have hdI : (d : Int) < (S33.length : Int) := by omega
             have hdS : d < S23.length := by omega
             have hN_e41 : d < S33.length := hdl
             have hI_e41 : (d : Int) < (S33.length : Int) := by omega
             obtain ⟨bl39, ol40, rfl, e410⟩ := i32.at d hdl
             have y_e41 : bl39 < w.heap.size := qB e410
             replace e410 := Xwc.cell e410
             obtain ⟨v42, hv42⟩ : ∃ v, S33.getD d 0 = v := ⟨_, rfl⟩
             rw [hv42] at e410
             replace hv42 := Lib.hid hv42
             have z_e41 : bl39 < wc.heap.size := qB e410
             obtain ⟨q7, hq4, rfl⟩ := lab_at hB36.out hdl hv42.out
             have hq7 := hv42
             have hw7 : IntKind.i64.wrap (q7 : Int) = (q7 : Int) := IntWalk.i64_in _ (by omega)
             have hq5 : (q7 : Int) < 5 := by omega
             go_wp2_with fail
             have hN_e45 : q7 < x.length := (by omega)
             have hI_e45 : (q7 : Int) < (x.length : Int) := by omega
             obtain ⟨b_e45, o_e45, h_e45, e450⟩ := (O7.ints (by first | omega | (simp; omega) | (unfold putL; rw [putUp_len]; simp; omega) | (rw [putUp_len]; simp; omega))).at q7 (by omega)
             cases h_e45
             rw [Nat.zero_add] at e450
             obtain ⟨v46, hv46⟩ : ∃ v, x.getD q7 0 = v := ⟨_, rfl⟩
             rw [hv46] at e450
             replace hv46 := Lib.hid hv46
             have y_e45 : w.heap.size < wc.heap.size := qB e450
             have z_e45 := y_e45
             refine wp_region_tail (S := fun w' => w'.cell? ⟨bl15, ol16 + i * 2, none⟩ = some (.slice u17 S23.length c19) ∧ w'.cell? ⟨bl15, ol16 + i * 2 + 1, none⟩ = some (.slice u18 T24.length c20) ∧ w'.cell? ⟨wb.heap.size, 0, none⟩ = some (.slice u17 S23.length c19) ∧ w'.cell? ⟨wb.heap.size, 1, none⟩ = some (.slice u18 T24.length c20) ∧ w'.cell? ⟨bl28, ol29 + i, none⟩ = some (.slice (some ⟨bl39, ol40, none⟩) S33.length c31) ∧ w'.cell? ⟨bl39, ol40 + d, none⟩ = some (.int .i64 (q7 : Int)) ∧ w'.cell? ⟨w.heap.size, q7, none⟩ = some (.int .i64 v46)) (fun i => decide (17 ≤ i)) qKr ⟨x130, x131, b250, b251, x260, e410, e450⟩ (fun hHeld => ?_)
             refine qTk (v := ?_) 0 rfl (.inl ⟨by rfl, ?_⟩) ?_
             rotate_left
             ·
              (intro w hSw; (try dsimp only at hSw); go_simp; try with_reducible rfl)
             try simp only [Act.put, qa, qb, qc, qD, qE, qF]
             refine qTk (v := ?_) 1 rfl (.inl ⟨by rfl, ?_⟩) ?_
             rotate_left
             ·
              (intro w hSw; (try dsimp only at hSw); go_simp; try with_reducible rfl)
             try simp only [Act.put, qa, qb, qc, qD, qE, qF]
             refine qTk (v := ?_) 2 rfl (.inl ⟨by rfl, ?_⟩) ?_
             rotate_left
             ·
              (intro w hSw; (try dsimp only at hSw); go_simp; try with_reducible rfl)
             try simp only [Act.put, qa, qb, qc, qD, qE, qF]
             refine qTk (v := ?_) 3 rfl (.inl ⟨by rfl, ?_⟩) ?_
             rotate_left
             ·
              (intro w hSw; (try dsimp only at hSw); go_simp; try with_reducible rfl)
             try simp only [Act.put, qa, qb, qc, qD, qE, qF]
             by_cases hc50 : (0 : Int) ≤ (v46 : Int)
             ·
              refine qTk (v := ?_) 4 rfl (.inl ⟨by rfl, ?_⟩) ?_
              rotate_left
              ·
               (intro w hSw; (try dsimp only at hSw); go_simp; try with_reducible rfl)
              try simp only [Act.put, qa, qb, qc, qD, qE, qF]
              refine qTk (v := ?_) 5 rfl (.inl ⟨by rfl, ?_⟩) ?_
              rotate_left
              ·
               (intro w hSw; (try dsimp only at hSw); go_simp; try with_reducible rfl)
              try simp only [Act.put, qa, qb, qc, qD, qE, qF]
              refine qTk (v := ?_) 6 rfl (.inl ⟨by rfl, ?_⟩) ?_
              rotate_left
              ·
               (intro w hSw; (try dsimp only at hSw); go_simp; try with_reducible rfl)
              try simp only [Act.put, qa, qb, qc, qD, qE, qF]
              refine qTk (v := ?_) 7 rfl (.inl ⟨by rfl, ?_⟩) ?_
              rotate_left
              ·
               (intro w hSw; (try dsimp only at hSw); go_simp; try with_reducible rfl)
              try simp only [Act.put, qa, qb, qc, qD, qE, qF]
              refine qTk (v := ?_) 8 rfl (.inl ⟨by rfl, ?_⟩) ?_
              rotate_left
              ·
               (intro w hSw; (try dsimp only at hSw); go_simp; try with_reducible rfl)
              try simp only [Act.put, qa, qb, qc, qD, qE, qF]
              refine qTk (v := ?_) 9 rfl (.inl ⟨by rfl, ?_⟩) ?_
              rotate_left
              ·
               (intro w hSw; (try dsimp only at hSw); go_simp; try with_reducible rfl)
              try simp only [Act.put, qa, qb, qc, qD, qE, qF]
              refine qTk (v := ?_) 10 rfl (.inl ⟨by rfl, ?_⟩) ?_
              rotate_left
              ·
               (intro w hSw; (try dsimp only at hSw); go_simp; try with_reducible rfl)
              try simp only [Act.put, qa, qb, qc, qD, qE, qF]
              refine qTk (v := ?_) 11 rfl (.inl ⟨by rfl, ?_⟩) ?_
              rotate_left
              ·
               (intro w hSw; (try dsimp only at hSw); go_simp; try with_reducible rfl)
              try simp only [Act.put, qa, qb, qc, qD, qE, qF]
              refine qTk (v := ?_) 12 rfl (.inl ⟨by rfl, ?_⟩) ?_
              rotate_left
              ·
               (intro w hSw; (try dsimp only at hSw); go_simp; try with_reducible rfl)
              try simp only [Act.put, qa, qb, qc, qD, qE, qF]
              have hN_e56 : d < S23.length := hdS
              have hI_e56 : (d : Int) < (S23.length : Int) := by omega
              obtain ⟨bl54, ol55, rfl, e560⟩ := i21.at d hdS
              have y_e56 : bl54 < w.heap.size := qB e560
              replace e560 := Xwc.cell e560
              obtain ⟨v57, hv57⟩ : ∃ v, S23.getD d 0 = v := ⟨_, rfl⟩
              rw [hv57] at e560
              replace hv57 := Lib.hid hv57
              have z_e56 : bl54 < wc.heap.size := qB e560
              refine qTk (v := ?_) 13 rfl (.inl ⟨by rfl, ?_⟩) ?_
              rotate_left
              ·
               (intro w hSw; (try dsimp only at hSw); go_simp; try with_reducible rfl)
              try simp only [Act.put, qa, qb, qc, qD, qE, qF]
              refine wpTail_one (i := 14) qKr rfl rfl (fun K hK => ?_)
              try simp only [Act.put, qa, qb, qc, qD, qE, qF]
              go_simp
              refine hK.out _ _ ⟨x130, x131, b250, b251, x260, e410, e450⟩ (fun hHeld => ?_)
              clear hK K
              try simp only [Act.put, qa, qb, qc, qD, qE, qF]
              by_cases hc58 : (v46 : Int) = (v57 : Int)
              ·
               have hc58e : ((v46 : Int) == (v57 : Int)) = true := by simpa using hc58
               have hc58n : ((v46 : Int) != (v57 : Int)) = false := by simpa using hc58
               replace hc58 := Lib.hid hc58
               refine qTk (v := ?_) 15 rfl (.inl ⟨by rfl, ?_⟩) ?_
               rotate_left
               ·
                (intro w hSw; (try dsimp only at hSw); go_simp; try with_reducible rfl)
               try simp only [Act.put, qa, qb, qc, qD, qE, qF]
               refine qTk (v := ?_) 16 rfl (.inl ⟨by rfl, ?_⟩) ?_
               rotate_left
               ·
                (intro w hSw; (try dsimp only at hSw); go_simp; try with_reducible rfl)
               try simp only [Act.put, qa, qb, qc, qD, qE, qF]
               refine wpTail_done qKr ?_ _
               clear hHeld 
               have A62 := O7.cell q7 (by omega)
               obtain ⟨A62a, A62b⟩ := A62
               go_wp2_with fail
               clear e410 z_e41
               clear e450 z_e45
               clear e560 z_e56
               generalize hW3 : (wc.setCell ⟨w.heap.size, q7, none⟩ (.int .i64 v57)) = w5 at *
               have Kw5 : Chg (w.heap.size) (w.heap.size + 1) wc w5 := by subst hW3; exact qCh
               have Xw5 : Ext w w5 := by subst hW3; exact qXt
               have BL5_w5 : Ext w w5 := by subst hW3; exact qXt
               have Kr8_w5 : Chg w.heap.size (w.heap.size + 1) w1 w5 := Chg.trans Kr8_wc Kw5
               have Kr11_w5 : Chg w.heap.size (w.heap.size + 1) wa w5 := Chg.trans Kr11_wc Kw5
               have Kr37_w5 : Chg w.heap.size (w.heap.size + 1) w4 w5 := Chg.trans Kr37 Kw5
               replace x130 := Kw5.cell (by omega) x130
               replace x131 := Kw5.cell (by omega) x131
               replace b250 := Kw5.cell (by omega) b250
               replace b251 := Kw5.cell (by omega) b251
               replace x260 := Kw5.cell (by omega) x260
               have n_O7 := O7.set q7 (v57) (by first | omega | (simp; omega) | (rw [putUp_len]; simp; omega) | (rw [addUp_len]; omega))
               rw [hW3] at n_O7
               replace O7 := n_O7
               clear n_O7
               clear Kw5
               have z_x13 : bl15 < w5.heap.size := qB x130
               have z_b25 : wb.heap.size < w5.heap.size := qB b250
               have z_x26 : bl28 < w5.heap.size := qB x260
               have s_w5 : w.heap.size ≤ w5.heap.size := Xw5.size
               clear hW3
               clear A62a A62b
               go_roundw
               case rel => exact ⟨d + 1, x.set q7 v57, by omega, by go_num, Lib.hid (ext_go hxt.out hq7.out hv46.out hv57.out (fun h7 => h7.2 hc58.out)), O7.ext qXt, Kr37_w5.ext qXt, BL5_w5.trans qXt⟩
               case measure => simp [intOf]; omega
              ·
               have hc58e : ((v46 : Int) == (v57 : Int)) = false := by simpa using hc58
               have hc58n : ((v46 : Int) != (v57 : Int)) = true := by simpa using hc58
               replace hc58 := Lib.hid hc58
               refine qTk (v := ?_) 15 rfl (.inl ⟨by rfl, ?_⟩) ?_
               rotate_left
               ·
                (intro w hSw; (try dsimp only at hSw); go_simp; try with_reducible rfl)
               try simp only [Act.put, qa, qb, qc, qD, qE, qF]
               refine qTk (v := ?_) 16 rfl (.inl ⟨by rfl, ?_⟩) ?_
               rotate_left
               ·
                (intro w hSw; (try dsimp only at hSw); go_simp; try with_reducible rfl)
               try simp only [Act.put, qa, qb, qc, qD, qE, qF]
               refine wpTail_done qKr ?_ _
               clear hHeld 
               go_wp2_with fail
               go_ret2
               rw [extA_none (ts := ts) (ls := ls) (.inr (extT_bad hil het.out (by rw [hX14.out, hX27.out]; exact ext_stop hdl hxt.out hq7.out hv46.out hv57.out ⟨hc50, hc58.out⟩)))]
               exact PIntsB.no (Xwc.trans qXt)
             ·
              refine qTk (v := ?_) 4 rfl (.inl ⟨by rfl, ?_⟩) ?_
              rotate_left
              ·
               (intro w hSw; (try dsimp only at hSw); go_simp; try with_reducible rfl)
              try simp only [Act.put, qa, qb, qc, qD, qE, qF]
              refine qTk (v := ?_) 5 rfl (.inl ⟨by rfl, ?_⟩) ?_
              rotate_left
              ·
               (intro w hSw; (try dsimp only at hSw); go_simp; try with_reducible rfl)
              try simp only [Act.put, qa, qb, qc, qD, qE, qF]
              refine qTs 6 rfl (.inr ⟨by rfl, rfl⟩) ?_
              try simp only [Act.put, qa, qb, qc, qD, qE, qF]
              refine qTs 7 rfl (.inr ⟨by rfl, rfl⟩) ?_
              try simp only [Act.put, qa, qb, qc, qD, qE, qF]
              refine qTs 8 rfl (.inr ⟨by rfl, rfl⟩) ?_
              try simp only [Act.put, qa, qb, qc, qD, qE, qF]
              refine qTs 9 rfl (.inr ⟨by rfl, rfl⟩) ?_
              try simp only [Act.put, qa, qb, qc, qD, qE, qF]
              refine qTs 10 rfl (.inr ⟨by rfl, rfl⟩) ?_
              try simp only [Act.put, qa, qb, qc, qD, qE, qF]
              refine qTs 11 rfl (.inr ⟨by rfl, rfl⟩) ?_
              try simp only [Act.put, qa, qb, qc, qD, qE, qF]
              refine qTs 12 rfl (.inr ⟨by rfl, rfl⟩) ?_
              try simp only [Act.put, qa, qb, qc, qD, qE, qF]
              refine qTs 13 rfl (.inr ⟨by rfl, rfl⟩) ?_
              try simp only [Act.put, qa, qb, qc, qD, qE, qF]
              refine qTs 14 rfl (.inr ⟨by rfl, rfl⟩) ?_
              try simp only [Act.put, qa, qb, qc, qD, qE, qF]
              refine qTs 15 rfl (.inr ⟨by rfl, rfl⟩) ?_
              try simp only [Act.put, qa, qb, qc, qD, qE, qF]
              refine qTk (v := ?_) 16 rfl (.inl ⟨by rfl, ?_⟩) ?_
              rotate_left
              ·
               (intro w hSw; (try dsimp only at hSw); go_simp; try with_reducible rfl)
              try simp only [Act.put, qa, qb, qc, qD, qE, qF]
              refine wpTail_done qKr ?_ _
              clear hHeld 
              have hN_e65 : d < S23.length := hdS
              have hI_e65 : (d : Int) < (S23.length : Int) := by omega
              obtain ⟨bl63, ol64, rfl, e650⟩ := i21.at d hdS
              have y_e65 : bl63 < w.heap.size := qB e650
              replace e650 := Xwc.cell e650
              obtain ⟨v66, hv66⟩ : ∃ v, S23.getD d 0 = v := ⟨_, rfl⟩
              rw [hv66] at e650
              replace hv66 := Lib.hid hv66
              have z_e65 : bl63 < wc.heap.size := qB e650
              have A67 := O7.cell q7 (by omega)
              obtain ⟨A67a, A67b⟩ := A67
              go_wp2_with fail
              clear e410 z_e41
              clear e450 z_e45
              clear e650 z_e65
              generalize hW4 : (wc.setCell ⟨w.heap.size, q7, none⟩ (.int .i64 v66)) = w5 at *
              have Kw5 : Chg (w.heap.size) (w.heap.size + 1) wc w5 := by subst hW4; exact qCh
              have Xw5 : Ext w w5 := by subst hW4; exact qXt
              have BL5_w5 : Ext w w5 := by subst hW4; exact qXt
              have Kr8_w5 : Chg w.heap.size (w.heap.size + 1) w1 w5 := Chg.trans Kr8_wc Kw5
              have Kr11_w5 : Chg w.heap.size (w.heap.size + 1) wa w5 := Chg.trans Kr11_wc Kw5
              have Kr37_w5 : Chg w.heap.size (w.heap.size + 1) w4 w5 := Chg.trans Kr37 Kw5
              replace x130 := Kw5.cell (by omega) x130
              replace x131 := Kw5.cell (by omega) x131
              replace b250 := Kw5.cell (by omega) b250
              replace b251 := Kw5.cell (by omega) b251
              replace x260 := Kw5.cell (by omega) x260
              have n_O7 := O7.set q7 (v66) (by first | omega | (simp; omega) | (rw [putUp_len]; simp; omega) | (rw [addUp_len]; omega))
              rw [hW4] at n_O7
              replace O7 := n_O7
              clear n_O7
              clear Kw5
              have z_x13 : bl15 < w5.heap.size := qB x130
              have z_b25 : wb.heap.size < w5.heap.size := qB b250
              have z_x26 : bl28 < w5.heap.size := qB x260
              have s_w5 : w.heap.size ≤ w5.heap.size := Xw5.size
              clear hW4
              clear A67a A67b
              go_roundw
              case rel => exact ⟨d + 1, x.set q7 v66, by omega, by go_num, Lib.hid (ext_go hxt.out hq7.out hv46.out hv66.out (fun h7 => hc50 h7.1)), O7.ext qXt, Kr37_w5.ext qXt, BL5_w5.trans qXt⟩
              case measure => simp [intOf]; omega
            ·
             have hdN : d = S33.length := by omega
             subst hdN
             have hdI : ¬ (S33.length : Int) < (S33.length : Int) := by omega
             go_wp2_with fail
             go_roundw
             case rel => exact ⟨i + 1, x, by omega, by go_num, Lib.hid (extT_some het.out (by rw [hX14.out, hX27.out]; exact hro.out) (by rw [hX14.out, hX27.out]; exact hxt.out)), Lib.hid (by rw [tnB_succ, htn.out, Bool.true_and, hX14.out]; exact hB34.out), O7.ext qXt, Kr11_wc.ext qXt, Er38.trans qXt⟩
             case measure => simp [intOf]; omega
         ·
          have hc35e : ((S33.length : Int) == (S23.length : Int)) = false := by simpa using hc35
          have hc35n : ((S33.length : Int) != (S23.length : Int)) = true := by simpa using hc35
          replace hc35 := Lib.hid hc35
          refine qTk (v := ?_) 12 rfl (.inl ⟨by rfl, ?_⟩) ?_
          rotate_left
          ·
           (intro w hSw; (try dsimp only at hSw); go_simp; try with_reducible rfl)
          try simp only [Act.put, qa, qb, qc, qD, qE, qF]
          refine qTk (v := ?_) 13 rfl (.inl ⟨by rfl, ?_⟩) ?_
          rotate_left
          ·
           (intro w hSw; (try dsimp only at hSw); go_simp; try with_reducible rfl)
          try simp only [Act.put, qa, qb, qc, qD, qE, qF]
          refine qTk (v := ?_) 14 rfl (.inl ⟨by rfl, ?_⟩) ?_
          rotate_left
          ·
           (intro w hSw; (try dsimp only at hSw); go_simp; try with_reducible rfl)
          try simp only [Act.put, qa, qb, qc, qD, qE, qF]
          refine qTs 15 rfl (.inr ⟨by rfl, rfl⟩) ?_
          try simp only [Act.put, qa, qb, qc, qD, qE, qF]
          refine qTs 16 rfl (.inr ⟨by rfl, rfl⟩) ?_
          try simp only [Act.put, qa, qb, qc, qD, qE, qF]
          refine qTs 17 rfl (.inr ⟨by rfl, rfl⟩) ?_
          try simp only [Act.put, qa, qb, qc, qD, qE, qF]
          refine qTs 18 rfl (.inr ⟨by rfl, rfl⟩) ?_
          try simp only [Act.put, qa, qb, qc, qD, qE, qF]
          refine qTs 19 rfl (.inr ⟨by rfl, rfl⟩) ?_
          try simp only [Act.put, qa, qb, qc, qD, qE, qF]
          refine qTs 20 rfl (.inr ⟨by rfl, rfl⟩) ?_
          try simp only [Act.put, qa, qb, qc, qD, qE, qF]
          refine qTk (v := ?_) 21 rfl (.inl ⟨by rfl, ?_⟩) ?_
          rotate_left
          ·
           (intro w hSw; (try dsimp only at hSw); go_simp; try with_reducible rfl)
          try simp only [Act.put, qa, qb, qc, qD, qE, qF]
          refine wpTail_done qKr ?_ _
          clear hHeld 
          go_wp2_with fail
          go_ret2
          rw [extA_none (ts := ts) (ls := ls) (.inr (extT_row hil (by rw [hX14.out, hX27.out]; unfold rowOk; rw [decide_eq_false hc35.out]; rfl)))]
          exact PIntsB.no (Xw3.trans qXt)
       ·
        obtain rfl : i = ts.length := by omega
        have hiI : ¬ (ts.length : Int) < ts.length := by omega
        go_wp2_with fail
        go_ret2
        rw [extA_some (x := e) (by unfold tensB; rw [htn.out, show inB 1 3 (ts.length : Int) = true from by unfold inB; simp; omega, decide_eq_true (show (ls.length : Int) = (ts.length : Int) from hc3.out)]; rfl) het.out]
        exact PIntsB.yes O7.z (O7.ints (by first | exact Nat.le_of_lt (by omega) | omega)) (by omega) (Xwb.trans qXt)
   ·
    have hc3e : ((ls.length : Int) == (ts.length : Int)) = false := by simpa using hc3
    have hc3n : ((ls.length : Int) != (ts.length : Int)) = true := by simpa using hc3
    replace hc3 := Lib.hid hc3
    go_wp2_with fail
    go_ret2
    rw [extA_none (ts := ts) (ls := ls) (.inl (by unfold tensB; rw [decide_eq_false (show ¬ (ls.length : Int) = (ts.length : Int) from hc3.out)]; simp))]
    exact PIntsB.no qXt

set_option maxHeartbeats 6400000 in
theorem extents_c (ts : List Ten) (ls : List Lst) (tv lv : Value) (w : World) (l1 l2 : Nat) (h1 : Tens w l1 tv ts) (h2 : Lsts w l2 lv ls) (hn : ts.length ≤ ls.length) :
  Calls Try.prog 102 #[tv, lv] w (PIntsB w (extL (extT ts ls ts.length)) (extT ts ls ts.length).isSome) := by
 obtain ⟨p0, c0, rfl⟩ := h1.form
 obtain ⟨p1, c1, rfl⟩ := h2.form
 have hlt1 := h1.len
 have hlt2 := h2.len
 go_enter Try.func102, Try.ntmps102
 go_wp2_with fail
 have BL2 : Ext w w := Ext.refl _
 have zG_BL2 := (BL2).size
 skip
 go_loopw [6, 7] (fun gv i wa => ∃ (j : Nat) (xs : List Int), j ≤ 5 ∧ i = .int .i64 j ∧ xs.length ≤ j ∧ Hid (xs = List.replicate j (-1)) ∧ OwnI wa w.heap.size gv xs ∧ Ext w wa) (fun _ i _ => 5 - (intOf i).toNat)
 case atStart => exact ⟨0, [], by omega, rfl, by simp, Lib.hid rfl, (OwnI.lit0 w w.heap.size (Nat.le_refl _)), qXt⟩
 case round =>
  generalize wr = wa at hrel ⊢
  obtain ⟨j, xs, hj, rfl, hxl, hxs, OG, Lwa⟩ := hrel
  have Xwa : Ext w wa := Lwa
  have s_wa : w.heap.size ≤ wa.heap.size := Xwa.size
  have t_wa : w.heap.size ≤ wa.heap.size := Lwa.size
  have BL2_wa : Ext w wa := BL2.trans Lwa
  have Bwa : Ext w wa := Lwa
  obtain ⟨ga4, gc5, rfl⟩ := (OG.ints (by have := (show (xs).length ≤ 1000000 by omega); omega)).form
  have OG3 := OG
  clear OG
  by_cases hjl : j < 5
  ·
   have hjI : (j : Int) ≤ (4 : Int) := by omega
   have zGB := (Bwa).size
   have EE : Ext wa ((wa).alloc (.cells #[.int .i64 (-1)] 3)) := qXt
   have SS : Ints ((wa).alloc (.cells #[.int .i64 (-1)] 3)) 0 (.slice (some ⟨wa.heap.size, 0, none⟩) 1 1) [-1] := by simpa using Ints.one (wa) 0 (-1) (Nat.zero_le _)
   go_wp2_with (
    at_builtin
    refine wpList_app rfl (.tmp 16) (.tmp 17) rfl rfl rfl (by exact OG3.ext EE) (by exact SS) (by have := (show (xs).length ≤ 1000000 by omega); first | omega | (simp only [List.length_append, List.length_cons, List.length_nil]; omega)) qSo ?_
    intro vw1 w1 ho hg7 hbl hv7
    clear hg7 hv7
    obtain ⟨ga6, rr7, rfl⟩ : ∃ a c, vw1 = .slice a (xs.length + 1) c := by obtain ⟨a, c, h⟩ := (ho.ints (by simp only [List.length_append, List.length_cons, List.length_nil]; have := (show (xs).length ≤ 1000000 by omega); omega)).form; exact ⟨a, c, by rw [h, List.length_append]; rfl⟩
    have Xw1 : Ext w w1 := Ext.below (Xwa.trans EE) hbl (by omega)
    have BL2_w1 : Ext w w1 := Ext.below (Ext.trans BL2_wa EE) hbl (by omega)
    have Bwa_w1 : Ext w w1 := Ext.below (Ext.trans Bwa EE) hbl (by omega)
    clear OG3
    have OG3 := ho
    clear ho hbl EE SS zGB
    have s_w1 : w.heap.size ≤ w1.heap.size := Xw1.size)
   go_wp2_with fail
   go_roundw
   case rel => exact ⟨j + 1, xs ++ [-1], by omega, by go_num, by simp; omega, Lib.hid (by rw [hxs.out]; exact (negS j).symm), OG3.ext qXt, (Bwa_w1.trans qXt)⟩
   case measure => simp [intOf]; omega
  ·
   obtain rfl : j = 5 := by omega
   have hjI : ¬ (5 : Int) ≤ (4 : Int) := by omega
   obtain ⟨gr8, rr9, hvgr8, Ggr8, Ggr8'⟩ := OG3.row (by rw [hxs.out]; simp)
   injection hvgr8 with hva hvb hvc
   subst hva
   subst hvc
   clear hvb
   have hx7 := hxs.out
   subst hx7
   clear hxs hxl
   simp only [List.length_replicate] at OG3 ⊢
   go_wp2_with fail
   go_loopw [8] (fun v wr => ∃ (i : Nat) (e : List Int), i ≤ ts.length ∧ v = .int .i64 i ∧ Hid (extT ts ls i = some e) ∧ OwnI wr (w.heap.size) (.slice (some ⟨gr8, 0, none⟩) 5 gc5) e ∧ Chg gr8 (gr8 + 1) wa wr ∧ Ext w wr) (fun v _ => ts.length - (intOf v).toNat)
   case atStart => exact ⟨0, List.replicate 5 (-1), Nat.zero_le _, rfl, Lib.hid rfl, (show OwnI _ _ _ (List.replicate 5 (-1)) from (OG3.ext qXt)), Chg.refl _ _ _, BL2_wa⟩
   case round =>
    generalize wr = wb at hrel ⊢
    obtain ⟨i, e, hi, rfl, het, OG3n, Kr10, Er11⟩ := hrel
    have Xwb : Ext w wb := Er11
    have s_wb : w.heap.size ≤ wb.heap.size := Xwb.size
    have t_wb : wa.heap.size ≤ wb.heap.size := Kr10.size
    clear OG3
    have OG3 := OG3n
    clear OG3n
    have GL_wb := (own_lt OG3 rfl).2
    have he5 : 5 ≤ e.length := by rw [extT_len het.out]; omega
    have he6 : e.length ≤ 5 := by rw [extT_len het.out]; omega
    by_cases hil : i < ts.length
    ·
     have hiI : (i : Int) < ts.length := by omega
     have hil2 : i < ls.length := by omega
     go_wp2_with fail
     have hN_x12 : i < ts.length := hil
     have hI_x12 : (i : Int) < (ts.length : Int) := by omega
     obtain ⟨bl14, ol15, u16, c18, u17, c19, rfl, x120, x121, i20, i21⟩ := h1.at i hN_x12
     obtain ⟨X13, hX13⟩ : ∃ x, tenAt ts i = x := ⟨_, rfl⟩
     rw [hX13] at x120 x121 i20 i21
     obtain ⟨S22, T23⟩ := X13
     dsimp only at x120 x121 i20 i21
     replace hX13 := Lib.hid hX13
     have hLS22 := i20.len
     have hLT23 := i21.len
     have y_x12 : bl14 < w.heap.size := qB x120
     replace x120 := Xwb.cell x120
     replace x121 := Xwb.cell x121
     have z_x12 : bl14 < wb.heap.size := qB x120
     have hN_x24 : i < ls.length := hil2
     have hI_x24 : (i : Int) < (ls.length : Int) := by omega
     obtain ⟨bl26, ol27, u28, c29, rfl, x240, i30⟩ := h2.at i hN_x24
     obtain ⟨X25, hX25⟩ : ∃ x, lstAt ls i = x := ⟨_, rfl⟩
     rw [hX25] at x240 i30
     obtain ⟨S31⟩ := X25
     dsimp only at x240 i30
     replace hX25 := Lib.hid hX25
     have hLS31 := i30.len
     have y_x24 : bl26 < w.heap.size := qB x240
     replace x240 := Xwb.cell x240
     have z_x24 : bl26 < wb.heap.size := qB x240
     go_wp2_with fail
     refine wp_region_tail (S := fun w' => w'.cell? ⟨bl14, ol15 + i * 2, none⟩ = some (.slice u16 S22.length c18) ∧ w'.cell? ⟨bl14, ol15 + i * 2 + 1, none⟩ = some (.slice u17 T23.length c19) ∧ w'.cell? ⟨bl26, ol27 + i, none⟩ = some (.slice u28 S31.length c29)) (fun i => decide (20 ≤ i)) qKr ⟨x120, x121, x240⟩ (fun hHeld => ?_)
     refine qTk (v := ?_) 0 rfl (.inl ⟨by rfl, ?_⟩) ?_
     rotate_left
     ·
      (intro w hSw; (try dsimp only at hSw); go_simp; try with_reducible rfl)
     try simp only [Act.put, qa, qb, qc, qD, qE, qF]
     refine qTk (v := ?_) 1 rfl (.inl ⟨by rfl, ?_⟩) ?_
     rotate_left
     ·
      (intro w hSw; (try dsimp only at hSw); go_simp; try with_reducible rfl)
     try simp only [Act.put, qa, qb, qc, qD, qE, qF]
     refine qTk (v := ?_) 2 rfl (.inl ⟨by rfl, ?_⟩) ?_
     rotate_left
     ·
      (intro w hSw; (try dsimp only at hSw); go_simp; try with_reducible rfl)
     try simp only [Act.put, qa, qb, qc, qD, qE, qF]
     refine qTk (v := ?_) 3 rfl (.inl ⟨by rfl, ?_⟩) ?_
     rotate_left
     ·
      (intro w hSw; (try dsimp only at hSw); go_simp; try with_reducible rfl)
     try simp only [Act.put, qa, qb, qc, qD, qE, qF]
     refine qTk (v := ?_) 4 rfl (.inl ⟨by rfl, ?_⟩) ?_
     rotate_left
     ·
      (intro w hSw; (try dsimp only at hSw); go_simp; try with_reducible rfl)
     try simp only [Act.put, qa, qb, qc, qD, qE, qF]
     refine qTk (v := ?_) 5 rfl (.inl ⟨by rfl, ?_⟩) ?_
     rotate_left
     ·
      (intro w hSw; (try dsimp only at hSw); go_simp; try with_reducible rfl)
     try simp only [Act.put, qa, qb, qc, qD, qE, qF]
     refine qTk (v := ?_) 6 rfl (.inl ⟨by rfl, ?_⟩) ?_
     rotate_left
     ·
      (intro w hSw; (try dsimp only at hSw); go_simp; try with_reducible rfl)
     try simp only [Act.put, qa, qb, qc, qD, qE, qF]
     refine qTk (v := ?_) 7 rfl (.inl ⟨by rfl, ?_⟩) ?_
     rotate_left
     ·
      (intro w hSw; (try dsimp only at hSw); go_simp; try with_reducible rfl)
     try simp only [Act.put, qa, qb, qc, qD, qE, qF]
     refine qTk (v := ?_) 8 rfl (.inl ⟨by rfl, ?_⟩) ?_
     rotate_left
     ·
      (intro w hSw; (try dsimp only at hSw); go_simp; try with_reducible rfl)
     try simp only [Act.put, qa, qb, qc, qD, qE, qF]
     refine qTk (v := ?_) 9 rfl (.inl ⟨by rfl, ?_⟩) ?_
     rotate_left
     ·
      (intro w hSw; (try dsimp only at hSw); go_simp; try with_reducible rfl)
     try simp only [Act.put, qa, qb, qc, qD, qE, qF]
     refine qTk (v := ?_) 10 rfl (.inl ⟨by rfl, ?_⟩) ?_
     rotate_left
     ·
      (intro w hSw; (try dsimp only at hSw); go_simp; try with_reducible rfl)
     try simp only [Act.put, qa, qb, qc, qD, qE, qF]
     by_cases hc32 : (S31.length : Int) = (S22.length : Int)
     ·
      have hc32e : ((S31.length : Int) == (S22.length : Int)) = true := by simpa using hc32
      have hc32n : ((S31.length : Int) != (S22.length : Int)) = false := by simpa using hc32
      replace hc32 := Lib.hid hc32
      refine qTk (v := ?_) 11 rfl (.inl ⟨by rfl, ?_⟩) ?_
      rotate_left
      ·
       (intro w hSw; (try dsimp only at hSw); go_simp; try with_reducible rfl)
      try simp only [Act.put, qa, qb, qc, qD, qE, qF]
      refine qTk (v := ?_) 12 rfl (.inl ⟨by rfl, ?_⟩) ?_
      rotate_left
      ·
       (intro w hSw; (try dsimp only at hSw); go_simp; try with_reducible rfl)
      try simp only [Act.put, qa, qb, qc, qD, qE, qF]
      refine qTk (v := ?_) 13 rfl (.inl ⟨by rfl, ?_⟩) ?_
      rotate_left
      ·
       (intro w hSw; (try dsimp only at hSw); go_simp; try with_reducible rfl)
      try simp only [Act.put, qa, qb, qc, qD, qE, qF]
      refine qTk (v := ?_) 14 rfl (.inl ⟨by rfl, ?_⟩) ?_
      rotate_left
      ·
       (intro w hSw; (try dsimp only at hSw); go_simp; try with_reducible rfl)
      try simp only [Act.put, qa, qb, qc, qD, qE, qF]
      refine qTk (v := ?_) 15 rfl (.inl ⟨by rfl, ?_⟩) ?_
      rotate_left
      ·
       (intro w hSw; (try dsimp only at hSw); go_simp; try with_reducible rfl)
      try simp only [Act.put, qa, qb, qc, qD, qE, qF]
      refine qTk (v := ?_) 16 rfl (.inl ⟨by rfl, ?_⟩) ?_
      rotate_left
      ·
       (intro w hSw; (try dsimp only at hSw); go_simp; try with_reducible rfl)
      try simp only [Act.put, qa, qb, qc, qD, qE, qF]
      refine wpTail_one (i := 17) qKr rfl rfl (fun K hK => ?_)
      try simp only [Act.put, qa, qb, qc, qD, qE, qF]
      go_simp
      refine (allIn_c S31 (.slice u28 S31.length c29) 0 4 _ _ (i30.ext (Xwb.trans qXt))).mono ?_
      rintro e w' ⟨rfl, rfl⟩
      cases hB33 : S31.all (inB 0 4)
      ·
       replace hB33 := Lib.hid hB33
       refine hK.out _ _ ⟨x120, x121, x240⟩ (fun hHeld => ?_)
       clear hK K
       try simp only [Act.put, qa, qb, qc, qD, qE, qF]
       refine qTk (v := ?_) 18 rfl (.inl ⟨by rfl, ?_⟩) ?_
       rotate_left
       ·
        (intro w hSw; (try dsimp only at hSw); go_simp; try with_reducible rfl)
       try simp only [Act.put, qa, qb, qc, qD, qE, qF]
       refine qTk (v := ?_) 19 rfl (.inl ⟨by rfl, ?_⟩) ?_
       rotate_left
       ·
        (intro w hSw; (try dsimp only at hSw); go_simp; try with_reducible rfl)
       try simp only [Act.put, qa, qb, qc, qD, qE, qF]
       refine wpTail_done qKr ?_ _
       clear hHeld 
       go_wp2_with fail
       go_ret2
       rw [extT_row hil (by rw [hX13.out, hX25.out]; unfold rowOk; rw [(show labB S31 = false from hB33.out), Bool.and_false])]
       exact PIntsB.no (Xwb.trans qXt)
      ·
       replace hB33 := Lib.hid hB33
       refine hK.out _ _ ⟨x120, x121, x240⟩ (fun hHeld => ?_)
       clear hK K
       try simp only [Act.put, qa, qb, qc, qD, qE, qF]
       refine qTk (v := ?_) 18 rfl (.inl ⟨by rfl, ?_⟩) ?_
       rotate_left
       ·
        (intro w hSw; (try dsimp only at hSw); go_simp; try with_reducible rfl)
       try simp only [Act.put, qa, qb, qc, qD, qE, qF]
       refine qTk (v := ?_) 19 rfl (.inl ⟨by rfl, ?_⟩) ?_
       rotate_left
       ·
        (intro w hSw; (try dsimp only at hSw); go_simp; try with_reducible rfl)
       try simp only [Act.put, qa, qb, qc, qD, qE, qF]
       refine wpTail_done qKr ?_ _
       clear hHeld 
       have hro : Hid (rowOk S22 S31 = true) := Lib.hid (by unfold rowOk; rw [decide_eq_true (show (S31.length : Int) = (S22.length : Int) from hc32.out), (show labB S31 = true from hB33.out)]; rfl)
       have hLS : S31.length ≤ S22.length := by have h7 := hc32.out; omega
       go_wp2_with fail
       go_loopw [9] (fun v wr => ∃ (d : Nat) (x : List Int), d ≤ S31.length ∧ v = .int .i64 d ∧ Hid (extIn e S22 S31 d = some x) ∧ OwnI wr (w.heap.size) (.slice (some ⟨gr8, 0, none⟩) 5 gc5) x ∧ Chg gr8 (gr8 + 1) wb wr ∧ Ext w wr) (fun v _ => S31.length - (intOf v).toNat)
       case atStart => exact ⟨0, e, Nat.zero_le _, rfl, Lib.hid rfl, (show OwnI _ _ _ e from (OG3.ext qXt)), (by repeat (first | (with_reducible exact Chg.refl _ _ _) | (with_reducible refine Chg.setCell ?_ qSo qSo _) | (with_reducible refine Chg.ext ?_ (Ext.alloc (Ext.refl _) _)) | (with_reducible refine Chg.ext ?_ (Ext.drew (Ext.refl _))))), (Er11.trans qXt)⟩
       case round =>
        generalize wr = wc at hrel ⊢
        obtain ⟨d, x, hd, rfl, hxt, OG3n, Kr34, Er35⟩ := hrel
        have Xwc : Ext w wc := Er35
        have s_wc : w.heap.size ≤ wc.heap.size := Xwc.size
        have t_wc : wb.heap.size ≤ wc.heap.size := Kr34.size
        replace x120 := Kr34.cell (by omega) x120
        replace x121 := Kr34.cell (by omega) x121
        replace x240 := Kr34.cell (by omega) x240
        have z_x12 : bl14 < wc.heap.size := qB x120
        have z_x24 : bl26 < wc.heap.size := qB x240
        clear OG3
        have OG3 := OG3n
        clear OG3n
        have GL_wc := (own_lt OG3 rfl).2
        have Kr10_wc := Chg.trans Kr10 Kr34
        have hx5 : 5 ≤ x.length := by rw [extIn_len hxt.out]; omega
        have hx6 : x.length ≤ 5 := by rw [extIn_len hxt.out]; omega
        by_cases hdl : d < S31.length
        ·
         have hdI : (d : Int) < (S31.length : Int) := by omega
         have hdS : d < S22.length := by omega
         have hN_e38 : d < S31.length := hdl
         have hI_e38 : (d : Int) < (S31.length : Int) := by omega
         obtain ⟨bl36, ol37, rfl, e380⟩ := i30.at d hdl
         have y_e38 : bl36 < w.heap.size := qB e380
         replace e380 := Xwc.cell e380
         obtain ⟨v39, hv39⟩ : ∃ v, S31.getD d 0 = v := ⟨_, rfl⟩
         rw [hv39] at e380
         replace hv39 := Lib.hid hv39
         have z_e38 : bl36 < wc.heap.size := qB e380
         obtain ⟨q7, hq4, rfl⟩ := lab_at (show labB S31 = true from hB33.out) hdl hv39.out
         have hq7 := hv39
         have hw7 : IntKind.i64.wrap (q7 : Int) = (q7 : Int) := IntWalk.i64_in _ (by omega)
         have hq5 : (q7 : Int) < 5 := by omega
         go_wp2_with fail
         have hN_e42 : q7 < x.length := (by omega)
         have hI_e42 : (q7 : Int) < (x.length : Int) := by omega
         obtain ⟨b_e42, o_e42, h_e42, e420⟩ := (OG3.ints (by first | omega | (simp; done))).at q7 (by omega)
         cases h_e42
         rw [Nat.zero_add] at e420
         obtain ⟨v43, hv43⟩ : ∃ v, x.getD q7 0 = v := ⟨_, rfl⟩
         rw [hv43] at e420
         replace hv43 := Lib.hid hv43
         have y_e42 : gr8 < wc.heap.size := qB e420
         have z_e42 := y_e42
         refine wp_region_tail (S := fun w' => w'.cell? ⟨bl14, ol15 + i * 2, none⟩ = some (.slice u16 S22.length c18) ∧ w'.cell? ⟨bl14, ol15 + i * 2 + 1, none⟩ = some (.slice u17 T23.length c19) ∧ w'.cell? ⟨bl26, ol27 + i, none⟩ = some (.slice (some ⟨bl36, ol37, none⟩) S31.length c29) ∧ w'.cell? ⟨bl36, ol37 + d, none⟩ = some (.int .i64 (q7 : Int)) ∧ w'.cell? ⟨gr8, q7, none⟩ = some (.int .i64 v43)) (fun i => decide (20 ≤ i)) qKr ⟨x120, x121, x240, e380, e420⟩ (fun hHeld => ?_)
         refine qTk (v := ?_) 0 rfl (.inl ⟨by rfl, ?_⟩) ?_
         rotate_left
         ·
          (intro w hSw; (try dsimp only at hSw); go_simp; try with_reducible rfl)
         try simp only [Act.put, qa, qb, qc, qD, qE, qF]
         refine qTk (v := ?_) 1 rfl (.inl ⟨by rfl, ?_⟩) ?_
         rotate_left
         ·
          (intro w hSw; (try dsimp only at hSw); go_simp; try with_reducible rfl)
         try simp only [Act.put, qa, qb, qc, qD, qE, qF]
         refine qTk (v := ?_) 2 rfl (.inl ⟨by rfl, ?_⟩) ?_
         rotate_left
         ·
          (intro w hSw; (try dsimp only at hSw); go_simp; try with_reducible rfl)
         try simp only [Act.put, qa, qb, qc, qD, qE, qF]
         refine qTk (v := ?_) 3 rfl (.inl ⟨by rfl, ?_⟩) ?_
         rotate_left
         ·
          (intro w hSw; (try dsimp only at hSw); go_simp; try with_reducible rfl)
         try simp only [Act.put, qa, qb, qc, qD, qE, qF]
         by_cases hc47 : (0 : Int) ≤ (v43 : Int)
         ·
          refine qTk (v := ?_) 4 rfl (.inl ⟨by rfl, ?_⟩) ?_
          rotate_left
          ·
           (intro w hSw; (try dsimp only at hSw); go_simp; try with_reducible rfl)
          try simp only [Act.put, qa, qb, qc, qD, qE, qF]
          refine qTk (v := ?_) 5 rfl (.inl ⟨by rfl, ?_⟩) ?_
          rotate_left
          ·
           (intro w hSw; (try dsimp only at hSw); go_simp; try with_reducible rfl)
          try simp only [Act.put, qa, qb, qc, qD, qE, qF]
          refine qTk (v := ?_) 6 rfl (.inl ⟨by rfl, ?_⟩) ?_
          rotate_left
          ·
           (intro w hSw; (try dsimp only at hSw); go_simp; try with_reducible rfl)
          try simp only [Act.put, qa, qb, qc, qD, qE, qF]
          refine qTk (v := ?_) 7 rfl (.inl ⟨by rfl, ?_⟩) ?_
          rotate_left
          ·
           (intro w hSw; (try dsimp only at hSw); go_simp; try with_reducible rfl)
          try simp only [Act.put, qa, qb, qc, qD, qE, qF]
          refine qTk (v := ?_) 8 rfl (.inl ⟨by rfl, ?_⟩) ?_
          rotate_left
          ·
           (intro w hSw; (try dsimp only at hSw); go_simp; try with_reducible rfl)
          try simp only [Act.put, qa, qb, qc, qD, qE, qF]
          refine qTk (v := ?_) 9 rfl (.inl ⟨by rfl, ?_⟩) ?_
          rotate_left
          ·
           (intro w hSw; (try dsimp only at hSw); go_simp; try with_reducible rfl)
          try simp only [Act.put, qa, qb, qc, qD, qE, qF]
          refine qTk (v := ?_) 10 rfl (.inl ⟨by rfl, ?_⟩) ?_
          rotate_left
          ·
           (intro w hSw; (try dsimp only at hSw); go_simp; try with_reducible rfl)
          try simp only [Act.put, qa, qb, qc, qD, qE, qF]
          refine qTk (v := ?_) 11 rfl (.inl ⟨by rfl, ?_⟩) ?_
          rotate_left
          ·
           (intro w hSw; (try dsimp only at hSw); go_simp; try with_reducible rfl)
          try simp only [Act.put, qa, qb, qc, qD, qE, qF]
          refine qTk (v := ?_) 12 rfl (.inl ⟨by rfl, ?_⟩) ?_
          rotate_left
          ·
           (intro w hSw; (try dsimp only at hSw); go_simp; try with_reducible rfl)
          try simp only [Act.put, qa, qb, qc, qD, qE, qF]
          refine qTk (v := ?_) 13 rfl (.inl ⟨by rfl, ?_⟩) ?_
          rotate_left
          ·
           (intro w hSw; (try dsimp only at hSw); go_simp; try with_reducible rfl)
          try simp only [Act.put, qa, qb, qc, qD, qE, qF]
          refine qTk (v := ?_) 14 rfl (.inl ⟨by rfl, ?_⟩) ?_
          rotate_left
          ·
           (intro w hSw; (try dsimp only at hSw); go_simp; try with_reducible rfl)
          try simp only [Act.put, qa, qb, qc, qD, qE, qF]
          refine qTk (v := ?_) 15 rfl (.inl ⟨by rfl, ?_⟩) ?_
          rotate_left
          ·
           (intro w hSw; (try dsimp only at hSw); go_simp; try with_reducible rfl)
          try simp only [Act.put, qa, qb, qc, qD, qE, qF]
          have hN_e53 : d < S22.length := hdS
          have hI_e53 : (d : Int) < (S22.length : Int) := by omega
          obtain ⟨bl51, ol52, rfl, e530⟩ := i20.at d hdS
          have y_e53 : bl51 < w.heap.size := qB e530
          replace e530 := Xwc.cell e530
          obtain ⟨v54, hv54⟩ : ∃ v, S22.getD d 0 = v := ⟨_, rfl⟩
          rw [hv54] at e530
          replace hv54 := Lib.hid hv54
          have z_e53 : bl51 < wc.heap.size := qB e530
          refine qTk (v := ?_) 16 rfl (.inl ⟨by rfl, ?_⟩) ?_
          rotate_left
          ·
           (intro w hSw; (try dsimp only at hSw); go_simp; try with_reducible rfl)
          try simp only [Act.put, qa, qb, qc, qD, qE, qF]
          refine wpTail_one (i := 17) qKr rfl rfl (fun K hK => ?_)
          try simp only [Act.put, qa, qb, qc, qD, qE, qF]
          go_simp
          refine hK.out _ _ ⟨x120, x121, x240, e380, e420⟩ (fun hHeld => ?_)
          clear hK K
          try simp only [Act.put, qa, qb, qc, qD, qE, qF]
          by_cases hc55 : (v43 : Int) = (v54 : Int)
          ·
           have hc55e : ((v43 : Int) == (v54 : Int)) = true := by simpa using hc55
           have hc55n : ((v43 : Int) != (v54 : Int)) = false := by simpa using hc55
           replace hc55 := Lib.hid hc55
           refine qTk (v := ?_) 18 rfl (.inl ⟨by rfl, ?_⟩) ?_
           rotate_left
           ·
            (intro w hSw; (try dsimp only at hSw); go_simp; try with_reducible rfl)
           try simp only [Act.put, qa, qb, qc, qD, qE, qF]
           refine qTk (v := ?_) 19 rfl (.inl ⟨by rfl, ?_⟩) ?_
           rotate_left
           ·
            (intro w hSw; (try dsimp only at hSw); go_simp; try with_reducible rfl)
           try simp only [Act.put, qa, qb, qc, qD, qE, qF]
           refine wpTail_done qKr ?_ _
           clear hHeld 
           have A59 := OG3.cell q7 (by omega)
           obtain ⟨A59a, A59b⟩ := A59
           go_wp2_with fail
           clear e380 z_e38
           clear e420 z_e42
           clear e530 z_e53
           generalize hW5 : (wc.setCell ⟨gr8, q7, none⟩ (.int .i64 v54)) = w1 at *
           have Kw1 : Chg (gr8) (gr8 + 1) wc w1 := by subst hW5; exact qCh
           have Xw1 : Ext w w1 := by subst hW5; exact qXt
           have BL2_w1 : Ext w w1 := by subst hW5; exact qXt
           have Kr10_w1 : Chg gr8 (gr8 + 1) wa w1 := Chg.trans Kr10_wc Kw1
           have Kr34_w1 : Chg gr8 (gr8 + 1) wb w1 := Chg.trans Kr34 Kw1
           replace x120 := Kw1.cell (by omega) x120
           replace x121 := Kw1.cell (by omega) x121
           replace x240 := Kw1.cell (by omega) x240
           have n_OG3 := OG3.set q7 (v54) (by first | omega | (simp; omega) | (rw [putUp_len]; simp; omega) | (rw [addUp_len]; omega))
           rw [hW5] at n_OG3
           replace OG3 := n_OG3
           clear n_OG3
           clear Kw1
           have z_x12 : bl14 < w1.heap.size := qB x120
           have z_x24 : bl26 < w1.heap.size := qB x240
           have s_w1 : w.heap.size ≤ w1.heap.size := Xw1.size
           clear hW5
           clear A59a A59b
           go_roundw
           case rel => exact ⟨d + 1, x.set q7 v54, by omega, by go_num, Lib.hid (ext_go hxt.out hq7.out hv43.out hv54.out (fun h7 => h7.2 hc55.out)), OG3.ext qXt, Kr34_w1.ext qXt, BL2_w1.trans qXt⟩
           case measure => simp [intOf]; omega
          ·
           have hc55e : ((v43 : Int) == (v54 : Int)) = false := by simpa using hc55
           have hc55n : ((v43 : Int) != (v54 : Int)) = true := by simpa using hc55
           replace hc55 := Lib.hid hc55
           refine qTk (v := ?_) 18 rfl (.inl ⟨by rfl, ?_⟩) ?_
           rotate_left
           ·
            (intro w hSw; (try dsimp only at hSw); go_simp; try with_reducible rfl)
           try simp only [Act.put, qa, qb, qc, qD, qE, qF]
           refine qTk (v := ?_) 19 rfl (.inl ⟨by rfl, ?_⟩) ?_
           rotate_left
           ·
            (intro w hSw; (try dsimp only at hSw); go_simp; try with_reducible rfl)
           try simp only [Act.put, qa, qb, qc, qD, qE, qF]
           refine wpTail_done qKr ?_ _
           clear hHeld 
           go_wp2_with fail
           go_ret2
           rw [extT_bad hil het.out (by rw [hX13.out, hX25.out]; exact ext_stop hdl hxt.out hq7.out hv43.out hv54.out ⟨hc47, hc55.out⟩)]
           exact PIntsB.no (Xwc.trans qXt)
         ·
          refine qTk (v := ?_) 4 rfl (.inl ⟨by rfl, ?_⟩) ?_
          rotate_left
          ·
           (intro w hSw; (try dsimp only at hSw); go_simp; try with_reducible rfl)
          try simp only [Act.put, qa, qb, qc, qD, qE, qF]
          refine qTk (v := ?_) 5 rfl (.inl ⟨by rfl, ?_⟩) ?_
          rotate_left
          ·
           (intro w hSw; (try dsimp only at hSw); go_simp; try with_reducible rfl)
          try simp only [Act.put, qa, qb, qc, qD, qE, qF]
          refine qTs 6 rfl (.inr ⟨by rfl, rfl⟩) ?_
          try simp only [Act.put, qa, qb, qc, qD, qE, qF]
          refine qTs 7 rfl (.inr ⟨by rfl, rfl⟩) ?_
          try simp only [Act.put, qa, qb, qc, qD, qE, qF]
          refine qTs 8 rfl (.inr ⟨by rfl, rfl⟩) ?_
          try simp only [Act.put, qa, qb, qc, qD, qE, qF]
          refine qTs 9 rfl (.inr ⟨by rfl, rfl⟩) ?_
          try simp only [Act.put, qa, qb, qc, qD, qE, qF]
          refine qTs 10 rfl (.inr ⟨by rfl, rfl⟩) ?_
          try simp only [Act.put, qa, qb, qc, qD, qE, qF]
          refine qTs 11 rfl (.inr ⟨by rfl, rfl⟩) ?_
          try simp only [Act.put, qa, qb, qc, qD, qE, qF]
          refine qTs 12 rfl (.inr ⟨by rfl, rfl⟩) ?_
          try simp only [Act.put, qa, qb, qc, qD, qE, qF]
          refine qTs 13 rfl (.inr ⟨by rfl, rfl⟩) ?_
          try simp only [Act.put, qa, qb, qc, qD, qE, qF]
          refine qTs 14 rfl (.inr ⟨by rfl, rfl⟩) ?_
          try simp only [Act.put, qa, qb, qc, qD, qE, qF]
          refine qTs 15 rfl (.inr ⟨by rfl, rfl⟩) ?_
          try simp only [Act.put, qa, qb, qc, qD, qE, qF]
          refine qTs 16 rfl (.inr ⟨by rfl, rfl⟩) ?_
          try simp only [Act.put, qa, qb, qc, qD, qE, qF]
          refine qTs 17 rfl (.inr ⟨by rfl, rfl⟩) ?_
          try simp only [Act.put, qa, qb, qc, qD, qE, qF]
          refine qTs 18 rfl (.inr ⟨by rfl, rfl⟩) ?_
          try simp only [Act.put, qa, qb, qc, qD, qE, qF]
          refine qTk (v := ?_) 19 rfl (.inl ⟨by rfl, ?_⟩) ?_
          rotate_left
          ·
           (intro w hSw; (try dsimp only at hSw); go_simp; try with_reducible rfl)
          try simp only [Act.put, qa, qb, qc, qD, qE, qF]
          refine wpTail_done qKr ?_ _
          clear hHeld 
          have hN_e62 : d < S22.length := hdS
          have hI_e62 : (d : Int) < (S22.length : Int) := by omega
          obtain ⟨bl60, ol61, rfl, e620⟩ := i20.at d hdS
          have y_e62 : bl60 < w.heap.size := qB e620
          replace e620 := Xwc.cell e620
          obtain ⟨v63, hv63⟩ : ∃ v, S22.getD d 0 = v := ⟨_, rfl⟩
          rw [hv63] at e620
          replace hv63 := Lib.hid hv63
          have z_e62 : bl60 < wc.heap.size := qB e620
          have A64 := OG3.cell q7 (by omega)
          obtain ⟨A64a, A64b⟩ := A64
          go_wp2_with fail
          clear e380 z_e38
          clear e420 z_e42
          clear e620 z_e62
          generalize hW6 : (wc.setCell ⟨gr8, q7, none⟩ (.int .i64 v63)) = w1 at *
          have Kw1 : Chg (gr8) (gr8 + 1) wc w1 := by subst hW6; exact qCh
          have Xw1 : Ext w w1 := by subst hW6; exact qXt
          have BL2_w1 : Ext w w1 := by subst hW6; exact qXt
          have Kr10_w1 : Chg gr8 (gr8 + 1) wa w1 := Chg.trans Kr10_wc Kw1
          have Kr34_w1 : Chg gr8 (gr8 + 1) wb w1 := Chg.trans Kr34 Kw1
          replace x120 := Kw1.cell (by omega) x120
          replace x121 := Kw1.cell (by omega) x121
          replace x240 := Kw1.cell (by omega) x240
          have n_OG3 := OG3.set q7 (v63) (by first | omega | (simp; omega) | (rw [putUp_len]; simp; omega) | (rw [addUp_len]; omega))
          rw [hW6] at n_OG3
          replace OG3 := n_OG3
          clear n_OG3
          clear Kw1
          have z_x12 : bl14 < w1.heap.size := qB x120
          have z_x24 : bl26 < w1.heap.size := qB x240
          have s_w1 : w.heap.size ≤ w1.heap.size := Xw1.size
          clear hW6
          clear A64a A64b
          go_roundw
          case rel => exact ⟨d + 1, x.set q7 v63, by omega, by go_num, Lib.hid (ext_go hxt.out hq7.out hv43.out hv63.out (fun h7 => hc47 h7.1)), OG3.ext qXt, Kr34_w1.ext qXt, BL2_w1.trans qXt⟩
          case measure => simp [intOf]; omega
        ·
         have hdN : d = S31.length := by omega
         subst hdN
         have hdI : ¬ (S31.length : Int) < (S31.length : Int) := by omega
         go_wp2_with fail
         go_roundw
         case rel => exact ⟨i + 1, x, by omega, by go_num, Lib.hid (extT_some het.out (by rw [hX13.out, hX25.out]; exact hro.out) (by rw [hX13.out, hX25.out]; exact hxt.out)), OG3.ext qXt, Kr10_wc.ext qXt, Er35.trans qXt⟩
         case measure => simp [intOf]; omega
     ·
      have hc32e : ((S31.length : Int) == (S22.length : Int)) = false := by simpa using hc32
      have hc32n : ((S31.length : Int) != (S22.length : Int)) = true := by simpa using hc32
      replace hc32 := Lib.hid hc32
      refine qTk (v := ?_) 11 rfl (.inl ⟨by rfl, ?_⟩) ?_
      rotate_left
      ·
       (intro w hSw; (try dsimp only at hSw); go_simp; try with_reducible rfl)
      try simp only [Act.put, qa, qb, qc, qD, qE, qF]
      refine qTk (v := ?_) 12 rfl (.inl ⟨by rfl, ?_⟩) ?_
      rotate_left
      ·
       (intro w hSw; (try dsimp only at hSw); go_simp; try with_reducible rfl)
      try simp only [Act.put, qa, qb, qc, qD, qE, qF]
      refine qTs 13 rfl (.inr ⟨by rfl, rfl⟩) ?_
      try simp only [Act.put, qa, qb, qc, qD, qE, qF]
      refine qTs 14 rfl (.inr ⟨by rfl, rfl⟩) ?_
      try simp only [Act.put, qa, qb, qc, qD, qE, qF]
      refine qTs 15 rfl (.inr ⟨by rfl, rfl⟩) ?_
      try simp only [Act.put, qa, qb, qc, qD, qE, qF]
      refine qTs 16 rfl (.inr ⟨by rfl, rfl⟩) ?_
      try simp only [Act.put, qa, qb, qc, qD, qE, qF]
      refine qTs 17 rfl (.inr ⟨by rfl, rfl⟩) ?_
      try simp only [Act.put, qa, qb, qc, qD, qE, qF]
      refine qTs 18 rfl (.inr ⟨by rfl, rfl⟩) ?_
      try simp only [Act.put, qa, qb, qc, qD, qE, qF]
      refine qTk (v := ?_) 19 rfl (.inl ⟨by rfl, ?_⟩) ?_
      rotate_left
      ·
       (intro w hSw; (try dsimp only at hSw); go_simp; try with_reducible rfl)
      try simp only [Act.put, qa, qb, qc, qD, qE, qF]
      refine wpTail_done qKr ?_ _
      clear hHeld 
      go_wp2_with fail
      go_ret2
      rw [extT_row hil (by rw [hX13.out, hX25.out]; unfold rowOk; rw [decide_eq_false hc32.out]; rfl)]
      exact PIntsB.no (Xwb.trans qXt)
    ·
     obtain rfl : i = ts.length := by omega
     have hiI : ¬ (ts.length : Int) < ts.length := by omega
     go_wp2_with fail
     go_ret2
     rw [het.out]
     exact PIntsB.yes OG3.z (OG3.ints (by first | exact Nat.le_of_lt (by omega) | omega)) (by omega) (Xwb.trans qXt)


end Go.Proofs.Ytpgkhjmboiepcaa

/- Plain laws: labels that are used, products of extents. No condition. -/
namespace Go.Proofs.Ytpgkhjmboiepcaa
open Go.RowKit
set_option linter.unusedVariables false
set_option maxRecDepth 100000

/-- the labels of the first k lists -/
def catL (ls : List Lst) (k : Nat) : List Int := (List.range k).flatMap fun i => (lstAt ls i).s
theorem catL_succ (ls : List Lst) (k : Nat) : catL ls (k+1) = catL ls k ++ (lstAt ls k).s := by unfold catL; rw [List.range_succ, List.flatMap_append]; simp
theorem catL_mem {ls : List Lst} {k : Nat} {x : Int} : x ∈ catL ls k ↔ ∃ i, i < k ∧ x ∈ (lstAt ls i).s := by
  unfold catL
  rw [List.mem_flatMap]
  constructor
  · rintro ⟨i, hi, h⟩; exact ⟨i, List.mem_range.1 hi, h⟩
  · rintro ⟨i, hi, h⟩; exact ⟨i, List.mem_range.2 hi, h⟩
/-- the labels of all lists, ascending, each once -/
def alL (ls : List Lst) : List Int := Lib.compact (sortL (catL ls ls.length))
theorem alL_spec (ls : List Lst) : (alL ls).Pairwise (· < ·) ∧ ∀ x, x ∈ alL ls ↔ ∃ i, i < ls.length ∧ x ∈ (lstAt ls i).s := by
  have h := dedup_spec (catL ls ls.length)
  exact ⟨h.1, fun x => by rw [← catL_mem]; exact h.2 x⟩
/-- labels of 0 to 4 in all lists -/
def labsB (ls : List Lst) : Prop := ∀ i, i < ls.length → labB (lstAt ls i).s = true ∧ (lstAt ls i).s.length ≤ 60
theorem labB_mem {l : List Int} {x : Int} (h : labB l = true) (hx : x ∈ l) : 0 ≤ x ∧ x ≤ 4 := by
  unfold labB at h
  rw [List.all_eq_true] at h
  have := h x hx
  unfold inB at this; simpa using this
theorem catL_len {ls : List Lst} (h : labsB ls) (k : Nat) (hk : k ≤ ls.length) : (catL ls k).length ≤ 60 * k := by
  induction k with
  | zero => simp [catL]
  | succ k ih =>
    rw [catL_succ, List.length_append]
    have := (h k (by omega)).2
    have := ih (by omega)
    omega
/-- the labels of which p says so -/
def lab5 (p : Nat → Bool) : List Int := ((List.range 5).filter p).map fun k : Nat => (k : Int)
theorem lab5_asc (p : Nat → Bool) : (lab5 p).Pairwise (· < ·) := by
  unfold lab5
  rw [List.pairwise_map]
  exact (List.Pairwise.filter _ (List.pairwise_lt_range (n := 5))).imp fun h => by omega
theorem lab5_mem {p : Nat → Bool} {x : Int} : x ∈ lab5 p ↔ ∃ k : Nat, k < 5 ∧ p k = true ∧ x = k := by
  unfold lab5
  simp only [List.mem_map, List.mem_filter, List.mem_range]
  constructor
  · rintro ⟨k, ⟨h1, h2⟩, rfl⟩; exact ⟨k, h1, h2, rfl⟩
  · rintro ⟨k, h1, h2, rfl⟩; exact ⟨k, ⟨h1, h2⟩, rfl⟩
theorem lab5_of {xs : List Int} {p : Nat → Bool} (ha : xs.Pairwise (· < ·)) (h : ∀ x, x ∈ xs ↔ ∃ k : Nat, k < 5 ∧ p k = true ∧ x = k) : xs = lab5 p :=
  asc_ext _ _ ha (lab5_asc p) fun x => by rw [h, lab5_mem]
/-- what the extents of labels tell, behind some labels of a tensor -/
theorem extIn_fact {e s l x : List Int} {d : Nat} (he : e.length = 5) (hl : labB l = true) (hs : ∀ y ∈ s, 0 ≤ y ∧ y ≤ 60) (hd : d ≤ l.length) (hd2 : d ≤ s.length) (h : extIn e s l d = some x) (k : Nat) (hk : k < 5) :
    (0 ≤ x.getD k 0 ↔ 0 ≤ e.getD k 0 ∨ ∃ j, j < d ∧ l.getD j 0 = (k : Int)) ∧ (x.getD k 0 ≤ 60 ∨ x.getD k 0 = e.getD k 0) ∧ (0 ≤ x.getD k 0 ∨ x.getD k 0 = e.getD k 0) := by
  induction d generalizing x with
  | zero =>
    unfold extIn at h; cases h
    exact ⟨⟨fun h => .inl h, fun h => by rcases h with h | ⟨j, hj, -⟩; exact h; omega⟩, .inr rfl, .inr rfl⟩
  | succ d ih =>
    unfold extIn at h
    cases hp : extIn e s l d with
    | none => rw [hp] at h; cases h
    | some y =>
      rw [hp] at h
      simp only [Option.bind_some] at h
      have hy := extIn_len hp
      obtain ⟨i1, i2, i3⟩ := ih (by omega) (by omega) hp
      split at h
      · cases h
      · cases h
        have hq := labB_mem hl (getD_mem (s := l) (d := d) (by omega))
        have hv := hs _ (getD_mem (s := s) (d := d) (by omega))
        have hqk : (l.getD d 0).toNat < 5 := by omega
        by_cases hkq : (l.getD d 0).toNat = k
        · have hlk : l.getD d 0 = (k : Int) := by omega
          have e1 : (y.set (l.getD d 0).toNat (s.getD d 0)).getD k 0 = s.getD d 0 := by
            rw [hkq, List.getD_eq_getElem?_getD, List.getElem?_set_self (by omega)]; rfl
          rw [e1]
          exact ⟨⟨fun _ => .inr ⟨d, by omega, hlk⟩, fun _ => hv.1⟩, .inl hv.2, .inl hv.1⟩
        · have e1 : (y.set (l.getD d 0).toNat (s.getD d 0)).getD k 0 = y.getD k 0 := by
            rw [List.getD_eq_getElem?_getD, List.getElem?_set_ne hkq, ← List.getD_eq_getElem?_getD]
          rw [e1]
          refine ⟨i1.trans ⟨fun h => ?_, fun h => ?_⟩, i2, i3⟩
          · rcases h with h | ⟨j, hj, hjk⟩
            · exact .inl h
            · exact .inr ⟨j, by omega, hjk⟩
          · rcases h with h | ⟨j, hj, hjk⟩
            · exact .inl h
            · refine .inr ⟨j, ?_, hjk⟩
              have : j ≠ d := fun hjd => by subst hjd; omega
              omega
theorem mem_getD {l : List Int} {x : Int} : x ∈ l ↔ ∃ j, j < l.length ∧ l.getD j 0 = x := by
  constructor
  · intro h
    obtain ⟨j, hj, rfl⟩ := List.mem_iff_getElem.1 h
    exact ⟨j, hj, by simp [hj]⟩
  · rintro ⟨j, hj, rfl⟩; exact getD_mem hj
/-- what the extents of labels tell -/
theorem extT_fact {ts : List Ten} {ls : List Lst} {n : Nat} {x : List Int} (hv : tnB ts n = true) (h : extT ts ls n = some x) (k : Nat) (hk : k < 5) :
    (0 ≤ x.getD k 0 ↔ ∃ i, i < n ∧ (k : Int) ∈ (lstAt ls i).s) ∧ x.getD k 0 ≤ 60 ∧ (0 ≤ x.getD k 0 ∨ x.getD k 0 = -1) ∧ ∀ i, i < n → labB (lstAt ls i).s = true ∧ (lstAt ls i).s.length ≤ 4 := by
  induction n generalizing x with
  | zero =>
    unfold extT at h; cases h
    have e1 : (List.replicate 5 (-1 : Int)).getD k 0 = -1 := by rw [List.getD_eq_getElem?_getD, List.getElem?_replicate, if_pos hk]; rfl
    rw [e1]
    exact ⟨⟨fun h => by omega, fun ⟨i, hi, _⟩ => by omega⟩, by omega, .inr rfl, fun i hi => by omega⟩
  | succ n ih =>
    have hx5 := extT_len h
    rw [tnB_succ, Bool.and_eq_true] at hv
    unfold extT at h
    cases hp : extT ts ls n with
    | none => rw [hp] at h; cases h
    | some y =>
      rw [hp] at h
      simp only [Option.bind_some] at h
      have hy := extT_len hp
      obtain ⟨i1, i2, i3, i4⟩ := ih hv.1 hp
      split at h
      · rename_i hr
        unfold rowOk at hr
        rw [Bool.and_eq_true, decide_eq_true_eq] at hr
        have hsh := shapeB_in (tenB_in hv.2).1
        obtain ⟨f1, f2, f3⟩ := extIn_fact hy hr.2 hsh.2.1 (Nat.le_refl _) (by omega) h k hk
        refine ⟨?_, by omega, by omega, fun i hi => ?_⟩
        · rw [f1, i1]
          constructor
          · rintro (⟨i, hi, hm⟩ | ⟨j, hj, hjk⟩)
            · exact ⟨i, by omega, hm⟩
            · exact ⟨n, by omega, mem_getD.2 ⟨j, hj, hjk⟩⟩
          · rintro ⟨i, hi, hm⟩
            rcases Nat.lt_or_ge i n with h1 | h1
            · exact .inl ⟨i, h1, hm⟩
            · obtain rfl : i = n := by omega
              obtain ⟨j, hj, hjk⟩ := mem_getD.1 hm
              exact .inr ⟨j, hj, hjk⟩
        · rcases Nat.lt_or_ge i n with h1 | h1
          · exact i4 i h1
          · obtain rfl : i = n := by omega
            exact ⟨hr.2, by omega⟩
      · cases h
theorem tensB_in {ts : List Ten} {ls : List Lst} (h : tensB ts ls = true) : tnB ts ts.length = true ∧ 1 ≤ ts.length ∧ ts.length ≤ 3 ∧ ls.length = ts.length := by
  unfold tensB inB at h
  simp only [Bool.and_eq_true, decide_eq_true_eq] at h
  exact ⟨h.1, by omega, by omega, by omega⟩
theorem extA_in {ts : List Ten} {ls : List Lst} {x : List Int} (h : extA ts ls = some x) : tensB ts ls = true ∧ extT ts ls ts.length = some x := by
  unfold extA at h
  split at h
  · rename_i hc; exact ⟨hc, h⟩
  · cases h
/-- all that ExtentsOf tells -/
theorem extA_fact {ts : List Ten} {ls : List Lst} {x : List Int} (h : extA ts ls = some x) : x.length = 5 ∧ ls.length = ts.length ∧ 1 ≤ ts.length ∧ ts.length ≤ 3 ∧ (∀ i, i < ls.length → labB (lstAt ls i).s = true ∧ (lstAt ls i).s.length ≤ 4) ∧
    ∀ k, k < 5 → (0 ≤ x.getD k 0 ↔ ∃ i, i < ls.length ∧ (k : Int) ∈ (lstAt ls i).s) ∧ x.getD k 0 ≤ 60 ∧ (0 ≤ x.getD k 0 ∨ x.getD k 0 = -1) := by
  obtain ⟨hv, ht⟩ := extA_in h
  obtain ⟨g1, g2, g3, g4⟩ := tensB_in hv
  refine ⟨extT_len ht, g4, g2, g3, fun i hi => ?_, fun k hk => ?_⟩
  · exact (extT_fact g1 ht 0 (by omega)).2.2.2 i (by omega)
  · obtain ⟨f1, f2, f3, -⟩ := extT_fact g1 ht k hk
    rw [g4]; exact ⟨f1, f2, f3⟩
/-- the product of the extents of the first k labels -/
def costK (e ls : List Int) : Nat → Int
  | 0 => 1
  | k+1 => costK e ls k * e.getD (ls.getD k 0).toNat 0
def costL (e ls : List Int) : Int := costK e ls ls.length
theorem costK_app (e a : List Int) (x : Int) (k : Nat) (hk : k ≤ a.length) : costK e (a ++ [x]) k = costK e a k := by
  induction k with
  | zero => rfl
  | succ k ih =>
    unfold costK
    rw [ih (by omega), show (a ++ [x]).getD k 0 = a.getD k 0 by rw [List.getD_eq_getElem?_getD, List.getElem?_append_left (by omega), ← List.getD_eq_getElem?_getD]]
theorem costL_snoc (e a : List Int) (x : Int) : costL e (a ++ [x]) = costL e a * e.getD x.toNat 0 := by
  unfold costL
  rw [List.length_append, List.length_singleton]
  show costK e (a ++ [x]) a.length * e.getD ((a ++ [x]).getD a.length 0).toNat 0 = _
  rw [costK_app e a x _ (Nat.le_refl _)]
  simp
/-- the product of the first k extents, 1 for a label without one -/
def spK (e : List Int) : Nat → Int
  | 0 => 1
  | k+1 => spK e k * (if e.getD k 0 < 0 then 1 else e.getD k 0)
theorem lab5_succ (p : Nat → Bool) : lab5 p = ((List.range 5).filter p).map fun k : Nat => (k : Int) := rfl
def labN (p : Nat → Bool) (n : Nat) : List Int := ((List.range n).filter p).map fun k : Nat => (k : Int)
theorem labN_succ (p : Nat → Bool) (n : Nat) : labN p (n+1) = if p n then labN p n ++ [(n : Int)] else labN p n := by
  unfold labN
  rw [List.range_succ, List.filter_append]
  cases h : p n
  · rw [List.filter_cons_of_neg (by simp [h])]; simp
  · rw [List.filter_cons_of_pos (by simp [h])]; simp
theorem cost_sp (e : List Int) (n : Nat) : costL e (labN (fun k => decide (0 ≤ e.getD k 0)) n) = spK e n := by
  induction n with
  | zero => rfl
  | succ n ih =>
    rw [labN_succ]
    unfold spK
    by_cases h : 0 ≤ e.getD n 0
    · rw [decide_eq_true h, if_pos rfl, costL_snoc, ih, if_neg (by omega), Int.toNat_natCast]
    · rw [decide_eq_false h, if_neg (by simp), ih, if_pos (by omega), Int.mul_one]
theorem alL_used {ts : List Ten} {ls : List Lst} {x : List Int} (h : extA ts ls = some x) : alL ls = labN (fun k => decide (0 ≤ x.getD k 0)) 5 := by
  obtain ⟨h5, h1, h2, h3, h4, h6⟩ := extA_fact h
  obtain ⟨a1, a2⟩ := alL_spec ls
  refine lab5_of a1 fun y => ?_
  rw [a2]
  constructor
  · rintro ⟨i, hi, hm⟩
    have := labB_mem (h4 i hi).1 hm
    refine ⟨y.toNat, by omega, ?_, by omega⟩
    rw [decide_eq_true_eq, (h6 y.toNat (by omega)).1]
    exact ⟨i, hi, by rw [show ((y.toNat : Nat) : Int) = y by omega]; exact hm⟩
  · rintro ⟨k, hk, hp, rfl⟩
    rw [decide_eq_true_eq, (h6 k hk).1] at hp
    exact hp
theorem all_ext {ts : List Ten} {ls : List Lst} {x : List Int} (h : extA ts ls = some x) : ∀ y ∈ alL ls, 0 ≤ y ∧ y < x.length ∧ (0 ≤ x.getD y.toNat 0 ∧ x.getD y.toNat 0 ≤ 60) := by
  obtain ⟨h5, h1, h2, h3, h4, h6⟩ := extA_fact h
  rw [alL_used h]
  intro y hy
  obtain ⟨k, hk, hp, rfl⟩ := lab5_mem.1 hy
  rw [decide_eq_true_eq] at hp
  rw [Int.toNat_natCast]
  exact ⟨by omega, by omega, hp, (h6 k hk).2.1⟩
theorem labN_le (p : Nat → Bool) (n : Nat) : (labN p n).length ≤ n := by
  unfold labN; rw [List.length_map]; exact Nat.le_trans (List.length_filter_le _ _) (by simp)
theorem all_le {ts : List Ten} {ls : List Lst} {x : List Int} (h : extA ts ls = some x) : (alL ls).length ≤ 5 := by rw [alL_used h]; exact labN_le _ _
/-- CostOf -/
def cstA (ts : List Ten) (ls : List Lst) : Int := match extA ts ls with | none => -1 | some x => spK x 5
theorem cost_law {ts : List Ten} {ls : List Lst} {x : List Int} (h : extA ts ls = some x) : costL x (alL ls) = spK x 5 := by rw [alL_used h, cost_sp]
theorem cstA_some {ts : List Ten} {ls : List Lst} {x : List Int} (h : extA ts ls = some x) : cstA ts ls = spK x 5 := by unfold cstA; rw [h]
theorem cstA_none {ts : List Ten} {ls : List Lst} (h : extA ts ls = none) : cstA ts ls = -1 := by unfold cstA; rw [h]
theorem mul_bdT {a b : Int} {m : Nat} (h1 : 0 ≤ a) (h2 : a ≤ m) (h3 : 0 ≤ b) (h4 : b ≤ 60) : 0 ≤ a * b ∧ a * b ≤ (m * 60 : Nat) := by
  refine ⟨Int.mul_nonneg h1 h3, ?_⟩
  rw [Int.natCast_mul]
  exact Int.mul_le_mul h2 h4 h3 (by omega)
theorem spK_bd {x : List Int} (h : ∀ k, k < 5 → x.getD k 0 ≤ 60) (k : Nat) (hk : k ≤ 5) : 0 ≤ spK x k ∧ spK x k ≤ (60 ^ k : Nat) := by
  induction k with
  | zero => unfold spK; simp
  | succ k ih =>
    unfold spK
    have := ih (by omega)
    rw [Nat.pow_succ]
    have hx := h k (by omega)
    split
    · exact mul_bdT this.1 this.2 (by omega) (by omega)
    · exact mul_bdT this.1 this.2 (by omega) (by omega)
theorem pow60 (k : Nat) (hk : k ≤ 5) : 60 ^ k ≤ 777600000 := by
  calc 60 ^ k ≤ 60 ^ 5 := Nat.pow_le_pow_right (by omega) hk
    _ = 777600000 := by decide
/-- the partial products of extents of labels that have one -/
theorem costK_bd {e ls : List Int} (h : ∀ y ∈ ls, 0 ≤ e.getD y.toNat 0 ∧ e.getD y.toNat 0 ≤ 60) (k : Nat) (hk : k ≤ ls.length) : 0 ≤ costK e ls k ∧ costK e ls k ≤ (60 ^ k : Nat) := by
  induction k with
  | zero => unfold costK; simp
  | succ k ih =>
    unfold costK
    rw [Nat.pow_succ]
    have := ih (by omega)
    have hx := h _ (getD_mem (s := ls) (d := k) (by omega))
    exact mul_bdT this.1 this.2 hx.1 hx.2
end Go.Proofs.Ytpgkhjmboiepcaa

/- Walks: elements of a list at places. -/
namespace Go.Proofs.Ytpgkhjmboiepcaa
open Go.RowKit
set_option linter.unusedVariables false
set_option maxRecDepth 100000

/-- the elements of x at the places l -/
def pickA (x l : List Int) (k : Nat) : List Int := (l.take k).map fun y => x.getD y.toNat 0
theorem pickA_len (x l : List Int) (k : Nat) : (pickA x l k).length ≤ k := by unfold pickA; rw [List.length_map, List.length_take]; omega
theorem pickA_go {x l : List Int} {k q : Nat} {v : Int} (hk : k < l.length) (hq : l.getD k 0 = (q : Int)) (hv : x.getD q 0 = v) : pickA x l (k+1) = pickA x l k ++ [v] := by
  unfold pickA
  have e : l[k] = (q : Int) := by rw [← hq]; simp [hk]
  rw [List.take_succ_eq_append_getElem hk, List.map_append, e, List.map_cons, List.map_nil, Int.toNat_natCast, hv]
set_option maxHeartbeats 3200000 in
theorem specPick_c (x l : List Int) (u v : Value) (w : World) (l1 l2 : Nat) (h1 : Ints w l1 u x) (h2 : Ints w l2 v l) (hn : l.length ≤ 1000) (hx : Hid (∀ y ∈ l, 0 ≤ y ∧ y < x.length)) :
    Calls Try.prog 115 #[u, v] w (PInts w (pickA x l l.length)) := by
  obtain ⟨p0, c0, rfl⟩ := h1.form
  obtain ⟨p1, c1, rfl⟩ := h2.form
  have hl1 := h1.len
  go_enter Try.func115, Try.ntmps115
  go_wp2_with fail
  have BL2 : Ext w w := Ext.refl _
  have zG_BL2 := (BL2).size
  skip
  go_loopw [5, 6] (fun gv i wr => ∃ (k : Nat), k ≤ l.length ∧ i = .int .i64 k ∧ OwnI wr w.heap.size gv (pickA x l k) ∧ Ext w wr) (fun _ i _ => l.length - (intOf i).toNat)
  case atStart => exact ⟨0, Nat.zero_le _, rfl, (by rw [show pickA x l 0 = [] from rfl]; exact (OwnI.lit0 w w.heap.size (Nat.le_refl _))), qXt⟩
  case round =>
    obtain ⟨k, hk, rfl, OG, Lwr⟩ := hrel
    have Xwr : Ext w wr := Lwr
    have s_wr : w.heap.size ≤ wr.heap.size := Xwr.size
    have t_wr : w.heap.size ≤ wr.heap.size := Lwr.size
    have BL2_wr : Ext w wr := BL2.trans Lwr
    have Bwr : Ext w wr := Lwr
    obtain ⟨ga4, gc5, rfl⟩ := (OG.ints (by have := (show (pickA x l k).length ≤ 1000000 by have h7 := pickA_len x l k; omega); omega)).form
    have OG3 := OG
    clear OG
    by_cases hlt : k < l.length
    · have hkI : (k : Int) < l.length := by omega
      have hN_e8 : k < l.length := hlt
      have hI_e8 : (k : Int) < (l.length : Int) := by omega
      obtain ⟨bl6, ol7, rfl, e80⟩ := h2.at k hlt
      have y_e8 : bl6 < w.heap.size := qB e80
      replace e80 := Xwr.cell e80
      obtain ⟨v9, hv9⟩ : ∃ v, l.getD k 0 = v := ⟨_, rfl⟩
      rw [hv9] at e80
      replace hv9 := Lib.hid hv9
      have z_e8 : bl6 < wr.heap.size := qB e80
      obtain ⟨hy0, hy1⟩ := hx.out _ (getD_mem (s := l) (d := k) hlt)
      rw [hv9.out] at hy0 hy1
      obtain ⟨q7, rfl⟩ : ∃ q : Nat, v9 = (q : Int) := ⟨v9.toNat, by omega⟩
      have hq7 := hv9
      have hqe : q7 < x.length := by omega
      have hw7 : IntKind.i64.wrap (q7 : Int) = (q7 : Int) := IntWalk.i64_in _ (by omega)
      have hN_e12 : q7 < x.length := hqe
      have hI_e12 : (q7 : Int) < (x.length : Int) := by omega
      obtain ⟨bl10, ol11, rfl, e120⟩ := h1.at q7 hqe
      have y_e12 : bl10 < w.heap.size := qB e120
      replace e120 := Xwr.cell e120
      obtain ⟨v13, hv13⟩ : ∃ v, x.getD q7 0 = v := ⟨_, rfl⟩
      rw [hv13] at e120
      replace hv13 := Lib.hid hv13
      have z_e12 : bl10 < wr.heap.size := qB e120
      have zGB := (Bwr).size
      have EE : Ext wr ((wr).alloc (.cells #[.int .i64 v13] 3)) := qXt
      have SS : Ints ((wr).alloc (.cells #[.int .i64 v13] 3)) 0 (.slice (some ⟨wr.heap.size, 0, none⟩) 1 1) [v13] := by simpa using Ints.one (wr) 0 v13 (Nat.zero_le _)
      go_wp2_with (
        at_builtin
        refine wpList_app rfl (.tmp 14) (.tmp 22) rfl rfl rfl (by exact OG3.ext EE) (by exact SS) (by have := (show (pickA x l k).length ≤ 1000000 by have h7 := pickA_len x l k; omega); first | omega | (simp only [List.length_append, List.length_cons, List.length_nil]; omega)) qSo ?_
        intro vw1 w1 ho hg7 hbl hv7
        clear hg7 hv7
        obtain ⟨ga14, rr15, rfl⟩ : ∃ a c, vw1 = .slice a ((pickA x l k).length + 1) c := by obtain ⟨a, c, h⟩ := (ho.ints (by simp only [List.length_append, List.length_cons, List.length_nil]; have := (show (pickA x l k).length ≤ 1000000 by have h7 := pickA_len x l k; omega); omega)).form; exact ⟨a, c, by rw [h, List.length_append]; rfl⟩
        have Xw1 : Ext w w1 := Ext.below (Xwr.trans EE) hbl (by omega)
        have BL2_w1 : Ext w w1 := Ext.below (Ext.trans BL2_wr EE) hbl (by omega)
        have Bwr_w1 : Ext w w1 := Ext.below (Ext.trans Bwr EE) hbl (by omega)
        clear e80
        clear e120
        clear OG3
        have OG3 := ho
        clear ho hbl EE SS zGB
        have s_w1 : w.heap.size ≤ w1.heap.size := Xw1.size)
      go_wp2_with fail
      go_roundw
      case rel => exact ⟨k + 1, by omega, by go_num, (by rw [show pickA x l (k+1) = pickA x l k ++ [v13] from pickA_go hlt hq7.out hv13.out]; exact OG3.ext qXt), (Bwr_w1.trans qXt)⟩
      case measure => simp [intOf]; omega
    · obtain rfl : k = l.length := by omega
      have hkI : ¬ (l.length : Int) < l.length := by omega
      go_wp2_with fail
      go_ret
      exact PInts.mk OG3 (by omega) (by have h7 := pickA_len x l l.length; omega) (Xwr.trans qXt)


end Go.Proofs.Ytpgkhjmboiepcaa

/- Walks: tensors, labels and labels of a result are drawn. -/
namespace Go.Proofs.Ytpgkhjmboiepcaa
open Go.RowKit
set_option linter.unusedVariables false
set_option maxRecDepth 100000

/-- tensors, lists of labels and labels are drawn -/
def PProd (rb q : Nat) (w : World) (e : Ending) (w' : World) : Prop := ∃ (ts : List Ten) (ls : List Lst) (out : List Int) (p0 p1 p2 : Option Addr) (c0 c1 c2 : Nat), e = .returned (.tuple #[.slice p0 ts.length c0, .slice p1 ls.length c1, .slice p2 out.length c2]) ∧
 Tens w' w.heap.size (.slice p0 ts.length c0) ts ∧ Lsts w' w.heap.size (.slice p1 ls.length c1) ls ∧ Ints w' w.heap.size (.slice p2 out.length c2) out ∧ out.length ≤ 1000 ∧ Rd w' rb q ∧ Chg rb (rb + 1) w w'
theorem pickA_snoc {E l : List Int} {q : Nat} {v : Int} (hv : E.getD q 0 = v) : pickA E (l ++ [(q : Int)]) (l ++ [(q : Int)]).length = pickA E l l.length ++ [v] := by
 unfold pickA
 rw [List.take_length, List.take_length, List.map_append, List.map_cons, List.map_nil, Int.toNat_natCast, hv]
theorem wrap_64 (x : Int) : IntKind.i64.wrap x = wrap64 x := by unfold wrap64 IntKind.wrap; simp only [IntKind.signed, IntKind.bits]; simp; omega
theorem pick_nil (E : List Int) : countL (pickA E [] ([] : List Int).length) ≤ 24 := by show countL [] ≤ 24; decide
theorem in_snoc {E l : List Int} {q : Nat} (h : ∀ y ∈ l, 0 ≤ y ∧ y < E.length) (hq : q < E.length) : ∀ y ∈ l ++ [(q : Int)], 0 ≤ y ∧ y < E.length := by
 intro y hy
 rcases List.mem_append.1 hy with h1 | h1
 ·
  exact h y h1
 ·
  simp only [List.mem_singleton] at h1; subst h1; omega
theorem in_ins {E l : List Int} {q n : Nat} (h : ∀ y ∈ l, 0 ≤ y ∧ y < E.length) (hq : q < E.length) : ∀ y ∈ l.take n ++ [(q : Int)] ++ l.drop n, 0 ≤ y ∧ y < E.length := by
 intro y hy
 rcases List.mem_append.1 hy with h1 | h1
 ·
  rcases List.mem_append.1 h1 with h1 | h1
  ·
   exact h y (List.mem_of_mem_take h1)
  ·
   simp only [List.mem_singleton] at h1; subst h1; omega
 ·
  exact h y (List.mem_of_mem_drop h1)
set_option maxHeartbeats 12800000 in
theorem productOf_c (rb k many : Nat) (w : World) (hr : Rd w rb k) (hk : k ≤ 500000) (hm1 : 1 ≤ many) (hm3 : many ≤ 3) :
  Calls Try.prog 98 #[.pointer (some ⟨rb, 0, none⟩), .int .i64 (many : Int)] w (PProd rb (k + 400) w) := by
 have hlt := hr.lt
 go_enter Try.func98, Try.ntmps98
 go_wp2_with fail
 refine (oneLit_c #[.int .i64 2, .int .i64 3, .int .i64 1] 3 _ _ _ _ hr (by omega) (by rfl) (by rfl) (by constructor <;> simp) (by first | rfl | omega | simp)).mono ?_
 rintro e w1 ⟨a, rfl, ha, Rw1, Cw1⟩
 have Ew1 : Ext w (w.alloc (.cells #[.int .i64 2, .int .i64 3, .int .i64 1] 3)) := qXt
 have e_w1 := Ew1.size
 have zc_w1 := Cw1.size
 have Xw1 : Rch rb w w1 := Rch.step (Rch.ext (Rch.refl rb w) Ew1) Cw1
 have s_w1 : w.heap.size ≤ w1.heap.size := Xw1.size
 clear hr Cw1 Ew1
 clear ha
 go_wp2_with fail
 refine (oneLit_c #[.int .i64 3, .int .i64 2, .int .i64 4] 3 _ _ _ _ Rw1 (by omega) (by rfl) (by rfl) (by constructor <;> simp) (by first | rfl | omega | simp)).mono ?_
 rintro e w2 ⟨b, rfl, hb, Rw2, Cw2⟩
 have Ew2 : Ext w1 (w1.alloc (.cells #[.int .i64 3, .int .i64 2, .int .i64 4] 3)) := qXt
 have e_w2 := Ew2.size
 have zc_w2 := Cw2.size
 have Xw2 : Rch rb w w2 := Rch.step (Rch.ext Xw1 Ew2) Cw2
 have s_w2 : w.heap.size ≤ w2.heap.size := Xw2.size
 clear Rw1 Cw2 Ew2
 clear hb
 go_wp2_with fail
 refine (oneLit_c #[.int .i64 2, .int .i64 1, .int .i64 0] 3 _ _ _ _ Rw2 (by omega) (by rfl) (by rfl) (by constructor <;> simp) (by first | rfl | omega | simp)).mono ?_
 rintro e w3 ⟨c, rfl, hc, Rw3, Cw3⟩
 have Ew3 : Ext w2 (w2.alloc (.cells #[.int .i64 2, .int .i64 1, .int .i64 0] 3)) := qXt
 have e_w3 := Ew3.size
 have zc_w3 := Cw3.size
 have Xw3 : Rch rb w w3 := Rch.step (Rch.ext Xw2 Ew3) Cw3
 have s_w3 : w.heap.size ≤ w3.heap.size := Xw3.size
 clear Rw2 Cw3 Ew3
 clear hc
 go_wp2_with fail
 refine (oneLit_c #[.int .i64 2, .int .i64 3] 2 _ _ _ _ Rw3 (by omega) (by rfl) (by rfl) (by constructor <;> simp) (by first | rfl | omega | simp)).mono ?_
 rintro e w4 ⟨d, rfl, hd, Rw4, Cw4⟩
 have Ew4 : Ext w3 (w3.alloc (.cells #[.int .i64 2, .int .i64 3] 3)) := qXt
 have e_w4 := Ew4.size
 have zc_w4 := Cw4.size
 have Xw4 : Rch rb w w4 := Rch.step (Rch.ext Xw3 Ew4) Cw4
 have s_w4 : w.heap.size ≤ w4.heap.size := Xw4.size
 clear Rw3 Cw4 Ew4
 clear hd
 have hE : Ints ((((w4.alloc (.cells #[.int .i64 a, .int .i64 b, .int .i64 c, .int .i64 d, .int .i64 2] 3)).alloc (.cells #[] 29)).alloc (.cells #[] 23)).alloc (.cells #[] 3)) w4.heap.size (.slice (some ⟨w4.heap.size, 0, none⟩) 5 5) [a, b, c, d, 2] := (Ints.litB (w := w4) (cs := #[.int .i64 a, .int .i64 b, .int .i64 c, .int .i64 d, .int .i64 2]) (n := 5) rfl rfl (by show 5 ≤ 100; omega) rfl).ext (show Ext (w4.alloc (.cells #[.int .i64 a, .int .i64 b, .int .i64 c, .int .i64 d, .int .i64 2] 3)) ((((w4.alloc (.cells #[.int .i64 a, .int .i64 b, .int .i64 c, .int .i64 d, .int .i64 2] 3)).alloc (.cells #[] 29)).alloc (.cells #[] 23)).alloc (.cells #[] 3)) from (((Ext.refl _).alloc _).alloc _).alloc _)
 have hz4 : ((((w4.alloc (.cells #[.int .i64 a, .int .i64 b, .int .i64 c, .int .i64 d, .int .i64 2] 3)).alloc (.cells #[] 29)).alloc (.cells #[] 23)).alloc (.cells #[] 3)).heap.size = w4.heap.size + 4 := by simp
 have o1 : OwnC ((w4.alloc (.cells #[.int .i64 a, .int .i64 b, .int .i64 c, .int .i64 d, .int .i64 2] 3)).alloc (.cells #[] 29)) (w4.heap.size + 1) 29 2 (.slice (some ⟨w4.heap.size + 1, 0, none⟩) 0 0) [] := by simpa using OwnC.litM (w4.alloc (.cells #[.int .i64 a, .int .i64 b, .int .i64 c, .int .i64 d, .int .i64 2] 3)) (w4.heap.size + 1) 29 2 (by simp)
 have o2 : OwnC (((w4.alloc (.cells #[.int .i64 a, .int .i64 b, .int .i64 c, .int .i64 d, .int .i64 2] 3)).alloc (.cells #[] 29)).alloc (.cells #[] 23)) (w4.heap.size + 1) 23 1 (.slice (some ⟨w4.heap.size + 2, 0, none⟩) 0 0) [] := by simpa using OwnC.litM ((w4.alloc (.cells #[.int .i64 a, .int .i64 b, .int .i64 c, .int .i64 d, .int .i64 2] 3)).alloc (.cells #[] 29)) (w4.heap.size + 1) 23 1 (by simp)
 have o3 : OwnI ((((w4.alloc (.cells #[.int .i64 a, .int .i64 b, .int .i64 c, .int .i64 d, .int .i64 2] 3)).alloc (.cells #[] 29)).alloc (.cells #[] 23)).alloc (.cells #[] 3)) (w4.heap.size + 1) (.slice (some ⟨w4.heap.size + 3, 0, none⟩) 0 0) [] := by simpa using OwnI.lit0 (((w4.alloc (.cells #[.int .i64 a, .int .i64 b, .int .i64 c, .int .i64 d, .int .i64 2] 3)).alloc (.cells #[] 29)).alloc (.cells #[] 23)) (w4.heap.size + 1) (by simp)
 have hT := Trio.made ((((w4.alloc (.cells #[.int .i64 a, .int .i64 b, .int .i64 c, .int .i64 d, .int .i64 2] 3)).alloc (.cells #[] 29)).alloc (.cells #[] 23)).alloc (.cells #[] 3)) (w4.heap.size + 1) (w4.heap.size + 1) (w4.heap.size + 2) (w4.heap.size + 3) rb (o1.ext (show Ext ((w4.alloc (.cells #[.int .i64 a, .int .i64 b, .int .i64 c, .int .i64 d, .int .i64 2] 3)).alloc (.cells #[] 29)) ((((w4.alloc (.cells #[.int .i64 a, .int .i64 b, .int .i64 c, .int .i64 d, .int .i64 2] 3)).alloc (.cells #[] 29)).alloc (.cells #[] 23)).alloc (.cells #[] 3)) from ((Ext.refl _).alloc _).alloc _)) (o2.ext (show Ext (((w4.alloc (.cells #[.int .i64 a, .int .i64 b, .int .i64 c, .int .i64 d, .int .i64 2] 3)).alloc (.cells #[] 29)).alloc (.cells #[] 23)) ((((w4.alloc (.cells #[.int .i64 a, .int .i64 b, .int .i64 c, .int .i64 d, .int .i64 2] 3)).alloc (.cells #[] 29)).alloc (.cells #[] 23)).alloc (.cells #[] 3)) from (Ext.refl _).alloc _)) o3 (by omega) (by omega)
 clear o1 o2 o3
 go_wp2_with fail
 generalize hW1 : (((w4.alloc (.cells #[.int .i64 a, .int .i64 b, .int .i64 c, .int .i64 d, .int .i64 2] 3)).alloc (.cells #[] 29)).alloc (.cells #[] 23)).alloc (.cells #[] 3) = w5 at *
 have Lw5 : Ext w4 w5 := by subst hW1; exact qXt
 have Xw5 : Rch rb w w5 := Rch.ext Xw4 Lw5
 replace Rw4 := Rw4.ext Lw5
 have s_w5 : w.heap.size ≤ w5.heap.size := Xw5.size
 clear hW1
 generalize hge : w4.heap.size = ge at *
 replace hge := Lib.hid hge
 have hrg : rb < ge := by omega
 have hwg : w.heap.size ≤ ge := by omega
 obtain ⟨E, hEE⟩ : ∃ E, [a, b, c, d, 2] = E := ⟨_, rfl⟩
 rw [hEE] at hE
 have h5 : 5 ≤ E.length ∧ E.length ≤ 5 := by rw [← hEE]; exact ⟨Nat.le_refl _, Nat.le_refl _⟩
 clear hEE
 go_loopw [8, 9, 10, 11] (fun v1 v2 v3 i wr => ∃ (q j hi bt bl ba b0 : Nat) (ts : List Ten) (ls : List Lst) (al : List Int) (RT RL : Nat → Value) (tv lv av : Value), tv = v1 ∧ lv = v2 ∧ av = v3 ∧ i = .int .i64 (j : Int) ∧ j ≤ many ∧ Hid (ts.length = j ∧ ls.length = j) ∧ al.length ≤ 3 * j ∧ q ≤ k + 4 + 80 * j ∧ Ints wr ge (.slice (some ⟨ge, 0, none⟩) 5 5) E ∧ Trio wr (ge + 1) hi tv lv av ts ls al RT RL bt bl ba b0 ∧ Rd wr rb q ∧ Rch rb w wr) (fun _ _ _ i _ => many - (intOf i).toNat)
 case atStart => exact ⟨k + 4, 0, _, _, _, _, _, [], [], [], _, _, _, _, _, rfl, rfl, rfl, rfl, Nat.zero_le _, Lib.hid ⟨rfl, rfl⟩, by simp, by omega, hE, hT, Rw4, Xw5⟩
 case round =>
  clear hE hT Rw4 Xw5 hz4
  obtain ⟨q, j, hi, bt, bl, ba, b0, ts, ls, al, RT, RL, tv, lv, av, rfl, rfl, rfl, rfl, hj, hlen, hal, hq, hE, hT, hr, X⟩ := hrel
  have s_wr := X.size
  have hbt := (hT.ot.blkM bt hT.et).1
  have hbl := (hT.ol.blkM bl hT.el).1
  have hba := (hT.oa.blkM ba hT.ea).1
  have hln := hT.lt
  have htl3 : ts.length ≤ 3 ∧ ls.length ≤ 3 := by have := hlen.out; omega
  obtain ⟨ct, rfl⟩ := hT.tform
  obtain ⟨cl, rfl⟩ := hT.lform
  obtain ⟨ca, rfl⟩ := hT.aform
  by_cases hjm : j < many
  ·
   have hjI : (j : Int) < (many : Int) := by omega
   go_wp2_with fail
   generalize hW2 : wr.alloc (.cells #[] 3) = w6 at *
   have hzl : w6.heap.size = wr.heap.size + 1 := by subst hW2; simp
   have OL : OwnI w6 wr.heap.size (.slice (some ⟨wr.heap.size, 0, none⟩) 0 0) [] := by subst hW2; exact OwnI.lit0 wr wr.heap.size (Nat.le_refl _)
   have Lw6 : Ext wr w6 := by subst hW2; exact qXt
   have Xw6 : Rch rb w w6 := Rch.ext X Lw6
   replace hr := hr.ext Lw6
   replace hE := hE.ext Lw6
   replace hT := hT.ext Lw6
   have s_w6 : w.heap.size ≤ w6.heap.size := Xw6.size
   clear hW2
   generalize hgl7 : wr.heap.size = gl at *
   replace hgl7 := Lib.hid hgl7
   go_wp2_with fail
   refine (oneLit_c #[.int .i64 2, .int .i64 1, .int .i64 2, .int .i64 3, .int .i64 0] 5 _ _ _ _ hr (by omega) (by rfl) (by rfl) (by constructor <;> simp) (by first | rfl | omega | simp)).mono ?_
   rintro e w7 ⟨n, rfl, hn, Rw7, Cw7⟩
   have Ew7 : Ext w6 (w6.alloc (.cells #[.int .i64 2, .int .i64 1, .int .i64 2, .int .i64 3, .int .i64 0] 3)) := qXt
   have e_w7 := Ew7.size
   have zc_w7 := Cw7.size
   have Xw7 : Rch rb w w7 := Rch.step (Rch.ext Xw6 Ew7) Cw7
   replace hE := (hE.ext Ew7).chgN Cw7 (by omega)
   replace hT := (hT.ext Ew7).chgN Cw7 (by omega)
   replace OL := (OL.ext Ew7).chgN Cw7 (by omega)
   have s_w7 : w.heap.size ≤ w7.heap.size := Xw7.size
   clear hr Cw7 Ew7
   replace hn : 0 ≤ n ∧ n ≤ 3 := by simp [litL] at hn; omega
   obtain ⟨m, rfl⟩ : ∃ m : Nat, n = m := ⟨n.toNat, by omega⟩
   replace hn : m ≤ 3 := by omega
   obtain ⟨q1, hq1⟩ : ∃ q1, q + 1 = q1 := ⟨_, rfl⟩
   rw [hq1] at Rw7
   replace hq1 : q1 ≤ k + 5 + 80 * j := by omega
   go_wp2_with fail
   go_loopw [12, 13] (fun v i wr => ∃ (p m g c : Nat) (l : List Int), i = .int .i64 (m : Int) ∧ v = .slice (some ⟨g, 0, none⟩) l.length c ∧ gl ≤ g ∧ l.length + m ≤ 3 ∧ p + m ≤ q1 + 3 ∧ Hid (∀ y ∈ l, 0 ≤ y ∧ y < E.length) ∧ Hid (countL (pickA E l l.length) ≤ 24) ∧ OwnI wr gl (.slice (some ⟨g, 0, none⟩) l.length c) l ∧ Ints wr ge (.slice (some ⟨ge, 0, none⟩) 5 5) E ∧ Trio wr (ge + 1) hi (.slice (some ⟨bt, 0, none⟩) ts.length ct) (.slice (some ⟨bl, 0, none⟩) ls.length cl) (.slice (some ⟨ba, 0, none⟩) al.length ca) ts ls al RT RL bt bl ba b0 ∧ Rd wr rb p ∧ Rch rb w wr) (fun _ i _ => (intOf i).toNat)
   case atStart => exact ⟨q1, m, gl, 0, [], rfl, rfl, Nat.le_refl _, by simp; omega, by omega, Lib.hid (fun y h => absurd h (by simp)), Lib.hid (pick_nil E), OL, hE, hT, Rw7, Xw7⟩
   case round =>
    clear hE hT OL Rw7 Xw7
    obtain ⟨p, m, g, c, l, rfl, rfl, hg, hlm, hp, hmem, hcnt, OL, hE, hT, hr, X⟩ := hrel
    have s_wr := X.size
    have hgw := (World.ownsRow.lt OL g rfl).2
    by_cases hm0 : 0 < m
    ·
     have hmI : (0 : Int) < (m : Int) := by omega
     have hw1 : IntKind.i64.wrap ((m : Int) - 1) = (m : Int) - 1 := IntWalk.i64_in _ (by omega)
     go_wp2_with fail
     refine (pick1_c 5 _ _ _ hr (by omega) (by omega)).mono ?_
     rintro e w8 ⟨y, rfl, hy, Rw8, Cw8⟩
     have zc_w8 := Cw8.size
     have Xw8 : Rch rb w w8 := Rch.step (X) Cw8
     replace hE := hE.chgN Cw8 (by omega)
     replace hT := hT.chgN Cw8 (by omega)
     replace OL := OL.chgN Cw8 (by omega)
     have s_w8 : w.heap.size ≤ w8.heap.size := Xw8.size
     clear hr Cw8
     obtain ⟨kq, rfl⟩ : ∃ kq : Nat, y = kq := ⟨y.toNat, by omega⟩
     replace hy : kq < 5 := by omega
     have hyI : (kq : Int) < 5 := by omega
     have e0 := hE.atz kq hy
     obtain ⟨v, hv⟩ : ∃ v, E.getD kq 0 = v := ⟨_, rfl⟩
     rw [hv] at e0
     replace hv := Lib.hid hv
     have z_e : ge < w8.heap.size := qB e0
     go_wp2_with fail
     refine wp_region_tail (S := fun w' => w'.cell? ⟨ge, kq, none⟩ = some (.int .i64 v)) (fun i => decide (10 ≤ i)) qKr e0 (fun hHeld => ?_)
     refine qTk (v := ?_) 0 rfl (.inl ⟨by rfl, ?_⟩) ?_
     rotate_left
     ·
      (intro w hSw; (try dsimp only at hSw); go_simp; try with_reducible rfl)
     try simp only [Act.put, qa, qb, qc, qD, qE, qF]
     refine qTk (v := ?_) 1 rfl (.inl ⟨by rfl, ?_⟩) ?_
     rotate_left
     ·
      (intro w hSw; (try dsimp only at hSw); go_simp; try with_reducible rfl)
     try simp only [Act.put, qa, qb, qc, qD, qE, qF]
     refine qTk (v := ?_) 4 rfl (.inl ⟨by rfl, ?_⟩) ?_
     rotate_left
     ·
      (intro w hSw; (try dsimp only at hSw); go_simp; try with_reducible rfl)
     try simp only [Act.put, qa, qb, qc, qD, qE, qF]
     refine qTk (v := ?_) 5 rfl (.inl ⟨by rfl, ?_⟩) ?_
     rotate_left
     ·
      (intro w hSw; (try dsimp only at hSw); go_simp; try with_reducible rfl)
     try simp only [Act.put, qa, qb, qc, qD, qE, qF]
     refine qTk (v := ?_) 6 rfl (.inl ⟨by rfl, ?_⟩) ?_
     rotate_left
     ·
      (intro w hSw; (try dsimp only at hSw); go_simp; try with_reducible rfl)
     try simp only [Act.put, qa, qb, qc, qD, qE, qF]
     refine qTk (v := ?_) 7 rfl (.inl ⟨by rfl, ?_⟩) ?_
     rotate_left
     ·
      (intro w hSw; (try dsimp only at hSw); go_simp; try with_reducible rfl)
     try simp only [Act.put, qa, qb, qc, qD, qE, qF]
     refine wpTail_one (i := 2) qKr rfl rfl (fun K hK => ?_)
     try simp only [Act.put, qa, qb, qc, qD, qE, qF]
     go_simp
     refine (specPick_c E l _ _ _ _ _ (hE.ext qXt) ((OL.ints (by omega)).ext qXt) (by omega) hmem).mono ?_
     rintro e w9 ⟨sv, rfl, iS, -, xw9⟩
     have Lw9 : Ext w8 w9 := Ext.trans qXt xw9
     have Xw9 : Rch rb w w9 := Rch.ext Xw8 Lw9
     replace Rw8 := Rw8.ext Lw9
     replace e0 := Lw9.cell e0
     have z_e : ge < w9.heap.size := qB e0
     replace hE := hE.ext Lw9
     replace hT := hT.ext Lw9
     replace OL := OL.ext Lw9
     have s_w9 : w.heap.size ≤ w9.heap.size := Xw9.size
     clear xw9
     obtain ⟨N, hN⟩ : ∃ N, countL (pickA E l l.length) = N := ⟨_, rfl⟩
     refine hK.out _ _ e0 (fun hHeld => ?_)
     clear hK K
     try simp only [Act.put, qa, qb, qc, qD, qE, qF]
     refine wpTail_one (i := 3) qKr rfl rfl (fun K hK => ?_)
     try simp only [Act.put, qa, qb, qc, qD, qE, qF]
     go_simp
     refine (countX_c _ _ _ _ (iS.ext qXt)).mono ?_
     rintro e w10 ⟨rfl, xw10⟩
     have Lw10 : Ext w9 w10 := Ext.trans qXt xw10
     have Xw10 : Rch rb w w10 := Rch.ext Xw9 Lw10
     replace Rw8 := Rw8.ext Lw10
     replace e0 := Lw10.cell e0
     have z_e : ge < w10.heap.size := qB e0
     replace hE := hE.ext Lw10
     replace hT := hT.ext Lw10
     replace OL := OL.ext Lw10
     have s_w10 : w.heap.size ≤ w10.heap.size := Xw10.size
     clear xw10
     rw [hN]
     clear iS
     refine hK.out _ _ e0 (fun hHeld => ?_)
     clear hK K
     try simp only [Act.put, qa, qb, qc, qD, qE, qF]
     refine qTk (v := ?_) 8 rfl (.inl ⟨by rfl, ?_⟩) ?_
     rotate_left
     ·
      (intro w hSw; (try dsimp only at hSw); go_simp; try with_reducible rfl)
     try simp only [Act.put, qa, qb, qc, qD, qE, qF]
     refine qTk (v := ?_) 9 rfl (.inl ⟨by rfl, ?_⟩) ?_
     rotate_left
     ·
      (intro w hSw; (try dsimp only at hSw); go_simp; try with_reducible rfl)
     try simp only [Act.put, qa, qb, qc, qD, qE, qF]
     refine wpTail_done qKr ?_ _
     clear hHeld
     by_cases hle : IntKind.i64.wrap (N * v) ≤ 24
     ·
      have hcn : Hid (countL (pickA E (l ++ [(kq : Int)]) (l ++ [(kq : Int)]).length) ≤ 24) := Lib.hid (by rw [pickA_snoc hv.out, countL_snocG, hN, ← wrap_64]; exact hle)
      have hmn : Hid (∀ y ∈ l ++ [(kq : Int)], 0 ≤ y ∧ y < E.length) := Lib.hid (in_snoc hmem.out (by omega))
      clear hN hcnt hmem
      have hgw2 := (World.ownsRow.lt OL g rfl).2
      go_wp2_with (
       at_builtin
       refine wpList_app rfl (.tmp 58) (.tmp 60) rfl rfl rfl (OL.ext ((Ext.refl _).alloc _)) (Ints.one _ 0 _ (Nat.zero_le _)) (by simp <;> omega) (by simp <;> omega) ?_
       intro vw11 w11 ho hgr hbl hvb
       obtain ⟨gw11, nw11, cw11, rfl, hnw11, Gw11, Gw11'⟩ := ho.row2 (by simp)
       have Bw11 := own_or hvb
       simp only [World.size_alloc] at Bw11
       have Kw11 : Chg (g) (g + 1) w10 w11 := chg_grown hgr
       have Xw11 : Rch rb w w11 := Rch.below' Xw10 Kw11 (by omega)
       replace Rw8 := Rw8.chgO Kw11 (by omega)
       replace e0 := Kw11.cell (by omega) e0
       have z_e : ge < w11.heap.size := qB e0
       replace hE := hE.chgN Kw11 (by omega)
       replace hT := hT.chgN Kw11 (by omega)
       clear OL
       have OL := ho
       have s_w11 : w.heap.size ≤ w11.heap.size := Xw11.size
       clear ho hgr hbl hvb Kw11)
      obtain ⟨u2, z2, e2⟩ := (OL.ints (by simp; omega)).form
      injection e2 with e2a e2b e2c
      subst e2b
      clear e2a e2c
      go_wp2_with fail
      go_roundw
      case rel => exact ⟨p + 1, m - 1, gw11, cw11, l ++ [(kq : Int)], by first | rfl | go_num, rfl, by omega, by simp; omega, by omega, hmn, hcn, OL, hE, hT, Rw8, Xw11⟩
      case measure => simp [intOf]; omega
     ·
      go_wp2_with fail
      go_roundw
      case rel => exact ⟨p + 1, m - 1, g, c, l, by first | rfl | go_num, rfl, by omega, by omega, by omega, hmem, hcnt, OL, hE, hT, Rw8, Xw10⟩
      case measure => simp [intOf]; omega
    ·
     have hmI : ¬ (0 : Int) < (m : Int) := by omega
     clear hgw
     go_wp2_with fail
     refine (specPick_c E l _ _ _ _ _ (hE.ext qXt) ((OL.ints (by omega)).ext qXt) (by omega) hmem).mono ?_
     rintro e w8 ⟨sv, rfl, iS, -, xw8⟩
     have Lw8 : Ext wr w8 := Ext.trans qXt xw8
     have Xw8 : Rch rb w w8 := Rch.ext X Lw8
     replace hr := hr.ext Lw8
     replace hE := hE.ext Lw8
     replace hT := hT.ext Lw8
     replace OL := OL.ext Lw8
     have s_w8 : w.heap.size ≤ w8.heap.size := Xw8.size
     clear xw8
     have hS3 : (pickA E l l.length).length ≤ 3 := by have := pickA_len E l l.length; omega
     replace hcnt : countL (pickA E l l.length) ≤ 60 := by have := hcnt.out; omega
     generalize pickA E l l.length = S at *
     clear hmem
     replace iS := Lib.hid iS
     have hgw := (World.ownsRow.lt OL g rfl).2
     go_wp2_with fail
     refine (tensorFor_c S _ rb _ _ _ hr (by omega) iS.out (by omega) hcnt).mono ?_
     rintro e w9 ⟨gu, ru, pv, cv, xs, mm, rfl, O1, hgu, OV, hx60, Rw9, Cw9⟩
     have zc_w9 := Cw9.size
     have Xw9 : Rch rb w w9 := Rch.step (Xw8) Cw9
     replace hE := hE.chgN Cw9 (by omega)
     replace hT := hT.chgN Cw9 (by omega)
     replace OL := OL.chgN Cw9 (by omega)
     have s_w9 : w.heap.size ≤ w9.heap.size := Xw9.size
     clear hr Cw9
     clear iS hcnt
     obtain ⟨hgu1, hgu2⟩ := hgu
     replace OV := OV.lower (base' := w8.heap.size) (by omega)
     obtain ⟨b1, hT1, hb1⟩ := hT.pre2 (g := g) (by have := hlen.out; omega) (by omega) (by omega)
     clear hT
     replace hb1 := Lib.hid hb1
     have hl1k : l.length ≤ 1000 := by omega
     have hS1k : S.length ≤ 1000 := by omega
     have hx1k : xs.length ≤ 1000 := by omega
     go_wp2_with (
      first
      | (
       at_builtin
       have EE : Ext w9 (w9.alloc (.cells #[.slice (some ⟨gu, 0, none⟩) S.length ru, .slice pv xs.length cv] 29)) := qXt
       have SS : SrcR (w9.alloc (.cells #[.slice (some ⟨gu, 0, none⟩) S.length ru, .slice pv xs.length cv] 29)) 2 (.slice (some ⟨w9.heap.size, 0, none⟩) 1 1) 1 [.slice (some ⟨gu, 0, none⟩) S.length ru, .slice pv xs.length cv] := src_one w9 _ rfl (by intro u hu; simp only [List.mem_cons, List.not_mem_nil, or_false] at hu; rcases hu with rfl | rfl <;> rfl)
       refine wpList_appC Try.underlying49 infoT rfl (by decide) rfl (.tmp 62) (.tmp 68) rfl rfl rfl (hT1.ot.ext EE) SS (by rw [rowCT_len]; omega) (by rw [rowCT_len]; omega) (by simp <;> omega) ?_
       intro vw10 w10 ho hgr hbl hvb
       obtain ⟨RT2, bt2, hbt2, hT2⟩ := Trio.pushT (x := ⟨S, xs⟩) (hT1.ext EE) (by omega) (by omega) (O1.ext EE) hS1k (OV.ext EE) hx1k ho hgr hvb
       simp only [World.size_alloc] at hbt2
       clear ho hbl hvb O1 OV hT1 EE SS
       have Kw10 : Chg bt (bt + 1) w9 w10 := chg_grown (g := bt) hgr
       have Xw10 : Rch rb w w10 := Rch.below' Xw9 Kw10 (by omega)
       replace Rw9 := Rw9.chgO Kw10 (by omega)
       replace hE := hE.chgN Kw10 (by omega)
       replace OL := OL.chgN Kw10 (by omega)
       have s_w10 := Xw10.size
       have t_w10 := Kw10.size
       clear Kw10
       clear hgr
       have hbB2 := (hT2.ot.blkM bt2 hT2.et).1
       have hg2 : g ≠ bt2 := by omega
       obtain ⟨ct2, rfl⟩ := hT2.tform
       )
      | (
       at_builtin
       have EE : Ext w10 (w10.alloc (.cells #[.slice (some ⟨g, 0, none⟩) l.length c] 23)) := qXt
       have SS : SrcR (w10.alloc (.cells #[.slice (some ⟨g, 0, none⟩) l.length c] 23)) 1 (.slice (some ⟨w10.heap.size, 0, none⟩) 1 1) 1 [.slice (some ⟨g, 0, none⟩) l.length c] := src_one w10 _ rfl (by intro u hu; simp only [List.mem_cons, List.not_mem_nil, or_false] at hu; rcases hu with rfl; rfl)
       refine wpList_appC Try.underlying50 infoL rfl (by decide) rfl (.tmp 70) (.tmp 72) rfl rfl rfl (hT2.ol.ext EE) SS (by rw [rowCL_len]; omega) (by rw [rowCL_len]; omega) (by simp <;> omega) ?_
       intro vw11 w11 ho hgr hbl hvb
       obtain ⟨RL2, bl2, hbl2, hT3⟩ := Trio.pushL (x := ⟨l⟩) (gl := g) (hT2.ext EE) (show ge + 1 ≤ gl by omega) (OL.ext EE) hl1k rfl (by omega) hb1.out ho hgr hvb
       simp only [World.size_alloc] at hbl2
       clear ho hbl hvb hT2 hb1 EE SS
       have Kw11 : Chg bl (bl + 1) w10 w11 := chg_grown (g := bl) hgr
       have Xw11 : Rch rb w w11 := Rch.below' Xw10 Kw11 (by omega)
       replace Rw9 := Rw9.chgO Kw11 (by omega)
       replace hE := hE.chgN Kw11 (by omega)
       replace OL := OL.chgN Kw11 (by omega)
       have s_w11 := Xw11.size
       have t_w11 := Kw11.size
       clear Kw11
       clear hgr
       have hbB3 := (hT3.ol.blkM bl2 hT3.el).1
       obtain ⟨cl2, rfl⟩ := hT3.lform
       )
      | (
       at_builtin
       have SS := OL.ints (by omega)
       refine wpList_app rfl (.tmp 74) (.tmp 75) rfl rfl rfl hT3.oa SS (by omega) (by omega) ?_
       intro vw12 w12 ho hgr hbl hvb
       obtain ⟨ba2, hba2, hT4⟩ := Trio.pushA hT3 ho hgr hvb
       clear ho hbl hvb hT3 SS
       have Kw12 : Chg ba (ba + 1) w11 w12 := grown_chg (g := ba) hgr
       have Xw12 : Rch rb w w12 := Rch.below' Xw11 Kw12 (by omega)
       replace Rw9 := Rw9.chgO Kw12 (by omega)
       replace hE := hE.chgN Kw12 (by omega)
       replace OL := OL.chgN Kw12 (by omega)
       have s_w12 := Xw12.size
       have t_w12 := Kw12.size
       clear Kw12
       clear hgr
       obtain ⟨ca2, rfl⟩ := hT4.aform
       ))
     go_roundw
     case rel => exact ⟨p + 70, j + 1, _, bt2, bl2, ba2, b1, ts ++ [⟨S, xs⟩], ls ++ [⟨l⟩], al ++ l, RT2, RL2, .slice (some ⟨bt2, 0, none⟩) (ts ++ [(⟨S, xs⟩ : Ten)]).length ct2, .slice (some ⟨bl2, 0, none⟩) (ls ++ [(⟨l⟩ : Lst)]).length cl2, .slice (some ⟨ba2, 0, none⟩) (al ++ l).length ca2, by simp, by simp, by simp, by go_num, by omega, Lib.hid (by have := hlen.out; simp; omega), by simp; omega, by omega, hE, hT4, Rw9, Xw12⟩
     case measure => simp [intOf]; omega
  ·
   have hjI : ¬ (j : Int) < (many : Int) := by omega
   obtain rfl : j = many := by omega
   go_wp2_with fail
   generalize hW3 : wr.alloc (.cells #[] 3) = w6 at *
   have hzl : w6.heap.size = wr.heap.size + 1 := by subst hW3; simp
   have OO : OwnI w6 wr.heap.size (.slice (some ⟨wr.heap.size, 0, none⟩) 0 0) [] := by subst hW3; exact OwnI.lit0 wr wr.heap.size (Nat.le_refl _)
   have Lw6 : Ext wr w6 := by subst hW3; exact qXt
   have Xw6 : Rch rb w w6 := Rch.ext X Lw6
   replace hr := hr.ext Lw6
   replace hE := hE.ext Lw6
   replace hT := hT.ext Lw6
   have s_w6 : w.heap.size ≤ w6.heap.size := Xw6.size
   clear hW3
   generalize hgl7 : wr.heap.size = go at *
   replace hgl7 := Lib.hid hgl7
   obtain ⟨q1, hq1⟩ : ∃ q1, q = q1 := ⟨_, rfl⟩
   rw [hq1] at hr
   replace hq1 : q1 ≤ k + 244 := by omega
   go_loopw [15, 16] (fun v i wr => ∃ (p j : Nat) (out : List Int), i = .int .i64 (j : Int) ∧ j ≤ 5 ∧ out.length ≤ j ∧ p ≤ q1 + 2 * j ∧ Hid (∀ y ∈ out, 0 ≤ y ∧ y < E.length) ∧ go < wr.heap.size ∧ OwnI wr go v out ∧ Ints wr ge (.slice (some ⟨ge, 0, none⟩) 5 5) E ∧ Trio wr (ge + 1) hi (.slice (some ⟨bt, 0, none⟩) ts.length ct) (.slice (some ⟨bl, 0, none⟩) ls.length cl) (.slice (some ⟨ba, 0, none⟩) al.length ca) ts ls al RT RL bt bl ba b0 ∧ Rd wr rb p ∧ Rch rb w wr) (fun _ i _ => 5 - (intOf i).toNat)
   case atStart => exact ⟨q1, 0, [], rfl, Nat.zero_le _, by simp, by omega, Lib.hid (fun y h => absurd h (by simp)), by omega, OO, hE, hT, hr, Xw6⟩
   case round =>
    clear hE hT OO hr Xw6
    obtain ⟨p, i, out, rfl, hi5, hol, hp, hmem, hgo, OO, hE, hT, hr, X⟩ := hrel
    have s_wr := X.size
    obtain ⟨po, co, rfl⟩ := (OO.ints (by omega)).form
    by_cases hlt5 : i < 5
    ·
     have hiI : (i : Int) < 5 := by omega
     have e0 := hE.atz i hlt5
     obtain ⟨v, hv⟩ : ∃ v, E.getD i 0 = v := ⟨_, rfl⟩
     rw [hv] at e0
     clear hv
     have z_e : ge < wr.heap.size := qB e0
     obtain ⟨hT0, hT0b⟩ : ∃ u : Unit, True := ⟨(), trivial⟩
     clear hT0b
     go_wp2_with fail
     refine wp_region_tail (S := fun w' => w'.cell? ⟨ge, i, none⟩ = some (.int .i64 v)) (fun i => decide (26 ≤ i)) qKr e0 (fun hHeld => ?_)
     refine qTk (v := ?_) 0 rfl (.inl ⟨by rfl, ?_⟩) ?_
     rotate_left
     ·
      (intro w hSw; (try dsimp only at hSw); go_simp; try with_reducible rfl)
     try simp only [Act.put, qa, qb, qc, qD, qE, qF]
     refine qTk (v := ?_) 1 rfl (.inl ⟨by rfl, ?_⟩) ?_
     rotate_left
     ·
      (intro w hSw; (try dsimp only at hSw); go_simp; try with_reducible rfl)
     try simp only [Act.put, qa, qb, qc, qD, qE, qF]
     refine wpTail_one (i := 2) qKr rfl rfl (fun K hK => ?_)
     try simp only [Act.put, qa, qb, qc, qD, qE, qF]
     go_simp
     refine (placeInX_c _ _ _ _ _ ((hT.oa.ints (by omega)).ext qXt)).mono ?_
     rintro e w7 ⟨pl, rfl, xw7⟩
     have Lw7 : Ext wr w7 := Ext.trans qXt xw7
     have Xw7 : Rch rb w w7 := Rch.ext X Lw7
     replace hr := hr.ext Lw7
     replace e0 := Lw7.cell e0
     have z_e : ge < w7.heap.size := qB e0
     replace hE := hE.ext Lw7
     replace hT := hT.ext Lw7
     replace OO := OO.ext Lw7
     have s_w7 : w.heap.size ≤ w7.heap.size := Xw7.size
     clear xw7
     have l_w7 := Lw7.size
     refine hK.out _ _ e0 (fun hHeld => ?_)
     clear hK K
     try simp only [Act.put, qa, qb, qc, qD, qE, qF]
     by_cases hpl : 0 ≤ pl
     ·
      have dpl : decide (0 ≤ pl) = true := decide_eq_true hpl
      refine qTk (v := ?_) 3 rfl (.inl ⟨by rfl, ?_⟩) ?_
      rotate_left
      ·
       (intro w hSw; (try dsimp only at hSw); go_simp; try with_reducible rfl)
      try simp only [Act.put, qa, qb, qc, qD, qE, qF]
      refine qTk (v := ?_) 4 rfl (.inl ⟨by rfl, ?_⟩) ?_
      rotate_left
      ·
       (intro w hSw; (try dsimp only at hSw); go_simp; try with_reducible rfl)
      try simp only [Act.put, qa, qb, qc, qD, qE, qF]
      refine qTk (v := ?_) 5 rfl (.inl ⟨by rfl, ?_⟩) ?_
      rotate_left
      ·
       (intro w hSw; (try dsimp only at hSw); go_simp; try with_reducible rfl)
      try simp only [Act.put, qa, qb, qc, qD, qE, qF]
      refine wpTail_one (i := 6) qKr rfl rfl (fun K hK => ?_)
      try simp only [Act.put, qa, qb, qc, qD, qE, qF]
      go_simp
      refine (pick1_c 2 _ _ _ hr (by omega) (by omega)).mono ?_
      rintro e w8 ⟨y, rfl, hy, Rw8, Cw8⟩
      have zc_w8 := Cw8.size
      have Xw8 : Rch rb w w8 := Rch.step (Xw7) Cw8
      replace e0 := Cw8.cell (by omega) e0
      have z_e : ge < w8.heap.size := qB e0
      replace hE := hE.chgN Cw8 (by omega)
      replace hT := hT.chgN Cw8 (by omega)
      replace OO := OO.chg Cw8 (by omega)
      have s_w8 : w.heap.size ≤ w8.heap.size := Xw8.size
      clear hr Cw8
      clear hy
      refine hK.out _ _ e0 (fun hHeld => ?_)
      clear hK K
      try simp only [Act.put, qa, qb, qc, qD, qE, qF]
      by_cases hy0 : y = 0
      ·
       subst hy0
       refine qTk (v := ?_) 7 rfl (.inl ⟨by rfl, ?_⟩) ?_
       rotate_left
       ·
        (intro w hSw; (try dsimp only at hSw); go_simp; try with_reducible rfl)
       try simp only [Act.put, qa, qb, qc, qD, qE, qF]
       refine qTk (v := ?_) 8 rfl (.inl ⟨by rfl, ?_⟩) ?_
       rotate_left
       ·
        (intro w hSw; (try dsimp only at hSw); go_simp; try with_reducible rfl)
       try simp only [Act.put, qa, qb, qc, qD, qE, qF]
       refine qTk (v := ?_) 9 rfl (.inl ⟨by rfl, ?_⟩) ?_
       rotate_left
       ·
        (intro w hSw; (try dsimp only at hSw); go_simp; try with_reducible rfl)
       try simp only [Act.put, qa, qb, qc, qD, qE, qF]
       refine qTk (v := ?_) 10 rfl (.inl ⟨by rfl, ?_⟩) ?_
       rotate_left
       ·
        (intro w hSw; (try dsimp only at hSw); go_simp; try with_reducible rfl)
       try simp only [Act.put, qa, qb, qc, qD, qE, qF]
       refine qTk (v := ?_) 11 rfl (.inl ⟨by rfl, ?_⟩) ?_
       rotate_left
       ·
        (intro w hSw; (try dsimp only at hSw); go_simp; try with_reducible rfl)
       try simp only [Act.put, qa, qb, qc, qD, qE, qF]
       refine qTk (v := ?_) 14 rfl (.inl ⟨by rfl, ?_⟩) ?_
       rotate_left
       ·
        (intro w hSw; (try dsimp only at hSw); go_simp; try with_reducible rfl)
       try simp only [Act.put, qa, qb, qc, qD, qE, qF]
       refine qTk (v := ?_) 15 rfl (.inl ⟨by rfl, ?_⟩) ?_
       rotate_left
       ·
        (intro w hSw; (try dsimp only at hSw); go_simp; try with_reducible rfl)
       try simp only [Act.put, qa, qb, qc, qD, qE, qF]
       refine qTk (v := ?_) 16 rfl (.inl ⟨by rfl, ?_⟩) ?_
       rotate_left
       ·
        (intro w hSw; (try dsimp only at hSw); go_simp; try with_reducible rfl)
       try simp only [Act.put, qa, qb, qc, qD, qE, qF]
       refine qTk (v := ?_) 17 rfl (.inl ⟨by rfl, ?_⟩) ?_
       rotate_left
       ·
        (intro w hSw; (try dsimp only at hSw); go_simp; try with_reducible rfl)
       try simp only [Act.put, qa, qb, qc, qD, qE, qF]
       refine wpTail_one (i := 12) qKr rfl rfl (fun K hK => ?_)
       try simp only [Act.put, qa, qb, qc, qD, qE, qF]
       go_simp
       refine (specPick_c E out _ _ _ _ _ (hE.ext qXt) ((OO.ints (by omega)).ext qXt) (by omega) hmem).mono ?_
       rintro e w9 ⟨sv, rfl, iS, -, xw9⟩
       have Lw9 : Ext w8 w9 := Ext.trans qXt xw9
       have Xw9 : Rch rb w w9 := Rch.ext Xw8 Lw9
       replace Rw8 := Rw8.ext Lw9
       replace e0 := Lw9.cell e0
       have z_e : ge < w9.heap.size := qB e0
       replace hE := hE.ext Lw9
       replace hT := hT.ext Lw9
       replace OO := OO.ext Lw9
       have s_w9 : w.heap.size ≤ w9.heap.size := Xw9.size
       clear xw9
       have l_w9 := Lw9.size
       refine hK.out _ _ e0 (fun hHeld => ?_)
       clear hK K
       try simp only [Act.put, qa, qb, qc, qD, qE, qF]
       refine wpTail_one (i := 13) qKr rfl rfl (fun K hK => ?_)
       try simp only [Act.put, qa, qb, qc, qD, qE, qF]
       go_simp
       refine (countX_c _ _ _ _ (iS.ext qXt)).mono ?_
       rintro e w10 ⟨rfl, xw10⟩
       have Lw10 : Ext w9 w10 := Ext.trans qXt xw10
       have Xw10 : Rch rb w w10 := Rch.ext Xw9 Lw10
       replace Rw8 := Rw8.ext Lw10
       replace e0 := Lw10.cell e0
       have z_e : ge < w10.heap.size := qB e0
       replace hE := hE.ext Lw10
       replace hT := hT.ext Lw10
       replace OO := OO.ext Lw10
       have s_w10 : w.heap.size ≤ w10.heap.size := Xw10.size
       clear xw10
       have l_w10 := Lw10.size
       generalize countL (pickA E out out.length) = N
       clear iS
       refine hK.out _ _ e0 (fun hHeld => ?_)
       clear hK K
       try simp only [Act.put, qa, qb, qc, qD, qE, qF]
       by_cases hc60 : IntKind.i64.wrap (N * v) ≤ 60
       ·
        have dc60 : decide (IntKind.i64.wrap (N * v) ≤ 60) = true := decide_eq_true hc60
        refine qTk (v := ?_) 18 rfl (.inl ⟨by rfl, ?_⟩) ?_
        rotate_left
        ·
         (intro w hSw; (try dsimp only at hSw); go_simp; try with_reducible rfl)
        try simp only [Act.put, qa, qb, qc, qD, qE, qF]
        refine qTk (v := ?_) 19 rfl (.inl ⟨by rfl, ?_⟩) ?_
        rotate_left
        ·
         (intro w hSw; (try dsimp only at hSw); go_simp; try with_reducible rfl)
        try simp only [Act.put, qa, qb, qc, qD, qE, qF]
        refine qTk (v := ?_) 20 rfl (.inl ⟨by rfl, ?_⟩) ?_
        rotate_left
        ·
         (intro w hSw; (try dsimp only at hSw); go_simp; try with_reducible rfl)
        try simp only [Act.put, qa, qb, qc, qD, qE, qF]
        refine qTk (v := ?_) 21 rfl (.inl ⟨by rfl, ?_⟩) ?_
        rotate_left
        ·
         (intro w hSw; (try dsimp only at hSw); go_simp; try with_reducible rfl)
        try simp only [Act.put, qa, qb, qc, qD, qE, qF]
        refine qTk (v := ?_) 22 rfl (.inl ⟨by rfl, ?_⟩) ?_
        rotate_left
        ·
         (intro w hSw; (try dsimp only at hSw); go_simp; try with_reducible rfl)
        try simp only [Act.put, qa, qb, qc, qD, qE, qF]
        refine qTk (v := ?_) 23 rfl (.inl ⟨by rfl, ?_⟩) ?_
        rotate_left
        ·
         (intro w hSw; (try dsimp only at hSw); go_simp; try with_reducible rfl)
        try simp only [Act.put, qa, qb, qc, qD, qE, qF]
        refine qTk (v := ?_) 24 rfl (.inl ⟨by rfl, ?_⟩) ?_
        rotate_left
        ·
         (intro w hSw; (try dsimp only at hSw); go_simp; try with_reducible rfl)
        try simp only [Act.put, qa, qb, qc, qD, qE, qF]
        refine qTk (v := ?_) 25 rfl (.inl ⟨by rfl, ?_⟩) ?_
        rotate_left
        ·
         (intro w hSw; (try dsimp only at hSw); go_simp; try with_reducible rfl)
        try simp only [Act.put, qa, qb, qc, qD, qE, qF]
        refine wpTail_done qKr ?_ _
        clear hHeld
        by_cases hl4 : (out.length : Int) < 4
        ·
         have hw7 : IntKind.i64.wrap ((out.length : Int) + 1) = (out.length : Int) + 1 := IntWalk.i64_in _ (by omega)
         go_wp2_with fail
         refine (pick1_c ((out.length : Int) + 1) _ _ _ Rw8 (by omega) (by omega)).mono ?_
         rintro e w11 ⟨y2, rfl, hy2, Rw11, Cw11⟩
         have zc_w11 := Cw11.size
         have Xw11 : Rch rb w w11 := Rch.step (Xw10) Cw11
         replace e0 := Cw11.cell (by omega) e0
         have z_e : ge < w11.heap.size := qB e0
         replace hE := hE.chgN Cw11 (by omega)
         replace hT := hT.chgN Cw11 (by omega)
         replace OO := OO.chg Cw11 (by omega)
         have s_w11 : w.heap.size ≤ w11.heap.size := Xw11.size
         clear Rw8 Cw11
         obtain ⟨at7, rfl⟩ : ∃ n : Nat, y2 = n := ⟨y2.toNat, by omega⟩
         go_wp2_with fail
         refine (insert_c out _ at7 (i : Int) _ _ (OO.ints (by omega)) (by omega) (by omega)).mono ?_
         rintro e w12 ⟨v9, rfl, -, ON, xw12⟩
         have Lw12 : Ext w11 w12 := Ext.trans qXt xw12
         have Xw12 : Rch rb w w12 := Rch.ext Xw11 Lw12
         replace Rw11 := Rw11.ext Lw12
         replace e0 := Lw12.cell e0
         have z_e : ge < w12.heap.size := qB e0
         replace hE := hE.ext Lw12
         replace hT := hT.ext Lw12
         replace OO := OO.ext Lw12
         have s_w12 : w.heap.size ≤ w12.heap.size := Xw12.size
         clear xw12
         have l_w12 := Lw12.size
         replace ON := (ON.ofNe (by simp)).lower (base' := go) (by omega)
         have hmn : Hid (∀ y ∈ out.take at7 ++ [(i : Int)] ++ out.drop at7, 0 ≤ y ∧ y < E.length) := Lib.hid (in_ins hmem.out (by omega))
         have hnl : (out.take at7 ++ [(i : Int)] ++ out.drop at7).length ≤ i + 1 := by simp; omega
         generalize out.take at7 ++ [(i : Int)] ++ out.drop at7 = out2 at *
         clear OO
         go_wp2_with fail
         go_roundw
         case rel => exact ⟨p + 2, i + 1, out2, by go_num, by omega, by omega, by omega, hmn, by omega, ON, hE, hT, Rw11, Xw12⟩
         case measure => simp [intOf]; omega
        ·
         have hl4d : decide ((out.length : Int) < 4) = false := decide_eq_false hl4
         clear e0 z_e
         go_wp2_with fail
         go_roundw
         case rel => exact ⟨p + 1, i + 1, out, by go_num, by omega, by omega, by omega, hmem, by omega, OO, hE, hT, Rw8, Xw10⟩
         case measure => simp [intOf]; omega
       ·
        have dc60 : decide (IntKind.i64.wrap (N * v) ≤ 60) = false := decide_eq_false hc60
        refine qTk (v := ?_) 18 rfl (.inl ⟨by rfl, ?_⟩) ?_
        rotate_left
        ·
         (intro w hSw; (try dsimp only at hSw); go_simp; try with_reducible rfl)
        try simp only [Act.put, qa, qb, qc, qD, qE, qF]
        refine qTk (v := ?_) 19 rfl (.inl ⟨by rfl, ?_⟩) ?_
        rotate_left
        ·
         (intro w hSw; (try dsimp only at hSw); go_simp; try with_reducible rfl)
        try simp only [Act.put, qa, qb, qc, qD, qE, qF]
        refine qTk (v := ?_) 20 rfl (.inl ⟨by rfl, ?_⟩) ?_
        rotate_left
        ·
         (intro w hSw; (try dsimp only at hSw); go_simp; try with_reducible rfl)
        try simp only [Act.put, qa, qb, qc, qD, qE, qF]
        refine qTk (v := ?_) 21 rfl (.inl ⟨by rfl, ?_⟩) ?_
        rotate_left
        ·
         (intro w hSw; (try dsimp only at hSw); go_simp; try with_reducible rfl)
        try simp only [Act.put, qa, qb, qc, qD, qE, qF]
        refine qTs 22 rfl (.inr ⟨by rfl, rfl⟩) ?_
        try simp only [Act.put, qa, qb, qc, qD, qE, qF]
        refine qTs 23 rfl (.inr ⟨by rfl, rfl⟩) ?_
        try simp only [Act.put, qa, qb, qc, qD, qE, qF]
        refine qTs 24 rfl (.inr ⟨by rfl, rfl⟩) ?_
        try simp only [Act.put, qa, qb, qc, qD, qE, qF]
        refine qTk (v := ?_) 25 rfl (.inl ⟨by rfl, ?_⟩) ?_
        rotate_left
        ·
         (intro w hSw; (try dsimp only at hSw); go_simp; try with_reducible rfl)
        try simp only [Act.put, qa, qb, qc, qD, qE, qF]
        refine wpTail_done qKr ?_ _
        clear hHeld
        clear e0 z_e
        go_wp2_with fail
        go_roundw
        case rel => exact ⟨p + 1, i + 1, out, by go_num, by omega, by omega, by omega, hmem, by omega, OO, hE, hT, Rw8, Xw10⟩
        case measure => simp [intOf]; omega
      ·
       have dy0 : (y == 0) = false := by simpa using hy0
       refine qTk (v := ?_) 7 rfl (.inl ⟨by rfl, ?_⟩) ?_
       rotate_left
       ·
        (intro w hSw; (try dsimp only at hSw); go_simp; try with_reducible rfl)
       try simp only [Act.put, qa, qb, qc, qD, qE, qF]
       refine qTk (v := ?_) 8 rfl (.inl ⟨by rfl, ?_⟩) ?_
       rotate_left
       ·
        (intro w hSw; (try dsimp only at hSw); go_simp; try with_reducible rfl)
       try simp only [Act.put, qa, qb, qc, qD, qE, qF]
       refine qTk (v := ?_) 9 rfl (.inl ⟨by rfl, ?_⟩) ?_
       rotate_left
       ·
        (intro w hSw; (try dsimp only at hSw); go_simp; try with_reducible rfl)
       try simp only [Act.put, qa, qb, qc, qD, qE, qF]
       refine qTs 10 rfl (.inr ⟨by rfl, rfl⟩) ?_
       try simp only [Act.put, qa, qb, qc, qD, qE, qF]
       refine qTs 11 rfl (.inr ⟨by rfl, rfl⟩) ?_
       try simp only [Act.put, qa, qb, qc, qD, qE, qF]
       refine qTs 12 rfl (.inr ⟨by rfl, rfl⟩) ?_
       try simp only [Act.put, qa, qb, qc, qD, qE, qF]
       refine qTs 13 rfl (.inr ⟨by rfl, rfl⟩) ?_
       try simp only [Act.put, qa, qb, qc, qD, qE, qF]
       refine qTs 14 rfl (.inr ⟨by rfl, rfl⟩) ?_
       try simp only [Act.put, qa, qb, qc, qD, qE, qF]
       refine qTs 15 rfl (.inr ⟨by rfl, rfl⟩) ?_
       try simp only [Act.put, qa, qb, qc, qD, qE, qF]
       refine qTs 16 rfl (.inr ⟨by rfl, rfl⟩) ?_
       try simp only [Act.put, qa, qb, qc, qD, qE, qF]
       refine qTs 17 rfl (.inr ⟨by rfl, rfl⟩) ?_
       try simp only [Act.put, qa, qb, qc, qD, qE, qF]
       refine qTs 18 rfl (.inr ⟨by rfl, rfl⟩) ?_
       try simp only [Act.put, qa, qb, qc, qD, qE, qF]
       refine qTs 19 rfl (.inr ⟨by rfl, rfl⟩) ?_
       try simp only [Act.put, qa, qb, qc, qD, qE, qF]
       refine qTk (v := ?_) 20 rfl (.inl ⟨by rfl, ?_⟩) ?_
       rotate_left
       ·
        (intro w hSw; (try dsimp only at hSw); go_simp; try with_reducible rfl)
       try simp only [Act.put, qa, qb, qc, qD, qE, qF]
       refine qTk (v := ?_) 21 rfl (.inl ⟨by rfl, ?_⟩) ?_
       rotate_left
       ·
        (intro w hSw; (try dsimp only at hSw); go_simp; try with_reducible rfl)
       try simp only [Act.put, qa, qb, qc, qD, qE, qF]
       refine qTs 22 rfl (.inr ⟨by rfl, rfl⟩) ?_
       try simp only [Act.put, qa, qb, qc, qD, qE, qF]
       refine qTs 23 rfl (.inr ⟨by rfl, rfl⟩) ?_
       try simp only [Act.put, qa, qb, qc, qD, qE, qF]
       refine qTs 24 rfl (.inr ⟨by rfl, rfl⟩) ?_
       try simp only [Act.put, qa, qb, qc, qD, qE, qF]
       refine qTk (v := ?_) 25 rfl (.inl ⟨by rfl, ?_⟩) ?_
       rotate_left
       ·
        (intro w hSw; (try dsimp only at hSw); go_simp; try with_reducible rfl)
       try simp only [Act.put, qa, qb, qc, qD, qE, qF]
       refine wpTail_done qKr ?_ _
       clear hHeld
       clear e0 z_e
       go_wp2_with fail
       go_roundw
       case rel => exact ⟨p + 1, i + 1, out, by go_num, by omega, by omega, by omega, hmem, by omega, OO, hE, hT, Rw8, Xw8⟩
       case measure => simp [intOf]; omega
     ·
      have dpl : decide (0 ≤ pl) = false := decide_eq_false hpl
      refine qTk (v := ?_) 3 rfl (.inl ⟨by rfl, ?_⟩) ?_
      rotate_left
      ·
       (intro w hSw; (try dsimp only at hSw); go_simp; try with_reducible rfl)
      try simp only [Act.put, qa, qb, qc, qD, qE, qF]
      refine qTk (v := ?_) 4 rfl (.inl ⟨by rfl, ?_⟩) ?_
      rotate_left
      ·
       (intro w hSw; (try dsimp only at hSw); go_simp; try with_reducible rfl)
      try simp only [Act.put, qa, qb, qc, qD, qE, qF]
      refine qTs 5 rfl (.inr ⟨by rfl, rfl⟩) ?_
      try simp only [Act.put, qa, qb, qc, qD, qE, qF]
      refine qTs 6 rfl (.inr ⟨by rfl, rfl⟩) ?_
      try simp only [Act.put, qa, qb, qc, qD, qE, qF]
      refine qTs 7 rfl (.inr ⟨by rfl, rfl⟩) ?_
      try simp only [Act.put, qa, qb, qc, qD, qE, qF]
      refine qTk (v := ?_) 8 rfl (.inl ⟨by rfl, ?_⟩) ?_
      rotate_left
      ·
       (intro w hSw; (try dsimp only at hSw); go_simp; try with_reducible rfl)
      try simp only [Act.put, qa, qb, qc, qD, qE, qF]
      refine qTk (v := ?_) 9 rfl (.inl ⟨by rfl, ?_⟩) ?_
      rotate_left
      ·
       (intro w hSw; (try dsimp only at hSw); go_simp; try with_reducible rfl)
      try simp only [Act.put, qa, qb, qc, qD, qE, qF]
      refine qTs 10 rfl (.inr ⟨by rfl, rfl⟩) ?_
      try simp only [Act.put, qa, qb, qc, qD, qE, qF]
      refine qTs 11 rfl (.inr ⟨by rfl, rfl⟩) ?_
      try simp only [Act.put, qa, qb, qc, qD, qE, qF]
      refine qTs 12 rfl (.inr ⟨by rfl, rfl⟩) ?_
      try simp only [Act.put, qa, qb, qc, qD, qE, qF]
      refine qTs 13 rfl (.inr ⟨by rfl, rfl⟩) ?_
      try simp only [Act.put, qa, qb, qc, qD, qE, qF]
      refine qTs 14 rfl (.inr ⟨by rfl, rfl⟩) ?_
      try simp only [Act.put, qa, qb, qc, qD, qE, qF]
      refine qTs 15 rfl (.inr ⟨by rfl, rfl⟩) ?_
      try simp only [Act.put, qa, qb, qc, qD, qE, qF]
      refine qTs 16 rfl (.inr ⟨by rfl, rfl⟩) ?_
      try simp only [Act.put, qa, qb, qc, qD, qE, qF]
      refine qTs 17 rfl (.inr ⟨by rfl, rfl⟩) ?_
      try simp only [Act.put, qa, qb, qc, qD, qE, qF]
      refine qTs 18 rfl (.inr ⟨by rfl, rfl⟩) ?_
      try simp only [Act.put, qa, qb, qc, qD, qE, qF]
      refine qTs 19 rfl (.inr ⟨by rfl, rfl⟩) ?_
      try simp only [Act.put, qa, qb, qc, qD, qE, qF]
      refine qTk (v := ?_) 20 rfl (.inl ⟨by rfl, ?_⟩) ?_
      rotate_left
      ·
       (intro w hSw; (try dsimp only at hSw); go_simp; try with_reducible rfl)
      try simp only [Act.put, qa, qb, qc, qD, qE, qF]
      refine qTk (v := ?_) 21 rfl (.inl ⟨by rfl, ?_⟩) ?_
      rotate_left
      ·
       (intro w hSw; (try dsimp only at hSw); go_simp; try with_reducible rfl)
      try simp only [Act.put, qa, qb, qc, qD, qE, qF]
      refine qTs 22 rfl (.inr ⟨by rfl, rfl⟩) ?_
      try simp only [Act.put, qa, qb, qc, qD, qE, qF]
      refine qTs 23 rfl (.inr ⟨by rfl, rfl⟩) ?_
      try simp only [Act.put, qa, qb, qc, qD, qE, qF]
      refine qTs 24 rfl (.inr ⟨by rfl, rfl⟩) ?_
      try simp only [Act.put, qa, qb, qc, qD, qE, qF]
      refine qTk (v := ?_) 25 rfl (.inl ⟨by rfl, ?_⟩) ?_
      rotate_left
      ·
       (intro w hSw; (try dsimp only at hSw); go_simp; try with_reducible rfl)
      try simp only [Act.put, qa, qb, qc, qD, qE, qF]
      refine wpTail_done qKr ?_ _
      clear hHeld
      clear e0 z_e
      go_wp2_with fail
      go_roundw
      case rel => exact ⟨p + 0, i + 1, out, by go_num, by omega, by omega, by omega, hmem, by omega, OO, hE, hT, hr, Xw7⟩
      case measure => simp [intOf]; omega
    ·
     have hiI : ¬ (i : Int) < 5 := by omega
     clear hmem hlt5
     have hp1 := hq1
     go_wp2_with fail
     refine (pick1_c 24 _ _ _ hr (by omega) (by omega)).mono ?_
     rintro e w7 ⟨y, rfl, hy, Rw7, Cw7⟩
     have zc_w7 := Cw7.size
     have Xw7 : Rch rb w w7 := Rch.step (X) Cw7
     replace hE := hE.chgN Cw7 (by omega)
     replace hT := hT.chgN Cw7 (by omega)
     replace OO := OO.chg Cw7 (by omega)
     have s_w7 : w.heap.size ≤ w7.heap.size := Xw7.size
     clear hr Cw7
     clear hy
     have hbt := (hT.ot.blkM bt hT.et).1
     have hbl := (hT.ol.blkM bl hT.el).1
     have hln := hT.lt
     have hts : 0 < ts.length ∧ 0 < ls.length := by have := hlen.out; omega
     by_cases y0 : y = 0
     ·
      subst y0
      go_wp2_with fail
      refine (oneLit_c #[.int .i64 4, .int .i64 (-1), .int .i64 5] 3 _ _ _ _ Rw7 (by omega) (by rfl) (by rfl) (by constructor <;> simp) (by first | rfl | omega | simp)).mono ?_
      rintro e w8 ⟨x, rfl, hx, Rw8, Cw8⟩
      have Ew8 : Ext w7 (w7.alloc (.cells #[.int .i64 4, .int .i64 (-1), .int .i64 5] 3)) := qXt
      have e_w8 := Ew8.size
      have zc_w8 := Cw8.size
      have Xw8 : Rch rb w w8 := Rch.step (Rch.ext Xw7 Ew8) Cw8
      replace hE := (hE.ext Ew8).chgN Cw8 (by omega)
      replace hT := (hT.ext Ew8).chgN Cw8 (by omega)
      replace OO := (OO.ext Ew8).chg Cw8 (by omega)
      have s_w8 : w.heap.size ≤ w8.heap.size := Xw8.size
      clear Rw7 Cw8 Ew8
      clear hx
      go_wp2_with (
       at_builtin
       refine wpList_app rfl (.tmp 120) (.tmp 124) rfl rfl rfl (OO.ext qXt) (Ints.one _ 0 _ (Nat.zero_le _)) (by simp <;> omega) (by simp <;> omega) ?_
       intro vw9 w9 ho hgr hbl hvb)
      have hB9 : Below go w8 w9 := Below.trans (Below.mono (show Ext w8 _ from qXt) (by omega)) hbl
      have Kw9 : Chg go (w8.heap.size) w8 w9 := ⟨hB9.os, hB9.tape, hB9.output, hB9.size, fun g hg hd => hB9.block g (by omega)⟩
      have Xw9 : Rch rb w w9 := Rch.below' Xw8 Kw9 (by omega)
      replace Rw8 := Rw8.chgO Kw9 (by omega)
      replace hT := hT.chgN Kw9 (by omega)
      obtain ⟨pw, cw, rfl⟩ : ∃ a c, vw9 = .slice a (out ++ [x]).length c := by obtain ⟨a, c, h⟩ := (ho.ints (by simp; omega)).form; exact ⟨a, c, h⟩
      clear hgr hbl hvb hB9 OO Kw9
      go_wp2_with fail
      refine bodyPost_ret (v := .tuple #[.slice (some ⟨bt, 0, none⟩) ts.length ct, .slice (some ⟨bl, 0, none⟩) ls.length cl, .slice pw (out ++ [x]).length cw]) (by simp only [results, Try.results98]; go_simp) rfl ?_
      exact ⟨ts, ls, out ++ [x], _, _, _, _, _, _, rfl, (hT.tens (by omega)).lower (by omega), (hT.lsts (by omega)).lower (by omega), (ho.ints (by simp; omega)).lower (by omega), (by first | omega | (simp; omega)), Rw8.mono (by omega), Xw9⟩
     ·
      by_cases y1 : y = 1
      ·
       subst y1
       clear y0
       obtain ⟨o7, m7⟩ := hT.il 0 hts.2
       have hb0 := hT.first hts.2
       have l0 := (hT.ol.cellM (rowCL_len ls RL).symm 0 0 (by rw [rowCL_len]; exact hts.2) (by omega)).1
       rw [rowCL_get, Nat.zero_mul, Nat.zero_add] at l0
       replace l0 : w7.cell? ⟨bl, 0, none⟩ = some (RL 0) := l0
       have fl0 := (hT.ol.cellM (rowCL_len ls RL).symm 0 0 (by rw [rowCL_len]; exact hts.2) (by omega)).2
       rw [Nat.zero_mul, Nat.zero_add] at fl0
       have hlI : (0 : Int) < (ls.length : Int) := by omega
       obtain ⟨cb, hRL⟩ : ∃ c, RL 0 = .slice (some ⟨b0, 0, none⟩) (lstAt ls 0).s.length c := by
        obtain ⟨a, c, e⟩ := (o7.ints (by omega)).form
        rw [e] at hb0
        rcases o7.2 with ⟨h9, _⟩ | ⟨g, cap, cur, h9, _⟩
        ·
         rw [← e, h9] at hb0; cases hb0
        ·
         rw [e] at h9; cases h9; cases hb0; exact ⟨c, e⟩
       rw [hRL] at l0 o7
       obtain ⟨L0, hL0⟩ : ∃ l, (lstAt ls 0).s = l := ⟨_, rfl⟩
       rw [hL0] at l0 o7 m7 hRL
       replace hRL := Lib.hid hRL
       clear hL0
       have hne7 := hT.ne
       have hb0B := (o7.blkM b0 rfl)
       have zl0 : bl < w7.heap.size := qB l0
       go_wp2_with (
        at_builtin
        refine wpList_app rfl (.tmp 131) (.tmp 132) rfl rfl rfl (o7.ext qXt) (Ints.one _ 0 _ (Nat.zero_le _)) (by simp <;> omega) (by simp <;> omega) ?_
        intro vw8 w8 ho hgr hbl hvb
        have hres := Trio.put0 (hT.ext (show Ext w7 (w7.alloc (.cells #[.int .i64 1] 3)) from qXt)) hts.2 (by omega) (by omega) (by simp <;> omega) ho (by simp <;> omega) (by rw [hRL.out]; exact hgr) (by rw [hRL.out]; exact hvb)
        obtain ⟨pw, nw, cw, hvf⟩ := ho.any
        have Kw8 : Chg b0 (b0 + 1) w7 w8 := chg_grown (g := b0) hgr
        replace l0 := Kw8.cell (by omega) l0
        replace fl0 := Kw8.frzO (by omega) zl0 fl0
        have Xw8s : Rch rb w (w8.setCell ⟨bl, 0, none⟩ vw8) := Rch.set (a := ⟨bl, 0, none⟩) (Rch.below' Xw7 Kw8 (by omega)) qSo vw8
        replace Rw7 := Rd.set2 (a := ⟨bl, 0, none⟩) (u := vw8) (show rb < bl by omega) (Rw7.chgO Kw8 (by omega))
        replace OO := OO.chg Kw8 (by omega)
        replace OO := OwnI.chg OO ((Chg.refl bl (bl + 1) w8).setCell (p := ⟨bl, 0, none⟩) (Nat.le_refl _) (Nat.lt_succ_self _) vw8) (by omega)
        replace hres := Lib.hid hres
        clear ho hgr hbl hvb o7 Kw8
        subst hvf)
       go_wp2_with fail
       refine bodyPost_ret (v := .tuple #[.slice (some ⟨bt, 0, none⟩) ts.length ct, .slice (some ⟨bl, 0, none⟩) ls.length cl, .slice po out.length co]) (by simp only [results, Try.results98]; go_simp) rfl ?_
       exact ⟨ts, ls.set 0 ⟨L0 ++ [1]⟩, out, _, _, _, _, _, _, by rw [List.length_set], hres.out.1.lower (by omega), by rw [List.length_set]; exact hres.out.2.lower (by omega), (OO.ints (by omega)).lower (by omega), by omega, Rw7.mono (by omega), Xw8s⟩
      ·
       by_cases y2 : y = 2
       ·
        subst y2
        clear y0 y1
        have t0 := (hT.ot.cellM (rowCT_len ts RT).symm 0 0 (by rw [rowCT_len]; exact hts.1) (by omega))
        have t1 := (hT.ot.cellM (rowCT_len ts RT).symm 0 1 (by rw [rowCT_len]; exact hts.1) (by omega))
        rw [rowCT_get, Nat.zero_mul, Nat.zero_add] at t0 t1
        obtain ⟨t0, f_t0⟩ := t0
        obtain ⟨t1, f_t1⟩ := t1
        replace t0 : w7.cell? ⟨bt, 0, none⟩ = some (RT 0) := t0
        replace t1 : w7.cell? ⟨bt, 1, none⟩ = some (RT 1) := t1
        have z_t : bt < w7.heap.size := qB t0
        have htI : (0 : Int) < (ts.length : Int) := by omega
        have hne7 := hT.ne
        have hhb : hi ≤ w7.heap.size := by omega
        go_wp2_with fail
        refine (someTensor_c rb _ _ Rw7 (by omega)).mono ?_
        rintro e w8 ⟨x, u1, u2, d1, d2, rfl, i1, i2, m1, m2, Rw8, Cw8⟩
        have zc_w8 := Cw8.size
        have Xw8 : Rch rb w w8 := Rch.step (Xw7) Cw8
        replace t0 := Cw8.cell (by omega) t0
        replace f_t0 := Cw8.frzO (by omega) (by omega) f_t0
        replace t1 := Cw8.cell (by omega) t1
        replace f_t1 := Cw8.frzO (by omega) (by omega) f_t1
        have z_t : bt < w8.heap.size := qB t0
        replace hE := hE.chgN Cw8 (by omega)
        replace hT := hT.chgN Cw8 (by omega)
        replace OO := OO.chg Cw8 (by omega)
        have s_w8 : w.heap.size ≤ w8.heap.size := Xw8.size
        clear Rw7 Cw8
        have hres : Tens ((w8.setCell ⟨bt, 0, none⟩ (.slice u1 x.s.length d1)).setCell ⟨bt, 1, none⟩ (.slice u2 x.t.length d2)) (ge + 1) (.slice (some ⟨bt, 0, none⟩) ts.length ct) (ts.set 0 x) ∧ Lsts ((w8.setCell ⟨bt, 0, none⟩ (.slice u1 x.s.length d1)).setCell ⟨bt, 1, none⟩ (.slice u2 x.t.length d2)) (ge + 1) (.slice (some ⟨bl, 0, none⟩) ls.length cl) ls := hT.putT hts.1 (by omega) (by omega) hhb i1 i2
        replace hres := Lib.hid hres
        clear hT i1 i2
        go_wp2_with fail
        generalize hW4 : ((w8.setCell ⟨bt, 0, none⟩ (.slice u1 x.s.length d1)).setCell ⟨bt, 1, none⟩ (.slice u2 x.t.length d2)) = w9 at *
        have Kw9 : Chg (bt) (bt + 1) w8 w9 := by subst hW4; exact qCh
        have Xw9 : Rch rb w w9 := by subst hW4; exact qRt
        replace Rw8 := (Rd.set2 (a := ⟨bt, 1, none⟩) (u := .slice u2 x.t.length d2) (show rb < bt by omega) (Rd.set2 (a := ⟨bt, 0, none⟩) (u := .slice u1 x.s.length d1) (show rb < bt by omega) Rw8))
        rw [hW4] at Rw8
        replace t0 : w9.cell? ⟨bt, 0, none⟩ = some (.slice u1 x.s.length d1) := by subst hW4; go_simp
        replace f_t0 : w9.frozen? ⟨bt, 0, none⟩ = false := by subst hW4; first | (simp only [World.frozen?_setCell]; with_reducible assumption) | go_simp
        replace t1 : w9.cell? ⟨bt, 1, none⟩ = some (.slice u2 x.t.length d2) := by subst hW4; go_simp
        replace f_t1 : w9.frozen? ⟨bt, 1, none⟩ = false := by subst hW4; first | (simp only [World.frozen?_setCell]; with_reducible assumption) | go_simp
        replace OO := OO.chg Kw9 (by omega)
        clear Kw9
        have z_t : bt < w9.heap.size := qB t0
        have s_w9 : w.heap.size ≤ w9.heap.size := Xw9.size
        clear hW4
        go_wp2_with fail
        refine bodyPost_ret (v := .tuple #[.slice (some ⟨bt, 0, none⟩) ts.length ct, .slice (some ⟨bl, 0, none⟩) ls.length cl, .slice po out.length co]) (by simp only [results, Try.results98]; go_simp) rfl ?_
        exact ⟨ts.set 0 x, ls, out, _, _, _, _, _, _, by rw [List.length_set], by rw [List.length_set]; exact hres.out.1.lower (by omega), hres.out.2.lower (by omega), (OO.ints (by omega)).lower (by omega), by omega, Rw8.mono (by omega), Xw9⟩
       ·
        have z0 : (y == 0) = false := by simpa using y0
        have z1 : (y == 1) = false := by simpa using y1
        have z2 : (y == 2) = false := by simpa using y2
        go_wp2_with fail
        refine bodyPost_ret (v := .tuple #[.slice (some ⟨bt, 0, none⟩) ts.length ct, .slice (some ⟨bl, 0, none⟩) ls.length cl, .slice po out.length co]) (by simp only [results, Try.results98]; go_simp) rfl ?_
        exact ⟨ts, ls, out, _, _, _, _, _, _, rfl, (hT.tens (by omega)).lower (by omega), (hT.lsts (by omega)).lower (by omega), (OO.ints (by omega)).lower (by omega), (by first | omega | (simp; omega)), Rw7.mono (by omega), Xw7⟩

end Go.Proofs.Ytpgkhjmboiepcaa

/- Walks: labels of lists, costs. -/
namespace Go.Proofs.Ytpgkhjmboiepcaa
open Go.RowKit
set_option linter.unusedVariables false
set_option maxRecDepth 100000

theorem pie_some {o : Option (List Int)} {x : List Int} {f : Nat} {args : Array Value} {w w0 : World} (he : o = some x) (h : Calls Try.prog f args w (PIntsB w0 (extL o) o.isSome)) : Calls Try.prog f args w (PIntsB w0 x true) := by subst he; exact h
theorem pie_none {o : Option (List Int)} {f : Nat} {args : Array Value} {w w0 : World} (he : o = none) (h : Calls Try.prog f args w (PIntsB w0 (extL o) o.isSome)) : Calls Try.prog f args w (PIntsB w0 ([] : List Int) false) := by subst he; exact h
/-- a call hands back a list that nobody asks for, and a number -/
def PSp (w : World) (n : Int) (e : Ending) (w' : World) : Prop := ∃ v, e = .returned (.tuple #[v, .int .i64 n]) ∧ Ext w w'
set_option maxHeartbeats 3200000 in
theorem allLabels_c (ls : List Lst) (lv : Value) (w : World) (l2 : Nat) (h2 : Lsts w l2 lv ls) (hb : Hid (labsB ls)) (h8 : ls.length ≤ 8) :
  Calls Try.prog 66 #[lv] w (PInts w (alL ls)) := by
 obtain ⟨p1, c1, rfl⟩ := h2.form
 have hlt2 := h2.len
 go_enter Try.func66, Try.ntmps66
 go_wp2_with fail
 have BL2 : Ext w w := Ext.refl _
 have zG_BL2 := (BL2).size
 skip
 go_loopw [3, 9] (fun gv i wr => ∃ (k : Nat), k ≤ ls.length ∧ i = .int .i64 k ∧ OwnI wr w.heap.size gv (catL ls k) ∧ Ext w wr) (fun _ i _ => ls.length - (intOf i).toNat)
 case atStart => exact ⟨0, Nat.zero_le _, rfl, (by rw [show catL ls 0 = [] from rfl]; exact (OwnI.lit0 w w.heap.size (Nat.le_refl _))), qXt⟩
 case round =>
  obtain ⟨k, hk, rfl, OG, Lwr⟩ := hrel
  have Xwr : Ext w wr := Lwr
  have s_wr : w.heap.size ≤ wr.heap.size := Xwr.size
  have t_wr : w.heap.size ≤ wr.heap.size := Lwr.size
  have BL2_wr : Ext w wr := BL2.trans Lwr
  have Bwr : Ext w wr := Lwr
  obtain ⟨ga4, gc5, rfl⟩ := (OG.ints (by have := (show (catL ls k).length ≤ 1000000 by have := catL_len hb.out k hk; omega); omega)).form
  have OG3 := OG
  clear OG
  by_cases hlt : k < ls.length
  ·
   have hkI : (k : Int) < ls.length := by omega
   have hN_x6 : k < ls.length := hlt
   have hI_x6 : (k : Int) < (ls.length : Int) := by omega
   obtain ⟨bl8, ol9, u10, c11, rfl, x60, i12⟩ := h2.at k hN_x6
   obtain ⟨X7, hX7⟩ : ∃ x, lstAt ls k = x := ⟨_, rfl⟩
   rw [hX7] at x60 i12
   obtain ⟨S13⟩ := X7
   dsimp only at x60 i12
   replace hX7 := Lib.hid hX7
   have hLS13 := i12.len
   have y_x6 : bl8 < w.heap.size := qB x60
   replace x60 := Xwr.cell x60
   have z_x6 : bl8 < wr.heap.size := qB x60
   have hS60 : S13.length ≤ 60 := by have h7 := (hb.out k hlt).2; rw [hX7.out] at h7; exact h7
   have zGB := (Bwr).size
   have EE : Ext wr (wr) := qXt
   have hAL : S13.length ≤ 1000000 := (by omega)
   have SS : Ints (wr) 0 (.slice u10 S13.length c11) S13 := ((i12.ext (Xwr.trans qXt)).ext EE).lower (Nat.zero_le _)
   go_wp2_with (
    at_builtin
    refine wpList_app rfl (.tmp 13) (.tmp 14) rfl rfl rfl (by exact OG3.ext EE) (by exact SS) (by have := (show (catL ls k).length ≤ 1000000 by have := catL_len hb.out k hk; omega); first | omega | (simp only [List.length_append, List.length_cons, List.length_nil]; omega)) qSo ?_
    intro vw1 w1 ho hg7 hbl hv7
    clear hg7 hv7
    obtain ⟨ga14, rr15, rfl⟩ : ∃ a c, vw1 = .slice a ((catL ls k).length + S13.length) c := by obtain ⟨a, c, h⟩ := (ho.ints (by simp only [List.length_append, List.length_cons, List.length_nil]; have := (show (catL ls k).length ≤ 1000000 by have := catL_len hb.out k hk; omega); omega)).form; exact ⟨a, c, by rw [h, List.length_append]⟩
    have Xw1 : Ext w w1 := Ext.below (Xwr.trans EE) hbl (by omega)
    have BL2_w1 : Ext w w1 := Ext.below (Ext.trans BL2_wr EE) hbl (by omega)
    have Bwr_w1 : Ext w w1 := Ext.below (Ext.trans Bwr EE) hbl (by omega)
    clear x60
    clear OG3
    have OG3 := ho
    clear ho hbl EE SS zGB hAL
    have s_w1 : w.heap.size ≤ w1.heap.size := Xw1.size)
   go_wp2_with fail
   go_roundw
   case rel => exact ⟨k + 1, by omega, by go_num, (by rw [show catL ls (k+1) = catL ls k ++ S13 by rw [catL_succ, hX7.out]]; exact OG3.ext qXt), (Bwr_w1.trans qXt)⟩
   case measure => simp [intOf]; omega
  ·
   obtain rfl : k = ls.length := by omega
   have hkI : ¬ (ls.length : Int) < ls.length := by omega
   go_wp2_with fail
   have hcl := catL_len hb.out ls.length (Nat.le_refl _)
   have hzb := (Bwr).size
   refine (sort_c (catL ls ls.length) (.slice ga4 ((catL ls ls.length).length) gc5) _ _ OG3.z (by omega) hzb).mono ?_
   rintro e wS ⟨rfl, OS, hbl⟩
   have XS : Ext w wS := Ext.below Xwr hbl (by omega)
   have hzc := hbl.size
   clear hbl OG3
   go_wp2_with fail
   refine (compact_c (sortL (catL ls ls.length)) (.slice ga4 ((catL ls ls.length).length) gc5) _ _ OS (by rw [sortL_len]; omega) (by omega)).mono ?_
   rintro e wC ⟨v2, rfl, OC, -, hbc⟩
   have XC : Ext w wC := Ext.below XS hbc (by omega)
   clear hbc OS
   have hle : (Lib.compact (sortL (catL ls ls.length))).length ≤ 4194304 := by have h7 := compact_len_le (sortL (catL ls ls.length)); rw [sortL_len] at h7; omega
   have IC := OC.ints hle
   obtain ⟨a7, c7, rfl⟩ := IC.form
   go_wp2_with fail
   go_ret
   exact ⟨_, rfl, IC.lower (by omega), OC.lower (by omega), XC⟩

set_option maxHeartbeats 3200000 in
theorem costOver_c (x ls : List Int) (u v : Value) (w : World) (l1 l2 : Nat) (h1 : Ints w l1 u x) (h2 : Ints w l2 v ls) (hn : ls.length ≤ 5) (hx : Hid (∀ y ∈ ls, 0 ≤ y ∧ y < x.length ∧ (0 ≤ x.getD y.toNat 0 ∧ x.getD y.toNat 0 ≤ 60))) :
  Calls Try.prog 65 #[u, v] w (fun e w' => e = .returned (.int .i64 (costL x ls)) ∧ Ext w w') := by
 obtain ⟨p0, c0, rfl⟩ := h1.form
 obtain ⟨p1, c1, rfl⟩ := h2.form
 have hl1 := h1.len
 go_enter Try.func65, Try.ntmps65
 go_wp2_with fail
 go_loopw [5, 10] (fun u i wr => ∃ (k : Nat) (c : Int), k ≤ ls.length ∧ i = .int .i64 k ∧ u = .int .i64 c ∧ Hid (c = costK x ls k) ∧ Ext w wr) (fun _ i _ => ls.length - (intOf i).toNat)
 case atStart => exact ⟨0, 1, Nat.zero_le _, rfl, rfl, Lib.hid rfl, qXt⟩
 case round =>
  obtain ⟨k, c, hk, rfl, rfl, hcc, Lwr⟩ := hrel
  have Xwr : Ext w wr := Lwr
  have s_wr : w.heap.size ≤ wr.heap.size := Xwr.size
  have t_wr : w.heap.size ≤ wr.heap.size := Lwr.size
  have Bwr : Ext w wr := Lwr
  by_cases hlt : k < ls.length
  ·
   have hkI : (k : Int) < ls.length := by omega
   have hN_e3 : k < ls.length := hlt
   have hI_e3 : (k : Int) < (ls.length : Int) := by omega
   obtain ⟨bl1, ol2, rfl, e30⟩ := h2.at k hlt
   have y_e3 : bl1 < w.heap.size := qB e30
   replace e30 := Xwr.cell e30
   obtain ⟨v4, hv4⟩ : ∃ v, ls.getD k 0 = v := ⟨_, rfl⟩
   rw [hv4] at e30
   replace hv4 := Lib.hid hv4
   have z_e3 : bl1 < wr.heap.size := qB e30
   obtain ⟨hy0, hy1, -⟩ := hx.out _ (getD_mem (s := ls) (d := k) hlt)
   rw [hv4.out] at hy0 hy1
   obtain ⟨q7, rfl⟩ : ∃ q : Nat, v4 = (q : Int) := ⟨v4.toNat, by omega⟩
   have hq7 := hv4
   have hqe : q7 < x.length := by omega
   have hw7 : IntKind.i64.wrap (q7 : Int) = (q7 : Int) := IntWalk.i64_in _ (by omega)
   have hN_e7 : q7 < x.length := hqe
   have hI_e7 : (q7 : Int) < (x.length : Int) := by omega
   obtain ⟨bl5, ol6, rfl, e70⟩ := h1.at q7 hqe
   have y_e7 : bl5 < w.heap.size := qB e70
   replace e70 := Xwr.cell e70
   obtain ⟨v8, hv8⟩ : ∃ v, x.getD q7 0 = v := ⟨_, rfl⟩
   rw [hv8] at e70
   replace hv8 := Lib.hid hv8
   have z_e7 : bl5 < wr.heap.size := qB e70
   have hbd : 0 ≤ c * v8 ∧ c * v8 ≤ 777600000 := by
    have h7 := costK_bd (e := x) (ls := ls) (fun y hy => (hx.out y hy).2.2) (k+1) hlt
    have h8 := pow60 (k+1) (by omega)
    rw [show costK x ls (k+1) = c * v8 from by unfold costK; rw [← hcc.out, hq7.out, Int.toNat_natCast, hv8.out]] at h7
    omega
   have hw9 : IntKind.i64.wrap (c * v8) = c * v8 := IntWalk.i64_in _ (by omega)
   go_wp2_with fail
   go_roundw
   case rel => exact ⟨k + 1, c * v8, by omega, by go_num, rfl, Lib.hid (by unfold costK; rw [← hcc.out, hq7.out, Int.toNat_natCast, hv8.out]), (Bwr.trans qXt)⟩
   case measure => simp [intOf]; omega
  ·
   obtain rfl : k = ls.length := by omega
   have hkI : ¬ (ls.length : Int) < ls.length := by omega
   go_wp2_with fail
   go_ret
   exact ⟨by rw [hcc.out] <;> rfl, (Xwr.trans qXt)⟩

set_option maxHeartbeats 3200000 in
theorem space_c (x : List Int) (u : Value) (w : World) (l1 : Nat) (h1 : Ints w l1 u x) (h5 : 5 ≤ x.length) (h6 : x.length ≤ 5) (hx : Hid (∀ k, k < 5 → x.getD k 0 ≤ 60)) :
  Calls Try.prog 68 #[u] w (PSp w (spK x 5)) := by
 obtain ⟨p0, c0, rfl⟩ := h1.form
 go_enter Try.func68, Try.ntmps68
 go_wp2_with fail
 have BL2 : Ext w w := Ext.refl _
 have zG_BL2 := (BL2).size
 skip
 go_loopw [4, 5, 6] (fun gv u i wr => ∃ (k : Nat) (xs : List Int) (c : Int), k ≤ x.length ∧ i = .int .i64 k ∧ u = .int .i64 c ∧ xs.length ≤ k ∧ Hid (c = spK x k) ∧ OwnI wr w.heap.size gv xs ∧ Ext w wr) (fun _ _ i _ => x.length - (intOf i).toNat)
 case atStart => exact ⟨0, [], 1, Nat.zero_le _, rfl, rfl, by simp, Lib.hid rfl, (OwnI.lit0 w w.heap.size (Nat.le_refl _)), qXt⟩
 case round =>
  obtain ⟨k, xs, c, hk, rfl, rfl, hxl, hcc, OG, Lwr⟩ := hrel
  have Xwr : Ext w wr := Lwr
  have s_wr : w.heap.size ≤ wr.heap.size := Xwr.size
  have t_wr : w.heap.size ≤ wr.heap.size := Lwr.size
  have BL2_wr : Ext w wr := BL2.trans Lwr
  have Bwr : Ext w wr := Lwr
  obtain ⟨ga4, gc5, rfl⟩ := (OG.ints (by have := (show (xs).length ≤ 1000000 by omega); omega)).form
  have OG3 := OG
  clear OG
  by_cases hlt : k < x.length
  ·
   have hkI : (k : Int) < x.length := by omega
   have hN_e8 : k < x.length := hlt
   have hI_e8 : (k : Int) < (x.length : Int) := by omega
   obtain ⟨bl6, ol7, rfl, e80⟩ := h1.at k hlt
   have y_e8 : bl6 < w.heap.size := qB e80
   replace e80 := Xwr.cell e80
   obtain ⟨v9, hv9⟩ : ∃ v, x.getD k 0 = v := ⟨_, rfl⟩
   rw [hv9] at e80
   replace hv9 := Lib.hid hv9
   have z_e8 : bl6 < wr.heap.size := qB e80
   have hvx : v9 ≤ 60 := by have h7 := hx.out k (by omega); rw [hv9.out] at h7; exact h7
   have hbd : 0 ≤ c * (if v9 < 0 then 1 else v9) ∧ c * (if v9 < 0 then 1 else v9) ≤ 777600000 := by
    have h7 := spK_bd hx.out (k+1) (by omega)
    have h8 := pow60 (k+1) (by omega)
    rw [show spK x (k+1) = c * (if v9 < 0 then 1 else v9) from by unfold spK; rw [← hcc.out, hv9.out]] at h7
    omega
   by_cases hc10 : (v9 : Int) < (0 : Int)
   ·
    have hbd2 : 0 ≤ c * 1 ∧ c * 1 ≤ 777600000 := by rw [if_pos (by omega)] at hbd; exact hbd
    have hw9 : IntKind.i64.wrap (c) = c := IntWalk.i64_in _ (by omega)
    have zGB := (Bwr).size
    have EE : Ext wr ((wr).alloc (.cells #[.int .i64 1] 3)) := qXt
    have SS : Ints ((wr).alloc (.cells #[.int .i64 1] 3)) 0 (.slice (some ⟨wr.heap.size, 0, none⟩) 1 1) [1] := by simpa using Ints.one (wr) 0 1 (Nat.zero_le _)
    go_wp2_with (
     at_builtin
     refine wpList_app rfl (.tmp 21) (.tmp 23) rfl rfl rfl (by exact OG3.ext EE) (by exact SS) (by have := (show (xs).length ≤ 1000000 by omega); first | omega | (simp only [List.length_append, List.length_cons, List.length_nil]; omega)) qSo ?_
     intro vw1 w1 ho hg7 hbl hv7
     clear hg7 hv7
     obtain ⟨ga11, rr12, rfl⟩ : ∃ a c, vw1 = .slice a (xs.length + 1) c := by obtain ⟨a, c, h⟩ := (ho.ints (by simp only [List.length_append, List.length_cons, List.length_nil]; have := (show (xs).length ≤ 1000000 by omega); omega)).form; exact ⟨a, c, by rw [h, List.length_append]; rfl⟩
     have Xw1 : Ext w w1 := Ext.below (Xwr.trans EE) hbl (by omega)
     have BL2_w1 : Ext w w1 := Ext.below (Ext.trans BL2_wr EE) hbl (by omega)
     have Bwr_w1 : Ext w w1 := Ext.below (Ext.trans Bwr EE) hbl (by omega)
     clear e80
     clear OG3
     have OG3 := ho
     clear ho hbl EE SS zGB
     have s_w1 : w.heap.size ≤ w1.heap.size := Xw1.size)
    go_wp2_with fail
    go_roundw
    case rel => exact ⟨k + 1, xs ++ [1], c, by omega, by go_num, rfl, by simp; omega, Lib.hid (by unfold spK; rw [← hcc.out, hv9.out, if_pos (by omega), Int.mul_one]), OG3.ext qXt, (Bwr_w1.trans qXt)⟩
    case measure => simp [intOf]; omega
   ·
    have hbd2 : 0 ≤ c * v9 ∧ c * v9 ≤ 777600000 := by rw [if_neg (by omega)] at hbd; exact hbd
    have hw9 : IntKind.i64.wrap (c * v9) = c * v9 := IntWalk.i64_in _ (by omega)
    have zGB := (Bwr).size
    have EE : Ext wr ((wr).alloc (.cells #[.int .i64 v9] 3)) := qXt
    have SS : Ints ((wr).alloc (.cells #[.int .i64 v9] 3)) 0 (.slice (some ⟨wr.heap.size, 0, none⟩) 1 1) [v9] := by simpa using Ints.one (wr) 0 v9 (Nat.zero_le _)
    go_wp2_with (
     at_builtin
     refine wpList_app rfl (.tmp 21) (.tmp 23) rfl rfl rfl (by exact OG3.ext EE) (by exact SS) (by have := (show (xs).length ≤ 1000000 by omega); first | omega | (simp only [List.length_append, List.length_cons, List.length_nil]; omega)) qSo ?_
     intro vw1 w1 ho hg7 hbl hv7
     clear hg7 hv7
     obtain ⟨ga13, rr14, rfl⟩ : ∃ a c, vw1 = .slice a (xs.length + 1) c := by obtain ⟨a, c, h⟩ := (ho.ints (by simp only [List.length_append, List.length_cons, List.length_nil]; have := (show (xs).length ≤ 1000000 by omega); omega)).form; exact ⟨a, c, by rw [h, List.length_append]; rfl⟩
     have Xw1 : Ext w w1 := Ext.below (Xwr.trans EE) hbl (by omega)
     have BL2_w1 : Ext w w1 := Ext.below (Ext.trans BL2_wr EE) hbl (by omega)
     have Bwr_w1 : Ext w w1 := Ext.below (Ext.trans Bwr EE) hbl (by omega)
     clear e80
     clear OG3
     have OG3 := ho
     clear ho hbl EE SS zGB
     have s_w1 : w.heap.size ≤ w1.heap.size := Xw1.size)
    go_wp2_with fail
    go_roundw
    case rel => exact ⟨k + 1, xs ++ [v9], c * v9, by omega, by go_num, rfl, by simp; omega, Lib.hid (by unfold spK; rw [← hcc.out, hv9.out, if_neg (by omega)]), OG3.ext qXt, (Bwr_w1.trans qXt)⟩
    case measure => simp [intOf]; omega
  ·
   have hkI : ¬ (k : Int) < x.length := by omega
   have hk5 : k = 5 := by omega
   go_wp2_with fail
   go_ret2
   exact ⟨_, by rw [hcc.out, hk5] <;> rfl, (Xwr.trans qXt)⟩

set_option maxHeartbeats 1600000 in
theorem specExtentsOf_c (ts : List Ten) (ls : List Lst) (tv lv : Value) (w : World) (l1 l2 : Nat) (h1 : Tens w l1 tv ts) (h2 : Lsts w l2 lv ls) :
  Calls Try.prog 67 #[tv, lv] w (PIntsB w (extL (extA ts ls)) (extA ts ls).isSome) := by
 obtain ⟨p0, c0, rfl⟩ := h1.form
 obtain ⟨p1, c1, rfl⟩ := h2.form
 have hlt1 := h1.len
 have hlt2 := h2.len
 go_enter Try.func67, Try.ntmps67
 go_wp2_with fail
 refine (validTensors_c ts ls (.slice p0 ts.length c0) (.slice p1 ls.length c1) _ _ _ (h1.ext qXt) (h2.ext qXt)).mono ?_
 rintro e w1 ⟨rfl, xw1⟩
 have Lw1 : Ext w w1 := Ext.trans qXt xw1
 have Xw1 : Ext w w1 := Lw1
 have s_w1 : w.heap.size ≤ w1.heap.size := Xw1.size
 clear xw1
 cases hB1 : tensB ts ls
 ·
  replace hB1 := Lib.hid hB1
  go_wp2_with fail
  go_ret2
  rw [extA_none (ts := ts) (ls := ls) (.inl hB1.out)]
  exact PIntsB.no (Xw1.trans qXt)
 ·
  replace hB1 := Lib.hid hB1
  go_wp2_with fail
  refine (extents_c ts ls (.slice p0 ts.length c0) (.slice p1 ls.length c1) _ _ _ (h1.ext (Xw1.trans qXt)) (h2.ext (Xw1.trans qXt)) (by have h7 := tensB_in hB1.out; omega)).mono ?_
  rintro e w2 ⟨fv2, rfl, i3, i3z, xw2⟩
  have Lw2 : Ext w1 w2 := Ext.trans qXt xw2
  have Xw2 : Ext w w2 := Xw1.trans Lw2
  have s_w2 : w.heap.size ≤ w2.heap.size := Xw2.size
  clear xw2
  obtain ⟨afv2, cfv2, rfl⟩ := i3.form
  go_wp2_with fail
  go_ret2
  rw [show extA ts ls = extT ts ls ts.length by unfold extA; rw [hB1.out]; rfl]
  exact ⟨_, rfl, i3.lower (by omega), i3z.lower (by omega), (Xw2.trans qXt)⟩

set_option maxHeartbeats 3200000 in
theorem implCostOf_0 (ts : List Ten) (ls : List Lst) (tv lv : Value) (w : World) (l1 l2 : Nat) (h1 : Tens w l1 tv ts) (h2 : Lsts w l2 lv ls) (he : Hid (extA ts ls = none)) :
  Calls Try.prog 26 #[tv, lv] w (fun e w' => e = .returned (.int .i64 (cstA ts ls)) ∧ Ext w w') := by
 obtain ⟨p0, c0, rfl⟩ := h1.form
 obtain ⟨p1, c1, rfl⟩ := h2.form
 have hlt1 := h1.len
 have hlt2 := h2.len
 go_enter Try.func26, Try.ntmps26
 go_wp2_with fail
 refine (pie_none he.out (extentsOf_c ts ls (.slice p0 ts.length c0) (.slice p1 ls.length c1) _ _ _ (h1.ext qXt) (h2.ext qXt))).mono ?_
 rintro e w1 ⟨fv1, rfl, i2, -, xw1⟩
 have Lw1 : Ext w w1 := Ext.trans qXt xw1
 have Xw1 : Ext w w1 := Lw1
 have s_w1 : w.heap.size ≤ w1.heap.size := Xw1.size
 clear xw1
 obtain ⟨afv1, cfv1, rfl⟩ := i2.form
 go_wp2_with fail
 go_ret
 exact ⟨by rw [cstA_none he.out] <;> rfl, (Xw1.trans qXt)⟩

set_option maxHeartbeats 3200000 in
theorem implCostOf_1 (ts : List Ten) (ls : List Lst) (tv lv : Value) (x : List Int) (w : World) (l1 l2 : Nat) (h1 : Tens w l1 tv ts) (h2 : Lsts w l2 lv ls) (he : Hid (extA ts ls = some x)) :
  Calls Try.prog 26 #[tv, lv] w (fun e w' => e = .returned (.int .i64 (cstA ts ls)) ∧ Ext w w') := by
 obtain ⟨p0, c0, rfl⟩ := h1.form
 obtain ⟨p1, c1, rfl⟩ := h2.form
 have hlt1 := h1.len
 have hlt2 := h2.len
 obtain ⟨f5, f1, f2, f3, f4, f6⟩ := extA_fact he.out
 have h5 : 5 ≤ x.length := by omega
 have h6 : x.length ≤ 5 := by omega
 have hlb : Hid (labsB ls) := Lib.hid (fun i hi => ⟨(f4 i hi).1, by have := (f4 i hi).2; omega⟩)
 have hx60 : Hid (∀ k, k < 5 → x.getD k 0 ≤ 60) := Lib.hid (fun k hk => (f6 k hk).2.1)
 have hal : Hid (∀ y ∈ alL ls, 0 ≤ y ∧ y < x.length ∧ (0 ≤ x.getD y.toNat 0 ∧ x.getD y.toNat 0 ≤ 60)) := Lib.hid (fun y hy => all_ext he.out y hy)
 have hal5 : (alL ls).length ≤ 5 := all_le he.out
 have f7 : ls.length ≤ 8 := by omega
 clear f4 f6 f5 f1
 go_enter Try.func26, Try.ntmps26
 go_wp2_with fail
 refine (pie_some he.out (extentsOf_c ts ls (.slice p0 ts.length c0) (.slice p1 ls.length c1) _ _ _ (h1.ext qXt) (h2.ext qXt))).mono ?_
 rintro e w1 ⟨fv1, rfl, i2, -, xw1⟩
 have Lw1 : Ext w w1 := Ext.trans qXt xw1
 have Xw1 : Ext w w1 := Lw1
 have s_w1 : w.heap.size ≤ w1.heap.size := Xw1.size
 clear xw1
 obtain ⟨afv1, cfv1, rfl⟩ := i2.form
 go_wp2_with fail
 refine (allLabels_c ls (.slice p1 ls.length c1) _ _ (h2.ext (Xw1.trans qXt)) hlb f7).mono ?_
 rintro e w2 ⟨fv3, rfl, i4, -, xw2⟩
 have Lw2 : Ext w1 w2 := Ext.trans qXt xw2
 have Xw2 : Ext w w2 := Xw1.trans Lw2
 replace i2 := i2.ext Lw2
 have s_w2 : w.heap.size ≤ w2.heap.size := Xw2.size
 clear xw2
 obtain ⟨afv3, cfv3, rfl⟩ := i4.form
 go_wp2_with fail
 refine (costOver_c x (alL ls) (.slice afv1 x.length cfv1) (.slice afv3 ((alL ls).length) cfv3) _ _ _ (i2.ext qXt) (i4.ext qXt) hal5 hal).mono ?_
 rintro e w3 ⟨rfl, xw3⟩
 have Lw3 : Ext w2 w3 := Ext.trans qXt xw3
 have Xw3 : Ext w w3 := Xw2.trans Lw3
 replace i2 := i2.ext Lw3
 replace i4 := i4.ext Lw3
 have s_w3 : w.heap.size ≤ w3.heap.size := Xw3.size
 clear xw3
 go_wp2_with fail
 go_ret
 exact ⟨by rw [cstA_some he.out, ← cost_law he.out] <;> rfl, (Xw3.trans qXt)⟩

set_option maxHeartbeats 1600000 in
theorem implCostOf_c (ts : List Ten) (ls : List Lst) (tv lv : Value) (w : World) (l1 l2 : Nat) (h1 : Tens w l1 tv ts) (h2 : Lsts w l2 lv ls) :
  Calls Try.prog 26 #[tv, lv] w (fun e w' => e = .returned (.int .i64 (cstA ts ls)) ∧ Ext w w') := by
 cases he : extA ts ls with
 | none => exact implCostOf_0 ts ls tv lv w l1 l2 h1 h2 (Lib.hid he)
 | some x => exact implCostOf_1 ts ls tv lv x w l1 l2 h1 h2 (Lib.hid he)

set_option maxHeartbeats 3200000 in
theorem specCostOf_0 (ts : List Ten) (ls : List Lst) (tv lv : Value) (w : World) (l1 l2 : Nat) (h1 : Tens w l1 tv ts) (h2 : Lsts w l2 lv ls) (he : Hid (extA ts ls = none)) :
  Calls Try.prog 27 #[tv, lv] w (fun e w' => e = .returned (.int .i64 (cstA ts ls)) ∧ Ext w w') := by
 obtain ⟨p0, c0, rfl⟩ := h1.form
 obtain ⟨p1, c1, rfl⟩ := h2.form
 have hlt1 := h1.len
 have hlt2 := h2.len
 go_enter Try.func27, Try.ntmps27
 go_wp2_with fail
 refine (pie_none he.out (specExtentsOf_c ts ls (.slice p0 ts.length c0) (.slice p1 ls.length c1) _ _ _ (h1.ext qXt) (h2.ext qXt))).mono ?_
 rintro e w1 ⟨fv1, rfl, i2, -, xw1⟩
 have Lw1 : Ext w w1 := Ext.trans qXt xw1
 have Xw1 : Ext w w1 := Lw1
 have s_w1 : w.heap.size ≤ w1.heap.size := Xw1.size
 clear xw1
 obtain ⟨afv1, cfv1, rfl⟩ := i2.form
 go_wp2_with fail
 go_ret
 exact ⟨by rw [cstA_none he.out] <;> rfl, (Xw1.trans qXt)⟩

set_option maxHeartbeats 3200000 in
theorem specCostOf_1 (ts : List Ten) (ls : List Lst) (tv lv : Value) (x : List Int) (w : World) (l1 l2 : Nat) (h1 : Tens w l1 tv ts) (h2 : Lsts w l2 lv ls) (he : Hid (extA ts ls = some x)) :
  Calls Try.prog 27 #[tv, lv] w (fun e w' => e = .returned (.int .i64 (cstA ts ls)) ∧ Ext w w') := by
 obtain ⟨p0, c0, rfl⟩ := h1.form
 obtain ⟨p1, c1, rfl⟩ := h2.form
 have hlt1 := h1.len
 have hlt2 := h2.len
 obtain ⟨f5, f1, f2, f3, f4, f6⟩ := extA_fact he.out
 have h5 : 5 ≤ x.length := by omega
 have h6 : x.length ≤ 5 := by omega
 have hlb : Hid (labsB ls) := Lib.hid (fun i hi => ⟨(f4 i hi).1, by have := (f4 i hi).2; omega⟩)
 have hx60 : Hid (∀ k, k < 5 → x.getD k 0 ≤ 60) := Lib.hid (fun k hk => (f6 k hk).2.1)
 have hal : Hid (∀ y ∈ alL ls, 0 ≤ y ∧ y < x.length ∧ (0 ≤ x.getD y.toNat 0 ∧ x.getD y.toNat 0 ≤ 60)) := Lib.hid (fun y hy => all_ext he.out y hy)
 have hal5 : (alL ls).length ≤ 5 := all_le he.out
 have f7 : ls.length ≤ 8 := by omega
 clear f4 f6 f5 f1
 go_enter Try.func27, Try.ntmps27
 go_wp2_with fail
 refine (pie_some he.out (specExtentsOf_c ts ls (.slice p0 ts.length c0) (.slice p1 ls.length c1) _ _ _ (h1.ext qXt) (h2.ext qXt))).mono ?_
 rintro e w1 ⟨fv1, rfl, i2, -, xw1⟩
 have Lw1 : Ext w w1 := Ext.trans qXt xw1
 have Xw1 : Ext w w1 := Lw1
 have s_w1 : w.heap.size ≤ w1.heap.size := Xw1.size
 clear xw1
 obtain ⟨afv1, cfv1, rfl⟩ := i2.form
 go_wp2_with fail
 refine (space_c x (.slice afv1 x.length cfv1) _ _ (i2.ext qXt) h5 h6 hx60).mono ?_
 rintro e w2 ⟨sv3, rfl, xw2⟩
 have Lw2 : Ext w1 w2 := Ext.trans qXt xw2
 have Xw2 : Ext w w2 := Xw1.trans Lw2
 replace i2 := i2.ext Lw2
 have s_w2 : w.heap.size ≤ w2.heap.size := Xw2.size
 clear xw2
 go_wp2_with fail
 go_ret
 exact ⟨by rw [cstA_some he.out] <;> rfl, (Xw2.trans qXt)⟩

set_option maxHeartbeats 1600000 in
theorem specCostOf_c (ts : List Ten) (ls : List Lst) (tv lv : Value) (w : World) (l1 l2 : Nat) (h1 : Tens w l1 tv ts) (h2 : Lsts w l2 lv ls) :
  Calls Try.prog 27 #[tv, lv] w (fun e w' => e = .returned (.int .i64 (cstA ts ls)) ∧ Ext w w') := by
 cases he : extA ts ls with
 | none => exact specCostOf_0 ts ls tv lv w l1 l2 h1 h2 (Lib.hid he)
 | some x => exact specCostOf_1 ts ls tv lv x w l1 l2 h1 h2 (Lib.hid he)


end Go.Proofs.Ytpgkhjmboiepcaa

/- What the joined form asks of the PROGRAM, whatever the function: each its own theorem. The head's long line of names is cut behind its third word first: read whole it outgrows the kernel's memory. -/
namespace Go.Proofs.Ytpgkhjmboiepcaa.facts

theorem words_ne : ∀ l : List Char, wordsSigns l ≠ []
  | [] => by simp [wordsSigns]
  | c :: r => by
    unfold wordsSigns
    split
    · simp
    · simp
    · split <;> simp

theorem words_app (b : List Char) : ∀ a : List Char, wordsSigns (a ++ Char.ofNat 32 :: b) = wordsSigns a ++ wordsSigns b
  | [] => by rw [List.nil_append]; rfl
  | c :: r => by
    have ih := words_app b r
    by_cases h : c = Char.ofNat 32
    · subst h
      have e : ∀ l : List Char, wordsSigns (Char.ofNat 32 :: l) = [] :: wordsSigns l := fun l => rfl
      rw [List.cons_append, e, e, ih]; rfl
    · have e : ∀ l : List Char, wordsSigns (c :: l) = match wordsSigns l with | w :: ws => (c :: w) :: ws | [] => [[c]] := by
        intro l
        conv => lhs; unfold wordsSigns
        split
        · rename_i h1; cases h1
        · rename_i h1; cases h1; exact absurd rfl h
        · rename_i h1; cases h1; rfl
      rw [List.cons_append, e, e, ih]
      cases hr : wordsSigns r with
      | nil => exact absurd hr (words_ne r)
      | cons w ws => simp

theorem cut_at {l : List Char} (h : (l.drop 76).head? = some (Char.ofNat 32)) : l = l.take 76 ++ Char.ofNat 32 :: l.drop 77 := by
  have e := List.take_append_drop 76 l
  cases hd : l.drop 76 with
  | nil => rw [hd] at h; cases h
  | cons c r =>
    rw [hd] at h
    have hc : c = Char.ofNat 32 := Option.some.inj h
    have : l.drop 77 = r := by
      have := congrArg (List.drop 1) hd
      simpa [List.drop_drop] using this
    rw [this, ← hc, ← hd]; exact e.symm

set_option maxRecDepth 100000 in
theorem order : ∃ l, Try.checked.prog.initOrder = String.ofList l ∧ (l.drop 76).head? = some (Char.ofNat 32) ∧ ∀ W, behindMainWord (wordsSigns (l.take 76) ++ W) = "cut".toList :: W := by
  unfold Try.checked Try.prog
  refine ⟨_, rfl, ?_, ?_⟩
  · kernel_rfl
  · intro W; kernel_rfl

theorem behind_all : ∃ W, behindMainWord (wordsSigns Try.checked.prog.initOrder.toList) = "cut".toList :: W := by
  obtain ⟨l, e, h1, h2⟩ := order
  refine ⟨wordsSigns (l.drop 77), ?_⟩
  rw [e, String.toList_ofList, cut_at h1, words_app, ← cut_at h1]
  exact h2 _

theorem strip (W : List (List Char)) : stripLifts liftWords ("cut".toList :: W) = ([], "cut".toList :: W) := by kernel_rfl

theorem lifts : Try.checked.prog.headLifts = [] := by
  unfold Program.headLifts
  obtain ⟨W, e⟩ := behind_all
  rw [e, strip]
  kernel_rfl

theorem laysLater : Try.checked.prog.laysLater = false := by kernel_rfl
theorem bearsReflect : Try.checked.prog.bearsReflect = false := by kernel_rfl
theorem doorFits : Try.checked.prog.doorFits [] = true := by kernel_rfl

theorem mayEnter_of {P : Program} {W : List (List Char)} (e : behindMainWord (wordsSigns P.initOrder.toList) = "cut".toList :: W) (h1 : P.laysLater = false) (h2 : P.bearsReflect = false) (h3 : P.doorFits [] = true) : P.mayEnter = true := by
  unfold Program.mayEnter
  rw [e]
  simp only [strip, h1, h2, h3]
  kernel_rfl

theorem mayEnter : Try.checked.prog.mayEnter = true := by
  obtain ⟨W, e⟩ := behind_all
  exact mayEnter_of e laysLater bearsReflect doorFits

theorem liftsFinal_of {P : Program} {W : List (List Char)} (e : behindMainWord (wordsSigns P.initOrder.toList) = "cut".toList :: W) (h : P.headLifts = []) : P.liftsFinal = false := by
  unfold Program.liftsFinal
  rw [e, h]
  kernel_rfl

theorem liftsFinal : Try.checked.prog.liftsFinal = false := by
  obtain ⟨W, e⟩ := behind_all
  exact liftsFinal_of e lifts

theorem make_of {P : Program} {W : List (List Char)} (e : behindMainWord (wordsSigns P.initOrder.toList) = "cut".toList :: W) : P.make = some .cut := by
  unfold Program.make
  rw [e]
  kernel_rfl

theorem make : Try.checked.prog.make = some .cut := by
  obtain ⟨W, e⟩ := behind_all
  exact make_of e

theorem laid : laidOutB Try.checked.prog = true := by kernel_rfl
theorem mapped : mapsRowed Try.checked.prog = true := by kernel_rfl
theorem stops : Try.checked.prog.stops = [] := by kernel_rfl
theorem stopKnobs : Try.checked.prog.stopKnobs = [] := by kernel_rfl
theorem stopsHeard : Try.checked.prog.stopsHeard = true := by kernel_rfl
theorem plainKeys : Try.checked.prog.plainKeys = true := by kernel_rfl

set_option maxRecDepth 100000 in
theorem all {f : FuncId} {fn : Func} {s : ChangeSpec} {c : OpenClaim}
    (h1 : c.wf (OpenSpec.ofChange s) = true) (h2 : fn.params.all (Try.checked.prog.readableRec ·) = true) (h3 : namedTie Try.checked.prog c.named s.vars = true)
    (h4 : (c.stops == []) = true) (h5 : (c.knobs == []) = true)
    (h6 : (c.inPlace == Try.checked.prog.inPlace f) = true) (h7 : (c.unfollowed == Try.checked.prog.unfollowed f) = true) (h8 : (c.recurses == Try.checked.prog.recurses f) = true) (h9 : (c.named == Try.checked.prog.varsNamed f) = true)
    (h10 : (c.maps == (fn.params.toList ++ s.plain.varTypes Try.checked.prog).any (Try.checked.prog.mapsRec ·) && (c.ifaces == (fn.params.toList ++ s.plain.varTypes Try.checked.prog).any (Try.checked.prog.ifacesRec ·)) && (c.mapsOut == Try.checked.prog.mapsAmong fn.resultTypes.toList) &&
      (c.loops == (fn.params.toList ++ s.plain.varTypes Try.checked.prog).any (Try.checked.prog.loopsFrom ·)) && (c.wideKeys == (fn.params.toList ++ s.plain.varTypes Try.checked.prog ++ fn.resultTypes.toList).any (Try.checked.prog.wideKeysFrom ·))) = true)
    (h11 : (s.vars.all (Try.checked.prog.varReadable ·) && fn.resultTypes.all (fun t => Try.checked.prog.readableRec t && decide (t < Try.checked.prog.types.size)) && (c.ifacesOut == fn.resultTypes.toList.any (Try.checked.prog.ifacesRec ·)) && (c.loopsOut == fn.resultTypes.toList.any (Try.checked.prog.loopsFrom ·))) = true)
    (h12 : c.plainKeys = true) (h13 : c.shortTexts.isNone = true) (h14 : c.lifted = false) (h15 : c.make = .cut)
    (h16 : (c.kinds == (if c.domain.isEmpty then [] else fn.params.toList.map fun t => match Try.checked.prog.underlying t with | some (.int k) => some k | _ => none)) = true) (h17 : (c.pinned == c.pinnedBy) = true)
    (h18 : (c.veiled == (fn.params.toList ++ s.plain.varTypes Try.checked.prog ++ fn.resultTypes.toList).any (Try.checked.prog.veiledRec ·)) = true)
    (h19 : c.veiledFits Try.checked.prog fn.params.toList (fn.params.toList ++ s.plain.varTypes Try.checked.prog ++ fn.resultTypes.toList) = true) :
    joinedFacts Try.checked.prog f fn s c = true := by
  unfold joinedFacts
  simp only [Bool.and_eq_true] at h10 h11 ⊢
  obtain ⟨⟨⟨⟨a1, a2⟩, a3⟩, a4⟩, a5⟩ := h10
  obtain ⟨⟨⟨b1, b2⟩, b3⟩, b4⟩ := h11
  refine ⟨⟨⟨⟨⟨⟨⟨⟨⟨⟨⟨⟨⟨⟨⟨⟨⟨⟨⟨⟨⟨⟨⟨⟨⟨⟨⟨⟨⟨⟨⟨h1, laid⟩, mapped⟩, h2⟩, h3⟩, h4⟩, ?_⟩, h5⟩, ?_⟩, h6⟩, h7⟩, h8⟩, h9⟩, a1⟩, a2⟩, a3⟩, a4⟩, a5⟩, b1⟩, b2⟩, b3⟩, b4⟩, ?_⟩, h13⟩, stopsHeard⟩, mayEnter⟩, ?_⟩, ?_⟩, h16⟩, h17⟩, h18⟩, h19⟩
  · rw [stops]; rfl
  · rw [stopKnobs]; rfl
  · rw [plainKeys, h12]; rfl
  · rw [liftsFinal, h14]; rfl
  · rw [make, h15]; exact beq_self_eq_true _

end Go.Proofs.Ytpgkhjmboiepcaa.facts
