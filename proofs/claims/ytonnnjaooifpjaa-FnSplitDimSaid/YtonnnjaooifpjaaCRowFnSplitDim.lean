/- Texts of these proofs put together: LvS, LvR, PureG, SpC, PureH, KitE, RsB, SpD, LawFnSplitDim, RowFnSplitDim. No condition. -/
import Derived.Test.YtonnnjaooifpjaaM1
import Derived.Test.YtonnnjaooifpjaaD1RowFnSplitDim
import Derived.Test.YtonnnjaooifpjaaD2RowFnSplitDim
import Derived.Test.YtonnnjaooifpjaaM3
import Derived.Test.YtonnnjaooifpjaaM4
set_option linter.unusedVariables false
set_option linter.unusedSimpArgs false
/- Walks: SameView of the program. -/
namespace Go.Proofs.Ytonnnjaooifpjaa
open Go.RowKit
set_option linter.unusedVariables false
set_option maxRecDepth 100000


def sameV (b1 : Int) (s1 t1 : List Int) (b2 : Int) (s2 t2 : List Int) : Bool := viewB b1 s1 t1 && (viewB b2 s2 t2 && (sameB s1 s2 && sameB (offsL b1 s1 t1) (offsL b2 s2 t2)))

set_option maxHeartbeats 3200000 in
theorem implSameView_c (b1 : Int) (u1 v1 : Value) (s1 t1 : List Int) (b2 : Int) (u2 v2 : Value) (s2 t2 : List Int) (w : World) (l1 m1 : Nat) (h1 : Ints w l1 u1 s1) (k1 : Ints w m1 v1 t1) (l2 m2 : Nat) (h2 : Ints w l2 u2 s2) (k2 : Ints w m2 v2 t2) :
  Calls Try.prog 40 #[.agg #[.int .i64 b1, u1, v1], .agg #[.int .i64 b2, u2, v2]] w (fun e w' => e = .returned (.bool (sameV b1 s1 t1 b2 s2 t2)) ∧ Ext w w') := by
 obtain ⟨p0, c0, rfl⟩ := h1.form
 obtain ⟨p1, c1, rfl⟩ := k1.form
 obtain ⟨q0, d0, rfl⟩ := h2.form
 obtain ⟨q1, d1, rfl⟩ := k2.form
 go_enter Try.func40, Try.ntmps40
 go_wp2_with fail
 generalize hW1 : (w.alloc (.cells #[.int .i64 b1, .slice p0 s1.length c0, .slice p1 t1.length c1] 25)).alloc (.cells #[.int .i64 b2, .slice q0 s2.length d0, .slice q1 t2.length d1] 25) = w1 at *
 have Lw1 : Ext w w1 := by subst hW1; exact qXt
 have Xw1 : Ext w w1 := by subst hW1; exact Lw1
 have b10 : w1.cell? ⟨w.heap.size, 0, none⟩ = some (.int .i64 b1) := by subst hW1; exact qCl
 have b11 : w1.cell? ⟨w.heap.size, 1, none⟩ = some (.slice p0 s1.length c0) := by subst hW1; exact qCl
 have b12 : w1.cell? ⟨w.heap.size, 2, none⟩ = some (.slice p1 t1.length c1) := by subst hW1; exact qCl
 have b20 : w1.cell? ⟨w.heap.size + 1, 0, none⟩ = some (.int .i64 b2) := by subst hW1; exact qCl
 have b21 : w1.cell? ⟨w.heap.size + 1, 1, none⟩ = some (.slice q0 s2.length d0) := by subst hW1; exact qCl
 have b22 : w1.cell? ⟨w.heap.size + 1, 2, none⟩ = some (.slice q1 t2.length d1) := by subst hW1; exact qCl
 have z_b1 : w.heap.size < w1.heap.size := qB b10
 have z_b2 : w.heap.size + 1 < w1.heap.size := qB b20
 have s_w1 : w.heap.size ≤ w1.heap.size := Xw1.size
 clear hW1
 refine wp_region_tail (S := fun w' => w'.cell? ⟨w.heap.size, 0, none⟩ = some (.int .i64 b1) ∧ w'.cell? ⟨w.heap.size, 1, none⟩ = some (.slice p0 s1.length c0) ∧ w'.cell? ⟨w.heap.size, 2, none⟩ = some (.slice p1 t1.length c1) ∧ w'.cell? ⟨w.heap.size + 1, 0, none⟩ = some (.int .i64 b2) ∧ w'.cell? ⟨w.heap.size + 1, 1, none⟩ = some (.slice q0 s2.length d0) ∧ w'.cell? ⟨w.heap.size + 1, 2, none⟩ = some (.slice q1 t2.length d1)) (fun i => decide (21 ≤ i)) qKr ⟨b10, b11, b12, b20, b21, b22⟩ (fun hHeld => ?_)
 refine qTk (v := ?_) 0 rfl (.inl ⟨by rfl, ?_⟩) ?_
 rotate_left
 ·
  (intro w hSw; (try dsimp only at hSw); go_simp; try with_reducible rfl)
 try simp only [Act.put, qa, qb, qc, qD, qE, qF]
 refine wpTail_one (i := 1) qKr rfl rfl (fun K hK => ?_)
 try simp only [Act.put, qa, qb, qc, qD, qE, qF]
 go_simp
 refine (isView_c b1 (.slice p0 s1.length c0) (.slice p1 t1.length c1) s1 t1 _ _ _ (h1.ext (Xw1.trans qXt)) (k1.ext (Xw1.trans qXt))).mono ?_
 rintro e w2 ⟨rfl, xw2⟩
 have Lw2 : Ext w1 w2 := Ext.trans qXt xw2
 have Xw2 : Ext w w2 := Xw1.trans Lw2
 replace b10 := Lw2.cell b10
 replace b11 := Lw2.cell b11
 replace b12 := Lw2.cell b12
 replace b20 := Lw2.cell b20
 replace b21 := Lw2.cell b21
 replace b22 := Lw2.cell b22
 have z_b1 : w.heap.size < w2.heap.size := qB b10
 have z_b2 : w.heap.size + 1 < w2.heap.size := qB b20
 have s_w2 : w.heap.size ≤ w2.heap.size := Xw2.size
 clear xw2
 cases hB3 : viewB b1 s1 t1
 ·
  replace hB3 := Lib.hid hB3
  refine hK.out _ _ ⟨b10, b11, b12, b20, b21, b22⟩ (fun hHeld => ?_)
  clear hK K
  try simp only [Act.put, qa, qb, qc, qD, qE, qF]
  refine qTk (v := ?_) 2 rfl (.inl ⟨by rfl, ?_⟩) ?_
  rotate_left
  ·
   (intro w hSw; (try dsimp only at hSw); go_simp; try with_reducible rfl)
  try simp only [Act.put, qa, qb, qc, qD, qE, qF]
  refine qTs 3 rfl (.inr ⟨by rfl, rfl⟩) ?_
  try simp only [Act.put, qa, qb, qc, qD, qE, qF]
  refine qTs 4 rfl (.inr ⟨by rfl, rfl⟩) ?_
  try simp only [Act.put, qa, qb, qc, qD, qE, qF]
  refine qTk (v := ?_) 5 rfl (.inl ⟨by rfl, ?_⟩) ?_
  rotate_left
  ·
   (intro w hSw; (try dsimp only at hSw); go_simp; try with_reducible rfl)
  try simp only [Act.put, qa, qb, qc, qD, qE, qF]
  refine qTk (v := ?_) 6 rfl (.inl ⟨by rfl, ?_⟩) ?_
  rotate_left
  ·
   (intro w hSw; (try dsimp only at hSw); go_simp; try with_reducible rfl)
  try simp only [Act.put, qa, qb, qc, qD, qE, qF]
  refine qTs 7 rfl (.inr ⟨by rfl, rfl⟩) ?_
  try simp only [Act.put, qa, qb, qc, qD, qE, qF]
  refine qTs 8 rfl (.inr ⟨by rfl, rfl⟩) ?_
  try simp only [Act.put, qa, qb, qc, qD, qE, qF]
  refine qTs 9 rfl (.inr ⟨by rfl, rfl⟩) ?_
  try simp only [Act.put, qa, qb, qc, qD, qE, qF]
  refine qTs 10 rfl (.inr ⟨by rfl, rfl⟩) ?_
  try simp only [Act.put, qa, qb, qc, qD, qE, qF]
  refine qTs 11 rfl (.inr ⟨by rfl, rfl⟩) ?_
  try simp only [Act.put, qa, qb, qc, qD, qE, qF]
  refine qTk (v := ?_) 12 rfl (.inl ⟨by rfl, ?_⟩) ?_
  rotate_left
  ·
   (intro w hSw; (try dsimp only at hSw); go_simp; try with_reducible rfl)
  try simp only [Act.put, qa, qb, qc, qD, qE, qF]
  refine qTk (v := ?_) 13 rfl (.inl ⟨by rfl, ?_⟩) ?_
  rotate_left
  ·
   (intro w hSw; (try dsimp only at hSw); go_simp; try with_reducible rfl)
  try simp only [Act.put, qa, qb, qc, qD, qE, qF]
  refine qTs 14 rfl (.inr ⟨by rfl, rfl⟩) ?_
  try simp only [Act.put, qa, qb, qc, qD, qE, qF]
  refine qTs 15 rfl (.inr ⟨by rfl, rfl⟩) ?_
  try simp only [Act.put, qa, qb, qc, qD, qE, qF]
  refine qTs 16 rfl (.inr ⟨by rfl, rfl⟩) ?_
  try simp only [Act.put, qa, qb, qc, qD, qE, qF]
  refine qTs 17 rfl (.inr ⟨by rfl, rfl⟩) ?_
  try simp only [Act.put, qa, qb, qc, qD, qE, qF]
  refine qTs 18 rfl (.inr ⟨by rfl, rfl⟩) ?_
  try simp only [Act.put, qa, qb, qc, qD, qE, qF]
  refine qTk (v := ?_) 19 rfl (.inl ⟨by rfl, ?_⟩) ?_
  rotate_left
  ·
   (intro w hSw; (try dsimp only at hSw); go_simp; try with_reducible rfl)
  try simp only [Act.put, qa, qb, qc, qD, qE, qF]
  refine qTk (v := ?_) 20 rfl (.inl ⟨by rfl, ?_⟩) ?_
  rotate_left
  ·
   (intro w hSw; (try dsimp only at hSw); go_simp; try with_reducible rfl)
  try simp only [Act.put, qa, qb, qc, qD, qE, qF]
  refine wpTail_done qKr ?_ _
  clear hHeld 
  go_wp2_with fail
  go_ret
  exact ⟨by rw [show sameV b1 s1 t1 b2 s2 t2 = false by unfold sameV; rw [hB3.out] <;> rfl] <;> rfl, (Xw2.trans qXt)⟩
 ·
  replace hB3 := Lib.hid hB3
  refine hK.out _ _ ⟨b10, b11, b12, b20, b21, b22⟩ (fun hHeld => ?_)
  clear hK K
  try simp only [Act.put, qa, qb, qc, qD, qE, qF]
  refine qTk (v := ?_) 2 rfl (.inl ⟨by rfl, ?_⟩) ?_
  rotate_left
  ·
   (intro w hSw; (try dsimp only at hSw); go_simp; try with_reducible rfl)
  try simp only [Act.put, qa, qb, qc, qD, qE, qF]
  refine qTk (v := ?_) 3 rfl (.inl ⟨by rfl, ?_⟩) ?_
  rotate_left
  ·
   (intro w hSw; (try dsimp only at hSw); go_simp; try with_reducible rfl)
  try simp only [Act.put, qa, qb, qc, qD, qE, qF]
  refine wpTail_one (i := 4) qKr rfl rfl (fun K hK => ?_)
  try simp only [Act.put, qa, qb, qc, qD, qE, qF]
  go_simp
  refine (isView_c b2 (.slice q0 s2.length d0) (.slice q1 t2.length d1) s2 t2 _ _ _ (h2.ext (Xw2.trans qXt)) (k2.ext (Xw2.trans qXt))).mono ?_
  rintro e w3 ⟨rfl, xw3⟩
  have Lw3 : Ext w2 w3 := Ext.trans qXt xw3
  have Xw3 : Ext w w3 := Xw2.trans Lw3
  replace b10 := Lw3.cell b10
  replace b11 := Lw3.cell b11
  replace b12 := Lw3.cell b12
  replace b20 := Lw3.cell b20
  replace b21 := Lw3.cell b21
  replace b22 := Lw3.cell b22
  have z_b1 : w.heap.size < w3.heap.size := qB b10
  have z_b2 : w.heap.size + 1 < w3.heap.size := qB b20
  have s_w3 : w.heap.size ≤ w3.heap.size := Xw3.size
  clear xw3
  cases hB4 : viewB b2 s2 t2
  ·
   replace hB4 := Lib.hid hB4
   refine hK.out _ _ ⟨b10, b11, b12, b20, b21, b22⟩ (fun hHeld => ?_)
   clear hK K
   try simp only [Act.put, qa, qb, qc, qD, qE, qF]
   refine qTk (v := ?_) 5 rfl (.inl ⟨by rfl, ?_⟩) ?_
   rotate_left
   ·
    (intro w hSw; (try dsimp only at hSw); go_simp; try with_reducible rfl)
   try simp only [Act.put, qa, qb, qc, qD, qE, qF]
   refine qTk (v := ?_) 6 rfl (.inl ⟨by rfl, ?_⟩) ?_
   rotate_left
   ·
    (intro w hSw; (try dsimp only at hSw); go_simp; try with_reducible rfl)
   try simp only [Act.put, qa, qb, qc, qD, qE, qF]
   refine qTs 7 rfl (.inr ⟨by rfl, rfl⟩) ?_
   try simp only [Act.put, qa, qb, qc, qD, qE, qF]
   refine qTs 8 rfl (.inr ⟨by rfl, rfl⟩) ?_
   try simp only [Act.put, qa, qb, qc, qD, qE, qF]
   refine qTs 9 rfl (.inr ⟨by rfl, rfl⟩) ?_
   try simp only [Act.put, qa, qb, qc, qD, qE, qF]
   refine qTs 10 rfl (.inr ⟨by rfl, rfl⟩) ?_
   try simp only [Act.put, qa, qb, qc, qD, qE, qF]
   refine qTs 11 rfl (.inr ⟨by rfl, rfl⟩) ?_
   try simp only [Act.put, qa, qb, qc, qD, qE, qF]
   refine qTk (v := ?_) 12 rfl (.inl ⟨by rfl, ?_⟩) ?_
   rotate_left
   ·
    (intro w hSw; (try dsimp only at hSw); go_simp; try with_reducible rfl)
   try simp only [Act.put, qa, qb, qc, qD, qE, qF]
   refine qTk (v := ?_) 13 rfl (.inl ⟨by rfl, ?_⟩) ?_
   rotate_left
   ·
    (intro w hSw; (try dsimp only at hSw); go_simp; try with_reducible rfl)
   try simp only [Act.put, qa, qb, qc, qD, qE, qF]
   refine qTs 14 rfl (.inr ⟨by rfl, rfl⟩) ?_
   try simp only [Act.put, qa, qb, qc, qD, qE, qF]
   refine qTs 15 rfl (.inr ⟨by rfl, rfl⟩) ?_
   try simp only [Act.put, qa, qb, qc, qD, qE, qF]
   refine qTs 16 rfl (.inr ⟨by rfl, rfl⟩) ?_
   try simp only [Act.put, qa, qb, qc, qD, qE, qF]
   refine qTs 17 rfl (.inr ⟨by rfl, rfl⟩) ?_
   try simp only [Act.put, qa, qb, qc, qD, qE, qF]
   refine qTs 18 rfl (.inr ⟨by rfl, rfl⟩) ?_
   try simp only [Act.put, qa, qb, qc, qD, qE, qF]
   refine qTk (v := ?_) 19 rfl (.inl ⟨by rfl, ?_⟩) ?_
   rotate_left
   ·
    (intro w hSw; (try dsimp only at hSw); go_simp; try with_reducible rfl)
   try simp only [Act.put, qa, qb, qc, qD, qE, qF]
   refine qTk (v := ?_) 20 rfl (.inl ⟨by rfl, ?_⟩) ?_
   rotate_left
   ·
    (intro w hSw; (try dsimp only at hSw); go_simp; try with_reducible rfl)
   try simp only [Act.put, qa, qb, qc, qD, qE, qF]
   refine wpTail_done qKr ?_ _
   clear hHeld 
   go_wp2_with fail
   go_ret
   exact ⟨by rw [show sameV b1 s1 t1 b2 s2 t2 = false by unfold sameV; rw [hB3.out, hB4.out] <;> rfl] <;> rfl, (Xw3.trans qXt)⟩
  ·
   replace hB4 := Lib.hid hB4
   refine hK.out _ _ ⟨b10, b11, b12, b20, b21, b22⟩ (fun hHeld => ?_)
   clear hK K
   try simp only [Act.put, qa, qb, qc, qD, qE, qF]
   refine qTk (v := ?_) 5 rfl (.inl ⟨by rfl, ?_⟩) ?_
   rotate_left
   ·
    (intro w hSw; (try dsimp only at hSw); go_simp; try with_reducible rfl)
   try simp only [Act.put, qa, qb, qc, qD, qE, qF]
   refine qTk (v := ?_) 6 rfl (.inl ⟨by rfl, ?_⟩) ?_
   rotate_left
   ·
    (intro w hSw; (try dsimp only at hSw); go_simp; try with_reducible rfl)
   try simp only [Act.put, qa, qb, qc, qD, qE, qF]
   refine qTk (v := ?_) 7 rfl (.inl ⟨by rfl, ?_⟩) ?_
   rotate_left
   ·
    (intro w hSw; (try dsimp only at hSw); go_simp; try with_reducible rfl)
   try simp only [Act.put, qa, qb, qc, qD, qE, qF]
   refine qTk (v := ?_) 8 rfl (.inl ⟨by rfl, ?_⟩) ?_
   rotate_left
   ·
    (intro w hSw; (try dsimp only at hSw); go_simp; try with_reducible rfl)
   try simp only [Act.put, qa, qb, qc, qD, qE, qF]
   refine qTk (v := ?_) 9 rfl (.inl ⟨by rfl, ?_⟩) ?_
   rotate_left
   ·
    (intro w hSw; (try dsimp only at hSw); go_simp; try with_reducible rfl)
   try simp only [Act.put, qa, qb, qc, qD, qE, qF]
   refine qTk (v := ?_) 10 rfl (.inl ⟨by rfl, ?_⟩) ?_
   rotate_left
   ·
    (intro w hSw; (try dsimp only at hSw); go_simp; try with_reducible rfl)
   try simp only [Act.put, qa, qb, qc, qD, qE, qF]
   refine wpTail_one (i := 11) qKr rfl rfl (fun K hK => ?_)
   try simp only [Act.put, qa, qb, qc, qD, qE, qF]
   go_simp
   refine (equal_x s1 s2 (.slice p0 s1.length c0) (.slice q0 s2.length d0) _ _ _ (h1.ext (Xw3.trans qXt)) (h2.ext (Xw3.trans qXt))).mono ?_
   rintro e w4 ⟨rfl, xw4⟩
   have Lw4 : Ext w3 w4 := Ext.trans qXt xw4
   have Xw4 : Ext w w4 := Xw3.trans Lw4
   replace b10 := Lw4.cell b10
   replace b11 := Lw4.cell b11
   replace b12 := Lw4.cell b12
   replace b20 := Lw4.cell b20
   replace b21 := Lw4.cell b21
   replace b22 := Lw4.cell b22
   have z_b1 : w.heap.size < w4.heap.size := qB b10
   have z_b2 : w.heap.size + 1 < w4.heap.size := qB b20
   have s_w4 : w.heap.size ≤ w4.heap.size := Xw4.size
   clear xw4
   cases hB5 : sameB s1 s2
   ·
    replace hB5 := Lib.hid hB5
    refine hK.out _ _ ⟨b10, b11, b12, b20, b21, b22⟩ (fun hHeld => ?_)
    clear hK K
    try simp only [Act.put, qa, qb, qc, qD, qE, qF]
    refine qTk (v := ?_) 12 rfl (.inl ⟨by rfl, ?_⟩) ?_
    rotate_left
    ·
     (intro w hSw; (try dsimp only at hSw); go_simp; try with_reducible rfl)
    try simp only [Act.put, qa, qb, qc, qD, qE, qF]
    refine qTk (v := ?_) 13 rfl (.inl ⟨by rfl, ?_⟩) ?_
    rotate_left
    ·
     (intro w hSw; (try dsimp only at hSw); go_simp; try with_reducible rfl)
    try simp only [Act.put, qa, qb, qc, qD, qE, qF]
    refine qTs 14 rfl (.inr ⟨by rfl, rfl⟩) ?_
    try simp only [Act.put, qa, qb, qc, qD, qE, qF]
    refine qTs 15 rfl (.inr ⟨by rfl, rfl⟩) ?_
    try simp only [Act.put, qa, qb, qc, qD, qE, qF]
    refine qTs 16 rfl (.inr ⟨by rfl, rfl⟩) ?_
    try simp only [Act.put, qa, qb, qc, qD, qE, qF]
    refine qTs 17 rfl (.inr ⟨by rfl, rfl⟩) ?_
    try simp only [Act.put, qa, qb, qc, qD, qE, qF]
    refine qTs 18 rfl (.inr ⟨by rfl, rfl⟩) ?_
    try simp only [Act.put, qa, qb, qc, qD, qE, qF]
    refine qTk (v := ?_) 19 rfl (.inl ⟨by rfl, ?_⟩) ?_
    rotate_left
    ·
     (intro w hSw; (try dsimp only at hSw); go_simp; try with_reducible rfl)
    try simp only [Act.put, qa, qb, qc, qD, qE, qF]
    refine qTk (v := ?_) 20 rfl (.inl ⟨by rfl, ?_⟩) ?_
    rotate_left
    ·
     (intro w hSw; (try dsimp only at hSw); go_simp; try with_reducible rfl)
    try simp only [Act.put, qa, qb, qc, qD, qE, qF]
    refine wpTail_done qKr ?_ _
    clear hHeld 
    go_wp2_with fail
    go_ret
    exact ⟨by rw [show sameV b1 s1 t1 b2 s2 t2 = false by unfold sameV; rw [hB3.out, hB4.out, hB5.out] <;> rfl] <;> rfl, (Xw4.trans qXt)⟩
   ·
    replace hB5 := Lib.hid hB5
    refine hK.out _ _ ⟨b10, b11, b12, b20, b21, b22⟩ (fun hHeld => ?_)
    clear hK K
    try simp only [Act.put, qa, qb, qc, qD, qE, qF]
    refine qTk (v := ?_) 12 rfl (.inl ⟨by rfl, ?_⟩) ?_
    rotate_left
    ·
     (intro w hSw; (try dsimp only at hSw); go_simp; try with_reducible rfl)
    try simp only [Act.put, qa, qb, qc, qD, qE, qF]
    refine qTk (v := ?_) 13 rfl (.inl ⟨by rfl, ?_⟩) ?_
    rotate_left
    ·
     (intro w hSw; (try dsimp only at hSw); go_simp; try with_reducible rfl)
    try simp only [Act.put, qa, qb, qc, qD, qE, qF]
    refine qTk (v := ?_) 14 rfl (.inl ⟨by rfl, ?_⟩) ?_
    rotate_left
    ·
     (intro w hSw; (try dsimp only at hSw); go_simp; try with_reducible rfl)
    try simp only [Act.put, qa, qb, qc, qD, qE, qF]
    refine qTk (v := ?_) 16 rfl (.inl ⟨by rfl, ?_⟩) ?_
    rotate_left
    ·
     (intro w hSw; (try dsimp only at hSw); go_simp; try with_reducible rfl)
    try simp only [Act.put, qa, qb, qc, qD, qE, qF]
    refine wpTail_one (i := 15) qKr rfl rfl (fun K hK => ?_)
    try simp only [Act.put, qa, qb, qc, qD, qE, qF]
    go_simp
    refine (offsetsOf_c b1 (.slice p0 s1.length c0) (.slice p1 t1.length c1) s1 t1 _ _ _ (h1.ext (Xw4.trans qXt)) (k1.ext (Xw4.trans qXt)) (by first | omega | exact (vw hB3.out).1 | exact (vw hB3.out).2.1 | exact (vw hB3.out).2.2.1 | exact (vw hB3.out).2.2.2 | exact (vw hB4.out).1 | exact (vw hB4.out).2.1 | exact (vw hB4.out).2.2.1 | exact (vw hB4.out).2.2.2) (by first | omega | exact (vw hB3.out).1 | exact (vw hB3.out).2.1 | exact (vw hB3.out).2.2.1 | exact (vw hB3.out).2.2.2 | exact (vw hB4.out).1 | exact (vw hB4.out).2.1 | exact (vw hB4.out).2.2.1 | exact (vw hB4.out).2.2.2) (by first | omega | exact (vw hB3.out).1 | exact (vw hB3.out).2.1 | exact (vw hB3.out).2.2.1 | exact (vw hB3.out).2.2.2 | exact (vw hB4.out).1 | exact (vw hB4.out).2.1 | exact (vw hB4.out).2.2.1 | exact (vw hB4.out).2.2.2)).mono ?_
    rintro e w5 ⟨fv6, rfl, i7, -, xw5⟩
    have Lw5 : Ext w4 w5 := Ext.trans qXt xw5
    have Xw5 : Ext w w5 := Xw4.trans Lw5
    replace b10 := Lw5.cell b10
    replace b11 := Lw5.cell b11
    replace b12 := Lw5.cell b12
    replace b20 := Lw5.cell b20
    replace b21 := Lw5.cell b21
    replace b22 := Lw5.cell b22
    have z_b1 : w.heap.size < w5.heap.size := qB b10
    have z_b2 : w.heap.size + 1 < w5.heap.size := qB b20
    have s_w5 : w.heap.size ≤ w5.heap.size := Xw5.size
    clear xw5
    try simp only [World.size_alloc, World.size_drew] at i7
    obtain ⟨afv6, cfv6, rfl⟩ := i7.form
    refine hK.out _ _ ⟨b10, b11, b12, b20, b21, b22⟩ (fun hHeld => ?_)
    clear hK K
    try simp only [Act.put, qa, qb, qc, qD, qE, qF]
    refine wpTail_one (i := 17) qKr rfl rfl (fun K hK => ?_)
    try simp only [Act.put, qa, qb, qc, qD, qE, qF]
    go_simp
    refine (offsetsOf_c b2 (.slice q0 s2.length d0) (.slice q1 t2.length d1) s2 t2 _ _ _ (h2.ext (Xw5.trans qXt)) (k2.ext (Xw5.trans qXt)) (by first | omega | exact (vw hB3.out).1 | exact (vw hB3.out).2.1 | exact (vw hB3.out).2.2.1 | exact (vw hB3.out).2.2.2 | exact (vw hB4.out).1 | exact (vw hB4.out).2.1 | exact (vw hB4.out).2.2.1 | exact (vw hB4.out).2.2.2) (by first | omega | exact (vw hB3.out).1 | exact (vw hB3.out).2.1 | exact (vw hB3.out).2.2.1 | exact (vw hB3.out).2.2.2 | exact (vw hB4.out).1 | exact (vw hB4.out).2.1 | exact (vw hB4.out).2.2.1 | exact (vw hB4.out).2.2.2) (by first | omega | exact (vw hB3.out).1 | exact (vw hB3.out).2.1 | exact (vw hB3.out).2.2.1 | exact (vw hB3.out).2.2.2 | exact (vw hB4.out).1 | exact (vw hB4.out).2.1 | exact (vw hB4.out).2.2.1 | exact (vw hB4.out).2.2.2)).mono ?_
    rintro e w6 ⟨fv8, rfl, i9, -, xw6⟩
    have Lw6 : Ext w5 w6 := Ext.trans qXt xw6
    have Xw6 : Ext w w6 := Xw5.trans Lw6
    replace b10 := Lw6.cell b10
    replace b11 := Lw6.cell b11
    replace b12 := Lw6.cell b12
    replace b20 := Lw6.cell b20
    replace b21 := Lw6.cell b21
    replace b22 := Lw6.cell b22
    have z_b1 : w.heap.size < w6.heap.size := qB b10
    have z_b2 : w.heap.size + 1 < w6.heap.size := qB b20
    replace i7 := i7.ext Lw6
    have s_w6 : w.heap.size ≤ w6.heap.size := Xw6.size
    clear xw6
    try simp only [World.size_alloc, World.size_drew] at i9
    obtain ⟨afv8, cfv8, rfl⟩ := i9.form
    refine hK.out _ _ ⟨b10, b11, b12, b20, b21, b22⟩ (fun hHeld => ?_)
    clear hK K
    try simp only [Act.put, qa, qb, qc, qD, qE, qF]
    refine wpTail_one (i := 18) qKr rfl rfl (fun K hK => ?_)
    try simp only [Act.put, qa, qb, qc, qD, qE, qF]
    go_simp
    refine (equal_x (offsL b1 s1 t1) (offsL b2 s2 t2) (.slice afv6 ((offsL b1 s1 t1).length) cfv6) (.slice afv8 ((offsL b2 s2 t2).length) cfv8) _ _ _ (i7.ext qXt) (i9.ext qXt)).mono ?_
    rintro e w7 ⟨rfl, xw7⟩
    have Lw7 : Ext w6 w7 := Ext.trans qXt xw7
    have Xw7 : Ext w w7 := Xw6.trans Lw7
    replace b10 := Lw7.cell b10
    replace b11 := Lw7.cell b11
    replace b12 := Lw7.cell b12
    replace b20 := Lw7.cell b20
    replace b21 := Lw7.cell b21
    replace b22 := Lw7.cell b22
    have z_b1 : w.heap.size < w7.heap.size := qB b10
    have z_b2 : w.heap.size + 1 < w7.heap.size := qB b20
    replace i7 := i7.ext Lw7
    replace i9 := i9.ext Lw7
    have s_w7 : w.heap.size ≤ w7.heap.size := Xw7.size
    clear xw7
    cases hB10 : sameB (offsL b1 s1 t1) (offsL b2 s2 t2)
    ·
     replace hB10 := Lib.hid hB10
     refine hK.out _ _ ⟨b10, b11, b12, b20, b21, b22⟩ (fun hHeld => ?_)
     clear hK K
     try simp only [Act.put, qa, qb, qc, qD, qE, qF]
     refine qTk (v := ?_) 19 rfl (.inl ⟨by rfl, ?_⟩) ?_
     rotate_left
     ·
      (intro w hSw; (try dsimp only at hSw); go_simp; try with_reducible rfl)
     try simp only [Act.put, qa, qb, qc, qD, qE, qF]
     refine qTk (v := ?_) 20 rfl (.inl ⟨by rfl, ?_⟩) ?_
     rotate_left
     ·
      (intro w hSw; (try dsimp only at hSw); go_simp; try with_reducible rfl)
     try simp only [Act.put, qa, qb, qc, qD, qE, qF]
     refine wpTail_done qKr ?_ _
     clear hHeld 
     go_wp2_with fail
     go_ret
     exact ⟨by rw [show sameV b1 s1 t1 b2 s2 t2 = false by unfold sameV; rw [hB3.out, hB4.out, hB5.out, hB10.out] <;> rfl] <;> rfl, (Xw7.trans qXt)⟩
    ·
     replace hB10 := Lib.hid hB10
     refine hK.out _ _ ⟨b10, b11, b12, b20, b21, b22⟩ (fun hHeld => ?_)
     clear hK K
     try simp only [Act.put, qa, qb, qc, qD, qE, qF]
     refine qTk (v := ?_) 19 rfl (.inl ⟨by rfl, ?_⟩) ?_
     rotate_left
     ·
      (intro w hSw; (try dsimp only at hSw); go_simp; try with_reducible rfl)
     try simp only [Act.put, qa, qb, qc, qD, qE, qF]
     refine qTk (v := ?_) 20 rfl (.inl ⟨by rfl, ?_⟩) ?_
     rotate_left
     ·
      (intro w hSw; (try dsimp only at hSw); go_simp; try with_reducible rfl)
     try simp only [Act.put, qa, qb, qc, qD, qE, qF]
     refine wpTail_done qKr ?_ _
     clear hHeld 
     go_wp2_with fail
     go_ret
     exact ⟨by rw [show sameV b1 s1 t1 b2 s2 t2 = true by unfold sameV; rw [hB3.out, hB4.out, hB5.out, hB10.out] <;> rfl] <;> rfl, (Xw7.trans qXt)⟩


end Go.Proofs.Ytonnnjaooifpjaa

/- Walks: CountOf of the program. -/
namespace Go.Proofs.Ytonnnjaooifpjaa
open Go.RowKit
set_option linter.unusedVariables false
set_option maxRecDepth 100000


def cntA (s : List Int) : Int := if shapeB s then countL s else -1

set_option maxHeartbeats 1600000 in
theorem implCountOf_c (s : List Int) (v1 : Value) (w : World) (l1 : Nat) (h1 : Ints w l1 v1 s) :
    Calls Try.prog 34 #[v1] w (fun e w' => e = .returned (.int .i64 (cntA s)) ∧ w = w') := by
  obtain ⟨p0, c0, rfl⟩ := h1.form
  go_enter Try.func34, Try.ntmps34
  go_wp2_with fail
  refine (isShape_c s (.slice p0 s.length c0) _ _ (h1.ext qXt)).mono ?_
  rintro e w' ⟨rfl, rfl⟩
  cases hB1 : shapeB s
  · replace hB1 := Lib.hid hB1
    go_wp2_with fail
    go_ret
    exact ⟨by rw [show cntA s = -1 by unfold cntA; rw [hB1.out]; rfl] <;> rfl, rfl⟩
  · replace hB1 := Lib.hid hB1
    go_wp2_with fail
    refine (countOf_c s (.slice p0 s.length c0) _ _ (h1.ext qXt)).mono ?_
    rintro e w' ⟨rfl, rfl⟩
    go_wp2_with fail
    go_ret
    exact ⟨by rw [show cntA s = countL s by unfold cntA; rw [hB1.out]; rfl] <;> rfl, rfl⟩


end Go.Proofs.Ytonnnjaooifpjaa

/- Plain laws: Reshape as the laws ask it. -/
namespace Go.Proofs.Ytonnnjaooifpjaa
open Go.RowKit
set_option linter.unusedVariables false
set_option maxRecDepth 100000

theorem offA_of {b : Int} {s t : List Int} (h : viewB b s t = true) : offA b s t = offsL b s t := by unfold offA; rw [h]; rfl
theorem cntA_of {s : List Int} (h : shapeB s = true) : cntA s = countL s := by unfold cntA; rw [h]; rfl
theorem sameV_of {b1 : Int} {s t1 : List Int} {b2 : Int} {t2 : List Int} (h1 : viewB b1 s t1 = true) (h2 : viewB b2 s t2 = true) (h : offsL b1 s t1 = offsL b2 s t2) : sameV b1 s t1 b2 s t2 = true := by
  unfold sameV; rw [h1, h2, h]; simp [sameB]
theorem rs_law {b : Int} {s t u : List Int} {PB : Int} {PS PT : List Int} (h : rsV b s t u = (PB, PS, PT, true)) :
    PS = u ∧ u.length ≤ 4 ∧ offA PB u PT = offA b s t ∧ viewB b s t = true ∧ viewB PB u PT = true ∧ cntA u = cntA s ∧ ∃ QB QT, rsV PB u PT s = (QB, s, QT, true) ∧ sameV QB s QT b s t = true := by
  obtain ⟨hv, hu, h1, hc, hw, ho, _⟩ := rs_in h
  obtain ⟨QB, QT, h2, h3, h4⟩ := rs_back h
  exact ⟨h1, (shapeB_in hu).1, by rw [offA_of hw, offA_of hv, ho], hv, hw, by rw [cntA_of hu, cntA_of (viewB_in hv).1, hc], QB, QT, h2, sameV_of h3 hv h4⟩
/-- a dense view: it is just a matter of numbers -/
theorem rs_row_law {b : Int} {s t u : List Int} {PB : Int} {PS PT : List Int} {PO : Bool} (h : rsV b s t u = (PB, PS, PT, PO)) (hr : rowB b s t = true) (hu : shapeB u = true) :
    (PO = true → cntA u = cntA s ∧ rowB PB PS PT = true) ∧ (PO = false → ¬ cntA u = cntA s) := by
  have hv : viewB b s t = true := by unfold rowB at hr; simp only [Bool.and_eq_true] at hr; exact hr.1
  have e1 := cntA_of hu
  have e2 := cntA_of (viewB_in hv).1
  constructor
  · intro hp
    subst hp
    obtain ⟨_, _, _, hc, _⟩ := rs_in h
    obtain ⟨PB', PT', h2, h3⟩ := rs_row hr hu hc
    rw [h] at h2
    cases h2
    exact ⟨by rw [e1, e2, hc], h3⟩
  · intro hp hc
    subst hp
    obtain ⟨PB', PT', h2, h3⟩ := rs_row hr hu (by omega)
    rw [h] at h2
    cases h2
end Go.Proofs.Ytonnnjaooifpjaa

/- Walks: SplitDim of the program. -/
namespace Go.Proofs.Ytonnnjaooifpjaa
open Go.RowKit
set_option linter.unusedVariables false
set_option maxRecDepth 100000


/-- SplitDim -/
def spV (b : Int) (s t : List Int) (d o : Int) : VBool := if dimB b s t d && (decide (1 ≤ o) && decide ((s.getD d.toNat 0).tmod o = 0)) then rsV b s t (splitS s d.toNat o ((s.getD d.toNat 0).tdiv o)) else noV
theorem sp_no0 {b : Int} {s t : List Int} {d o : Int} (h : dimB b s t d = false) : spV b s t d o = noV := by unfold spV; rw [h]; rfl
theorem sp_no1 {b : Int} {s t : List Int} {d o : Int} (h : o < 1) : spV b s t d o = noV := by unfold spV; rw [if_neg (by simp only [Bool.and_eq_true, decide_eq_true_eq]; omega)]
theorem sp_no2 {b : Int} {s t : List Int} {D : Nat} {o e : Int} (h : s.getD D 0 = e) (h2 : ¬ e.tmod o = 0) : spV b s t (D : Int) o = noV := by
 unfold spV; rw [Int.toNat_natCast, h, if_neg (by simp only [Bool.and_eq_true, decide_eq_true_eq]; intro h3; exact h2 h3.2.2)]
theorem sp_yes {b : Int} {s t : List Int} {D : Nat} {o e q : Int} {U : List Int} (h : dimB b s t (D : Int) = true) (h2 : ¬ o < 1) (h3 : s.getD D 0 = e) (h4 : e.tmod o = 0) (h5 : e.tdiv o = q) (h6 : splitS s D o q = U) : spV b s t (D : Int) o = rsV b s t U := by
 subst h3; subst h5; subst h6
 unfold spV
 rw [h, Int.toNat_natCast, if_pos (by simp only [Bool.true_and, Bool.and_eq_true, decide_eq_true_eq]; exact ⟨by omega, h4⟩)]
theorem quo_in {e o : Int} (h0 : 0 ≤ e) (h1 : e ≤ 60) (ho : ¬ o < 1) : e.tdiv o = e / o ∧ 0 ≤ e.tdiv o ∧ e.tdiv o ≤ 60 := by
 rw [Int.tdiv_eq_ediv_of_nonneg h0]
 have h2 := Int.ediv_nonneg h0 (show 0 ≤ o by omega)
 have h3 := Int.ediv_le_self o h0
 omega

set_option maxHeartbeats 3200000 in
theorem implSplitDim_c (b1 : Int) (u1 v1 : Value) (s1 t1 : List Int) (d o : Int) (w : World) (l1 m1 : Nat) (h1 : Ints w l1 u1 s1) (k1 : Ints w m1 v1 t1) :
  Calls Try.prog 52 #[.agg #[.int .i64 b1, u1, v1], .int .i64 d, .int .i64 o] w (PVX w (spV b1 s1 t1 d o)) := by
 obtain ⟨p0, c0, rfl⟩ := h1.form
 obtain ⟨p1, c1, rfl⟩ := k1.form
 go_enter Try.func52, Try.ntmps52
 go_wp2_with fail
 refine (hasDim_c b1 (.slice p0 s1.length c0) (.slice p1 t1.length c1) s1 t1 d _ _ _ (h1.ext qXt) (k1.ext qXt)).mono ?_
 rintro e w1 ⟨rfl, xw1⟩
 have Lw1 : Ext w w1 := Ext.trans qXt xw1
 have Xw1 : Ext w w1 := Lw1
 have b10 : w1.cell? ⟨w.heap.size, 0, none⟩ = some (.int .i64 b1) := xw1.cell qCl
 have b11 : w1.cell? ⟨w.heap.size, 1, none⟩ = some (.slice p0 s1.length c0) := xw1.cell qCl
 have b12 : w1.cell? ⟨w.heap.size, 2, none⟩ = some (.slice p1 t1.length c1) := xw1.cell qCl
 have b20 : w1.cell? ⟨w.heap.size + 1, 0, none⟩ = some (.int .i64 0) := xw1.cell qCl
 have b21 : w1.cell? ⟨w.heap.size + 1, 1, none⟩ = some (.slice none 0 0) := xw1.cell qCl
 have b22 : w1.cell? ⟨w.heap.size + 1, 2, none⟩ = some (.slice none 0 0) := xw1.cell qCl
 have f_b20 : w1.frozen? ⟨w.heap.size + 1, 0, none⟩ = false := xw1.frz (by simp <;> omega) qFz
 have f_b21 : w1.frozen? ⟨w.heap.size + 1, 1, none⟩ = false := xw1.frz (by simp <;> omega) qFz
 have f_b22 : w1.frozen? ⟨w.heap.size + 1, 2, none⟩ = false := xw1.frz (by simp <;> omega) qFz
 have z_b1 : w.heap.size < w1.heap.size := qB b10
 have z_b2 : w.heap.size + 1 < w1.heap.size := qB b20
 have s_w1 : w.heap.size ≤ w1.heap.size := Xw1.size
 clear xw1
 cases hB3 : dimB b1 s1 t1 d
 ·
  replace hB3 := Lib.hid hB3
  go_wp2_with fail
  generalize hW1 : (((w1.setCell ⟨w.heap.size + 1, 0, none⟩ (.int .i64 0)).setCell ⟨w.heap.size + 1, 1, none⟩ (.slice none 0 0)).setCell ⟨w.heap.size + 1, 2, none⟩ (.slice none 0 0)) = w2 at *
  have Kw2 : Chg (w.heap.size + 1) (w.heap.size + 1 + 1) w1 w2 := by subst hW1; exact qCh
  have Xw2 : Ext w w2 := by subst hW1; exact qXt
  replace b10 := Kw2.cell (by omega) b10
  replace b11 := Kw2.cell (by omega) b11
  replace b12 := Kw2.cell (by omega) b12
  replace b20 : w2.cell? ⟨w.heap.size + 1, 0, none⟩ = some (.int .i64 0) := by subst hW1; go_simp
  replace f_b20 : w2.frozen? ⟨w.heap.size + 1, 0, none⟩ = false := by subst hW1; go_simp
  replace b21 : w2.cell? ⟨w.heap.size + 1, 1, none⟩ = some (.slice none 0 0) := by subst hW1; go_simp
  replace f_b21 : w2.frozen? ⟨w.heap.size + 1, 1, none⟩ = false := by subst hW1; go_simp
  replace b22 : w2.cell? ⟨w.heap.size + 1, 2, none⟩ = some (.slice none 0 0) := by subst hW1; go_simp
  replace f_b22 : w2.frozen? ⟨w.heap.size + 1, 2, none⟩ = false := by subst hW1; go_simp
  clear Kw2
  have z_b1 : w.heap.size < w2.heap.size := qB b10
  have z_b2 : w.heap.size + 1 < w2.heap.size := qB b20
  have s_w2 : w.heap.size ≤ w2.heap.size := Xw2.size
  clear hW1
  refine bodyPost_ret (v := .tuple #[.agg #[.int .i64 0, .slice none 0 0, .slice none 0 0], .bool false]) (by simp only [results, Try.results52]; go_simp) rfl ?_
  rw [show spV b1 s1 t1 d o = noV from sp_no0 hB3.out]
  exact PVWB.no (Xw2.trans qXt)
 ·
  replace hB3 := Lib.hid hB3
  obtain ⟨hvv, hd0, hd1⟩ := dim_in hB3.out
  obtain ⟨D, rfl⟩ : ∃ D : Nat, d = D := ⟨d.toNat, by omega⟩
  have hDN : D < s1.length := by omega
  obtain ⟨-, hts, -, ht60, -⟩ := viewB_in hvv
  have hs4 := view_small hvv
  have hs60 := Lib.hid hs4.2
  have hs4 := hs4.1
  have hDT : D < t1.length := by omega
  have ht4 : t1.length ≤ 4 := by omega
  have hdl4 : (delL s1 D).length ≤ 4 := by rw [delL_len _ _ hDN]; omega
  replace hts := Lib.hid hts
  replace ht60 := Lib.hid ht60
  replace hvv := Lib.hid hvv
  have hne1 : s1 ≠ [] := fun h => by rw [h] at hDN; simp at hDN
  replace hne1 := Lib.hid hne1
  have hD10 : (0 : Int) ≤ (D : Int) + 1 := by omega
  have hD1t : ((D : Int) + 1).toNat = D + 1 := by omega
  by_cases hc4 : (o : Int) < (1 : Int)
  ·
   go_wp2_with fail
   generalize hW2 : (((w1.setCell ⟨w.heap.size + 1, 0, none⟩ (.int .i64 0)).setCell ⟨w.heap.size + 1, 1, none⟩ (.slice none 0 0)).setCell ⟨w.heap.size + 1, 2, none⟩ (.slice none 0 0)) = w2 at *
   have Kw2 : Chg (w.heap.size + 1) (w.heap.size + 1 + 1) w1 w2 := by subst hW2; exact qCh
   have Xw2 : Ext w w2 := by subst hW2; exact qXt
   replace b10 := Kw2.cell (by omega) b10
   replace b11 := Kw2.cell (by omega) b11
   replace b12 := Kw2.cell (by omega) b12
   replace b20 : w2.cell? ⟨w.heap.size + 1, 0, none⟩ = some (.int .i64 0) := by subst hW2; go_simp
   replace f_b20 : w2.frozen? ⟨w.heap.size + 1, 0, none⟩ = false := by subst hW2; go_simp
   replace b21 : w2.cell? ⟨w.heap.size + 1, 1, none⟩ = some (.slice none 0 0) := by subst hW2; go_simp
   replace f_b21 : w2.frozen? ⟨w.heap.size + 1, 1, none⟩ = false := by subst hW2; go_simp
   replace b22 : w2.cell? ⟨w.heap.size + 1, 2, none⟩ = some (.slice none 0 0) := by subst hW2; go_simp
   replace f_b22 : w2.frozen? ⟨w.heap.size + 1, 2, none⟩ = false := by subst hW2; go_simp
   clear Kw2
   have z_b1 : w.heap.size < w2.heap.size := qB b10
   have z_b2 : w.heap.size + 1 < w2.heap.size := qB b20
   have s_w2 : w.heap.size ≤ w2.heap.size := Xw2.size
   clear hW2
   refine bodyPost_ret (v := .tuple #[.agg #[.int .i64 0, .slice none 0 0, .slice none 0 0], .bool false]) (by simp only [results, Try.results52]; go_simp) rfl ?_
   rw [show spV b1 s1 t1 (D : Int) o = noV from sp_no1 (by omega)]
   exact PVWB.no (Xw2.trans qXt)
  ·
   have ho0 : ¬ (o = 0) := by omega
   have hN_e7 : D < s1.length := (by omega)
   have hI_e7 : (D : Int) < (s1.length : Int) := by omega
   obtain ⟨bl5, ol6, rfl, e70⟩ := h1.at D (by omega)
   have y_e7 : bl5 < w.heap.size := qB e70
   replace e70 := Xw1.cell e70
   obtain ⟨v8, hv8⟩ : ∃ v, s1.getD D 0 = v := ⟨_, rfl⟩
   rw [hv8] at e70
   replace hv8 := Lib.hid hv8
   have z_e7 : bl5 < w1.heap.size := qB e70
   have h60v8 := hs60.out _ (getD_mem (show D < s1.length by omega))
   rw [hv8.out] at h60v8
   by_cases hc9 : ((v8).tmod o : Int) = (0 : Int)
   ·
    have hc9e : (((v8).tmod o : Int) == (0 : Int)) = true := by simpa using hc9
    have hc9n : (((v8).tmod o : Int) != (0 : Int)) = false := by simpa using hc9
    have hc9m : ((v8 % o : Int) == (0 : Int)) = true := by rw [← Int.tmod_eq_emod_of_nonneg (by omega)]; exact hc9e
    have hc9o : ((v8 % o : Int) != (0 : Int)) = false := by rw [← Int.tmod_eq_emod_of_nonneg (by omega)]; exact hc9n
    replace hc9 := Lib.hid hc9
    have Q14_b10 := Lib.hid b10
    have Q14_b11 := Lib.hid b11
    have Q14_b12 := Lib.hid b12
    have Q14_zb1 := z_b1
    have Q14_b20 := Lib.hid b20
    have Q14_f_b20 := Lib.hid f_b20
    have Q14_b21 := Lib.hid b21
    have Q14_f_b21 := Lib.hid f_b21
    have Q14_b22 := Lib.hid b22
    have Q14_f_b22 := Lib.hid f_b22
    have Q14_zb2 := z_b2
    have Q14_e70 := Lib.hid e70
    have Q14_ze7 := z_e7
    have BL15 : Ext w1 w1 := Ext.refl _
    have hln10 : s1.length ≤ 4194304 := ((h1.ext Xw1)).len
    go_wp2_with (at_builtin; refine wpList_app0O rfl (.tmp 28) (.tmp 30) rfl rfl rfl (OwnI.lit0 (w1) w1.heap.size (by simp)) (by simp) ((h1.ext Xw1).ext qXt) ?_)
    intro gr12 rr13 w2 O11 xw2 hg7 Ggr12'
    replace xw2 : Ext w1 w2 := Ext.trans qXt xw2
    have Ggr12 : w1.heap.size ≤ gr12 := by (try simp only [World.size_alloc, World.size_drew] at hg7); omega
    clear hg7
    have Lw2 : Ext w1 w2 := Ext.trans qXt xw2
    have Xw2 : Ext w w2 := Xw1.trans Lw2
    replace b10 := Lw2.cell b10
    replace b11 := Lw2.cell b11
    replace b12 := Lw2.cell b12
    replace b20 := Lw2.cell b20
    replace b21 := Lw2.cell b21
    replace b22 := Lw2.cell b22
    replace f_b20 := Lw2.frz z_b2 f_b20
    replace f_b21 := Lw2.frz z_b2 f_b21
    replace f_b22 := Lw2.frz z_b2 f_b22
    replace e70 := Lw2.cell e70
    have z_b1 : w.heap.size < w2.heap.size := qB b10
    have z_b2 : w.heap.size + 1 < w2.heap.size := qB b20
    have z_e7 : bl5 < w2.heap.size := qB e70
    have s_w2 : w.heap.size ≤ w2.heap.size := Xw2.size
    have BL15_w2 : Ext w1 w2 := BL15.trans Lw2
    clear xw2
    have A16 := O11.cell D (by omega)
    obtain ⟨A16a, A16b⟩ := A16
    obtain ⟨hq7, hq8, hq9⟩ := quo_in (o := o) h60v8.1 h60v8.2 (by omega)
    obtain ⟨q, hq1⟩ : ∃ q, v8.tdiv o = q := ⟨_, rfl⟩
    rw [hq1] at hq7 hq8 hq9
    have hq2 : v8 / o = q := hq7.symm
    clear hq7
    have hq3 : IntKind.i64.wrap q = q := IntWalk.i64_in _ (by omega)
    have ho0 : ¬ (o = 0) := by omega
    obtain ⟨U, hU⟩ : ∃ U, splitS s1 D o q = U := ⟨_, rfl⟩
    have hUl : U.length = s1.length + 1 := by rw [← hU, split_len _ _ _ _ hDN]
    replace hU := Lib.hid hU
    replace hUl := Lib.hid hUl
    go_wp2_with fail
    clear e70 z_e7
    generalize hW3 : (w2.setCell ⟨gr12, D, none⟩ (.int .i64 o)) = w3 at *
    have Kw3 : Chg (gr12) (gr12 + 1) w2 w3 := by subst hW3; exact qCh
    have Xw3 : Ext w w3 := by subst hW3; exact qXt
    have BL15_w3 : Ext w1 w3 := by subst hW3; exact qXt
    replace b10 := BL15_w3.cell Q14_b10.out
    replace b11 := BL15_w3.cell Q14_b11.out
    replace b12 := BL15_w3.cell Q14_b12.out
    replace b20 := BL15_w3.cell Q14_b20.out
    replace f_b20 := BL15_w3.frz Q14_zb2 Q14_f_b20.out
    replace b21 := BL15_w3.cell Q14_b21.out
    replace f_b21 := BL15_w3.frz Q14_zb2 Q14_f_b21.out
    replace b22 := BL15_w3.cell Q14_b22.out
    replace f_b22 := BL15_w3.frz Q14_zb2 Q14_f_b22.out
    have n_O11 := O11.set D (o) (by first | omega | (simp; omega) | (rw [putUp_len]; simp; omega) | (rw [addUp_len]; omega))
    rw [hW3] at n_O11
    replace O11 := n_O11
    clear n_O11
    clear Kw3
    have z_b1 : w.heap.size < w3.heap.size := qB b10
    have z_b2 : w.heap.size + 1 < w3.heap.size := qB b20
    have s_w3 : w.heap.size ≤ w3.heap.size := Xw3.size
    clear hW3
    clear A16a A16b
    have hN_e19 : D < s1.length := (by omega)
    have hI_e19 : (D : Int) < (s1.length : Int) := by omega
    obtain ⟨b_e19, o_e19, h_e19, e190⟩ := h1.at D (by omega)
    cases h_e19
    have y_e19 : bl5 < w.heap.size := qB e190
    replace e190 := Xw3.cell e190
    rw [hv8.out] at e190
    have z_e19 : bl5 < w3.heap.size := qB e190
    refine wp_region_tail (S := fun w' => w'.cell? ⟨w.heap.size, 0, none⟩ = some (.int .i64 b1) ∧ w'.cell? ⟨w.heap.size, 1, none⟩ = some (.slice (some ⟨bl5, ol6, none⟩) s1.length c0) ∧ w'.cell? ⟨w.heap.size, 2, none⟩ = some (.slice p1 t1.length c1) ∧ w'.cell? ⟨bl5, ol6 + D, none⟩ = some (.int .i64 v8)) (fun i => decide (16 ≤ i)) qKr ⟨b10, b11, b12, e190⟩ (fun hHeld => ?_)
    refine qTk (v := ?_) 0 rfl (.inl ⟨by rfl, ?_⟩) ?_
    rotate_left
    ·
     (intro w hSw; (try dsimp only at hSw); go_simp; try with_reducible rfl)
    try simp only [Act.put, qa, qb, qc, qD, qE, qF]
    refine qTk (v := ?_) 1 rfl (.inl ⟨by rfl, ?_⟩) ?_
    rotate_left
    ·
     (intro w hSw; (try dsimp only at hSw); go_simp; try with_reducible rfl)
    try simp only [Act.put, qa, qb, qc, qD, qE, qF]
    refine qTk (v := ?_) 2 rfl (.inl ⟨by rfl, ?_⟩) ?_
    rotate_left
    ·
     (intro w hSw; (try dsimp only at hSw); go_simp; try with_reducible rfl)
    try simp only [Act.put, qa, qb, qc, qD, qE, qF]
    have hw20 : IntKind.i64.wrap ((D : Int) + 1) = (D : Int) + 1 := IntWalk.i64_in _ (by omega)
    refine qTk (v := ?_) 3 rfl (.inl ⟨by rfl, ?_⟩) ?_
    rotate_left
    ·
     (intro w hSw; (try dsimp only at hSw); go_simp; try with_reducible rfl)
    try simp only [Act.put, qa, qb, qc, qD, qE, qF]
    refine qTk (v := ?_) 4 rfl (.inl ⟨by rfl, ?_⟩) ?_
    rotate_left
    ·
     (intro w hSw; (try dsimp only at hSw); go_simp; try with_reducible rfl)
    try simp only [Act.put, qa, qb, qc, qD, qE, qF]
    refine qTk (v := ?_) 5 rfl (.inl ⟨by rfl, ?_⟩) ?_
    rotate_left
    ·
     (intro w hSw; (try dsimp only at hSw); go_simp; try with_reducible rfl)
    try simp only [Act.put, qa, qb, qc, qD, qE, qF]
    refine qTk (v := ?_) 6 rfl (.inl ⟨by rfl, ?_⟩) ?_
    rotate_left
    ·
     (intro w hSw; (try dsimp only at hSw); go_simp; try with_reducible rfl)
    try simp only [Act.put, qa, qb, qc, qD, qE, qF]
    refine qTk (v := ?_) 7 rfl (.inl ⟨by rfl, ?_⟩) ?_
    rotate_left
    ·
     (intro w hSw; (try dsimp only at hSw); go_simp; try with_reducible rfl)
    try simp only [Act.put, qa, qb, qc, qD, qE, qF]
    refine qTk (v := ?_) 8 rfl (.inl ⟨by rfl, ?_⟩) ?_
    rotate_left
    ·
     (intro w hSw; (try dsimp only at hSw); go_simp; try with_reducible rfl)
    try simp only [Act.put, qa, qb, qc, qD, qE, qF]
    refine qTk (v := ?_) 9 rfl (.inl ⟨by rfl, ?_⟩) ?_
    rotate_left
    ·
     (intro w hSw; (try dsimp only at hSw); go_simp; try with_reducible rfl)
    try simp only [Act.put, qa, qb, qc, qD, qE, qF]
    refine qTk (v := ?_) 10 rfl (.inl ⟨by rfl, ?_⟩) ?_
    rotate_left
    ·
     (intro w hSw; (try dsimp only at hSw); go_simp; try with_reducible rfl)
    try simp only [Act.put, qa, qb, qc, qD, qE, qF]
    refine wpTail_one (i := 11) qKr rfl rfl (fun K hK => ?_)
    try simp only [Act.put, qa, qb, qc, qD, qE, qF]
    go_simp
    refine hK.out _ (w3.drew.alloc (.cells #[.int .i64 q] 3)) ⟨(show Ext w3 (w3.drew.alloc (.cells #[.int .i64 q] 3)) from qXt).cell b10, (show Ext w3 (w3.drew.alloc (.cells #[.int .i64 q] 3)) from qXt).cell b11, (show Ext w3 (w3.drew.alloc (.cells #[.int .i64 q] 3)) from qXt).cell b12, (show Ext w3 (w3.drew.alloc (.cells #[.int .i64 q] 3)) from qXt).cell e190⟩ (fun hHeld => ?_)
    clear hK K
    try simp only [Act.put, qa, qb, qc, qD, qE, qF]
    refine wpTail_one (i := 12) qKr rfl rfl (fun K hK => ?_)
    try simp only [Act.put, qa, qb, qc, qD, qE, qF]
    go_simp
    refine (insert_i (s1.set D o) gr12 _ _ _ (D + 1) q _ (w3.drew) (by omega) (O11.ext qXt) (by simp only [List.length_set]; omega) (by simp only [List.length_set]; omega)).mono ?_
    rintro e w4 ⟨gr25, rr26, rfl, i24, Ggr25, Hgr25, Cw4⟩
    have Ew4 : Ext w3 (w3.drew) := qXt
    have e_w4 := Ew4.size
    have zc_w4 := Cw4.size
    simp only [World.size_drew, World.size_alloc] at zc_w4
    have Xw4 : Ext w w4 := Rch.toExt' Cw4 (by omega) (Xw3.trans Ew4)
    replace b10 := Cw4.cell (by omega) (Ew4.cell b10)
    replace b11 := Cw4.cell (by omega) (Ew4.cell b11)
    replace b12 := Cw4.cell (by omega) (Ew4.cell b12)
    replace b20 := Cw4.cell (by omega) (Ew4.cell b20)
    replace f_b20 := Cw4.frzO (by omega) (by omega) (Ew4.frz z_b2 f_b20)
    replace b21 := Cw4.cell (by omega) (Ew4.cell b21)
    replace f_b21 := Cw4.frzO (by omega) (by omega) (Ew4.frz z_b2 f_b21)
    replace b22 := Cw4.cell (by omega) (Ew4.cell b22)
    replace f_b22 := Cw4.frzO (by omega) (by omega) (Ew4.frz z_b2 f_b22)
    replace e190 := Cw4.cell (by omega) (Ew4.cell e190)
    have BL15_w4 : Ext w1 w4 := Rch.toExt' Cw4 (by omega) (BL15_w3.trans Ew4)
    have z_b1 : w.heap.size < w4.heap.size := qB b10
    have z_b2 : w.heap.size + 1 < w4.heap.size := qB b20
    have z_e19 : bl5 < w4.heap.size := qB e190
    have s_w4 : w.heap.size ≤ w4.heap.size := Xw4.size
    clear Cw4 Ew4
    clear O11
    replace i24 := (show insL (s1.set D o) (D + 1) q = U from hU.out) ▸ i24
    refine hK.out _ _ ⟨b10, b11, b12, e190⟩ (fun hHeld => ?_)
    clear hK K
    try simp only [Act.put, qa, qb, qc, qD, qE, qF]
    refine wpTail_one (i := 13) qKr rfl rfl (fun K hK => ?_)
    try simp only [Act.put, qa, qb, qc, qD, qE, qF]
    go_simp
    refine (implReshape_c b1 _ _ s1 t1 _ U _ _ _ (h1.ext (Xw4.trans qXt)) (k1.ext (Xw4.trans qXt)) _ (i24.ext qXt)).mono ?_
    rintro e w5 ⟨fv28u, fv28v, rfl, i29u, i29v, xw5⟩
    have Lw5 : Ext w4 w5 := Ext.trans qXt xw5
    have Xw5 : Ext w w5 := Xw4.trans Lw5
    replace b10 := Lw5.cell b10
    replace b11 := Lw5.cell b11
    replace b12 := Lw5.cell b12
    replace b20 := Lw5.cell b20
    replace b21 := Lw5.cell b21
    replace b22 := Lw5.cell b22
    replace f_b20 := Lw5.frz z_b2 f_b20
    replace f_b21 := Lw5.frz z_b2 f_b21
    replace f_b22 := Lw5.frz z_b2 f_b22
    replace e190 := Lw5.cell e190
    have z_b1 : w.heap.size < w5.heap.size := qB b10
    have z_b2 : w.heap.size + 1 < w5.heap.size := qB b20
    have z_e19 : bl5 < w5.heap.size := qB e190
    replace i24 := i24.ext Lw5
    have s_w5 : w.heap.size ≤ w5.heap.size := Xw5.size
    have BL15_w5 : Ext w1 w5 := BL15_w4.trans Lw5
    clear xw5
    try simp only [World.size_alloc, World.size_drew] at i29u
    try simp only [World.size_alloc, World.size_drew] at i29v
    obtain ⟨afv28u, cfv28u, rfl⟩ := i29u.form
    obtain ⟨afv28v, cfv28v, rfl⟩ := i29v.form
    refine hK.out _ _ ⟨b10, b11, b12, e190⟩ (fun hHeld => ?_)
    clear hK K
    try simp only [Act.put, qa, qb, qc, qD, qE, qF]
    refine qTk (v := ?_) 14 rfl (.inl ⟨by rfl, ?_⟩) ?_
    rotate_left
    ·
     (intro w hSw; (try dsimp only at hSw); go_simp; try with_reducible rfl)
    try simp only [Act.put, qa, qb, qc, qD, qE, qF]
    refine qTk (v := ?_) 15 rfl (.inl ⟨by rfl, ?_⟩) ?_
    rotate_left
    ·
     (intro w hSw; (try dsimp only at hSw); go_simp; try with_reducible rfl)
    try simp only [Act.put, qa, qb, qc, qD, qE, qF]
    refine wpTail_last (i := 16) qKr rfl rfl (fun K hK => ?_)
    try simp only [Act.put, qa, qb, qc, qD, qE, qF]
    go_simp
    refine hK.out _ _ ?_
    clear hK K
    try simp only [Act.put, qa, qb, qc, qD, qE, qF]
    refine wpTail_last (i := 17) qKr rfl rfl (fun K hK => ?_)
    try simp only [Act.put, qa, qb, qc, qD, qE, qF]
    go_simp
    refine hK.out _ _ ?_
    clear hK K
    try simp only [Act.put, qa, qb, qc, qD, qE, qF]
    refine wpTail_done qKr ?_ _
    clear hHeld hw20
    generalize hW4 : (((w5.setCell ⟨w.heap.size + 1, 0, none⟩ (.int .i64 ((rsV b1 s1 t1 U).1))).setCell ⟨w.heap.size + 1, 1, none⟩ (.slice afv28u (((rsV b1 s1 t1 U).2.1).length) cfv28u)).setCell ⟨w.heap.size + 1, 2, none⟩ (.slice afv28v (((rsV b1 s1 t1 U).2.2.1).length) cfv28v)) = w6 at *
    have Kw6 : Chg (w.heap.size + 1) (w.heap.size + 1 + 1) w5 w6 := by subst hW4; exact qCh
    have Xw6 : Ext w w6 := by subst hW4; exact qXt
    replace b10 := Kw6.cell (by omega) b10
    replace b11 := Kw6.cell (by omega) b11
    replace b12 := Kw6.cell (by omega) b12
    replace b20 : w6.cell? ⟨w.heap.size + 1, 0, none⟩ = some (.int .i64 ((rsV b1 s1 t1 U).1)) := by subst hW4; go_simp
    replace f_b20 : w6.frozen? ⟨w.heap.size + 1, 0, none⟩ = false := by subst hW4; go_simp
    replace b21 : w6.cell? ⟨w.heap.size + 1, 1, none⟩ = some (.slice afv28u (((rsV b1 s1 t1 U).2.1).length) cfv28u) := by subst hW4; go_simp
    replace f_b21 : w6.frozen? ⟨w.heap.size + 1, 1, none⟩ = false := by subst hW4; go_simp
    replace b22 : w6.cell? ⟨w.heap.size + 1, 2, none⟩ = some (.slice afv28v (((rsV b1 s1 t1 U).2.2.1).length) cfv28v) := by subst hW4; go_simp
    replace f_b22 : w6.frozen? ⟨w.heap.size + 1, 2, none⟩ = false := by subst hW4; go_simp
    replace e190 := Kw6.cell (by omega) e190
    replace i24 := i24.chgN Kw6 (by omega)
    replace i29u := i29u.chg Kw6 (by omega)
    replace i29v := i29v.chg Kw6 (by omega)
    clear Kw6
    have z_b1 : w.heap.size < w6.heap.size := qB b10
    have z_b2 : w.heap.size + 1 < w6.heap.size := qB b20
    have z_e19 : bl5 < w6.heap.size := qB e190
    have s_w6 : w.heap.size ≤ w6.heap.size := Xw6.size
    clear hW4
    go_wp2_with fail
    refine bodyPost_ret (v := .tuple #[.agg #[.int .i64 ((rsV b1 s1 t1 U).1), .slice afv28u (((rsV b1 s1 t1 U).2.1).length) cfv28u, .slice afv28v (((rsV b1 s1 t1 U).2.2.1).length) cfv28v], .bool ((rsV b1 s1 t1 U).2.2.2)]) (by simp only [results, Try.results52]; go_simp) rfl ?_
    rw [sp_yes hB3.out (by omega) hv8.out hc9.out hq1 hU.out]
    exact ⟨_, _, rfl, i29u.lower (by omega), i29v.lower (by omega), (Xw6.trans qXt)⟩
   ·
    have hc9e : (((v8).tmod o : Int) == (0 : Int)) = false := by simpa using hc9
    have hc9n : (((v8).tmod o : Int) != (0 : Int)) = true := by simpa using hc9
    have hc9m : ((v8 % o : Int) == (0 : Int)) = false := by rw [← Int.tmod_eq_emod_of_nonneg (by omega)]; exact hc9e
    have hc9o : ((v8 % o : Int) != (0 : Int)) = true := by rw [← Int.tmod_eq_emod_of_nonneg (by omega)]; exact hc9n
    replace hc9 := Lib.hid hc9
    go_wp2_with fail
    generalize hW5 : (((w1.setCell ⟨w.heap.size + 1, 0, none⟩ (.int .i64 0)).setCell ⟨w.heap.size + 1, 1, none⟩ (.slice none 0 0)).setCell ⟨w.heap.size + 1, 2, none⟩ (.slice none 0 0)) = w2 at *
    have Kw2 : Chg (w.heap.size + 1) (w.heap.size + 1 + 1) w1 w2 := by subst hW5; exact qCh
    have Xw2 : Ext w w2 := by subst hW5; exact qXt
    replace b10 := Kw2.cell (by omega) b10
    replace b11 := Kw2.cell (by omega) b11
    replace b12 := Kw2.cell (by omega) b12
    replace b20 : w2.cell? ⟨w.heap.size + 1, 0, none⟩ = some (.int .i64 0) := by subst hW5; go_simp
    replace f_b20 : w2.frozen? ⟨w.heap.size + 1, 0, none⟩ = false := by subst hW5; go_simp
    replace b21 : w2.cell? ⟨w.heap.size + 1, 1, none⟩ = some (.slice none 0 0) := by subst hW5; go_simp
    replace f_b21 : w2.frozen? ⟨w.heap.size + 1, 1, none⟩ = false := by subst hW5; go_simp
    replace b22 : w2.cell? ⟨w.heap.size + 1, 2, none⟩ = some (.slice none 0 0) := by subst hW5; go_simp
    replace f_b22 : w2.frozen? ⟨w.heap.size + 1, 2, none⟩ = false := by subst hW5; go_simp
    replace e70 := Kw2.cell (by omega) e70
    clear Kw2
    have z_b1 : w.heap.size < w2.heap.size := qB b10
    have z_b2 : w.heap.size + 1 < w2.heap.size := qB b20
    have z_e7 : bl5 < w2.heap.size := qB e70
    have s_w2 : w.heap.size ≤ w2.heap.size := Xw2.size
    clear hW5
    refine bodyPost_ret (v := .tuple #[.agg #[.int .i64 0, .slice none 0 0, .slice none 0 0], .bool false]) (by simp only [results, Try.results52]; go_simp) rfl ?_
    rw [show spV b1 s1 t1 (D : Int) o = noV from sp_no2 hv8.out hc9.out]
    exact PVWB.no (Xw2.trans qXt)


end Go.Proofs.Ytonnnjaooifpjaa

/- Plain laws: a dimension that is split can be joined. -/
namespace Go.Proofs.Ytonnnjaooifpjaa
open Go.RowKit
set_option linter.unusedVariables false
set_option maxRecDepth 100000

theorem sp_law {b : Int} {s t : List Int} {d o : Int} {PB : Int} {PS PT : List Int} (h : spV b s t d o = (PB, PS, PT, true)) :
    ∃ D : Nat, d = (D : Int) ∧ D < PS.length ∧ D ≤ 4 ∧ PS.getD D 0 = o ∧ offA PB PS PT = offA b s t ∧ ∃ QB QT, jnV PB PS PT (D : Int) = (QB, s, QT, true) ∧ sameV QB s QT b s t = true := by
  unfold spV at h
  split at h
  · rename_i h1
    simp only [Bool.and_eq_true, decide_eq_true_eq] at h1
    obtain ⟨hd, ho, hm⟩ := h1
    obtain ⟨hv, hd0, hd1⟩ := dim_in hd
    obtain ⟨D, rfl⟩ : ∃ D : Nat, d = D := ⟨d.toNat, by omega⟩
    rw [Int.toNat_natCast] at h hm
    obtain ⟨e, he⟩ : ∃ e, s.getD D 0 = e := ⟨_, rfl⟩
    rw [he] at h hm
    obtain ⟨q, hq⟩ : ∃ q, e.tdiv o = q := ⟨_, rfl⟩
    rw [hq] at h
    have hDN : D < s.length := by omega
    have hoq : o * q = e := by
      have := Int.tmod_add_mul_tdiv e o
      rw [hm, hq] at this; omega
    obtain ⟨hU, hu4, hoff, _, hw, _, QB, QT, h2, h3⟩ := rs_law h
    subst hU
    have hl := split_len s D o q hDN
    obtain ⟨g1, g2⟩ := split_get s D o q hDN
    have hj := split_join s D o q hDN
    generalize splitS s D o q = U at *
    have hdim : dimB PB U PT (D : Int) = true := by unfold dimB inB; rw [hw]; simp; omega
    refine ⟨D, rfl, by omega, by omega, g1, hoff, QB, QT, ?_, h3⟩
    rw [jn_yes hdim (by omega) g1 g2 (U := s) (by rw [hoq, ← he]; exact hj)]
    exact h2
  · unfold noV at h; cases h
end Go.Proofs.Ytonnnjaooifpjaa

/- Walks: copies that are rows. -/
namespace Go.Proofs.Ytonnnjaooifpjaa
open Go.RowKit
set_option linter.unusedVariables false
set_option maxRecDepth 100000

set_option maxHeartbeats 1600000 in
theorem copyIntsO_c (v3 : Value) (u : List Int) (w : World) (l3 : Nat) (h3 : Ints w l3 v3 u) :
    Calls Try.prog 82 #[v3] w (PIntsO w u) := by
  obtain ⟨p2, c2, rfl⟩ := h3.form
  go_enter Try.func82, Try.ntmps82
  have BL6 : Ext w w := Ext.refl _
  have hln1 : u.length ≤ 4194304 := (h3).len
  go_wp2_with (at_builtin; refine wpList_app0O rfl (.tmp 3) (.tmp 4) rfl rfl rfl (OwnI.lit0 (w) w.heap.size (by simp)) (by simp) (h3.ext qXt) ?_)
  intro gr3 rr4 w1 O2 xw1 hg7 Ggr3'
  replace xw1 : Ext w w1 := Ext.trans qXt xw1
  have Ggr3 : w.heap.size ≤ gr3 := by (try simp only [World.size_alloc, World.size_drew] at hg7); omega
  clear hg7
  have Lw1 : Ext w w1 := Ext.trans qXt xw1
  have Xw1 : Ext w w1 := Lw1
  have s_w1 : w.heap.size ≤ w1.heap.size := Xw1.size
  have BL6_w1 : Ext w w1 := BL6.trans Lw1
  clear xw1
  go_wp2_with fail
  go_ret
  exact ⟨_, _, rfl, O2.lower (by omega), by omega, Ggr3', Xw1⟩


end Go.Proofs.Ytonnnjaooifpjaa

/- Walks: Reshape of the reference. -/
namespace Go.Proofs.Ytonnnjaooifpjaa
open Go.RowKit
set_option linter.unusedVariables false
set_option maxRecDepth 100000


/-- what the reference reckons: a view, and whether its cells are the same -/
def rsR (b : Int) (s t u : List Int) : VBool :=
 if countL u = countL s then (if countL u = 0 then (0, u, List.replicate u.length 0, true) else (b, u, reshS (offsL b s t) u u.length, sameB (offsL b u (reshS (offsL b s t) u u.length)) (offsL b s t))) else noV
theorem rsR_val {b : Int} {s t u C T : List Int} (hC : offsL b s t = C) (hT : reshS C u u.length = T) :
  rsR b s t u = if countL u = countL s then (if countL u = 0 then (0, u, List.replicate u.length 0, true) else (b, u, T, sameB (offsL b u T) C)) else noV := by
 subst hC; subst hT; rfl
theorem rnk_eq {w : World} {xs ys : List Int} {v v2 : Value} {J : Int} {f : Nat} (hJ : rankL xs ys = J) (h : Calls Try.prog f #[v, v2] w fun e w' => e = .returned (.int .i64 (rankL xs ys)) ∧ Ext w w') : Calls Try.prog f #[v, v2] w fun e w' => e = .returned (.int .i64 J) ∧ Ext w w' := hJ ▸ h
theorem rs_ref {b : Int} {s t u : List Int} (hv : viewB b s t = true) (hu : shapeB u = true) {B : Int} {S T : List Int} {o : Bool} (h : rsR b s t u = (B, S, T, o)) : rsV b s t u = if o then madeV B S T else noV := by
 rw [rs_val hv hu rfl rfl]
 unfold rsR at h
 by_cases h1 : countL u = countL s
 ·
  rw [if_pos h1] at h ⊢
  by_cases h0 : countL u = 0
  ·
   rw [if_pos h0] at h ⊢
   cases h
   rw [if_pos rfl]; unfold madeV
   rw [zero_view hu h0]; rfl
  ·
   rw [if_neg h0] at h ⊢
   cases h
   unfold madeV
   generalize viewB b u (reshS (offsL b s t) u u.length) = x
   generalize sameB (offsL b u (reshS (offsL b s t) u u.length)) (offsL b s t) = y
   cases x <;> cases y <;> rfl
 ·
  rw [if_neg h1] at h ⊢
  cases h; rfl

set_option maxHeartbeats 6400000 in
theorem reshaped_c (b1 : Int) (u1 v1 : Value) (s1 t1 : List Int) (v3 : Value) (u : List Int) (w : World) (l1 m1 : Nat) (h1 : Ints w l1 u1 s1) (k1 : Ints w m1 v1 t1) (l3 : Nat) (h3 : Ints w l3 v3 u) (hv : viewB b1 s1 t1 = true) (hu : shapeB u = true) :
  Calls Try.prog 118 #[.agg #[.int .i64 b1, u1, v1], v3] w (PVX w (rsR b1 s1 t1 u)) := by
 obtain ⟨p0, c0, rfl⟩ := h1.form
 obtain ⟨p1, c1, rfl⟩ := k1.form
 obtain ⟨p2, c2, rfl⟩ := h3.form
 have hus := Small.of hu
 have hu4 := hus.1
 have hu60 := Lib.hid hus.2
 replace hus := Lib.hid hus
 replace hv := Lib.hid hv
 replace hu := Lib.hid hu
 go_enter Try.func118, Try.ntmps118
 go_wp2_with fail
 generalize hW1 : (w.alloc (.cells #[.int .i64 b1, .slice p0 s1.length c0, .slice p1 t1.length c1] 25)).alloc (.cells #[.int .i64 0, .slice none 0 0, .slice none 0 0] 25) = w1 at *
 have Lw1 : Ext w w1 := by subst hW1; exact qXt
 have Xw1 : Ext w w1 := by subst hW1; exact Lw1
 have b10 : w1.cell? ⟨w.heap.size, 0, none⟩ = some (.int .i64 b1) := by subst hW1; exact qCl
 have b11 : w1.cell? ⟨w.heap.size, 1, none⟩ = some (.slice p0 s1.length c0) := by subst hW1; exact qCl
 have b12 : w1.cell? ⟨w.heap.size, 2, none⟩ = some (.slice p1 t1.length c1) := by subst hW1; exact qCl
 have b20 : w1.cell? ⟨w.heap.size + 1, 0, none⟩ = some (.int .i64 0) := by subst hW1; exact qCl
 have b21 : w1.cell? ⟨w.heap.size + 1, 1, none⟩ = some (.slice none 0 0) := by subst hW1; exact qCl
 have b22 : w1.cell? ⟨w.heap.size + 1, 2, none⟩ = some (.slice none 0 0) := by subst hW1; exact qCl
 have f_b20 : w1.frozen? ⟨w.heap.size + 1, 0, none⟩ = false := by subst hW1; exact qFz
 have f_b21 : w1.frozen? ⟨w.heap.size + 1, 1, none⟩ = false := by subst hW1; exact qFz
 have f_b22 : w1.frozen? ⟨w.heap.size + 1, 2, none⟩ = false := by subst hW1; exact qFz
 have z_b1 : w.heap.size < w1.heap.size := qB b10
 have z_b2 : w.heap.size + 1 < w1.heap.size := qB b20
 have s_w1 : w.heap.size ≤ w1.heap.size := Xw1.size
 clear hW1
 have Q3_b10 := Lib.hid b10
 have Q3_b11 := Lib.hid b11
 have Q3_b12 := Lib.hid b12
 have Q3_zb1 := z_b1
 have Q3_b20 := Lib.hid b20
 have Q3_f_b20 := Lib.hid f_b20
 have Q3_b21 := Lib.hid b21
 have Q3_f_b21 := Lib.hid f_b21
 have Q3_b22 := Lib.hid b22
 have Q3_f_b22 := Lib.hid f_b22
 have Q3_zb2 := z_b2
 have BL4 : Ext w1 w1 := Ext.refl _
 go_cut [6] (fun s6 wx => ∃ (g3 : Nat) (r3 : Nat) (g6 : Nat) (g8 : Nat), s6 = .pointer (some ⟨g8, 0, none⟩) ∧ Ext w1 wx ∧ w1.heap.size ≤ g3 ∧ g3 < wx.heap.size ∧ w1.heap.size ≤ g6 ∧ g6 < wx.heap.size ∧ w1.heap.size ≤ g8 ∧ g8 < wx.heap.size ∧ g3 ≠ g6 ∧ g3 ≠ g8 ∧ g6 ≠ g8 ∧ OwnI wx w1.heap.size (.slice (some ⟨g3, 0, none⟩) u.length r3) u ∧ OwnI wx w1.heap.size (.slice (some ⟨g6, 0, none⟩) u.length u.length) (List.replicate u.length 0) ∧ wx.cell? ⟨g8, 0, none⟩ = some (.int .i64 b1) ∧ wx.frozen? ⟨g8, 0, none⟩ = false ∧ wx.cell? ⟨g8, 1, none⟩ = some (.slice (some ⟨g3, 0, none⟩) u.length r3) ∧ wx.frozen? ⟨g8, 1, none⟩ = false ∧ wx.cell? ⟨g8, 2, none⟩ = some (.slice (some ⟨g6, 0, none⟩) u.length u.length) ∧ wx.frozen? ⟨g8, 2, none⟩ = false)
 case first =>
  have X1 : Ext w1 w1 := Ext.refl _
  refine wp_region_held_drew (S := fun w' => w'.cell? ⟨w.heap.size, 0, none⟩ = some (.int .i64 b1) ∧ w'.cell? ⟨w.heap.size, 1, none⟩ = some (.slice p0 s1.length c0) ∧ w'.cell? ⟨w.heap.size, 2, none⟩ = some (.slice p1 t1.length c1) ∧ w'.cell? ⟨w.heap.size + 1, 0, none⟩ = some (.int .i64 0) ∧ w'.cell? ⟨w.heap.size + 1, 1, none⟩ = some (.slice none 0 0) ∧ w'.cell? ⟨w.heap.size + 1, 2, none⟩ = some (.slice none 0 0)) qKr ⟨b10, b11, b12, b20, b21, b22⟩ (fun hHeld => ?_)
  refine qHk (v := ?_) 0 rfl (.inl ⟨by rfl, ?_⟩) ?_
  rotate_left
  ·
   (intro w hSw; (try dsimp only at hSw); go_simp; try with_reducible rfl)
  try simp only [Act.put, qa, qb, qc, qD, qE, qF]
  refine qHk (v := ?_) 1 rfl (.inl ⟨by rfl, ?_⟩) ?_
  rotate_left
  ·
   (intro w hSw; (try dsimp only at hSw); go_simp; try with_reducible rfl)
  try simp only [Act.put, qa, qb, qc, qD, qE, qF]
  refine qHk (v := ?_) 2 rfl (.inl ⟨by rfl, ?_⟩) ?_
  rotate_left
  ·
   (intro w hSw; (try dsimp only at hSw); go_simp; try with_reducible rfl)
  try simp only [Act.put, qa, qb, qc, qD, qE, qF]
  refine qHk (v := ?_) 4 rfl (.inl ⟨by rfl, ?_⟩) ?_
  rotate_left
  ·
   (intro w hSw; (try dsimp only at hSw); go_simp; try with_reducible rfl)
  try simp only [Act.put, qa, qb, qc, qD, qE, qF]
  refine qHk (v := ?_) 5 rfl (.inl ⟨by rfl, ?_⟩) ?_
  rotate_left
  ·
   (intro w hSw; (try dsimp only at hSw); go_simp; try with_reducible rfl)
  try simp only [Act.put, qa, qb, qc, qD, qE, qF]
  refine wpAnyH_ready (rs := [3, 6, 8]) qKr (by simp) ?_
  refine AllReadyH.cons rfl (fun K hK => ?_) (AllReadyH.cons rfl (fun K hK => ?_) (AllReadyH.cons rfl (fun K hK => ?_) AllReadyH.nil))
  ·
   try simp only [Act.put, qa, qb, qc, qD, qE, qF]
   go_simp
   refine (copyIntsO_c (.slice p2 u.length c2) u _ _ (h3.ext (Xw1.trans qXt))).mono ?_
   rintro e w1_1 ⟨g1_4, r1_5, rfl, O1_3, Gg1_4, Hg1_4, x1_2⟩
   simp only [World.size_drew] at Gg1_4 O1_3
   replace x1_2 : Ext w1 w1_1 := Ext.trans qXt x1_2
   have S_w1_1 : w1.heap.size ≤ w1_1.heap.size := x1_2.size
   replace X1 := X1.trans x1_2
   have Yw1_1 := Ext.refl w1_1
   clear x1_2
   refine hK.out _ w1_1 ⟨(show Ext w1 w1_1 from qXt).cell b10, (show Ext w1 w1_1 from qXt).cell b11, (show Ext w1 w1_1 from qXt).cell b12, (show Ext w1 w1_1 from qXt).cell b20, (show Ext w1 w1_1 from qXt).cell b21, (show Ext w1 w1_1 from qXt).cell b22⟩ (fun hHeld => ?_)
   clear hK K
   try simp only [Act.put, qa, qb, qc, qD, qE, qF]
   refine wpAnyH_ready (rs := [6, 8]) qKr (by simp) ?_
   refine AllReadyH.cons rfl (fun K hK => ?_) (AllReadyH.cons rfl (fun K hK => ?_) AllReadyH.nil)
   ·
    try simp only [Act.put, qa, qb, qc, qD, qE, qF]
    have hmk := mk_ints u.length (by omega)
    go_simp
    refine hK.out _ (w1_1.alloc (.cells (madeCells #[Value.int .i64 0] u.length) 3)) ⟨(show Ext w1 (w1_1.alloc (.cells (madeCells #[Value.int .i64 0] u.length) 3)) from qXt).cell b10, (show Ext w1 (w1_1.alloc (.cells (madeCells #[Value.int .i64 0] u.length) 3)) from qXt).cell b11, (show Ext w1 (w1_1.alloc (.cells (madeCells #[Value.int .i64 0] u.length) 3)) from qXt).cell b12, (show Ext w1 (w1_1.alloc (.cells (madeCells #[Value.int .i64 0] u.length) 3)) from qXt).cell b20, (show Ext w1 (w1_1.alloc (.cells (madeCells #[Value.int .i64 0] u.length) 3)) from qXt).cell b21, (show Ext w1 (w1_1.alloc (.cells (madeCells #[Value.int .i64 0] u.length) 3)) from qXt).cell b22⟩ (fun hHeld => ?_)
    clear hK K hmk
    try simp only [Act.put, qa, qb, qc, qD, qE, qF]
    generalize hW2 : w1_1.alloc (.cells (madeCells #[Value.int .i64 0] u.length) 3) = w1_6 at *
    have S_w1_6 : w1_1.heap.size < w1_6.heap.size := by subst hW2; simp
    have hx7 : Ext w1_1 w1_6 := by subst hW2; exact qXt
    replace Yw1_1 := Yw1_1.trans hx7
    replace X1 := X1.trans hx7
    clear hx7
    have O1_7 : OwnI w1_6 w1_1.heap.size (.slice (some ⟨w1_1.heap.size, 0, none⟩) u.length u.length) (List.replicate u.length 0) := by subst hW2; exact OwnI.made _ _ _ (by simp) (by omega)
    have Yw1_6 := Ext.refl w1_6
    clear hW2
    refine qHk (v := ?_) 7 rfl (.inl ⟨by rfl, ?_⟩) ?_
    rotate_left
    ·
     (intro w hSw; (try dsimp only at hSw); go_simp; try with_reducible rfl)
    try simp only [Act.put, qa, qb, qc, qD, qE, qF]
    refine qHr 8 rfl (fun K hK => ?_)
    try simp only [Act.put, qa, qb, qc, qD, qE, qF]
    go_simp
    refine hK.out _ (w1_6.alloc (.cells #[.int .i64 0, .slice none 0 0, .slice none 0 0] 25)) ⟨(show Ext w1 (w1_6.alloc (.cells #[.int .i64 0, .slice none 0 0, .slice none 0 0] 25)) from qXt).cell b10, (show Ext w1 (w1_6.alloc (.cells #[.int .i64 0, .slice none 0 0, .slice none 0 0] 25)) from qXt).cell b11, (show Ext w1 (w1_6.alloc (.cells #[.int .i64 0, .slice none 0 0, .slice none 0 0] 25)) from qXt).cell b12, (show Ext w1 (w1_6.alloc (.cells #[.int .i64 0, .slice none 0 0, .slice none 0 0] 25)) from qXt).cell b20, (show Ext w1 (w1_6.alloc (.cells #[.int .i64 0, .slice none 0 0, .slice none 0 0] 25)) from qXt).cell b21, (show Ext w1 (w1_6.alloc (.cells #[.int .i64 0, .slice none 0 0, .slice none 0 0] 25)) from qXt).cell b22⟩ (fun hHeld => ?_)
    clear hK K
    try simp only [Act.put, qa, qb, qc, qD, qE, qF]
    generalize hW3 : w1_6.alloc (.cells #[.int .i64 0, .slice none 0 0, .slice none 0 0] 25) = w1_8 at *
    have S_w1_8 : w1_6.heap.size < w1_8.heap.size := by subst hW3; simp
    have hx7 : Ext w1_6 w1_8 := by subst hW3; exact qXt
    replace Yw1_1 := Yw1_1.trans hx7
    replace Yw1_6 := Yw1_6.trans hx7
    replace X1 := X1.trans hx7
    clear hx7
    have b1_90 : w1_8.cell? ⟨w1_6.heap.size, 0, none⟩ = some (.int .i64 0) := by subst hW3; exact qCl
    have f_b1_90 : w1_8.frozen? ⟨w1_6.heap.size, 0, none⟩ = false := by subst hW3; exact qFz
    have b1_91 : w1_8.cell? ⟨w1_6.heap.size, 1, none⟩ = some (.slice none 0 0) := by subst hW3; exact qCl
    have f_b1_91 : w1_8.frozen? ⟨w1_6.heap.size, 1, none⟩ = false := by subst hW3; exact qFz
    have b1_92 : w1_8.cell? ⟨w1_6.heap.size, 2, none⟩ = some (.slice none 0 0) := by subst hW3; exact qCl
    have f_b1_92 : w1_8.frozen? ⟨w1_6.heap.size, 2, none⟩ = false := by subst hW3; exact qFz
    have z_b1_9 : w1_6.heap.size < w1_8.heap.size := by subst hW3; exact S_w1_8
    have Yw1_8 := Ext.refl w1_8
    clear hW3
    refine qHr 9 rfl (fun K hK => ?_)
    try simp only [Act.put, qa, qb, qc, qD, qE, qF]
    replace b1_90 := Yw1_8.cell b1_90
    replace b1_91 := Yw1_8.cell b1_91
    replace b1_92 := Yw1_8.cell b1_92
    replace f_b1_90 := Yw1_8.frz z_b1_9 f_b1_90
    replace f_b1_91 := Yw1_8.frz z_b1_9 f_b1_91
    replace f_b1_92 := Yw1_8.frz z_b1_9 f_b1_92
    go_simp
    have zz := X1.size
    have K1 : Chg w1_6.heap.size (w1_6.heap.size + 1) w1_8 (((w1_8.setCell ⟨w1_6.heap.size, 0, none⟩ (.int .i64 b1)).setCell ⟨w1_6.heap.size, 1, none⟩ (.slice (some ⟨g1_4, 0, none⟩) u.length r1_5)).setCell ⟨w1_6.heap.size, 2, none⟩ (.slice (some ⟨w1_1.heap.size, 0, none⟩) u.length u.length)) := (Chg.setCell (p := ⟨w1_6.heap.size, 2, none⟩) (Chg.setCell (p := ⟨w1_6.heap.size, 1, none⟩) (Chg.setCell (p := ⟨w1_6.heap.size, 0, none⟩) (Chg.refl w1_6.heap.size (w1_6.heap.size + 1) w1_8) (Nat.le_refl _) (Nat.lt_succ_self _) _) (Nat.le_refl _) (Nat.lt_succ_self _) _) (Nat.le_refl _) (Nat.lt_succ_self _) _)
    have n_b1_90 : (((w1_8.setCell ⟨w1_6.heap.size, 0, none⟩ (.int .i64 b1)).setCell ⟨w1_6.heap.size, 1, none⟩ (.slice (some ⟨g1_4, 0, none⟩) u.length r1_5)).setCell ⟨w1_6.heap.size, 2, none⟩ (.slice (some ⟨w1_1.heap.size, 0, none⟩) u.length u.length)).cell? ⟨w1_6.heap.size, 0, none⟩ = some (.int .i64 b1) := by go_simp
    replace f_b1_90 : (((w1_8.setCell ⟨w1_6.heap.size, 0, none⟩ (.int .i64 b1)).setCell ⟨w1_6.heap.size, 1, none⟩ (.slice (some ⟨g1_4, 0, none⟩) u.length r1_5)).setCell ⟨w1_6.heap.size, 2, none⟩ (.slice (some ⟨w1_1.heap.size, 0, none⟩) u.length u.length)).frozen? ⟨w1_6.heap.size, 0, none⟩ = false := by go_simp
    have n_b1_91 : (((w1_8.setCell ⟨w1_6.heap.size, 0, none⟩ (.int .i64 b1)).setCell ⟨w1_6.heap.size, 1, none⟩ (.slice (some ⟨g1_4, 0, none⟩) u.length r1_5)).setCell ⟨w1_6.heap.size, 2, none⟩ (.slice (some ⟨w1_1.heap.size, 0, none⟩) u.length u.length)).cell? ⟨w1_6.heap.size, 1, none⟩ = some (.slice (some ⟨g1_4, 0, none⟩) u.length r1_5) := by go_simp
    replace f_b1_91 : (((w1_8.setCell ⟨w1_6.heap.size, 0, none⟩ (.int .i64 b1)).setCell ⟨w1_6.heap.size, 1, none⟩ (.slice (some ⟨g1_4, 0, none⟩) u.length r1_5)).setCell ⟨w1_6.heap.size, 2, none⟩ (.slice (some ⟨w1_1.heap.size, 0, none⟩) u.length u.length)).frozen? ⟨w1_6.heap.size, 1, none⟩ = false := by go_simp
    have n_b1_92 : (((w1_8.setCell ⟨w1_6.heap.size, 0, none⟩ (.int .i64 b1)).setCell ⟨w1_6.heap.size, 1, none⟩ (.slice (some ⟨g1_4, 0, none⟩) u.length r1_5)).setCell ⟨w1_6.heap.size, 2, none⟩ (.slice (some ⟨w1_1.heap.size, 0, none⟩) u.length u.length)).cell? ⟨w1_6.heap.size, 2, none⟩ = some (.slice (some ⟨w1_1.heap.size, 0, none⟩) u.length u.length) := by go_simp
    replace f_b1_92 : (((w1_8.setCell ⟨w1_6.heap.size, 0, none⟩ (.int .i64 b1)).setCell ⟨w1_6.heap.size, 1, none⟩ (.slice (some ⟨g1_4, 0, none⟩) u.length r1_5)).setCell ⟨w1_6.heap.size, 2, none⟩ (.slice (some ⟨w1_1.heap.size, 0, none⟩) u.length u.length)).frozen? ⟨w1_6.heap.size, 2, none⟩ = false := by go_simp
    replace b1_90 := n_b1_90
    clear n_b1_90
    replace b1_91 := n_b1_91
    clear n_b1_91
    replace b1_92 := n_b1_92
    clear n_b1_92
    replace O1_3 := (O1_3.ext Yw1_1).chgN K1 (by omega)
    replace O1_7 := (O1_7.ext Yw1_6).chgN K1 (by omega)
    replace X1 : Ext w1 (((w1_8.setCell ⟨w1_6.heap.size, 0, none⟩ (.int .i64 b1)).setCell ⟨w1_6.heap.size, 1, none⟩ (.slice (some ⟨g1_4, 0, none⟩) u.length r1_5)).setCell ⟨w1_6.heap.size, 2, none⟩ (.slice (some ⟨w1_1.heap.size, 0, none⟩) u.length u.length)) := (Ext.setCell (p := ⟨w1_6.heap.size, 2, none⟩) (Ext.setCell (p := ⟨w1_6.heap.size, 1, none⟩) (Ext.setCell (p := ⟨w1_6.heap.size, 0, none⟩) X1 (by dsimp only; omega) _) (by dsimp only; omega) _) (by dsimp only; omega) _)
    clear zz K1
    have S_st : w1_8.heap.size ≤ (((w1_8.setCell ⟨w1_6.heap.size, 0, none⟩ (.int .i64 b1)).setCell ⟨w1_6.heap.size, 1, none⟩ (.slice (some ⟨g1_4, 0, none⟩) u.length r1_5)).setCell ⟨w1_6.heap.size, 2, none⟩ (.slice (some ⟨w1_1.heap.size, 0, none⟩) u.length u.length)).heap.size := by simp
    refine hK.out _ ((((w1_8.setCell ⟨w1_6.heap.size, 0, none⟩ (.int .i64 b1)).setCell ⟨w1_6.heap.size, 1, none⟩ (.slice (some ⟨g1_4, 0, none⟩) u.length r1_5)).setCell ⟨w1_6.heap.size, 2, none⟩ (.slice (some ⟨w1_1.heap.size, 0, none⟩) u.length u.length))) ⟨(show Ext w1 ((((w1_8.setCell ⟨w1_6.heap.size, 0, none⟩ (.int .i64 b1)).setCell ⟨w1_6.heap.size, 1, none⟩ (.slice (some ⟨g1_4, 0, none⟩) u.length r1_5)).setCell ⟨w1_6.heap.size, 2, none⟩ (.slice (some ⟨w1_1.heap.size, 0, none⟩) u.length u.length))) from qXt).cell b10, (show Ext w1 ((((w1_8.setCell ⟨w1_6.heap.size, 0, none⟩ (.int .i64 b1)).setCell ⟨w1_6.heap.size, 1, none⟩ (.slice (some ⟨g1_4, 0, none⟩) u.length r1_5)).setCell ⟨w1_6.heap.size, 2, none⟩ (.slice (some ⟨w1_1.heap.size, 0, none⟩) u.length u.length))) from qXt).cell b11, (show Ext w1 ((((w1_8.setCell ⟨w1_6.heap.size, 0, none⟩ (.int .i64 b1)).setCell ⟨w1_6.heap.size, 1, none⟩ (.slice (some ⟨g1_4, 0, none⟩) u.length r1_5)).setCell ⟨w1_6.heap.size, 2, none⟩ (.slice (some ⟨w1_1.heap.size, 0, none⟩) u.length u.length))) from qXt).cell b12, (show Ext w1 ((((w1_8.setCell ⟨w1_6.heap.size, 0, none⟩ (.int .i64 b1)).setCell ⟨w1_6.heap.size, 1, none⟩ (.slice (some ⟨g1_4, 0, none⟩) u.length r1_5)).setCell ⟨w1_6.heap.size, 2, none⟩ (.slice (some ⟨w1_1.heap.size, 0, none⟩) u.length u.length))) from qXt).cell b20, (show Ext w1 ((((w1_8.setCell ⟨w1_6.heap.size, 0, none⟩ (.int .i64 b1)).setCell ⟨w1_6.heap.size, 1, none⟩ (.slice (some ⟨g1_4, 0, none⟩) u.length r1_5)).setCell ⟨w1_6.heap.size, 2, none⟩ (.slice (some ⟨w1_1.heap.size, 0, none⟩) u.length u.length))) from qXt).cell b21, (show Ext w1 ((((w1_8.setCell ⟨w1_6.heap.size, 0, none⟩ (.int .i64 b1)).setCell ⟨w1_6.heap.size, 1, none⟩ (.slice (some ⟨g1_4, 0, none⟩) u.length r1_5)).setCell ⟨w1_6.heap.size, 2, none⟩ (.slice (some ⟨w1_1.heap.size, 0, none⟩) u.length u.length))) from qXt).cell b22⟩ (fun hHeld => ?_)
    clear hK K
    try simp only [Act.put, qa, qb, qc, qD, qE, qF]
    refine wpAnyH_done qKr ?_ _
    clear hHeld
    have zz := X1.size
    go_step
    go_step
    go_meet
    case rel => exact ⟨g1_4, r1_5, w1_1.heap.size, w1_6.heap.size, rfl, X1, (by omega), (by omega), (by omega), (by omega), (by omega), (by omega), (by omega), (by omega), (by omega), (O1_3).lower (by omega), (O1_7).lower (by omega), b1_90, f_b1_90, b1_91, f_b1_91, b1_92, f_b1_92⟩
   ·
    try simp only [Act.put, qa, qb, qc, qD, qE, qF]
    go_simp
    refine hK.out _ (w1_1.alloc (.cells #[.int .i64 0, .slice none 0 0, .slice none 0 0] 25)) ⟨(show Ext w1 (w1_1.alloc (.cells #[.int .i64 0, .slice none 0 0, .slice none 0 0] 25)) from qXt).cell b10, (show Ext w1 (w1_1.alloc (.cells #[.int .i64 0, .slice none 0 0, .slice none 0 0] 25)) from qXt).cell b11, (show Ext w1 (w1_1.alloc (.cells #[.int .i64 0, .slice none 0 0, .slice none 0 0] 25)) from qXt).cell b12, (show Ext w1 (w1_1.alloc (.cells #[.int .i64 0, .slice none 0 0, .slice none 0 0] 25)) from qXt).cell b20, (show Ext w1 (w1_1.alloc (.cells #[.int .i64 0, .slice none 0 0, .slice none 0 0] 25)) from qXt).cell b21, (show Ext w1 (w1_1.alloc (.cells #[.int .i64 0, .slice none 0 0, .slice none 0 0] 25)) from qXt).cell b22⟩ (fun hHeld => ?_)
    clear hK K
    try simp only [Act.put, qa, qb, qc, qD, qE, qF]
    generalize hW4 : w1_1.alloc (.cells #[.int .i64 0, .slice none 0 0, .slice none 0 0] 25) = w1_10 at *
    have S_w1_10 : w1_1.heap.size < w1_10.heap.size := by subst hW4; simp
    have hx7 : Ext w1_1 w1_10 := by subst hW4; exact qXt
    replace Yw1_1 := Yw1_1.trans hx7
    replace X1 := X1.trans hx7
    clear hx7
    have b1_110 : w1_10.cell? ⟨w1_1.heap.size, 0, none⟩ = some (.int .i64 0) := by subst hW4; exact qCl
    have f_b1_110 : w1_10.frozen? ⟨w1_1.heap.size, 0, none⟩ = false := by subst hW4; exact qFz
    have b1_111 : w1_10.cell? ⟨w1_1.heap.size, 1, none⟩ = some (.slice none 0 0) := by subst hW4; exact qCl
    have f_b1_111 : w1_10.frozen? ⟨w1_1.heap.size, 1, none⟩ = false := by subst hW4; exact qFz
    have b1_112 : w1_10.cell? ⟨w1_1.heap.size, 2, none⟩ = some (.slice none 0 0) := by subst hW4; exact qCl
    have f_b1_112 : w1_10.frozen? ⟨w1_1.heap.size, 2, none⟩ = false := by subst hW4; exact qFz
    have z_b1_11 : w1_1.heap.size < w1_10.heap.size := by subst hW4; exact S_w1_10
    have Yw1_10 := Ext.refl w1_10
    clear hW4
    refine qHr 6 rfl (fun K hK => ?_)
    try simp only [Act.put, qa, qb, qc, qD, qE, qF]
    have hmk := mk_ints u.length (by omega)
    go_simp
    refine hK.out _ (w1_10.alloc (.cells (madeCells #[Value.int .i64 0] u.length) 3)) ⟨(show Ext w1 (w1_10.alloc (.cells (madeCells #[Value.int .i64 0] u.length) 3)) from qXt).cell b10, (show Ext w1 (w1_10.alloc (.cells (madeCells #[Value.int .i64 0] u.length) 3)) from qXt).cell b11, (show Ext w1 (w1_10.alloc (.cells (madeCells #[Value.int .i64 0] u.length) 3)) from qXt).cell b12, (show Ext w1 (w1_10.alloc (.cells (madeCells #[Value.int .i64 0] u.length) 3)) from qXt).cell b20, (show Ext w1 (w1_10.alloc (.cells (madeCells #[Value.int .i64 0] u.length) 3)) from qXt).cell b21, (show Ext w1 (w1_10.alloc (.cells (madeCells #[Value.int .i64 0] u.length) 3)) from qXt).cell b22⟩ (fun hHeld => ?_)
    clear hK K hmk
    try simp only [Act.put, qa, qb, qc, qD, qE, qF]
    generalize hW5 : w1_10.alloc (.cells (madeCells #[Value.int .i64 0] u.length) 3) = w1_12 at *
    have S_w1_12 : w1_10.heap.size < w1_12.heap.size := by subst hW5; simp
    have hx7 : Ext w1_10 w1_12 := by subst hW5; exact qXt
    replace Yw1_1 := Yw1_1.trans hx7
    replace Yw1_10 := Yw1_10.trans hx7
    replace X1 := X1.trans hx7
    clear hx7
    have O1_13 : OwnI w1_12 w1_10.heap.size (.slice (some ⟨w1_10.heap.size, 0, none⟩) u.length u.length) (List.replicate u.length 0) := by subst hW5; exact OwnI.made _ _ _ (by simp) (by omega)
    have Yw1_12 := Ext.refl w1_12
    clear hW5
    refine qHk (v := ?_) 7 rfl (.inl ⟨by rfl, ?_⟩) ?_
    rotate_left
    ·
     (intro w hSw; (try dsimp only at hSw); go_simp; try with_reducible rfl)
    try simp only [Act.put, qa, qb, qc, qD, qE, qF]
    refine qHr 9 rfl (fun K hK => ?_)
    try simp only [Act.put, qa, qb, qc, qD, qE, qF]
    replace b1_110 := Yw1_10.cell b1_110
    replace b1_111 := Yw1_10.cell b1_111
    replace b1_112 := Yw1_10.cell b1_112
    replace f_b1_110 := Yw1_10.frz z_b1_11 f_b1_110
    replace f_b1_111 := Yw1_10.frz z_b1_11 f_b1_111
    replace f_b1_112 := Yw1_10.frz z_b1_11 f_b1_112
    go_simp
    have zz := X1.size
    have K1 : Chg w1_1.heap.size (w1_1.heap.size + 1) w1_12 (((w1_12.setCell ⟨w1_1.heap.size, 0, none⟩ (.int .i64 b1)).setCell ⟨w1_1.heap.size, 1, none⟩ (.slice (some ⟨g1_4, 0, none⟩) u.length r1_5)).setCell ⟨w1_1.heap.size, 2, none⟩ (.slice (some ⟨w1_10.heap.size, 0, none⟩) u.length u.length)) := (Chg.setCell (p := ⟨w1_1.heap.size, 2, none⟩) (Chg.setCell (p := ⟨w1_1.heap.size, 1, none⟩) (Chg.setCell (p := ⟨w1_1.heap.size, 0, none⟩) (Chg.refl w1_1.heap.size (w1_1.heap.size + 1) w1_12) (Nat.le_refl _) (Nat.lt_succ_self _) _) (Nat.le_refl _) (Nat.lt_succ_self _) _) (Nat.le_refl _) (Nat.lt_succ_self _) _)
    have n_b1_110 : (((w1_12.setCell ⟨w1_1.heap.size, 0, none⟩ (.int .i64 b1)).setCell ⟨w1_1.heap.size, 1, none⟩ (.slice (some ⟨g1_4, 0, none⟩) u.length r1_5)).setCell ⟨w1_1.heap.size, 2, none⟩ (.slice (some ⟨w1_10.heap.size, 0, none⟩) u.length u.length)).cell? ⟨w1_1.heap.size, 0, none⟩ = some (.int .i64 b1) := by go_simp
    replace f_b1_110 : (((w1_12.setCell ⟨w1_1.heap.size, 0, none⟩ (.int .i64 b1)).setCell ⟨w1_1.heap.size, 1, none⟩ (.slice (some ⟨g1_4, 0, none⟩) u.length r1_5)).setCell ⟨w1_1.heap.size, 2, none⟩ (.slice (some ⟨w1_10.heap.size, 0, none⟩) u.length u.length)).frozen? ⟨w1_1.heap.size, 0, none⟩ = false := by go_simp
    have n_b1_111 : (((w1_12.setCell ⟨w1_1.heap.size, 0, none⟩ (.int .i64 b1)).setCell ⟨w1_1.heap.size, 1, none⟩ (.slice (some ⟨g1_4, 0, none⟩) u.length r1_5)).setCell ⟨w1_1.heap.size, 2, none⟩ (.slice (some ⟨w1_10.heap.size, 0, none⟩) u.length u.length)).cell? ⟨w1_1.heap.size, 1, none⟩ = some (.slice (some ⟨g1_4, 0, none⟩) u.length r1_5) := by go_simp
    replace f_b1_111 : (((w1_12.setCell ⟨w1_1.heap.size, 0, none⟩ (.int .i64 b1)).setCell ⟨w1_1.heap.size, 1, none⟩ (.slice (some ⟨g1_4, 0, none⟩) u.length r1_5)).setCell ⟨w1_1.heap.size, 2, none⟩ (.slice (some ⟨w1_10.heap.size, 0, none⟩) u.length u.length)).frozen? ⟨w1_1.heap.size, 1, none⟩ = false := by go_simp
    have n_b1_112 : (((w1_12.setCell ⟨w1_1.heap.size, 0, none⟩ (.int .i64 b1)).setCell ⟨w1_1.heap.size, 1, none⟩ (.slice (some ⟨g1_4, 0, none⟩) u.length r1_5)).setCell ⟨w1_1.heap.size, 2, none⟩ (.slice (some ⟨w1_10.heap.size, 0, none⟩) u.length u.length)).cell? ⟨w1_1.heap.size, 2, none⟩ = some (.slice (some ⟨w1_10.heap.size, 0, none⟩) u.length u.length) := by go_simp
    replace f_b1_112 : (((w1_12.setCell ⟨w1_1.heap.size, 0, none⟩ (.int .i64 b1)).setCell ⟨w1_1.heap.size, 1, none⟩ (.slice (some ⟨g1_4, 0, none⟩) u.length r1_5)).setCell ⟨w1_1.heap.size, 2, none⟩ (.slice (some ⟨w1_10.heap.size, 0, none⟩) u.length u.length)).frozen? ⟨w1_1.heap.size, 2, none⟩ = false := by go_simp
    replace b1_110 := n_b1_110
    clear n_b1_110
    replace b1_111 := n_b1_111
    clear n_b1_111
    replace b1_112 := n_b1_112
    clear n_b1_112
    replace O1_3 := (O1_3.ext Yw1_1).chgN K1 (by omega)
    replace O1_13 := (O1_13.ext Yw1_12).chgN K1 (by omega)
    replace X1 : Ext w1 (((w1_12.setCell ⟨w1_1.heap.size, 0, none⟩ (.int .i64 b1)).setCell ⟨w1_1.heap.size, 1, none⟩ (.slice (some ⟨g1_4, 0, none⟩) u.length r1_5)).setCell ⟨w1_1.heap.size, 2, none⟩ (.slice (some ⟨w1_10.heap.size, 0, none⟩) u.length u.length)) := (Ext.setCell (p := ⟨w1_1.heap.size, 2, none⟩) (Ext.setCell (p := ⟨w1_1.heap.size, 1, none⟩) (Ext.setCell (p := ⟨w1_1.heap.size, 0, none⟩) X1 (by dsimp only; omega) _) (by dsimp only; omega) _) (by dsimp only; omega) _)
    clear zz K1
    have S_st : w1_12.heap.size ≤ (((w1_12.setCell ⟨w1_1.heap.size, 0, none⟩ (.int .i64 b1)).setCell ⟨w1_1.heap.size, 1, none⟩ (.slice (some ⟨g1_4, 0, none⟩) u.length r1_5)).setCell ⟨w1_1.heap.size, 2, none⟩ (.slice (some ⟨w1_10.heap.size, 0, none⟩) u.length u.length)).heap.size := by simp
    refine hK.out _ ((((w1_12.setCell ⟨w1_1.heap.size, 0, none⟩ (.int .i64 b1)).setCell ⟨w1_1.heap.size, 1, none⟩ (.slice (some ⟨g1_4, 0, none⟩) u.length r1_5)).setCell ⟨w1_1.heap.size, 2, none⟩ (.slice (some ⟨w1_10.heap.size, 0, none⟩) u.length u.length))) ⟨(show Ext w1 ((((w1_12.setCell ⟨w1_1.heap.size, 0, none⟩ (.int .i64 b1)).setCell ⟨w1_1.heap.size, 1, none⟩ (.slice (some ⟨g1_4, 0, none⟩) u.length r1_5)).setCell ⟨w1_1.heap.size, 2, none⟩ (.slice (some ⟨w1_10.heap.size, 0, none⟩) u.length u.length))) from qXt).cell b10, (show Ext w1 ((((w1_12.setCell ⟨w1_1.heap.size, 0, none⟩ (.int .i64 b1)).setCell ⟨w1_1.heap.size, 1, none⟩ (.slice (some ⟨g1_4, 0, none⟩) u.length r1_5)).setCell ⟨w1_1.heap.size, 2, none⟩ (.slice (some ⟨w1_10.heap.size, 0, none⟩) u.length u.length))) from qXt).cell b11, (show Ext w1 ((((w1_12.setCell ⟨w1_1.heap.size, 0, none⟩ (.int .i64 b1)).setCell ⟨w1_1.heap.size, 1, none⟩ (.slice (some ⟨g1_4, 0, none⟩) u.length r1_5)).setCell ⟨w1_1.heap.size, 2, none⟩ (.slice (some ⟨w1_10.heap.size, 0, none⟩) u.length u.length))) from qXt).cell b12, (show Ext w1 ((((w1_12.setCell ⟨w1_1.heap.size, 0, none⟩ (.int .i64 b1)).setCell ⟨w1_1.heap.size, 1, none⟩ (.slice (some ⟨g1_4, 0, none⟩) u.length r1_5)).setCell ⟨w1_1.heap.size, 2, none⟩ (.slice (some ⟨w1_10.heap.size, 0, none⟩) u.length u.length))) from qXt).cell b20, (show Ext w1 ((((w1_12.setCell ⟨w1_1.heap.size, 0, none⟩ (.int .i64 b1)).setCell ⟨w1_1.heap.size, 1, none⟩ (.slice (some ⟨g1_4, 0, none⟩) u.length r1_5)).setCell ⟨w1_1.heap.size, 2, none⟩ (.slice (some ⟨w1_10.heap.size, 0, none⟩) u.length u.length))) from qXt).cell b21, (show Ext w1 ((((w1_12.setCell ⟨w1_1.heap.size, 0, none⟩ (.int .i64 b1)).setCell ⟨w1_1.heap.size, 1, none⟩ (.slice (some ⟨g1_4, 0, none⟩) u.length r1_5)).setCell ⟨w1_1.heap.size, 2, none⟩ (.slice (some ⟨w1_10.heap.size, 0, none⟩) u.length u.length))) from qXt).cell b22⟩ (fun hHeld => ?_)
    clear hK K
    try simp only [Act.put, qa, qb, qc, qD, qE, qF]
    refine wpAnyH_done qKr ?_ _
    clear hHeld
    have zz := X1.size
    go_step
    go_step
    go_meet
    case rel => exact ⟨g1_4, r1_5, w1_10.heap.size, w1_1.heap.size, rfl, X1, (by omega), (by omega), (by omega), (by omega), (by omega), (by omega), (by omega), (by omega), (by omega), (O1_3).lower (by omega), (O1_13).lower (by omega), b1_110, f_b1_110, b1_111, f_b1_111, b1_112, f_b1_112⟩
  ·
   try simp only [Act.put, qa, qb, qc, qD, qE, qF]
   have hmk := mk_ints u.length (by omega)
   go_simp
   refine hK.out _ (w1.drew.alloc (.cells (madeCells #[Value.int .i64 0] u.length) 3)) ⟨(show Ext w1 (w1.drew.alloc (.cells (madeCells #[Value.int .i64 0] u.length) 3)) from qXt).cell b10, (show Ext w1 (w1.drew.alloc (.cells (madeCells #[Value.int .i64 0] u.length) 3)) from qXt).cell b11, (show Ext w1 (w1.drew.alloc (.cells (madeCells #[Value.int .i64 0] u.length) 3)) from qXt).cell b12, (show Ext w1 (w1.drew.alloc (.cells (madeCells #[Value.int .i64 0] u.length) 3)) from qXt).cell b20, (show Ext w1 (w1.drew.alloc (.cells (madeCells #[Value.int .i64 0] u.length) 3)) from qXt).cell b21, (show Ext w1 (w1.drew.alloc (.cells (madeCells #[Value.int .i64 0] u.length) 3)) from qXt).cell b22⟩ (fun hHeld => ?_)
   clear hK K hmk
   try simp only [Act.put, qa, qb, qc, qD, qE, qF]
   generalize hW6 : w1.drew.alloc (.cells (madeCells #[Value.int .i64 0] u.length) 3) = w1_14 at *
   have S_w1_14 : w1.heap.size < w1_14.heap.size := by subst hW6; simp
   have hx7 : Ext w1 w1_14 := by subst hW6; exact qXt
   replace X1 := X1.trans hx7
   clear hx7
   have O1_15 : OwnI w1_14 w1.heap.size (.slice (some ⟨w1.heap.size, 0, none⟩) u.length u.length) (List.replicate u.length 0) := by subst hW6; exact OwnI.made _ _ _ (by simp) (by omega)
   have Yw1_14 := Ext.refl w1_14
   clear hW6
   refine wpAnyH_ready (rs := [3, 8]) qKr (by simp) ?_
   refine AllReadyH.cons rfl (fun K hK => ?_) (AllReadyH.cons rfl (fun K hK => ?_) AllReadyH.nil)
   ·
    try simp only [Act.put, qa, qb, qc, qD, qE, qF]
    go_simp
    refine (copyIntsO_c (.slice p2 u.length c2) u _ _ (h3.ext (Xw1.trans qXt))).mono ?_
    rintro e w1_16 ⟨g1_19, r1_20, rfl, O1_18, Gg1_19, Hg1_19, x1_17⟩
    replace x1_17 : Ext w1_14 w1_16 := Ext.trans qXt x1_17
    have S_w1_16 : w1_14.heap.size ≤ w1_16.heap.size := x1_17.size
    replace Yw1_14 := Yw1_14.trans x1_17
    replace X1 := X1.trans x1_17
    have Yw1_16 := Ext.refl w1_16
    clear x1_17
    refine hK.out _ w1_16 ⟨(show Ext w1 w1_16 from qXt).cell b10, (show Ext w1 w1_16 from qXt).cell b11, (show Ext w1 w1_16 from qXt).cell b12, (show Ext w1 w1_16 from qXt).cell b20, (show Ext w1 w1_16 from qXt).cell b21, (show Ext w1 w1_16 from qXt).cell b22⟩ (fun hHeld => ?_)
    clear hK K
    try simp only [Act.put, qa, qb, qc, qD, qE, qF]
    refine qHk (v := ?_) 7 rfl (.inl ⟨by rfl, ?_⟩) ?_
    rotate_left
    ·
     (intro w hSw; (try dsimp only at hSw); go_simp; try with_reducible rfl)
    try simp only [Act.put, qa, qb, qc, qD, qE, qF]
    refine qHr 8 rfl (fun K hK => ?_)
    try simp only [Act.put, qa, qb, qc, qD, qE, qF]
    go_simp
    refine hK.out _ (w1_16.alloc (.cells #[.int .i64 0, .slice none 0 0, .slice none 0 0] 25)) ⟨(show Ext w1 (w1_16.alloc (.cells #[.int .i64 0, .slice none 0 0, .slice none 0 0] 25)) from qXt).cell b10, (show Ext w1 (w1_16.alloc (.cells #[.int .i64 0, .slice none 0 0, .slice none 0 0] 25)) from qXt).cell b11, (show Ext w1 (w1_16.alloc (.cells #[.int .i64 0, .slice none 0 0, .slice none 0 0] 25)) from qXt).cell b12, (show Ext w1 (w1_16.alloc (.cells #[.int .i64 0, .slice none 0 0, .slice none 0 0] 25)) from qXt).cell b20, (show Ext w1 (w1_16.alloc (.cells #[.int .i64 0, .slice none 0 0, .slice none 0 0] 25)) from qXt).cell b21, (show Ext w1 (w1_16.alloc (.cells #[.int .i64 0, .slice none 0 0, .slice none 0 0] 25)) from qXt).cell b22⟩ (fun hHeld => ?_)
    clear hK K
    try simp only [Act.put, qa, qb, qc, qD, qE, qF]
    generalize hW7 : w1_16.alloc (.cells #[.int .i64 0, .slice none 0 0, .slice none 0 0] 25) = w1_21 at *
    have S_w1_21 : w1_16.heap.size < w1_21.heap.size := by subst hW7; simp
    have hx7 : Ext w1_16 w1_21 := by subst hW7; exact qXt
    replace Yw1_14 := Yw1_14.trans hx7
    replace Yw1_16 := Yw1_16.trans hx7
    replace X1 := X1.trans hx7
    clear hx7
    have b1_220 : w1_21.cell? ⟨w1_16.heap.size, 0, none⟩ = some (.int .i64 0) := by subst hW7; exact qCl
    have f_b1_220 : w1_21.frozen? ⟨w1_16.heap.size, 0, none⟩ = false := by subst hW7; exact qFz
    have b1_221 : w1_21.cell? ⟨w1_16.heap.size, 1, none⟩ = some (.slice none 0 0) := by subst hW7; exact qCl
    have f_b1_221 : w1_21.frozen? ⟨w1_16.heap.size, 1, none⟩ = false := by subst hW7; exact qFz
    have b1_222 : w1_21.cell? ⟨w1_16.heap.size, 2, none⟩ = some (.slice none 0 0) := by subst hW7; exact qCl
    have f_b1_222 : w1_21.frozen? ⟨w1_16.heap.size, 2, none⟩ = false := by subst hW7; exact qFz
    have z_b1_22 : w1_16.heap.size < w1_21.heap.size := by subst hW7; exact S_w1_21
    have Yw1_21 := Ext.refl w1_21
    clear hW7
    refine qHr 9 rfl (fun K hK => ?_)
    try simp only [Act.put, qa, qb, qc, qD, qE, qF]
    replace b1_220 := Yw1_21.cell b1_220
    replace b1_221 := Yw1_21.cell b1_221
    replace b1_222 := Yw1_21.cell b1_222
    replace f_b1_220 := Yw1_21.frz z_b1_22 f_b1_220
    replace f_b1_221 := Yw1_21.frz z_b1_22 f_b1_221
    replace f_b1_222 := Yw1_21.frz z_b1_22 f_b1_222
    go_simp
    have zz := X1.size
    have K1 : Chg w1_16.heap.size (w1_16.heap.size + 1) w1_21 (((w1_21.setCell ⟨w1_16.heap.size, 0, none⟩ (.int .i64 b1)).setCell ⟨w1_16.heap.size, 1, none⟩ (.slice (some ⟨g1_19, 0, none⟩) u.length r1_20)).setCell ⟨w1_16.heap.size, 2, none⟩ (.slice (some ⟨w1.heap.size, 0, none⟩) u.length u.length)) := (Chg.setCell (p := ⟨w1_16.heap.size, 2, none⟩) (Chg.setCell (p := ⟨w1_16.heap.size, 1, none⟩) (Chg.setCell (p := ⟨w1_16.heap.size, 0, none⟩) (Chg.refl w1_16.heap.size (w1_16.heap.size + 1) w1_21) (Nat.le_refl _) (Nat.lt_succ_self _) _) (Nat.le_refl _) (Nat.lt_succ_self _) _) (Nat.le_refl _) (Nat.lt_succ_self _) _)
    have n_b1_220 : (((w1_21.setCell ⟨w1_16.heap.size, 0, none⟩ (.int .i64 b1)).setCell ⟨w1_16.heap.size, 1, none⟩ (.slice (some ⟨g1_19, 0, none⟩) u.length r1_20)).setCell ⟨w1_16.heap.size, 2, none⟩ (.slice (some ⟨w1.heap.size, 0, none⟩) u.length u.length)).cell? ⟨w1_16.heap.size, 0, none⟩ = some (.int .i64 b1) := by go_simp
    replace f_b1_220 : (((w1_21.setCell ⟨w1_16.heap.size, 0, none⟩ (.int .i64 b1)).setCell ⟨w1_16.heap.size, 1, none⟩ (.slice (some ⟨g1_19, 0, none⟩) u.length r1_20)).setCell ⟨w1_16.heap.size, 2, none⟩ (.slice (some ⟨w1.heap.size, 0, none⟩) u.length u.length)).frozen? ⟨w1_16.heap.size, 0, none⟩ = false := by go_simp
    have n_b1_221 : (((w1_21.setCell ⟨w1_16.heap.size, 0, none⟩ (.int .i64 b1)).setCell ⟨w1_16.heap.size, 1, none⟩ (.slice (some ⟨g1_19, 0, none⟩) u.length r1_20)).setCell ⟨w1_16.heap.size, 2, none⟩ (.slice (some ⟨w1.heap.size, 0, none⟩) u.length u.length)).cell? ⟨w1_16.heap.size, 1, none⟩ = some (.slice (some ⟨g1_19, 0, none⟩) u.length r1_20) := by go_simp
    replace f_b1_221 : (((w1_21.setCell ⟨w1_16.heap.size, 0, none⟩ (.int .i64 b1)).setCell ⟨w1_16.heap.size, 1, none⟩ (.slice (some ⟨g1_19, 0, none⟩) u.length r1_20)).setCell ⟨w1_16.heap.size, 2, none⟩ (.slice (some ⟨w1.heap.size, 0, none⟩) u.length u.length)).frozen? ⟨w1_16.heap.size, 1, none⟩ = false := by go_simp
    have n_b1_222 : (((w1_21.setCell ⟨w1_16.heap.size, 0, none⟩ (.int .i64 b1)).setCell ⟨w1_16.heap.size, 1, none⟩ (.slice (some ⟨g1_19, 0, none⟩) u.length r1_20)).setCell ⟨w1_16.heap.size, 2, none⟩ (.slice (some ⟨w1.heap.size, 0, none⟩) u.length u.length)).cell? ⟨w1_16.heap.size, 2, none⟩ = some (.slice (some ⟨w1.heap.size, 0, none⟩) u.length u.length) := by go_simp
    replace f_b1_222 : (((w1_21.setCell ⟨w1_16.heap.size, 0, none⟩ (.int .i64 b1)).setCell ⟨w1_16.heap.size, 1, none⟩ (.slice (some ⟨g1_19, 0, none⟩) u.length r1_20)).setCell ⟨w1_16.heap.size, 2, none⟩ (.slice (some ⟨w1.heap.size, 0, none⟩) u.length u.length)).frozen? ⟨w1_16.heap.size, 2, none⟩ = false := by go_simp
    replace b1_220 := n_b1_220
    clear n_b1_220
    replace b1_221 := n_b1_221
    clear n_b1_221
    replace b1_222 := n_b1_222
    clear n_b1_222
    replace O1_15 := (O1_15.ext Yw1_14).chgN K1 (by omega)
    replace O1_18 := (O1_18.ext Yw1_16).chgN K1 (by omega)
    replace X1 : Ext w1 (((w1_21.setCell ⟨w1_16.heap.size, 0, none⟩ (.int .i64 b1)).setCell ⟨w1_16.heap.size, 1, none⟩ (.slice (some ⟨g1_19, 0, none⟩) u.length r1_20)).setCell ⟨w1_16.heap.size, 2, none⟩ (.slice (some ⟨w1.heap.size, 0, none⟩) u.length u.length)) := (Ext.setCell (p := ⟨w1_16.heap.size, 2, none⟩) (Ext.setCell (p := ⟨w1_16.heap.size, 1, none⟩) (Ext.setCell (p := ⟨w1_16.heap.size, 0, none⟩) X1 (by dsimp only; omega) _) (by dsimp only; omega) _) (by dsimp only; omega) _)
    clear zz K1
    have S_st : w1_21.heap.size ≤ (((w1_21.setCell ⟨w1_16.heap.size, 0, none⟩ (.int .i64 b1)).setCell ⟨w1_16.heap.size, 1, none⟩ (.slice (some ⟨g1_19, 0, none⟩) u.length r1_20)).setCell ⟨w1_16.heap.size, 2, none⟩ (.slice (some ⟨w1.heap.size, 0, none⟩) u.length u.length)).heap.size := by simp
    refine hK.out _ ((((w1_21.setCell ⟨w1_16.heap.size, 0, none⟩ (.int .i64 b1)).setCell ⟨w1_16.heap.size, 1, none⟩ (.slice (some ⟨g1_19, 0, none⟩) u.length r1_20)).setCell ⟨w1_16.heap.size, 2, none⟩ (.slice (some ⟨w1.heap.size, 0, none⟩) u.length u.length))) ⟨(show Ext w1 ((((w1_21.setCell ⟨w1_16.heap.size, 0, none⟩ (.int .i64 b1)).setCell ⟨w1_16.heap.size, 1, none⟩ (.slice (some ⟨g1_19, 0, none⟩) u.length r1_20)).setCell ⟨w1_16.heap.size, 2, none⟩ (.slice (some ⟨w1.heap.size, 0, none⟩) u.length u.length))) from qXt).cell b10, (show Ext w1 ((((w1_21.setCell ⟨w1_16.heap.size, 0, none⟩ (.int .i64 b1)).setCell ⟨w1_16.heap.size, 1, none⟩ (.slice (some ⟨g1_19, 0, none⟩) u.length r1_20)).setCell ⟨w1_16.heap.size, 2, none⟩ (.slice (some ⟨w1.heap.size, 0, none⟩) u.length u.length))) from qXt).cell b11, (show Ext w1 ((((w1_21.setCell ⟨w1_16.heap.size, 0, none⟩ (.int .i64 b1)).setCell ⟨w1_16.heap.size, 1, none⟩ (.slice (some ⟨g1_19, 0, none⟩) u.length r1_20)).setCell ⟨w1_16.heap.size, 2, none⟩ (.slice (some ⟨w1.heap.size, 0, none⟩) u.length u.length))) from qXt).cell b12, (show Ext w1 ((((w1_21.setCell ⟨w1_16.heap.size, 0, none⟩ (.int .i64 b1)).setCell ⟨w1_16.heap.size, 1, none⟩ (.slice (some ⟨g1_19, 0, none⟩) u.length r1_20)).setCell ⟨w1_16.heap.size, 2, none⟩ (.slice (some ⟨w1.heap.size, 0, none⟩) u.length u.length))) from qXt).cell b20, (show Ext w1 ((((w1_21.setCell ⟨w1_16.heap.size, 0, none⟩ (.int .i64 b1)).setCell ⟨w1_16.heap.size, 1, none⟩ (.slice (some ⟨g1_19, 0, none⟩) u.length r1_20)).setCell ⟨w1_16.heap.size, 2, none⟩ (.slice (some ⟨w1.heap.size, 0, none⟩) u.length u.length))) from qXt).cell b21, (show Ext w1 ((((w1_21.setCell ⟨w1_16.heap.size, 0, none⟩ (.int .i64 b1)).setCell ⟨w1_16.heap.size, 1, none⟩ (.slice (some ⟨g1_19, 0, none⟩) u.length r1_20)).setCell ⟨w1_16.heap.size, 2, none⟩ (.slice (some ⟨w1.heap.size, 0, none⟩) u.length u.length))) from qXt).cell b22⟩ (fun hHeld => ?_)
    clear hK K
    try simp only [Act.put, qa, qb, qc, qD, qE, qF]
    refine wpAnyH_done qKr ?_ _
    clear hHeld
    have zz := X1.size
    go_step
    go_step
    go_meet
    case rel => exact ⟨g1_19, r1_20, w1.heap.size, w1_16.heap.size, rfl, X1, (by omega), (by omega), (by omega), (by omega), (by omega), (by omega), (by omega), (by omega), (by omega), (O1_18).lower (by omega), (O1_15).lower (by omega), b1_220, f_b1_220, b1_221, f_b1_221, b1_222, f_b1_222⟩
   ·
    try simp only [Act.put, qa, qb, qc, qD, qE, qF]
    go_simp
    refine hK.out _ (w1_14.alloc (.cells #[.int .i64 0, .slice none 0 0, .slice none 0 0] 25)) ⟨(show Ext w1 (w1_14.alloc (.cells #[.int .i64 0, .slice none 0 0, .slice none 0 0] 25)) from qXt).cell b10, (show Ext w1 (w1_14.alloc (.cells #[.int .i64 0, .slice none 0 0, .slice none 0 0] 25)) from qXt).cell b11, (show Ext w1 (w1_14.alloc (.cells #[.int .i64 0, .slice none 0 0, .slice none 0 0] 25)) from qXt).cell b12, (show Ext w1 (w1_14.alloc (.cells #[.int .i64 0, .slice none 0 0, .slice none 0 0] 25)) from qXt).cell b20, (show Ext w1 (w1_14.alloc (.cells #[.int .i64 0, .slice none 0 0, .slice none 0 0] 25)) from qXt).cell b21, (show Ext w1 (w1_14.alloc (.cells #[.int .i64 0, .slice none 0 0, .slice none 0 0] 25)) from qXt).cell b22⟩ (fun hHeld => ?_)
    clear hK K
    try simp only [Act.put, qa, qb, qc, qD, qE, qF]
    generalize hW8 : w1_14.alloc (.cells #[.int .i64 0, .slice none 0 0, .slice none 0 0] 25) = w1_23 at *
    have S_w1_23 : w1_14.heap.size < w1_23.heap.size := by subst hW8; simp
    have hx7 : Ext w1_14 w1_23 := by subst hW8; exact qXt
    replace Yw1_14 := Yw1_14.trans hx7
    replace X1 := X1.trans hx7
    clear hx7
    have b1_240 : w1_23.cell? ⟨w1_14.heap.size, 0, none⟩ = some (.int .i64 0) := by subst hW8; exact qCl
    have f_b1_240 : w1_23.frozen? ⟨w1_14.heap.size, 0, none⟩ = false := by subst hW8; exact qFz
    have b1_241 : w1_23.cell? ⟨w1_14.heap.size, 1, none⟩ = some (.slice none 0 0) := by subst hW8; exact qCl
    have f_b1_241 : w1_23.frozen? ⟨w1_14.heap.size, 1, none⟩ = false := by subst hW8; exact qFz
    have b1_242 : w1_23.cell? ⟨w1_14.heap.size, 2, none⟩ = some (.slice none 0 0) := by subst hW8; exact qCl
    have f_b1_242 : w1_23.frozen? ⟨w1_14.heap.size, 2, none⟩ = false := by subst hW8; exact qFz
    have z_b1_24 : w1_14.heap.size < w1_23.heap.size := by subst hW8; exact S_w1_23
    have Yw1_23 := Ext.refl w1_23
    clear hW8
    refine qHr 3 rfl (fun K hK => ?_)
    try simp only [Act.put, qa, qb, qc, qD, qE, qF]
    go_simp
    refine (copyIntsO_c (.slice p2 u.length c2) u _ _ (h3.ext (Xw1.trans qXt))).mono ?_
    rintro e w1_25 ⟨g1_28, r1_29, rfl, O1_27, Gg1_28, Hg1_28, x1_26⟩
    replace x1_26 : Ext w1_23 w1_25 := Ext.trans qXt x1_26
    have S_w1_25 : w1_23.heap.size ≤ w1_25.heap.size := x1_26.size
    replace Yw1_14 := Yw1_14.trans x1_26
    replace Yw1_23 := Yw1_23.trans x1_26
    replace X1 := X1.trans x1_26
    have Yw1_25 := Ext.refl w1_25
    clear x1_26
    refine hK.out _ w1_25 ⟨(show Ext w1 w1_25 from qXt).cell b10, (show Ext w1 w1_25 from qXt).cell b11, (show Ext w1 w1_25 from qXt).cell b12, (show Ext w1 w1_25 from qXt).cell b20, (show Ext w1 w1_25 from qXt).cell b21, (show Ext w1 w1_25 from qXt).cell b22⟩ (fun hHeld => ?_)
    clear hK K
    try simp only [Act.put, qa, qb, qc, qD, qE, qF]
    refine qHk (v := ?_) 7 rfl (.inl ⟨by rfl, ?_⟩) ?_
    rotate_left
    ·
     (intro w hSw; (try dsimp only at hSw); go_simp; try with_reducible rfl)
    try simp only [Act.put, qa, qb, qc, qD, qE, qF]
    refine qHr 9 rfl (fun K hK => ?_)
    try simp only [Act.put, qa, qb, qc, qD, qE, qF]
    replace b1_240 := Yw1_23.cell b1_240
    replace b1_241 := Yw1_23.cell b1_241
    replace b1_242 := Yw1_23.cell b1_242
    replace f_b1_240 := Yw1_23.frz z_b1_24 f_b1_240
    replace f_b1_241 := Yw1_23.frz z_b1_24 f_b1_241
    replace f_b1_242 := Yw1_23.frz z_b1_24 f_b1_242
    go_simp
    have zz := X1.size
    have K1 : Chg w1_14.heap.size (w1_14.heap.size + 1) w1_25 (((w1_25.setCell ⟨w1_14.heap.size, 0, none⟩ (.int .i64 b1)).setCell ⟨w1_14.heap.size, 1, none⟩ (.slice (some ⟨g1_28, 0, none⟩) u.length r1_29)).setCell ⟨w1_14.heap.size, 2, none⟩ (.slice (some ⟨w1.heap.size, 0, none⟩) u.length u.length)) := (Chg.setCell (p := ⟨w1_14.heap.size, 2, none⟩) (Chg.setCell (p := ⟨w1_14.heap.size, 1, none⟩) (Chg.setCell (p := ⟨w1_14.heap.size, 0, none⟩) (Chg.refl w1_14.heap.size (w1_14.heap.size + 1) w1_25) (Nat.le_refl _) (Nat.lt_succ_self _) _) (Nat.le_refl _) (Nat.lt_succ_self _) _) (Nat.le_refl _) (Nat.lt_succ_self _) _)
    have n_b1_240 : (((w1_25.setCell ⟨w1_14.heap.size, 0, none⟩ (.int .i64 b1)).setCell ⟨w1_14.heap.size, 1, none⟩ (.slice (some ⟨g1_28, 0, none⟩) u.length r1_29)).setCell ⟨w1_14.heap.size, 2, none⟩ (.slice (some ⟨w1.heap.size, 0, none⟩) u.length u.length)).cell? ⟨w1_14.heap.size, 0, none⟩ = some (.int .i64 b1) := by go_simp
    replace f_b1_240 : (((w1_25.setCell ⟨w1_14.heap.size, 0, none⟩ (.int .i64 b1)).setCell ⟨w1_14.heap.size, 1, none⟩ (.slice (some ⟨g1_28, 0, none⟩) u.length r1_29)).setCell ⟨w1_14.heap.size, 2, none⟩ (.slice (some ⟨w1.heap.size, 0, none⟩) u.length u.length)).frozen? ⟨w1_14.heap.size, 0, none⟩ = false := by go_simp
    have n_b1_241 : (((w1_25.setCell ⟨w1_14.heap.size, 0, none⟩ (.int .i64 b1)).setCell ⟨w1_14.heap.size, 1, none⟩ (.slice (some ⟨g1_28, 0, none⟩) u.length r1_29)).setCell ⟨w1_14.heap.size, 2, none⟩ (.slice (some ⟨w1.heap.size, 0, none⟩) u.length u.length)).cell? ⟨w1_14.heap.size, 1, none⟩ = some (.slice (some ⟨g1_28, 0, none⟩) u.length r1_29) := by go_simp
    replace f_b1_241 : (((w1_25.setCell ⟨w1_14.heap.size, 0, none⟩ (.int .i64 b1)).setCell ⟨w1_14.heap.size, 1, none⟩ (.slice (some ⟨g1_28, 0, none⟩) u.length r1_29)).setCell ⟨w1_14.heap.size, 2, none⟩ (.slice (some ⟨w1.heap.size, 0, none⟩) u.length u.length)).frozen? ⟨w1_14.heap.size, 1, none⟩ = false := by go_simp
    have n_b1_242 : (((w1_25.setCell ⟨w1_14.heap.size, 0, none⟩ (.int .i64 b1)).setCell ⟨w1_14.heap.size, 1, none⟩ (.slice (some ⟨g1_28, 0, none⟩) u.length r1_29)).setCell ⟨w1_14.heap.size, 2, none⟩ (.slice (some ⟨w1.heap.size, 0, none⟩) u.length u.length)).cell? ⟨w1_14.heap.size, 2, none⟩ = some (.slice (some ⟨w1.heap.size, 0, none⟩) u.length u.length) := by go_simp
    replace f_b1_242 : (((w1_25.setCell ⟨w1_14.heap.size, 0, none⟩ (.int .i64 b1)).setCell ⟨w1_14.heap.size, 1, none⟩ (.slice (some ⟨g1_28, 0, none⟩) u.length r1_29)).setCell ⟨w1_14.heap.size, 2, none⟩ (.slice (some ⟨w1.heap.size, 0, none⟩) u.length u.length)).frozen? ⟨w1_14.heap.size, 2, none⟩ = false := by go_simp
    replace b1_240 := n_b1_240
    clear n_b1_240
    replace b1_241 := n_b1_241
    clear n_b1_241
    replace b1_242 := n_b1_242
    clear n_b1_242
    replace O1_15 := (O1_15.ext Yw1_14).chgN K1 (by omega)
    replace O1_27 := (O1_27.ext Yw1_25).chgN K1 (by omega)
    replace X1 : Ext w1 (((w1_25.setCell ⟨w1_14.heap.size, 0, none⟩ (.int .i64 b1)).setCell ⟨w1_14.heap.size, 1, none⟩ (.slice (some ⟨g1_28, 0, none⟩) u.length r1_29)).setCell ⟨w1_14.heap.size, 2, none⟩ (.slice (some ⟨w1.heap.size, 0, none⟩) u.length u.length)) := (Ext.setCell (p := ⟨w1_14.heap.size, 2, none⟩) (Ext.setCell (p := ⟨w1_14.heap.size, 1, none⟩) (Ext.setCell (p := ⟨w1_14.heap.size, 0, none⟩) X1 (by dsimp only; omega) _) (by dsimp only; omega) _) (by dsimp only; omega) _)
    clear zz K1
    have S_st : w1_25.heap.size ≤ (((w1_25.setCell ⟨w1_14.heap.size, 0, none⟩ (.int .i64 b1)).setCell ⟨w1_14.heap.size, 1, none⟩ (.slice (some ⟨g1_28, 0, none⟩) u.length r1_29)).setCell ⟨w1_14.heap.size, 2, none⟩ (.slice (some ⟨w1.heap.size, 0, none⟩) u.length u.length)).heap.size := by simp
    refine hK.out _ ((((w1_25.setCell ⟨w1_14.heap.size, 0, none⟩ (.int .i64 b1)).setCell ⟨w1_14.heap.size, 1, none⟩ (.slice (some ⟨g1_28, 0, none⟩) u.length r1_29)).setCell ⟨w1_14.heap.size, 2, none⟩ (.slice (some ⟨w1.heap.size, 0, none⟩) u.length u.length))) ⟨(show Ext w1 ((((w1_25.setCell ⟨w1_14.heap.size, 0, none⟩ (.int .i64 b1)).setCell ⟨w1_14.heap.size, 1, none⟩ (.slice (some ⟨g1_28, 0, none⟩) u.length r1_29)).setCell ⟨w1_14.heap.size, 2, none⟩ (.slice (some ⟨w1.heap.size, 0, none⟩) u.length u.length))) from qXt).cell b10, (show Ext w1 ((((w1_25.setCell ⟨w1_14.heap.size, 0, none⟩ (.int .i64 b1)).setCell ⟨w1_14.heap.size, 1, none⟩ (.slice (some ⟨g1_28, 0, none⟩) u.length r1_29)).setCell ⟨w1_14.heap.size, 2, none⟩ (.slice (some ⟨w1.heap.size, 0, none⟩) u.length u.length))) from qXt).cell b11, (show Ext w1 ((((w1_25.setCell ⟨w1_14.heap.size, 0, none⟩ (.int .i64 b1)).setCell ⟨w1_14.heap.size, 1, none⟩ (.slice (some ⟨g1_28, 0, none⟩) u.length r1_29)).setCell ⟨w1_14.heap.size, 2, none⟩ (.slice (some ⟨w1.heap.size, 0, none⟩) u.length u.length))) from qXt).cell b12, (show Ext w1 ((((w1_25.setCell ⟨w1_14.heap.size, 0, none⟩ (.int .i64 b1)).setCell ⟨w1_14.heap.size, 1, none⟩ (.slice (some ⟨g1_28, 0, none⟩) u.length r1_29)).setCell ⟨w1_14.heap.size, 2, none⟩ (.slice (some ⟨w1.heap.size, 0, none⟩) u.length u.length))) from qXt).cell b20, (show Ext w1 ((((w1_25.setCell ⟨w1_14.heap.size, 0, none⟩ (.int .i64 b1)).setCell ⟨w1_14.heap.size, 1, none⟩ (.slice (some ⟨g1_28, 0, none⟩) u.length r1_29)).setCell ⟨w1_14.heap.size, 2, none⟩ (.slice (some ⟨w1.heap.size, 0, none⟩) u.length u.length))) from qXt).cell b21, (show Ext w1 ((((w1_25.setCell ⟨w1_14.heap.size, 0, none⟩ (.int .i64 b1)).setCell ⟨w1_14.heap.size, 1, none⟩ (.slice (some ⟨g1_28, 0, none⟩) u.length r1_29)).setCell ⟨w1_14.heap.size, 2, none⟩ (.slice (some ⟨w1.heap.size, 0, none⟩) u.length u.length))) from qXt).cell b22⟩ (fun hHeld => ?_)
    clear hK K
    try simp only [Act.put, qa, qb, qc, qD, qE, qF]
    refine wpAnyH_done qKr ?_ _
    clear hHeld
    have zz := X1.size
    go_step
    go_step
    go_meet
    case rel => exact ⟨g1_28, r1_29, w1.heap.size, w1_14.heap.size, rfl, X1, (by omega), (by omega), (by omega), (by omega), (by omega), (by omega), (by omega), (by omega), (by omega), (O1_27).lower (by omega), (O1_15).lower (by omega), b1_240, f_b1_240, b1_241, f_b1_241, b1_242, f_b1_242⟩
  ·
   try simp only [Act.put, qa, qb, qc, qD, qE, qF]
   go_simp
   refine hK.out _ (w1.drew.alloc (.cells #[.int .i64 0, .slice none 0 0, .slice none 0 0] 25)) ⟨(show Ext w1 (w1.drew.alloc (.cells #[.int .i64 0, .slice none 0 0, .slice none 0 0] 25)) from qXt).cell b10, (show Ext w1 (w1.drew.alloc (.cells #[.int .i64 0, .slice none 0 0, .slice none 0 0] 25)) from qXt).cell b11, (show Ext w1 (w1.drew.alloc (.cells #[.int .i64 0, .slice none 0 0, .slice none 0 0] 25)) from qXt).cell b12, (show Ext w1 (w1.drew.alloc (.cells #[.int .i64 0, .slice none 0 0, .slice none 0 0] 25)) from qXt).cell b20, (show Ext w1 (w1.drew.alloc (.cells #[.int .i64 0, .slice none 0 0, .slice none 0 0] 25)) from qXt).cell b21, (show Ext w1 (w1.drew.alloc (.cells #[.int .i64 0, .slice none 0 0, .slice none 0 0] 25)) from qXt).cell b22⟩ (fun hHeld => ?_)
   clear hK K
   try simp only [Act.put, qa, qb, qc, qD, qE, qF]
   generalize hW9 : w1.drew.alloc (.cells #[.int .i64 0, .slice none 0 0, .slice none 0 0] 25) = w1_30 at *
   have S_w1_30 : w1.heap.size < w1_30.heap.size := by subst hW9; simp
   have hx7 : Ext w1 w1_30 := by subst hW9; exact qXt
   replace X1 := X1.trans hx7
   clear hx7
   have b1_310 : w1_30.cell? ⟨w1.heap.size, 0, none⟩ = some (.int .i64 0) := by subst hW9; exact qCl
   have f_b1_310 : w1_30.frozen? ⟨w1.heap.size, 0, none⟩ = false := by subst hW9; exact qFz
   have b1_311 : w1_30.cell? ⟨w1.heap.size, 1, none⟩ = some (.slice none 0 0) := by subst hW9; exact qCl
   have f_b1_311 : w1_30.frozen? ⟨w1.heap.size, 1, none⟩ = false := by subst hW9; exact qFz
   have b1_312 : w1_30.cell? ⟨w1.heap.size, 2, none⟩ = some (.slice none 0 0) := by subst hW9; exact qCl
   have f_b1_312 : w1_30.frozen? ⟨w1.heap.size, 2, none⟩ = false := by subst hW9; exact qFz
   have z_b1_31 : w1.heap.size < w1_30.heap.size := by subst hW9; exact S_w1_30
   have Yw1_30 := Ext.refl w1_30
   clear hW9
   refine wpAnyH_ready (rs := [3, 6]) qKr (by simp) ?_
   refine AllReadyH.cons rfl (fun K hK => ?_) (AllReadyH.cons rfl (fun K hK => ?_) AllReadyH.nil)
   ·
    try simp only [Act.put, qa, qb, qc, qD, qE, qF]
    go_simp
    refine (copyIntsO_c (.slice p2 u.length c2) u _ _ (h3.ext (Xw1.trans qXt))).mono ?_
    rintro e w1_32 ⟨g1_35, r1_36, rfl, O1_34, Gg1_35, Hg1_35, x1_33⟩
    replace x1_33 : Ext w1_30 w1_32 := Ext.trans qXt x1_33
    have S_w1_32 : w1_30.heap.size ≤ w1_32.heap.size := x1_33.size
    replace Yw1_30 := Yw1_30.trans x1_33
    replace X1 := X1.trans x1_33
    have Yw1_32 := Ext.refl w1_32
    clear x1_33
    refine hK.out _ w1_32 ⟨(show Ext w1 w1_32 from qXt).cell b10, (show Ext w1 w1_32 from qXt).cell b11, (show Ext w1 w1_32 from qXt).cell b12, (show Ext w1 w1_32 from qXt).cell b20, (show Ext w1 w1_32 from qXt).cell b21, (show Ext w1 w1_32 from qXt).cell b22⟩ (fun hHeld => ?_)
    clear hK K
    try simp only [Act.put, qa, qb, qc, qD, qE, qF]
    refine qHr 6 rfl (fun K hK => ?_)
    try simp only [Act.put, qa, qb, qc, qD, qE, qF]
    have hmk := mk_ints u.length (by omega)
    go_simp
    refine hK.out _ (w1_32.alloc (.cells (madeCells #[Value.int .i64 0] u.length) 3)) ⟨(show Ext w1 (w1_32.alloc (.cells (madeCells #[Value.int .i64 0] u.length) 3)) from qXt).cell b10, (show Ext w1 (w1_32.alloc (.cells (madeCells #[Value.int .i64 0] u.length) 3)) from qXt).cell b11, (show Ext w1 (w1_32.alloc (.cells (madeCells #[Value.int .i64 0] u.length) 3)) from qXt).cell b12, (show Ext w1 (w1_32.alloc (.cells (madeCells #[Value.int .i64 0] u.length) 3)) from qXt).cell b20, (show Ext w1 (w1_32.alloc (.cells (madeCells #[Value.int .i64 0] u.length) 3)) from qXt).cell b21, (show Ext w1 (w1_32.alloc (.cells (madeCells #[Value.int .i64 0] u.length) 3)) from qXt).cell b22⟩ (fun hHeld => ?_)
    clear hK K hmk
    try simp only [Act.put, qa, qb, qc, qD, qE, qF]
    generalize hW10 : w1_32.alloc (.cells (madeCells #[Value.int .i64 0] u.length) 3) = w1_37 at *
    have S_w1_37 : w1_32.heap.size < w1_37.heap.size := by subst hW10; simp
    have hx7 : Ext w1_32 w1_37 := by subst hW10; exact qXt
    replace Yw1_30 := Yw1_30.trans hx7
    replace Yw1_32 := Yw1_32.trans hx7
    replace X1 := X1.trans hx7
    clear hx7
    have O1_38 : OwnI w1_37 w1_32.heap.size (.slice (some ⟨w1_32.heap.size, 0, none⟩) u.length u.length) (List.replicate u.length 0) := by subst hW10; exact OwnI.made _ _ _ (by simp) (by omega)
    have Yw1_37 := Ext.refl w1_37
    clear hW10
    refine qHk (v := ?_) 7 rfl (.inl ⟨by rfl, ?_⟩) ?_
    rotate_left
    ·
     (intro w hSw; (try dsimp only at hSw); go_simp; try with_reducible rfl)
    try simp only [Act.put, qa, qb, qc, qD, qE, qF]
    refine qHr 9 rfl (fun K hK => ?_)
    try simp only [Act.put, qa, qb, qc, qD, qE, qF]
    replace b1_310 := Yw1_30.cell b1_310
    replace b1_311 := Yw1_30.cell b1_311
    replace b1_312 := Yw1_30.cell b1_312
    replace f_b1_310 := Yw1_30.frz z_b1_31 f_b1_310
    replace f_b1_311 := Yw1_30.frz z_b1_31 f_b1_311
    replace f_b1_312 := Yw1_30.frz z_b1_31 f_b1_312
    go_simp
    have zz := X1.size
    have K1 : Chg w1.heap.size (w1.heap.size + 1) w1_37 (((w1_37.setCell ⟨w1.heap.size, 0, none⟩ (.int .i64 b1)).setCell ⟨w1.heap.size, 1, none⟩ (.slice (some ⟨g1_35, 0, none⟩) u.length r1_36)).setCell ⟨w1.heap.size, 2, none⟩ (.slice (some ⟨w1_32.heap.size, 0, none⟩) u.length u.length)) := (Chg.setCell (p := ⟨w1.heap.size, 2, none⟩) (Chg.setCell (p := ⟨w1.heap.size, 1, none⟩) (Chg.setCell (p := ⟨w1.heap.size, 0, none⟩) (Chg.refl w1.heap.size (w1.heap.size + 1) w1_37) (Nat.le_refl _) (Nat.lt_succ_self _) _) (Nat.le_refl _) (Nat.lt_succ_self _) _) (Nat.le_refl _) (Nat.lt_succ_self _) _)
    have n_b1_310 : (((w1_37.setCell ⟨w1.heap.size, 0, none⟩ (.int .i64 b1)).setCell ⟨w1.heap.size, 1, none⟩ (.slice (some ⟨g1_35, 0, none⟩) u.length r1_36)).setCell ⟨w1.heap.size, 2, none⟩ (.slice (some ⟨w1_32.heap.size, 0, none⟩) u.length u.length)).cell? ⟨w1.heap.size, 0, none⟩ = some (.int .i64 b1) := by go_simp
    replace f_b1_310 : (((w1_37.setCell ⟨w1.heap.size, 0, none⟩ (.int .i64 b1)).setCell ⟨w1.heap.size, 1, none⟩ (.slice (some ⟨g1_35, 0, none⟩) u.length r1_36)).setCell ⟨w1.heap.size, 2, none⟩ (.slice (some ⟨w1_32.heap.size, 0, none⟩) u.length u.length)).frozen? ⟨w1.heap.size, 0, none⟩ = false := by go_simp
    have n_b1_311 : (((w1_37.setCell ⟨w1.heap.size, 0, none⟩ (.int .i64 b1)).setCell ⟨w1.heap.size, 1, none⟩ (.slice (some ⟨g1_35, 0, none⟩) u.length r1_36)).setCell ⟨w1.heap.size, 2, none⟩ (.slice (some ⟨w1_32.heap.size, 0, none⟩) u.length u.length)).cell? ⟨w1.heap.size, 1, none⟩ = some (.slice (some ⟨g1_35, 0, none⟩) u.length r1_36) := by go_simp
    replace f_b1_311 : (((w1_37.setCell ⟨w1.heap.size, 0, none⟩ (.int .i64 b1)).setCell ⟨w1.heap.size, 1, none⟩ (.slice (some ⟨g1_35, 0, none⟩) u.length r1_36)).setCell ⟨w1.heap.size, 2, none⟩ (.slice (some ⟨w1_32.heap.size, 0, none⟩) u.length u.length)).frozen? ⟨w1.heap.size, 1, none⟩ = false := by go_simp
    have n_b1_312 : (((w1_37.setCell ⟨w1.heap.size, 0, none⟩ (.int .i64 b1)).setCell ⟨w1.heap.size, 1, none⟩ (.slice (some ⟨g1_35, 0, none⟩) u.length r1_36)).setCell ⟨w1.heap.size, 2, none⟩ (.slice (some ⟨w1_32.heap.size, 0, none⟩) u.length u.length)).cell? ⟨w1.heap.size, 2, none⟩ = some (.slice (some ⟨w1_32.heap.size, 0, none⟩) u.length u.length) := by go_simp
    replace f_b1_312 : (((w1_37.setCell ⟨w1.heap.size, 0, none⟩ (.int .i64 b1)).setCell ⟨w1.heap.size, 1, none⟩ (.slice (some ⟨g1_35, 0, none⟩) u.length r1_36)).setCell ⟨w1.heap.size, 2, none⟩ (.slice (some ⟨w1_32.heap.size, 0, none⟩) u.length u.length)).frozen? ⟨w1.heap.size, 2, none⟩ = false := by go_simp
    replace b1_310 := n_b1_310
    clear n_b1_310
    replace b1_311 := n_b1_311
    clear n_b1_311
    replace b1_312 := n_b1_312
    clear n_b1_312
    replace O1_34 := (O1_34.ext Yw1_32).chgN K1 (by omega)
    replace O1_38 := (O1_38.ext Yw1_37).chgN K1 (by omega)
    replace X1 : Ext w1 (((w1_37.setCell ⟨w1.heap.size, 0, none⟩ (.int .i64 b1)).setCell ⟨w1.heap.size, 1, none⟩ (.slice (some ⟨g1_35, 0, none⟩) u.length r1_36)).setCell ⟨w1.heap.size, 2, none⟩ (.slice (some ⟨w1_32.heap.size, 0, none⟩) u.length u.length)) := (Ext.setCell (p := ⟨w1.heap.size, 2, none⟩) (Ext.setCell (p := ⟨w1.heap.size, 1, none⟩) (Ext.setCell (p := ⟨w1.heap.size, 0, none⟩) X1 (by dsimp only; omega) _) (by dsimp only; omega) _) (by dsimp only; omega) _)
    clear zz K1
    have S_st : w1_37.heap.size ≤ (((w1_37.setCell ⟨w1.heap.size, 0, none⟩ (.int .i64 b1)).setCell ⟨w1.heap.size, 1, none⟩ (.slice (some ⟨g1_35, 0, none⟩) u.length r1_36)).setCell ⟨w1.heap.size, 2, none⟩ (.slice (some ⟨w1_32.heap.size, 0, none⟩) u.length u.length)).heap.size := by simp
    refine hK.out _ ((((w1_37.setCell ⟨w1.heap.size, 0, none⟩ (.int .i64 b1)).setCell ⟨w1.heap.size, 1, none⟩ (.slice (some ⟨g1_35, 0, none⟩) u.length r1_36)).setCell ⟨w1.heap.size, 2, none⟩ (.slice (some ⟨w1_32.heap.size, 0, none⟩) u.length u.length))) ⟨(show Ext w1 ((((w1_37.setCell ⟨w1.heap.size, 0, none⟩ (.int .i64 b1)).setCell ⟨w1.heap.size, 1, none⟩ (.slice (some ⟨g1_35, 0, none⟩) u.length r1_36)).setCell ⟨w1.heap.size, 2, none⟩ (.slice (some ⟨w1_32.heap.size, 0, none⟩) u.length u.length))) from qXt).cell b10, (show Ext w1 ((((w1_37.setCell ⟨w1.heap.size, 0, none⟩ (.int .i64 b1)).setCell ⟨w1.heap.size, 1, none⟩ (.slice (some ⟨g1_35, 0, none⟩) u.length r1_36)).setCell ⟨w1.heap.size, 2, none⟩ (.slice (some ⟨w1_32.heap.size, 0, none⟩) u.length u.length))) from qXt).cell b11, (show Ext w1 ((((w1_37.setCell ⟨w1.heap.size, 0, none⟩ (.int .i64 b1)).setCell ⟨w1.heap.size, 1, none⟩ (.slice (some ⟨g1_35, 0, none⟩) u.length r1_36)).setCell ⟨w1.heap.size, 2, none⟩ (.slice (some ⟨w1_32.heap.size, 0, none⟩) u.length u.length))) from qXt).cell b12, (show Ext w1 ((((w1_37.setCell ⟨w1.heap.size, 0, none⟩ (.int .i64 b1)).setCell ⟨w1.heap.size, 1, none⟩ (.slice (some ⟨g1_35, 0, none⟩) u.length r1_36)).setCell ⟨w1.heap.size, 2, none⟩ (.slice (some ⟨w1_32.heap.size, 0, none⟩) u.length u.length))) from qXt).cell b20, (show Ext w1 ((((w1_37.setCell ⟨w1.heap.size, 0, none⟩ (.int .i64 b1)).setCell ⟨w1.heap.size, 1, none⟩ (.slice (some ⟨g1_35, 0, none⟩) u.length r1_36)).setCell ⟨w1.heap.size, 2, none⟩ (.slice (some ⟨w1_32.heap.size, 0, none⟩) u.length u.length))) from qXt).cell b21, (show Ext w1 ((((w1_37.setCell ⟨w1.heap.size, 0, none⟩ (.int .i64 b1)).setCell ⟨w1.heap.size, 1, none⟩ (.slice (some ⟨g1_35, 0, none⟩) u.length r1_36)).setCell ⟨w1.heap.size, 2, none⟩ (.slice (some ⟨w1_32.heap.size, 0, none⟩) u.length u.length))) from qXt).cell b22⟩ (fun hHeld => ?_)
    clear hK K
    try simp only [Act.put, qa, qb, qc, qD, qE, qF]
    refine wpAnyH_done qKr ?_ _
    clear hHeld
    have zz := X1.size
    go_step
    go_step
    go_meet
    case rel => exact ⟨g1_35, r1_36, w1_32.heap.size, w1.heap.size, rfl, X1, (by omega), (by omega), (by omega), (by omega), (by omega), (by omega), (by omega), (by omega), (by omega), (O1_34).lower (by omega), (O1_38).lower (by omega), b1_310, f_b1_310, b1_311, f_b1_311, b1_312, f_b1_312⟩
   ·
    try simp only [Act.put, qa, qb, qc, qD, qE, qF]
    have hmk := mk_ints u.length (by omega)
    go_simp
    refine hK.out _ (w1_30.alloc (.cells (madeCells #[Value.int .i64 0] u.length) 3)) ⟨(show Ext w1 (w1_30.alloc (.cells (madeCells #[Value.int .i64 0] u.length) 3)) from qXt).cell b10, (show Ext w1 (w1_30.alloc (.cells (madeCells #[Value.int .i64 0] u.length) 3)) from qXt).cell b11, (show Ext w1 (w1_30.alloc (.cells (madeCells #[Value.int .i64 0] u.length) 3)) from qXt).cell b12, (show Ext w1 (w1_30.alloc (.cells (madeCells #[Value.int .i64 0] u.length) 3)) from qXt).cell b20, (show Ext w1 (w1_30.alloc (.cells (madeCells #[Value.int .i64 0] u.length) 3)) from qXt).cell b21, (show Ext w1 (w1_30.alloc (.cells (madeCells #[Value.int .i64 0] u.length) 3)) from qXt).cell b22⟩ (fun hHeld => ?_)
    clear hK K hmk
    try simp only [Act.put, qa, qb, qc, qD, qE, qF]
    generalize hW11 : w1_30.alloc (.cells (madeCells #[Value.int .i64 0] u.length) 3) = w1_39 at *
    have S_w1_39 : w1_30.heap.size < w1_39.heap.size := by subst hW11; simp
    have hx7 : Ext w1_30 w1_39 := by subst hW11; exact qXt
    replace Yw1_30 := Yw1_30.trans hx7
    replace X1 := X1.trans hx7
    clear hx7
    have O1_40 : OwnI w1_39 w1_30.heap.size (.slice (some ⟨w1_30.heap.size, 0, none⟩) u.length u.length) (List.replicate u.length 0) := by subst hW11; exact OwnI.made _ _ _ (by simp) (by omega)
    have Yw1_39 := Ext.refl w1_39
    clear hW11
    refine qHr 3 rfl (fun K hK => ?_)
    try simp only [Act.put, qa, qb, qc, qD, qE, qF]
    go_simp
    refine (copyIntsO_c (.slice p2 u.length c2) u _ _ (h3.ext (Xw1.trans qXt))).mono ?_
    rintro e w1_41 ⟨g1_44, r1_45, rfl, O1_43, Gg1_44, Hg1_44, x1_42⟩
    replace x1_42 : Ext w1_39 w1_41 := Ext.trans qXt x1_42
    have S_w1_41 : w1_39.heap.size ≤ w1_41.heap.size := x1_42.size
    replace Yw1_30 := Yw1_30.trans x1_42
    replace Yw1_39 := Yw1_39.trans x1_42
    replace X1 := X1.trans x1_42
    have Yw1_41 := Ext.refl w1_41
    clear x1_42
    refine hK.out _ w1_41 ⟨(show Ext w1 w1_41 from qXt).cell b10, (show Ext w1 w1_41 from qXt).cell b11, (show Ext w1 w1_41 from qXt).cell b12, (show Ext w1 w1_41 from qXt).cell b20, (show Ext w1 w1_41 from qXt).cell b21, (show Ext w1 w1_41 from qXt).cell b22⟩ (fun hHeld => ?_)
    clear hK K
    try simp only [Act.put, qa, qb, qc, qD, qE, qF]
    refine qHk (v := ?_) 7 rfl (.inl ⟨by rfl, ?_⟩) ?_
    rotate_left
    ·
     (intro w hSw; (try dsimp only at hSw); go_simp; try with_reducible rfl)
    try simp only [Act.put, qa, qb, qc, qD, qE, qF]
    refine qHr 9 rfl (fun K hK => ?_)
    try simp only [Act.put, qa, qb, qc, qD, qE, qF]
    replace b1_310 := Yw1_30.cell b1_310
    replace b1_311 := Yw1_30.cell b1_311
    replace b1_312 := Yw1_30.cell b1_312
    replace f_b1_310 := Yw1_30.frz z_b1_31 f_b1_310
    replace f_b1_311 := Yw1_30.frz z_b1_31 f_b1_311
    replace f_b1_312 := Yw1_30.frz z_b1_31 f_b1_312
    go_simp
    have zz := X1.size
    have K1 : Chg w1.heap.size (w1.heap.size + 1) w1_41 (((w1_41.setCell ⟨w1.heap.size, 0, none⟩ (.int .i64 b1)).setCell ⟨w1.heap.size, 1, none⟩ (.slice (some ⟨g1_44, 0, none⟩) u.length r1_45)).setCell ⟨w1.heap.size, 2, none⟩ (.slice (some ⟨w1_30.heap.size, 0, none⟩) u.length u.length)) := (Chg.setCell (p := ⟨w1.heap.size, 2, none⟩) (Chg.setCell (p := ⟨w1.heap.size, 1, none⟩) (Chg.setCell (p := ⟨w1.heap.size, 0, none⟩) (Chg.refl w1.heap.size (w1.heap.size + 1) w1_41) (Nat.le_refl _) (Nat.lt_succ_self _) _) (Nat.le_refl _) (Nat.lt_succ_self _) _) (Nat.le_refl _) (Nat.lt_succ_self _) _)
    have n_b1_310 : (((w1_41.setCell ⟨w1.heap.size, 0, none⟩ (.int .i64 b1)).setCell ⟨w1.heap.size, 1, none⟩ (.slice (some ⟨g1_44, 0, none⟩) u.length r1_45)).setCell ⟨w1.heap.size, 2, none⟩ (.slice (some ⟨w1_30.heap.size, 0, none⟩) u.length u.length)).cell? ⟨w1.heap.size, 0, none⟩ = some (.int .i64 b1) := by go_simp
    replace f_b1_310 : (((w1_41.setCell ⟨w1.heap.size, 0, none⟩ (.int .i64 b1)).setCell ⟨w1.heap.size, 1, none⟩ (.slice (some ⟨g1_44, 0, none⟩) u.length r1_45)).setCell ⟨w1.heap.size, 2, none⟩ (.slice (some ⟨w1_30.heap.size, 0, none⟩) u.length u.length)).frozen? ⟨w1.heap.size, 0, none⟩ = false := by go_simp
    have n_b1_311 : (((w1_41.setCell ⟨w1.heap.size, 0, none⟩ (.int .i64 b1)).setCell ⟨w1.heap.size, 1, none⟩ (.slice (some ⟨g1_44, 0, none⟩) u.length r1_45)).setCell ⟨w1.heap.size, 2, none⟩ (.slice (some ⟨w1_30.heap.size, 0, none⟩) u.length u.length)).cell? ⟨w1.heap.size, 1, none⟩ = some (.slice (some ⟨g1_44, 0, none⟩) u.length r1_45) := by go_simp
    replace f_b1_311 : (((w1_41.setCell ⟨w1.heap.size, 0, none⟩ (.int .i64 b1)).setCell ⟨w1.heap.size, 1, none⟩ (.slice (some ⟨g1_44, 0, none⟩) u.length r1_45)).setCell ⟨w1.heap.size, 2, none⟩ (.slice (some ⟨w1_30.heap.size, 0, none⟩) u.length u.length)).frozen? ⟨w1.heap.size, 1, none⟩ = false := by go_simp
    have n_b1_312 : (((w1_41.setCell ⟨w1.heap.size, 0, none⟩ (.int .i64 b1)).setCell ⟨w1.heap.size, 1, none⟩ (.slice (some ⟨g1_44, 0, none⟩) u.length r1_45)).setCell ⟨w1.heap.size, 2, none⟩ (.slice (some ⟨w1_30.heap.size, 0, none⟩) u.length u.length)).cell? ⟨w1.heap.size, 2, none⟩ = some (.slice (some ⟨w1_30.heap.size, 0, none⟩) u.length u.length) := by go_simp
    replace f_b1_312 : (((w1_41.setCell ⟨w1.heap.size, 0, none⟩ (.int .i64 b1)).setCell ⟨w1.heap.size, 1, none⟩ (.slice (some ⟨g1_44, 0, none⟩) u.length r1_45)).setCell ⟨w1.heap.size, 2, none⟩ (.slice (some ⟨w1_30.heap.size, 0, none⟩) u.length u.length)).frozen? ⟨w1.heap.size, 2, none⟩ = false := by go_simp
    replace b1_310 := n_b1_310
    clear n_b1_310
    replace b1_311 := n_b1_311
    clear n_b1_311
    replace b1_312 := n_b1_312
    clear n_b1_312
    replace O1_40 := (O1_40.ext Yw1_39).chgN K1 (by omega)
    replace O1_43 := (O1_43.ext Yw1_41).chgN K1 (by omega)
    replace X1 : Ext w1 (((w1_41.setCell ⟨w1.heap.size, 0, none⟩ (.int .i64 b1)).setCell ⟨w1.heap.size, 1, none⟩ (.slice (some ⟨g1_44, 0, none⟩) u.length r1_45)).setCell ⟨w1.heap.size, 2, none⟩ (.slice (some ⟨w1_30.heap.size, 0, none⟩) u.length u.length)) := (Ext.setCell (p := ⟨w1.heap.size, 2, none⟩) (Ext.setCell (p := ⟨w1.heap.size, 1, none⟩) (Ext.setCell (p := ⟨w1.heap.size, 0, none⟩) X1 (by dsimp only; omega) _) (by dsimp only; omega) _) (by dsimp only; omega) _)
    clear zz K1
    have S_st : w1_41.heap.size ≤ (((w1_41.setCell ⟨w1.heap.size, 0, none⟩ (.int .i64 b1)).setCell ⟨w1.heap.size, 1, none⟩ (.slice (some ⟨g1_44, 0, none⟩) u.length r1_45)).setCell ⟨w1.heap.size, 2, none⟩ (.slice (some ⟨w1_30.heap.size, 0, none⟩) u.length u.length)).heap.size := by simp
    refine hK.out _ ((((w1_41.setCell ⟨w1.heap.size, 0, none⟩ (.int .i64 b1)).setCell ⟨w1.heap.size, 1, none⟩ (.slice (some ⟨g1_44, 0, none⟩) u.length r1_45)).setCell ⟨w1.heap.size, 2, none⟩ (.slice (some ⟨w1_30.heap.size, 0, none⟩) u.length u.length))) ⟨(show Ext w1 ((((w1_41.setCell ⟨w1.heap.size, 0, none⟩ (.int .i64 b1)).setCell ⟨w1.heap.size, 1, none⟩ (.slice (some ⟨g1_44, 0, none⟩) u.length r1_45)).setCell ⟨w1.heap.size, 2, none⟩ (.slice (some ⟨w1_30.heap.size, 0, none⟩) u.length u.length))) from qXt).cell b10, (show Ext w1 ((((w1_41.setCell ⟨w1.heap.size, 0, none⟩ (.int .i64 b1)).setCell ⟨w1.heap.size, 1, none⟩ (.slice (some ⟨g1_44, 0, none⟩) u.length r1_45)).setCell ⟨w1.heap.size, 2, none⟩ (.slice (some ⟨w1_30.heap.size, 0, none⟩) u.length u.length))) from qXt).cell b11, (show Ext w1 ((((w1_41.setCell ⟨w1.heap.size, 0, none⟩ (.int .i64 b1)).setCell ⟨w1.heap.size, 1, none⟩ (.slice (some ⟨g1_44, 0, none⟩) u.length r1_45)).setCell ⟨w1.heap.size, 2, none⟩ (.slice (some ⟨w1_30.heap.size, 0, none⟩) u.length u.length))) from qXt).cell b12, (show Ext w1 ((((w1_41.setCell ⟨w1.heap.size, 0, none⟩ (.int .i64 b1)).setCell ⟨w1.heap.size, 1, none⟩ (.slice (some ⟨g1_44, 0, none⟩) u.length r1_45)).setCell ⟨w1.heap.size, 2, none⟩ (.slice (some ⟨w1_30.heap.size, 0, none⟩) u.length u.length))) from qXt).cell b20, (show Ext w1 ((((w1_41.setCell ⟨w1.heap.size, 0, none⟩ (.int .i64 b1)).setCell ⟨w1.heap.size, 1, none⟩ (.slice (some ⟨g1_44, 0, none⟩) u.length r1_45)).setCell ⟨w1.heap.size, 2, none⟩ (.slice (some ⟨w1_30.heap.size, 0, none⟩) u.length u.length))) from qXt).cell b21, (show Ext w1 ((((w1_41.setCell ⟨w1.heap.size, 0, none⟩ (.int .i64 b1)).setCell ⟨w1.heap.size, 1, none⟩ (.slice (some ⟨g1_44, 0, none⟩) u.length r1_45)).setCell ⟨w1.heap.size, 2, none⟩ (.slice (some ⟨w1_30.heap.size, 0, none⟩) u.length u.length))) from qXt).cell b22⟩ (fun hHeld => ?_)
    clear hK K
    try simp only [Act.put, qa, qb, qc, qD, qE, qF]
    refine wpAnyH_done qKr ?_ _
    clear hHeld
    have zz := X1.size
    go_step
    go_step
    go_meet
    case rel => exact ⟨g1_44, r1_45, w1_30.heap.size, w1.heap.size, rfl, X1, (by omega), (by omega), (by omega), (by omega), (by omega), (by omega), (by omega), (by omega), (by omega), (O1_43).lower (by omega), (O1_40).lower (by omega), b1_310, f_b1_310, b1_311, f_b1_311, b1_312, f_b1_312⟩
 case rest =>
  generalize wc = wc5 at hcut ⊢
  obtain ⟨g7, r8, g9, g10, rfl, xx6, Gg7, Hg7, Gg9, Hg9, Gg10, Hg10, Dg7g9, Dg7g10, Dg9g10, O11, O12, b130, f_b130, b131, f_b131, b132, f_b132⟩ := hcut
  have Lwc5 : Ext w1 wc5 := Ext.trans qXt xx6
  have Xwc5 : Ext w wc5 := Xw1.trans Lwc5
  replace b10 := Lwc5.cell b10
  replace b11 := Lwc5.cell b11
  replace b12 := Lwc5.cell b12
  replace b20 := Lwc5.cell b20
  replace b21 := Lwc5.cell b21
  replace b22 := Lwc5.cell b22
  replace f_b20 := Lwc5.frz z_b2 f_b20
  replace f_b21 := Lwc5.frz z_b2 f_b21
  replace f_b22 := Lwc5.frz z_b2 f_b22
  have z_b1 : w.heap.size < wc5.heap.size := qB b10
  have z_b2 : w.heap.size + 1 < wc5.heap.size := qB b20
  have s_wc5 : w.heap.size ≤ wc5.heap.size := Xwc5.size
  have BL4_wc5 : Ext w1 wc5 := BL4.trans Lwc5
  clear xx6
  have z_b13 : g10 < wc5.heap.size := qB b130
  go_wp2_with fail
  refine wp_region_tail (S := fun w' => w'.cell? ⟨w.heap.size, 0, none⟩ = some (.int .i64 b1) ∧ w'.cell? ⟨w.heap.size, 1, none⟩ = some (.slice p0 s1.length c0) ∧ w'.cell? ⟨w.heap.size, 2, none⟩ = some (.slice p1 t1.length c1) ∧ w'.cell? ⟨w.heap.size + 1, 0, none⟩ = some (.int .i64 0) ∧ w'.cell? ⟨w.heap.size + 1, 1, none⟩ = some (.slice none 0 0) ∧ w'.cell? ⟨w.heap.size + 1, 2, none⟩ = some (.slice none 0 0) ∧ w'.cell? ⟨g10, 0, none⟩ = some (.int .i64 b1) ∧ w'.cell? ⟨g10, 1, none⟩ = some (.slice (some ⟨g7, 0, none⟩) u.length r8) ∧ w'.cell? ⟨g10, 2, none⟩ = some (.slice (some ⟨g9, 0, none⟩) u.length u.length)) (fun i => decide (6 ≤ i)) qKr ⟨b10, b11, b12, b20, b21, b22, b130, b131, b132⟩ (fun hHeld => ?_)
  refine qTk (v := ?_) 0 rfl (.inl ⟨by rfl, ?_⟩) ?_
  rotate_left
  ·
   (intro w hSw; (try dsimp only at hSw); go_simp; try with_reducible rfl)
  try simp only [Act.put, qa, qb, qc, qD, qE, qF]
  refine qTk (v := ?_) 2 rfl (.inl ⟨by rfl, ?_⟩) ?_
  rotate_left
  ·
   (intro w hSw; (try dsimp only at hSw); go_simp; try with_reducible rfl)
  try simp only [Act.put, qa, qb, qc, qD, qE, qF]
  refine qTk (v := ?_) 3 rfl (.inl ⟨by rfl, ?_⟩) ?_
  rotate_left
  ·
   (intro w hSw; (try dsimp only at hSw); go_simp; try with_reducible rfl)
  try simp only [Act.put, qa, qb, qc, qD, qE, qF]
  refine wpTail_one (i := 1) qKr rfl rfl (fun K hK => ?_)
  try simp only [Act.put, qa, qb, qc, qD, qE, qF]
  go_simp
  refine (count_c u (.slice p2 u.length c2) _ _ (h3.ext (Xwc5.trans qXt))).mono ?_
  rintro e w' ⟨rfl, rfl⟩
  refine hK.out _ _ ⟨b10, b11, b12, b20, b21, b22, b130, b131, b132⟩ (fun hHeld => ?_)
  clear hK K
  try simp only [Act.put, qa, qb, qc, qD, qE, qF]
  refine wpTail_one (i := 4) qKr rfl rfl (fun K hK => ?_)
  try simp only [Act.put, qa, qb, qc, qD, qE, qF]
  go_simp
  refine (count_c s1 (.slice p0 s1.length c0) _ _ (h1.ext (Xwc5.trans qXt))).mono ?_
  rintro e w' ⟨rfl, rfl⟩
  refine hK.out _ _ ⟨b10, b11, b12, b20, b21, b22, b130, b131, b132⟩ (fun hHeld => ?_)
  clear hK K
  try simp only [Act.put, qa, qb, qc, qD, qE, qF]
  by_cases hc14 : (countL u : Int) = (countL s1 : Int)
  ·
   have hc14e : ((countL u : Int) == (countL s1 : Int)) = true := by simpa using hc14
   have hc14n : ((countL u : Int) != (countL s1 : Int)) = false := by simpa using hc14
   replace hc14 := Lib.hid hc14
   refine qTk (v := ?_) 5 rfl (.inl ⟨by rfl, ?_⟩) ?_
   rotate_left
   ·
    (intro w hSw; (try dsimp only at hSw); go_simp; try with_reducible rfl)
   try simp only [Act.put, qa, qb, qc, qD, qE, qF]
   refine wpTail_done qKr ?_ _
   clear hHeld 
   go_wp2_with fail
   refine (count_c u (.slice p2 u.length c2) _ _ (h3.ext (Xwc5.trans qXt))).mono ?_
   rintro e w' ⟨rfl, rfl⟩
   by_cases hc15 : (countL u : Int) = (0 : Int)
   ·
    have hc15e : ((countL u : Int) == (0 : Int)) = true := by simpa using hc15
    have hc15n : ((countL u : Int) != (0 : Int)) = false := by simpa using hc15
    replace hc15 := Lib.hid hc15
    go_wp2_with fail
    generalize hW12 : (wc5.setCell ⟨g10, 0, none⟩ (.int .i64 0)) = w2 at *
    have Kw2 : Chg (g10) (g10 + 1) wc5 w2 := by subst hW12; exact qCh
    have Xw2 : Ext w w2 := by subst hW12; exact qXt
    have BL4_w2 : Ext w1 w2 := by subst hW12; exact qXt
    replace b10 := BL4_w2.cell Q3_b10.out
    replace b11 := BL4_w2.cell Q3_b11.out
    replace b12 := BL4_w2.cell Q3_b12.out
    replace b20 := BL4_w2.cell Q3_b20.out
    replace f_b20 := BL4_w2.frz Q3_zb2 Q3_f_b20.out
    replace b21 := BL4_w2.cell Q3_b21.out
    replace f_b21 := BL4_w2.frz Q3_zb2 Q3_f_b21.out
    replace b22 := BL4_w2.cell Q3_b22.out
    replace f_b22 := BL4_w2.frz Q3_zb2 Q3_f_b22.out
    replace b130 : w2.cell? ⟨g10, 0, none⟩ = some (.int .i64 0) := by subst hW12; go_simp
    replace f_b130 : w2.frozen? ⟨g10, 0, none⟩ = false := by subst hW12; go_simp
    replace b131 : w2.cell? ⟨g10, 1, none⟩ = some (.slice (some ⟨g7, 0, none⟩) u.length r8) := by subst hW12; go_simp
    replace f_b131 : w2.frozen? ⟨g10, 1, none⟩ = false := by subst hW12; go_simp
    replace b132 : w2.cell? ⟨g10, 2, none⟩ = some (.slice (some ⟨g9, 0, none⟩) u.length u.length) := by subst hW12; go_simp
    replace f_b132 : w2.frozen? ⟨g10, 2, none⟩ = false := by subst hW12; go_simp
    replace O11 := O11.chgN Kw2 (by omega)
    replace O12 := O12.chgN Kw2 (by omega)
    clear Kw2
    have z_b1 : w.heap.size < w2.heap.size := qB b10
    have z_b2 : w.heap.size + 1 < w2.heap.size := qB b20
    have z_b13 : g10 < w2.heap.size := qB b130
    have s_w2 : w.heap.size ≤ w2.heap.size := Xw2.size
    clear hW12
    generalize hW13 : (((w2.setCell ⟨w.heap.size + 1, 0, none⟩ (.int .i64 0)).setCell ⟨w.heap.size + 1, 1, none⟩ (.slice (some ⟨g7, 0, none⟩) u.length r8)).setCell ⟨w.heap.size + 1, 2, none⟩ (.slice (some ⟨g9, 0, none⟩) u.length u.length)) = w3 at *
    have Kw3 : Chg (w.heap.size + 1) (w.heap.size + 1 + 1) w2 w3 := by subst hW13; exact qCh
    have Xw3 : Ext w w3 := by subst hW13; exact qXt
    replace b10 := Kw3.cell (by omega) b10
    replace b11 := Kw3.cell (by omega) b11
    replace b12 := Kw3.cell (by omega) b12
    replace b20 : w3.cell? ⟨w.heap.size + 1, 0, none⟩ = some (.int .i64 0) := by subst hW13; go_simp
    replace f_b20 : w3.frozen? ⟨w.heap.size + 1, 0, none⟩ = false := by subst hW13; go_simp
    replace b21 : w3.cell? ⟨w.heap.size + 1, 1, none⟩ = some (.slice (some ⟨g7, 0, none⟩) u.length r8) := by subst hW13; go_simp
    replace f_b21 : w3.frozen? ⟨w.heap.size + 1, 1, none⟩ = false := by subst hW13; go_simp
    replace b22 : w3.cell? ⟨w.heap.size + 1, 2, none⟩ = some (.slice (some ⟨g9, 0, none⟩) u.length u.length) := by subst hW13; go_simp
    replace f_b22 : w3.frozen? ⟨w.heap.size + 1, 2, none⟩ = false := by subst hW13; go_simp
    replace b130 := Kw3.cell (by omega) b130
    replace f_b130 := Kw3.frzO (by omega) z_b13 f_b130
    replace b131 := Kw3.cell (by omega) b131
    replace f_b131 := Kw3.frzO (by omega) z_b13 f_b131
    replace b132 := Kw3.cell (by omega) b132
    replace f_b132 := Kw3.frzO (by omega) z_b13 f_b132
    replace O11 := O11.chgN Kw3 (by omega)
    replace O12 := O12.chgN Kw3 (by omega)
    clear Kw3
    have z_b1 : w.heap.size < w3.heap.size := qB b10
    have z_b2 : w.heap.size + 1 < w3.heap.size := qB b20
    have z_b13 : g10 < w3.heap.size := qB b130
    have s_w3 : w.heap.size ≤ w3.heap.size := Xw3.size
    clear hW13
    refine bodyPost_ret (v := .tuple #[.agg #[.int .i64 0, .slice (some ⟨g7, 0, none⟩) u.length r8, .slice (some ⟨g9, 0, none⟩) u.length u.length], .bool true]) (by simp only [results, Try.results118]; go_simp) rfl ?_
    rw [show rsR b1 s1 t1 u = (0, u, List.replicate u.length 0, true) from by rw [rsR_val rfl rfl, if_pos hc14.out, if_pos hc15.out]]
    exact ⟨_, _, rfl, (O11.ints (by first | (simp; omega) | (simp only [List.length_set]; omega) | omega)).lower (by omega), (O12.ints (by first | (simp; omega) | (simp only [List.length_set]; omega) | omega)).lower (by omega), (Xw3.trans qXt)⟩
   ·
    have hc15e : ((countL u : Int) == (0 : Int)) = false := by simpa using hc15
    have hc15n : ((countL u : Int) != (0 : Int)) = true := by simpa using hc15
    replace hc15 := Lib.hid hc15
    obtain ⟨C, hC⟩ : ∃ C, offsL b1 s1 t1 = C := ⟨_, rfl⟩
    have hCl : countL u ≤ (C.length : Int) := by rw [← hC, offs_count]; have := hc14.out; have := (shapeB_in hu.out).2.2.1; omega
    have hCb := Lib.hid (show ∀ x ∈ C, 0 ≤ x ∧ x ≤ 59 from by rw [← hC]; exact (viewB_in hv.out).2.2.2.2)
    replace hC := Lib.hid hC
    have hcpos : 0 < countL u := by have := hc15.out; have := (shapeB_in hu.out).2.2.1; omega
    go_wp2_with fail
    refine (pi_eq hC.out (offsets_c b1 (.slice p0 s1.length c0) (.slice p1 t1.length c1) s1 t1 _ _ _ (h1.ext (Xwc5.trans qXt)) (k1.ext (Xwc5.trans qXt)) (vw hv.out).1 (vw hv.out).2.1 (vw hv.out).2.2.1)).mono ?_
    rintro e w2 ⟨fv16, rfl, i17, -, xw2⟩
    have Lw2 : Ext wc5 w2 := Ext.trans qXt xw2
    have Xw2 : Ext w w2 := Xwc5.trans Lw2
    replace b10 := Lw2.cell b10
    replace b11 := Lw2.cell b11
    replace b12 := Lw2.cell b12
    replace b20 := Lw2.cell b20
    replace b21 := Lw2.cell b21
    replace b22 := Lw2.cell b22
    replace f_b20 := Lw2.frz z_b2 f_b20
    replace f_b21 := Lw2.frz z_b2 f_b21
    replace f_b22 := Lw2.frz z_b2 f_b22
    replace b130 := Lw2.cell b130
    replace b131 := Lw2.cell b131
    replace b132 := Lw2.cell b132
    replace f_b130 := Lw2.frz z_b13 f_b130
    replace f_b131 := Lw2.frz z_b13 f_b131
    replace f_b132 := Lw2.frz z_b13 f_b132
    have z_b1 : w.heap.size < w2.heap.size := qB b10
    have z_b2 : w.heap.size + 1 < w2.heap.size := qB b20
    have z_b13 : g10 < w2.heap.size := qB b130
    replace O11 := O11.ext Lw2
    replace O12 := O12.ext Lw2
    have s_w2 : w.heap.size ≤ w2.heap.size := Xw2.size
    have BL4_w2 : Ext w1 w2 := BL4_wc5.trans Lw2
    clear xw2
    try simp only [World.size_alloc, World.size_drew] at i17
    obtain ⟨afv16, cfv16, rfl⟩ := i17.form
    go_wp2_with fail
    rw [← reshT_zero C u] at O12
    go_loopw [8, 9] (fun i x wr => ∃ (k : Nat), k ≤ u.length ∧ i = .int .i64 k ∧ OwnI wr (w1.heap.size) (.slice (some ⟨g9, 0, none⟩) u.length u.length) (reshT C u k) ∧ Chg g9 (g9 + 1) w2 wr ∧ Ext w1 wr) (fun i _ _ => u.length - (intOf i).toNat)
    case atStart => exact ⟨0, Nat.zero_le _, rfl, (show OwnI _ _ _ (reshT C u 0) from (O12.ext qXt)), Chg.refl _ _ _, BL4_w2⟩
    case round =>
     obtain ⟨k, hk, rfl, O12n, Kr18, Er19⟩ := hrel
     have Xwr : Ext w wr := Xw1.trans Er19
     have s_wr : w.heap.size ≤ wr.heap.size := Xwr.size
     have t_wr : w2.heap.size ≤ wr.heap.size := Kr18.size
     replace b10 := Er19.cell Q3_b10.out
     replace b11 := Er19.cell Q3_b11.out
     replace b12 := Er19.cell Q3_b12.out
     replace b20 := Er19.cell Q3_b20.out
     replace f_b20 := Er19.frz Q3_zb2 Q3_f_b20.out
     replace b21 := Er19.cell Q3_b21.out
     replace f_b21 := Er19.frz Q3_zb2 Q3_f_b21.out
     replace b22 := Er19.cell Q3_b22.out
     replace f_b22 := Er19.frz Q3_zb2 Q3_f_b22.out
     replace b130 := Kr18.cell (by omega) b130
     replace f_b130 := Kr18.frzO (by omega) (by omega) f_b130
     replace b131 := Kr18.cell (by omega) b131
     replace f_b131 := Kr18.frzO (by omega) (by omega) f_b131
     replace b132 := Kr18.cell (by omega) b132
     replace f_b132 := Kr18.frzO (by omega) (by omega) f_b132
     have z_b1 : w.heap.size < wr.heap.size := qB b10
     have z_b2 : w.heap.size + 1 < wr.heap.size := qB b20
     have z_b13 : g10 < wr.heap.size := qB b130
     replace O11 := O11.chgN Kr18 (by omega)
     clear O12
     have O12 := O12n
     clear O12n
     replace i17 := i17.chg Kr18 (by omega)
     have lt_g7 := (own_lt O11 rfl).2
     have lt_g9 := (own_lt O12 rfl).2
     by_cases hlt : k < u.length
     ·
      have hRk : k < (reshT C u k).length := by rw [reshT_len _ _ _ (by omega)]; exact hlt
      have hkI : (k : Int) < u.length := by omega
      have hRn : k < (List.replicate u.length (0 : Int)).length := by rw [List.length_replicate]; exact hlt
      have hN_e22 : k < u.length := (by omega)
      have hI_e22 : (k : Int) < (u.length : Int) := by omega
      obtain ⟨bl20, ol21, rfl, e220⟩ := h3.at k (by omega)
      have y_e22 : bl20 < w.heap.size := qB e220
      replace e220 := Xwr.cell e220
      obtain ⟨v23, hv23⟩ : ∃ v, u.getD k 0 = v := ⟨_, rfl⟩
      rw [hv23] at e220
      replace hv23 := Lib.hid hv23
      have z_e22 : bl20 < wr.heap.size := qB e220
      have h60v23 := hu60.out _ (getD_mem hlt)
      rw [hv23.out] at h60v23
      by_cases hc24 : (1 : Int) < (v23 : Int)
      ·
       have zBL4_mwr := (Er19).size
       have Q25_b10 := Lib.hid b10
       have Q25_b11 := Lib.hid b11
       have Q25_b12 := Lib.hid b12
       have Q25_zb1 := z_b1
       have Q25_b20 := Lib.hid b20
       have Q25_f_b20 := Lib.hid f_b20
       have Q25_b21 := Lib.hid b21
       have Q25_f_b21 := Lib.hid f_b21
       have Q25_b22 := Lib.hid b22
       have Q25_f_b22 := Lib.hid f_b22
       have Q25_zb2 := z_b2
       have Q25_b130 := Lib.hid b130
       have Q25_f_b130 := Lib.hid f_b130
       have Q25_b131 := Lib.hid b131
       have Q25_f_b131 := Lib.hid f_b131
       have Q25_b132 := Lib.hid b132
       have Q25_f_b132 := Lib.hid f_b132
       have Q25_zb13 := z_b13
       have Q25_e220 := Lib.hid e220
       have Q25_ze22 := z_e22
       have Q25_O11 := Lib.hid O11
       have Q25_O12 := Lib.hid O12
       have Q25_i17 := Lib.hid i17
       have BL26 : Ext wr wr := Ext.refl _
       obtain ⟨i0mk27, himk27, hz0mk27, hz1mk27, hz2mk27⟩ := info_parts infoInt
       go_wp2_with (at_make; refine wpList_make_full _ rfl _ _ 23 rfl wr.heap.size 3 i0mk27 (.int .i64 0) 1 Try.underlying23 himk27 hz0mk27 hz1mk27 .i64 .i64 _ _ u.length rfl rfl rfl rfl (by rw [hz2mk27]; omega) (by unfold maxLen; omega) (Nat.le_refl _) ?_)
       intro w3 hown7 hgr7
       have xw3 : Ext wr w3 := (Ext.refl wr).grown hgr7 (by simp)
       rw [made_ints] at hown7
       clear hgr7
       have O28 : OwnI w3 wr.heap.size (.slice (some ⟨wr.heap.size, 0, none⟩) u.length u.length) (List.replicate u.length 0) := by unfold OwnI; simpa using hown7
       clear hown7 himk27 hz0mk27 hz1mk27 hz2mk27
       have Lw3 : Ext wr w3 := Ext.trans qXt xw3
       have Xw3 : Ext w w3 := Xwr.trans Lw3
       replace b10 := Lw3.cell b10
       replace b11 := Lw3.cell b11
       replace b12 := Lw3.cell b12
       replace b20 := Lw3.cell b20
       replace b21 := Lw3.cell b21
       replace b22 := Lw3.cell b22
       replace f_b20 := Lw3.frz z_b2 f_b20
       replace f_b21 := Lw3.frz z_b2 f_b21
       replace f_b22 := Lw3.frz z_b2 f_b22
       replace b130 := Lw3.cell b130
       replace b131 := Lw3.cell b131
       replace b132 := Lw3.cell b132
       replace f_b130 := Lw3.frz z_b13 f_b130
       replace f_b131 := Lw3.frz z_b13 f_b131
       replace f_b132 := Lw3.frz z_b13 f_b132
       replace e220 := Lw3.cell e220
       have z_b1 : w.heap.size < w3.heap.size := qB b10
       have z_b2 : w.heap.size + 1 < w3.heap.size := qB b20
       have z_b13 : g10 < w3.heap.size := qB b130
       have z_e22 : bl20 < w3.heap.size := qB e220
       replace O11 := O11.ext Lw3
       replace O12 := O12.ext Lw3
       replace i17 := i17.ext Lw3
       have s_w3 : w.heap.size ≤ w3.heap.size := Xw3.size
       have BL4_w3 : Ext w1 w3 := Er19.trans Lw3
       have BL26_w3 : Ext wr w3 := BL26.trans Lw3
       have Kr18_w3 : Chg g9 (g9 + 1) w2 w3 := Chg.ext Kr18 Lw3
       clear xw3
       skip
       have A29 := O28.cell k hRn
       obtain ⟨A29a, A29b⟩ := A29
       obtain ⟨hJ0, hJ1⟩ := stride_lt hus.out (by omega) k hlt (by rw [← getD_get hlt, hv23.out]; omega)
       have hrk := rank_unit hus.out k hlt
       obtain ⟨J, hJd⟩ : ∃ J : Nat, countL (u.drop (k+1)) = J := ⟨(countL (u.drop (k+1))).toNat, by omega⟩
       rw [hJd] at hJ0 hJ1 hrk
       have hJ := Lib.hid hrk
       clear hrk
       replace hJd := Lib.hid hJd
       have hJC : J < C.length := by have := hCl; omega
       have h0C : 0 < C.length := by omega
       go_wp2_with fail
       clear e220 z_e22
       generalize hW14 : (w3.setCell ⟨wr.heap.size, k, none⟩ (.int .i64 1)) = w4 at *
       have Kw4 : Chg (wr.heap.size) (wr.heap.size + 1) w3 w4 := by subst hW14; exact qCh
       have Xw4 : Ext w w4 := by subst hW14; exact qXt
       have BL4_w4 : Ext w1 w4 := by subst hW14; exact qXt
       have BL26_w4 : Ext wr w4 := by subst hW14; exact qXt
       have Kr18_w4 : Chg g9 (g9 + 1) w2 w4 := by subst hW14; exact (Chg.setNew (p := ⟨wr.heap.size, k, none⟩) Kr18_w3 (by dsimp only; omega) (.int .i64 1))
       replace b10 := BL26_w4.cell Q25_b10.out
       replace b11 := BL26_w4.cell Q25_b11.out
       replace b12 := BL26_w4.cell Q25_b12.out
       replace b20 := BL26_w4.cell Q25_b20.out
       replace f_b20 := BL26_w4.frz Q25_zb2 Q25_f_b20.out
       replace b21 := BL26_w4.cell Q25_b21.out
       replace f_b21 := BL26_w4.frz Q25_zb2 Q25_f_b21.out
       replace b22 := BL26_w4.cell Q25_b22.out
       replace f_b22 := BL26_w4.frz Q25_zb2 Q25_f_b22.out
       replace b130 := BL26_w4.cell Q25_b130.out
       replace f_b130 := BL26_w4.frz Q25_zb13 Q25_f_b130.out
       replace b131 := BL26_w4.cell Q25_b131.out
       replace f_b131 := BL26_w4.frz Q25_zb13 Q25_f_b131.out
       replace b132 := BL26_w4.cell Q25_b132.out
       replace f_b132 := BL26_w4.frz Q25_zb13 Q25_f_b132.out
       replace O11 := O11.chgN Kw4 (by omega)
       replace O12 := O12.chgN Kw4 (by omega)
       replace i17 := (Q25_i17.out).ext BL26_w4
       have n_O28 := O28.set k (1) (by first | omega | (simp; omega) | (rw [putUp_len]; simp; omega) | (rw [addUp_len]; omega))
       rw [hW14] at n_O28
       replace O28 := n_O28
       clear n_O28
       clear Kw4
       have z_b1 : w.heap.size < w4.heap.size := qB b10
       have z_b2 : w.heap.size + 1 < w4.heap.size := qB b20
       have z_b13 : g10 < w4.heap.size := qB b130
       have s_w4 : w.heap.size ≤ w4.heap.size := Xw4.size
       clear hW14
       clear A29a A29b
       have hN_e32 : J < C.length := hJC
       have hI_e32 : (J : Int) < (C.length : Int) := by omega
       obtain ⟨bl30, ol31, rfl, e320⟩ := i17.at J hJC
       obtain ⟨v33, hv33⟩ : ∃ v, C.getD J 0 = v := ⟨_, rfl⟩
       rw [hv33] at e320
       replace hv33 := Lib.hid hv33
       have y_e32 : bl30 < w4.heap.size := qB e320
       have z_e32 := y_e32
       have h60v33 := hCb.out _ (getD_mem hJC)
       rw [hv33.out] at h60v33
       have hI_e36 : (0 : Int) < (C.length : Int) := by have hB7 : 0 < C.length := h0C; omega
       obtain ⟨b_e36, o_e36, h_e36, e360⟩ := i17.at 0 h0C
       cases h_e36
       rw [Nat.add_zero] at e360
       obtain ⟨v37, hv37⟩ : ∃ v, C.getD 0 0 = v := ⟨_, rfl⟩
       rw [hv37] at e360
       replace hv37 := Lib.hid hv37
       have y_e36 : bl30 < w4.heap.size := qB e360
       have z_e36 := y_e36
       have h60v37 := hCb.out _ (getD_mem h0C)
       rw [hv37.out] at h60v37
       have A38 := O12.cell k hRk
       obtain ⟨A38a, A38b⟩ := A38
       refine wp_region_tail (S := fun w' => w'.cell? ⟨w.heap.size, 0, none⟩ = some (.int .i64 b1) ∧ w'.cell? ⟨w.heap.size, 1, none⟩ = some (.slice p0 s1.length c0) ∧ w'.cell? ⟨w.heap.size, 2, none⟩ = some (.slice p1 t1.length c1) ∧ w'.cell? ⟨w.heap.size + 1, 0, none⟩ = some (.int .i64 0) ∧ w'.cell? ⟨w.heap.size + 1, 1, none⟩ = some (.slice none 0 0) ∧ w'.cell? ⟨w.heap.size + 1, 2, none⟩ = some (.slice none 0 0) ∧ w'.cell? ⟨g10, 0, none⟩ = some (.int .i64 b1) ∧ w'.cell? ⟨g10, 1, none⟩ = some (.slice (some ⟨g7, 0, none⟩) u.length r8) ∧ w'.cell? ⟨g10, 2, none⟩ = some (.slice (some ⟨g9, 0, none⟩) u.length u.length) ∧ w'.cell? ⟨bl30, ol31 + J, none⟩ = some (.int .i64 v33) ∧ w'.cell? ⟨bl30, ol31, none⟩ = some (.int .i64 v37)) (fun i => decide (14 ≤ i)) qKr ⟨b10, b11, b12, b20, b21, b22, b130, b131, b132, e320, e360⟩ (fun hHeld => ?_)
       refine qTk (v := ?_) 0 rfl (.inl ⟨by rfl, ?_⟩) ?_
       rotate_left
       ·
        (intro w hSw; (try dsimp only at hSw); go_simp; try with_reducible rfl)
       try simp only [Act.put, qa, qb, qc, qD, qE, qF]
       refine qTk (v := ?_) 1 rfl (.inl ⟨by rfl, ?_⟩) ?_
       rotate_left
       ·
        (intro w hSw; (try dsimp only at hSw); go_simp; try with_reducible rfl)
       try simp only [Act.put, qa, qb, qc, qD, qE, qF]
       refine qTk (v := ?_) 2 rfl (.inl ⟨by rfl, ?_⟩) ?_
       rotate_left
       ·
        (intro w hSw; (try dsimp only at hSw); go_simp; try with_reducible rfl)
       try simp only [Act.put, qa, qb, qc, qD, qE, qF]
       refine qTk (v := ?_) 3 rfl (.inl ⟨by rfl, ?_⟩) ?_
       rotate_left
       ·
        (intro w hSw; (try dsimp only at hSw); go_simp; try with_reducible rfl)
       try simp only [Act.put, qa, qb, qc, qD, qE, qF]
       refine qTk (v := ?_) 4 rfl (.inl ⟨by rfl, ?_⟩) ?_
       rotate_left
       ·
        (intro w hSw; (try dsimp only at hSw); go_simp; try with_reducible rfl)
       try simp only [Act.put, qa, qb, qc, qD, qE, qF]
       refine qTk (v := ?_) 5 rfl (.inl ⟨by rfl, ?_⟩) ?_
       rotate_left
       ·
        (intro w hSw; (try dsimp only at hSw); go_simp; try with_reducible rfl)
       try simp only [Act.put, qa, qb, qc, qD, qE, qF]
       refine qTk (v := ?_) 9 rfl (.inl ⟨by rfl, ?_⟩) ?_
       rotate_left
       ·
        (intro w hSw; (try dsimp only at hSw); go_simp; try with_reducible rfl)
       try simp only [Act.put, qa, qb, qc, qD, qE, qF]
       refine qTk (v := ?_) 10 rfl (.inl ⟨by rfl, ?_⟩) ?_
       rotate_left
       ·
        (intro w hSw; (try dsimp only at hSw); go_simp; try with_reducible rfl)
       try simp only [Act.put, qa, qb, qc, qD, qE, qF]
       refine qTk (v := ?_) 11 rfl (.inl ⟨by rfl, ?_⟩) ?_
       rotate_left
       ·
        (intro w hSw; (try dsimp only at hSw); go_simp; try with_reducible rfl)
       try simp only [Act.put, qa, qb, qc, qD, qE, qF]
       refine wpTail_one (i := 6) qKr rfl rfl (fun K hK => ?_)
       try simp only [Act.put, qa, qb, qc, qD, qE, qF]
       go_simp
       refine (rnk_eq hJ.out (rank_c _ _ _ _ _ _ _ (h3.ext (Xw4.trans qXt)) ((O28.ints (by first | (simp; omega) | (unfold putL; rw [putUp_len]; simp; omega) | (rw [putUp_len]; simp; omega))).ext qXt) (by simp))).mono ?_
       rintro e w5 ⟨rfl, xw5⟩
       have Lw5 : Ext w4 w5 := Ext.trans qXt xw5
       have Xw5 : Ext w w5 := Xw4.trans Lw5
       replace b10 := Lw5.cell b10
       replace b11 := Lw5.cell b11
       replace b12 := Lw5.cell b12
       replace b20 := Lw5.cell b20
       replace b21 := Lw5.cell b21
       replace b22 := Lw5.cell b22
       replace f_b20 := Lw5.frz z_b2 f_b20
       replace f_b21 := Lw5.frz z_b2 f_b21
       replace f_b22 := Lw5.frz z_b2 f_b22
       replace b130 := Lw5.cell b130
       replace b131 := Lw5.cell b131
       replace b132 := Lw5.cell b132
       replace f_b130 := Lw5.frz z_b13 f_b130
       replace f_b131 := Lw5.frz z_b13 f_b131
       replace f_b132 := Lw5.frz z_b13 f_b132
       replace e320 := Lw5.cell e320
       replace e360 := Lw5.cell e360
       have z_b1 : w.heap.size < w5.heap.size := qB b10
       have z_b2 : w.heap.size + 1 < w5.heap.size := qB b20
       have z_b13 : g10 < w5.heap.size := qB b130
       have z_e32 : bl30 < w5.heap.size := qB e320
       have z_e36 : bl30 < w5.heap.size := qB e360
       replace O11 := O11.ext Lw5
       replace O12 := O12.ext Lw5
       replace i17 := i17.ext Lw5
       replace O28 := O28.ext Lw5
       have s_w5 : w.heap.size ≤ w5.heap.size := Xw5.size
       have BL4_w5 : Ext w1 w5 := BL4_w4.trans Lw5
       have BL26_w5 : Ext wr w5 := BL26_w4.trans Lw5
       have Kr18_w5 : Chg g9 (g9 + 1) w2 w5 := Chg.ext Kr18_w4 Lw5
       clear xw5
       refine hK.out _ _ ⟨b10, b11, b12, b20, b21, b22, b130, b131, b132, e320, e360⟩ (fun hHeld => ?_)
       clear hK K
       try simp only [Act.put, qa, qb, qc, qD, qE, qF]
       refine qTk (v := ?_) 7 rfl (.inl ⟨by rfl, ?_⟩) ?_
       rotate_left
       ·
        (intro w hSw; (try dsimp only at hSw); go_simp; try with_reducible rfl)
       try simp only [Act.put, qa, qb, qc, qD, qE, qF]
       refine qTk (v := ?_) 8 rfl (.inl ⟨by rfl, ?_⟩) ?_
       rotate_left
       ·
        (intro w hSw; (try dsimp only at hSw); go_simp; try with_reducible rfl)
       try simp only [Act.put, qa, qb, qc, qD, qE, qF]
       have hw45 : IntKind.i64.wrap (v33 - v37) = v33 - v37 := IntWalk.i64_in _ (by omega)
       refine qTk (v := ?_) 12 rfl (.inl ⟨by rfl, ?_⟩) ?_
       rotate_left
       ·
        (intro w hSw; (try dsimp only at hSw); go_simp; try with_reducible rfl)
       try simp only [Act.put, qa, qb, qc, qD, qE, qF]
       refine qTk (v := ?_) 13 rfl (.inl ⟨by rfl, ?_⟩) ?_
       rotate_left
       ·
        (intro w hSw; (try dsimp only at hSw); go_simp; try with_reducible rfl)
       try simp only [Act.put, qa, qb, qc, qD, qE, qF]
       have A46 := O12.cell k hRk
       obtain ⟨A46a, A46b⟩ := A46
       refine wpTail_last (i := 14) qKr rfl rfl (fun K hK => ?_)
       try simp only [Act.put, qa, qb, qc, qD, qE, qF]
       go_simp
       refine hK.out _ _ ?_
       clear hK K
       try simp only [Act.put, qa, qb, qc, qD, qE, qF]
       refine wpTail_done qKr ?_ _
       clear hHeld hw45
       clear e320 z_e32
       clear e360 z_e36
       generalize hW15 : (w5.setCell ⟨g9, k, none⟩ (.int .i64 (v33 - v37))) = w6 at *
       have Kw6 : Chg (g9) (g9 + 1) w5 w6 := by subst hW15; exact qCh
       have Xw6 : Ext w w6 := by subst hW15; exact qXt
       have BL4_w6 : Ext w1 w6 := by subst hW15; exact qXt
       have Kr18_w6 : Chg g9 (g9 + 1) w2 w6 := Chg.trans Kr18_w5 Kw6
       replace b10 := BL4_w6.cell Q3_b10.out
       replace b11 := BL4_w6.cell Q3_b11.out
       replace b12 := BL4_w6.cell Q3_b12.out
       replace b20 := BL4_w6.cell Q3_b20.out
       replace f_b20 := BL4_w6.frz Q3_zb2 Q3_f_b20.out
       replace b21 := BL4_w6.cell Q3_b21.out
       replace f_b21 := BL4_w6.frz Q3_zb2 Q3_f_b21.out
       replace b22 := BL4_w6.cell Q3_b22.out
       replace f_b22 := BL4_w6.frz Q3_zb2 Q3_f_b22.out
       replace b130 := Kw6.cell (by omega) b130
       replace f_b130 := Kw6.frzO (by omega) z_b13 f_b130
       replace b131 := Kw6.cell (by omega) b131
       replace f_b131 := Kw6.frzO (by omega) z_b13 f_b131
       replace b132 := Kw6.cell (by omega) b132
       replace f_b132 := Kw6.frzO (by omega) z_b13 f_b132
       replace O11 := O11.chgN Kw6 (by omega)
       have n_O12 := O12.set k (v33 - v37) (by first | omega | (simp; omega) | (rw [putUp_len]; simp; omega) | (rw [addUp_len]; omega))
       rw [hW15] at n_O12
       replace O12 := n_O12
       clear n_O12
       replace i17 := i17.chg Kw6 (by omega)
       replace O28 := O28.chgN Kw6 (by omega)
       clear Kw6
       have z_b1 : w.heap.size < w6.heap.size := qB b10
       have z_b2 : w.heap.size + 1 < w6.heap.size := qB b20
       have z_b13 : g10 < w6.heap.size := qB b130
       have s_w6 : w.heap.size ≤ w6.heap.size := Xw6.size
       clear hW15
       clear A46a A46b
       go_wp2_with fail
       go_roundw
       case rel => exact ⟨k + 1, by omega, by go_num, (by rw [resh_step1 hlt hv23.out (by omega) hJd.out hv33.out hv37.out]; exact O12.ext qXt), Kr18_w6.ext qXt, BL4_w6.trans qXt⟩
       case measure => simp [intOf]; omega
      ·
       go_wp2_with fail
       go_roundw
       case rel => exact ⟨k + 1, by omega, by go_num, (by rw [resh_step0 hlt hv23.out (by omega)]; exact O12.ext qXt), Kr18.ext qXt, Er19.trans qXt⟩
       case measure => simp [intOf]; omega
     ·
      have hkI : ¬ (k : Int) < u.length := by omega
      obtain rfl : k = u.length := by omega
      obtain ⟨T, hT⟩ : ∃ T, reshS C u u.length = T := ⟨_, rfl⟩
      rw [reshT_all, hT] at O12
      have hTl : T.length = u.length := by rw [← hT, reshS_len]
      replace hT := Lib.hid hT
      go_wp2_with fail
      refine wp_region_held_drew (S := fun w' => w'.cell? ⟨w.heap.size, 0, none⟩ = some (.int .i64 b1) ∧ w'.cell? ⟨w.heap.size, 1, none⟩ = some (.slice p0 s1.length c0) ∧ w'.cell? ⟨w.heap.size, 2, none⟩ = some (.slice p1 t1.length c1) ∧ w'.cell? ⟨g10, 0, none⟩ = some (.int .i64 b1) ∧ w'.cell? ⟨g10, 1, none⟩ = some (.slice (some ⟨g7, 0, none⟩) u.length r8) ∧ w'.cell? ⟨g10, 2, none⟩ = some (.slice (some ⟨g9, 0, none⟩) u.length u.length)) qKr ⟨b10, b11, b12, b130, b131, b132⟩ (fun hHeld => ?_)
      refine qHk (v := ?_) 0 rfl (.inl ⟨by rfl, ?_⟩) ?_
      rotate_left
      ·
       (intro w hSw; (try dsimp only at hSw); go_simp; try with_reducible rfl)
      try simp only [Act.put, qa, qb, qc, qD, qE, qF]
      refine qHk (v := ?_) 1 rfl (.inl ⟨by rfl, ?_⟩) ?_
      rotate_left
      ·
       (intro w hSw; (try dsimp only at hSw); go_simp; try with_reducible rfl)
      try simp only [Act.put, qa, qb, qc, qD, qE, qF]
      refine qHk (v := ?_) 3 rfl (.inl ⟨by rfl, ?_⟩) ?_
      rotate_left
      ·
       (intro w hSw; (try dsimp only at hSw); go_simp; try with_reducible rfl)
      try simp only [Act.put, qa, qb, qc, qD, qE, qF]
      refine qHr 2 rfl (fun K hK => ?_)
      try simp only [Act.put, qa, qb, qc, qD, qE, qF]
      go_simp
      refine (offsets_c b1 (.slice (some ⟨g7, 0, none⟩) u.length r8) (.slice (some ⟨g9, 0, none⟩) u.length u.length) u T _ _ _ ((O11.ints (by first | (simp; omega) | (simp only [List.length_set]; omega) | omega)).ext qXt) ((O12.ints (by omega)).ext qXt) (by omega) (sh hu.out).2.1 (sh hu.out).2.2).mono ?_
      rintro e w3 ⟨fv47, rfl, i48, -, xw3⟩
      have Lw3 : Ext wr w3 := Ext.trans qXt xw3
      have Xw3 : Ext w w3 := Xwr.trans Lw3
      replace b10 := Lw3.cell b10
      replace b11 := Lw3.cell b11
      replace b12 := Lw3.cell b12
      replace b20 := Lw3.cell b20
      replace b21 := Lw3.cell b21
      replace b22 := Lw3.cell b22
      replace f_b20 := Lw3.frz z_b2 f_b20
      replace f_b21 := Lw3.frz z_b2 f_b21
      replace f_b22 := Lw3.frz z_b2 f_b22
      replace b130 := Lw3.cell b130
      replace b131 := Lw3.cell b131
      replace b132 := Lw3.cell b132
      replace f_b130 := Lw3.frz z_b13 f_b130
      replace f_b131 := Lw3.frz z_b13 f_b131
      replace f_b132 := Lw3.frz z_b13 f_b132
      have z_b1 : w.heap.size < w3.heap.size := qB b10
      have z_b2 : w.heap.size + 1 < w3.heap.size := qB b20
      have z_b13 : g10 < w3.heap.size := qB b130
      replace O11 := O11.ext Lw3
      replace O12 := O12.ext Lw3
      replace i17 := i17.ext Lw3
      have s_w3 : w.heap.size ≤ w3.heap.size := Xw3.size
      have BL4_w3 : Ext w1 w3 := Er19.trans Lw3
      clear xw3
      try simp only [World.size_alloc, World.size_drew] at i48
      obtain ⟨afv47, cfv47, rfl⟩ := i48.form
      refine hK.out _ _ ⟨b10, b11, b12, b130, b131, b132⟩ (fun hHeld => ?_)
      clear hK K
      try simp only [Act.put, qa, qb, qc, qD, qE, qF]
      refine qHr 4 rfl (fun K hK => ?_)
      try simp only [Act.put, qa, qb, qc, qD, qE, qF]
      go_simp
      refine (sameInts_c (offsL b1 u T) C (.slice afv47 ((offsL b1 u T).length) cfv47) (.slice afv16 C.length cfv16) _ _ _ (i48.ext qXt) (i17.ext qXt)).mono ?_
      rintro e w4 ⟨rfl, xw4⟩
      have Lw4 : Ext w3 w4 := Ext.trans qXt xw4
      have Xw4 : Ext w w4 := Xw3.trans Lw4
      replace b10 := Lw4.cell b10
      replace b11 := Lw4.cell b11
      replace b12 := Lw4.cell b12
      replace b20 := Lw4.cell b20
      replace b21 := Lw4.cell b21
      replace b22 := Lw4.cell b22
      replace f_b20 := Lw4.frz z_b2 f_b20
      replace f_b21 := Lw4.frz z_b2 f_b21
      replace f_b22 := Lw4.frz z_b2 f_b22
      replace b130 := Lw4.cell b130
      replace b131 := Lw4.cell b131
      replace b132 := Lw4.cell b132
      replace f_b130 := Lw4.frz z_b13 f_b130
      replace f_b131 := Lw4.frz z_b13 f_b131
      replace f_b132 := Lw4.frz z_b13 f_b132
      have z_b1 : w.heap.size < w4.heap.size := qB b10
      have z_b2 : w.heap.size + 1 < w4.heap.size := qB b20
      have z_b13 : g10 < w4.heap.size := qB b130
      replace O11 := O11.ext Lw4
      replace O12 := O12.ext Lw4
      replace i17 := i17.ext Lw4
      replace i48 := i48.ext Lw4
      have s_w4 : w.heap.size ≤ w4.heap.size := Xw4.size
      have BL4_w4 : Ext w1 w4 := BL4_w3.trans Lw4
      clear xw4
      refine hK.out _ _ ⟨b10, b11, b12, b130, b131, b132⟩ (fun hHeld => ?_)
      clear hK K
      try simp only [Act.put, qa, qb, qc, qD, qE, qF]
      refine qHr 5 rfl (fun K hK => ?_)
      try simp only [Act.put, qa, qb, qc, qD, qE, qF]
      go_simp
      generalize hW16 : (((w4.setCell ⟨w.heap.size + 1, 0, none⟩ (.int .i64 b1)).setCell ⟨w.heap.size + 1, 1, none⟩ (.slice (some ⟨g7, 0, none⟩) u.length r8)).setCell ⟨w.heap.size + 1, 2, none⟩ (.slice (some ⟨g9, 0, none⟩) u.length u.length)) = w5 at *
      have Kw5 : Chg (w.heap.size + 1) (w.heap.size + 1 + 1) w4 w5 := by subst hW16; exact qCh
      have Xw5 : Ext w w5 := by subst hW16; exact qXt
      replace b10 := Kw5.cell (by omega) b10
      replace b11 := Kw5.cell (by omega) b11
      replace b12 := Kw5.cell (by omega) b12
      replace b20 : w5.cell? ⟨w.heap.size + 1, 0, none⟩ = some (.int .i64 b1) := by subst hW16; go_simp
      replace f_b20 : w5.frozen? ⟨w.heap.size + 1, 0, none⟩ = false := by subst hW16; go_simp
      replace b21 : w5.cell? ⟨w.heap.size + 1, 1, none⟩ = some (.slice (some ⟨g7, 0, none⟩) u.length r8) := by subst hW16; go_simp
      replace f_b21 : w5.frozen? ⟨w.heap.size + 1, 1, none⟩ = false := by subst hW16; go_simp
      replace b22 : w5.cell? ⟨w.heap.size + 1, 2, none⟩ = some (.slice (some ⟨g9, 0, none⟩) u.length u.length) := by subst hW16; go_simp
      replace f_b22 : w5.frozen? ⟨w.heap.size + 1, 2, none⟩ = false := by subst hW16; go_simp
      replace b130 := Kw5.cell (by omega) b130
      replace f_b130 := Kw5.frzO (by omega) z_b13 f_b130
      replace b131 := Kw5.cell (by omega) b131
      replace f_b131 := Kw5.frzO (by omega) z_b13 f_b131
      replace b132 := Kw5.cell (by omega) b132
      replace f_b132 := Kw5.frzO (by omega) z_b13 f_b132
      replace O11 := O11.chgN Kw5 (by omega)
      replace O12 := O12.chgN Kw5 (by omega)
      replace i17 := i17.chg Kw5 (by omega)
      replace i48 := i48.chg Kw5 (by omega)
      clear Kw5
      have z_b1 : w.heap.size < w5.heap.size := qB b10
      have z_b2 : w.heap.size + 1 < w5.heap.size := qB b20
      have z_b13 : g10 < w5.heap.size := qB b130
      have s_w5 : w.heap.size ≤ w5.heap.size := Xw5.size
      clear hW16
      refine hK.out _ _ ⟨b10, b11, b12, b130, b131, b132⟩ (fun hHeld => ?_)
      clear hK K
      try simp only [Act.put, qa, qb, qc, qD, qE, qF]
      refine qHk (v := ?_) 6 rfl (.inl ⟨by rfl, ?_⟩) ?_
      rotate_left
      ·
       (intro w hSw; (try dsimp only at hSw); go_simp; try with_reducible rfl)
      try simp only [Act.put, qa, qb, qc, qD, qE, qF]
      refine wpAnyH_done qKr ?_ _
      clear hHeld 
      go_wp2_with fail
      refine bodyPost_ret (v := .tuple #[.agg #[.int .i64 b1, .slice (some ⟨g7, 0, none⟩) u.length r8, .slice (some ⟨g9, 0, none⟩) u.length u.length], .bool (sameB (offsL b1 u T) C)]) (by simp only [results, Try.results118]; go_simp) rfl ?_
      rw [show rsR b1 s1 t1 u = (b1, u, T, sameB (offsL b1 u T) C) from by rw [rsR_val hC.out hT.out, if_pos hc14.out, if_neg hc15.out]]
      exact ⟨_, _, rfl, (O11.ints (by first | (simp; omega) | (simp only [List.length_set]; omega) | omega)).lower (by omega), (O12.ints (by omega)).lower (by omega), Xw5⟩
  ·
   have hc14e : ((countL u : Int) == (countL s1 : Int)) = false := by simpa using hc14
   have hc14n : ((countL u : Int) != (countL s1 : Int)) = true := by simpa using hc14
   replace hc14 := Lib.hid hc14
   refine qTk (v := ?_) 5 rfl (.inl ⟨by rfl, ?_⟩) ?_
   rotate_left
   ·
    (intro w hSw; (try dsimp only at hSw); go_simp; try with_reducible rfl)
   try simp only [Act.put, qa, qb, qc, qD, qE, qF]
   refine wpTail_done qKr ?_ _
   clear hHeld 
   go_wp2_with fail
   generalize hW17 : (((wc5.setCell ⟨w.heap.size + 1, 0, none⟩ (.int .i64 0)).setCell ⟨w.heap.size + 1, 1, none⟩ (.slice none 0 0)).setCell ⟨w.heap.size + 1, 2, none⟩ (.slice none 0 0)) = w2 at *
   have Kw2 : Chg (w.heap.size + 1) (w.heap.size + 1 + 1) wc5 w2 := by subst hW17; exact qCh
   have Xw2 : Ext w w2 := by subst hW17; exact qXt
   replace b10 := Kw2.cell (by omega) b10
   replace b11 := Kw2.cell (by omega) b11
   replace b12 := Kw2.cell (by omega) b12
   replace b20 : w2.cell? ⟨w.heap.size + 1, 0, none⟩ = some (.int .i64 0) := by subst hW17; go_simp
   replace f_b20 : w2.frozen? ⟨w.heap.size + 1, 0, none⟩ = false := by subst hW17; go_simp
   replace b21 : w2.cell? ⟨w.heap.size + 1, 1, none⟩ = some (.slice none 0 0) := by subst hW17; go_simp
   replace f_b21 : w2.frozen? ⟨w.heap.size + 1, 1, none⟩ = false := by subst hW17; go_simp
   replace b22 : w2.cell? ⟨w.heap.size + 1, 2, none⟩ = some (.slice none 0 0) := by subst hW17; go_simp
   replace f_b22 : w2.frozen? ⟨w.heap.size + 1, 2, none⟩ = false := by subst hW17; go_simp
   replace b130 := Kw2.cell (by omega) b130
   replace f_b130 := Kw2.frzO (by omega) z_b13 f_b130
   replace b131 := Kw2.cell (by omega) b131
   replace f_b131 := Kw2.frzO (by omega) z_b13 f_b131
   replace b132 := Kw2.cell (by omega) b132
   replace f_b132 := Kw2.frzO (by omega) z_b13 f_b132
   replace O11 := O11.chgN Kw2 (by omega)
   replace O12 := O12.chgN Kw2 (by omega)
   clear Kw2
   have z_b1 : w.heap.size < w2.heap.size := qB b10
   have z_b2 : w.heap.size + 1 < w2.heap.size := qB b20
   have z_b13 : g10 < w2.heap.size := qB b130
   have s_w2 : w.heap.size ≤ w2.heap.size := Xw2.size
   clear hW17
   refine bodyPost_ret (v := .tuple #[.agg #[.int .i64 0, .slice none 0 0, .slice none 0 0], .bool false]) (by simp only [results, Try.results118]; go_simp) rfl ?_
   rw [show rsR b1 s1 t1 u = noV from by rw [rsR_val rfl rfl, if_neg hc14.out]]
   exact PVWB.no (Xw2.trans qXt)

set_option maxHeartbeats 3200000 in
theorem specReshape_c (b1 : Int) (u1 v1 : Value) (s1 t1 : List Int) (v3 : Value) (u : List Int) (w : World) (l1 m1 : Nat) (h1 : Ints w l1 u1 s1) (k1 : Ints w m1 v1 t1) (l3 : Nat) (h3 : Ints w l3 v3 u) :
  Calls Try.prog 56 #[.agg #[.int .i64 b1, u1, v1], v3] w (PVX w (rsV b1 s1 t1 u)) := by
 obtain ⟨p0, c0, rfl⟩ := h1.form
 obtain ⟨p1, c1, rfl⟩ := k1.form
 obtain ⟨p2, c2, rfl⟩ := h3.form
 obtain ⟨RB, RS, RT, RO, hR⟩ : ∃ RB RS RT RO, rsR b1 s1 t1 u = (RB, RS, RT, RO) := ⟨_, _, _, _, rfl⟩
 replace hR := Lib.hid hR
 go_enter Try.func56, Try.ntmps56
 go_wp2_with fail
 refine (validView_c b1 (.slice p0 s1.length c0) (.slice p1 t1.length c1) s1 t1 _ _ _ (h1.ext qXt) (k1.ext qXt)).mono ?_
 rintro e w1 ⟨rfl, xw1⟩
 have Lw1 : Ext w w1 := Ext.trans qXt xw1
 have Xw1 : Ext w w1 := Lw1
 have b10 : w1.cell? ⟨w.heap.size, 0, none⟩ = some (.int .i64 b1) := xw1.cell qCl
 have b11 : w1.cell? ⟨w.heap.size, 1, none⟩ = some (.slice p0 s1.length c0) := xw1.cell qCl
 have b12 : w1.cell? ⟨w.heap.size, 2, none⟩ = some (.slice p1 t1.length c1) := xw1.cell qCl
 have b20 : w1.cell? ⟨w.heap.size + 1, 0, none⟩ = some (.int .i64 0) := xw1.cell qCl
 have b21 : w1.cell? ⟨w.heap.size + 1, 1, none⟩ = some (.slice none 0 0) := xw1.cell qCl
 have b22 : w1.cell? ⟨w.heap.size + 1, 2, none⟩ = some (.slice none 0 0) := xw1.cell qCl
 have f_b20 : w1.frozen? ⟨w.heap.size + 1, 0, none⟩ = false := xw1.frz (by simp <;> omega) qFz
 have f_b21 : w1.frozen? ⟨w.heap.size + 1, 1, none⟩ = false := xw1.frz (by simp <;> omega) qFz
 have f_b22 : w1.frozen? ⟨w.heap.size + 1, 2, none⟩ = false := xw1.frz (by simp <;> omega) qFz
 have z_b1 : w.heap.size < w1.heap.size := qB b10
 have z_b2 : w.heap.size + 1 < w1.heap.size := qB b20
 have s_w1 : w.heap.size ≤ w1.heap.size := Xw1.size
 clear xw1
 cases hB3 : viewB b1 s1 t1
 ·
  replace hB3 := Lib.hid hB3
  go_wp2_with fail
  generalize hW18 : (((w1.setCell ⟨w.heap.size + 1, 0, none⟩ (.int .i64 0)).setCell ⟨w.heap.size + 1, 1, none⟩ (.slice none 0 0)).setCell ⟨w.heap.size + 1, 2, none⟩ (.slice none 0 0)) = w2 at *
  have Kw2 : Chg (w.heap.size + 1) (w.heap.size + 1 + 1) w1 w2 := by subst hW18; exact qCh
  have Xw2 : Ext w w2 := by subst hW18; exact qXt
  replace b10 := Kw2.cell (by omega) b10
  replace b11 := Kw2.cell (by omega) b11
  replace b12 := Kw2.cell (by omega) b12
  replace b20 : w2.cell? ⟨w.heap.size + 1, 0, none⟩ = some (.int .i64 0) := by subst hW18; go_simp
  replace f_b20 : w2.frozen? ⟨w.heap.size + 1, 0, none⟩ = false := by subst hW18; go_simp
  replace b21 : w2.cell? ⟨w.heap.size + 1, 1, none⟩ = some (.slice none 0 0) := by subst hW18; go_simp
  replace f_b21 : w2.frozen? ⟨w.heap.size + 1, 1, none⟩ = false := by subst hW18; go_simp
  replace b22 : w2.cell? ⟨w.heap.size + 1, 2, none⟩ = some (.slice none 0 0) := by subst hW18; go_simp
  replace f_b22 : w2.frozen? ⟨w.heap.size + 1, 2, none⟩ = false := by subst hW18; go_simp
  clear Kw2
  have z_b1 : w.heap.size < w2.heap.size := qB b10
  have z_b2 : w.heap.size + 1 < w2.heap.size := qB b20
  have s_w2 : w.heap.size ≤ w2.heap.size := Xw2.size
  clear hW18
  refine bodyPost_ret (v := .tuple #[.agg #[.int .i64 0, .slice none 0 0, .slice none 0 0], .bool false]) (by simp only [results, Try.results56]; go_simp) rfl ?_
  rw [show rsV b1 s1 t1 u = noV from rs_no fun h => by have h7 := hB3.out; rw [h.1] at h7; cases h7]
  exact PVWB.no (Xw2.trans qXt)
 ·
  replace hB3 := Lib.hid hB3
  go_wp2_with fail
  refine (validShape_c u (.slice p2 u.length c2) _ _ (h3.ext (Xw1.trans qXt))).mono ?_
  rintro e w' ⟨rfl, rfl⟩
  cases hB4 : shapeB u
  ·
   replace hB4 := Lib.hid hB4
   go_wp2_with fail
   generalize hW19 : (((w1.setCell ⟨w.heap.size + 1, 0, none⟩ (.int .i64 0)).setCell ⟨w.heap.size + 1, 1, none⟩ (.slice none 0 0)).setCell ⟨w.heap.size + 1, 2, none⟩ (.slice none 0 0)) = w2 at *
   have Kw2 : Chg (w.heap.size + 1) (w.heap.size + 1 + 1) w1 w2 := by subst hW19; exact qCh
   have Xw2 : Ext w w2 := by subst hW19; exact qXt
   replace b10 := Kw2.cell (by omega) b10
   replace b11 := Kw2.cell (by omega) b11
   replace b12 := Kw2.cell (by omega) b12
   replace b20 : w2.cell? ⟨w.heap.size + 1, 0, none⟩ = some (.int .i64 0) := by subst hW19; go_simp
   replace f_b20 : w2.frozen? ⟨w.heap.size + 1, 0, none⟩ = false := by subst hW19; go_simp
   replace b21 : w2.cell? ⟨w.heap.size + 1, 1, none⟩ = some (.slice none 0 0) := by subst hW19; go_simp
   replace f_b21 : w2.frozen? ⟨w.heap.size + 1, 1, none⟩ = false := by subst hW19; go_simp
   replace b22 : w2.cell? ⟨w.heap.size + 1, 2, none⟩ = some (.slice none 0 0) := by subst hW19; go_simp
   replace f_b22 : w2.frozen? ⟨w.heap.size + 1, 2, none⟩ = false := by subst hW19; go_simp
   clear Kw2
   have z_b1 : w.heap.size < w2.heap.size := qB b10
   have z_b2 : w.heap.size + 1 < w2.heap.size := qB b20
   have s_w2 : w.heap.size ≤ w2.heap.size := Xw2.size
   clear hW19
   refine bodyPost_ret (v := .tuple #[.agg #[.int .i64 0, .slice none 0 0, .slice none 0 0], .bool false]) (by simp only [results, Try.results56]; go_simp) rfl ?_
   rw [show rsV b1 s1 t1 u = noV from rs_no fun h => by have h7 := hB4.out; rw [h.2.1] at h7; cases h7]
   exact PVWB.no (Xw2.trans qXt)
  ·
   replace hB4 := Lib.hid hB4
   go_wp2_with fail
   refine (pvx_eq hR.out (reshaped_c b1 (.slice p0 s1.length c0) (.slice p1 t1.length c1) s1 t1 (.slice p2 u.length c2) u _ _ _ (h1.ext (Xw1.trans qXt)) (k1.ext (Xw1.trans qXt)) _ (h3.ext (Xw1.trans qXt)) hB3.out hB4.out)).mono ?_
   rintro e w2 ⟨fv5u, fv5v, rfl, i6u, i6v, xw2⟩
   have Lw2 : Ext w1 w2 := Ext.trans qXt xw2
   have Xw2 : Ext w w2 := Xw1.trans Lw2
   replace b10 := Lw2.cell b10
   replace b11 := Lw2.cell b11
   replace b12 := Lw2.cell b12
   replace b20 := Lw2.cell b20
   replace b21 := Lw2.cell b21
   replace b22 := Lw2.cell b22
   replace f_b20 := Lw2.frz z_b2 f_b20
   replace f_b21 := Lw2.frz z_b2 f_b21
   replace f_b22 := Lw2.frz z_b2 f_b22
   have z_b1 : w.heap.size < w2.heap.size := qB b10
   have z_b2 : w.heap.size + 1 < w2.heap.size := qB b20
   have s_w2 : w.heap.size ≤ w2.heap.size := Xw2.size
   clear xw2
   obtain ⟨afv5u, cfv5u, rfl⟩ := i6u.form
   obtain ⟨afv5v, cfv5v, rfl⟩ := i6v.form
   cases hB7 : RO
   ·
    replace hB7 := Lib.hid hB7
    go_upto_region 4 with fail
    generalize hW20 : w2.alloc (.cells #[.int .i64 RB, .slice afv5u RS.length cfv5u, .slice afv5v RT.length cfv5v] 25) = w3 at *
    have Lw3 : Ext w2 w3 := by subst hW20; exact qXt
    have Xw3 : Ext w w3 := Xw2.trans Lw3
    replace b10 := Lw3.cell b10
    replace b11 := Lw3.cell b11
    replace b12 := Lw3.cell b12
    replace b20 := Lw3.cell b20
    replace b21 := Lw3.cell b21
    replace b22 := Lw3.cell b22
    replace f_b20 := Lw3.frz z_b2 f_b20
    replace f_b21 := Lw3.frz z_b2 f_b21
    replace f_b22 := Lw3.frz z_b2 f_b22
    have b80 : w3.cell? ⟨w2.heap.size, 0, none⟩ = some (.int .i64 RB) := by subst hW20; exact qCl
    have b81 : w3.cell? ⟨w2.heap.size, 1, none⟩ = some (.slice afv5u RS.length cfv5u) := by subst hW20; exact qCl
    have b82 : w3.cell? ⟨w2.heap.size, 2, none⟩ = some (.slice afv5v RT.length cfv5v) := by subst hW20; exact qCl
    have z_b1 : w.heap.size < w3.heap.size := qB b10
    have z_b2 : w.heap.size + 1 < w3.heap.size := qB b20
    have z_b8 : w2.heap.size < w3.heap.size := qB b80
    replace i6u := i6u.ext Lw3
    replace i6v := i6v.ext Lw3
    have s_w3 : w.heap.size ≤ w3.heap.size := Xw3.size
    clear hW20
    go_wp2_with fail
    generalize hW21 : (((w3.setCell ⟨w.heap.size + 1, 0, none⟩ (.int .i64 0)).setCell ⟨w.heap.size + 1, 1, none⟩ (.slice none 0 0)).setCell ⟨w.heap.size + 1, 2, none⟩ (.slice none 0 0)) = w4 at *
    have Kw4 : Chg (w.heap.size + 1) (w.heap.size + 1 + 1) w3 w4 := by subst hW21; exact qCh
    have Xw4 : Ext w w4 := by subst hW21; exact qXt
    replace b10 := Kw4.cell (by omega) b10
    replace b11 := Kw4.cell (by omega) b11
    replace b12 := Kw4.cell (by omega) b12
    replace b20 : w4.cell? ⟨w.heap.size + 1, 0, none⟩ = some (.int .i64 0) := by subst hW21; go_simp
    replace f_b20 : w4.frozen? ⟨w.heap.size + 1, 0, none⟩ = false := by subst hW21; go_simp
    replace b21 : w4.cell? ⟨w.heap.size + 1, 1, none⟩ = some (.slice none 0 0) := by subst hW21; go_simp
    replace f_b21 : w4.frozen? ⟨w.heap.size + 1, 1, none⟩ = false := by subst hW21; go_simp
    replace b22 : w4.cell? ⟨w.heap.size + 1, 2, none⟩ = some (.slice none 0 0) := by subst hW21; go_simp
    replace f_b22 : w4.frozen? ⟨w.heap.size + 1, 2, none⟩ = false := by subst hW21; go_simp
    replace b80 := Kw4.cell (by omega) b80
    replace b81 := Kw4.cell (by omega) b81
    replace b82 := Kw4.cell (by omega) b82
    replace i6u := i6u.chg Kw4 (by omega)
    replace i6v := i6v.chg Kw4 (by omega)
    clear Kw4
    have z_b1 : w.heap.size < w4.heap.size := qB b10
    have z_b2 : w.heap.size + 1 < w4.heap.size := qB b20
    have z_b8 : w2.heap.size < w4.heap.size := qB b80
    have s_w4 : w.heap.size ≤ w4.heap.size := Xw4.size
    clear hW21
    refine bodyPost_ret (v := .tuple #[.agg #[.int .i64 0, .slice none 0 0, .slice none 0 0], .bool false]) (by simp only [results, Try.results56]; go_simp) rfl ?_
    rw [show rsV b1 s1 t1 u = noV from by rw [rs_ref hB3.out hB4.out hR.out, hB7.out]; rfl]
    exact PVWB.no (Xw4.trans qXt)
   ·
    replace hB7 := Lib.hid hB7
    go_upto_region 4 with fail
    generalize hW22 : w2.alloc (.cells #[.int .i64 RB, .slice afv5u RS.length cfv5u, .slice afv5v RT.length cfv5v] 25) = w3 at *
    have Lw3 : Ext w2 w3 := by subst hW22; exact qXt
    have Xw3 : Ext w w3 := Xw2.trans Lw3
    replace b10 := Lw3.cell b10
    replace b11 := Lw3.cell b11
    replace b12 := Lw3.cell b12
    replace b20 := Lw3.cell b20
    replace b21 := Lw3.cell b21
    replace b22 := Lw3.cell b22
    replace f_b20 := Lw3.frz z_b2 f_b20
    replace f_b21 := Lw3.frz z_b2 f_b21
    replace f_b22 := Lw3.frz z_b2 f_b22
    have b90 : w3.cell? ⟨w2.heap.size, 0, none⟩ = some (.int .i64 RB) := by subst hW22; exact qCl
    have b91 : w3.cell? ⟨w2.heap.size, 1, none⟩ = some (.slice afv5u RS.length cfv5u) := by subst hW22; exact qCl
    have b92 : w3.cell? ⟨w2.heap.size, 2, none⟩ = some (.slice afv5v RT.length cfv5v) := by subst hW22; exact qCl
    have z_b1 : w.heap.size < w3.heap.size := qB b10
    have z_b2 : w.heap.size + 1 < w3.heap.size := qB b20
    have z_b9 : w2.heap.size < w3.heap.size := qB b90
    replace i6u := i6u.ext Lw3
    replace i6v := i6v.ext Lw3
    have s_w3 : w.heap.size ≤ w3.heap.size := Xw3.size
    clear hW22
    go_wp2_with fail
    refine (made_c RB (.slice afv5u RS.length cfv5u) (.slice afv5v RT.length cfv5v) RS RT _ _ _ (i6u.ext qXt) (i6v.ext qXt)).mono ?_
    rintro e w4 ⟨fv10u, fv10v, rfl, i11u, i11v, -, -, -, xw4⟩
    have Lw4 : Ext w3 w4 := Ext.trans qXt xw4
    have Xw4 : Ext w w4 := Xw3.trans Lw4
    replace b10 := Lw4.cell b10
    replace b11 := Lw4.cell b11
    replace b12 := Lw4.cell b12
    replace b20 := Lw4.cell b20
    replace b21 := Lw4.cell b21
    replace b22 := Lw4.cell b22
    replace f_b20 := Lw4.frz z_b2 f_b20
    replace f_b21 := Lw4.frz z_b2 f_b21
    replace f_b22 := Lw4.frz z_b2 f_b22
    replace b90 := Lw4.cell b90
    replace b91 := Lw4.cell b91
    replace b92 := Lw4.cell b92
    have z_b1 : w.heap.size < w4.heap.size := qB b10
    have z_b2 : w.heap.size + 1 < w4.heap.size := qB b20
    have z_b9 : w2.heap.size < w4.heap.size := qB b90
    replace i6u := i6u.ext Lw4
    replace i6v := i6v.ext Lw4
    have s_w4 : w.heap.size ≤ w4.heap.size := Xw4.size
    clear xw4
    obtain ⟨afv10u, cfv10u, rfl⟩ := i11u.form
    obtain ⟨afv10v, cfv10v, rfl⟩ := i11v.form
    go_wp2_with fail
    generalize hW23 : (((w4.setCell ⟨w.heap.size + 1, 0, none⟩ (.int .i64 ((madeV RB RS RT).1))).setCell ⟨w.heap.size + 1, 1, none⟩ (.slice afv10u (((madeV RB RS RT).2.1).length) cfv10u)).setCell ⟨w.heap.size + 1, 2, none⟩ (.slice afv10v (((madeV RB RS RT).2.2.1).length) cfv10v)) = w5 at *
    have Kw5 : Chg (w.heap.size + 1) (w.heap.size + 1 + 1) w4 w5 := by subst hW23; exact qCh
    have Xw5 : Ext w w5 := by subst hW23; exact qXt
    replace b10 := Kw5.cell (by omega) b10
    replace b11 := Kw5.cell (by omega) b11
    replace b12 := Kw5.cell (by omega) b12
    replace b20 : w5.cell? ⟨w.heap.size + 1, 0, none⟩ = some (.int .i64 ((madeV RB RS RT).1)) := by subst hW23; go_simp
    replace f_b20 : w5.frozen? ⟨w.heap.size + 1, 0, none⟩ = false := by subst hW23; go_simp
    replace b21 : w5.cell? ⟨w.heap.size + 1, 1, none⟩ = some (.slice afv10u (((madeV RB RS RT).2.1).length) cfv10u) := by subst hW23; go_simp
    replace f_b21 : w5.frozen? ⟨w.heap.size + 1, 1, none⟩ = false := by subst hW23; go_simp
    replace b22 : w5.cell? ⟨w.heap.size + 1, 2, none⟩ = some (.slice afv10v (((madeV RB RS RT).2.2.1).length) cfv10v) := by subst hW23; go_simp
    replace f_b22 : w5.frozen? ⟨w.heap.size + 1, 2, none⟩ = false := by subst hW23; go_simp
    replace b90 := Kw5.cell (by omega) b90
    replace b91 := Kw5.cell (by omega) b91
    replace b92 := Kw5.cell (by omega) b92
    replace i6u := i6u.chg Kw5 (by omega)
    replace i6v := i6v.chg Kw5 (by omega)
    replace i11u := i11u.chg Kw5 (by omega)
    replace i11v := i11v.chg Kw5 (by omega)
    clear Kw5
    have z_b1 : w.heap.size < w5.heap.size := qB b10
    have z_b2 : w.heap.size + 1 < w5.heap.size := qB b20
    have z_b9 : w2.heap.size < w5.heap.size := qB b90
    have s_w5 : w.heap.size ≤ w5.heap.size := Xw5.size
    clear hW23
    refine bodyPost_ret (v := .tuple #[.agg #[.int .i64 ((madeV RB RS RT).1), .slice afv10u (((madeV RB RS RT).2.1).length) cfv10u, .slice afv10v (((madeV RB RS RT).2.2.1).length) cfv10v], .bool ((madeV RB RS RT).2.2.2)]) (by simp only [results, Try.results56]; go_simp) rfl ?_
    rw [show rsV b1 s1 t1 u = madeV RB RS RT from by rw [rs_ref hB3.out hB4.out hR.out, hB7.out]; rfl]
    exact ⟨_, _, rfl, i11u.lower (by omega), i11v.lower (by omega), Xw5⟩


end Go.Proofs.Ytonnnjaooifpjaa

/- Walks: SplitDim of the reference. -/
namespace Go.Proofs.Ytonnnjaooifpjaa
open Go.RowKit
set_option linter.unusedVariables false
set_option maxRecDepth 100000

set_option maxHeartbeats 3200000 in
theorem specSplitDim_c (b1 : Int) (u1 v1 : Value) (s1 t1 : List Int) (d o : Int) (w : World) (l1 m1 : Nat) (h1 : Ints w l1 u1 s1) (k1 : Ints w m1 v1 t1) :
  Calls Try.prog 53 #[.agg #[.int .i64 b1, u1, v1], .int .i64 d, .int .i64 o] w (PVX w (spV b1 s1 t1 d o)) := by
 obtain ⟨p0, c0, rfl⟩ := h1.form
 obtain ⟨p1, c1, rfl⟩ := k1.form
 go_enter Try.func53, Try.ntmps53
 go_wp2_with fail
 refine (validView_c b1 (.slice p0 s1.length c0) (.slice p1 t1.length c1) s1 t1 _ _ _ (h1.ext qXt) (k1.ext qXt)).mono ?_
 rintro e w1 ⟨rfl, xw1⟩
 have Lw1 : Ext w w1 := Ext.trans qXt xw1
 have Xw1 : Ext w w1 := Lw1
 have b10 : w1.cell? ⟨w.heap.size, 0, none⟩ = some (.int .i64 b1) := xw1.cell qCl
 have b11 : w1.cell? ⟨w.heap.size, 1, none⟩ = some (.slice p0 s1.length c0) := xw1.cell qCl
 have b12 : w1.cell? ⟨w.heap.size, 2, none⟩ = some (.slice p1 t1.length c1) := xw1.cell qCl
 have b20 : w1.cell? ⟨w.heap.size + 1, 0, none⟩ = some (.int .i64 0) := xw1.cell qCl
 have b21 : w1.cell? ⟨w.heap.size + 1, 1, none⟩ = some (.slice none 0 0) := xw1.cell qCl
 have b22 : w1.cell? ⟨w.heap.size + 1, 2, none⟩ = some (.slice none 0 0) := xw1.cell qCl
 have f_b20 : w1.frozen? ⟨w.heap.size + 1, 0, none⟩ = false := xw1.frz (by simp <;> omega) qFz
 have f_b21 : w1.frozen? ⟨w.heap.size + 1, 1, none⟩ = false := xw1.frz (by simp <;> omega) qFz
 have f_b22 : w1.frozen? ⟨w.heap.size + 1, 2, none⟩ = false := xw1.frz (by simp <;> omega) qFz
 have z_b1 : w.heap.size < w1.heap.size := qB b10
 have z_b2 : w.heap.size + 1 < w1.heap.size := qB b20
 have s_w1 : w.heap.size ≤ w1.heap.size := Xw1.size
 clear xw1
 cases hB3 : viewB b1 s1 t1
 ·
  replace hB3 := Lib.hid hB3
  go_wp2_with fail
  generalize hW1 : (((w1.setCell ⟨w.heap.size + 1, 0, none⟩ (.int .i64 0)).setCell ⟨w.heap.size + 1, 1, none⟩ (.slice none 0 0)).setCell ⟨w.heap.size + 1, 2, none⟩ (.slice none 0 0)) = w2 at *
  have Kw2 : Chg (w.heap.size + 1) (w.heap.size + 1 + 1) w1 w2 := by subst hW1; exact qCh
  have Xw2 : Ext w w2 := by subst hW1; exact qXt
  replace b10 := Kw2.cell (by omega) b10
  replace b11 := Kw2.cell (by omega) b11
  replace b12 := Kw2.cell (by omega) b12
  replace b20 : w2.cell? ⟨w.heap.size + 1, 0, none⟩ = some (.int .i64 0) := by subst hW1; go_simp
  replace f_b20 : w2.frozen? ⟨w.heap.size + 1, 0, none⟩ = false := by subst hW1; go_simp
  replace b21 : w2.cell? ⟨w.heap.size + 1, 1, none⟩ = some (.slice none 0 0) := by subst hW1; go_simp
  replace f_b21 : w2.frozen? ⟨w.heap.size + 1, 1, none⟩ = false := by subst hW1; go_simp
  replace b22 : w2.cell? ⟨w.heap.size + 1, 2, none⟩ = some (.slice none 0 0) := by subst hW1; go_simp
  replace f_b22 : w2.frozen? ⟨w.heap.size + 1, 2, none⟩ = false := by subst hW1; go_simp
  clear Kw2
  have z_b1 : w.heap.size < w2.heap.size := qB b10
  have z_b2 : w.heap.size + 1 < w2.heap.size := qB b20
  have s_w2 : w.heap.size ≤ w2.heap.size := Xw2.size
  clear hW1
  refine bodyPost_ret (v := .tuple #[.agg #[.int .i64 0, .slice none 0 0, .slice none 0 0], .bool false]) (by simp only [results, Try.results53]; go_simp) rfl ?_
  rw [show spV b1 s1 t1 d o = noV from sp_no0 (by unfold dimB; rw [hB3.out]; rfl)]
  exact PVWB.no (Xw2.trans qXt)
 ·
  replace hB3 := Lib.hid hB3
  go_wp2_with fail
  refine (isDim_c b1 (.slice p0 s1.length c0) (.slice p1 t1.length c1) s1 t1 d _ _ _ (h1.ext (Xw1.trans qXt)) (k1.ext (Xw1.trans qXt)) (vw hB3.out).2.2.2.1).mono ?_
  rintro e w2 ⟨rfl, xw2⟩
  have Lw2 : Ext w1 w2 := Ext.trans qXt xw2
  have Xw2 : Ext w w2 := Xw1.trans Lw2
  replace b10 := Lw2.cell b10
  replace b11 := Lw2.cell b11
  replace b12 := Lw2.cell b12
  replace b20 := Lw2.cell b20
  replace b21 := Lw2.cell b21
  replace b22 := Lw2.cell b22
  replace f_b20 := Lw2.frz z_b2 f_b20
  replace f_b21 := Lw2.frz z_b2 f_b21
  replace f_b22 := Lw2.frz z_b2 f_b22
  have z_b1 : w.heap.size < w2.heap.size := qB b10
  have z_b2 : w.heap.size + 1 < w2.heap.size := qB b20
  have s_w2 : w.heap.size ≤ w2.heap.size := Xw2.size
  clear xw2
  cases hB4 : inB 0 ((s1.length : Int) - 1) d
  ·
   replace hB4 := Lib.hid hB4
   go_wp2_with fail
   generalize hW2 : (((w2.setCell ⟨w.heap.size + 1, 0, none⟩ (.int .i64 0)).setCell ⟨w.heap.size + 1, 1, none⟩ (.slice none 0 0)).setCell ⟨w.heap.size + 1, 2, none⟩ (.slice none 0 0)) = w3 at *
   have Kw3 : Chg (w.heap.size + 1) (w.heap.size + 1 + 1) w2 w3 := by subst hW2; exact qCh
   have Xw3 : Ext w w3 := by subst hW2; exact qXt
   replace b10 := Kw3.cell (by omega) b10
   replace b11 := Kw3.cell (by omega) b11
   replace b12 := Kw3.cell (by omega) b12
   replace b20 : w3.cell? ⟨w.heap.size + 1, 0, none⟩ = some (.int .i64 0) := by subst hW2; go_simp
   replace f_b20 : w3.frozen? ⟨w.heap.size + 1, 0, none⟩ = false := by subst hW2; go_simp
   replace b21 : w3.cell? ⟨w.heap.size + 1, 1, none⟩ = some (.slice none 0 0) := by subst hW2; go_simp
   replace f_b21 : w3.frozen? ⟨w.heap.size + 1, 1, none⟩ = false := by subst hW2; go_simp
   replace b22 : w3.cell? ⟨w.heap.size + 1, 2, none⟩ = some (.slice none 0 0) := by subst hW2; go_simp
   replace f_b22 : w3.frozen? ⟨w.heap.size + 1, 2, none⟩ = false := by subst hW2; go_simp
   clear Kw3
   have z_b1 : w.heap.size < w3.heap.size := qB b10
   have z_b2 : w.heap.size + 1 < w3.heap.size := qB b20
   have s_w3 : w.heap.size ≤ w3.heap.size := Xw3.size
   clear hW2
   refine bodyPost_ret (v := .tuple #[.agg #[.int .i64 0, .slice none 0 0, .slice none 0 0], .bool false]) (by simp only [results, Try.results53]; go_simp) rfl ?_
   rw [show spV b1 s1 t1 d o = noV from sp_no0 (by unfold dimB; rw [hB3.out, hB4.out]; rfl)]
   exact PVWB.no (Xw3.trans qXt)
  ·
   replace hB4 := Lib.hid hB4
   have hdim : dimB b1 s1 t1 d = true := by unfold dimB; rw [hB3.out, hB4.out]; rfl
   obtain ⟨hvv, hd0, hd1⟩ := dim_in hdim
   obtain ⟨D, rfl⟩ : ∃ D : Nat, d = D := ⟨d.toNat, by omega⟩
   have hDN : D < s1.length := by omega
   obtain ⟨-, hts, -, ht60, -⟩ := viewB_in hvv
   have hs4 := view_small hvv
   have hs60 := Lib.hid hs4.2
   have hs4 := hs4.1
   have hDT : D < t1.length := by omega
   have ht4 : t1.length ≤ 4 := by omega
   have hdl4 : (delL s1 D).length ≤ 4 := by rw [delL_len _ _ hDN]; omega
   replace hts := Lib.hid hts
   replace ht60 := Lib.hid ht60
   replace hvv := Lib.hid hvv
   have hne1 : s1 ≠ [] := fun h => by rw [h] at hDN; simp at hDN
   replace hne1 := Lib.hid hne1
   replace hdim := Lib.hid hdim
   have hD10 : (0 : Int) ≤ (D : Int) + 1 := by omega
   have hD1t : ((D : Int) + 1).toNat = D + 1 := by omega
   obtain ⟨Z, hZ⟩ : ∃ Z, s1.take D ++ [o] ++ s1.drop D = Z := ⟨_, rfl⟩
   have hil : Z.length = s1.length + 1 := by rw [← hZ]; simp; omega
   have hine : Z ≠ [] := fun h => by rw [h] at hil; simp at hil
   have hDi : D + 1 < Z.length := by omega
   have hZ8 : Z.length ≤ 8 := by omega
   have hsp : Z.set (D + 1) = (fun q => splitS s1 D o q) := by rw [← hZ]; funext q; exact split_ins s1 D o q hDN
   replace hsp := Lib.hid hsp
   replace hine := Lib.hid hine
   replace hil := Lib.hid hil
   replace hZ := Lib.hid hZ
   by_cases hc5 : (o : Int) < (1 : Int)
   ·
    go_wp2_with fail
    generalize hW3 : (((w2.setCell ⟨w.heap.size + 1, 0, none⟩ (.int .i64 0)).setCell ⟨w.heap.size + 1, 1, none⟩ (.slice none 0 0)).setCell ⟨w.heap.size + 1, 2, none⟩ (.slice none 0 0)) = w3 at *
    have Kw3 : Chg (w.heap.size + 1) (w.heap.size + 1 + 1) w2 w3 := by subst hW3; exact qCh
    have Xw3 : Ext w w3 := by subst hW3; exact qXt
    replace b10 := Kw3.cell (by omega) b10
    replace b11 := Kw3.cell (by omega) b11
    replace b12 := Kw3.cell (by omega) b12
    replace b20 : w3.cell? ⟨w.heap.size + 1, 0, none⟩ = some (.int .i64 0) := by subst hW3; go_simp
    replace f_b20 : w3.frozen? ⟨w.heap.size + 1, 0, none⟩ = false := by subst hW3; go_simp
    replace b21 : w3.cell? ⟨w.heap.size + 1, 1, none⟩ = some (.slice none 0 0) := by subst hW3; go_simp
    replace f_b21 : w3.frozen? ⟨w.heap.size + 1, 1, none⟩ = false := by subst hW3; go_simp
    replace b22 : w3.cell? ⟨w.heap.size + 1, 2, none⟩ = some (.slice none 0 0) := by subst hW3; go_simp
    replace f_b22 : w3.frozen? ⟨w.heap.size + 1, 2, none⟩ = false := by subst hW3; go_simp
    clear Kw3
    have z_b1 : w.heap.size < w3.heap.size := qB b10
    have z_b2 : w.heap.size + 1 < w3.heap.size := qB b20
    have s_w3 : w.heap.size ≤ w3.heap.size := Xw3.size
    clear hW3
    refine bodyPost_ret (v := .tuple #[.agg #[.int .i64 0, .slice none 0 0, .slice none 0 0], .bool false]) (by simp only [results, Try.results53]; go_simp) rfl ?_
    rw [show spV b1 s1 t1 (D : Int) o = noV from sp_no1 (by omega)]
    exact PVWB.no (Xw3.trans qXt)
   ·
    have ho0 : ¬ (o = 0) := by omega
    have hN_e8 : D < s1.length := (by omega)
    have hI_e8 : (D : Int) < (s1.length : Int) := by omega
    obtain ⟨bl6, ol7, rfl, e80⟩ := h1.at D (by omega)
    have y_e8 : bl6 < w.heap.size := qB e80
    replace e80 := Xw2.cell e80
    obtain ⟨v9, hv9⟩ : ∃ v, s1.getD D 0 = v := ⟨_, rfl⟩
    rw [hv9] at e80
    replace hv9 := Lib.hid hv9
    have z_e8 : bl6 < w2.heap.size := qB e80
    have h60v9 := hs60.out _ (getD_mem (show D < s1.length by omega))
    rw [hv9.out] at h60v9
    by_cases hc10 : ((v9).tmod o : Int) = (0 : Int)
    ·
     have hc10e : (((v9).tmod o : Int) == (0 : Int)) = true := by simpa using hc10
     have hc10n : (((v9).tmod o : Int) != (0 : Int)) = false := by simpa using hc10
     have hc10m : ((v9 % o : Int) == (0 : Int)) = true := by rw [← Int.tmod_eq_emod_of_nonneg (by omega)]; exact hc10e
     have hc10o : ((v9 % o : Int) != (0 : Int)) = false := by rw [← Int.tmod_eq_emod_of_nonneg (by omega)]; exact hc10n
     replace hc10 := Lib.hid hc10
     go_wp2_with fail
     have Q11_b10 := Lib.hid b10
     have Q11_b11 := Lib.hid b11
     have Q11_b12 := Lib.hid b12
     have Q11_zb1 := z_b1
     have Q11_b20 := Lib.hid b20
     have Q11_f_b20 := Lib.hid f_b20
     have Q11_b21 := Lib.hid b21
     have Q11_f_b21 := Lib.hid f_b21
     have Q11_b22 := Lib.hid b22
     have Q11_f_b22 := Lib.hid f_b22
     have Q11_zb2 := z_b2
     have Q11_e80 := Lib.hid e80
     have Q11_ze8 := z_e8
     have BL12 : Ext w2 w2 := Ext.refl _
     refine (pi_eq hZ.out (insert_c s1 (.slice (some ⟨bl6, ol7, none⟩) s1.length c0) D o _ _ (h1.ext (Xw2.trans qXt)) (by omega) (by omega))).mono ?_
     rintro e w3 ⟨fv13, rfl, i14, i14z, xw3⟩
     have Lw3 : Ext w2 w3 := Ext.trans qXt xw3
     have Xw3 : Ext w w3 := Xw2.trans Lw3
     replace b10 := Lw3.cell b10
     replace b11 := Lw3.cell b11
     replace b12 := Lw3.cell b12
     replace b20 := Lw3.cell b20
     replace b21 := Lw3.cell b21
     replace b22 := Lw3.cell b22
     replace f_b20 := Lw3.frz z_b2 f_b20
     replace f_b21 := Lw3.frz z_b2 f_b21
     replace f_b22 := Lw3.frz z_b2 f_b22
     replace e80 := Lw3.cell e80
     have z_b1 : w.heap.size < w3.heap.size := qB b10
     have z_b2 : w.heap.size + 1 < w3.heap.size := qB b20
     have z_e8 : bl6 < w3.heap.size := qB e80
     have s_w3 : w.heap.size ≤ w3.heap.size := Xw3.size
     have BL12_w3 : Ext w2 w3 := BL12.trans Lw3
     clear xw3
     obtain ⟨afv13, cfv13, rfl⟩ := i14.form
     have O15 := i14z.ofNe hine.out
     obtain ⟨gr16, rr17, hvgr16, Ggr16, Ggr16'⟩ := O15.row hine.out
     cases hvgr16
     clear i14 i14z
     skip
     obtain ⟨hq7, hq8, hq9⟩ := quo_in (o := o) h60v9.1 h60v9.2 (by omega)
     obtain ⟨q, hq1⟩ : ∃ q, v9.tdiv o = q := ⟨_, rfl⟩
     rw [hq1] at hq7 hq8 hq9
     have hq2 : v9 / o = q := hq7.symm
     clear hq7
     have hq3 : IntKind.i64.wrap q = q := IntWalk.i64_in _ (by omega)
     have ho0 : ¬ (o = 0) := by omega
     obtain ⟨U, hU⟩ : ∃ U, splitS s1 D o q = U := ⟨_, rfl⟩
     have hUl : U.length = s1.length + 1 := by rw [← hU, split_len _ _ _ _ hDN]
     replace hU := Lib.hid hU
     replace hUl := Lib.hid hUl
     have A22 := O15.cell (D + 1) hDi
     obtain ⟨A22a, A22b⟩ := A22
     go_wp2_with fail
     clear e80 z_e8
     generalize hW4 : (w3.setCell ⟨gr16, D + 1, none⟩ (.int .i64 q)) = w4 at *
     have Kw4 : Chg (gr16) (gr16 + 1) w3 w4 := by subst hW4; exact qCh
     have Xw4 : Ext w w4 := by subst hW4; exact qXt
     have BL12_w4 : Ext w2 w4 := by subst hW4; exact qXt
     replace b10 := BL12_w4.cell Q11_b10.out
     replace b11 := BL12_w4.cell Q11_b11.out
     replace b12 := BL12_w4.cell Q11_b12.out
     replace b20 := BL12_w4.cell Q11_b20.out
     replace f_b20 := BL12_w4.frz Q11_zb2 Q11_f_b20.out
     replace b21 := BL12_w4.cell Q11_b21.out
     replace f_b21 := BL12_w4.frz Q11_zb2 Q11_f_b21.out
     replace b22 := BL12_w4.cell Q11_b22.out
     replace f_b22 := BL12_w4.frz Q11_zb2 Q11_f_b22.out
     have n_O15 := O15.set (D + 1) (q) (by first | omega | (simp; omega) | (rw [putUp_len]; simp; omega) | (rw [addUp_len]; omega))
     rw [hW4] at n_O15
     replace O15 := n_O15
     clear n_O15
     clear Kw4
     have z_b1 : w.heap.size < w4.heap.size := qB b10
     have z_b2 : w.heap.size + 1 < w4.heap.size := qB b20
     have s_w4 : w.heap.size ≤ w4.heap.size := Xw4.size
     clear hW4
     clear A22a A22b
     rw [show Z.set (D + 1) q = U from by rw [hsp.out]; exact hU.out] at O15
     have hUl4 : U.length ≤ 8 := by have := hUl.out; omega
     go_wp2_with fail
     refine (specReshape_c b1 _ _ s1 t1 _ U _ _ _ (h1.ext (Xw4.trans qXt)) (k1.ext (Xw4.trans qXt)) _ ((O15.ints (by omega)).ext qXt)).mono ?_
     rintro e w5 ⟨fv23u, fv23v, rfl, i24u, i24v, xw5⟩
     have Lw5 : Ext w4 w5 := Ext.trans qXt xw5
     have Xw5 : Ext w w5 := Xw4.trans Lw5
     replace b10 := Lw5.cell b10
     replace b11 := Lw5.cell b11
     replace b12 := Lw5.cell b12
     replace b20 := Lw5.cell b20
     replace b21 := Lw5.cell b21
     replace b22 := Lw5.cell b22
     replace f_b20 := Lw5.frz z_b2 f_b20
     replace f_b21 := Lw5.frz z_b2 f_b21
     replace f_b22 := Lw5.frz z_b2 f_b22
     have z_b1 : w.heap.size < w5.heap.size := qB b10
     have z_b2 : w.heap.size + 1 < w5.heap.size := qB b20
     replace O15 := O15.ext Lw5
     have s_w5 : w.heap.size ≤ w5.heap.size := Xw5.size
     have BL12_w5 : Ext w2 w5 := BL12_w4.trans Lw5
     clear xw5
     obtain ⟨afv23u, cfv23u, rfl⟩ := i24u.form
     obtain ⟨afv23v, cfv23v, rfl⟩ := i24v.form
     go_wp2_with fail
     generalize hW5 : (((w5.setCell ⟨w.heap.size + 1, 0, none⟩ (.int .i64 ((rsV b1 s1 t1 U).1))).setCell ⟨w.heap.size + 1, 1, none⟩ (.slice afv23u (((rsV b1 s1 t1 U).2.1).length) cfv23u)).setCell ⟨w.heap.size + 1, 2, none⟩ (.slice afv23v (((rsV b1 s1 t1 U).2.2.1).length) cfv23v)) = w6 at *
     have Kw6 : Chg (w.heap.size + 1) (w.heap.size + 1 + 1) w5 w6 := by subst hW5; exact qCh
     have Xw6 : Ext w w6 := by subst hW5; exact qXt
     replace b10 := Kw6.cell (by omega) b10
     replace b11 := Kw6.cell (by omega) b11
     replace b12 := Kw6.cell (by omega) b12
     replace b20 : w6.cell? ⟨w.heap.size + 1, 0, none⟩ = some (.int .i64 ((rsV b1 s1 t1 U).1)) := by subst hW5; go_simp
     replace f_b20 : w6.frozen? ⟨w.heap.size + 1, 0, none⟩ = false := by subst hW5; go_simp
     replace b21 : w6.cell? ⟨w.heap.size + 1, 1, none⟩ = some (.slice afv23u (((rsV b1 s1 t1 U).2.1).length) cfv23u) := by subst hW5; go_simp
     replace f_b21 : w6.frozen? ⟨w.heap.size + 1, 1, none⟩ = false := by subst hW5; go_simp
     replace b22 : w6.cell? ⟨w.heap.size + 1, 2, none⟩ = some (.slice afv23v (((rsV b1 s1 t1 U).2.2.1).length) cfv23v) := by subst hW5; go_simp
     replace f_b22 : w6.frozen? ⟨w.heap.size + 1, 2, none⟩ = false := by subst hW5; go_simp
     replace O15 := O15.chgN Kw6 (by omega)
     replace i24u := i24u.chg Kw6 (by omega)
     replace i24v := i24v.chg Kw6 (by omega)
     clear Kw6
     have z_b1 : w.heap.size < w6.heap.size := qB b10
     have z_b2 : w.heap.size + 1 < w6.heap.size := qB b20
     have s_w6 : w.heap.size ≤ w6.heap.size := Xw6.size
     clear hW5
     refine bodyPost_ret (v := .tuple #[.agg #[.int .i64 ((rsV b1 s1 t1 U).1), .slice afv23u (((rsV b1 s1 t1 U).2.1).length) cfv23u, .slice afv23v (((rsV b1 s1 t1 U).2.2.1).length) cfv23v], .bool ((rsV b1 s1 t1 U).2.2.2)]) (by simp only [results, Try.results53]; go_simp) rfl ?_
     rw [sp_yes hdim.out (by omega) hv9.out hc10.out hq1 hU.out]
     exact ⟨_, _, rfl, i24u.lower (by omega), i24v.lower (by omega), (Xw6.trans qXt)⟩
    ·
     have hc10e : (((v9).tmod o : Int) == (0 : Int)) = false := by simpa using hc10
     have hc10n : (((v9).tmod o : Int) != (0 : Int)) = true := by simpa using hc10
     have hc10m : ((v9 % o : Int) == (0 : Int)) = false := by rw [← Int.tmod_eq_emod_of_nonneg (by omega)]; exact hc10e
     have hc10o : ((v9 % o : Int) != (0 : Int)) = true := by rw [← Int.tmod_eq_emod_of_nonneg (by omega)]; exact hc10n
     replace hc10 := Lib.hid hc10
     go_wp2_with fail
     generalize hW6 : (((w2.setCell ⟨w.heap.size + 1, 0, none⟩ (.int .i64 0)).setCell ⟨w.heap.size + 1, 1, none⟩ (.slice none 0 0)).setCell ⟨w.heap.size + 1, 2, none⟩ (.slice none 0 0)) = w3 at *
     have Kw3 : Chg (w.heap.size + 1) (w.heap.size + 1 + 1) w2 w3 := by subst hW6; exact qCh
     have Xw3 : Ext w w3 := by subst hW6; exact qXt
     replace b10 := Kw3.cell (by omega) b10
     replace b11 := Kw3.cell (by omega) b11
     replace b12 := Kw3.cell (by omega) b12
     replace b20 : w3.cell? ⟨w.heap.size + 1, 0, none⟩ = some (.int .i64 0) := by subst hW6; go_simp
     replace f_b20 : w3.frozen? ⟨w.heap.size + 1, 0, none⟩ = false := by subst hW6; go_simp
     replace b21 : w3.cell? ⟨w.heap.size + 1, 1, none⟩ = some (.slice none 0 0) := by subst hW6; go_simp
     replace f_b21 : w3.frozen? ⟨w.heap.size + 1, 1, none⟩ = false := by subst hW6; go_simp
     replace b22 : w3.cell? ⟨w.heap.size + 1, 2, none⟩ = some (.slice none 0 0) := by subst hW6; go_simp
     replace f_b22 : w3.frozen? ⟨w.heap.size + 1, 2, none⟩ = false := by subst hW6; go_simp
     replace e80 := Kw3.cell (by omega) e80
     clear Kw3
     have z_b1 : w.heap.size < w3.heap.size := qB b10
     have z_b2 : w.heap.size + 1 < w3.heap.size := qB b20
     have z_e8 : bl6 < w3.heap.size := qB e80
     have s_w3 : w.heap.size ≤ w3.heap.size := Xw3.size
     clear hW6
     refine bodyPost_ret (v := .tuple #[.agg #[.int .i64 0, .slice none 0 0, .slice none 0 0], .bool false]) (by simp only [results, Try.results53]; go_simp) rfl ?_
     rw [show spV b1 s1 t1 (D : Int) o = noV from sp_no2 hv9.out hc10.out]
     exact PVWB.no (Xw3.trans qXt)


end Go.Proofs.Ytonnnjaooifpjaa

/- FnSplitDim returns true for all bytes: no condition. -/
namespace Go.Proofs.Ytonnnjaooifpjaa
open Go.RowKit
set_option linter.unusedVariables false
set_option maxRecDepth 100000

set_option maxHeartbeats 6400000 in
theorem lawFnSplitDim_c (a : Option Addr) (n cap : Nat) (w : World) (hb : BysIn w a n cap) :
  Calls Try.prog 10 #[.slice a n cap] w fun e w' => e = .returned (.bool true) ∧ Ext w w' := by
 have hcm := hb.1
 have hcm2 := hb.2.1
 unfold maxLen at hcm2
 go_enter Try.func10, Try.ntmps10
 by_cases hc1 : (1048576 : Int) < (n : Int)
 ·
  go_wp2_with fail
  go_ret
  exact ⟨rfl, qXo⟩
 ·
  go_wp2_with fail
  refine (drawSplitDim_c a n cap _ hb).mono ?_
  rintro e w1 ⟨b, s, t, p1, p2, r1, r2, d, x, rfl, i1, i2, l1, l2, hd5, hx5, xw1⟩
  have Lw1 : Ext w w1 := Ext.trans qXt xw1
  have Xw1 : Ext w w1 := Lw1
  have s_w1 : w.heap.size ≤ w1.heap.size := Xw1.size
  clear xw1
  clear hb
  obtain ⟨PB, PS, PT, PO, hP⟩ : ∃ PB PS PT PO, spV b s t d x = (PB, PS, PT, PO) := ⟨_, _, _, _, rfl⟩
  cases PO
  ·
   replace hP := Lib.hid hP
   go_wp2_with fail
   refine (pvx_eq hP.out (implSplitDim_c b (.slice p1 s.length r1) (.slice p2 t.length r2) s t d x _ _ _ (i1.ext qXt) (i2.ext qXt))).mono ?_
   rintro e w2 ⟨fv3u, fv3v, rfl, i4u, i4v, xw2⟩
   have Lw2 : Ext w1 w2 := Ext.trans qXt xw2
   have Xw2 : Ext w w2 := Xw1.trans Lw2
   have b20 : w2.cell? ⟨w1.heap.size, 0, none⟩ = some (.int .i64 b) := xw2.cell qCl
   have b21 : w2.cell? ⟨w1.heap.size, 1, none⟩ = some (.slice p1 s.length r1) := xw2.cell qCl
   have b22 : w2.cell? ⟨w1.heap.size, 2, none⟩ = some (.slice p2 t.length r2) := xw2.cell qCl
   have z_b2 : w1.heap.size < w2.heap.size := qB b20
   replace i1 := i1.ext Lw2
   replace i2 := i2.ext Lw2
   have s_w2 : w.heap.size ≤ w2.heap.size := Xw2.size
   clear xw2
   try simp only [World.size_alloc, World.size_drew] at i4u
   try simp only [World.size_alloc, World.size_drew] at i4v
   obtain ⟨afv3u, cfv3u, rfl⟩ := i4u.form
   obtain ⟨afv3v, cfv3v, rfl⟩ := i4v.form
   go_wp2_with fail
   refine (pvx_eq hP.out (specSplitDim_c b (.slice p1 s.length r1) (.slice p2 t.length r2) s t d x _ _ _ (i1.ext qXt) (i2.ext qXt))).mono ?_
   rintro e w3 ⟨fv6u, fv6v, rfl, i7u, i7v, xw3⟩
   have Lw3 : Ext w2 w3 := Ext.trans qXt xw3
   have Xw3 : Ext w w3 := Xw2.trans Lw3
   replace b20 := Lw3.cell b20
   replace b21 := Lw3.cell b21
   replace b22 := Lw3.cell b22
   have b50 : w3.cell? ⟨w2.heap.size, 0, none⟩ = some (.int .i64 PB) := xw3.cell qCl
   have b51 : w3.cell? ⟨w2.heap.size, 1, none⟩ = some (.slice afv3u PS.length cfv3u) := xw3.cell qCl
   have b52 : w3.cell? ⟨w2.heap.size, 2, none⟩ = some (.slice afv3v PT.length cfv3v) := xw3.cell qCl
   have z_b2 : w1.heap.size < w3.heap.size := qB b20
   have z_b5 : w2.heap.size < w3.heap.size := qB b50
   replace i1 := i1.ext Lw3
   replace i2 := i2.ext Lw3
   replace i4u := i4u.ext Lw3
   replace i4v := i4v.ext Lw3
   have s_w3 : w.heap.size ≤ w3.heap.size := Xw3.size
   clear xw3
   try simp only [World.size_alloc, World.size_drew] at i7u
   try simp only [World.size_alloc, World.size_drew] at i7v
   obtain ⟨afv6u, cfv6u, rfl⟩ := i7u.form
   obtain ⟨afv6v, cfv6v, rfl⟩ := i7v.form
   go_wp2_with fail
   refine (leqView_c PB (.slice afv3u PS.length cfv3u) (.slice afv3v PT.length cfv3v) (.slice afv6u PS.length cfv6u) (.slice afv6v PT.length cfv6v) PS PT _ _ _ _ _ (i4u.ext qXt) (i4v.ext qXt) (i7u.ext qXt) (i7v.ext qXt)).mono ?_
   rintro e w4 ⟨rfl, xw4⟩
   have Lw4 : Ext w3 w4 := Ext.trans qXt xw4
   have Xw4 : Ext w w4 := Xw3.trans Lw4
   replace b20 := Lw4.cell b20
   replace b21 := Lw4.cell b21
   replace b22 := Lw4.cell b22
   replace b50 := Lw4.cell b50
   replace b51 := Lw4.cell b51
   replace b52 := Lw4.cell b52
   have b80 : w4.cell? ⟨w3.heap.size, 0, none⟩ = some (.int .i64 PB) := xw4.cell qCl
   have b81 : w4.cell? ⟨w3.heap.size, 1, none⟩ = some (.slice afv6u PS.length cfv6u) := xw4.cell qCl
   have b82 : w4.cell? ⟨w3.heap.size, 2, none⟩ = some (.slice afv6v PT.length cfv6v) := xw4.cell qCl
   have z_b2 : w1.heap.size < w4.heap.size := qB b20
   have z_b5 : w2.heap.size < w4.heap.size := qB b50
   have z_b8 : w3.heap.size < w4.heap.size := qB b80
   replace i1 := i1.ext Lw4
   replace i2 := i2.ext Lw4
   replace i4u := i4u.ext Lw4
   replace i4v := i4v.ext Lw4
   replace i7u := i7u.ext Lw4
   replace i7v := i7v.ext Lw4
   have s_w4 : w.heap.size ≤ w4.heap.size := Xw4.size
   clear xw4
   go_wp2_with fail
   refine (leqView_c PB (.slice afv3u PS.length cfv3u) (.slice afv3v PT.length cfv3v) (.slice afv6u PS.length cfv6u) (.slice afv6v PT.length cfv6v) PS PT _ _ _ _ _ (i4u.ext qXt) (i4v.ext qXt) (i7u.ext qXt) (i7v.ext qXt)).mono ?_
   rintro e w5 ⟨rfl, xw5⟩
   have Lw5 : Ext w4 w5 := Ext.trans qXt xw5
   have Xw5 : Ext w w5 := Xw4.trans Lw5
   replace b20 := Lw5.cell b20
   replace b21 := Lw5.cell b21
   replace b22 := Lw5.cell b22
   replace b50 := Lw5.cell b50
   replace b51 := Lw5.cell b51
   replace b52 := Lw5.cell b52
   replace b80 := Lw5.cell b80
   replace b81 := Lw5.cell b81
   replace b82 := Lw5.cell b82
   have z_b2 : w1.heap.size < w5.heap.size := qB b20
   have z_b5 : w2.heap.size < w5.heap.size := qB b50
   have z_b8 : w3.heap.size < w5.heap.size := qB b80
   replace i1 := i1.ext Lw5
   replace i2 := i2.ext Lw5
   replace i4u := i4u.ext Lw5
   replace i4v := i4v.ext Lw5
   replace i7u := i7u.ext Lw5
   replace i7v := i7v.ext Lw5
   have s_w5 : w.heap.size ≤ w5.heap.size := Xw5.size
   clear xw5
   go_wp2_with fail
   go_ret
   exact ⟨rfl, (Xw5.trans qXt)⟩
  ·
   obtain ⟨D, rfl, hDN, hD4, hgo, hoff, QB, QT, hq, hsm⟩ := sp_law hP
   replace hgo := Lib.hid hgo
   replace hoff := Lib.hid hoff
   replace hq := Lib.hid hq
   replace hsm := Lib.hid hsm
   replace hP := Lib.hid hP
   go_wp2_with fail
   refine (pvx_eq hP.out (implSplitDim_c b (.slice p1 s.length r1) (.slice p2 t.length r2) s t (D : Int) x _ _ _ (i1.ext qXt) (i2.ext qXt))).mono ?_
   rintro e w2 ⟨fv10u, fv10v, rfl, i11u, i11v, xw2⟩
   have Lw2 : Ext w1 w2 := Ext.trans qXt xw2
   have Xw2 : Ext w w2 := Xw1.trans Lw2
   have b90 : w2.cell? ⟨w1.heap.size, 0, none⟩ = some (.int .i64 b) := xw2.cell qCl
   have b91 : w2.cell? ⟨w1.heap.size, 1, none⟩ = some (.slice p1 s.length r1) := xw2.cell qCl
   have b92 : w2.cell? ⟨w1.heap.size, 2, none⟩ = some (.slice p2 t.length r2) := xw2.cell qCl
   have z_b9 : w1.heap.size < w2.heap.size := qB b90
   replace i1 := i1.ext Lw2
   replace i2 := i2.ext Lw2
   have s_w2 : w.heap.size ≤ w2.heap.size := Xw2.size
   clear xw2
   try simp only [World.size_alloc, World.size_drew] at i11u
   try simp only [World.size_alloc, World.size_drew] at i11v
   obtain ⟨afv10u, cfv10u, rfl⟩ := i11u.form
   obtain ⟨afv10v, cfv10v, rfl⟩ := i11v.form
   go_wp2_with fail
   refine (pvx_eq hP.out (specSplitDim_c b (.slice p1 s.length r1) (.slice p2 t.length r2) s t (D : Int) x _ _ _ (i1.ext qXt) (i2.ext qXt))).mono ?_
   rintro e w3 ⟨fv13u, fv13v, rfl, i14u, i14v, xw3⟩
   have Lw3 : Ext w2 w3 := Ext.trans qXt xw3
   have Xw3 : Ext w w3 := Xw2.trans Lw3
   replace b90 := Lw3.cell b90
   replace b91 := Lw3.cell b91
   replace b92 := Lw3.cell b92
   have b120 : w3.cell? ⟨w2.heap.size, 0, none⟩ = some (.int .i64 PB) := xw3.cell qCl
   have b121 : w3.cell? ⟨w2.heap.size, 1, none⟩ = some (.slice afv10u PS.length cfv10u) := xw3.cell qCl
   have b122 : w3.cell? ⟨w2.heap.size, 2, none⟩ = some (.slice afv10v PT.length cfv10v) := xw3.cell qCl
   have z_b9 : w1.heap.size < w3.heap.size := qB b90
   have z_b12 : w2.heap.size < w3.heap.size := qB b120
   replace i1 := i1.ext Lw3
   replace i2 := i2.ext Lw3
   replace i11u := i11u.ext Lw3
   replace i11v := i11v.ext Lw3
   have s_w3 : w.heap.size ≤ w3.heap.size := Xw3.size
   clear xw3
   try simp only [World.size_alloc, World.size_drew] at i14u
   try simp only [World.size_alloc, World.size_drew] at i14v
   obtain ⟨afv13u, cfv13u, rfl⟩ := i14u.form
   obtain ⟨afv13v, cfv13v, rfl⟩ := i14v.form
   go_wp2_with fail
   refine (leqView_c PB (.slice afv10u PS.length cfv10u) (.slice afv10v PT.length cfv10v) (.slice afv13u PS.length cfv13u) (.slice afv13v PT.length cfv13v) PS PT _ _ _ _ _ (i11u.ext qXt) (i11v.ext qXt) (i14u.ext qXt) (i14v.ext qXt)).mono ?_
   rintro e w4 ⟨rfl, xw4⟩
   have Lw4 : Ext w3 w4 := Ext.trans qXt xw4
   have Xw4 : Ext w w4 := Xw3.trans Lw4
   replace b90 := Lw4.cell b90
   replace b91 := Lw4.cell b91
   replace b92 := Lw4.cell b92
   replace b120 := Lw4.cell b120
   replace b121 := Lw4.cell b121
   replace b122 := Lw4.cell b122
   have b150 : w4.cell? ⟨w3.heap.size, 0, none⟩ = some (.int .i64 PB) := xw4.cell qCl
   have b151 : w4.cell? ⟨w3.heap.size, 1, none⟩ = some (.slice afv13u PS.length cfv13u) := xw4.cell qCl
   have b152 : w4.cell? ⟨w3.heap.size, 2, none⟩ = some (.slice afv13v PT.length cfv13v) := xw4.cell qCl
   have z_b9 : w1.heap.size < w4.heap.size := qB b90
   have z_b12 : w2.heap.size < w4.heap.size := qB b120
   have z_b15 : w3.heap.size < w4.heap.size := qB b150
   replace i1 := i1.ext Lw4
   replace i2 := i2.ext Lw4
   replace i11u := i11u.ext Lw4
   replace i11v := i11v.ext Lw4
   replace i14u := i14u.ext Lw4
   replace i14v := i14v.ext Lw4
   have s_w4 : w.heap.size ≤ w4.heap.size := Xw4.size
   clear xw4
   go_wp2_with fail
   refine (pvx_eq hq.out (implJoinDims_c PB (.slice afv10u PS.length cfv10u) (.slice afv10v PT.length cfv10v) PS PT (D : Int) _ _ _ (i11u.ext qXt) (i11v.ext qXt))).mono ?_
   rintro e w5 ⟨fv16u, fv16v, rfl, i17u, i17v, xw5⟩
   have Lw5 : Ext w4 w5 := Ext.trans qXt xw5
   have Xw5 : Ext w w5 := Xw4.trans Lw5
   replace b90 := Lw5.cell b90
   replace b91 := Lw5.cell b91
   replace b92 := Lw5.cell b92
   replace b120 := Lw5.cell b120
   replace b121 := Lw5.cell b121
   replace b122 := Lw5.cell b122
   replace b150 := Lw5.cell b150
   replace b151 := Lw5.cell b151
   replace b152 := Lw5.cell b152
   have z_b9 : w1.heap.size < w5.heap.size := qB b90
   have z_b12 : w2.heap.size < w5.heap.size := qB b120
   have z_b15 : w3.heap.size < w5.heap.size := qB b150
   replace i1 := i1.ext Lw5
   replace i2 := i2.ext Lw5
   replace i11u := i11u.ext Lw5
   replace i11v := i11v.ext Lw5
   replace i14u := i14u.ext Lw5
   replace i14v := i14v.ext Lw5
   have s_w5 : w.heap.size ≤ w5.heap.size := Xw5.size
   clear xw5
   obtain ⟨afv16u, cfv16u, rfl⟩ := i17u.form
   obtain ⟨afv16v, cfv16v, rfl⟩ := i17v.form
   go_wp2_with fail
   generalize hW1 : w5.alloc (.cells #[.int .i64 QB, .slice afv16u s.length cfv16u, .slice afv16v QT.length cfv16v] 25) = w6 at *
   have Lw6 : Ext w5 w6 := by subst hW1; exact qXt
   have Xw6 : Ext w w6 := Xw5.trans Lw6
   replace b90 := Lw6.cell b90
   replace b91 := Lw6.cell b91
   replace b92 := Lw6.cell b92
   replace b120 := Lw6.cell b120
   replace b121 := Lw6.cell b121
   replace b122 := Lw6.cell b122
   replace b150 := Lw6.cell b150
   replace b151 := Lw6.cell b151
   replace b152 := Lw6.cell b152
   have b180 : w6.cell? ⟨w5.heap.size, 0, none⟩ = some (.int .i64 QB) := by subst hW1; exact qCl
   have b181 : w6.cell? ⟨w5.heap.size, 1, none⟩ = some (.slice afv16u s.length cfv16u) := by subst hW1; exact qCl
   have b182 : w6.cell? ⟨w5.heap.size, 2, none⟩ = some (.slice afv16v QT.length cfv16v) := by subst hW1; exact qCl
   have z_b9 : w1.heap.size < w6.heap.size := qB b90
   have z_b12 : w2.heap.size < w6.heap.size := qB b120
   have z_b15 : w3.heap.size < w6.heap.size := qB b150
   have z_b18 : w5.heap.size < w6.heap.size := qB b180
   replace i1 := i1.ext Lw6
   replace i2 := i2.ext Lw6
   replace i11u := i11u.ext Lw6
   replace i11v := i11v.ext Lw6
   replace i14u := i14u.ext Lw6
   replace i14v := i14v.ext Lw6
   replace i17u := i17u.ext Lw6
   replace i17v := i17v.ext Lw6
   have s_w6 : w.heap.size ≤ w6.heap.size := Xw6.size
   clear hW1
   have hN_e21 : D < PS.length := hDN
   have hI_e21 : (D : Int) < (PS.length : Int) := by omega
   obtain ⟨bl19, ol20, rfl, e210⟩ := i11u.at D hDN
   obtain ⟨v22, hv22⟩ : ∃ v, PS.getD D 0 = v := ⟨_, rfl⟩
   rw [hv22] at e210
   replace hv22 := Lib.hid hv22
   have y_e21 : bl19 < w6.heap.size := qB e210
   have z_e21 := y_e21
   obtain rfl : x = v22 := hgo.out.symm.trans hv22.out
   refine wp_region_tail (S := fun w' => w'.cell? ⟨w1.heap.size, 0, none⟩ = some (.int .i64 b) ∧ w'.cell? ⟨w1.heap.size, 1, none⟩ = some (.slice p1 s.length r1) ∧ w'.cell? ⟨w1.heap.size, 2, none⟩ = some (.slice p2 t.length r2) ∧ w'.cell? ⟨w2.heap.size, 0, none⟩ = some (.int .i64 PB) ∧ w'.cell? ⟨w2.heap.size, 1, none⟩ = some (.slice (some ⟨bl19, ol20, none⟩) PS.length cfv10u) ∧ w'.cell? ⟨w2.heap.size, 2, none⟩ = some (.slice afv10v PT.length cfv10v) ∧ w'.cell? ⟨w5.heap.size, 0, none⟩ = some (.int .i64 QB) ∧ w'.cell? ⟨w5.heap.size, 1, none⟩ = some (.slice afv16u s.length cfv16u) ∧ w'.cell? ⟨w5.heap.size, 2, none⟩ = some (.slice afv16v QT.length cfv16v) ∧ w'.cell? ⟨bl19, ol20 + D, none⟩ = some (.int .i64 x)) (fun i => decide (23 ≤ i)) qKr ⟨b90, b91, b92, b120, b121, b122, b180, b181, b182, e210⟩ (fun hHeld => ?_)
   refine qTk (v := ?_) 0 rfl (.inl ⟨by rfl, ?_⟩) ?_
   rotate_left
   ·
    (intro w hSw; (try dsimp only at hSw); go_simp; try with_reducible rfl)
   try simp only [Act.put, qa, qb, qc, qD, qE, qF]
   refine qTk (v := ?_) 1 rfl (.inl ⟨by rfl, ?_⟩) ?_
   rotate_left
   ·
    (intro w hSw; (try dsimp only at hSw); go_simp; try with_reducible rfl)
   try simp only [Act.put, qa, qb, qc, qD, qE, qF]
   refine qTk (v := ?_) 2 rfl (.inl ⟨by rfl, ?_⟩) ?_
   rotate_left
   ·
    (intro w hSw; (try dsimp only at hSw); go_simp; try with_reducible rfl)
   try simp only [Act.put, qa, qb, qc, qD, qE, qF]
   refine qTk (v := ?_) 3 rfl (.inl ⟨by rfl, ?_⟩) ?_
   rotate_left
   ·
    (intro w hSw; (try dsimp only at hSw); go_simp; try with_reducible rfl)
   try simp only [Act.put, qa, qb, qc, qD, qE, qF]
   refine wpTail_one (i := 4) qKr rfl rfl (fun K hK => ?_)
   try simp only [Act.put, qa, qb, qc, qD, qE, qF]
   go_simp
   refine (implSameView_c QB (.slice afv16u s.length cfv16u) (.slice afv16v QT.length cfv16v) s QT b (.slice p1 s.length r1) (.slice p2 t.length r2) s t _ _ _ (i17u.ext qXt) (i17v.ext qXt) _ _ (i1.ext qXt) (i2.ext qXt)).mono ?_
   rintro e w7 ⟨rfl, xw7⟩
   have Lw7 : Ext w6 w7 := Ext.trans qXt xw7
   have Xw7 : Ext w w7 := Xw6.trans Lw7
   replace b90 := Lw7.cell b90
   replace b91 := Lw7.cell b91
   replace b92 := Lw7.cell b92
   replace b120 := Lw7.cell b120
   replace b121 := Lw7.cell b121
   replace b122 := Lw7.cell b122
   replace b150 := Lw7.cell b150
   replace b151 := Lw7.cell b151
   replace b152 := Lw7.cell b152
   replace b180 := Lw7.cell b180
   replace b181 := Lw7.cell b181
   replace b182 := Lw7.cell b182
   replace e210 := Lw7.cell e210
   have z_b9 : w1.heap.size < w7.heap.size := qB b90
   have z_b12 : w2.heap.size < w7.heap.size := qB b120
   have z_b15 : w3.heap.size < w7.heap.size := qB b150
   have z_b18 : w5.heap.size < w7.heap.size := qB b180
   have z_e21 : bl19 < w7.heap.size := qB e210
   replace i1 := i1.ext Lw7
   replace i2 := i2.ext Lw7
   replace i11u := i11u.ext Lw7
   replace i11v := i11v.ext Lw7
   replace i14u := i14u.ext Lw7
   replace i14v := i14v.ext Lw7
   replace i17u := i17u.ext Lw7
   replace i17v := i17v.ext Lw7
   have s_w7 : w.heap.size ≤ w7.heap.size := Xw7.size
   clear xw7
   rw [hsm.out]
   refine hK.out _ _ ⟨b90, b91, b92, b120, b121, b122, b180, b181, b182, e210⟩ (fun hHeld => ?_)
   clear hK K
   try simp only [Act.put, qa, qb, qc, qD, qE, qF]
   refine qTk (v := ?_) 5 rfl (.inl ⟨by rfl, ?_⟩) ?_
   rotate_left
   ·
    (intro w hSw; (try dsimp only at hSw); go_simp; try with_reducible rfl)
   try simp only [Act.put, qa, qb, qc, qD, qE, qF]
   refine qTk (v := ?_) 6 rfl (.inl ⟨by rfl, ?_⟩) ?_
   rotate_left
   ·
    (intro w hSw; (try dsimp only at hSw); go_simp; try with_reducible rfl)
   try simp only [Act.put, qa, qb, qc, qD, qE, qF]
   refine qTk (v := ?_) 7 rfl (.inl ⟨by rfl, ?_⟩) ?_
   rotate_left
   ·
    (intro w hSw; (try dsimp only at hSw); go_simp; try with_reducible rfl)
   try simp only [Act.put, qa, qb, qc, qD, qE, qF]
   refine qTk (v := ?_) 8 rfl (.inl ⟨by rfl, ?_⟩) ?_
   rotate_left
   ·
    (intro w hSw; (try dsimp only at hSw); go_simp; try with_reducible rfl)
   try simp only [Act.put, qa, qb, qc, qD, qE, qF]
   refine qTk (v := ?_) 9 rfl (.inl ⟨by rfl, ?_⟩) ?_
   rotate_left
   ·
    (intro w hSw; (try dsimp only at hSw); go_simp; try with_reducible rfl)
   try simp only [Act.put, qa, qb, qc, qD, qE, qF]
   refine qTk (v := ?_) 10 rfl (.inl ⟨by rfl, ?_⟩) ?_
   rotate_left
   ·
    (intro w hSw; (try dsimp only at hSw); go_simp; try with_reducible rfl)
   try simp only [Act.put, qa, qb, qc, qD, qE, qF]
   refine qTk (v := ?_) 11 rfl (.inl ⟨by rfl, ?_⟩) ?_
   rotate_left
   ·
    (intro w hSw; (try dsimp only at hSw); go_simp; try with_reducible rfl)
   try simp only [Act.put, qa, qb, qc, qD, qE, qF]
   refine qTk (v := ?_) 12 rfl (.inl ⟨by rfl, ?_⟩) ?_
   rotate_left
   ·
    (intro w hSw; (try dsimp only at hSw); go_simp; try with_reducible rfl)
   try simp only [Act.put, qa, qb, qc, qD, qE, qF]
   refine qTk (v := ?_) 13 rfl (.inl ⟨by rfl, ?_⟩) ?_
   rotate_left
   ·
    (intro w hSw; (try dsimp only at hSw); go_simp; try with_reducible rfl)
   try simp only [Act.put, qa, qb, qc, qD, qE, qF]
   refine qTk (v := ?_) 14 rfl (.inl ⟨by rfl, ?_⟩) ?_
   rotate_left
   ·
    (intro w hSw; (try dsimp only at hSw); go_simp; try with_reducible rfl)
   try simp only [Act.put, qa, qb, qc, qD, qE, qF]
   refine qTk (v := ?_) 15 rfl (.inl ⟨by rfl, ?_⟩) ?_
   rotate_left
   ·
    (intro w hSw; (try dsimp only at hSw); go_simp; try with_reducible rfl)
   try simp only [Act.put, qa, qb, qc, qD, qE, qF]
   refine qTk (v := ?_) 16 rfl (.inl ⟨by rfl, ?_⟩) ?_
   rotate_left
   ·
    (intro w hSw; (try dsimp only at hSw); go_simp; try with_reducible rfl)
   try simp only [Act.put, qa, qb, qc, qD, qE, qF]
   refine qTk (v := ?_) 18 rfl (.inl ⟨by rfl, ?_⟩) ?_
   rotate_left
   ·
    (intro w hSw; (try dsimp only at hSw); go_simp; try with_reducible rfl)
   try simp only [Act.put, qa, qb, qc, qD, qE, qF]
   refine wpTail_one (i := 17) qKr rfl rfl (fun K hK => ?_)
   try simp only [Act.put, qa, qb, qc, qD, qE, qF]
   go_simp
   refine (implOffsetsOf_c PB (.slice (some ⟨bl19, ol20, none⟩) PS.length cfv10u) (.slice afv10v PT.length cfv10v) PS PT _ _ _ (i11u.ext qXt) (i11v.ext qXt)).mono ?_
   rintro e w8 ⟨fv26, rfl, i27, -, xw8⟩
   have Lw8 : Ext w7 w8 := Ext.trans qXt xw8
   have Xw8 : Ext w w8 := Xw7.trans Lw8
   replace b90 := Lw8.cell b90
   replace b91 := Lw8.cell b91
   replace b92 := Lw8.cell b92
   replace b120 := Lw8.cell b120
   replace b121 := Lw8.cell b121
   replace b122 := Lw8.cell b122
   replace b150 := Lw8.cell b150
   replace b151 := Lw8.cell b151
   replace b152 := Lw8.cell b152
   replace b180 := Lw8.cell b180
   replace b181 := Lw8.cell b181
   replace b182 := Lw8.cell b182
   replace e210 := Lw8.cell e210
   have z_b9 : w1.heap.size < w8.heap.size := qB b90
   have z_b12 : w2.heap.size < w8.heap.size := qB b120
   have z_b15 : w3.heap.size < w8.heap.size := qB b150
   have z_b18 : w5.heap.size < w8.heap.size := qB b180
   have z_e21 : bl19 < w8.heap.size := qB e210
   replace i1 := i1.ext Lw8
   replace i2 := i2.ext Lw8
   replace i11u := i11u.ext Lw8
   replace i11v := i11v.ext Lw8
   replace i14u := i14u.ext Lw8
   replace i14v := i14v.ext Lw8
   replace i17u := i17u.ext Lw8
   replace i17v := i17v.ext Lw8
   have s_w8 : w.heap.size ≤ w8.heap.size := Xw8.size
   clear xw8
   try simp only [World.size_alloc, World.size_drew] at i27
   obtain ⟨afv26, cfv26, rfl⟩ := i27.form
   refine hK.out _ _ ⟨b90, b91, b92, b120, b121, b122, b180, b181, b182, e210⟩ (fun hHeld => ?_)
   clear hK K
   try simp only [Act.put, qa, qb, qc, qD, qE, qF]
   refine wpTail_one (i := 19) qKr rfl rfl (fun K hK => ?_)
   try simp only [Act.put, qa, qb, qc, qD, qE, qF]
   go_simp
   refine (implOffsetsOf_c b (.slice p1 s.length r1) (.slice p2 t.length r2) s t _ _ _ (i1.ext qXt) (i2.ext qXt)).mono ?_
   rintro e w9 ⟨fv28, rfl, i29, -, xw9⟩
   have Lw9 : Ext w8 w9 := Ext.trans qXt xw9
   have Xw9 : Ext w w9 := Xw8.trans Lw9
   replace b90 := Lw9.cell b90
   replace b91 := Lw9.cell b91
   replace b92 := Lw9.cell b92
   replace b120 := Lw9.cell b120
   replace b121 := Lw9.cell b121
   replace b122 := Lw9.cell b122
   replace b150 := Lw9.cell b150
   replace b151 := Lw9.cell b151
   replace b152 := Lw9.cell b152
   replace b180 := Lw9.cell b180
   replace b181 := Lw9.cell b181
   replace b182 := Lw9.cell b182
   replace e210 := Lw9.cell e210
   have z_b9 : w1.heap.size < w9.heap.size := qB b90
   have z_b12 : w2.heap.size < w9.heap.size := qB b120
   have z_b15 : w3.heap.size < w9.heap.size := qB b150
   have z_b18 : w5.heap.size < w9.heap.size := qB b180
   have z_e21 : bl19 < w9.heap.size := qB e210
   replace i1 := i1.ext Lw9
   replace i2 := i2.ext Lw9
   replace i11u := i11u.ext Lw9
   replace i11v := i11v.ext Lw9
   replace i14u := i14u.ext Lw9
   replace i14v := i14v.ext Lw9
   replace i17u := i17u.ext Lw9
   replace i17v := i17v.ext Lw9
   replace i27 := i27.ext Lw9
   have s_w9 : w.heap.size ≤ w9.heap.size := Xw9.size
   clear xw9
   try simp only [World.size_alloc, World.size_drew] at i29
   obtain ⟨afv28, cfv28, rfl⟩ := i29.form
   refine hK.out _ _ ⟨b90, b91, b92, b120, b121, b122, b180, b181, b182, e210⟩ (fun hHeld => ?_)
   clear hK K
   try simp only [Act.put, qa, qb, qc, qD, qE, qF]
   refine wpTail_one (i := 20) qKr rfl rfl (fun K hK => ?_)
   try simp only [Act.put, qa, qb, qc, qD, qE, qF]
   go_simp
   refine (leqInts_e (offA PB PS PT) (offA b s t) (.slice afv26 ((offA PB PS PT).length) cfv26) (.slice afv28 ((offA b s t).length) cfv28) _ _ _ (i27.ext qXt) (i29.ext qXt) hoff.out).mono ?_
   rintro e w10 ⟨rfl, xw10⟩
   have Lw10 : Ext w9 w10 := Ext.trans qXt xw10
   have Xw10 : Ext w w10 := Xw9.trans Lw10
   replace b90 := Lw10.cell b90
   replace b91 := Lw10.cell b91
   replace b92 := Lw10.cell b92
   replace b120 := Lw10.cell b120
   replace b121 := Lw10.cell b121
   replace b122 := Lw10.cell b122
   replace b150 := Lw10.cell b150
   replace b151 := Lw10.cell b151
   replace b152 := Lw10.cell b152
   replace b180 := Lw10.cell b180
   replace b181 := Lw10.cell b181
   replace b182 := Lw10.cell b182
   replace e210 := Lw10.cell e210
   have z_b9 : w1.heap.size < w10.heap.size := qB b90
   have z_b12 : w2.heap.size < w10.heap.size := qB b120
   have z_b15 : w3.heap.size < w10.heap.size := qB b150
   have z_b18 : w5.heap.size < w10.heap.size := qB b180
   have z_e21 : bl19 < w10.heap.size := qB e210
   replace i1 := i1.ext Lw10
   replace i2 := i2.ext Lw10
   replace i11u := i11u.ext Lw10
   replace i11v := i11v.ext Lw10
   replace i14u := i14u.ext Lw10
   replace i14v := i14v.ext Lw10
   replace i17u := i17u.ext Lw10
   replace i17v := i17v.ext Lw10
   replace i27 := i27.ext Lw10
   replace i29 := i29.ext Lw10
   have s_w10 : w.heap.size ≤ w10.heap.size := Xw10.size
   clear xw10
   refine hK.out _ _ ⟨b90, b91, b92, b120, b121, b122, b180, b181, b182, e210⟩ (fun hHeld => ?_)
   clear hK K
   try simp only [Act.put, qa, qb, qc, qD, qE, qF]
   refine qTk (v := ?_) 21 rfl (.inl ⟨by rfl, ?_⟩) ?_
   rotate_left
   ·
    (intro w hSw; (try dsimp only at hSw); go_simp; try with_reducible rfl)
   try simp only [Act.put, qa, qb, qc, qD, qE, qF]
   refine qTk (v := ?_) 22 rfl (.inl ⟨by rfl, ?_⟩) ?_
   rotate_left
   ·
    (intro w hSw; (try dsimp only at hSw); go_simp; try with_reducible rfl)
   try simp only [Act.put, qa, qb, qc, qD, qE, qF]
   refine wpTail_done qKr ?_ _
   clear hHeld 
   go_wp2_with fail
   go_ret
   exact ⟨rfl, (Xw10.trans qXt)⟩


end Go.Proofs.Ytonnnjaooifpjaa

/- The law FnSplitDim holds for all bytes: the call returns true, and its argument reads as it did. No condition. -/
namespace Go.Proofs.Ytonnnjaooifpjaa.rowFnSplitDim
open Go.ChangeShapes Go.WideShapes Go.ChangeAt Go.RowKit
set_option linter.unusedVariables false

set_option maxHeartbeats 1000000 in
set_option maxRecDepth 100000 in
theorem lifted (os : Os) (started : os.Started) (H : Type) (enc : TypeId × Value → H) :
    ReturnsInHanded {} Try.checked os 10 .any (Rows.fnSplitDimSpec.pre6 enc Try.prog Try.f10 Rows.fnSplitDimRow.domain false) (Rows.fnSplitDimSpec.post enc Try.prog Try.f10 false true false false) := by
  refine returnsInHanded_of_change (C := Try.checked) own started qKr Try.func10
    (ChangeSpec.witness6 (enc := enc) (C := Try.checked) false ⟨#[], #[.slice none 0 0], []⟩ 8 qKr qKr qKr qKr) ?_
  intro W base args ds gs before hval0 hW hcnd _
  have hval : ∀ (j : Nat) t v, Try.f10.params[j]? = some t → args[j]? = some v → Value.okWide Try.prog W .any base t v := hval0
  have hW' := hW
  obtain ⟨p, q, hA0, hV, rfl, hfz, hnd⟩ := hW
  have hA : DataW.TrodAll enc Try.prog W 0 (fun _ => true) true Try.f10.params.toList args.toList ds p := hA0
  rw [Try.params10] at hA hval
  obtain ⟨v0, vs0, d0, ds0, p0, q0, hargs0, rfl, rfl, h0, r0⟩ := trodAll_cons hA
  obtain ⟨rfl, rfl, rfl⟩ := trodAll_nil r0
  obtain rfl : args = #[v0] := by cases args; simp_all
  obtain ⟨rfl, rfl⟩ := trodVars_none hV
  obtain ⟨a0, len0, cap0, rfl⟩ := okWide_slice Try.underlying22 (hval 0 22 v0 rfl rfl)
  have k0 := h0
  have lt0 : ∀ x ∈ p0, x.block < W.heap.size := by obtain ⟨m, hm⟩ := k0; exact DataW.trod_lt m _ _ _ hm
  have w0 : BysIn W a0 len0 cap0 := by
    obtain ⟨fuel, hf⟩ := h0
    rcases open_ints Try.underlying22 Try.underlying5 qKr hf with ⟨hcs, _⟩ | ⟨x, l, c, zs, hcs, _, hl, hm, hz, _, hcell, hwz⟩
    · simp [Value.cells] at hcs
      obtain ⟨rfl, rfl, rfl⟩ := hcs
      exact ⟨Nat.le_refl _, by simp, fun i hi => absurd hi (by simp)⟩
    · simp [Value.cells] at hcs
      obtain ⟨rfl, rfl, rfl⟩ := hcs
      have hzl : zs.length = cap0 := by simpa using hz
      exact bys_of_cells hl hm hzl hcell hwz
  clear hA0 hval0
  refine (lawFnSplitDim_c a0 len0 cap0 W w0).mono fun e W' ⟨he, bel⟩ => ?_
  subst he
  exact ⟨_, rfl, _, _, _, [], _, [], hW', trodAll_mk1 (shut_bool Try.underlying4 _), (trodAll_cons_mk (Below.trod laidOut qKr (of_decide_eq_true qKr) k0 bel lt0) trodAll_mk0), rfl, Below.frame bel _, fun h => by cases h⟩

set_option maxHeartbeats 2000000 in
theorem closed : joinedFacts Try.checked.prog 10 Try.f10 Rows.fnSplitDimSpec Rows.fnSplitDimRow = true :=
  facts.all qKr qKr qKr qKr qKr (by as_aux_lemma => kernel_rfl) (by as_aux_lemma => kernel_rfl) (by as_aux_lemma => kernel_rfl) (by as_aux_lemma => kernel_rfl)
    (by as_aux_lemma => kernel_rfl) (by as_aux_lemma => kernel_rfl) rfl rfl rfl rfl qKr qKr (by as_aux_lemma => kernel_rfl) (by as_aux_lemma => kernel_rfl)

theorem named : Try.pinned.checked.prog.funcNamed Rows.fnSplitDimRow.func = some 10 := by kernel_rfl

theorem over : Rows.fnSplitDimRow.holds Try.pinned (OpenSpec.ofChange Rows.fnSplitDimSpec) :=
  OpenClaim.holds_of_wide 10 Try.f10 rfl rfl rfl rfl rfl rfl rfl ⟨rfl, rfl, rfl, rfl, rfl⟩ rfl rfl rfl rfl rfl named Try.func10 closed
    (of_decide_eq_true qKr) (by unfold Func.isWrapper; exact ⟨rfl, rfl⟩)
    (fun os started H enc _ => lifted os started H enc)

theorem proved : Rows.FnSplitDimSaid := over

end Go.Proofs.Ytonnnjaooifpjaa.rowFnSplitDim
