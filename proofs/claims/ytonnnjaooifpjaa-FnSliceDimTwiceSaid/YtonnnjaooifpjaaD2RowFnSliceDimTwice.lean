/- Texts of these proofs put together: LvS, SliA, MgA, PureT, SliB, SliC, PureU, PureE, PureF, LvR, PureG, PureK. No condition. -/
import Derived.Test.YtonnnjaooifpjaaM1
import Derived.Test.YtonnnjaooifpjaaD1RowFnSliceDimTwice
import Derived.Test.YtonnnjaooifpjaaM2
import Derived.Test.YtonnnjaooifpjaaM3
set_option linter.unusedVariables false
set_option linter.unusedSimpArgs false
/- Walks: SameView of the program. -/
namespace Go.Proofs.Ytonnnjaooifpjaa
open Go.RowKit
set_option linter.unusedVariables false
set_option maxRecDepth 100000


def sameV (b1 : Int) (s1 t1 : List Int) (b2 : Int) (s2 t2 : List Int) : Bool := viewB b1 s1 t1 && (viewB b2 s2 t2 && (sameB s1 s2 && sameB (offsL b1 s1 t1) (offsL b2 s2 t2)))

set_option maxHeartbeats 3200000 in
theorem implSameView_c (b1 : Int) (u1 v1 : Value) (s1 t1 : List Int) (b2 : Int) (u2 v2 : Value) (s2 t2 : List Int) (w : World) (l1 m1 : Nat) (h1 : Ints w l1 u1 s1) (k1 : Ints w m1 v1 t1) (l2 m2 : Nat) (h2 : Ints w l2 u2 s2) (k2 : Ints w m2 v2 t2) :
  Calls Try.prog 40 #[.agg #[.int .i64 b1, u1, v1], .agg #[.int .i64 b2, u2, v2]] w (fun e w' => e = .returned (.bool (sameV b1 s1 t1 b2 s2 t2)) ∧ Ext w w') := by
 obtain ⟨p0, c0, rfl⟩ := h1.form
 obtain ⟨p1, c1, rfl⟩ := k1.form
 obtain ⟨q0, d0, rfl⟩ := h2.form
 obtain ⟨q1, d1, rfl⟩ := k2.form
 go_enter Try.func40, Try.ntmps40
 go_wp2_with fail
 generalize hW1 : (w.alloc (.cells #[.int .i64 b1, .slice p0 s1.length c0, .slice p1 t1.length c1] 25)).alloc (.cells #[.int .i64 b2, .slice q0 s2.length d0, .slice q1 t2.length d1] 25) = w1 at *
 have Lw1 : Ext w w1 := by subst hW1; exact qXt
 have Xw1 : Ext w w1 := by subst hW1; exact Lw1
 have b10 : w1.cell? ⟨w.heap.size, 0, none⟩ = some (.int .i64 b1) := by subst hW1; exact qCl
 have b11 : w1.cell? ⟨w.heap.size, 1, none⟩ = some (.slice p0 s1.length c0) := by subst hW1; exact qCl
 have b12 : w1.cell? ⟨w.heap.size, 2, none⟩ = some (.slice p1 t1.length c1) := by subst hW1; exact qCl
 have b20 : w1.cell? ⟨w.heap.size + 1, 0, none⟩ = some (.int .i64 b2) := by subst hW1; exact qCl
 have b21 : w1.cell? ⟨w.heap.size + 1, 1, none⟩ = some (.slice q0 s2.length d0) := by subst hW1; exact qCl
 have b22 : w1.cell? ⟨w.heap.size + 1, 2, none⟩ = some (.slice q1 t2.length d1) := by subst hW1; exact qCl
 have z_b1 : w.heap.size < w1.heap.size := qB b10
 have z_b2 : w.heap.size + 1 < w1.heap.size := qB b20
 have s_w1 : w.heap.size ≤ w1.heap.size := Xw1.size
 clear hW1
 refine wp_region_tail (S := fun w' => w'.cell? ⟨w.heap.size, 0, none⟩ = some (.int .i64 b1) ∧ w'.cell? ⟨w.heap.size, 1, none⟩ = some (.slice p0 s1.length c0) ∧ w'.cell? ⟨w.heap.size, 2, none⟩ = some (.slice p1 t1.length c1) ∧ w'.cell? ⟨w.heap.size + 1, 0, none⟩ = some (.int .i64 b2) ∧ w'.cell? ⟨w.heap.size + 1, 1, none⟩ = some (.slice q0 s2.length d0) ∧ w'.cell? ⟨w.heap.size + 1, 2, none⟩ = some (.slice q1 t2.length d1)) (fun i => decide (21 ≤ i)) qKr ⟨b10, b11, b12, b20, b21, b22⟩ (fun hHeld => ?_)
 refine qTk (v := ?_) 0 rfl (.inl ⟨by rfl, ?_⟩) ?_
 rotate_left
 ·
  (intro w hSw; (try dsimp only at hSw); go_simp; try with_reducible rfl)
 try simp only [Act.put, qa, qb, qc, qD, qE, qF]
 refine wpTail_one (i := 1) qKr rfl rfl (fun K hK => ?_)
 try simp only [Act.put, qa, qb, qc, qD, qE, qF]
 go_simp
 refine (isView_c b1 (.slice p0 s1.length c0) (.slice p1 t1.length c1) s1 t1 _ _ _ (h1.ext (Xw1.trans qXt)) (k1.ext (Xw1.trans qXt))).mono ?_
 rintro e w2 ⟨rfl, xw2⟩
 have Lw2 : Ext w1 w2 := Ext.trans qXt xw2
 have Xw2 : Ext w w2 := Xw1.trans Lw2
 replace b10 := Lw2.cell b10
 replace b11 := Lw2.cell b11
 replace b12 := Lw2.cell b12
 replace b20 := Lw2.cell b20
 replace b21 := Lw2.cell b21
 replace b22 := Lw2.cell b22
 have z_b1 : w.heap.size < w2.heap.size := qB b10
 have z_b2 : w.heap.size + 1 < w2.heap.size := qB b20
 have s_w2 : w.heap.size ≤ w2.heap.size := Xw2.size
 clear xw2
 cases hB3 : viewB b1 s1 t1
 ·
  replace hB3 := Lib.hid hB3
  refine hK.out _ _ ⟨b10, b11, b12, b20, b21, b22⟩ (fun hHeld => ?_)
  clear hK K
  try simp only [Act.put, qa, qb, qc, qD, qE, qF]
  refine qTk (v := ?_) 2 rfl (.inl ⟨by rfl, ?_⟩) ?_
  rotate_left
  ·
   (intro w hSw; (try dsimp only at hSw); go_simp; try with_reducible rfl)
  try simp only [Act.put, qa, qb, qc, qD, qE, qF]
  refine qTs 3 rfl (.inr ⟨by rfl, rfl⟩) ?_
  try simp only [Act.put, qa, qb, qc, qD, qE, qF]
  refine qTs 4 rfl (.inr ⟨by rfl, rfl⟩) ?_
  try simp only [Act.put, qa, qb, qc, qD, qE, qF]
  refine qTk (v := ?_) 5 rfl (.inl ⟨by rfl, ?_⟩) ?_
  rotate_left
  ·
   (intro w hSw; (try dsimp only at hSw); go_simp; try with_reducible rfl)
  try simp only [Act.put, qa, qb, qc, qD, qE, qF]
  refine qTk (v := ?_) 6 rfl (.inl ⟨by rfl, ?_⟩) ?_
  rotate_left
  ·
   (intro w hSw; (try dsimp only at hSw); go_simp; try with_reducible rfl)
  try simp only [Act.put, qa, qb, qc, qD, qE, qF]
  refine qTs 7 rfl (.inr ⟨by rfl, rfl⟩) ?_
  try simp only [Act.put, qa, qb, qc, qD, qE, qF]
  refine qTs 8 rfl (.inr ⟨by rfl, rfl⟩) ?_
  try simp only [Act.put, qa, qb, qc, qD, qE, qF]
  refine qTs 9 rfl (.inr ⟨by rfl, rfl⟩) ?_
  try simp only [Act.put, qa, qb, qc, qD, qE, qF]
  refine qTs 10 rfl (.inr ⟨by rfl, rfl⟩) ?_
  try simp only [Act.put, qa, qb, qc, qD, qE, qF]
  refine qTs 11 rfl (.inr ⟨by rfl, rfl⟩) ?_
  try simp only [Act.put, qa, qb, qc, qD, qE, qF]
  refine qTk (v := ?_) 12 rfl (.inl ⟨by rfl, ?_⟩) ?_
  rotate_left
  ·
   (intro w hSw; (try dsimp only at hSw); go_simp; try with_reducible rfl)
  try simp only [Act.put, qa, qb, qc, qD, qE, qF]
  refine qTk (v := ?_) 13 rfl (.inl ⟨by rfl, ?_⟩) ?_
  rotate_left
  ·
   (intro w hSw; (try dsimp only at hSw); go_simp; try with_reducible rfl)
  try simp only [Act.put, qa, qb, qc, qD, qE, qF]
  refine qTs 14 rfl (.inr ⟨by rfl, rfl⟩) ?_
  try simp only [Act.put, qa, qb, qc, qD, qE, qF]
  refine qTs 15 rfl (.inr ⟨by rfl, rfl⟩) ?_
  try simp only [Act.put, qa, qb, qc, qD, qE, qF]
  refine qTs 16 rfl (.inr ⟨by rfl, rfl⟩) ?_
  try simp only [Act.put, qa, qb, qc, qD, qE, qF]
  refine qTs 17 rfl (.inr ⟨by rfl, rfl⟩) ?_
  try simp only [Act.put, qa, qb, qc, qD, qE, qF]
  refine qTs 18 rfl (.inr ⟨by rfl, rfl⟩) ?_
  try simp only [Act.put, qa, qb, qc, qD, qE, qF]
  refine qTk (v := ?_) 19 rfl (.inl ⟨by rfl, ?_⟩) ?_
  rotate_left
  ·
   (intro w hSw; (try dsimp only at hSw); go_simp; try with_reducible rfl)
  try simp only [Act.put, qa, qb, qc, qD, qE, qF]
  refine qTk (v := ?_) 20 rfl (.inl ⟨by rfl, ?_⟩) ?_
  rotate_left
  ·
   (intro w hSw; (try dsimp only at hSw); go_simp; try with_reducible rfl)
  try simp only [Act.put, qa, qb, qc, qD, qE, qF]
  refine wpTail_done qKr ?_ _
  clear hHeld 
  go_wp2_with fail
  go_ret
  exact ⟨by rw [show sameV b1 s1 t1 b2 s2 t2 = false by unfold sameV; rw [hB3.out] <;> rfl] <;> rfl, (Xw2.trans qXt)⟩
 ·
  replace hB3 := Lib.hid hB3
  refine hK.out _ _ ⟨b10, b11, b12, b20, b21, b22⟩ (fun hHeld => ?_)
  clear hK K
  try simp only [Act.put, qa, qb, qc, qD, qE, qF]
  refine qTk (v := ?_) 2 rfl (.inl ⟨by rfl, ?_⟩) ?_
  rotate_left
  ·
   (intro w hSw; (try dsimp only at hSw); go_simp; try with_reducible rfl)
  try simp only [Act.put, qa, qb, qc, qD, qE, qF]
  refine qTk (v := ?_) 3 rfl (.inl ⟨by rfl, ?_⟩) ?_
  rotate_left
  ·
   (intro w hSw; (try dsimp only at hSw); go_simp; try with_reducible rfl)
  try simp only [Act.put, qa, qb, qc, qD, qE, qF]
  refine wpTail_one (i := 4) qKr rfl rfl (fun K hK => ?_)
  try simp only [Act.put, qa, qb, qc, qD, qE, qF]
  go_simp
  refine (isView_c b2 (.slice q0 s2.length d0) (.slice q1 t2.length d1) s2 t2 _ _ _ (h2.ext (Xw2.trans qXt)) (k2.ext (Xw2.trans qXt))).mono ?_
  rintro e w3 ⟨rfl, xw3⟩
  have Lw3 : Ext w2 w3 := Ext.trans qXt xw3
  have Xw3 : Ext w w3 := Xw2.trans Lw3
  replace b10 := Lw3.cell b10
  replace b11 := Lw3.cell b11
  replace b12 := Lw3.cell b12
  replace b20 := Lw3.cell b20
  replace b21 := Lw3.cell b21
  replace b22 := Lw3.cell b22
  have z_b1 : w.heap.size < w3.heap.size := qB b10
  have z_b2 : w.heap.size + 1 < w3.heap.size := qB b20
  have s_w3 : w.heap.size ≤ w3.heap.size := Xw3.size
  clear xw3
  cases hB4 : viewB b2 s2 t2
  ·
   replace hB4 := Lib.hid hB4
   refine hK.out _ _ ⟨b10, b11, b12, b20, b21, b22⟩ (fun hHeld => ?_)
   clear hK K
   try simp only [Act.put, qa, qb, qc, qD, qE, qF]
   refine qTk (v := ?_) 5 rfl (.inl ⟨by rfl, ?_⟩) ?_
   rotate_left
   ·
    (intro w hSw; (try dsimp only at hSw); go_simp; try with_reducible rfl)
   try simp only [Act.put, qa, qb, qc, qD, qE, qF]
   refine qTk (v := ?_) 6 rfl (.inl ⟨by rfl, ?_⟩) ?_
   rotate_left
   ·
    (intro w hSw; (try dsimp only at hSw); go_simp; try with_reducible rfl)
   try simp only [Act.put, qa, qb, qc, qD, qE, qF]
   refine qTs 7 rfl (.inr ⟨by rfl, rfl⟩) ?_
   try simp only [Act.put, qa, qb, qc, qD, qE, qF]
   refine qTs 8 rfl (.inr ⟨by rfl, rfl⟩) ?_
   try simp only [Act.put, qa, qb, qc, qD, qE, qF]
   refine qTs 9 rfl (.inr ⟨by rfl, rfl⟩) ?_
   try simp only [Act.put, qa, qb, qc, qD, qE, qF]
   refine qTs 10 rfl (.inr ⟨by rfl, rfl⟩) ?_
   try simp only [Act.put, qa, qb, qc, qD, qE, qF]
   refine qTs 11 rfl (.inr ⟨by rfl, rfl⟩) ?_
   try simp only [Act.put, qa, qb, qc, qD, qE, qF]
   refine qTk (v := ?_) 12 rfl (.inl ⟨by rfl, ?_⟩) ?_
   rotate_left
   ·
    (intro w hSw; (try dsimp only at hSw); go_simp; try with_reducible rfl)
   try simp only [Act.put, qa, qb, qc, qD, qE, qF]
   refine qTk (v := ?_) 13 rfl (.inl ⟨by rfl, ?_⟩) ?_
   rotate_left
   ·
    (intro w hSw; (try dsimp only at hSw); go_simp; try with_reducible rfl)
   try simp only [Act.put, qa, qb, qc, qD, qE, qF]
   refine qTs 14 rfl (.inr ⟨by rfl, rfl⟩) ?_
   try simp only [Act.put, qa, qb, qc, qD, qE, qF]
   refine qTs 15 rfl (.inr ⟨by rfl, rfl⟩) ?_
   try simp only [Act.put, qa, qb, qc, qD, qE, qF]
   refine qTs 16 rfl (.inr ⟨by rfl, rfl⟩) ?_
   try simp only [Act.put, qa, qb, qc, qD, qE, qF]
   refine qTs 17 rfl (.inr ⟨by rfl, rfl⟩) ?_
   try simp only [Act.put, qa, qb, qc, qD, qE, qF]
   refine qTs 18 rfl (.inr ⟨by rfl, rfl⟩) ?_
   try simp only [Act.put, qa, qb, qc, qD, qE, qF]
   refine qTk (v := ?_) 19 rfl (.inl ⟨by rfl, ?_⟩) ?_
   rotate_left
   ·
    (intro w hSw; (try dsimp only at hSw); go_simp; try with_reducible rfl)
   try simp only [Act.put, qa, qb, qc, qD, qE, qF]
   refine qTk (v := ?_) 20 rfl (.inl ⟨by rfl, ?_⟩) ?_
   rotate_left
   ·
    (intro w hSw; (try dsimp only at hSw); go_simp; try with_reducible rfl)
   try simp only [Act.put, qa, qb, qc, qD, qE, qF]
   refine wpTail_done qKr ?_ _
   clear hHeld 
   go_wp2_with fail
   go_ret
   exact ⟨by rw [show sameV b1 s1 t1 b2 s2 t2 = false by unfold sameV; rw [hB3.out, hB4.out] <;> rfl] <;> rfl, (Xw3.trans qXt)⟩
  ·
   replace hB4 := Lib.hid hB4
   refine hK.out _ _ ⟨b10, b11, b12, b20, b21, b22⟩ (fun hHeld => ?_)
   clear hK K
   try simp only [Act.put, qa, qb, qc, qD, qE, qF]
   refine qTk (v := ?_) 5 rfl (.inl ⟨by rfl, ?_⟩) ?_
   rotate_left
   ·
    (intro w hSw; (try dsimp only at hSw); go_simp; try with_reducible rfl)
   try simp only [Act.put, qa, qb, qc, qD, qE, qF]
   refine qTk (v := ?_) 6 rfl (.inl ⟨by rfl, ?_⟩) ?_
   rotate_left
   ·
    (intro w hSw; (try dsimp only at hSw); go_simp; try with_reducible rfl)
   try simp only [Act.put, qa, qb, qc, qD, qE, qF]
   refine qTk (v := ?_) 7 rfl (.inl ⟨by rfl, ?_⟩) ?_
   rotate_left
   ·
    (intro w hSw; (try dsimp only at hSw); go_simp; try with_reducible rfl)
   try simp only [Act.put, qa, qb, qc, qD, qE, qF]
   refine qTk (v := ?_) 8 rfl (.inl ⟨by rfl, ?_⟩) ?_
   rotate_left
   ·
    (intro w hSw; (try dsimp only at hSw); go_simp; try with_reducible rfl)
   try simp only [Act.put, qa, qb, qc, qD, qE, qF]
   refine qTk (v := ?_) 9 rfl (.inl ⟨by rfl, ?_⟩) ?_
   rotate_left
   ·
    (intro w hSw; (try dsimp only at hSw); go_simp; try with_reducible rfl)
   try simp only [Act.put, qa, qb, qc, qD, qE, qF]
   refine qTk (v := ?_) 10 rfl (.inl ⟨by rfl, ?_⟩) ?_
   rotate_left
   ·
    (intro w hSw; (try dsimp only at hSw); go_simp; try with_reducible rfl)
   try simp only [Act.put, qa, qb, qc, qD, qE, qF]
   refine wpTail_one (i := 11) qKr rfl rfl (fun K hK => ?_)
   try simp only [Act.put, qa, qb, qc, qD, qE, qF]
   go_simp
   refine (equal_x s1 s2 (.slice p0 s1.length c0) (.slice q0 s2.length d0) _ _ _ (h1.ext (Xw3.trans qXt)) (h2.ext (Xw3.trans qXt))).mono ?_
   rintro e w4 ⟨rfl, xw4⟩
   have Lw4 : Ext w3 w4 := Ext.trans qXt xw4
   have Xw4 : Ext w w4 := Xw3.trans Lw4
   replace b10 := Lw4.cell b10
   replace b11 := Lw4.cell b11
   replace b12 := Lw4.cell b12
   replace b20 := Lw4.cell b20
   replace b21 := Lw4.cell b21
   replace b22 := Lw4.cell b22
   have z_b1 : w.heap.size < w4.heap.size := qB b10
   have z_b2 : w.heap.size + 1 < w4.heap.size := qB b20
   have s_w4 : w.heap.size ≤ w4.heap.size := Xw4.size
   clear xw4
   cases hB5 : sameB s1 s2
   ·
    replace hB5 := Lib.hid hB5
    refine hK.out _ _ ⟨b10, b11, b12, b20, b21, b22⟩ (fun hHeld => ?_)
    clear hK K
    try simp only [Act.put, qa, qb, qc, qD, qE, qF]
    refine qTk (v := ?_) 12 rfl (.inl ⟨by rfl, ?_⟩) ?_
    rotate_left
    ·
     (intro w hSw; (try dsimp only at hSw); go_simp; try with_reducible rfl)
    try simp only [Act.put, qa, qb, qc, qD, qE, qF]
    refine qTk (v := ?_) 13 rfl (.inl ⟨by rfl, ?_⟩) ?_
    rotate_left
    ·
     (intro w hSw; (try dsimp only at hSw); go_simp; try with_reducible rfl)
    try simp only [Act.put, qa, qb, qc, qD, qE, qF]
    refine qTs 14 rfl (.inr ⟨by rfl, rfl⟩) ?_
    try simp only [Act.put, qa, qb, qc, qD, qE, qF]
    refine qTs 15 rfl (.inr ⟨by rfl, rfl⟩) ?_
    try simp only [Act.put, qa, qb, qc, qD, qE, qF]
    refine qTs 16 rfl (.inr ⟨by rfl, rfl⟩) ?_
    try simp only [Act.put, qa, qb, qc, qD, qE, qF]
    refine qTs 17 rfl (.inr ⟨by rfl, rfl⟩) ?_
    try simp only [Act.put, qa, qb, qc, qD, qE, qF]
    refine qTs 18 rfl (.inr ⟨by rfl, rfl⟩) ?_
    try simp only [Act.put, qa, qb, qc, qD, qE, qF]
    refine qTk (v := ?_) 19 rfl (.inl ⟨by rfl, ?_⟩) ?_
    rotate_left
    ·
     (intro w hSw; (try dsimp only at hSw); go_simp; try with_reducible rfl)
    try simp only [Act.put, qa, qb, qc, qD, qE, qF]
    refine qTk (v := ?_) 20 rfl (.inl ⟨by rfl, ?_⟩) ?_
    rotate_left
    ·
     (intro w hSw; (try dsimp only at hSw); go_simp; try with_reducible rfl)
    try simp only [Act.put, qa, qb, qc, qD, qE, qF]
    refine wpTail_done qKr ?_ _
    clear hHeld 
    go_wp2_with fail
    go_ret
    exact ⟨by rw [show sameV b1 s1 t1 b2 s2 t2 = false by unfold sameV; rw [hB3.out, hB4.out, hB5.out] <;> rfl] <;> rfl, (Xw4.trans qXt)⟩
   ·
    replace hB5 := Lib.hid hB5
    refine hK.out _ _ ⟨b10, b11, b12, b20, b21, b22⟩ (fun hHeld => ?_)
    clear hK K
    try simp only [Act.put, qa, qb, qc, qD, qE, qF]
    refine qTk (v := ?_) 12 rfl (.inl ⟨by rfl, ?_⟩) ?_
    rotate_left
    ·
     (intro w hSw; (try dsimp only at hSw); go_simp; try with_reducible rfl)
    try simp only [Act.put, qa, qb, qc, qD, qE, qF]
    refine qTk (v := ?_) 13 rfl (.inl ⟨by rfl, ?_⟩) ?_
    rotate_left
    ·
     (intro w hSw; (try dsimp only at hSw); go_simp; try with_reducible rfl)
    try simp only [Act.put, qa, qb, qc, qD, qE, qF]
    refine qTk (v := ?_) 14 rfl (.inl ⟨by rfl, ?_⟩) ?_
    rotate_left
    ·
     (intro w hSw; (try dsimp only at hSw); go_simp; try with_reducible rfl)
    try simp only [Act.put, qa, qb, qc, qD, qE, qF]
    refine qTk (v := ?_) 16 rfl (.inl ⟨by rfl, ?_⟩) ?_
    rotate_left
    ·
     (intro w hSw; (try dsimp only at hSw); go_simp; try with_reducible rfl)
    try simp only [Act.put, qa, qb, qc, qD, qE, qF]
    refine wpTail_one (i := 15) qKr rfl rfl (fun K hK => ?_)
    try simp only [Act.put, qa, qb, qc, qD, qE, qF]
    go_simp
    refine (offsetsOf_c b1 (.slice p0 s1.length c0) (.slice p1 t1.length c1) s1 t1 _ _ _ (h1.ext (Xw4.trans qXt)) (k1.ext (Xw4.trans qXt)) (by first | omega | exact (vw hB3.out).1 | exact (vw hB3.out).2.1 | exact (vw hB3.out).2.2.1 | exact (vw hB3.out).2.2.2 | exact (vw hB4.out).1 | exact (vw hB4.out).2.1 | exact (vw hB4.out).2.2.1 | exact (vw hB4.out).2.2.2) (by first | omega | exact (vw hB3.out).1 | exact (vw hB3.out).2.1 | exact (vw hB3.out).2.2.1 | exact (vw hB3.out).2.2.2 | exact (vw hB4.out).1 | exact (vw hB4.out).2.1 | exact (vw hB4.out).2.2.1 | exact (vw hB4.out).2.2.2) (by first | omega | exact (vw hB3.out).1 | exact (vw hB3.out).2.1 | exact (vw hB3.out).2.2.1 | exact (vw hB3.out).2.2.2 | exact (vw hB4.out).1 | exact (vw hB4.out).2.1 | exact (vw hB4.out).2.2.1 | exact (vw hB4.out).2.2.2)).mono ?_
    rintro e w5 ⟨fv6, rfl, i7, -, xw5⟩
    have Lw5 : Ext w4 w5 := Ext.trans qXt xw5
    have Xw5 : Ext w w5 := Xw4.trans Lw5
    replace b10 := Lw5.cell b10
    replace b11 := Lw5.cell b11
    replace b12 := Lw5.cell b12
    replace b20 := Lw5.cell b20
    replace b21 := Lw5.cell b21
    replace b22 := Lw5.cell b22
    have z_b1 : w.heap.size < w5.heap.size := qB b10
    have z_b2 : w.heap.size + 1 < w5.heap.size := qB b20
    have s_w5 : w.heap.size ≤ w5.heap.size := Xw5.size
    clear xw5
    try simp only [World.size_alloc, World.size_drew] at i7
    obtain ⟨afv6, cfv6, rfl⟩ := i7.form
    refine hK.out _ _ ⟨b10, b11, b12, b20, b21, b22⟩ (fun hHeld => ?_)
    clear hK K
    try simp only [Act.put, qa, qb, qc, qD, qE, qF]
    refine wpTail_one (i := 17) qKr rfl rfl (fun K hK => ?_)
    try simp only [Act.put, qa, qb, qc, qD, qE, qF]
    go_simp
    refine (offsetsOf_c b2 (.slice q0 s2.length d0) (.slice q1 t2.length d1) s2 t2 _ _ _ (h2.ext (Xw5.trans qXt)) (k2.ext (Xw5.trans qXt)) (by first | omega | exact (vw hB3.out).1 | exact (vw hB3.out).2.1 | exact (vw hB3.out).2.2.1 | exact (vw hB3.out).2.2.2 | exact (vw hB4.out).1 | exact (vw hB4.out).2.1 | exact (vw hB4.out).2.2.1 | exact (vw hB4.out).2.2.2) (by first | omega | exact (vw hB3.out).1 | exact (vw hB3.out).2.1 | exact (vw hB3.out).2.2.1 | exact (vw hB3.out).2.2.2 | exact (vw hB4.out).1 | exact (vw hB4.out).2.1 | exact (vw hB4.out).2.2.1 | exact (vw hB4.out).2.2.2) (by first | omega | exact (vw hB3.out).1 | exact (vw hB3.out).2.1 | exact (vw hB3.out).2.2.1 | exact (vw hB3.out).2.2.2 | exact (vw hB4.out).1 | exact (vw hB4.out).2.1 | exact (vw hB4.out).2.2.1 | exact (vw hB4.out).2.2.2)).mono ?_
    rintro e w6 ⟨fv8, rfl, i9, -, xw6⟩
    have Lw6 : Ext w5 w6 := Ext.trans qXt xw6
    have Xw6 : Ext w w6 := Xw5.trans Lw6
    replace b10 := Lw6.cell b10
    replace b11 := Lw6.cell b11
    replace b12 := Lw6.cell b12
    replace b20 := Lw6.cell b20
    replace b21 := Lw6.cell b21
    replace b22 := Lw6.cell b22
    have z_b1 : w.heap.size < w6.heap.size := qB b10
    have z_b2 : w.heap.size + 1 < w6.heap.size := qB b20
    replace i7 := i7.ext Lw6
    have s_w6 : w.heap.size ≤ w6.heap.size := Xw6.size
    clear xw6
    try simp only [World.size_alloc, World.size_drew] at i9
    obtain ⟨afv8, cfv8, rfl⟩ := i9.form
    refine hK.out _ _ ⟨b10, b11, b12, b20, b21, b22⟩ (fun hHeld => ?_)
    clear hK K
    try simp only [Act.put, qa, qb, qc, qD, qE, qF]
    refine wpTail_one (i := 18) qKr rfl rfl (fun K hK => ?_)
    try simp only [Act.put, qa, qb, qc, qD, qE, qF]
    go_simp
    refine (equal_x (offsL b1 s1 t1) (offsL b2 s2 t2) (.slice afv6 ((offsL b1 s1 t1).length) cfv6) (.slice afv8 ((offsL b2 s2 t2).length) cfv8) _ _ _ (i7.ext qXt) (i9.ext qXt)).mono ?_
    rintro e w7 ⟨rfl, xw7⟩
    have Lw7 : Ext w6 w7 := Ext.trans qXt xw7
    have Xw7 : Ext w w7 := Xw6.trans Lw7
    replace b10 := Lw7.cell b10
    replace b11 := Lw7.cell b11
    replace b12 := Lw7.cell b12
    replace b20 := Lw7.cell b20
    replace b21 := Lw7.cell b21
    replace b22 := Lw7.cell b22
    have z_b1 : w.heap.size < w7.heap.size := qB b10
    have z_b2 : w.heap.size + 1 < w7.heap.size := qB b20
    replace i7 := i7.ext Lw7
    replace i9 := i9.ext Lw7
    have s_w7 : w.heap.size ≤ w7.heap.size := Xw7.size
    clear xw7
    cases hB10 : sameB (offsL b1 s1 t1) (offsL b2 s2 t2)
    ·
     replace hB10 := Lib.hid hB10
     refine hK.out _ _ ⟨b10, b11, b12, b20, b21, b22⟩ (fun hHeld => ?_)
     clear hK K
     try simp only [Act.put, qa, qb, qc, qD, qE, qF]
     refine qTk (v := ?_) 19 rfl (.inl ⟨by rfl, ?_⟩) ?_
     rotate_left
     ·
      (intro w hSw; (try dsimp only at hSw); go_simp; try with_reducible rfl)
     try simp only [Act.put, qa, qb, qc, qD, qE, qF]
     refine qTk (v := ?_) 20 rfl (.inl ⟨by rfl, ?_⟩) ?_
     rotate_left
     ·
      (intro w hSw; (try dsimp only at hSw); go_simp; try with_reducible rfl)
     try simp only [Act.put, qa, qb, qc, qD, qE, qF]
     refine wpTail_done qKr ?_ _
     clear hHeld 
     go_wp2_with fail
     go_ret
     exact ⟨by rw [show sameV b1 s1 t1 b2 s2 t2 = false by unfold sameV; rw [hB3.out, hB4.out, hB5.out, hB10.out] <;> rfl] <;> rfl, (Xw7.trans qXt)⟩
    ·
     replace hB10 := Lib.hid hB10
     refine hK.out _ _ ⟨b10, b11, b12, b20, b21, b22⟩ (fun hHeld => ?_)
     clear hK K
     try simp only [Act.put, qa, qb, qc, qD, qE, qF]
     refine qTk (v := ?_) 19 rfl (.inl ⟨by rfl, ?_⟩) ?_
     rotate_left
     ·
      (intro w hSw; (try dsimp only at hSw); go_simp; try with_reducible rfl)
     try simp only [Act.put, qa, qb, qc, qD, qE, qF]
     refine qTk (v := ?_) 20 rfl (.inl ⟨by rfl, ?_⟩) ?_
     rotate_left
     ·
      (intro w hSw; (try dsimp only at hSw); go_simp; try with_reducible rfl)
     try simp only [Act.put, qa, qb, qc, qD, qE, qF]
     refine wpTail_done qKr ?_ _
     clear hHeld 
     go_wp2_with fail
     go_ret
     exact ⟨by rw [show sameV b1 s1 t1 b2 s2 t2 = true by unfold sameV; rw [hB3.out, hB4.out, hB5.out, hB10.out] <;> rfl] <;> rfl, (Xw7.trans qXt)⟩


end Go.Proofs.Ytonnnjaooifpjaa

/- Walks: slices of the program. -/
namespace Go.Proofs.Ytonnnjaooifpjaa
open Go.RowKit
set_option linter.unusedVariables false
set_option maxRecDepth 100000

set_option maxHeartbeats 1600000 in
theorem isSlice_tt (F T B : Int) (w : World)  :
  Calls Try.prog 103 #[.agg #[.int .i64 F, .int .i64 T, .int .i64 B, .bool true, .bool true]] w (fun e w' => e = .returned (.bool (sliceB F T B true true)) ∧ Ext w w') := by
 go_enter Try.func103, Try.ntmps103
 by_cases hc2 : (B : Int) = (0 : Int)
 ·
  have hc2e : ((B : Int) == (0 : Int)) = true := by simpa using hc2
  have hc2n : ((B : Int) != (0 : Int)) = false := by simpa using hc2
  replace hc2 := Lib.hid hc2
  go_wp2_with fail
  go_ret
  exact ⟨by rw [show sliceB F T B true true = false by (have k0 := hc2.out; unfold sliceB inB; simp; omega)] <;> rfl, qXt⟩
 ·
  have hc2e : ((B : Int) == (0 : Int)) = false := by simpa using hc2
  have hc2n : ((B : Int) != (0 : Int)) = true := by simpa using hc2
  replace hc2 := Lib.hid hc2
  by_cases hc3 : (B : Int) < (-200 : Int)
  ·
   go_wp2_with fail
   go_ret
   exact ⟨by rw [show sliceB F T B true true = false by (have k0 := hc2.out; have k1 := hc3; unfold sliceB inB; simp; omega)] <;> rfl, qXt⟩
  ·
   by_cases hc4 : (200 : Int) < (B : Int)
   ·
    go_wp2_with fail
    go_ret
    exact ⟨by rw [show sliceB F T B true true = false by (have k0 := hc2.out; have k1 := hc3; have k2 := hc4; unfold sliceB inB; simp; omega)] <;> rfl, qXt⟩
   ·
    by_cases hc5 : (-100 : Int) ≤ (F : Int)
    ·
     by_cases hc6 : (F : Int) ≤ (100 : Int)
     ·
      by_cases hc7 : (-100 : Int) ≤ (T : Int)
      ·
       by_cases hc8 : (T : Int) ≤ (100 : Int)
       ·
        go_wp2_with fail
        go_ret
        exact ⟨by rw [show sliceB F T B true true = true by (have k0 := hc2.out; have k1 := hc3; have k2 := hc4; have k3 := hc5; have k4 := hc6; have k5 := hc7; have k6 := hc8; unfold sliceB inB; simp; omega)] <;> rfl, qXt⟩
       ·
        go_wp2_with fail
        go_ret
        exact ⟨by rw [show sliceB F T B true true = false by (have k0 := hc2.out; have k1 := hc3; have k2 := hc4; have k3 := hc5; have k4 := hc6; have k5 := hc7; have k6 := hc8; unfold sliceB inB; simp; omega)] <;> rfl, qXt⟩
      ·
       go_wp2_with fail
       go_ret
       exact ⟨by rw [show sliceB F T B true true = false by (have k0 := hc2.out; have k1 := hc3; have k2 := hc4; have k3 := hc5; have k4 := hc6; have k5 := hc7; unfold sliceB inB; simp; omega)] <;> rfl, qXt⟩
     ·
      go_wp2_with fail
      go_ret
      exact ⟨by rw [show sliceB F T B true true = false by (have k0 := hc2.out; have k1 := hc3; have k2 := hc4; have k3 := hc5; have k4 := hc6; unfold sliceB inB; simp; omega)] <;> rfl, qXt⟩
    ·
     go_wp2_with fail
     go_ret
     exact ⟨by rw [show sliceB F T B true true = false by (have k0 := hc2.out; have k1 := hc3; have k2 := hc4; have k3 := hc5; unfold sliceB inB; simp; omega)] <;> rfl, qXt⟩

set_option maxHeartbeats 1600000 in
theorem isSlice_tf (F T B : Int) (w : World)  :
  Calls Try.prog 103 #[.agg #[.int .i64 F, .int .i64 T, .int .i64 B, .bool true, .bool false]] w (fun e w' => e = .returned (.bool (sliceB F T B true false)) ∧ Ext w w') := by
 go_enter Try.func103, Try.ntmps103
 by_cases hc2 : (T : Int) = (0 : Int)
 ·
  have hc2e : ((T : Int) == (0 : Int)) = true := by simpa using hc2
  have hc2n : ((T : Int) != (0 : Int)) = false := by simpa using hc2
  replace hc2 := Lib.hid hc2
  by_cases hc3 : (B : Int) = (0 : Int)
  ·
   have hc3e : ((B : Int) == (0 : Int)) = true := by simpa using hc3
   have hc3n : ((B : Int) != (0 : Int)) = false := by simpa using hc3
   replace hc3 := Lib.hid hc3
   go_wp2_with fail
   go_ret
   exact ⟨by rw [show sliceB F T B true false = false by (have k0 := hc2.out; have k1 := hc3.out; unfold sliceB inB; simp; omega)] <;> rfl, qXt⟩
  ·
   have hc3e : ((B : Int) == (0 : Int)) = false := by simpa using hc3
   have hc3n : ((B : Int) != (0 : Int)) = true := by simpa using hc3
   replace hc3 := Lib.hid hc3
   by_cases hc4 : (B : Int) < (-200 : Int)
   ·
    go_wp2_with fail
    go_ret
    exact ⟨by rw [show sliceB F T B true false = false by (have k0 := hc2.out; have k1 := hc3.out; have k2 := hc4; unfold sliceB inB; simp; omega)] <;> rfl, qXt⟩
   ·
    by_cases hc5 : (200 : Int) < (B : Int)
    ·
     go_wp2_with fail
     go_ret
     exact ⟨by rw [show sliceB F T B true false = false by (have k0 := hc2.out; have k1 := hc3.out; have k2 := hc4; have k3 := hc5; unfold sliceB inB; simp; omega)] <;> rfl, qXt⟩
    ·
     by_cases hc6 : (-100 : Int) ≤ (F : Int)
     ·
      by_cases hc7 : (F : Int) ≤ (100 : Int)
      ·
       by_cases hc8 : (-100 : Int) ≤ (T : Int)
       ·
        by_cases hc9 : (T : Int) ≤ (100 : Int)
        ·
         go_wp2_with fail
         go_ret
         exact ⟨by rw [show sliceB F T B true false = true by (have k0 := hc2.out; have k1 := hc3.out; have k2 := hc4; have k3 := hc5; have k4 := hc6; have k5 := hc7; have k6 := hc8; have k7 := hc9; unfold sliceB inB; simp; omega)] <;> rfl, qXt⟩
        ·
         go_wp2_with fail
         go_ret
         exact ⟨by rw [show sliceB F T B true false = false by (have k0 := hc2.out; have k1 := hc3.out; have k2 := hc4; have k3 := hc5; have k4 := hc6; have k5 := hc7; have k6 := hc8; have k7 := hc9; unfold sliceB inB; simp; omega)] <;> rfl, qXt⟩
       ·
        go_wp2_with fail
        go_ret
        exact ⟨by rw [show sliceB F T B true false = false by (have k0 := hc2.out; have k1 := hc3.out; have k2 := hc4; have k3 := hc5; have k4 := hc6; have k5 := hc7; have k6 := hc8; unfold sliceB inB; simp; omega)] <;> rfl, qXt⟩
      ·
       go_wp2_with fail
       go_ret
       exact ⟨by rw [show sliceB F T B true false = false by (have k0 := hc2.out; have k1 := hc3.out; have k2 := hc4; have k3 := hc5; have k4 := hc6; have k5 := hc7; unfold sliceB inB; simp; omega)] <;> rfl, qXt⟩
     ·
      go_wp2_with fail
      go_ret
      exact ⟨by rw [show sliceB F T B true false = false by (have k0 := hc2.out; have k1 := hc3.out; have k2 := hc4; have k3 := hc5; have k4 := hc6; unfold sliceB inB; simp; omega)] <;> rfl, qXt⟩
 ·
  have hc2e : ((T : Int) == (0 : Int)) = false := by simpa using hc2
  have hc2n : ((T : Int) != (0 : Int)) = true := by simpa using hc2
  replace hc2 := Lib.hid hc2
  go_wp2_with fail
  go_ret
  exact ⟨by rw [show sliceB F T B true false = false by (have k0 := hc2.out; unfold sliceB inB; simp; omega)] <;> rfl, qXt⟩

set_option maxHeartbeats 1600000 in
theorem isSlice_ft (F T B : Int) (w : World)  :
  Calls Try.prog 103 #[.agg #[.int .i64 F, .int .i64 T, .int .i64 B, .bool false, .bool true]] w (fun e w' => e = .returned (.bool (sliceB F T B false true)) ∧ Ext w w') := by
 go_enter Try.func103, Try.ntmps103
 by_cases hc2 : (F : Int) = (0 : Int)
 ·
  have hc2e : ((F : Int) == (0 : Int)) = true := by simpa using hc2
  have hc2n : ((F : Int) != (0 : Int)) = false := by simpa using hc2
  replace hc2 := Lib.hid hc2
  by_cases hc3 : (B : Int) = (0 : Int)
  ·
   have hc3e : ((B : Int) == (0 : Int)) = true := by simpa using hc3
   have hc3n : ((B : Int) != (0 : Int)) = false := by simpa using hc3
   replace hc3 := Lib.hid hc3
   go_wp2_with fail
   go_ret
   exact ⟨by rw [show sliceB F T B false true = false by (have k0 := hc2.out; have k1 := hc3.out; unfold sliceB inB; simp; omega)] <;> rfl, qXt⟩
  ·
   have hc3e : ((B : Int) == (0 : Int)) = false := by simpa using hc3
   have hc3n : ((B : Int) != (0 : Int)) = true := by simpa using hc3
   replace hc3 := Lib.hid hc3
   by_cases hc4 : (B : Int) < (-200 : Int)
   ·
    go_wp2_with fail
    go_ret
    exact ⟨by rw [show sliceB F T B false true = false by (have k0 := hc2.out; have k1 := hc3.out; have k2 := hc4; unfold sliceB inB; simp; omega)] <;> rfl, qXt⟩
   ·
    by_cases hc5 : (200 : Int) < (B : Int)
    ·
     go_wp2_with fail
     go_ret
     exact ⟨by rw [show sliceB F T B false true = false by (have k0 := hc2.out; have k1 := hc3.out; have k2 := hc4; have k3 := hc5; unfold sliceB inB; simp; omega)] <;> rfl, qXt⟩
    ·
     by_cases hc6 : (-100 : Int) ≤ (F : Int)
     ·
      by_cases hc7 : (F : Int) ≤ (100 : Int)
      ·
       by_cases hc8 : (-100 : Int) ≤ (T : Int)
       ·
        by_cases hc9 : (T : Int) ≤ (100 : Int)
        ·
         go_wp2_with fail
         go_ret
         exact ⟨by rw [show sliceB F T B false true = true by (have k0 := hc2.out; have k1 := hc3.out; have k2 := hc4; have k3 := hc5; have k4 := hc6; have k5 := hc7; have k6 := hc8; have k7 := hc9; unfold sliceB inB; simp; omega)] <;> rfl, qXt⟩
        ·
         go_wp2_with fail
         go_ret
         exact ⟨by rw [show sliceB F T B false true = false by (have k0 := hc2.out; have k1 := hc3.out; have k2 := hc4; have k3 := hc5; have k4 := hc6; have k5 := hc7; have k6 := hc8; have k7 := hc9; unfold sliceB inB; simp; omega)] <;> rfl, qXt⟩
       ·
        go_wp2_with fail
        go_ret
        exact ⟨by rw [show sliceB F T B false true = false by (have k0 := hc2.out; have k1 := hc3.out; have k2 := hc4; have k3 := hc5; have k4 := hc6; have k5 := hc7; have k6 := hc8; unfold sliceB inB; simp; omega)] <;> rfl, qXt⟩
      ·
       go_wp2_with fail
       go_ret
       exact ⟨by rw [show sliceB F T B false true = false by (have k0 := hc2.out; have k1 := hc3.out; have k2 := hc4; have k3 := hc5; have k4 := hc6; have k5 := hc7; unfold sliceB inB; simp; omega)] <;> rfl, qXt⟩
     ·
      go_wp2_with fail
      go_ret
      exact ⟨by rw [show sliceB F T B false true = false by (have k0 := hc2.out; have k1 := hc3.out; have k2 := hc4; have k3 := hc5; have k4 := hc6; unfold sliceB inB; simp; omega)] <;> rfl, qXt⟩
 ·
  have hc2e : ((F : Int) == (0 : Int)) = false := by simpa using hc2
  have hc2n : ((F : Int) != (0 : Int)) = true := by simpa using hc2
  replace hc2 := Lib.hid hc2
  go_wp2_with fail
  go_ret
  exact ⟨by rw [show sliceB F T B false true = false by (have k0 := hc2.out; unfold sliceB inB; simp; omega)] <;> rfl, qXt⟩

set_option maxHeartbeats 1600000 in
theorem isSlice_ff (F T B : Int) (w : World)  :
  Calls Try.prog 103 #[.agg #[.int .i64 F, .int .i64 T, .int .i64 B, .bool false, .bool false]] w (fun e w' => e = .returned (.bool (sliceB F T B false false)) ∧ Ext w w') := by
 go_enter Try.func103, Try.ntmps103
 by_cases hc2 : (F : Int) = (0 : Int)
 ·
  have hc2e : ((F : Int) == (0 : Int)) = true := by simpa using hc2
  have hc2n : ((F : Int) != (0 : Int)) = false := by simpa using hc2
  replace hc2 := Lib.hid hc2
  by_cases hc3 : (T : Int) = (0 : Int)
  ·
   have hc3e : ((T : Int) == (0 : Int)) = true := by simpa using hc3
   have hc3n : ((T : Int) != (0 : Int)) = false := by simpa using hc3
   replace hc3 := Lib.hid hc3
   by_cases hc4 : (B : Int) = (0 : Int)
   ·
    have hc4e : ((B : Int) == (0 : Int)) = true := by simpa using hc4
    have hc4n : ((B : Int) != (0 : Int)) = false := by simpa using hc4
    replace hc4 := Lib.hid hc4
    go_wp2_with fail
    go_ret
    exact ⟨by rw [show sliceB F T B false false = false by (have k0 := hc2.out; have k1 := hc3.out; have k2 := hc4.out; unfold sliceB inB; simp; omega)] <;> rfl, qXt⟩
   ·
    have hc4e : ((B : Int) == (0 : Int)) = false := by simpa using hc4
    have hc4n : ((B : Int) != (0 : Int)) = true := by simpa using hc4
    replace hc4 := Lib.hid hc4
    by_cases hc5 : (B : Int) < (-200 : Int)
    ·
     go_wp2_with fail
     go_ret
     exact ⟨by rw [show sliceB F T B false false = false by (have k0 := hc2.out; have k1 := hc3.out; have k2 := hc4.out; have k3 := hc5; unfold sliceB inB; simp; omega)] <;> rfl, qXt⟩
    ·
     by_cases hc6 : (200 : Int) < (B : Int)
     ·
      go_wp2_with fail
      go_ret
      exact ⟨by rw [show sliceB F T B false false = false by (have k0 := hc2.out; have k1 := hc3.out; have k2 := hc4.out; have k3 := hc5; have k4 := hc6; unfold sliceB inB; simp; omega)] <;> rfl, qXt⟩
     ·
      by_cases hc7 : (-100 : Int) ≤ (F : Int)
      ·
       by_cases hc8 : (F : Int) ≤ (100 : Int)
       ·
        by_cases hc9 : (-100 : Int) ≤ (T : Int)
        ·
         by_cases hc10 : (T : Int) ≤ (100 : Int)
         ·
          go_wp2_with fail
          go_ret
          exact ⟨by rw [show sliceB F T B false false = true by (have k0 := hc2.out; have k1 := hc3.out; have k2 := hc4.out; have k3 := hc5; have k4 := hc6; have k5 := hc7; have k6 := hc8; have k7 := hc9; have k8 := hc10; unfold sliceB inB; simp; omega)] <;> rfl, qXt⟩
         ·
          go_wp2_with fail
          go_ret
          exact ⟨by rw [show sliceB F T B false false = false by (have k0 := hc2.out; have k1 := hc3.out; have k2 := hc4.out; have k3 := hc5; have k4 := hc6; have k5 := hc7; have k6 := hc8; have k7 := hc9; have k8 := hc10; unfold sliceB inB; simp; omega)] <;> rfl, qXt⟩
        ·
         go_wp2_with fail
         go_ret
         exact ⟨by rw [show sliceB F T B false false = false by (have k0 := hc2.out; have k1 := hc3.out; have k2 := hc4.out; have k3 := hc5; have k4 := hc6; have k5 := hc7; have k6 := hc8; have k7 := hc9; unfold sliceB inB; simp; omega)] <;> rfl, qXt⟩
       ·
        go_wp2_with fail
        go_ret
        exact ⟨by rw [show sliceB F T B false false = false by (have k0 := hc2.out; have k1 := hc3.out; have k2 := hc4.out; have k3 := hc5; have k4 := hc6; have k5 := hc7; have k6 := hc8; unfold sliceB inB; simp; omega)] <;> rfl, qXt⟩
      ·
       go_wp2_with fail
       go_ret
       exact ⟨by rw [show sliceB F T B false false = false by (have k0 := hc2.out; have k1 := hc3.out; have k2 := hc4.out; have k3 := hc5; have k4 := hc6; have k5 := hc7; unfold sliceB inB; simp; omega)] <;> rfl, qXt⟩
  ·
   have hc3e : ((T : Int) == (0 : Int)) = false := by simpa using hc3
   have hc3n : ((T : Int) != (0 : Int)) = true := by simpa using hc3
   replace hc3 := Lib.hid hc3
   go_wp2_with fail
   go_ret
   exact ⟨by rw [show sliceB F T B false false = false by (have k0 := hc2.out; have k1 := hc3.out; unfold sliceB inB; simp; omega)] <;> rfl, qXt⟩
 ·
  have hc2e : ((F : Int) == (0 : Int)) = false := by simpa using hc2
  have hc2n : ((F : Int) != (0 : Int)) = true := by simpa using hc2
  replace hc2 := Lib.hid hc2
  go_wp2_with fail
  go_ret
  exact ⟨by rw [show sliceB F T B false false = false by (have k0 := hc2.out; unfold sliceB inB; simp; omega)] <;> rfl, qXt⟩

set_option maxHeartbeats 1600000 in
theorem isSlice_c (F T B : Int) (hf ht : Bool) (w : World)  :
  Calls Try.prog 103 #[.agg #[.int .i64 F, .int .i64 T, .int .i64 B, .bool hf, .bool ht]] w (fun e w' => e = .returned (.bool (sliceB F T B hf ht)) ∧ Ext w w') := by
 cases hf <;> cases ht
 ·
  exact isSlice_ff F T B w
 ·
  exact isSlice_ft F T B w
 ·
  exact isSlice_tf F T B w
 ·
  exact isSlice_tt F T B w

set_option maxHeartbeats 1600000 in
theorem endOf_c (n x b : Int) (w : World) (hn : 0 ≤ n ∧ n ≤ 200) (hx : -200 ≤ x ∧ x ≤ 200) :
  Calls Try.prog 143 #[.int .i64 n, .int .i64 x, .int .i64 b] w (fun e w' => e = .returned (.int .i64 (boundI n x b)) ∧ w = w') := by
 go_enter Try.func143, Try.ntmps143
 by_cases hc1 : (x : Int) < (0 : Int)
 ·
  by_cases hc2 : (b : Int) < (0 : Int)
  ·
   go_wp2_with fail
   go_ret
   exact ⟨by rw [show boundI n x b = min (max (x + n) (-1)) (n - 1) by (have k0 := hc1; have k1 := hc2; unfold boundI; (repeat' split) <;> omega)] <;> rfl, rfl⟩
  ·
   go_wp2_with fail
   go_ret
   exact ⟨by rw [show boundI n x b = min (max (x + n) 0) n by (have k0 := hc1; have k1 := hc2; unfold boundI; (repeat' split) <;> omega)] <;> rfl, rfl⟩
 ·
  by_cases hc3 : (b : Int) < (0 : Int)
  ·
   go_wp2_with fail
   go_ret
   exact ⟨by rw [show boundI n x b = min (max x (-1)) (n - 1) by (have k0 := hc1; have k1 := hc3; unfold boundI; (repeat' split) <;> omega)] <;> rfl, rfl⟩
  ·
   go_wp2_with fail
   go_ret
   exact ⟨by rw [show boundI n x b = min (max x 0) n by (have k0 := hc1; have k1 := hc3; unfold boundI; (repeat' split) <;> omega)] <;> rfl, rfl⟩

set_option maxHeartbeats 1600000 in
theorem indicesOf_tt (n F T B : Int) (w : World) (hn : 0 ≤ n ∧ n ≤ 200) (hs : (-100 ≤ F ∧ F ≤ 100) ∧ (-100 ≤ T ∧ T ≤ 100) ∧ (-200 ≤ B ∧ B ≤ 200) ∧ B ≠ 0) :
  Calls Try.prog 110 #[.int .i64 n, .agg #[.int .i64 F, .int .i64 T, .int .i64 B, .bool true, .bool true]] w (PInts w (idxS n F T B true true)) := by
 go_enter Try.func110, Try.ntmps110
 by_cases hc3 : (B : Int) < (0 : Int)
 ·
  go_wp2_with fail
  refine (endOf_c n F B _ (by omega) (by omega)).mono ?_
  rintro e w' ⟨rfl, rfl⟩
  go_wp2_with fail
  refine (endOf_c n T B _ (by omega) (by omega)).mono ?_
  rintro e w' ⟨rfl, rfl⟩
  go_wp2_with fail
  refine (numbersOf_c (boundI n F B) (boundI n T B) B _ (by have := boundI_in (n := n) (x := F) (b := B) hn.1; have := boundI_in (n := n) (x := T) (b := B) hn.1; omega) (by have := boundI_in (n := n) (x := F) (b := B) hn.1; have := boundI_in (n := n) (x := T) (b := B) hn.1; omega) (by have := boundI_in (n := n) (x := F) (b := B) hn.1; have := boundI_in (n := n) (x := T) (b := B) hn.1; omega) hs.2.2.2).mono ?_
  rintro e w1 ⟨fv4, rfl, i5, i5z, xw1⟩
  have Lw1 : Ext w w1 := Ext.trans qXt xw1
  have Xw1 : Ext w w1 := Lw1
  have b10 : w1.cell? ⟨w.heap.size, 0, none⟩ = some (.int .i64 F) := xw1.cell qCl
  have b11 : w1.cell? ⟨w.heap.size, 1, none⟩ = some (.int .i64 T) := xw1.cell qCl
  have b12 : w1.cell? ⟨w.heap.size, 2, none⟩ = some (.int .i64 B) := xw1.cell qCl
  have b13 : w1.cell? ⟨w.heap.size, 3, none⟩ = some (.bool true) := xw1.cell qCl
  have b14 : w1.cell? ⟨w.heap.size, 4, none⟩ = some (.bool true) := xw1.cell qCl
  have b20 : w1.cell? ⟨w.heap.size + 1, 0, none⟩ = some (.int .i64 (boundI n F B)) := xw1.cell qCl
  have b21 : w1.cell? ⟨w.heap.size + 1, 1, none⟩ = some (.int .i64 (boundI n T B)) := xw1.cell qCl
  have b22 : w1.cell? ⟨w.heap.size + 1, 2, none⟩ = some (.int .i64 B) := xw1.cell qCl
  have f_b20 : w1.frozen? ⟨w.heap.size + 1, 0, none⟩ = false := xw1.frz (by simp <;> omega) qFz
  have f_b21 : w1.frozen? ⟨w.heap.size + 1, 1, none⟩ = false := xw1.frz (by simp <;> omega) qFz
  have f_b22 : w1.frozen? ⟨w.heap.size + 1, 2, none⟩ = false := xw1.frz (by simp <;> omega) qFz
  have z_b1 : w.heap.size < w1.heap.size := qB b10
  have z_b2 : w.heap.size + 1 < w1.heap.size := qB b20
  have s_w1 : w.heap.size ≤ w1.heap.size := Xw1.size
  clear xw1
  try simp only [World.size_alloc, World.size_drew] at i5
  try simp only [World.size_alloc, World.size_drew] at i5z
  obtain ⟨afv4, cfv4, rfl⟩ := i5.form
  go_wp2_with fail
  go_ret
  rw [show idxS n F T B true true = numL (boundI n F B) (boundI n T B) B by (have k0 := hc3; unfold idxS fromI toI; simp only [reduceIte, Bool.false_eq_true] <;> (repeat' split) <;> first | rfl | (exfalso; omega))]
  exact ⟨_, rfl, i5.lower (by omega), i5z.lower (by omega), Xw1⟩
 ·
  go_wp2_with fail
  refine (endOf_c n F B _ (by omega) (by omega)).mono ?_
  rintro e w' ⟨rfl, rfl⟩
  go_wp2_with fail
  refine (endOf_c n T B _ (by omega) (by omega)).mono ?_
  rintro e w' ⟨rfl, rfl⟩
  go_wp2_with fail
  refine (numbersOf_c (boundI n F B) (boundI n T B) B _ (by have := boundI_in (n := n) (x := F) (b := B) hn.1; have := boundI_in (n := n) (x := T) (b := B) hn.1; omega) (by have := boundI_in (n := n) (x := F) (b := B) hn.1; have := boundI_in (n := n) (x := T) (b := B) hn.1; omega) (by have := boundI_in (n := n) (x := F) (b := B) hn.1; have := boundI_in (n := n) (x := T) (b := B) hn.1; omega) hs.2.2.2).mono ?_
  rintro e w1 ⟨fv6, rfl, i7, i7z, xw1⟩
  have Lw1 : Ext w w1 := Ext.trans qXt xw1
  have Xw1 : Ext w w1 := Lw1
  have b10 : w1.cell? ⟨w.heap.size, 0, none⟩ = some (.int .i64 F) := xw1.cell qCl
  have b11 : w1.cell? ⟨w.heap.size, 1, none⟩ = some (.int .i64 T) := xw1.cell qCl
  have b12 : w1.cell? ⟨w.heap.size, 2, none⟩ = some (.int .i64 B) := xw1.cell qCl
  have b13 : w1.cell? ⟨w.heap.size, 3, none⟩ = some (.bool true) := xw1.cell qCl
  have b14 : w1.cell? ⟨w.heap.size, 4, none⟩ = some (.bool true) := xw1.cell qCl
  have b20 : w1.cell? ⟨w.heap.size + 1, 0, none⟩ = some (.int .i64 (boundI n F B)) := xw1.cell qCl
  have b21 : w1.cell? ⟨w.heap.size + 1, 1, none⟩ = some (.int .i64 (boundI n T B)) := xw1.cell qCl
  have b22 : w1.cell? ⟨w.heap.size + 1, 2, none⟩ = some (.int .i64 B) := xw1.cell qCl
  have f_b20 : w1.frozen? ⟨w.heap.size + 1, 0, none⟩ = false := xw1.frz (by simp <;> omega) qFz
  have f_b21 : w1.frozen? ⟨w.heap.size + 1, 1, none⟩ = false := xw1.frz (by simp <;> omega) qFz
  have f_b22 : w1.frozen? ⟨w.heap.size + 1, 2, none⟩ = false := xw1.frz (by simp <;> omega) qFz
  have z_b1 : w.heap.size < w1.heap.size := qB b10
  have z_b2 : w.heap.size + 1 < w1.heap.size := qB b20
  have s_w1 : w.heap.size ≤ w1.heap.size := Xw1.size
  clear xw1
  try simp only [World.size_alloc, World.size_drew] at i7
  try simp only [World.size_alloc, World.size_drew] at i7z
  obtain ⟨afv6, cfv6, rfl⟩ := i7.form
  go_wp2_with fail
  go_ret
  rw [show idxS n F T B true true = numL (boundI n F B) (boundI n T B) B by (have k0 := hc3; unfold idxS fromI toI; simp only [reduceIte, Bool.false_eq_true] <;> (repeat' split) <;> first | rfl | (exfalso; omega))]
  exact ⟨_, rfl, i7.lower (by omega), i7z.lower (by omega), Xw1⟩

set_option maxHeartbeats 1600000 in
theorem indicesOf_tf (n F T B : Int) (w : World) (hn : 0 ≤ n ∧ n ≤ 200) (hs : (-100 ≤ F ∧ F ≤ 100) ∧ (-100 ≤ T ∧ T ≤ 100) ∧ (-200 ≤ B ∧ B ≤ 200) ∧ B ≠ 0) :
  Calls Try.prog 110 #[.int .i64 n, .agg #[.int .i64 F, .int .i64 T, .int .i64 B, .bool true, .bool false]] w (PInts w (idxS n F T B true false)) := by
 go_enter Try.func110, Try.ntmps110
 by_cases hc3 : (B : Int) < (0 : Int)
 ·
  go_wp2_with fail
  refine (endOf_c n F B _ (by omega) (by omega)).mono ?_
  rintro e w' ⟨rfl, rfl⟩
  go_wp2_with fail
  refine (numbersOf_c (boundI n F B) (-1) B _ (by have := boundI_in (n := n) (x := F) (b := B) hn.1; have := boundI_in (n := n) (x := T) (b := B) hn.1; omega) (by have := boundI_in (n := n) (x := F) (b := B) hn.1; have := boundI_in (n := n) (x := T) (b := B) hn.1; omega) (by have := boundI_in (n := n) (x := F) (b := B) hn.1; have := boundI_in (n := n) (x := T) (b := B) hn.1; omega) hs.2.2.2).mono ?_
  rintro e w1 ⟨fv4, rfl, i5, i5z, xw1⟩
  have Lw1 : Ext w w1 := Ext.trans qXt xw1
  have Xw1 : Ext w w1 := Lw1
  have b10 : w1.cell? ⟨w.heap.size, 0, none⟩ = some (.int .i64 F) := xw1.cell qCl
  have b11 : w1.cell? ⟨w.heap.size, 1, none⟩ = some (.int .i64 T) := xw1.cell qCl
  have b12 : w1.cell? ⟨w.heap.size, 2, none⟩ = some (.int .i64 B) := xw1.cell qCl
  have b13 : w1.cell? ⟨w.heap.size, 3, none⟩ = some (.bool true) := xw1.cell qCl
  have b14 : w1.cell? ⟨w.heap.size, 4, none⟩ = some (.bool false) := xw1.cell qCl
  have b20 : w1.cell? ⟨w.heap.size + 1, 0, none⟩ = some (.int .i64 (boundI n F B)) := xw1.cell qCl
  have b21 : w1.cell? ⟨w.heap.size + 1, 1, none⟩ = some (.int .i64 (-1)) := xw1.cell qCl
  have b22 : w1.cell? ⟨w.heap.size + 1, 2, none⟩ = some (.int .i64 B) := xw1.cell qCl
  have f_b20 : w1.frozen? ⟨w.heap.size + 1, 0, none⟩ = false := xw1.frz (by simp <;> omega) qFz
  have f_b21 : w1.frozen? ⟨w.heap.size + 1, 1, none⟩ = false := xw1.frz (by simp <;> omega) qFz
  have f_b22 : w1.frozen? ⟨w.heap.size + 1, 2, none⟩ = false := xw1.frz (by simp <;> omega) qFz
  have z_b1 : w.heap.size < w1.heap.size := qB b10
  have z_b2 : w.heap.size + 1 < w1.heap.size := qB b20
  have s_w1 : w.heap.size ≤ w1.heap.size := Xw1.size
  clear xw1
  try simp only [World.size_alloc, World.size_drew] at i5
  try simp only [World.size_alloc, World.size_drew] at i5z
  obtain ⟨afv4, cfv4, rfl⟩ := i5.form
  go_wp2_with fail
  go_ret
  rw [show idxS n F T B true false = numL (boundI n F B) (-1) B by (have k0 := hc3; unfold idxS fromI toI; simp only [reduceIte, Bool.false_eq_true] <;> (repeat' split) <;> first | rfl | (exfalso; omega))]
  exact ⟨_, rfl, i5.lower (by omega), i5z.lower (by omega), Xw1⟩
 ·
  go_wp2_with fail
  refine (endOf_c n F B _ (by omega) (by omega)).mono ?_
  rintro e w' ⟨rfl, rfl⟩
  go_wp2_with fail
  refine (numbersOf_c (boundI n F B) n B _ (by have := boundI_in (n := n) (x := F) (b := B) hn.1; have := boundI_in (n := n) (x := T) (b := B) hn.1; omega) (by have := boundI_in (n := n) (x := F) (b := B) hn.1; have := boundI_in (n := n) (x := T) (b := B) hn.1; omega) (by have := boundI_in (n := n) (x := F) (b := B) hn.1; have := boundI_in (n := n) (x := T) (b := B) hn.1; omega) hs.2.2.2).mono ?_
  rintro e w1 ⟨fv6, rfl, i7, i7z, xw1⟩
  have Lw1 : Ext w w1 := Ext.trans qXt xw1
  have Xw1 : Ext w w1 := Lw1
  have b10 : w1.cell? ⟨w.heap.size, 0, none⟩ = some (.int .i64 F) := xw1.cell qCl
  have b11 : w1.cell? ⟨w.heap.size, 1, none⟩ = some (.int .i64 T) := xw1.cell qCl
  have b12 : w1.cell? ⟨w.heap.size, 2, none⟩ = some (.int .i64 B) := xw1.cell qCl
  have b13 : w1.cell? ⟨w.heap.size, 3, none⟩ = some (.bool true) := xw1.cell qCl
  have b14 : w1.cell? ⟨w.heap.size, 4, none⟩ = some (.bool false) := xw1.cell qCl
  have b20 : w1.cell? ⟨w.heap.size + 1, 0, none⟩ = some (.int .i64 (boundI n F B)) := xw1.cell qCl
  have b21 : w1.cell? ⟨w.heap.size + 1, 1, none⟩ = some (.int .i64 n) := xw1.cell qCl
  have b22 : w1.cell? ⟨w.heap.size + 1, 2, none⟩ = some (.int .i64 B) := xw1.cell qCl
  have f_b20 : w1.frozen? ⟨w.heap.size + 1, 0, none⟩ = false := xw1.frz (by simp <;> omega) qFz
  have f_b21 : w1.frozen? ⟨w.heap.size + 1, 1, none⟩ = false := xw1.frz (by simp <;> omega) qFz
  have f_b22 : w1.frozen? ⟨w.heap.size + 1, 2, none⟩ = false := xw1.frz (by simp <;> omega) qFz
  have z_b1 : w.heap.size < w1.heap.size := qB b10
  have z_b2 : w.heap.size + 1 < w1.heap.size := qB b20
  have s_w1 : w.heap.size ≤ w1.heap.size := Xw1.size
  clear xw1
  try simp only [World.size_alloc, World.size_drew] at i7
  try simp only [World.size_alloc, World.size_drew] at i7z
  obtain ⟨afv6, cfv6, rfl⟩ := i7.form
  go_wp2_with fail
  go_ret
  rw [show idxS n F T B true false = numL (boundI n F B) n B by (have k0 := hc3; unfold idxS fromI toI; simp only [reduceIte, Bool.false_eq_true] <;> (repeat' split) <;> first | rfl | (exfalso; omega))]
  exact ⟨_, rfl, i7.lower (by omega), i7z.lower (by omega), Xw1⟩

set_option maxHeartbeats 1600000 in
theorem indicesOf_ft (n F T B : Int) (w : World) (hn : 0 ≤ n ∧ n ≤ 200) (hs : (-100 ≤ F ∧ F ≤ 100) ∧ (-100 ≤ T ∧ T ≤ 100) ∧ (-200 ≤ B ∧ B ≤ 200) ∧ B ≠ 0) :
  Calls Try.prog 110 #[.int .i64 n, .agg #[.int .i64 F, .int .i64 T, .int .i64 B, .bool false, .bool true]] w (PInts w (idxS n F T B false true)) := by
 go_enter Try.func110, Try.ntmps110
 by_cases hc3 : (B : Int) < (0 : Int)
 ·
  go_wp2_with fail
  refine (endOf_c n T B _ (by omega) (by omega)).mono ?_
  rintro e w' ⟨rfl, rfl⟩
  go_wp2_with fail
  refine (numbersOf_c (n - 1) (boundI n T B) B _ (by have := boundI_in (n := n) (x := F) (b := B) hn.1; have := boundI_in (n := n) (x := T) (b := B) hn.1; omega) (by have := boundI_in (n := n) (x := F) (b := B) hn.1; have := boundI_in (n := n) (x := T) (b := B) hn.1; omega) (by have := boundI_in (n := n) (x := F) (b := B) hn.1; have := boundI_in (n := n) (x := T) (b := B) hn.1; omega) hs.2.2.2).mono ?_
  rintro e w1 ⟨fv4, rfl, i5, i5z, xw1⟩
  have Lw1 : Ext w w1 := Ext.trans qXt xw1
  have Xw1 : Ext w w1 := Lw1
  have b10 : w1.cell? ⟨w.heap.size, 0, none⟩ = some (.int .i64 F) := xw1.cell qCl
  have b11 : w1.cell? ⟨w.heap.size, 1, none⟩ = some (.int .i64 T) := xw1.cell qCl
  have b12 : w1.cell? ⟨w.heap.size, 2, none⟩ = some (.int .i64 B) := xw1.cell qCl
  have b13 : w1.cell? ⟨w.heap.size, 3, none⟩ = some (.bool false) := xw1.cell qCl
  have b14 : w1.cell? ⟨w.heap.size, 4, none⟩ = some (.bool true) := xw1.cell qCl
  have b20 : w1.cell? ⟨w.heap.size + 1, 0, none⟩ = some (.int .i64 (n - 1)) := xw1.cell qCl
  have b21 : w1.cell? ⟨w.heap.size + 1, 1, none⟩ = some (.int .i64 (boundI n T B)) := xw1.cell qCl
  have b22 : w1.cell? ⟨w.heap.size + 1, 2, none⟩ = some (.int .i64 B) := xw1.cell qCl
  have f_b20 : w1.frozen? ⟨w.heap.size + 1, 0, none⟩ = false := xw1.frz (by simp <;> omega) qFz
  have f_b21 : w1.frozen? ⟨w.heap.size + 1, 1, none⟩ = false := xw1.frz (by simp <;> omega) qFz
  have f_b22 : w1.frozen? ⟨w.heap.size + 1, 2, none⟩ = false := xw1.frz (by simp <;> omega) qFz
  have z_b1 : w.heap.size < w1.heap.size := qB b10
  have z_b2 : w.heap.size + 1 < w1.heap.size := qB b20
  have s_w1 : w.heap.size ≤ w1.heap.size := Xw1.size
  clear xw1
  try simp only [World.size_alloc, World.size_drew] at i5
  try simp only [World.size_alloc, World.size_drew] at i5z
  obtain ⟨afv4, cfv4, rfl⟩ := i5.form
  go_wp2_with fail
  go_ret
  rw [show idxS n F T B false true = numL (n - 1) (boundI n T B) B by (have k0 := hc3; unfold idxS fromI toI; simp only [reduceIte, Bool.false_eq_true] <;> (repeat' split) <;> first | rfl | (exfalso; omega))]
  exact ⟨_, rfl, i5.lower (by omega), i5z.lower (by omega), Xw1⟩
 ·
  go_wp2_with fail
  refine (endOf_c n T B _ (by omega) (by omega)).mono ?_
  rintro e w' ⟨rfl, rfl⟩
  go_wp2_with fail
  refine (numbersOf_c 0 (boundI n T B) B _ (by have := boundI_in (n := n) (x := F) (b := B) hn.1; have := boundI_in (n := n) (x := T) (b := B) hn.1; omega) (by have := boundI_in (n := n) (x := F) (b := B) hn.1; have := boundI_in (n := n) (x := T) (b := B) hn.1; omega) (by have := boundI_in (n := n) (x := F) (b := B) hn.1; have := boundI_in (n := n) (x := T) (b := B) hn.1; omega) hs.2.2.2).mono ?_
  rintro e w1 ⟨fv6, rfl, i7, i7z, xw1⟩
  have Lw1 : Ext w w1 := Ext.trans qXt xw1
  have Xw1 : Ext w w1 := Lw1
  have b10 : w1.cell? ⟨w.heap.size, 0, none⟩ = some (.int .i64 F) := xw1.cell qCl
  have b11 : w1.cell? ⟨w.heap.size, 1, none⟩ = some (.int .i64 T) := xw1.cell qCl
  have b12 : w1.cell? ⟨w.heap.size, 2, none⟩ = some (.int .i64 B) := xw1.cell qCl
  have b13 : w1.cell? ⟨w.heap.size, 3, none⟩ = some (.bool false) := xw1.cell qCl
  have b14 : w1.cell? ⟨w.heap.size, 4, none⟩ = some (.bool true) := xw1.cell qCl
  have b20 : w1.cell? ⟨w.heap.size + 1, 0, none⟩ = some (.int .i64 0) := xw1.cell qCl
  have b21 : w1.cell? ⟨w.heap.size + 1, 1, none⟩ = some (.int .i64 (boundI n T B)) := xw1.cell qCl
  have b22 : w1.cell? ⟨w.heap.size + 1, 2, none⟩ = some (.int .i64 B) := xw1.cell qCl
  have f_b20 : w1.frozen? ⟨w.heap.size + 1, 0, none⟩ = false := xw1.frz (by simp <;> omega) qFz
  have f_b21 : w1.frozen? ⟨w.heap.size + 1, 1, none⟩ = false := xw1.frz (by simp <;> omega) qFz
  have f_b22 : w1.frozen? ⟨w.heap.size + 1, 2, none⟩ = false := xw1.frz (by simp <;> omega) qFz
  have z_b1 : w.heap.size < w1.heap.size := qB b10
  have z_b2 : w.heap.size + 1 < w1.heap.size := qB b20
  have s_w1 : w.heap.size ≤ w1.heap.size := Xw1.size
  clear xw1
  try simp only [World.size_alloc, World.size_drew] at i7
  try simp only [World.size_alloc, World.size_drew] at i7z
  obtain ⟨afv6, cfv6, rfl⟩ := i7.form
  go_wp2_with fail
  go_ret
  rw [show idxS n F T B false true = numL 0 (boundI n T B) B by (have k0 := hc3; unfold idxS fromI toI; simp only [reduceIte, Bool.false_eq_true] <;> (repeat' split) <;> first | rfl | (exfalso; omega))]
  exact ⟨_, rfl, i7.lower (by omega), i7z.lower (by omega), Xw1⟩

set_option maxHeartbeats 1600000 in
theorem indicesOf_ff (n F T B : Int) (w : World) (hn : 0 ≤ n ∧ n ≤ 200) (hs : (-100 ≤ F ∧ F ≤ 100) ∧ (-100 ≤ T ∧ T ≤ 100) ∧ (-200 ≤ B ∧ B ≤ 200) ∧ B ≠ 0) :
  Calls Try.prog 110 #[.int .i64 n, .agg #[.int .i64 F, .int .i64 T, .int .i64 B, .bool false, .bool false]] w (PInts w (idxS n F T B false false)) := by
 go_enter Try.func110, Try.ntmps110
 by_cases hc3 : (B : Int) < (0 : Int)
 ·
  go_wp2_with fail
  refine (numbersOf_c (n - 1) (-1) B _ (by have := boundI_in (n := n) (x := F) (b := B) hn.1; have := boundI_in (n := n) (x := T) (b := B) hn.1; omega) (by have := boundI_in (n := n) (x := F) (b := B) hn.1; have := boundI_in (n := n) (x := T) (b := B) hn.1; omega) (by have := boundI_in (n := n) (x := F) (b := B) hn.1; have := boundI_in (n := n) (x := T) (b := B) hn.1; omega) hs.2.2.2).mono ?_
  rintro e w1 ⟨fv4, rfl, i5, i5z, xw1⟩
  have Lw1 : Ext w w1 := Ext.trans qXt xw1
  have Xw1 : Ext w w1 := Lw1
  have b10 : w1.cell? ⟨w.heap.size, 0, none⟩ = some (.int .i64 F) := xw1.cell qCl
  have b11 : w1.cell? ⟨w.heap.size, 1, none⟩ = some (.int .i64 T) := xw1.cell qCl
  have b12 : w1.cell? ⟨w.heap.size, 2, none⟩ = some (.int .i64 B) := xw1.cell qCl
  have b13 : w1.cell? ⟨w.heap.size, 3, none⟩ = some (.bool false) := xw1.cell qCl
  have b14 : w1.cell? ⟨w.heap.size, 4, none⟩ = some (.bool false) := xw1.cell qCl
  have b20 : w1.cell? ⟨w.heap.size + 1, 0, none⟩ = some (.int .i64 (n - 1)) := xw1.cell qCl
  have b21 : w1.cell? ⟨w.heap.size + 1, 1, none⟩ = some (.int .i64 (-1)) := xw1.cell qCl
  have b22 : w1.cell? ⟨w.heap.size + 1, 2, none⟩ = some (.int .i64 B) := xw1.cell qCl
  have f_b20 : w1.frozen? ⟨w.heap.size + 1, 0, none⟩ = false := xw1.frz (by simp <;> omega) qFz
  have f_b21 : w1.frozen? ⟨w.heap.size + 1, 1, none⟩ = false := xw1.frz (by simp <;> omega) qFz
  have f_b22 : w1.frozen? ⟨w.heap.size + 1, 2, none⟩ = false := xw1.frz (by simp <;> omega) qFz
  have z_b1 : w.heap.size < w1.heap.size := qB b10
  have z_b2 : w.heap.size + 1 < w1.heap.size := qB b20
  have s_w1 : w.heap.size ≤ w1.heap.size := Xw1.size
  clear xw1
  try simp only [World.size_alloc, World.size_drew] at i5
  try simp only [World.size_alloc, World.size_drew] at i5z
  obtain ⟨afv4, cfv4, rfl⟩ := i5.form
  go_wp2_with fail
  go_ret
  rw [show idxS n F T B false false = numL (n - 1) (-1) B by (have k0 := hc3; unfold idxS fromI toI; simp only [reduceIte, Bool.false_eq_true] <;> (repeat' split) <;> first | rfl | (exfalso; omega))]
  exact ⟨_, rfl, i5.lower (by omega), i5z.lower (by omega), Xw1⟩
 ·
  go_wp2_with fail
  refine (numbersOf_c 0 n B _ (by have := boundI_in (n := n) (x := F) (b := B) hn.1; have := boundI_in (n := n) (x := T) (b := B) hn.1; omega) (by have := boundI_in (n := n) (x := F) (b := B) hn.1; have := boundI_in (n := n) (x := T) (b := B) hn.1; omega) (by have := boundI_in (n := n) (x := F) (b := B) hn.1; have := boundI_in (n := n) (x := T) (b := B) hn.1; omega) hs.2.2.2).mono ?_
  rintro e w1 ⟨fv6, rfl, i7, i7z, xw1⟩
  have Lw1 : Ext w w1 := Ext.trans qXt xw1
  have Xw1 : Ext w w1 := Lw1
  have b10 : w1.cell? ⟨w.heap.size, 0, none⟩ = some (.int .i64 F) := xw1.cell qCl
  have b11 : w1.cell? ⟨w.heap.size, 1, none⟩ = some (.int .i64 T) := xw1.cell qCl
  have b12 : w1.cell? ⟨w.heap.size, 2, none⟩ = some (.int .i64 B) := xw1.cell qCl
  have b13 : w1.cell? ⟨w.heap.size, 3, none⟩ = some (.bool false) := xw1.cell qCl
  have b14 : w1.cell? ⟨w.heap.size, 4, none⟩ = some (.bool false) := xw1.cell qCl
  have b20 : w1.cell? ⟨w.heap.size + 1, 0, none⟩ = some (.int .i64 0) := xw1.cell qCl
  have b21 : w1.cell? ⟨w.heap.size + 1, 1, none⟩ = some (.int .i64 n) := xw1.cell qCl
  have b22 : w1.cell? ⟨w.heap.size + 1, 2, none⟩ = some (.int .i64 B) := xw1.cell qCl
  have f_b20 : w1.frozen? ⟨w.heap.size + 1, 0, none⟩ = false := xw1.frz (by simp <;> omega) qFz
  have f_b21 : w1.frozen? ⟨w.heap.size + 1, 1, none⟩ = false := xw1.frz (by simp <;> omega) qFz
  have f_b22 : w1.frozen? ⟨w.heap.size + 1, 2, none⟩ = false := xw1.frz (by simp <;> omega) qFz
  have z_b1 : w.heap.size < w1.heap.size := qB b10
  have z_b2 : w.heap.size + 1 < w1.heap.size := qB b20
  have s_w1 : w.heap.size ≤ w1.heap.size := Xw1.size
  clear xw1
  try simp only [World.size_alloc, World.size_drew] at i7
  try simp only [World.size_alloc, World.size_drew] at i7z
  obtain ⟨afv6, cfv6, rfl⟩ := i7.form
  go_wp2_with fail
  go_ret
  rw [show idxS n F T B false false = numL 0 n B by (have k0 := hc3; unfold idxS fromI toI; simp only [reduceIte, Bool.false_eq_true] <;> (repeat' split) <;> first | rfl | (exfalso; omega))]
  exact ⟨_, rfl, i7.lower (by omega), i7z.lower (by omega), Xw1⟩

set_option maxHeartbeats 1600000 in
theorem indicesOf_c (n F T B : Int) (hf ht : Bool) (w : World) (hn : 0 ≤ n ∧ n ≤ 200) (hsl : sliceB F T B hf ht = true) :
  Calls Try.prog 110 #[.int .i64 n, .agg #[.int .i64 F, .int .i64 T, .int .i64 B, .bool hf, .bool ht]] w (PInts w (idxS n F T B hf ht)) := by
 have hs := sliceB_in hsl
 cases hf <;> cases ht
 ·
  exact indicesOf_ff n F T B w hn hs
 ·
  exact indicesOf_ft n F T B w hn hs
 ·
  exact indicesOf_tf n F T B w hn hs
 ·
  exact indicesOf_tt n F T B w hn hs


end Go.Proofs.Ytonnnjaooifpjaa

/- Walks: MergeSlices of the program. -/
namespace Go.Proofs.Ytonnnjaooifpjaa
open Go.RowKit
set_option linter.unusedVariables false
set_option maxRecDepth 100000

theorem normalOf_e (xs : List Int) (v : Value) (w : World) (lo : Nat) (N1 N2 N3 : Int) (hv : Ints w lo v xs) (hb : ∀ x ∈ xs, -1000000 ≤ x ∧ x ≤ 1000000) (hN : Hid (normL xs = (N1, N2, N3))) :
  Calls Try.prog 111 #[v] w (fun e w' => e = .returned (.agg #[.int .i64 N1, .int .i64 N2, .int .i64 N3]) ∧ Ext w w') := by
 have h := normalOf_c xs v w lo hv hb
 rw [hN.out] at h
 exact h
/-- what MergeSlices returns for a progression with the normal form N1, N2, N3 -/
def PMg (N1 N2 N3 : Int) (w : World) (e : Ending) (w' : World) : Prop := e = .returned (.agg #[.int .i64 N1, .int .i64 (if N2 = -1 then 0 else N2), .int .i64 N3, .bool true, .bool (!decide (N2 = -1))]) ∧ Ext w w'
set_option maxHeartbeats 3200000 in
theorem implMergeSlices_c (n F1 T1 B1 : Int) (h1 g1 : Bool) (F2 T2 B2 : Int) (h2 g2 : Bool) (w : World) (L K X : List Int) (N1 N2 N3 : Int) (hn : inB 0 60 n = true) (hn2 : 0 ≤ n ∧ n ≤ 60) (hs1 : sliceB F1 T1 B1 h1 g1 = true) (hs2 : sliceB F2 T2 B2 h2 g2 = true) (hL : Hid (idxS n F1 T1 B1 h1 g1 = L)) (hK : Hid (idxS (L.length : Int) F2 T2 B2 h2 g2 = K)) (hX : Hid (takL L K = X)) (hl : L.length ≤ 60) (hin : Hid (∀ i ∈ K, 0 ≤ i ∧ i < L.length)) (hbb : Hid (∀ x ∈ X, -1000000 ≤ x ∧ x ≤ 1000000)) (hN : Hid (normL X = (N1, N2, N3))) :
  Calls Try.prog 50 #[.int .i64 n, .agg #[.int .i64 F1, .int .i64 T1, .int .i64 B1, .bool h1, .bool g1], .agg #[.int .i64 F2, .int .i64 T2, .int .i64 B2, .bool h2, .bool g2]] w (PMg N1 N2 N3 w) := by
 go_enter Try.func50, Try.ntmps50
 go_wp2_with fail
 refine (areCells_c n _).mono ?_
 rintro e w' ⟨rfl, rfl⟩
 rw [hn]
 go_wp2_with fail
 refine (isSlice_c F1 T1 B1 h1 g1 _).mono ?_
 rintro e w1 ⟨rfl, xw1⟩
 have Lw1 : Ext w w1 := Ext.trans qXt xw1
 have Xw1 : Ext w w1 := Lw1
 have b10 : w1.cell? ⟨w.heap.size, 0, none⟩ = some (.int .i64 F1) := xw1.cell qCl
 have b11 : w1.cell? ⟨w.heap.size, 1, none⟩ = some (.int .i64 T1) := xw1.cell qCl
 have b12 : w1.cell? ⟨w.heap.size, 2, none⟩ = some (.int .i64 B1) := xw1.cell qCl
 have b13 : w1.cell? ⟨w.heap.size, 3, none⟩ = some (.bool h1) := xw1.cell qCl
 have b14 : w1.cell? ⟨w.heap.size, 4, none⟩ = some (.bool g1) := xw1.cell qCl
 have b20 : w1.cell? ⟨w.heap.size + 1, 0, none⟩ = some (.int .i64 F2) := xw1.cell qCl
 have b21 : w1.cell? ⟨w.heap.size + 1, 1, none⟩ = some (.int .i64 T2) := xw1.cell qCl
 have b22 : w1.cell? ⟨w.heap.size + 1, 2, none⟩ = some (.int .i64 B2) := xw1.cell qCl
 have b23 : w1.cell? ⟨w.heap.size + 1, 3, none⟩ = some (.bool h2) := xw1.cell qCl
 have b24 : w1.cell? ⟨w.heap.size + 1, 4, none⟩ = some (.bool g2) := xw1.cell qCl
 have b30 : w1.cell? ⟨w.heap.size + 1 + 1, 0, none⟩ = some (.int .i64 0) := xw1.cell qCl
 have b31 : w1.cell? ⟨w.heap.size + 1 + 1, 1, none⟩ = some (.int .i64 0) := xw1.cell qCl
 have b32 : w1.cell? ⟨w.heap.size + 1 + 1, 2, none⟩ = some (.int .i64 0) := xw1.cell qCl
 have b33 : w1.cell? ⟨w.heap.size + 1 + 1, 3, none⟩ = some (.bool false) := xw1.cell qCl
 have b34 : w1.cell? ⟨w.heap.size + 1 + 1, 4, none⟩ = some (.bool false) := xw1.cell qCl
 have f_b30 : w1.frozen? ⟨w.heap.size + 1 + 1, 0, none⟩ = false := xw1.frz (by simp <;> omega) qFz
 have f_b31 : w1.frozen? ⟨w.heap.size + 1 + 1, 1, none⟩ = false := xw1.frz (by simp <;> omega) qFz
 have f_b32 : w1.frozen? ⟨w.heap.size + 1 + 1, 2, none⟩ = false := xw1.frz (by simp <;> omega) qFz
 have f_b33 : w1.frozen? ⟨w.heap.size + 1 + 1, 3, none⟩ = false := xw1.frz (by simp <;> omega) qFz
 have f_b34 : w1.frozen? ⟨w.heap.size + 1 + 1, 4, none⟩ = false := xw1.frz (by simp <;> omega) qFz
 have z_b1 : w.heap.size < w1.heap.size := qB b10
 have z_b2 : w.heap.size + 1 < w1.heap.size := qB b20
 have z_b3 : w.heap.size + 1 + 1 < w1.heap.size := qB b30
 have s_w1 : w.heap.size ≤ w1.heap.size := Xw1.size
 clear xw1
 rw [hs1]
 go_wp2_with fail
 refine (isSlice_c F2 T2 B2 h2 g2 _).mono ?_
 rintro e w2 ⟨rfl, xw2⟩
 have Lw2 : Ext w1 w2 := Ext.trans qXt xw2
 have Xw2 : Ext w w2 := Xw1.trans Lw2
 replace b10 := Lw2.cell b10
 replace b11 := Lw2.cell b11
 replace b12 := Lw2.cell b12
 replace b13 := Lw2.cell b13
 replace b14 := Lw2.cell b14
 replace b20 := Lw2.cell b20
 replace b21 := Lw2.cell b21
 replace b22 := Lw2.cell b22
 replace b23 := Lw2.cell b23
 replace b24 := Lw2.cell b24
 replace b30 := Lw2.cell b30
 replace b31 := Lw2.cell b31
 replace b32 := Lw2.cell b32
 replace b33 := Lw2.cell b33
 replace b34 := Lw2.cell b34
 replace f_b30 := Lw2.frz z_b3 f_b30
 replace f_b31 := Lw2.frz z_b3 f_b31
 replace f_b32 := Lw2.frz z_b3 f_b32
 replace f_b33 := Lw2.frz z_b3 f_b33
 replace f_b34 := Lw2.frz z_b3 f_b34
 have z_b1 : w.heap.size < w2.heap.size := qB b10
 have z_b2 : w.heap.size + 1 < w2.heap.size := qB b20
 have z_b3 : w.heap.size + 1 + 1 < w2.heap.size := qB b30
 have s_w2 : w.heap.size ≤ w2.heap.size := Xw2.size
 clear xw2
 rw [hs2]
 go_wp2_with fail
 refine (pi_eq hL.out (indicesOf_c n F1 T1 B1 h1 g1 _ (by omega) hs1)).mono ?_
 rintro e w3 ⟨fv4, rfl, i5, -, xw3⟩
 have Lw3 : Ext w2 w3 := Ext.trans qXt xw3
 have Xw3 : Ext w w3 := Xw2.trans Lw3
 replace b10 := Lw3.cell b10
 replace b11 := Lw3.cell b11
 replace b12 := Lw3.cell b12
 replace b13 := Lw3.cell b13
 replace b14 := Lw3.cell b14
 replace b20 := Lw3.cell b20
 replace b21 := Lw3.cell b21
 replace b22 := Lw3.cell b22
 replace b23 := Lw3.cell b23
 replace b24 := Lw3.cell b24
 replace b30 := Lw3.cell b30
 replace b31 := Lw3.cell b31
 replace b32 := Lw3.cell b32
 replace b33 := Lw3.cell b33
 replace b34 := Lw3.cell b34
 replace f_b30 := Lw3.frz z_b3 f_b30
 replace f_b31 := Lw3.frz z_b3 f_b31
 replace f_b32 := Lw3.frz z_b3 f_b32
 replace f_b33 := Lw3.frz z_b3 f_b33
 replace f_b34 := Lw3.frz z_b3 f_b34
 have z_b1 : w.heap.size < w3.heap.size := qB b10
 have z_b2 : w.heap.size + 1 < w3.heap.size := qB b20
 have z_b3 : w.heap.size + 1 + 1 < w3.heap.size := qB b30
 have s_w3 : w.heap.size ≤ w3.heap.size := Xw3.size
 clear xw3
 obtain ⟨afv4, cfv4, rfl⟩ := i5.form
 go_wp2_with fail
 refine (pi_eq hK.out (indicesOf_c (L.length : Int) F2 T2 B2 h2 g2 _ (by have := hl; omega) hs2)).mono ?_
 rintro e w4 ⟨fv6, rfl, i7, -, xw4⟩
 have Lw4 : Ext w3 w4 := Ext.trans qXt xw4
 have Xw4 : Ext w w4 := Xw3.trans Lw4
 replace b10 := Lw4.cell b10
 replace b11 := Lw4.cell b11
 replace b12 := Lw4.cell b12
 replace b13 := Lw4.cell b13
 replace b14 := Lw4.cell b14
 replace b20 := Lw4.cell b20
 replace b21 := Lw4.cell b21
 replace b22 := Lw4.cell b22
 replace b23 := Lw4.cell b23
 replace b24 := Lw4.cell b24
 replace b30 := Lw4.cell b30
 replace b31 := Lw4.cell b31
 replace b32 := Lw4.cell b32
 replace b33 := Lw4.cell b33
 replace b34 := Lw4.cell b34
 replace f_b30 := Lw4.frz z_b3 f_b30
 replace f_b31 := Lw4.frz z_b3 f_b31
 replace f_b32 := Lw4.frz z_b3 f_b32
 replace f_b33 := Lw4.frz z_b3 f_b33
 replace f_b34 := Lw4.frz z_b3 f_b34
 have z_b1 : w.heap.size < w4.heap.size := qB b10
 have z_b2 : w.heap.size + 1 < w4.heap.size := qB b20
 have z_b3 : w.heap.size + 1 + 1 < w4.heap.size := qB b30
 replace i5 := i5.ext Lw4
 have s_w4 : w.heap.size ≤ w4.heap.size := Xw4.size
 clear xw4
 obtain ⟨afv6, cfv6, rfl⟩ := i7.form
 go_wp2_with fail
 refine (pi_eq hX.out (takenOf_c L K (.slice afv4 L.length cfv4) (.slice afv6 K.length cfv6) _ _ _ (i5.ext qXt) (i7.ext qXt) hin.out)).mono ?_
 rintro e w5 ⟨fv8, rfl, i9, -, xw5⟩
 have Lw5 : Ext w4 w5 := Ext.trans qXt xw5
 have Xw5 : Ext w w5 := Xw4.trans Lw5
 replace b10 := Lw5.cell b10
 replace b11 := Lw5.cell b11
 replace b12 := Lw5.cell b12
 replace b13 := Lw5.cell b13
 replace b14 := Lw5.cell b14
 replace b20 := Lw5.cell b20
 replace b21 := Lw5.cell b21
 replace b22 := Lw5.cell b22
 replace b23 := Lw5.cell b23
 replace b24 := Lw5.cell b24
 replace b30 := Lw5.cell b30
 replace b31 := Lw5.cell b31
 replace b32 := Lw5.cell b32
 replace b33 := Lw5.cell b33
 replace b34 := Lw5.cell b34
 replace f_b30 := Lw5.frz z_b3 f_b30
 replace f_b31 := Lw5.frz z_b3 f_b31
 replace f_b32 := Lw5.frz z_b3 f_b32
 replace f_b33 := Lw5.frz z_b3 f_b33
 replace f_b34 := Lw5.frz z_b3 f_b34
 have z_b1 : w.heap.size < w5.heap.size := qB b10
 have z_b2 : w.heap.size + 1 < w5.heap.size := qB b20
 have z_b3 : w.heap.size + 1 + 1 < w5.heap.size := qB b30
 replace i5 := i5.ext Lw5
 replace i7 := i7.ext Lw5
 have s_w5 : w.heap.size ≤ w5.heap.size := Xw5.size
 clear xw5
 obtain ⟨afv8, cfv8, rfl⟩ := i9.form
 go_wp2_with fail
 refine (normalOf_e X _ _ _ N1 N2 N3 (i9.ext qXt) hbb.out hN).mono ?_
 rintro e w6 ⟨rfl, xw6⟩
 have Lw6 : Ext w5 w6 := Ext.trans qXt xw6
 have Xw6 : Ext w w6 := Xw5.trans Lw6
 replace b10 := Lw6.cell b10
 replace b11 := Lw6.cell b11
 replace b12 := Lw6.cell b12
 replace b13 := Lw6.cell b13
 replace b14 := Lw6.cell b14
 replace b20 := Lw6.cell b20
 replace b21 := Lw6.cell b21
 replace b22 := Lw6.cell b22
 replace b23 := Lw6.cell b23
 replace b24 := Lw6.cell b24
 replace b30 := Lw6.cell b30
 replace b31 := Lw6.cell b31
 replace b32 := Lw6.cell b32
 replace b33 := Lw6.cell b33
 replace b34 := Lw6.cell b34
 replace f_b30 := Lw6.frz z_b3 f_b30
 replace f_b31 := Lw6.frz z_b3 f_b31
 replace f_b32 := Lw6.frz z_b3 f_b32
 replace f_b33 := Lw6.frz z_b3 f_b33
 replace f_b34 := Lw6.frz z_b3 f_b34
 have z_b1 : w.heap.size < w6.heap.size := qB b10
 have z_b2 : w.heap.size + 1 < w6.heap.size := qB b20
 have z_b3 : w.heap.size + 1 + 1 < w6.heap.size := qB b30
 replace i5 := i5.ext Lw6
 replace i7 := i7.ext Lw6
 replace i9 := i9.ext Lw6
 have s_w6 : w.heap.size ≤ w6.heap.size := Xw6.size
 clear xw6
 go_upto_region 5 with fail
 generalize hW1 : w6.alloc (.cells #[.int .i64 N1, .int .i64 N2, .int .i64 N3] 88) = w7 at *
 have Lw7 : Ext w6 w7 := by subst hW1; exact qXt
 have Xw7 : Ext w w7 := Xw6.trans Lw7
 replace b10 := Lw7.cell b10
 replace b11 := Lw7.cell b11
 replace b12 := Lw7.cell b12
 replace b13 := Lw7.cell b13
 replace b14 := Lw7.cell b14
 replace b20 := Lw7.cell b20
 replace b21 := Lw7.cell b21
 replace b22 := Lw7.cell b22
 replace b23 := Lw7.cell b23
 replace b24 := Lw7.cell b24
 replace b30 := Lw7.cell b30
 replace b31 := Lw7.cell b31
 replace b32 := Lw7.cell b32
 replace b33 := Lw7.cell b33
 replace b34 := Lw7.cell b34
 replace f_b30 := Lw7.frz z_b3 f_b30
 replace f_b31 := Lw7.frz z_b3 f_b31
 replace f_b32 := Lw7.frz z_b3 f_b32
 replace f_b33 := Lw7.frz z_b3 f_b33
 replace f_b34 := Lw7.frz z_b3 f_b34
 have b100 : w7.cell? ⟨w6.heap.size, 0, none⟩ = some (.int .i64 N1) := by subst hW1; exact qCl
 have b101 : w7.cell? ⟨w6.heap.size, 1, none⟩ = some (.int .i64 N2) := by subst hW1; exact qCl
 have b102 : w7.cell? ⟨w6.heap.size, 2, none⟩ = some (.int .i64 N3) := by subst hW1; exact qCl
 have z_b1 : w.heap.size < w7.heap.size := qB b10
 have z_b2 : w.heap.size + 1 < w7.heap.size := qB b20
 have z_b3 : w.heap.size + 1 + 1 < w7.heap.size := qB b30
 have z_b10 : w6.heap.size < w7.heap.size := qB b100
 replace i5 := i5.ext Lw7
 replace i7 := i7.ext Lw7
 replace i9 := i9.ext Lw7
 have s_w7 : w.heap.size ≤ w7.heap.size := Xw7.size
 clear hW1
 have Q11_b10 := Lib.hid b10
 have Q11_b11 := Lib.hid b11
 have Q11_b12 := Lib.hid b12
 have Q11_b13 := Lib.hid b13
 have Q11_b14 := Lib.hid b14
 have Q11_zb1 := z_b1
 have Q11_b20 := Lib.hid b20
 have Q11_b21 := Lib.hid b21
 have Q11_b22 := Lib.hid b22
 have Q11_b23 := Lib.hid b23
 have Q11_b24 := Lib.hid b24
 have Q11_zb2 := z_b2
 have Q11_b30 := Lib.hid b30
 have Q11_f_b30 := Lib.hid f_b30
 have Q11_b31 := Lib.hid b31
 have Q11_f_b31 := Lib.hid f_b31
 have Q11_b32 := Lib.hid b32
 have Q11_f_b32 := Lib.hid f_b32
 have Q11_b33 := Lib.hid b33
 have Q11_f_b33 := Lib.hid f_b33
 have Q11_b34 := Lib.hid b34
 have Q11_f_b34 := Lib.hid f_b34
 have Q11_zb3 := z_b3
 have Q11_b100 := Lib.hid b100
 have Q11_b101 := Lib.hid b101
 have Q11_b102 := Lib.hid b102
 have Q11_zb10 := z_b10
 have Q11_i5 := Lib.hid i5
 have Q11_i7 := Lib.hid i7
 have Q11_i9 := Lib.hid i9
 have BL12 : Ext w7 w7 := Ext.refl _
 go_upto_region 6 with fail
 generalize hW2 : w7.alloc (.cells #[.int .i64 N1, .int .i64 N2, .int .i64 N3, .bool true, .bool true] 54) = w8 at *
 have Lw8 : Ext w7 w8 := by subst hW2; exact qXt
 have Xw8 : Ext w w8 := Xw7.trans Lw8
 replace b10 := Lw8.cell b10
 replace b11 := Lw8.cell b11
 replace b12 := Lw8.cell b12
 replace b13 := Lw8.cell b13
 replace b14 := Lw8.cell b14
 replace b20 := Lw8.cell b20
 replace b21 := Lw8.cell b21
 replace b22 := Lw8.cell b22
 replace b23 := Lw8.cell b23
 replace b24 := Lw8.cell b24
 replace b30 := Lw8.cell b30
 replace b31 := Lw8.cell b31
 replace b32 := Lw8.cell b32
 replace b33 := Lw8.cell b33
 replace b34 := Lw8.cell b34
 replace f_b30 := Lw8.frz z_b3 f_b30
 replace f_b31 := Lw8.frz z_b3 f_b31
 replace f_b32 := Lw8.frz z_b3 f_b32
 replace f_b33 := Lw8.frz z_b3 f_b33
 replace f_b34 := Lw8.frz z_b3 f_b34
 replace b100 := Lw8.cell b100
 replace b101 := Lw8.cell b101
 replace b102 := Lw8.cell b102
 have b130 : w8.cell? ⟨w7.heap.size, 0, none⟩ = some (.int .i64 N1) := by subst hW2; exact qCl
 have b131 : w8.cell? ⟨w7.heap.size, 1, none⟩ = some (.int .i64 N2) := by subst hW2; exact qCl
 have b132 : w8.cell? ⟨w7.heap.size, 2, none⟩ = some (.int .i64 N3) := by subst hW2; exact qCl
 have b133 : w8.cell? ⟨w7.heap.size, 3, none⟩ = some (.bool true) := by subst hW2; exact qCl
 have b134 : w8.cell? ⟨w7.heap.size, 4, none⟩ = some (.bool true) := by subst hW2; exact qCl
 have f_b130 : w8.frozen? ⟨w7.heap.size, 0, none⟩ = false := by subst hW2; exact qFz
 have f_b131 : w8.frozen? ⟨w7.heap.size, 1, none⟩ = false := by subst hW2; exact qFz
 have f_b132 : w8.frozen? ⟨w7.heap.size, 2, none⟩ = false := by subst hW2; exact qFz
 have f_b133 : w8.frozen? ⟨w7.heap.size, 3, none⟩ = false := by subst hW2; exact qFz
 have f_b134 : w8.frozen? ⟨w7.heap.size, 4, none⟩ = false := by subst hW2; exact qFz
 have z_b1 : w.heap.size < w8.heap.size := qB b10
 have z_b2 : w.heap.size + 1 < w8.heap.size := qB b20
 have z_b3 : w.heap.size + 1 + 1 < w8.heap.size := qB b30
 have z_b10 : w6.heap.size < w8.heap.size := qB b100
 have z_b13 : w7.heap.size < w8.heap.size := qB b130
 replace i5 := i5.ext Lw8
 replace i7 := i7.ext Lw8
 replace i9 := i9.ext Lw8
 have s_w8 : w.heap.size ≤ w8.heap.size := Xw8.size
 have BL12_w8 : Ext w7 w8 := BL12.trans Lw8
 clear hW2
 by_cases hc14 : (N2 : Int) = (-1 : Int)
 ·
  have hc14e : ((N2 : Int) == (-1 : Int)) = true := by simpa using hc14
  have hc14n : ((N2 : Int) != (-1 : Int)) = false := by simpa using hc14
  replace hc14 := Lib.hid hc14
  go_upto_region 9 with fail
  generalize hW3 : ((w8.setCell ⟨w7.heap.size, 1, none⟩ (.int .i64 0)).setCell ⟨w7.heap.size, 4, none⟩ (.bool false)) = w9 at *
  have Kw9 : Chg (w7.heap.size) (w7.heap.size + 1) w8 w9 := by subst hW3; exact qCh
  have Xw9 : Ext w w9 := by subst hW3; exact qXt
  have BL12_w9 : Ext w7 w9 := by subst hW3; exact qXt
  replace b10 := BL12_w9.cell Q11_b10.out
  replace b11 := BL12_w9.cell Q11_b11.out
  replace b12 := BL12_w9.cell Q11_b12.out
  replace b13 := BL12_w9.cell Q11_b13.out
  replace b14 := BL12_w9.cell Q11_b14.out
  replace b20 := BL12_w9.cell Q11_b20.out
  replace b21 := BL12_w9.cell Q11_b21.out
  replace b22 := BL12_w9.cell Q11_b22.out
  replace b23 := BL12_w9.cell Q11_b23.out
  replace b24 := BL12_w9.cell Q11_b24.out
  replace b30 := BL12_w9.cell Q11_b30.out
  replace f_b30 := BL12_w9.frz Q11_zb3 Q11_f_b30.out
  replace b31 := BL12_w9.cell Q11_b31.out
  replace f_b31 := BL12_w9.frz Q11_zb3 Q11_f_b31.out
  replace b32 := BL12_w9.cell Q11_b32.out
  replace f_b32 := BL12_w9.frz Q11_zb3 Q11_f_b32.out
  replace b33 := BL12_w9.cell Q11_b33.out
  replace f_b33 := BL12_w9.frz Q11_zb3 Q11_f_b33.out
  replace b34 := BL12_w9.cell Q11_b34.out
  replace f_b34 := BL12_w9.frz Q11_zb3 Q11_f_b34.out
  replace b100 := BL12_w9.cell Q11_b100.out
  replace b101 := BL12_w9.cell Q11_b101.out
  replace b102 := BL12_w9.cell Q11_b102.out
  replace b130 : w9.cell? ⟨w7.heap.size, 0, none⟩ = some (.int .i64 N1) := by subst hW3; go_simp
  replace f_b130 : w9.frozen? ⟨w7.heap.size, 0, none⟩ = false := by subst hW3; first | (simp only [World.frozen?_setCell]; with_reducible assumption) | go_simp
  replace b131 : w9.cell? ⟨w7.heap.size, 1, none⟩ = some (.int .i64 0) := by subst hW3; go_simp
  replace f_b131 : w9.frozen? ⟨w7.heap.size, 1, none⟩ = false := by subst hW3; first | (simp only [World.frozen?_setCell]; with_reducible assumption) | go_simp
  replace b132 : w9.cell? ⟨w7.heap.size, 2, none⟩ = some (.int .i64 N3) := by subst hW3; go_simp
  replace f_b132 : w9.frozen? ⟨w7.heap.size, 2, none⟩ = false := by subst hW3; first | (simp only [World.frozen?_setCell]; with_reducible assumption) | go_simp
  replace b133 : w9.cell? ⟨w7.heap.size, 3, none⟩ = some (.bool true) := by subst hW3; go_simp
  replace f_b133 : w9.frozen? ⟨w7.heap.size, 3, none⟩ = false := by subst hW3; first | (simp only [World.frozen?_setCell]; with_reducible assumption) | go_simp
  replace b134 : w9.cell? ⟨w7.heap.size, 4, none⟩ = some (.bool false) := by subst hW3; go_simp
  replace f_b134 : w9.frozen? ⟨w7.heap.size, 4, none⟩ = false := by subst hW3; first | (simp only [World.frozen?_setCell]; with_reducible assumption) | go_simp
  replace i5 := (Q11_i5.out).ext BL12_w9
  replace i7 := (Q11_i7.out).ext BL12_w9
  replace i9 := (Q11_i9.out).ext BL12_w9
  clear Kw9
  have z_b1 : w.heap.size < w9.heap.size := qB b10
  have z_b2 : w.heap.size + 1 < w9.heap.size := qB b20
  have z_b3 : w.heap.size + 1 + 1 < w9.heap.size := qB b30
  have z_b10 : w6.heap.size < w9.heap.size := qB b100
  have z_b13 : w7.heap.size < w9.heap.size := qB b130
  have s_w9 : w.heap.size ≤ w9.heap.size := Xw9.size
  clear hW3
  go_wp2_with fail
  generalize hW4 : (((((w9.setCell ⟨w.heap.size + 1 + 1, 0, none⟩ (.int .i64 N1)).setCell ⟨w.heap.size + 1 + 1, 1, none⟩ (.int .i64 0)).setCell ⟨w.heap.size + 1 + 1, 2, none⟩ (.int .i64 N3)).setCell ⟨w.heap.size + 1 + 1, 3, none⟩ (.bool true)).setCell ⟨w.heap.size + 1 + 1, 4, none⟩ (.bool false)) = w10 at *
  have Kw10 : Chg (w.heap.size + 1 + 1) (w.heap.size + 1 + 1 + 1) w9 w10 := by subst hW4; exact qCh
  have Xw10 : Ext w w10 := by subst hW4; exact qXt
  replace b10 := Kw10.cell (by omega) b10
  replace b11 := Kw10.cell (by omega) b11
  replace b12 := Kw10.cell (by omega) b12
  replace b13 := Kw10.cell (by omega) b13
  replace b14 := Kw10.cell (by omega) b14
  replace b20 := Kw10.cell (by omega) b20
  replace b21 := Kw10.cell (by omega) b21
  replace b22 := Kw10.cell (by omega) b22
  replace b23 := Kw10.cell (by omega) b23
  replace b24 := Kw10.cell (by omega) b24
  replace b30 : w10.cell? ⟨w.heap.size + 1 + 1, 0, none⟩ = some (.int .i64 N1) := by subst hW4; go_simp
  replace f_b30 : w10.frozen? ⟨w.heap.size + 1 + 1, 0, none⟩ = false := by subst hW4; first | (simp only [World.frozen?_setCell]; with_reducible assumption) | go_simp
  replace b31 : w10.cell? ⟨w.heap.size + 1 + 1, 1, none⟩ = some (.int .i64 0) := by subst hW4; go_simp
  replace f_b31 : w10.frozen? ⟨w.heap.size + 1 + 1, 1, none⟩ = false := by subst hW4; first | (simp only [World.frozen?_setCell]; with_reducible assumption) | go_simp
  replace b32 : w10.cell? ⟨w.heap.size + 1 + 1, 2, none⟩ = some (.int .i64 N3) := by subst hW4; go_simp
  replace f_b32 : w10.frozen? ⟨w.heap.size + 1 + 1, 2, none⟩ = false := by subst hW4; first | (simp only [World.frozen?_setCell]; with_reducible assumption) | go_simp
  replace b33 : w10.cell? ⟨w.heap.size + 1 + 1, 3, none⟩ = some (.bool true) := by subst hW4; go_simp
  replace f_b33 : w10.frozen? ⟨w.heap.size + 1 + 1, 3, none⟩ = false := by subst hW4; first | (simp only [World.frozen?_setCell]; with_reducible assumption) | go_simp
  replace b34 : w10.cell? ⟨w.heap.size + 1 + 1, 4, none⟩ = some (.bool false) := by subst hW4; go_simp
  replace f_b34 : w10.frozen? ⟨w.heap.size + 1 + 1, 4, none⟩ = false := by subst hW4; first | (simp only [World.frozen?_setCell]; with_reducible assumption) | go_simp
  replace b100 := Kw10.cell (by omega) b100
  replace b101 := Kw10.cell (by omega) b101
  replace b102 := Kw10.cell (by omega) b102
  replace b130 := Kw10.cell (by omega) b130
  replace f_b130 := Kw10.frzO (by omega) z_b13 f_b130
  replace b131 := Kw10.cell (by omega) b131
  replace f_b131 := Kw10.frzO (by omega) z_b13 f_b131
  replace b132 := Kw10.cell (by omega) b132
  replace f_b132 := Kw10.frzO (by omega) z_b13 f_b132
  replace b133 := Kw10.cell (by omega) b133
  replace f_b133 := Kw10.frzO (by omega) z_b13 f_b133
  replace b134 := Kw10.cell (by omega) b134
  replace f_b134 := Kw10.frzO (by omega) z_b13 f_b134
  replace i5 := i5.chg Kw10 (by omega)
  replace i7 := i7.chg Kw10 (by omega)
  replace i9 := i9.chg Kw10 (by omega)
  clear Kw10
  have z_b1 : w.heap.size < w10.heap.size := qB b10
  have z_b2 : w.heap.size + 1 < w10.heap.size := qB b20
  have z_b3 : w.heap.size + 1 + 1 < w10.heap.size := qB b30
  have z_b10 : w6.heap.size < w10.heap.size := qB b100
  have z_b13 : w7.heap.size < w10.heap.size := qB b130
  have s_w10 : w.heap.size ≤ w10.heap.size := Xw10.size
  clear hW4
  refine bodyPost_ret (v := .agg #[.int .i64 N1, .int .i64 0, .int .i64 N3, .bool true, .bool false]) (by simp only [results, Try.results50]; go_simp) rfl ?_
  refine ⟨?_, (Xw10.trans qXt)⟩
  have h7 := hc14.out
  rw [if_pos h7]; simp [h7]
 ·
  have hc14e : ((N2 : Int) == (-1 : Int)) = false := by simpa using hc14
  have hc14n : ((N2 : Int) != (-1 : Int)) = true := by simpa using hc14
  replace hc14 := Lib.hid hc14
  go_wp2_with fail
  generalize hW5 : (((((w8.setCell ⟨w.heap.size + 1 + 1, 0, none⟩ (.int .i64 N1)).setCell ⟨w.heap.size + 1 + 1, 1, none⟩ (.int .i64 N2)).setCell ⟨w.heap.size + 1 + 1, 2, none⟩ (.int .i64 N3)).setCell ⟨w.heap.size + 1 + 1, 3, none⟩ (.bool true)).setCell ⟨w.heap.size + 1 + 1, 4, none⟩ (.bool true)) = w9 at *
  have Kw9 : Chg (w.heap.size + 1 + 1) (w.heap.size + 1 + 1 + 1) w8 w9 := by subst hW5; exact qCh
  have Xw9 : Ext w w9 := by subst hW5; exact qXt
  replace b10 := Kw9.cell (by omega) b10
  replace b11 := Kw9.cell (by omega) b11
  replace b12 := Kw9.cell (by omega) b12
  replace b13 := Kw9.cell (by omega) b13
  replace b14 := Kw9.cell (by omega) b14
  replace b20 := Kw9.cell (by omega) b20
  replace b21 := Kw9.cell (by omega) b21
  replace b22 := Kw9.cell (by omega) b22
  replace b23 := Kw9.cell (by omega) b23
  replace b24 := Kw9.cell (by omega) b24
  replace b30 : w9.cell? ⟨w.heap.size + 1 + 1, 0, none⟩ = some (.int .i64 N1) := by subst hW5; go_simp
  replace f_b30 : w9.frozen? ⟨w.heap.size + 1 + 1, 0, none⟩ = false := by subst hW5; first | (simp only [World.frozen?_setCell]; with_reducible assumption) | go_simp
  replace b31 : w9.cell? ⟨w.heap.size + 1 + 1, 1, none⟩ = some (.int .i64 N2) := by subst hW5; go_simp
  replace f_b31 : w9.frozen? ⟨w.heap.size + 1 + 1, 1, none⟩ = false := by subst hW5; first | (simp only [World.frozen?_setCell]; with_reducible assumption) | go_simp
  replace b32 : w9.cell? ⟨w.heap.size + 1 + 1, 2, none⟩ = some (.int .i64 N3) := by subst hW5; go_simp
  replace f_b32 : w9.frozen? ⟨w.heap.size + 1 + 1, 2, none⟩ = false := by subst hW5; first | (simp only [World.frozen?_setCell]; with_reducible assumption) | go_simp
  replace b33 : w9.cell? ⟨w.heap.size + 1 + 1, 3, none⟩ = some (.bool true) := by subst hW5; go_simp
  replace f_b33 : w9.frozen? ⟨w.heap.size + 1 + 1, 3, none⟩ = false := by subst hW5; first | (simp only [World.frozen?_setCell]; with_reducible assumption) | go_simp
  replace b34 : w9.cell? ⟨w.heap.size + 1 + 1, 4, none⟩ = some (.bool true) := by subst hW5; go_simp
  replace f_b34 : w9.frozen? ⟨w.heap.size + 1 + 1, 4, none⟩ = false := by subst hW5; first | (simp only [World.frozen?_setCell]; with_reducible assumption) | go_simp
  replace b100 := Kw9.cell (by omega) b100
  replace b101 := Kw9.cell (by omega) b101
  replace b102 := Kw9.cell (by omega) b102
  replace b130 := Kw9.cell (by omega) b130
  replace f_b130 := Kw9.frzO (by omega) z_b13 f_b130
  replace b131 := Kw9.cell (by omega) b131
  replace f_b131 := Kw9.frzO (by omega) z_b13 f_b131
  replace b132 := Kw9.cell (by omega) b132
  replace f_b132 := Kw9.frzO (by omega) z_b13 f_b132
  replace b133 := Kw9.cell (by omega) b133
  replace f_b133 := Kw9.frzO (by omega) z_b13 f_b133
  replace b134 := Kw9.cell (by omega) b134
  replace f_b134 := Kw9.frzO (by omega) z_b13 f_b134
  replace i5 := i5.chg Kw9 (by omega)
  replace i7 := i7.chg Kw9 (by omega)
  replace i9 := i9.chg Kw9 (by omega)
  clear Kw9
  have z_b1 : w.heap.size < w9.heap.size := qB b10
  have z_b2 : w.heap.size + 1 < w9.heap.size := qB b20
  have z_b3 : w.heap.size + 1 + 1 < w9.heap.size := qB b30
  have z_b10 : w6.heap.size < w9.heap.size := qB b100
  have z_b13 : w7.heap.size < w9.heap.size := qB b130
  have s_w9 : w.heap.size ≤ w9.heap.size := Xw9.size
  clear hW5
  refine bodyPost_ret (v := .agg #[.int .i64 N1, .int .i64 N2, .int .i64 N3, .bool true, .bool true]) (by simp only [results, Try.results50]; go_simp) rfl ?_
  refine ⟨?_, (Xw9.trans qXt)⟩
  have h7 := hc14.out
  rw [if_neg h7]; simp [h7]

theorem implMergeSlices_e (n F1 T1 B1 : Int) (h1 g1 : Bool) (F2 T2 B2 : Int) (h2 g2 : Bool) (L K X : List Int) (N1 N2 N3 M2 : Int) (g : Bool) (w : World) (hn : inB 0 60 n = true) (hn2 : 0 ≤ n ∧ n ≤ 60) (hs1 : sliceB F1 T1 B1 h1 g1 = true) (hs2 : sliceB F2 T2 B2 h2 g2 = true) (hL : Hid (idxS n F1 T1 B1 h1 g1 = L)) (hK : Hid (idxS (L.length : Int) F2 T2 B2 h2 g2 = K)) (hX : Hid (takL L K = X)) (hl : L.length ≤ 60) (hin : Hid (∀ i ∈ K, 0 ≤ i ∧ i < L.length)) (hbb : Hid (∀ x ∈ X, -1000000 ≤ x ∧ x ≤ 1000000)) (hN : Hid (normL X = (N1, N2, N3))) (hM : Hid ((if N2 = -1 then 0 else N2) = M2)) (hg : Hid ((!decide (N2 = -1)) = g)) :
  Calls Try.prog 50 #[.int .i64 n, .agg #[.int .i64 F1, .int .i64 T1, .int .i64 B1, .bool h1, .bool g1], .agg #[.int .i64 F2, .int .i64 T2, .int .i64 B2, .bool h2, .bool g2]] w (fun e w' => e = .returned (.agg #[.int .i64 N1, .int .i64 M2, .int .i64 N3, .bool true, .bool g]) ∧ Ext w w') := by
 have h := implMergeSlices_c n F1 T1 B1 h1 g1 F2 T2 B2 h2 g2 w L K X N1 N2 N3 hn hn2 hs1 hs2 hL hK hX hl hin hbb hN
 unfold PMg at h
 rw [hM.out, hg.out] at h
 exact h

end Go.Proofs.Ytonnnjaooifpjaa

/- Plain laws: what a slice takes of a dimension, as the program reckons it. -/
namespace Go.Proofs.Ytonnnjaooifpjaa
open Go.RowKit
set_option linter.unusedVariables false
set_option maxRecDepth 100000

theorem numL_one {a b s : Int} (hn : cntL a b s = 1) : numL a b s = [a] := by unfold numL; rw [hn]; simp
theorem slice_first {a b q : Int} {L : List Int} (hq : q ≠ 0) (hL : numL a b q = L) : (L.length ≠ 0 → (normL L).1 = L.getD 0 0) ∧ (2 ≤ L.length → (normL L).2.2 = L.getD 1 0 - L.getD 0 0) := by
  subst hL
  have h := norm_two (a := a) (b := b) hq
  rw [numL_len] at h ⊢
  refine ⟨fun hn => ?_, fun hn => ?_⟩
  · rw [h.1 hn]
    match hc : cntL a b q with
    | 0 => exact absurd hc hn
    | 1 => rw [numL_one hc]; rfl
    | m + 2 => rw [numL_two hc]; rfl
  · rw [h.2.2 hn]
    match hc : cntL a b q with
    | 0 => omega
    | 1 => omega
    | m + 2 => rw [numL_two hc]; simp; omega
theorem count_zero_mem {xs : List Int} (hs : Small xs) (h : (0 : Int) ∈ xs) : countL xs = 0 := by
  have hc := hs.count
  by_cases h0 : countL xs = 0
  · exact h0
  · have := hc.2.2.2 (by omega) 0 h; omega
/-- base and strides that the program reckons, ahead of 'cleared' -/
theorem cut_prog {b : Int} {s t : List Int} {d : Nat} {a e q x : Int} {L : List Int} (hs : Small s) (hd : d < s.length) (hq : q ≠ 0) (hL : numL a e q = L) (hx : t.getD d 0 = x) :
    (∀ B : Int, (L.length = 0 ∨ B = b + x * L.getD 0 0) → cutB b s t d L = tidyB B (s.set d L.length)) ∧
    (∀ X : Int, (if 2 ≤ L.length then X = x * (L.getD 1 0 - L.getD 0 0) else X = 0) → cutT s t d L = tidyT (s.set d L.length) (t.set d X)) := by
  obtain ⟨h1, h2⟩ := slice_first hq hL
  have hz : L.length = 0 → countL (s.set d L.length) = 0 := fun h => by
    rw [h]
    exact count_zero_mem (small_set hs d (by omega)) (List.mem_iff_getElem.2 ⟨d, by simpa using hd, by simp⟩)
  refine ⟨fun B hB => ?_, fun X hX => ?_⟩
  · unfold cutB tidyB
    split
    · rfl
    · rename_i hc
      by_cases hl : L.length = 0
      · exact absurd (hz hl) hc
      · rcases hB with hB | hB
        · exact absurd hB hl
        · rw [hx, hB, h1 hl, Int.mul_comm]
  · unfold cutT
    congr 2
    by_cases hl : 2 ≤ L.length
    · rw [if_neg (by omega), hx, h2 hl]; rw [if_pos hl] at hX; rw [hX, Int.mul_comm]
    · rw [if_pos (by omega)]; rw [if_neg hl] at hX; exact hX.symm
end Go.Proofs.Ytonnnjaooifpjaa

/- Walks: sliceDim of the program. -/
namespace Go.Proofs.Ytonnnjaooifpjaa
open Go.RowKit
set_option linter.unusedVariables false
set_option maxRecDepth 100000


theorem mul_bd2s {x y : Int} (h1 : -60 ≤ x) (h2 : x ≤ 60) (h3 : -60 ≤ y) (h4 : y ≤ 60) : -3600 ≤ x * y ∧ x * y ≤ 3600 := by
 by_cases h : 0 ≤ y
 ·
  have := mul_bd (x := y) (t := x) h h4 (show (0 : Int) ≤ 60 by omega) h1 h2
  rw [Int.mul_comm y x] at this; omega
 ·
  have := mul_bd (x := -y) (t := x) (by omega) (by omega) (show (0 : Int) ≤ 60 by omega) h1 h2
  rw [Int.neg_mul, Int.mul_comm y x] at this; omega

set_option maxHeartbeats 6400000 in
theorem sliceDim_c (b1 : Int) (u1 v1 : Value) (s1 t1 : List Int) (D : Nat) (F T B : Int) (hf ht : Bool) (w : World) (l1 m1 : Nat) (h1 : Ints w l1 u1 s1) (k1 : Ints w m1 v1 t1) (hvv : viewB b1 s1 t1 = true) (hDN : D < s1.length) (hsl : sliceB F T B hf ht = true) :
  Calls Try.prog 104 #[.agg #[.int .i64 b1, u1, v1], .int .i64 (D : Int), .agg #[.int .i64 F, .int .i64 T, .int .i64 B, .bool hf, .bool ht]] w (PVW w (cutB b1 s1 t1 D (idxS (s1.getD D 0) F T B hf ht)) (cutS s1 D (idxS (s1.getD D 0) F T B hf ht)) (cutT s1 t1 D (idxS (s1.getD D 0) F T B hf ht))) := by
 obtain ⟨p0, c0, rfl⟩ := h1.form
 obtain ⟨p1, c1, rfl⟩ := k1.form
 obtain ⟨-, hts, -, ht60, -⟩ := viewB_in hvv
 have hsm := view_small hvv
 have hs60 := Lib.hid hsm.2
 have hs4 := hsm.1
 have hDT : D < t1.length := by omega
 have ht4 : t1.length ≤ 4 := by omega
 have hb60 := (viewB_in hvv).2.2.1
 have hne1 : s1 ≠ [] := fun h => by rw [h] at hDN; simp at hDN
 have hne2 : t1 ≠ [] := fun h => by rw [h] at hDT; simp at hDT
 have hx1 : Hid (t1.getD D 0 = t1.getD D 0) := Lib.hid rfl
 replace hne1 := Lib.hid hne1
 replace hne2 := Lib.hid hne2
 replace hsm := Lib.hid hsm
 replace hts := Lib.hid hts
 replace ht60 := Lib.hid ht60
 replace hvv := Lib.hid hvv
 replace hsl := Lib.hid hsl
 go_enter Try.func104, Try.ntmps104
 go_wp2_with fail
 generalize hW1 : ((w.alloc (.cells #[.int .i64 b1, .slice p0 s1.length c0, .slice p1 t1.length c1] 25)).alloc (.cells #[.int .i64 F, .int .i64 T, .int .i64 B, .bool hf, .bool ht] 54)).alloc (.cells #[.int .i64 0, .slice none 0 0, .slice none 0 0] 25) = w1 at *
 have Lw1 : Ext w w1 := by subst hW1; exact qXt
 have Xw1 : Ext w w1 := by subst hW1; exact Lw1
 have b10 : w1.cell? ⟨w.heap.size, 0, none⟩ = some (.int .i64 b1) := by subst hW1; exact qCl
 have b11 : w1.cell? ⟨w.heap.size, 1, none⟩ = some (.slice p0 s1.length c0) := by subst hW1; exact qCl
 have b12 : w1.cell? ⟨w.heap.size, 2, none⟩ = some (.slice p1 t1.length c1) := by subst hW1; exact qCl
 have b20 : w1.cell? ⟨w.heap.size + 1, 0, none⟩ = some (.int .i64 F) := by subst hW1; exact qCl
 have b21 : w1.cell? ⟨w.heap.size + 1, 1, none⟩ = some (.int .i64 T) := by subst hW1; exact qCl
 have b22 : w1.cell? ⟨w.heap.size + 1, 2, none⟩ = some (.int .i64 B) := by subst hW1; exact qCl
 have b23 : w1.cell? ⟨w.heap.size + 1, 3, none⟩ = some (.bool hf) := by subst hW1; exact qCl
 have b24 : w1.cell? ⟨w.heap.size + 1, 4, none⟩ = some (.bool ht) := by subst hW1; exact qCl
 have b30 : w1.cell? ⟨w.heap.size + 1 + 1, 0, none⟩ = some (.int .i64 0) := by subst hW1; exact qCl
 have b31 : w1.cell? ⟨w.heap.size + 1 + 1, 1, none⟩ = some (.slice none 0 0) := by subst hW1; exact qCl
 have b32 : w1.cell? ⟨w.heap.size + 1 + 1, 2, none⟩ = some (.slice none 0 0) := by subst hW1; exact qCl
 have f_b30 : w1.frozen? ⟨w.heap.size + 1 + 1, 0, none⟩ = false := by subst hW1; exact qFz
 have f_b31 : w1.frozen? ⟨w.heap.size + 1 + 1, 1, none⟩ = false := by subst hW1; exact qFz
 have f_b32 : w1.frozen? ⟨w.heap.size + 1 + 1, 2, none⟩ = false := by subst hW1; exact qFz
 have z_b1 : w.heap.size < w1.heap.size := qB b10
 have z_b2 : w.heap.size + 1 < w1.heap.size := qB b20
 have z_b3 : w.heap.size + 1 + 1 < w1.heap.size := qB b30
 have s_w1 : w.heap.size ≤ w1.heap.size := Xw1.size
 clear hW1
 have hN_e6 : D < s1.length := (by first | exact hDN | (simp only [List.length_set]; exact hDN))
 have hI_e6 : (D : Int) < (s1.length : Int) := by omega
 obtain ⟨bl4, ol5, rfl, e60⟩ := h1.at D (by first | exact hDN | (simp only [List.length_set]; exact hDN))
 have y_e6 : bl4 < w.heap.size := qB e60
 replace e60 := Xw1.cell e60
 obtain ⟨v7, hv7⟩ : ∃ v, s1.getD D 0 = v := ⟨_, rfl⟩
 rw [hv7] at e60
 replace hv7 := Lib.hid hv7
 have z_e6 : bl4 < w1.heap.size := qB e60
 have h60v7 := hs60.out _ (getD_mem hDN)
 obtain ⟨hcv, hcl⟩ := cut_view (a := fromI v7 F B hf) (e := toI v7 T B ht) hvv.out hDN (sliceB_in hsl.out).2.2.2 (by rw [hv7.out]; exact idxS_in (by rw [hv7.out] at h60v7; omega) (sliceB_in hsl.out).2.2.2)
 have hLin := idxS_in (n := v7) (F := F) (T := T) (hf := hf) (ht := ht) (by rw [hv7.out] at h60v7; omega) (sliceB_in hsl.out).2.2.2
 rw [hv7.out] at h60v7
 obtain ⟨L, hL⟩ : ∃ L, idxS v7 F T B hf ht = L := ⟨_, rfl⟩
 rw [show numL (fromI v7 F B hf) (toI v7 T B ht) B = L from hL] at hcl
 rw [hL] at hLin
 clear hcv
 replace hL := Lib.hid hL
 replace hLin := Lib.hid hLin
 refine wp_region_tail (S := fun w' => w'.cell? ⟨w.heap.size, 0, none⟩ = some (.int .i64 b1) ∧ w'.cell? ⟨w.heap.size, 1, none⟩ = some (.slice (some ⟨bl4, ol5, none⟩) s1.length c0) ∧ w'.cell? ⟨w.heap.size, 2, none⟩ = some (.slice p1 t1.length c1) ∧ w'.cell? ⟨w.heap.size + 1, 0, none⟩ = some (.int .i64 F) ∧ w'.cell? ⟨w.heap.size + 1, 1, none⟩ = some (.int .i64 T) ∧ w'.cell? ⟨w.heap.size + 1, 2, none⟩ = some (.int .i64 B) ∧ w'.cell? ⟨w.heap.size + 1, 3, none⟩ = some (.bool hf) ∧ w'.cell? ⟨w.heap.size + 1, 4, none⟩ = some (.bool ht) ∧ w'.cell? ⟨w.heap.size + 1 + 1, 0, none⟩ = some (.int .i64 0) ∧ w'.cell? ⟨w.heap.size + 1 + 1, 1, none⟩ = some (.slice none 0 0) ∧ w'.cell? ⟨w.heap.size + 1 + 1, 2, none⟩ = some (.slice none 0 0) ∧ w'.cell? ⟨bl4, ol5 + D, none⟩ = some (.int .i64 v7)) (fun i => decide (8 ≤ i)) qKr ⟨b10, b11, b12, b20, b21, b22, b23, b24, b30, b31, b32, e60⟩ (fun hHeld => ?_)
 refine qTk (v := ?_) 0 rfl (.inl ⟨by rfl, ?_⟩) ?_
 rotate_left
 ·
  (intro w hSw; (try dsimp only at hSw); go_simp; try with_reducible rfl)
 try simp only [Act.put, qa, qb, qc, qD, qE, qF]
 refine qTk (v := ?_) 1 rfl (.inl ⟨by rfl, ?_⟩) ?_
 rotate_left
 ·
  (intro w hSw; (try dsimp only at hSw); go_simp; try with_reducible rfl)
 try simp only [Act.put, qa, qb, qc, qD, qE, qF]
 refine qTk (v := ?_) 2 rfl (.inl ⟨by rfl, ?_⟩) ?_
 rotate_left
 ·
  (intro w hSw; (try dsimp only at hSw); go_simp; try with_reducible rfl)
 try simp only [Act.put, qa, qb, qc, qD, qE, qF]
 refine qTk (v := ?_) 3 rfl (.inl ⟨by rfl, ?_⟩) ?_
 rotate_left
 ·
  (intro w hSw; (try dsimp only at hSw); go_simp; try with_reducible rfl)
 try simp only [Act.put, qa, qb, qc, qD, qE, qF]
 refine qTk (v := ?_) 4 rfl (.inl ⟨by rfl, ?_⟩) ?_
 rotate_left
 ·
  (intro w hSw; (try dsimp only at hSw); go_simp; try with_reducible rfl)
 try simp only [Act.put, qa, qb, qc, qD, qE, qF]
 refine qTk (v := ?_) 5 rfl (.inl ⟨by rfl, ?_⟩) ?_
 rotate_left
 ·
  (intro w hSw; (try dsimp only at hSw); go_simp; try with_reducible rfl)
 try simp only [Act.put, qa, qb, qc, qD, qE, qF]
 refine wpTail_one (i := 6) qKr rfl rfl (fun K hK => ?_)
 try simp only [Act.put, qa, qb, qc, qD, qE, qF]
 go_simp
 refine (pi_eq hL.out (indicesOf_c v7 F T B hf ht _ (by omega) hsl.out)).mono ?_
 rintro e w2 ⟨fv11, rfl, i12, -, xw2⟩
 have Lw2 : Ext w1 w2 := Ext.trans qXt xw2
 have Xw2 : Ext w w2 := Xw1.trans Lw2
 replace b10 := Lw2.cell b10
 replace b11 := Lw2.cell b11
 replace b12 := Lw2.cell b12
 replace b20 := Lw2.cell b20
 replace b21 := Lw2.cell b21
 replace b22 := Lw2.cell b22
 replace b23 := Lw2.cell b23
 replace b24 := Lw2.cell b24
 replace b30 := Lw2.cell b30
 replace b31 := Lw2.cell b31
 replace b32 := Lw2.cell b32
 replace f_b30 := Lw2.frz z_b3 f_b30
 replace f_b31 := Lw2.frz z_b3 f_b31
 replace f_b32 := Lw2.frz z_b3 f_b32
 replace e60 := Lw2.cell e60
 have z_b1 : w.heap.size < w2.heap.size := qB b10
 have z_b2 : w.heap.size + 1 < w2.heap.size := qB b20
 have z_b3 : w.heap.size + 1 + 1 < w2.heap.size := qB b30
 have z_e6 : bl4 < w2.heap.size := qB e60
 have s_w2 : w.heap.size ≤ w2.heap.size := Xw2.size
 clear xw2
 try simp only [World.size_alloc, World.size_drew] at i12
 obtain ⟨afv11, cfv11, rfl⟩ := i12.form
 refine hK.out _ _ ⟨b10, b11, b12, b20, b21, b22, b23, b24, b30, b31, b32, e60⟩ (fun hHeld => ?_)
 clear hK K
 try simp only [Act.put, qa, qb, qc, qD, qE, qF]
 refine qTk (v := ?_) 7 rfl (.inl ⟨by rfl, ?_⟩) ?_
 rotate_left
 ·
  (intro w hSw; (try dsimp only at hSw); go_simp; try with_reducible rfl)
 try simp only [Act.put, qa, qb, qc, qD, qE, qF]
 refine wpTail_done qKr ?_ _
 clear hHeld 
 go_wp2_with fail
 have Q13_b10 := Lib.hid b10
 have Q13_b11 := Lib.hid b11
 have Q13_b12 := Lib.hid b12
 have Q13_zb1 := z_b1
 have Q13_b20 := Lib.hid b20
 have Q13_b21 := Lib.hid b21
 have Q13_b22 := Lib.hid b22
 have Q13_b23 := Lib.hid b23
 have Q13_b24 := Lib.hid b24
 have Q13_zb2 := z_b2
 have Q13_b30 := Lib.hid b30
 have Q13_f_b30 := Lib.hid f_b30
 have Q13_b31 := Lib.hid b31
 have Q13_f_b31 := Lib.hid f_b31
 have Q13_b32 := Lib.hid b32
 have Q13_f_b32 := Lib.hid f_b32
 have Q13_zb3 := z_b3
 have Q13_e60 := Lib.hid e60
 have Q13_ze6 := z_e6
 have Q13_i12 := Lib.hid i12
 have BL14 : Ext w2 w2 := Ext.refl _
 refine (copyView_c b1 (.slice (some ⟨bl4, ol5, none⟩) s1.length c0) (.slice p1 t1.length c1) s1 t1 _ _ _ (h1.ext (Xw2.trans qXt)) (k1.ext (Xw2.trans qXt))).mono ?_
 rintro e w3 ⟨fv15u, fv15v, rfl, i16u, i16v, i16uz, i16vz, i16s, xw3⟩
 have Lw3 : Ext w2 w3 := Ext.trans qXt xw3
 have Xw3 : Ext w w3 := Xw2.trans Lw3
 replace b10 := Lw3.cell b10
 replace b11 := Lw3.cell b11
 replace b12 := Lw3.cell b12
 replace b20 := Lw3.cell b20
 replace b21 := Lw3.cell b21
 replace b22 := Lw3.cell b22
 replace b23 := Lw3.cell b23
 replace b24 := Lw3.cell b24
 replace b30 := Lw3.cell b30
 replace b31 := Lw3.cell b31
 replace b32 := Lw3.cell b32
 replace f_b30 := Lw3.frz z_b3 f_b30
 replace f_b31 := Lw3.frz z_b3 f_b31
 replace f_b32 := Lw3.frz z_b3 f_b32
 replace e60 := Lw3.cell e60
 have z_b1 : w.heap.size < w3.heap.size := qB b10
 have z_b2 : w.heap.size + 1 < w3.heap.size := qB b20
 have z_b3 : w.heap.size + 1 + 1 < w3.heap.size := qB b30
 have z_e6 : bl4 < w3.heap.size := qB e60
 replace i12 := i12.ext Lw3
 have s_w3 : w.heap.size ≤ w3.heap.size := Xw3.size
 have BL14_w3 : Ext w2 w3 := BL14.trans Lw3
 clear xw3
 obtain ⟨afv15u, cfv15u, rfl⟩ := i16u.form
 obtain ⟨afv15v, cfv15v, rfl⟩ := i16v.form
 have O17 := i16uz.ofNe hne1.out
 obtain ⟨gr19, rr21, hvgr19, Ggr19, Ggr19'⟩ := O17.row hne1.out
 cases hvgr19
 have O18 := i16vz.ofNe hne2.out
 obtain ⟨gr20, rr22, hvgr20, Ggr20, Ggr20'⟩ := O18.row hne2.out
 cases hvgr20
 have hggr19 : gr19 ≠ gr20 := fun h => i16s hne1.out hne2.out (by rw [h]; rfl)
 clear i16u i16uz i16v i16vz i16s
 have Q23_b10 := Lib.hid b10
 have Q23_b11 := Lib.hid b11
 have Q23_b12 := Lib.hid b12
 have Q23_zb1 := z_b1
 have Q23_b20 := Lib.hid b20
 have Q23_b21 := Lib.hid b21
 have Q23_b22 := Lib.hid b22
 have Q23_b23 := Lib.hid b23
 have Q23_b24 := Lib.hid b24
 have Q23_zb2 := z_b2
 have Q23_b30 := Lib.hid b30
 have Q23_f_b30 := Lib.hid f_b30
 have Q23_b31 := Lib.hid b31
 have Q23_f_b31 := Lib.hid f_b31
 have Q23_b32 := Lib.hid b32
 have Q23_f_b32 := Lib.hid f_b32
 have Q23_zb3 := z_b3
 have Q23_e60 := Lib.hid e60
 have Q23_ze6 := z_e6
 have Q23_i12 := Lib.hid i12
 have Q23_O17 := Lib.hid O17
 have Q23_O18 := Lib.hid O18
 have BL24 : Ext w3 w3 := Ext.refl _
 go_upto_region 3 with fail
 generalize hW2 : w3.alloc (.cells #[.int .i64 b1, .slice (some ⟨gr19, 0, none⟩) s1.length cfv15u, .slice (some ⟨gr20, 0, none⟩) t1.length cfv15v] 25) = w4 at *
 have Lw4 : Ext w3 w4 := by subst hW2; exact qXt
 have Xw4 : Ext w w4 := Xw3.trans Lw4
 replace b10 := Lw4.cell b10
 replace b11 := Lw4.cell b11
 replace b12 := Lw4.cell b12
 replace b20 := Lw4.cell b20
 replace b21 := Lw4.cell b21
 replace b22 := Lw4.cell b22
 replace b23 := Lw4.cell b23
 replace b24 := Lw4.cell b24
 replace b30 := Lw4.cell b30
 replace b31 := Lw4.cell b31
 replace b32 := Lw4.cell b32
 replace f_b30 := Lw4.frz z_b3 f_b30
 replace f_b31 := Lw4.frz z_b3 f_b31
 replace f_b32 := Lw4.frz z_b3 f_b32
 replace e60 := Lw4.cell e60
 have b250 : w4.cell? ⟨w3.heap.size, 0, none⟩ = some (.int .i64 b1) := by subst hW2; exact qCl
 have b251 : w4.cell? ⟨w3.heap.size, 1, none⟩ = some (.slice (some ⟨gr19, 0, none⟩) s1.length cfv15u) := by subst hW2; exact qCl
 have b252 : w4.cell? ⟨w3.heap.size, 2, none⟩ = some (.slice (some ⟨gr20, 0, none⟩) t1.length cfv15v) := by subst hW2; exact qCl
 have f_b250 : w4.frozen? ⟨w3.heap.size, 0, none⟩ = false := by subst hW2; exact qFz
 have f_b251 : w4.frozen? ⟨w3.heap.size, 1, none⟩ = false := by subst hW2; exact qFz
 have f_b252 : w4.frozen? ⟨w3.heap.size, 2, none⟩ = false := by subst hW2; exact qFz
 have z_b1 : w.heap.size < w4.heap.size := qB b10
 have z_b2 : w.heap.size + 1 < w4.heap.size := qB b20
 have z_b3 : w.heap.size + 1 + 1 < w4.heap.size := qB b30
 have z_e6 : bl4 < w4.heap.size := qB e60
 have z_b25 : w3.heap.size < w4.heap.size := qB b250
 replace i12 := i12.ext Lw4
 replace O17 := O17.ext Lw4
 replace O18 := O18.ext Lw4
 have s_w4 : w.heap.size ≤ w4.heap.size := Xw4.size
 have BL14_w4 : Ext w2 w4 := BL14_w3.trans Lw4
 have BL24_w4 : Ext w3 w4 := BL24.trans Lw4
 clear hW2
 have A26 := O17.cell D (by first | exact hDN | (simp only [List.length_set]; exact hDN))
 obtain ⟨A26a, A26b⟩ := A26
 go_upto_region 4 with fail
 clear e60 z_e6
 generalize hW3 : (w4.setCell ⟨gr19, D, none⟩ (.int .i64 (L.length : Int))) = w5 at *
 have Kw5 : Chg (gr19) (gr19 + 1) w4 w5 := by subst hW3; exact qCh
 have Xw5 : Ext w w5 := by subst hW3; exact qXt
 have BL14_w5 : Ext w2 w5 := by subst hW3; exact qXt
 replace b10 := BL14_w5.cell Q13_b10.out
 replace b11 := BL14_w5.cell Q13_b11.out
 replace b12 := BL14_w5.cell Q13_b12.out
 replace b20 := BL14_w5.cell Q13_b20.out
 replace b21 := BL14_w5.cell Q13_b21.out
 replace b22 := BL14_w5.cell Q13_b22.out
 replace b23 := BL14_w5.cell Q13_b23.out
 replace b24 := BL14_w5.cell Q13_b24.out
 replace b30 := BL14_w5.cell Q13_b30.out
 replace f_b30 := BL14_w5.frz Q13_zb3 Q13_f_b30.out
 replace b31 := BL14_w5.cell Q13_b31.out
 replace f_b31 := BL14_w5.frz Q13_zb3 Q13_f_b31.out
 replace b32 := BL14_w5.cell Q13_b32.out
 replace f_b32 := BL14_w5.frz Q13_zb3 Q13_f_b32.out
 replace b250 := Kw5.cell (by omega) b250
 replace f_b250 := Kw5.frzO (by omega) z_b25 f_b250
 replace b251 := Kw5.cell (by omega) b251
 replace f_b251 := Kw5.frzO (by omega) z_b25 f_b251
 replace b252 := Kw5.cell (by omega) b252
 replace f_b252 := Kw5.frzO (by omega) z_b25 f_b252
 replace i12 := (Q13_i12.out).ext BL14_w5
 have n_O17 := O17.set D ((L.length : Int)) (by first | omega | (simp; omega) | (rw [putUp_len]; simp; omega) | (rw [addUp_len]; omega))
 rw [hW3] at n_O17
 replace O17 := n_O17
 clear n_O17
 replace O18 := O18.chgN Kw5 (by omega)
 clear Kw5
 have z_b1 : w.heap.size < w5.heap.size := qB b10
 have z_b2 : w.heap.size + 1 < w5.heap.size := qB b20
 have z_b3 : w.heap.size + 1 + 1 < w5.heap.size := qB b30
 have z_b25 : w3.heap.size < w5.heap.size := qB b250
 have s_w5 : w.heap.size ≤ w5.heap.size := Xw5.size
 clear hW3
 clear A26a A26b
 have A27 := O18.cell D (by first | exact hDT | (simp only [List.length_set]; exact hDT))
 obtain ⟨A27a, A27b⟩ := A27
 by_cases hc28 : (0 : Int) < (L.length : Int)
 ·
  go_wp2_with fail
  generalize hW4 : (w5.setCell ⟨gr20, D, none⟩ (.int .i64 0)) = w6 at *
  have Kw6 : Chg (gr20) (gr20 + 1) w5 w6 := by subst hW4; exact qCh
  have Xw6 : Ext w w6 := by subst hW4; exact qXt
  have BL14_w6 : Ext w2 w6 := by subst hW4; exact qXt
  replace b10 := BL14_w6.cell Q13_b10.out
  replace b11 := BL14_w6.cell Q13_b11.out
  replace b12 := BL14_w6.cell Q13_b12.out
  replace b20 := BL14_w6.cell Q13_b20.out
  replace b21 := BL14_w6.cell Q13_b21.out
  replace b22 := BL14_w6.cell Q13_b22.out
  replace b23 := BL14_w6.cell Q13_b23.out
  replace b24 := BL14_w6.cell Q13_b24.out
  replace b30 := BL14_w6.cell Q13_b30.out
  replace f_b30 := BL14_w6.frz Q13_zb3 Q13_f_b30.out
  replace b31 := BL14_w6.cell Q13_b31.out
  replace f_b31 := BL14_w6.frz Q13_zb3 Q13_f_b31.out
  replace b32 := BL14_w6.cell Q13_b32.out
  replace f_b32 := BL14_w6.frz Q13_zb3 Q13_f_b32.out
  replace b250 := Kw6.cell (by omega) b250
  replace f_b250 := Kw6.frzO (by omega) z_b25 f_b250
  replace b251 := Kw6.cell (by omega) b251
  replace f_b251 := Kw6.frzO (by omega) z_b25 f_b251
  replace b252 := Kw6.cell (by omega) b252
  replace f_b252 := Kw6.frzO (by omega) z_b25 f_b252
  replace i12 := (Q13_i12.out).ext BL14_w6
  replace O17 := O17.chgN Kw6 (by omega)
  have n_O18 := O18.set D (0) (by first | omega | (simp; omega) | (rw [putUp_len]; simp; omega) | (rw [addUp_len]; omega))
  rw [hW4] at n_O18
  replace O18 := n_O18
  clear n_O18
  clear Kw6
  have z_b1 : w.heap.size < w6.heap.size := qB b10
  have z_b2 : w.heap.size + 1 < w6.heap.size := qB b20
  have z_b3 : w.heap.size + 1 + 1 < w6.heap.size := qB b30
  have z_b25 : w3.heap.size < w6.heap.size := qB b250
  have s_w6 : w.heap.size ≤ w6.heap.size := Xw6.size
  clear hW4
  clear A27a A27b
  have hN_e31 : D < t1.length := (by first | exact hDT | (simp only [List.length_set]; exact hDT))
  have hI_e31 : (D : Int) < (t1.length : Int) := by omega
  obtain ⟨bl29, ol30, rfl, e310⟩ := k1.at D (by first | exact hDT | (simp only [List.length_set]; exact hDT))
  have y_e31 : bl29 < w.heap.size := qB e310
  replace e310 := Xw6.cell e310
  obtain ⟨v32, hv32⟩ : ∃ v, t1.getD D 0 = v := ⟨_, rfl⟩
  rw [hv32] at e310
  replace hv32 := Lib.hid hv32
  have z_e31 : bl29 < w6.heap.size := qB e310
  have h60v32 := ht60.out _ (getD_mem hDT)
  rw [hv32.out] at h60v32
  have hx1 := hv32
  have hI_e35 : (0 : Int) < (L.length : Int) := by have hB7 : 0 < L.length := (by omega); omega
  obtain ⟨bl33, ol34, rfl, e350⟩ := i12.at 0 (by omega)
  rw [Nat.add_zero] at e350
  obtain ⟨v36, hv36⟩ : ∃ v, L.getD 0 0 = v := ⟨_, rfl⟩
  rw [hv36] at e350
  replace hv36 := Lib.hid hv36
  have y_e35 : bl33 < w6.heap.size := qB e350
  have z_e35 := y_e35
  have h60v36 := hLin.out _ (getD_mem (show 0 < L.length by omega))
  rw [hv36.out] at h60v36
  have hL0 := hv36
  have hmuv36 := mul_bd (x := v36) (t := v32) (by omega) (by omega) (show (0 : Int) ≤ 60 by omega) h60v32.1 h60v32.2
  rw [Int.mul_comm v36 v32] at hmuv36
  refine wp_region_tail (S := fun w' => w'.cell? ⟨w.heap.size, 0, none⟩ = some (.int .i64 b1) ∧ w'.cell? ⟨w.heap.size, 1, none⟩ = some (.slice (some ⟨bl4, ol5, none⟩) s1.length c0) ∧ w'.cell? ⟨w.heap.size, 2, none⟩ = some (.slice (some ⟨bl29, ol30, none⟩) t1.length c1) ∧ w'.cell? ⟨w.heap.size + 1, 0, none⟩ = some (.int .i64 F) ∧ w'.cell? ⟨w.heap.size + 1, 1, none⟩ = some (.int .i64 T) ∧ w'.cell? ⟨w.heap.size + 1, 2, none⟩ = some (.int .i64 B) ∧ w'.cell? ⟨w.heap.size + 1, 3, none⟩ = some (.bool hf) ∧ w'.cell? ⟨w.heap.size + 1, 4, none⟩ = some (.bool ht) ∧ w'.cell? ⟨w.heap.size + 1 + 1, 0, none⟩ = some (.int .i64 0) ∧ w'.cell? ⟨w.heap.size + 1 + 1, 1, none⟩ = some (.slice none 0 0) ∧ w'.cell? ⟨w.heap.size + 1 + 1, 2, none⟩ = some (.slice none 0 0) ∧ w'.cell? ⟨w3.heap.size, 0, none⟩ = some (.int .i64 b1) ∧ w'.cell? ⟨w3.heap.size, 1, none⟩ = some (.slice (some ⟨gr19, 0, none⟩) s1.length cfv15u) ∧ w'.cell? ⟨w3.heap.size, 2, none⟩ = some (.slice (some ⟨gr20, 0, none⟩) t1.length cfv15v) ∧ w'.cell? ⟨bl29, ol30 + D, none⟩ = some (.int .i64 v32) ∧ w'.cell? ⟨bl33, ol34, none⟩ = some (.int .i64 v36)) (fun i => decide (13 ≤ i)) qKr ⟨b10, b11, b12, b20, b21, b22, b23, b24, b30, b31, b32, b250, b251, b252, e310, e350⟩ (fun hHeld => ?_)
  refine qTk (v := ?_) 0 rfl (.inl ⟨by rfl, ?_⟩) ?_
  rotate_left
  ·
   (intro w hSw; (try dsimp only at hSw); go_simp; try with_reducible rfl)
  try simp only [Act.put, qa, qb, qc, qD, qE, qF]
  refine qTk (v := ?_) 1 rfl (.inl ⟨by rfl, ?_⟩) ?_
  rotate_left
  ·
   (intro w hSw; (try dsimp only at hSw); go_simp; try with_reducible rfl)
  try simp only [Act.put, qa, qb, qc, qD, qE, qF]
  refine qTk (v := ?_) 2 rfl (.inl ⟨by rfl, ?_⟩) ?_
  rotate_left
  ·
   (intro w hSw; (try dsimp only at hSw); go_simp; try with_reducible rfl)
  try simp only [Act.put, qa, qb, qc, qD, qE, qF]
  refine qTk (v := ?_) 3 rfl (.inl ⟨by rfl, ?_⟩) ?_
  rotate_left
  ·
   (intro w hSw; (try dsimp only at hSw); go_simp; try with_reducible rfl)
  try simp only [Act.put, qa, qb, qc, qD, qE, qF]
  refine qTk (v := ?_) 4 rfl (.inl ⟨by rfl, ?_⟩) ?_
  rotate_left
  ·
   (intro w hSw; (try dsimp only at hSw); go_simp; try with_reducible rfl)
  try simp only [Act.put, qa, qb, qc, qD, qE, qF]
  refine qTk (v := ?_) 5 rfl (.inl ⟨by rfl, ?_⟩) ?_
  rotate_left
  ·
   (intro w hSw; (try dsimp only at hSw); go_simp; try with_reducible rfl)
  try simp only [Act.put, qa, qb, qc, qD, qE, qF]
  refine qTk (v := ?_) 6 rfl (.inl ⟨by rfl, ?_⟩) ?_
  rotate_left
  ·
   (intro w hSw; (try dsimp only at hSw); go_simp; try with_reducible rfl)
  try simp only [Act.put, qa, qb, qc, qD, qE, qF]
  refine qTk (v := ?_) 7 rfl (.inl ⟨by rfl, ?_⟩) ?_
  rotate_left
  ·
   (intro w hSw; (try dsimp only at hSw); go_simp; try with_reducible rfl)
  try simp only [Act.put, qa, qb, qc, qD, qE, qF]
  refine qTk (v := ?_) 8 rfl (.inl ⟨by rfl, ?_⟩) ?_
  rotate_left
  ·
   (intro w hSw; (try dsimp only at hSw); go_simp; try with_reducible rfl)
  try simp only [Act.put, qa, qb, qc, qD, qE, qF]
  refine wpTail_one (i := 9) qKr rfl rfl (fun K hK => ?_)
  try simp only [Act.put, qa, qb, qc, qD, qE, qF]
  go_simp
  refine hK.out _ _ ⟨b10, b11, b12, b20, b21, b22, b23, b24, b30, b31, b32, b250, b251, b252, e310, e350⟩ (fun hHeld => ?_)
  clear hK K
  try simp only [Act.put, qa, qb, qc, qD, qE, qF]
  have hw43 : IntKind.i64.wrap (v32 * v36) = v32 * v36 := IntWalk.i64_in _ (by omega)
  refine qTk (v := ?_) 10 rfl (.inl ⟨by rfl, ?_⟩) ?_
  rotate_left
  ·
   (intro w hSw; (try dsimp only at hSw); go_simp; try with_reducible rfl)
  try simp only [Act.put, qa, qb, qc, qD, qE, qF]
  have hw44 : IntKind.i64.wrap (b1 + (v32 * v36)) = b1 + (v32 * v36) := IntWalk.i64_in _ (by omega)
  refine qTk (v := ?_) 11 rfl (.inl ⟨by rfl, ?_⟩) ?_
  rotate_left
  ·
   (intro w hSw; (try dsimp only at hSw); go_simp; try with_reducible rfl)
  try simp only [Act.put, qa, qb, qc, qD, qE, qF]
  refine qTk (v := ?_) 12 rfl (.inl ⟨by rfl, ?_⟩) ?_
  rotate_left
  ·
   (intro w hSw; (try dsimp only at hSw); go_simp; try with_reducible rfl)
  try simp only [Act.put, qa, qb, qc, qD, qE, qF]
  refine wpTail_last (i := 13) qKr rfl rfl (fun K hK => ?_)
  try simp only [Act.put, qa, qb, qc, qD, qE, qF]
  go_simp
  refine hK.out _ _ ?_
  clear hK K
  try simp only [Act.put, qa, qb, qc, qD, qE, qF]
  refine wpTail_done qKr ?_ _
  clear hHeld hw43 hw44
  clear e350 z_e35
  generalize hW5 : ((w6.setCell ⟨w3.heap.size, 0, none⟩ (.int .i64 (b1 + (v32 * v36)))).drew) = w7 at *
  have Kw7 : Chg (w3.heap.size) (w3.heap.size + 1) w6 w7 := by subst hW5; exact qCh
  have Xw7 : Ext w w7 := by subst hW5; exact qXt
  have BL14_w7 : Ext w2 w7 := by subst hW5; exact qXt
  replace b10 := Kw7.cell (by omega) b10
  replace b11 := Kw7.cell (by omega) b11
  replace b12 := Kw7.cell (by omega) b12
  replace b20 := BL14_w7.cell Q13_b20.out
  replace b21 := BL14_w7.cell Q13_b21.out
  replace b22 := BL14_w7.cell Q13_b22.out
  replace b23 := BL14_w7.cell Q13_b23.out
  replace b24 := BL14_w7.cell Q13_b24.out
  replace b30 := BL14_w7.cell Q13_b30.out
  replace f_b30 := BL14_w7.frz Q13_zb3 Q13_f_b30.out
  replace b31 := BL14_w7.cell Q13_b31.out
  replace f_b31 := BL14_w7.frz Q13_zb3 Q13_f_b31.out
  replace b32 := BL14_w7.cell Q13_b32.out
  replace f_b32 := BL14_w7.frz Q13_zb3 Q13_f_b32.out
  replace b250 : w7.cell? ⟨w3.heap.size, 0, none⟩ = some (.int .i64 (b1 + (v32 * v36))) := by subst hW5; go_simp
  replace f_b250 : w7.frozen? ⟨w3.heap.size, 0, none⟩ = false := by subst hW5; go_simp
  replace b251 : w7.cell? ⟨w3.heap.size, 1, none⟩ = some (.slice (some ⟨gr19, 0, none⟩) s1.length cfv15u) := by subst hW5; go_simp
  replace f_b251 : w7.frozen? ⟨w3.heap.size, 1, none⟩ = false := by subst hW5; go_simp
  replace b252 : w7.cell? ⟨w3.heap.size, 2, none⟩ = some (.slice (some ⟨gr20, 0, none⟩) t1.length cfv15v) := by subst hW5; go_simp
  replace f_b252 : w7.frozen? ⟨w3.heap.size, 2, none⟩ = false := by subst hW5; go_simp
  replace e310 := Kw7.cell (by omega) e310
  replace i12 := (Q13_i12.out).ext BL14_w7
  replace O17 := O17.chgN Kw7 (by omega)
  replace O18 := O18.chgN Kw7 (by omega)
  clear Kw7
  have z_b1 : w.heap.size < w7.heap.size := qB b10
  have z_b2 : w.heap.size + 1 < w7.heap.size := qB b20
  have z_b3 : w.heap.size + 1 + 1 < w7.heap.size := qB b30
  have z_b25 : w3.heap.size < w7.heap.size := qB b250
  have z_e31 : bl29 < w7.heap.size := qB e310
  have s_w7 : w.heap.size ≤ w7.heap.size := Xw7.size
  clear hW5
  by_cases hc45 : (1 : Int) < (L.length : Int)
  ·
   go_wp2_with fail
   have hI_e51 : (1 : Int) < (L.length : Int) := by have hB7 : 1 < L.length := (by omega); omega
   obtain ⟨b_e51, o_e51, h_e51, e510⟩ := i12.at 1 (by omega)
   cases h_e51
   obtain ⟨v52, hv52⟩ : ∃ v, L.getD 1 0 = v := ⟨_, rfl⟩
   rw [hv52] at e510
   replace hv52 := Lib.hid hv52
   have y_e51 : bl33 < w7.heap.size := qB e510
   have z_e51 := y_e51
   have h60v52 := hLin.out _ (getD_mem (show 1 < L.length by omega))
   rw [hv52.out] at h60v52
   have hL1 := hv52
   have hm2 := mul_bd2s (x := v32) (y := v52 - v36) h60v32.1 h60v32.2 (by omega) (by omega)
   have hI_e55 : (0 : Int) < (L.length : Int) := by have hB7 : 0 < L.length := (by omega); omega
   obtain ⟨b_e55, o_e55, h_e55, e550⟩ := i12.at 0 (by omega)
   cases h_e55
   rw [Nat.add_zero] at e550
   rw [hv36.out] at e550
   have y_e55 : bl33 < w7.heap.size := qB e550
   have z_e55 := y_e55
   have A56 := O18.cell D (by first | exact hDT | (simp only [List.length_set]; exact hDT))
   obtain ⟨A56a, A56b⟩ := A56
   refine wp_region_tail (S := fun w' => w'.cell? ⟨w.heap.size, 0, none⟩ = some (.int .i64 b1) ∧ w'.cell? ⟨w.heap.size, 1, none⟩ = some (.slice (some ⟨bl4, ol5, none⟩) s1.length c0) ∧ w'.cell? ⟨w.heap.size, 2, none⟩ = some (.slice (some ⟨bl29, ol30, none⟩) t1.length c1) ∧ w'.cell? ⟨w.heap.size + 1, 0, none⟩ = some (.int .i64 F) ∧ w'.cell? ⟨w.heap.size + 1, 1, none⟩ = some (.int .i64 T) ∧ w'.cell? ⟨w.heap.size + 1, 2, none⟩ = some (.int .i64 B) ∧ w'.cell? ⟨w.heap.size + 1, 3, none⟩ = some (.bool hf) ∧ w'.cell? ⟨w.heap.size + 1, 4, none⟩ = some (.bool ht) ∧ w'.cell? ⟨w.heap.size + 1 + 1, 0, none⟩ = some (.int .i64 0) ∧ w'.cell? ⟨w.heap.size + 1 + 1, 1, none⟩ = some (.slice none 0 0) ∧ w'.cell? ⟨w.heap.size + 1 + 1, 2, none⟩ = some (.slice none 0 0) ∧ w'.cell? ⟨w3.heap.size, 0, none⟩ = some (.int .i64 (b1 + (v32 * v36))) ∧ w'.cell? ⟨w3.heap.size, 1, none⟩ = some (.slice (some ⟨gr19, 0, none⟩) s1.length cfv15u) ∧ w'.cell? ⟨w3.heap.size, 2, none⟩ = some (.slice (some ⟨gr20, 0, none⟩) t1.length cfv15v) ∧ w'.cell? ⟨bl29, ol30 + D, none⟩ = some (.int .i64 v32) ∧ w'.cell? ⟨bl33, ol34 + 1, none⟩ = some (.int .i64 v52) ∧ w'.cell? ⟨bl33, ol34, none⟩ = some (.int .i64 v36)) (fun i => decide (17 ≤ i)) qKr ⟨b10, b11, b12, b20, b21, b22, b23, b24, b30, b31, b32, b250, b251, b252, e310, e510, e550⟩ (fun hHeld => ?_)
   refine qTk (v := ?_) 0 rfl (.inl ⟨by rfl, ?_⟩) ?_
   rotate_left
   ·
    (intro w hSw; (try dsimp only at hSw); go_simp; try with_reducible rfl)
   try simp only [Act.put, qa, qb, qc, qD, qE, qF]
   refine qTk (v := ?_) 1 rfl (.inl ⟨by rfl, ?_⟩) ?_
   rotate_left
   ·
    (intro w hSw; (try dsimp only at hSw); go_simp; try with_reducible rfl)
   try simp only [Act.put, qa, qb, qc, qD, qE, qF]
   refine qTk (v := ?_) 2 rfl (.inl ⟨by rfl, ?_⟩) ?_
   rotate_left
   ·
    (intro w hSw; (try dsimp only at hSw); go_simp; try with_reducible rfl)
   try simp only [Act.put, qa, qb, qc, qD, qE, qF]
   refine qTk (v := ?_) 3 rfl (.inl ⟨by rfl, ?_⟩) ?_
   rotate_left
   ·
    (intro w hSw; (try dsimp only at hSw); go_simp; try with_reducible rfl)
   try simp only [Act.put, qa, qb, qc, qD, qE, qF]
   refine qTk (v := ?_) 4 rfl (.inl ⟨by rfl, ?_⟩) ?_
   rotate_left
   ·
    (intro w hSw; (try dsimp only at hSw); go_simp; try with_reducible rfl)
   try simp only [Act.put, qa, qb, qc, qD, qE, qF]
   refine qTk (v := ?_) 5 rfl (.inl ⟨by rfl, ?_⟩) ?_
   rotate_left
   ·
    (intro w hSw; (try dsimp only at hSw); go_simp; try with_reducible rfl)
   try simp only [Act.put, qa, qb, qc, qD, qE, qF]
   refine qTk (v := ?_) 6 rfl (.inl ⟨by rfl, ?_⟩) ?_
   rotate_left
   ·
    (intro w hSw; (try dsimp only at hSw); go_simp; try with_reducible rfl)
   try simp only [Act.put, qa, qb, qc, qD, qE, qF]
   refine qTk (v := ?_) 7 rfl (.inl ⟨by rfl, ?_⟩) ?_
   rotate_left
   ·
    (intro w hSw; (try dsimp only at hSw); go_simp; try with_reducible rfl)
   try simp only [Act.put, qa, qb, qc, qD, qE, qF]
   refine qTk (v := ?_) 8 rfl (.inl ⟨by rfl, ?_⟩) ?_
   rotate_left
   ·
    (intro w hSw; (try dsimp only at hSw); go_simp; try with_reducible rfl)
   try simp only [Act.put, qa, qb, qc, qD, qE, qF]
   refine qTk (v := ?_) 9 rfl (.inl ⟨by rfl, ?_⟩) ?_
   rotate_left
   ·
    (intro w hSw; (try dsimp only at hSw); go_simp; try with_reducible rfl)
   try simp only [Act.put, qa, qb, qc, qD, qE, qF]
   refine qTk (v := ?_) 10 rfl (.inl ⟨by rfl, ?_⟩) ?_
   rotate_left
   ·
    (intro w hSw; (try dsimp only at hSw); go_simp; try with_reducible rfl)
   try simp only [Act.put, qa, qb, qc, qD, qE, qF]
   refine qTk (v := ?_) 11 rfl (.inl ⟨by rfl, ?_⟩) ?_
   rotate_left
   ·
    (intro w hSw; (try dsimp only at hSw); go_simp; try with_reducible rfl)
   try simp only [Act.put, qa, qb, qc, qD, qE, qF]
   refine qTk (v := ?_) 12 rfl (.inl ⟨by rfl, ?_⟩) ?_
   rotate_left
   ·
    (intro w hSw; (try dsimp only at hSw); go_simp; try with_reducible rfl)
   try simp only [Act.put, qa, qb, qc, qD, qE, qF]
   refine wpTail_one (i := 13) qKr rfl rfl (fun K hK => ?_)
   try simp only [Act.put, qa, qb, qc, qD, qE, qF]
   go_simp
   refine hK.out _ _ ⟨b10, b11, b12, b20, b21, b22, b23, b24, b30, b31, b32, b250, b251, b252, e310, e510, e550⟩ (fun hHeld => ?_)
   clear hK K
   try simp only [Act.put, qa, qb, qc, qD, qE, qF]
   have hw66 : IntKind.i64.wrap (v52 - v36) = v52 - v36 := IntWalk.i64_in _ (by omega)
   refine qTk (v := ?_) 14 rfl (.inl ⟨by rfl, ?_⟩) ?_
   rotate_left
   ·
    (intro w hSw; (try dsimp only at hSw); go_simp; try with_reducible rfl)
   try simp only [Act.put, qa, qb, qc, qD, qE, qF]
   have hw67 : IntKind.i64.wrap (v32 * (v52 - v36)) = v32 * (v52 - v36) := IntWalk.i64_in _ (by omega)
   refine qTk (v := ?_) 15 rfl (.inl ⟨by rfl, ?_⟩) ?_
   rotate_left
   ·
    (intro w hSw; (try dsimp only at hSw); go_simp; try with_reducible rfl)
   try simp only [Act.put, qa, qb, qc, qD, qE, qF]
   refine qTk (v := ?_) 16 rfl (.inl ⟨by rfl, ?_⟩) ?_
   rotate_left
   ·
    (intro w hSw; (try dsimp only at hSw); go_simp; try with_reducible rfl)
   try simp only [Act.put, qa, qb, qc, qD, qE, qF]
   refine wpTail_last (i := 17) qKr rfl rfl (fun K hK => ?_)
   try simp only [Act.put, qa, qb, qc, qD, qE, qF]
   go_simp
   refine hK.out _ _ ?_
   clear hK K
   try simp only [Act.put, qa, qb, qc, qD, qE, qF]
   refine wpTail_done qKr ?_ _
   clear hHeld hw66 hw67
   clear e310 z_e31
   clear e510 z_e51
   clear e550 z_e55
   generalize hW6 : ((w7.setCell ⟨gr20, D, none⟩ (.int .i64 (v32 * (v52 - v36)))).drew) = w8 at *
   have Kw8 : Chg (gr20) (gr20 + 1) w7 w8 := by subst hW6; exact qCh
   have Xw8 : Ext w w8 := by subst hW6; exact qXt
   have BL14_w8 : Ext w2 w8 := by subst hW6; exact qXt
   replace b10 := Kw8.cell (by omega) b10
   replace b11 := Kw8.cell (by omega) b11
   replace b12 := Kw8.cell (by omega) b12
   replace b20 := BL14_w8.cell Q13_b20.out
   replace b21 := BL14_w8.cell Q13_b21.out
   replace b22 := BL14_w8.cell Q13_b22.out
   replace b23 := BL14_w8.cell Q13_b23.out
   replace b24 := BL14_w8.cell Q13_b24.out
   replace b30 := BL14_w8.cell Q13_b30.out
   replace f_b30 := BL14_w8.frz Q13_zb3 Q13_f_b30.out
   replace b31 := BL14_w8.cell Q13_b31.out
   replace f_b31 := BL14_w8.frz Q13_zb3 Q13_f_b31.out
   replace b32 := BL14_w8.cell Q13_b32.out
   replace f_b32 := BL14_w8.frz Q13_zb3 Q13_f_b32.out
   replace b250 := Kw8.cell (by omega) b250
   replace f_b250 := Kw8.frzO (by omega) z_b25 f_b250
   replace b251 := Kw8.cell (by omega) b251
   replace f_b251 := Kw8.frzO (by omega) z_b25 f_b251
   replace b252 := Kw8.cell (by omega) b252
   replace f_b252 := Kw8.frzO (by omega) z_b25 f_b252
   replace i12 := (Q13_i12.out).ext BL14_w8
   replace O17 := O17.chgN Kw8 (by omega)
   have n_O18 := O18.setD D (v32 * (v52 - v36)) (by first | omega | (simp; omega) | (rw [putUp_len]; simp; omega) | (rw [addUp_len]; omega))
   rw [hW6] at n_O18
   replace O18 := n_O18
   clear n_O18
   clear Kw8
   have z_b1 : w.heap.size < w8.heap.size := qB b10
   have z_b2 : w.heap.size + 1 < w8.heap.size := qB b20
   have z_b3 : w.heap.size + 1 + 1 < w8.heap.size := qB b30
   have z_b25 : w3.heap.size < w8.heap.size := qB b250
   have s_w8 : w.heap.size ≤ w8.heap.size := Xw8.size
   clear hW6
   clear A56a A56b
   go_wp2_with fail
   by_cases hcl68 : countL (s1.set D (L.length : Int)) = 0
   ·
    refine (cleared_0 (b1 + (v32 * v36)) _ _ (s1.set D (L.length : Int)) _ _ ((O17.ints (by first | omega | (simp only [List.length_set]; omega))).ext qXt) hcl68).mono ?_
    rintro e w9 ⟨svO69, rfl, O69, xw9⟩
    have Lw9 : Ext w8 w9 := Ext.trans qXt xw9
    have Xw9 : Ext w w9 := Xw8.trans Lw9
    replace b10 := Lw9.cell b10
    replace b11 := Lw9.cell b11
    replace b12 := Lw9.cell b12
    replace b20 := Lw9.cell b20
    replace b21 := Lw9.cell b21
    replace b22 := Lw9.cell b22
    replace b23 := Lw9.cell b23
    replace b24 := Lw9.cell b24
    replace b30 := Lw9.cell b30
    replace b31 := Lw9.cell b31
    replace b32 := Lw9.cell b32
    replace f_b30 := Lw9.frz z_b3 f_b30
    replace f_b31 := Lw9.frz z_b3 f_b31
    replace f_b32 := Lw9.frz z_b3 f_b32
    replace b250 := Lw9.cell b250
    replace b251 := Lw9.cell b251
    replace b252 := Lw9.cell b252
    replace f_b250 := Lw9.frz z_b25 f_b250
    replace f_b251 := Lw9.frz z_b25 f_b251
    replace f_b252 := Lw9.frz z_b25 f_b252
    have z_b1 : w.heap.size < w9.heap.size := qB b10
    have z_b2 : w.heap.size + 1 < w9.heap.size := qB b20
    have z_b3 : w.heap.size + 1 + 1 < w9.heap.size := qB b30
    have z_b25 : w3.heap.size < w9.heap.size := qB b250
    replace i12 := i12.ext Lw9
    replace O17 := O17.ext Lw9
    replace O18 := O18.ext Lw9
    have s_w9 : w.heap.size ≤ w9.heap.size := Xw9.size
    have BL14_w9 : Ext w2 w9 := BL14_w8.trans Lw9
    clear xw9
    obtain ⟨aa70, cc71, rfl⟩ := (O69.ints (by simp; omega)).form
    rw [List.length_replicate] at O69 ⊢
    rw [List.length_set] at O69 ⊢
    go_wp2_with fail
    generalize hW7 : (((w9.setCell ⟨w.heap.size + 1 + 1, 0, none⟩ (.int .i64 0)).setCell ⟨w.heap.size + 1 + 1, 1, none⟩ (.slice (some ⟨gr19, 0, none⟩) s1.length cfv15u)).setCell ⟨w.heap.size + 1 + 1, 2, none⟩ (.slice aa70 s1.length cc71)) = w10 at *
    have Kw10 : Chg (w.heap.size + 1 + 1) (w.heap.size + 1 + 1 + 1) w9 w10 := by subst hW7; exact qCh
    have Xw10 : Ext w w10 := by subst hW7; exact qXt
    replace b10 := Kw10.cell (by omega) b10
    replace b11 := Kw10.cell (by omega) b11
    replace b12 := Kw10.cell (by omega) b12
    replace b20 := Kw10.cell (by omega) b20
    replace b21 := Kw10.cell (by omega) b21
    replace b22 := Kw10.cell (by omega) b22
    replace b23 := Kw10.cell (by omega) b23
    replace b24 := Kw10.cell (by omega) b24
    replace b30 : w10.cell? ⟨w.heap.size + 1 + 1, 0, none⟩ = some (.int .i64 0) := by subst hW7; go_simp
    replace f_b30 : w10.frozen? ⟨w.heap.size + 1 + 1, 0, none⟩ = false := by subst hW7; go_simp
    replace b31 : w10.cell? ⟨w.heap.size + 1 + 1, 1, none⟩ = some (.slice (some ⟨gr19, 0, none⟩) s1.length cfv15u) := by subst hW7; go_simp
    replace f_b31 : w10.frozen? ⟨w.heap.size + 1 + 1, 1, none⟩ = false := by subst hW7; go_simp
    replace b32 : w10.cell? ⟨w.heap.size + 1 + 1, 2, none⟩ = some (.slice aa70 s1.length cc71) := by subst hW7; go_simp
    replace f_b32 : w10.frozen? ⟨w.heap.size + 1 + 1, 2, none⟩ = false := by subst hW7; go_simp
    replace b250 := Kw10.cell (by omega) b250
    replace f_b250 := Kw10.frzO (by omega) z_b25 f_b250
    replace b251 := Kw10.cell (by omega) b251
    replace f_b251 := Kw10.frzO (by omega) z_b25 f_b251
    replace b252 := Kw10.cell (by omega) b252
    replace f_b252 := Kw10.frzO (by omega) z_b25 f_b252
    replace i12 := i12.chg Kw10 (by omega)
    replace O17 := O17.chgN Kw10 (by omega)
    replace O18 := O18.chgN Kw10 (by omega)
    replace O69 := O69.chg Kw10 (by omega)
    clear Kw10
    have z_b1 : w.heap.size < w10.heap.size := qB b10
    have z_b2 : w.heap.size + 1 < w10.heap.size := qB b20
    have z_b3 : w.heap.size + 1 + 1 < w10.heap.size := qB b30
    have z_b25 : w3.heap.size < w10.heap.size := qB b250
    have s_w10 : w.heap.size ≤ w10.heap.size := Xw10.size
    clear hW7
    refine bodyPost_ret (v := .agg #[.int .i64 0, .slice (some ⟨gr19, 0, none⟩) s1.length cfv15u, .slice aa70 s1.length cc71]) (by simp only [results, Try.results104]; go_simp) rfl ?_
    obtain ⟨hpB, hpT⟩ := cut_prog (b := b1) (e := toI v7 T B ht) hsm.out hDN (sliceB_in hsl.out).2.2.2 hL.out hx1.out
    have qB := hpB (b1 + v32 * v36) (by right; rw [hL0.out])
    have qT := hpT (v32 * (v52 - v36)) (by rw [if_pos (by omega), hL1.out, hL0.out])
    rw [show idxS (s1.getD D 0) F T B hf ht = L by rw [hv7.out]; exact hL.out, qB, qT]
    refine ⟨.slice (some ⟨gr19, 0, none⟩) s1.length cfv15u, .slice aa70 s1.length cc71, ?_, (O17.ints (by first | omega | (simp only [List.length_set]; omega))).lower (by omega), ?_, Xw10⟩
    ·
     unfold tidyB; rw [if_pos hcl68]
    ·
     unfold tidyT; rw [if_pos hcl68, List.length_set]
     exact (O69.ints (by simp; omega)).lower (by omega)
   ·
    refine (cleared_1 (b1 + (v32 * v36)) _ _ (s1.set D (L.length : Int)) ((t1.set D 0).set D (v32 * (v52 - v36))) _ _ _ ((O17.ints (by first | omega | (simp only [List.length_set]; omega))).ext qXt) ((O18.ints (by first | omega | (simp only [List.length_set]; omega))).ext qXt) hcl68).mono ?_
    rintro e w9 ⟨rfl, xw9⟩
    have Lw9 : Ext w8 w9 := Ext.trans qXt xw9
    have Xw9 : Ext w w9 := Xw8.trans Lw9
    replace b10 := Lw9.cell b10
    replace b11 := Lw9.cell b11
    replace b12 := Lw9.cell b12
    replace b20 := Lw9.cell b20
    replace b21 := Lw9.cell b21
    replace b22 := Lw9.cell b22
    replace b23 := Lw9.cell b23
    replace b24 := Lw9.cell b24
    replace b30 := Lw9.cell b30
    replace b31 := Lw9.cell b31
    replace b32 := Lw9.cell b32
    replace f_b30 := Lw9.frz z_b3 f_b30
    replace f_b31 := Lw9.frz z_b3 f_b31
    replace f_b32 := Lw9.frz z_b3 f_b32
    replace b250 := Lw9.cell b250
    replace b251 := Lw9.cell b251
    replace b252 := Lw9.cell b252
    replace f_b250 := Lw9.frz z_b25 f_b250
    replace f_b251 := Lw9.frz z_b25 f_b251
    replace f_b252 := Lw9.frz z_b25 f_b252
    have z_b1 : w.heap.size < w9.heap.size := qB b10
    have z_b2 : w.heap.size + 1 < w9.heap.size := qB b20
    have z_b3 : w.heap.size + 1 + 1 < w9.heap.size := qB b30
    have z_b25 : w3.heap.size < w9.heap.size := qB b250
    replace i12 := i12.ext Lw9
    replace O17 := O17.ext Lw9
    replace O18 := O18.ext Lw9
    have s_w9 : w.heap.size ≤ w9.heap.size := Xw9.size
    have BL14_w9 : Ext w2 w9 := BL14_w8.trans Lw9
    clear xw9
    go_wp2_with fail
    generalize hW8 : (((w9.setCell ⟨w.heap.size + 1 + 1, 0, none⟩ (.int .i64 (b1 + (v32 * v36)))).setCell ⟨w.heap.size + 1 + 1, 1, none⟩ (.slice (some ⟨gr19, 0, none⟩) s1.length cfv15u)).setCell ⟨w.heap.size + 1 + 1, 2, none⟩ (.slice (some ⟨gr20, 0, none⟩) t1.length cfv15v)) = w10 at *
    have Kw10 : Chg (w.heap.size + 1 + 1) (w.heap.size + 1 + 1 + 1) w9 w10 := by subst hW8; exact qCh
    have Xw10 : Ext w w10 := by subst hW8; exact qXt
    replace b10 := Kw10.cell (by omega) b10
    replace b11 := Kw10.cell (by omega) b11
    replace b12 := Kw10.cell (by omega) b12
    replace b20 := Kw10.cell (by omega) b20
    replace b21 := Kw10.cell (by omega) b21
    replace b22 := Kw10.cell (by omega) b22
    replace b23 := Kw10.cell (by omega) b23
    replace b24 := Kw10.cell (by omega) b24
    replace b30 : w10.cell? ⟨w.heap.size + 1 + 1, 0, none⟩ = some (.int .i64 (b1 + (v32 * v36))) := by subst hW8; go_simp
    replace f_b30 : w10.frozen? ⟨w.heap.size + 1 + 1, 0, none⟩ = false := by subst hW8; go_simp
    replace b31 : w10.cell? ⟨w.heap.size + 1 + 1, 1, none⟩ = some (.slice (some ⟨gr19, 0, none⟩) s1.length cfv15u) := by subst hW8; go_simp
    replace f_b31 : w10.frozen? ⟨w.heap.size + 1 + 1, 1, none⟩ = false := by subst hW8; go_simp
    replace b32 : w10.cell? ⟨w.heap.size + 1 + 1, 2, none⟩ = some (.slice (some ⟨gr20, 0, none⟩) t1.length cfv15v) := by subst hW8; go_simp
    replace f_b32 : w10.frozen? ⟨w.heap.size + 1 + 1, 2, none⟩ = false := by subst hW8; go_simp
    replace b250 := Kw10.cell (by omega) b250
    replace f_b250 := Kw10.frzO (by omega) z_b25 f_b250
    replace b251 := Kw10.cell (by omega) b251
    replace f_b251 := Kw10.frzO (by omega) z_b25 f_b251
    replace b252 := Kw10.cell (by omega) b252
    replace f_b252 := Kw10.frzO (by omega) z_b25 f_b252
    replace i12 := i12.chg Kw10 (by omega)
    replace O17 := O17.chgN Kw10 (by omega)
    replace O18 := O18.chgN Kw10 (by omega)
    clear Kw10
    have z_b1 : w.heap.size < w10.heap.size := qB b10
    have z_b2 : w.heap.size + 1 < w10.heap.size := qB b20
    have z_b3 : w.heap.size + 1 + 1 < w10.heap.size := qB b30
    have z_b25 : w3.heap.size < w10.heap.size := qB b250
    have s_w10 : w.heap.size ≤ w10.heap.size := Xw10.size
    clear hW8
    refine bodyPost_ret (v := .agg #[.int .i64 (b1 + (v32 * v36)), .slice (some ⟨gr19, 0, none⟩) s1.length cfv15u, .slice (some ⟨gr20, 0, none⟩) t1.length cfv15v]) (by simp only [results, Try.results104]; go_simp) rfl ?_
    obtain ⟨hpB, hpT⟩ := cut_prog (b := b1) (e := toI v7 T B ht) hsm.out hDN (sliceB_in hsl.out).2.2.2 hL.out hx1.out
    have qB := hpB (b1 + v32 * v36) (by right; rw [hL0.out])
    have qT := hpT (v32 * (v52 - v36)) (by rw [if_pos (by omega), hL1.out, hL0.out])
    rw [show idxS (s1.getD D 0) F T B hf ht = L by rw [hv7.out]; exact hL.out, qB, qT]
    refine ⟨.slice (some ⟨gr19, 0, none⟩) s1.length cfv15u, .slice (some ⟨gr20, 0, none⟩) t1.length cfv15v, ?_, (O17.ints (by first | omega | (simp only [List.length_set]; omega))).lower (by omega), ?_, Xw10⟩
    ·
     unfold tidyB; rw [if_neg hcl68]
    ·
     unfold tidyT; rw [if_neg hcl68]
     have h7 := (O18.ints (by first | omega | (simp only [List.length_set]; omega))).lower (lo' := w.heap.size) (by omega)
     rw [List.set_set] at h7
     exact h7
  ·
   go_wp2_with fail
   by_cases hcl72 : countL (s1.set D (L.length : Int)) = 0
   ·
    refine (cleared_0 (b1 + (v32 * v36)) _ _ (s1.set D (L.length : Int)) _ _ ((O17.ints (by first | omega | (simp only [List.length_set]; omega))).ext qXt) hcl72).mono ?_
    rintro e w8 ⟨svO73, rfl, O73, xw8⟩
    have Lw8 : Ext w7 w8 := Ext.trans qXt xw8
    have Xw8 : Ext w w8 := Xw7.trans Lw8
    replace b10 := Lw8.cell b10
    replace b11 := Lw8.cell b11
    replace b12 := Lw8.cell b12
    replace b20 := Lw8.cell b20
    replace b21 := Lw8.cell b21
    replace b22 := Lw8.cell b22
    replace b23 := Lw8.cell b23
    replace b24 := Lw8.cell b24
    replace b30 := Lw8.cell b30
    replace b31 := Lw8.cell b31
    replace b32 := Lw8.cell b32
    replace f_b30 := Lw8.frz z_b3 f_b30
    replace f_b31 := Lw8.frz z_b3 f_b31
    replace f_b32 := Lw8.frz z_b3 f_b32
    replace b250 := Lw8.cell b250
    replace b251 := Lw8.cell b251
    replace b252 := Lw8.cell b252
    replace f_b250 := Lw8.frz z_b25 f_b250
    replace f_b251 := Lw8.frz z_b25 f_b251
    replace f_b252 := Lw8.frz z_b25 f_b252
    replace e310 := Lw8.cell e310
    have z_b1 : w.heap.size < w8.heap.size := qB b10
    have z_b2 : w.heap.size + 1 < w8.heap.size := qB b20
    have z_b3 : w.heap.size + 1 + 1 < w8.heap.size := qB b30
    have z_b25 : w3.heap.size < w8.heap.size := qB b250
    have z_e31 : bl29 < w8.heap.size := qB e310
    replace i12 := i12.ext Lw8
    replace O17 := O17.ext Lw8
    replace O18 := O18.ext Lw8
    have s_w8 : w.heap.size ≤ w8.heap.size := Xw8.size
    have BL14_w8 : Ext w2 w8 := BL14_w7.trans Lw8
    clear xw8
    obtain ⟨aa74, cc75, rfl⟩ := (O73.ints (by simp; omega)).form
    rw [List.length_replicate] at O73 ⊢
    rw [List.length_set] at O73 ⊢
    go_wp2_with fail
    generalize hW9 : (((w8.setCell ⟨w.heap.size + 1 + 1, 0, none⟩ (.int .i64 0)).setCell ⟨w.heap.size + 1 + 1, 1, none⟩ (.slice (some ⟨gr19, 0, none⟩) s1.length cfv15u)).setCell ⟨w.heap.size + 1 + 1, 2, none⟩ (.slice aa74 s1.length cc75)) = w9 at *
    have Kw9 : Chg (w.heap.size + 1 + 1) (w.heap.size + 1 + 1 + 1) w8 w9 := by subst hW9; exact qCh
    have Xw9 : Ext w w9 := by subst hW9; exact qXt
    replace b10 := Kw9.cell (by omega) b10
    replace b11 := Kw9.cell (by omega) b11
    replace b12 := Kw9.cell (by omega) b12
    replace b20 := Kw9.cell (by omega) b20
    replace b21 := Kw9.cell (by omega) b21
    replace b22 := Kw9.cell (by omega) b22
    replace b23 := Kw9.cell (by omega) b23
    replace b24 := Kw9.cell (by omega) b24
    replace b30 : w9.cell? ⟨w.heap.size + 1 + 1, 0, none⟩ = some (.int .i64 0) := by subst hW9; go_simp
    replace f_b30 : w9.frozen? ⟨w.heap.size + 1 + 1, 0, none⟩ = false := by subst hW9; go_simp
    replace b31 : w9.cell? ⟨w.heap.size + 1 + 1, 1, none⟩ = some (.slice (some ⟨gr19, 0, none⟩) s1.length cfv15u) := by subst hW9; go_simp
    replace f_b31 : w9.frozen? ⟨w.heap.size + 1 + 1, 1, none⟩ = false := by subst hW9; go_simp
    replace b32 : w9.cell? ⟨w.heap.size + 1 + 1, 2, none⟩ = some (.slice aa74 s1.length cc75) := by subst hW9; go_simp
    replace f_b32 : w9.frozen? ⟨w.heap.size + 1 + 1, 2, none⟩ = false := by subst hW9; go_simp
    replace b250 := Kw9.cell (by omega) b250
    replace f_b250 := Kw9.frzO (by omega) z_b25 f_b250
    replace b251 := Kw9.cell (by omega) b251
    replace f_b251 := Kw9.frzO (by omega) z_b25 f_b251
    replace b252 := Kw9.cell (by omega) b252
    replace f_b252 := Kw9.frzO (by omega) z_b25 f_b252
    replace e310 := Kw9.cell (by omega) e310
    replace i12 := i12.chg Kw9 (by omega)
    replace O17 := O17.chgN Kw9 (by omega)
    replace O18 := O18.chgN Kw9 (by omega)
    replace O73 := O73.chg Kw9 (by omega)
    clear Kw9
    have z_b1 : w.heap.size < w9.heap.size := qB b10
    have z_b2 : w.heap.size + 1 < w9.heap.size := qB b20
    have z_b3 : w.heap.size + 1 + 1 < w9.heap.size := qB b30
    have z_b25 : w3.heap.size < w9.heap.size := qB b250
    have z_e31 : bl29 < w9.heap.size := qB e310
    have s_w9 : w.heap.size ≤ w9.heap.size := Xw9.size
    clear hW9
    refine bodyPost_ret (v := .agg #[.int .i64 0, .slice (some ⟨gr19, 0, none⟩) s1.length cfv15u, .slice aa74 s1.length cc75]) (by simp only [results, Try.results104]; go_simp) rfl ?_
    obtain ⟨hpB, hpT⟩ := cut_prog (b := b1) (e := toI v7 T B ht) hsm.out hDN (sliceB_in hsl.out).2.2.2 hL.out hx1.out
    have qB := hpB (b1 + v32 * v36) (by right; rw [hL0.out])
    have qT := hpT (0) (by rw [if_neg (by omega)])
    rw [show idxS (s1.getD D 0) F T B hf ht = L by rw [hv7.out]; exact hL.out, qB, qT]
    refine ⟨.slice (some ⟨gr19, 0, none⟩) s1.length cfv15u, .slice aa74 s1.length cc75, ?_, (O17.ints (by first | omega | (simp only [List.length_set]; omega))).lower (by omega), ?_, Xw9⟩
    ·
     unfold tidyB; rw [if_pos hcl72]
    ·
     unfold tidyT; rw [if_pos hcl72, List.length_set]
     exact (O73.ints (by simp; omega)).lower (by omega)
   ·
    refine (cleared_1 (b1 + (v32 * v36)) _ _ (s1.set D (L.length : Int)) (t1.set D 0) _ _ _ ((O17.ints (by first | omega | (simp only [List.length_set]; omega))).ext qXt) ((O18.ints (by first | omega | (simp only [List.length_set]; omega))).ext qXt) hcl72).mono ?_
    rintro e w8 ⟨rfl, xw8⟩
    have Lw8 : Ext w7 w8 := Ext.trans qXt xw8
    have Xw8 : Ext w w8 := Xw7.trans Lw8
    replace b10 := Lw8.cell b10
    replace b11 := Lw8.cell b11
    replace b12 := Lw8.cell b12
    replace b20 := Lw8.cell b20
    replace b21 := Lw8.cell b21
    replace b22 := Lw8.cell b22
    replace b23 := Lw8.cell b23
    replace b24 := Lw8.cell b24
    replace b30 := Lw8.cell b30
    replace b31 := Lw8.cell b31
    replace b32 := Lw8.cell b32
    replace f_b30 := Lw8.frz z_b3 f_b30
    replace f_b31 := Lw8.frz z_b3 f_b31
    replace f_b32 := Lw8.frz z_b3 f_b32
    replace b250 := Lw8.cell b250
    replace b251 := Lw8.cell b251
    replace b252 := Lw8.cell b252
    replace f_b250 := Lw8.frz z_b25 f_b250
    replace f_b251 := Lw8.frz z_b25 f_b251
    replace f_b252 := Lw8.frz z_b25 f_b252
    replace e310 := Lw8.cell e310
    have z_b1 : w.heap.size < w8.heap.size := qB b10
    have z_b2 : w.heap.size + 1 < w8.heap.size := qB b20
    have z_b3 : w.heap.size + 1 + 1 < w8.heap.size := qB b30
    have z_b25 : w3.heap.size < w8.heap.size := qB b250
    have z_e31 : bl29 < w8.heap.size := qB e310
    replace i12 := i12.ext Lw8
    replace O17 := O17.ext Lw8
    replace O18 := O18.ext Lw8
    have s_w8 : w.heap.size ≤ w8.heap.size := Xw8.size
    have BL14_w8 : Ext w2 w8 := BL14_w7.trans Lw8
    clear xw8
    go_wp2_with fail
    generalize hW10 : (((w8.setCell ⟨w.heap.size + 1 + 1, 0, none⟩ (.int .i64 (b1 + (v32 * v36)))).setCell ⟨w.heap.size + 1 + 1, 1, none⟩ (.slice (some ⟨gr19, 0, none⟩) s1.length cfv15u)).setCell ⟨w.heap.size + 1 + 1, 2, none⟩ (.slice (some ⟨gr20, 0, none⟩) t1.length cfv15v)) = w9 at *
    have Kw9 : Chg (w.heap.size + 1 + 1) (w.heap.size + 1 + 1 + 1) w8 w9 := by subst hW10; exact qCh
    have Xw9 : Ext w w9 := by subst hW10; exact qXt
    replace b10 := Kw9.cell (by omega) b10
    replace b11 := Kw9.cell (by omega) b11
    replace b12 := Kw9.cell (by omega) b12
    replace b20 := Kw9.cell (by omega) b20
    replace b21 := Kw9.cell (by omega) b21
    replace b22 := Kw9.cell (by omega) b22
    replace b23 := Kw9.cell (by omega) b23
    replace b24 := Kw9.cell (by omega) b24
    replace b30 : w9.cell? ⟨w.heap.size + 1 + 1, 0, none⟩ = some (.int .i64 (b1 + (v32 * v36))) := by subst hW10; go_simp
    replace f_b30 : w9.frozen? ⟨w.heap.size + 1 + 1, 0, none⟩ = false := by subst hW10; go_simp
    replace b31 : w9.cell? ⟨w.heap.size + 1 + 1, 1, none⟩ = some (.slice (some ⟨gr19, 0, none⟩) s1.length cfv15u) := by subst hW10; go_simp
    replace f_b31 : w9.frozen? ⟨w.heap.size + 1 + 1, 1, none⟩ = false := by subst hW10; go_simp
    replace b32 : w9.cell? ⟨w.heap.size + 1 + 1, 2, none⟩ = some (.slice (some ⟨gr20, 0, none⟩) t1.length cfv15v) := by subst hW10; go_simp
    replace f_b32 : w9.frozen? ⟨w.heap.size + 1 + 1, 2, none⟩ = false := by subst hW10; go_simp
    replace b250 := Kw9.cell (by omega) b250
    replace f_b250 := Kw9.frzO (by omega) z_b25 f_b250
    replace b251 := Kw9.cell (by omega) b251
    replace f_b251 := Kw9.frzO (by omega) z_b25 f_b251
    replace b252 := Kw9.cell (by omega) b252
    replace f_b252 := Kw9.frzO (by omega) z_b25 f_b252
    replace e310 := Kw9.cell (by omega) e310
    replace i12 := i12.chg Kw9 (by omega)
    replace O17 := O17.chgN Kw9 (by omega)
    replace O18 := O18.chgN Kw9 (by omega)
    clear Kw9
    have z_b1 : w.heap.size < w9.heap.size := qB b10
    have z_b2 : w.heap.size + 1 < w9.heap.size := qB b20
    have z_b3 : w.heap.size + 1 + 1 < w9.heap.size := qB b30
    have z_b25 : w3.heap.size < w9.heap.size := qB b250
    have z_e31 : bl29 < w9.heap.size := qB e310
    have s_w9 : w.heap.size ≤ w9.heap.size := Xw9.size
    clear hW10
    refine bodyPost_ret (v := .agg #[.int .i64 (b1 + (v32 * v36)), .slice (some ⟨gr19, 0, none⟩) s1.length cfv15u, .slice (some ⟨gr20, 0, none⟩) t1.length cfv15v]) (by simp only [results, Try.results104]; go_simp) rfl ?_
    obtain ⟨hpB, hpT⟩ := cut_prog (b := b1) (e := toI v7 T B ht) hsm.out hDN (sliceB_in hsl.out).2.2.2 hL.out hx1.out
    have qB := hpB (b1 + v32 * v36) (by right; rw [hL0.out])
    have qT := hpT (0) (by rw [if_neg (by omega)])
    rw [show idxS (s1.getD D 0) F T B hf ht = L by rw [hv7.out]; exact hL.out, qB, qT]
    refine ⟨.slice (some ⟨gr19, 0, none⟩) s1.length cfv15u, .slice (some ⟨gr20, 0, none⟩) t1.length cfv15v, ?_, (O17.ints (by first | omega | (simp only [List.length_set]; omega))).lower (by omega), ?_, Xw9⟩
    ·
     unfold tidyB; rw [if_neg hcl72]
    ·
     unfold tidyT; rw [if_neg hcl72]
     exact (O18.ints (by first | omega | (simp only [List.length_set]; omega))).lower (by omega)
 ·
  have hq76 : ¬ ((1 : Int) < (L.length : Int)) := (by omega)
  go_wp2_with fail
  generalize hW11 : (w5.setCell ⟨gr20, D, none⟩ (.int .i64 0)) = w6 at *
  have Kw6 : Chg (gr20) (gr20 + 1) w5 w6 := by subst hW11; exact qCh
  have Xw6 : Ext w w6 := by subst hW11; exact qXt
  have BL14_w6 : Ext w2 w6 := by subst hW11; exact qXt
  replace b10 := BL14_w6.cell Q13_b10.out
  replace b11 := BL14_w6.cell Q13_b11.out
  replace b12 := BL14_w6.cell Q13_b12.out
  replace b20 := BL14_w6.cell Q13_b20.out
  replace b21 := BL14_w6.cell Q13_b21.out
  replace b22 := BL14_w6.cell Q13_b22.out
  replace b23 := BL14_w6.cell Q13_b23.out
  replace b24 := BL14_w6.cell Q13_b24.out
  replace b30 := BL14_w6.cell Q13_b30.out
  replace f_b30 := BL14_w6.frz Q13_zb3 Q13_f_b30.out
  replace b31 := BL14_w6.cell Q13_b31.out
  replace f_b31 := BL14_w6.frz Q13_zb3 Q13_f_b31.out
  replace b32 := BL14_w6.cell Q13_b32.out
  replace f_b32 := BL14_w6.frz Q13_zb3 Q13_f_b32.out
  replace b250 := Kw6.cell (by omega) b250
  replace f_b250 := Kw6.frzO (by omega) z_b25 f_b250
  replace b251 := Kw6.cell (by omega) b251
  replace f_b251 := Kw6.frzO (by omega) z_b25 f_b251
  replace b252 := Kw6.cell (by omega) b252
  replace f_b252 := Kw6.frzO (by omega) z_b25 f_b252
  replace i12 := (Q13_i12.out).ext BL14_w6
  replace O17 := O17.chgN Kw6 (by omega)
  have n_O18 := O18.set D (0) (by first | omega | (simp; omega) | (rw [putUp_len]; simp; omega) | (rw [addUp_len]; omega))
  rw [hW11] at n_O18
  replace O18 := n_O18
  clear n_O18
  clear Kw6
  have z_b1 : w.heap.size < w6.heap.size := qB b10
  have z_b2 : w.heap.size + 1 < w6.heap.size := qB b20
  have z_b3 : w.heap.size + 1 + 1 < w6.heap.size := qB b30
  have z_b25 : w3.heap.size < w6.heap.size := qB b250
  have s_w6 : w.heap.size ≤ w6.heap.size := Xw6.size
  clear hW11
  clear A27a A27b
  by_cases hcl77 : countL (s1.set D (L.length : Int)) = 0
  ·
   refine (cleared_0 b1 _ _ (s1.set D (L.length : Int)) _ _ ((O17.ints (by first | omega | (simp only [List.length_set]; omega))).ext qXt) hcl77).mono ?_
   rintro e w7 ⟨svO78, rfl, O78, xw7⟩
   have Lw7 : Ext w6 w7 := Ext.trans qXt xw7
   have Xw7 : Ext w w7 := Xw6.trans Lw7
   replace b10 := Lw7.cell b10
   replace b11 := Lw7.cell b11
   replace b12 := Lw7.cell b12
   replace b20 := Lw7.cell b20
   replace b21 := Lw7.cell b21
   replace b22 := Lw7.cell b22
   replace b23 := Lw7.cell b23
   replace b24 := Lw7.cell b24
   replace b30 := Lw7.cell b30
   replace b31 := Lw7.cell b31
   replace b32 := Lw7.cell b32
   replace f_b30 := Lw7.frz z_b3 f_b30
   replace f_b31 := Lw7.frz z_b3 f_b31
   replace f_b32 := Lw7.frz z_b3 f_b32
   replace b250 := Lw7.cell b250
   replace b251 := Lw7.cell b251
   replace b252 := Lw7.cell b252
   replace f_b250 := Lw7.frz z_b25 f_b250
   replace f_b251 := Lw7.frz z_b25 f_b251
   replace f_b252 := Lw7.frz z_b25 f_b252
   have z_b1 : w.heap.size < w7.heap.size := qB b10
   have z_b2 : w.heap.size + 1 < w7.heap.size := qB b20
   have z_b3 : w.heap.size + 1 + 1 < w7.heap.size := qB b30
   have z_b25 : w3.heap.size < w7.heap.size := qB b250
   replace i12 := i12.ext Lw7
   replace O17 := O17.ext Lw7
   replace O18 := O18.ext Lw7
   have s_w7 : w.heap.size ≤ w7.heap.size := Xw7.size
   have BL14_w7 : Ext w2 w7 := BL14_w6.trans Lw7
   clear xw7
   obtain ⟨aa79, cc80, rfl⟩ := (O78.ints (by simp; omega)).form
   rw [List.length_replicate] at O78 ⊢
   rw [List.length_set] at O78 ⊢
   go_wp2_with fail
   generalize hW12 : (((w7.setCell ⟨w.heap.size + 1 + 1, 0, none⟩ (.int .i64 0)).setCell ⟨w.heap.size + 1 + 1, 1, none⟩ (.slice (some ⟨gr19, 0, none⟩) s1.length cfv15u)).setCell ⟨w.heap.size + 1 + 1, 2, none⟩ (.slice aa79 s1.length cc80)) = w8 at *
   have Kw8 : Chg (w.heap.size + 1 + 1) (w.heap.size + 1 + 1 + 1) w7 w8 := by subst hW12; exact qCh
   have Xw8 : Ext w w8 := by subst hW12; exact qXt
   replace b10 := Kw8.cell (by omega) b10
   replace b11 := Kw8.cell (by omega) b11
   replace b12 := Kw8.cell (by omega) b12
   replace b20 := Kw8.cell (by omega) b20
   replace b21 := Kw8.cell (by omega) b21
   replace b22 := Kw8.cell (by omega) b22
   replace b23 := Kw8.cell (by omega) b23
   replace b24 := Kw8.cell (by omega) b24
   replace b30 : w8.cell? ⟨w.heap.size + 1 + 1, 0, none⟩ = some (.int .i64 0) := by subst hW12; go_simp
   replace f_b30 : w8.frozen? ⟨w.heap.size + 1 + 1, 0, none⟩ = false := by subst hW12; go_simp
   replace b31 : w8.cell? ⟨w.heap.size + 1 + 1, 1, none⟩ = some (.slice (some ⟨gr19, 0, none⟩) s1.length cfv15u) := by subst hW12; go_simp
   replace f_b31 : w8.frozen? ⟨w.heap.size + 1 + 1, 1, none⟩ = false := by subst hW12; go_simp
   replace b32 : w8.cell? ⟨w.heap.size + 1 + 1, 2, none⟩ = some (.slice aa79 s1.length cc80) := by subst hW12; go_simp
   replace f_b32 : w8.frozen? ⟨w.heap.size + 1 + 1, 2, none⟩ = false := by subst hW12; go_simp
   replace b250 := Kw8.cell (by omega) b250
   replace f_b250 := Kw8.frzO (by omega) z_b25 f_b250
   replace b251 := Kw8.cell (by omega) b251
   replace f_b251 := Kw8.frzO (by omega) z_b25 f_b251
   replace b252 := Kw8.cell (by omega) b252
   replace f_b252 := Kw8.frzO (by omega) z_b25 f_b252
   replace i12 := i12.chg Kw8 (by omega)
   replace O17 := O17.chgN Kw8 (by omega)
   replace O18 := O18.chgN Kw8 (by omega)
   replace O78 := O78.chg Kw8 (by omega)
   clear Kw8
   have z_b1 : w.heap.size < w8.heap.size := qB b10
   have z_b2 : w.heap.size + 1 < w8.heap.size := qB b20
   have z_b3 : w.heap.size + 1 + 1 < w8.heap.size := qB b30
   have z_b25 : w3.heap.size < w8.heap.size := qB b250
   have s_w8 : w.heap.size ≤ w8.heap.size := Xw8.size
   clear hW12
   refine bodyPost_ret (v := .agg #[.int .i64 0, .slice (some ⟨gr19, 0, none⟩) s1.length cfv15u, .slice aa79 s1.length cc80]) (by simp only [results, Try.results104]; go_simp) rfl ?_
   obtain ⟨hpB, hpT⟩ := cut_prog (b := b1) (e := toI v7 T B ht) hsm.out hDN (sliceB_in hsl.out).2.2.2 hL.out (rfl : t1.getD D 0 = t1.getD D 0)
   have qB := hpB (b1) (by left; omega)
   have qT := hpT (0) (by rw [if_neg (by omega)])
   rw [show idxS (s1.getD D 0) F T B hf ht = L by rw [hv7.out]; exact hL.out, qB, qT]
   refine ⟨.slice (some ⟨gr19, 0, none⟩) s1.length cfv15u, .slice aa79 s1.length cc80, ?_, (O17.ints (by first | omega | (simp only [List.length_set]; omega))).lower (by omega), ?_, Xw8⟩
   ·
    unfold tidyB; rw [if_pos hcl77]
   ·
    unfold tidyT; rw [if_pos hcl77, List.length_set]
    exact (O78.ints (by simp; omega)).lower (by omega)
  ·
   refine (cleared_1 b1 _ _ (s1.set D (L.length : Int)) (t1.set D 0) _ _ _ ((O17.ints (by first | omega | (simp only [List.length_set]; omega))).ext qXt) ((O18.ints (by first | omega | (simp only [List.length_set]; omega))).ext qXt) hcl77).mono ?_
   rintro e w7 ⟨rfl, xw7⟩
   have Lw7 : Ext w6 w7 := Ext.trans qXt xw7
   have Xw7 : Ext w w7 := Xw6.trans Lw7
   replace b10 := Lw7.cell b10
   replace b11 := Lw7.cell b11
   replace b12 := Lw7.cell b12
   replace b20 := Lw7.cell b20
   replace b21 := Lw7.cell b21
   replace b22 := Lw7.cell b22
   replace b23 := Lw7.cell b23
   replace b24 := Lw7.cell b24
   replace b30 := Lw7.cell b30
   replace b31 := Lw7.cell b31
   replace b32 := Lw7.cell b32
   replace f_b30 := Lw7.frz z_b3 f_b30
   replace f_b31 := Lw7.frz z_b3 f_b31
   replace f_b32 := Lw7.frz z_b3 f_b32
   replace b250 := Lw7.cell b250
   replace b251 := Lw7.cell b251
   replace b252 := Lw7.cell b252
   replace f_b250 := Lw7.frz z_b25 f_b250
   replace f_b251 := Lw7.frz z_b25 f_b251
   replace f_b252 := Lw7.frz z_b25 f_b252
   have z_b1 : w.heap.size < w7.heap.size := qB b10
   have z_b2 : w.heap.size + 1 < w7.heap.size := qB b20
   have z_b3 : w.heap.size + 1 + 1 < w7.heap.size := qB b30
   have z_b25 : w3.heap.size < w7.heap.size := qB b250
   replace i12 := i12.ext Lw7
   replace O17 := O17.ext Lw7
   replace O18 := O18.ext Lw7
   have s_w7 : w.heap.size ≤ w7.heap.size := Xw7.size
   have BL14_w7 : Ext w2 w7 := BL14_w6.trans Lw7
   clear xw7
   go_wp2_with fail
   generalize hW13 : (((w7.setCell ⟨w.heap.size + 1 + 1, 0, none⟩ (.int .i64 b1)).setCell ⟨w.heap.size + 1 + 1, 1, none⟩ (.slice (some ⟨gr19, 0, none⟩) s1.length cfv15u)).setCell ⟨w.heap.size + 1 + 1, 2, none⟩ (.slice (some ⟨gr20, 0, none⟩) t1.length cfv15v)) = w8 at *
   have Kw8 : Chg (w.heap.size + 1 + 1) (w.heap.size + 1 + 1 + 1) w7 w8 := by subst hW13; exact qCh
   have Xw8 : Ext w w8 := by subst hW13; exact qXt
   replace b10 := Kw8.cell (by omega) b10
   replace b11 := Kw8.cell (by omega) b11
   replace b12 := Kw8.cell (by omega) b12
   replace b20 := Kw8.cell (by omega) b20
   replace b21 := Kw8.cell (by omega) b21
   replace b22 := Kw8.cell (by omega) b22
   replace b23 := Kw8.cell (by omega) b23
   replace b24 := Kw8.cell (by omega) b24
   replace b30 : w8.cell? ⟨w.heap.size + 1 + 1, 0, none⟩ = some (.int .i64 b1) := by subst hW13; go_simp
   replace f_b30 : w8.frozen? ⟨w.heap.size + 1 + 1, 0, none⟩ = false := by subst hW13; go_simp
   replace b31 : w8.cell? ⟨w.heap.size + 1 + 1, 1, none⟩ = some (.slice (some ⟨gr19, 0, none⟩) s1.length cfv15u) := by subst hW13; go_simp
   replace f_b31 : w8.frozen? ⟨w.heap.size + 1 + 1, 1, none⟩ = false := by subst hW13; go_simp
   replace b32 : w8.cell? ⟨w.heap.size + 1 + 1, 2, none⟩ = some (.slice (some ⟨gr20, 0, none⟩) t1.length cfv15v) := by subst hW13; go_simp
   replace f_b32 : w8.frozen? ⟨w.heap.size + 1 + 1, 2, none⟩ = false := by subst hW13; go_simp
   replace b250 := Kw8.cell (by omega) b250
   replace f_b250 := Kw8.frzO (by omega) z_b25 f_b250
   replace b251 := Kw8.cell (by omega) b251
   replace f_b251 := Kw8.frzO (by omega) z_b25 f_b251
   replace b252 := Kw8.cell (by omega) b252
   replace f_b252 := Kw8.frzO (by omega) z_b25 f_b252
   replace i12 := i12.chg Kw8 (by omega)
   replace O17 := O17.chgN Kw8 (by omega)
   replace O18 := O18.chgN Kw8 (by omega)
   clear Kw8
   have z_b1 : w.heap.size < w8.heap.size := qB b10
   have z_b2 : w.heap.size + 1 < w8.heap.size := qB b20
   have z_b3 : w.heap.size + 1 + 1 < w8.heap.size := qB b30
   have z_b25 : w3.heap.size < w8.heap.size := qB b250
   have s_w8 : w.heap.size ≤ w8.heap.size := Xw8.size
   clear hW13
   refine bodyPost_ret (v := .agg #[.int .i64 b1, .slice (some ⟨gr19, 0, none⟩) s1.length cfv15u, .slice (some ⟨gr20, 0, none⟩) t1.length cfv15v]) (by simp only [results, Try.results104]; go_simp) rfl ?_
   obtain ⟨hpB, hpT⟩ := cut_prog (b := b1) (e := toI v7 T B ht) hsm.out hDN (sliceB_in hsl.out).2.2.2 hL.out (rfl : t1.getD D 0 = t1.getD D 0)
   have qB := hpB (b1) (by left; omega)
   have qT := hpT (0) (by rw [if_neg (by omega)])
   rw [show idxS (s1.getD D 0) F T B hf ht = L by rw [hv7.out]; exact hL.out, qB, qT]
   refine ⟨.slice (some ⟨gr19, 0, none⟩) s1.length cfv15u, .slice (some ⟨gr20, 0, none⟩) t1.length cfv15v, ?_, (O17.ints (by first | omega | (simp only [List.length_set]; omega))).lower (by omega), ?_, Xw8⟩
   ·
    unfold tidyB; rw [if_neg hcl77]
   ·
    unfold tidyT; rw [if_neg hcl77]
    exact (O18.ints (by first | omega | (simp only [List.length_set]; omega))).lower (by omega)


end Go.Proofs.Ytonnnjaooifpjaa

/- Walks: SliceDim of the program. -/
namespace Go.Proofs.Ytonnnjaooifpjaa
open Go.RowKit
set_option linter.unusedVariables false
set_option maxRecDepth 100000


theorem sliceDim_e (b1 : Int) (u1 v1 : Value) (s1 t1 : List Int) (D : Nat) (F T B : Int) (hf ht : Bool) (CB : Int) (CS CT : List Int) (w : World) (l1 m1 : Nat) (h1 : Ints w l1 u1 s1) (k1 : Ints w m1 v1 t1) (hvv : viewB b1 s1 t1 = true) (hDN : D < s1.length) (hsl : sliceB F T B hf ht = true)
    (e1 : cutB b1 s1 t1 D (idxS (s1.getD D 0) F T B hf ht) = CB) (e2 : cutS s1 D (idxS (s1.getD D 0) F T B hf ht) = CS) (e3 : cutT s1 t1 D (idxS (s1.getD D 0) F T B hf ht) = CT) :
    Calls Try.prog 104 #[.agg #[.int .i64 b1, u1, v1], .int .i64 (D : Int), .agg #[.int .i64 F, .int .i64 T, .int .i64 B, .bool hf, .bool ht]] w (PVW w CB CS CT) := by
  subst e1; subst e2; subst e3
  exact sliceDim_c b1 u1 v1 s1 t1 D F T B hf ht w l1 m1 h1 k1 hvv hDN hsl
theorem slice_no0 {b : Int} {s t : List Int} {d F T B : Int} {hf ht : Bool} (h : dimB b s t d = false) : sliceV b s t d F T B hf ht = noV := by
  unfold dimB at h
  unfold sliceV
  rw [if_neg]
  intro h2
  simp only [Bool.and_eq_true] at h2
  rw [h2.1, h2.2.1] at h; cases h
theorem slice_no1 {b : Int} {s t : List Int} {d F T B : Int} {hf ht : Bool} (h : sliceB F T B hf ht = false) : sliceV b s t d F T B hf ht = noV := by
  unfold sliceV; rw [h, Bool.and_false, Bool.and_false]; rfl
theorem slice_yes {b : Int} {s t : List Int} {D : Nat} {F T B : Int} {hf ht : Bool} (h : dimB b s t (D : Int) = true) (h2 : sliceB F T B hf ht = true) :
    sliceV b s t (D : Int) F T B hf ht = (cutB b s t D (idxS (s.getD D 0) F T B hf ht), cutS s D (idxS (s.getD D 0) F T B hf ht), cutT s t D (idxS (s.getD D 0) F T B hf ht), true) := by
  unfold dimB at h
  rw [Bool.and_eq_true] at h
  unfold sliceV
  rw [if_pos (by rw [h.1, h.2, h2]; rfl), Int.toNat_natCast]

set_option maxHeartbeats 3200000 in
theorem implSliceDim_c (b1 : Int) (u1 v1 : Value) (s1 t1 : List Int) (d F T B : Int) (hf ht : Bool) (w : World) (l1 m1 : Nat) (h1 : Ints w l1 u1 s1) (k1 : Ints w m1 v1 t1) :
    Calls Try.prog 43 #[.agg #[.int .i64 b1, u1, v1], .int .i64 d, .agg #[.int .i64 F, .int .i64 T, .int .i64 B, .bool hf, .bool ht]] w (PVX w (sliceV b1 s1 t1 d F T B hf ht)) := by
  obtain ⟨p0, c0, rfl⟩ := h1.form
  obtain ⟨p1, c1, rfl⟩ := k1.form
  go_enter Try.func43, Try.ntmps43
  go_wp2_with fail
  refine (hasDim_c b1 (.slice p0 s1.length c0) (.slice p1 t1.length c1) s1 t1 d _ _ _ (h1.ext qXt) (k1.ext qXt)).mono ?_
  rintro e w1 ⟨rfl, xw1⟩
  have Lw1 : Ext w w1 := Ext.trans qXt xw1
  have Xw1 : Ext w w1 := Lw1
  have b10 : w1.cell? ⟨w.heap.size, 0, none⟩ = some (.int .i64 b1) := xw1.cell qCl
  have b11 : w1.cell? ⟨w.heap.size, 1, none⟩ = some (.slice p0 s1.length c0) := xw1.cell qCl
  have b12 : w1.cell? ⟨w.heap.size, 2, none⟩ = some (.slice p1 t1.length c1) := xw1.cell qCl
  have b20 : w1.cell? ⟨w.heap.size + 1, 0, none⟩ = some (.int .i64 F) := xw1.cell qCl
  have b21 : w1.cell? ⟨w.heap.size + 1, 1, none⟩ = some (.int .i64 T) := xw1.cell qCl
  have b22 : w1.cell? ⟨w.heap.size + 1, 2, none⟩ = some (.int .i64 B) := xw1.cell qCl
  have b23 : w1.cell? ⟨w.heap.size + 1, 3, none⟩ = some (.bool hf) := xw1.cell qCl
  have b24 : w1.cell? ⟨w.heap.size + 1, 4, none⟩ = some (.bool ht) := xw1.cell qCl
  have b30 : w1.cell? ⟨w.heap.size + 1 + 1, 0, none⟩ = some (.int .i64 0) := xw1.cell qCl
  have b31 : w1.cell? ⟨w.heap.size + 1 + 1, 1, none⟩ = some (.slice none 0 0) := xw1.cell qCl
  have b32 : w1.cell? ⟨w.heap.size + 1 + 1, 2, none⟩ = some (.slice none 0 0) := xw1.cell qCl
  have f_b30 : w1.frozen? ⟨w.heap.size + 1 + 1, 0, none⟩ = false := xw1.frz (by simp <;> omega) qFz
  have f_b31 : w1.frozen? ⟨w.heap.size + 1 + 1, 1, none⟩ = false := xw1.frz (by simp <;> omega) qFz
  have f_b32 : w1.frozen? ⟨w.heap.size + 1 + 1, 2, none⟩ = false := xw1.frz (by simp <;> omega) qFz
  have z_b1 : w.heap.size < w1.heap.size := qB b10
  have z_b2 : w.heap.size + 1 < w1.heap.size := qB b20
  have z_b3 : w.heap.size + 1 + 1 < w1.heap.size := qB b30
  have s_w1 : w.heap.size ≤ w1.heap.size := Xw1.size
  clear xw1
  cases hB4 : dimB b1 s1 t1 d
  · replace hB4 := Lib.hid hB4
    go_wp2_with fail
    generalize hW1 : (((w1.setCell ⟨w.heap.size + 1 + 1, 0, none⟩ (.int .i64 0)).setCell ⟨w.heap.size + 1 + 1, 1, none⟩ (.slice none 0 0)).setCell ⟨w.heap.size + 1 + 1, 2, none⟩ (.slice none 0 0)) = w2 at *
    have Kw2 : Chg (w.heap.size + 1 + 1) (w.heap.size + 1 + 1 + 1) w1 w2 := by subst hW1; exact qCh
    have Xw2 : Ext w w2 := by subst hW1; exact qXt
    replace b10 := Kw2.cell (by omega) b10
    replace b11 := Kw2.cell (by omega) b11
    replace b12 := Kw2.cell (by omega) b12
    replace b20 := Kw2.cell (by omega) b20
    replace b21 := Kw2.cell (by omega) b21
    replace b22 := Kw2.cell (by omega) b22
    replace b23 := Kw2.cell (by omega) b23
    replace b24 := Kw2.cell (by omega) b24
    replace b30 : w2.cell? ⟨w.heap.size + 1 + 1, 0, none⟩ = some (.int .i64 0) := by subst hW1; go_simp
    replace f_b30 : w2.frozen? ⟨w.heap.size + 1 + 1, 0, none⟩ = false := by subst hW1; go_simp
    replace b31 : w2.cell? ⟨w.heap.size + 1 + 1, 1, none⟩ = some (.slice none 0 0) := by subst hW1; go_simp
    replace f_b31 : w2.frozen? ⟨w.heap.size + 1 + 1, 1, none⟩ = false := by subst hW1; go_simp
    replace b32 : w2.cell? ⟨w.heap.size + 1 + 1, 2, none⟩ = some (.slice none 0 0) := by subst hW1; go_simp
    replace f_b32 : w2.frozen? ⟨w.heap.size + 1 + 1, 2, none⟩ = false := by subst hW1; go_simp
    clear Kw2
    have z_b1 : w.heap.size < w2.heap.size := qB b10
    have z_b2 : w.heap.size + 1 < w2.heap.size := qB b20
    have z_b3 : w.heap.size + 1 + 1 < w2.heap.size := qB b30
    have s_w2 : w.heap.size ≤ w2.heap.size := Xw2.size
    clear hW1
    refine bodyPost_ret (v := .tuple #[.agg #[.int .i64 0, .slice none 0 0, .slice none 0 0], .bool false]) (by simp only [results, Try.results43]; go_simp) rfl ?_
    rw [show sliceV b1 s1 t1 d F T B hf ht = noV from slice_no0 hB4.out]
    exact PVWB.no (Xw2.trans qXt)
  · replace hB4 := Lib.hid hB4
    obtain ⟨hvv, hd0, hd1⟩ := dim_in hB4.out
    obtain ⟨D, rfl⟩ : ∃ D : Nat, d = D := ⟨d.toNat, by omega⟩
    have hDN : D < s1.length := by omega
    obtain ⟨-, hts, -, ht60, -⟩ := viewB_in hvv
    have hs4 := view_small hvv
    have hs60 := Lib.hid hs4.2
    have hs4 := hs4.1
    have hDT : D < t1.length := by omega
    have ht4 : t1.length ≤ 4 := by omega
    have hdl4 : (delL s1 D).length ≤ 4 := by rw [delL_len _ _ hDN]; omega
    replace hts := Lib.hid hts
    replace ht60 := Lib.hid ht60
    replace hvv := Lib.hid hvv
    go_wp2_with fail
    refine (isSlice_c F T B hf ht _).mono ?_
    rintro e w2 ⟨rfl, xw2⟩
    have Lw2 : Ext w1 w2 := Ext.trans qXt xw2
    have Xw2 : Ext w w2 := Xw1.trans Lw2
    replace b10 := Lw2.cell b10
    replace b11 := Lw2.cell b11
    replace b12 := Lw2.cell b12
    replace b20 := Lw2.cell b20
    replace b21 := Lw2.cell b21
    replace b22 := Lw2.cell b22
    replace b23 := Lw2.cell b23
    replace b24 := Lw2.cell b24
    replace b30 := Lw2.cell b30
    replace b31 := Lw2.cell b31
    replace b32 := Lw2.cell b32
    replace f_b30 := Lw2.frz z_b3 f_b30
    replace f_b31 := Lw2.frz z_b3 f_b31
    replace f_b32 := Lw2.frz z_b3 f_b32
    have z_b1 : w.heap.size < w2.heap.size := qB b10
    have z_b2 : w.heap.size + 1 < w2.heap.size := qB b20
    have z_b3 : w.heap.size + 1 + 1 < w2.heap.size := qB b30
    have s_w2 : w.heap.size ≤ w2.heap.size := Xw2.size
    clear xw2
    cases hB5 : sliceB F T B hf ht
    · replace hB5 := Lib.hid hB5
      go_wp2_with fail
      generalize hW2 : (((w2.setCell ⟨w.heap.size + 1 + 1, 0, none⟩ (.int .i64 0)).setCell ⟨w.heap.size + 1 + 1, 1, none⟩ (.slice none 0 0)).setCell ⟨w.heap.size + 1 + 1, 2, none⟩ (.slice none 0 0)) = w3 at *
      have Kw3 : Chg (w.heap.size + 1 + 1) (w.heap.size + 1 + 1 + 1) w2 w3 := by subst hW2; exact qCh
      have Xw3 : Ext w w3 := by subst hW2; exact qXt
      replace b10 := Kw3.cell (by omega) b10
      replace b11 := Kw3.cell (by omega) b11
      replace b12 := Kw3.cell (by omega) b12
      replace b20 := Kw3.cell (by omega) b20
      replace b21 := Kw3.cell (by omega) b21
      replace b22 := Kw3.cell (by omega) b22
      replace b23 := Kw3.cell (by omega) b23
      replace b24 := Kw3.cell (by omega) b24
      replace b30 : w3.cell? ⟨w.heap.size + 1 + 1, 0, none⟩ = some (.int .i64 0) := by subst hW2; go_simp
      replace f_b30 : w3.frozen? ⟨w.heap.size + 1 + 1, 0, none⟩ = false := by subst hW2; go_simp
      replace b31 : w3.cell? ⟨w.heap.size + 1 + 1, 1, none⟩ = some (.slice none 0 0) := by subst hW2; go_simp
      replace f_b31 : w3.frozen? ⟨w.heap.size + 1 + 1, 1, none⟩ = false := by subst hW2; go_simp
      replace b32 : w3.cell? ⟨w.heap.size + 1 + 1, 2, none⟩ = some (.slice none 0 0) := by subst hW2; go_simp
      replace f_b32 : w3.frozen? ⟨w.heap.size + 1 + 1, 2, none⟩ = false := by subst hW2; go_simp
      clear Kw3
      have z_b1 : w.heap.size < w3.heap.size := qB b10
      have z_b2 : w.heap.size + 1 < w3.heap.size := qB b20
      have z_b3 : w.heap.size + 1 + 1 < w3.heap.size := qB b30
      have s_w3 : w.heap.size ≤ w3.heap.size := Xw3.size
      clear hW2
      refine bodyPost_ret (v := .tuple #[.agg #[.int .i64 0, .slice none 0 0, .slice none 0 0], .bool false]) (by simp only [results, Try.results43]; go_simp) rfl ?_
      rw [show sliceV b1 s1 t1 (D : Int) F T B hf ht = noV from slice_no1 hB5.out]
      exact PVWB.no (Xw3.trans qXt)
    · replace hB5 := Lib.hid hB5
      obtain ⟨CB, hCB⟩ : ∃ x, cutB b1 s1 t1 D (idxS (s1.getD D 0) F T B hf ht) = x := ⟨_, rfl⟩
      obtain ⟨CS, hCS⟩ : ∃ x, cutS s1 D (idxS (s1.getD D 0) F T B hf ht) = x := ⟨_, rfl⟩
      obtain ⟨CT, hCT⟩ : ∃ x, cutT s1 t1 D (idxS (s1.getD D 0) F T B hf ht) = x := ⟨_, rfl⟩
      replace hCB := Lib.hid hCB
      replace hCS := Lib.hid hCS
      replace hCT := Lib.hid hCT
      go_wp2_with fail
      refine (sliceDim_e b1 _ _ s1 t1 D F T B hf ht CB CS CT _ _ _ (h1.ext (Xw2.trans qXt)) (k1.ext (Xw2.trans qXt)) hvv.out hDN hB5.out hCB.out hCS.out hCT.out).mono ?_
      rintro e w3 ⟨fv6u, fv6v, rfl, i7u, i7v, xw3⟩
      have Lw3 : Ext w2 w3 := Ext.trans qXt xw3
      have Xw3 : Ext w w3 := Xw2.trans Lw3
      replace b10 := Lw3.cell b10
      replace b11 := Lw3.cell b11
      replace b12 := Lw3.cell b12
      replace b20 := Lw3.cell b20
      replace b21 := Lw3.cell b21
      replace b22 := Lw3.cell b22
      replace b23 := Lw3.cell b23
      replace b24 := Lw3.cell b24
      replace b30 := Lw3.cell b30
      replace b31 := Lw3.cell b31
      replace b32 := Lw3.cell b32
      replace f_b30 := Lw3.frz z_b3 f_b30
      replace f_b31 := Lw3.frz z_b3 f_b31
      replace f_b32 := Lw3.frz z_b3 f_b32
      have z_b1 : w.heap.size < w3.heap.size := qB b10
      have z_b2 : w.heap.size + 1 < w3.heap.size := qB b20
      have z_b3 : w.heap.size + 1 + 1 < w3.heap.size := qB b30
      have s_w3 : w.heap.size ≤ w3.heap.size := Xw3.size
      clear xw3
      obtain ⟨afv6u, cfv6u, rfl⟩ := i7u.form
      obtain ⟨afv6v, cfv6v, rfl⟩ := i7v.form
      go_wp2_with fail
      generalize hW3 : (((w3.setCell ⟨w.heap.size + 1 + 1, 0, none⟩ (.int .i64 CB)).setCell ⟨w.heap.size + 1 + 1, 1, none⟩ (.slice afv6u CS.length cfv6u)).setCell ⟨w.heap.size + 1 + 1, 2, none⟩ (.slice afv6v CT.length cfv6v)) = w4 at *
      have Kw4 : Chg (w.heap.size + 1 + 1) (w.heap.size + 1 + 1 + 1) w3 w4 := by subst hW3; exact qCh
      have Xw4 : Ext w w4 := by subst hW3; exact qXt
      replace b10 := Kw4.cell (by omega) b10
      replace b11 := Kw4.cell (by omega) b11
      replace b12 := Kw4.cell (by omega) b12
      replace b20 := Kw4.cell (by omega) b20
      replace b21 := Kw4.cell (by omega) b21
      replace b22 := Kw4.cell (by omega) b22
      replace b23 := Kw4.cell (by omega) b23
      replace b24 := Kw4.cell (by omega) b24
      replace b30 : w4.cell? ⟨w.heap.size + 1 + 1, 0, none⟩ = some (.int .i64 CB) := by subst hW3; go_simp
      replace f_b30 : w4.frozen? ⟨w.heap.size + 1 + 1, 0, none⟩ = false := by subst hW3; go_simp
      replace b31 : w4.cell? ⟨w.heap.size + 1 + 1, 1, none⟩ = some (.slice afv6u CS.length cfv6u) := by subst hW3; go_simp
      replace f_b31 : w4.frozen? ⟨w.heap.size + 1 + 1, 1, none⟩ = false := by subst hW3; go_simp
      replace b32 : w4.cell? ⟨w.heap.size + 1 + 1, 2, none⟩ = some (.slice afv6v CT.length cfv6v) := by subst hW3; go_simp
      replace f_b32 : w4.frozen? ⟨w.heap.size + 1 + 1, 2, none⟩ = false := by subst hW3; go_simp
      replace i7u := i7u.chg Kw4 (by omega)
      replace i7v := i7v.chg Kw4 (by omega)
      clear Kw4
      have z_b1 : w.heap.size < w4.heap.size := qB b10
      have z_b2 : w.heap.size + 1 < w4.heap.size := qB b20
      have z_b3 : w.heap.size + 1 + 1 < w4.heap.size := qB b30
      have s_w4 : w.heap.size ≤ w4.heap.size := Xw4.size
      clear hW3
      refine bodyPost_ret (v := .tuple #[.agg #[.int .i64 CB, .slice afv6u CS.length cfv6u, .slice afv6v CT.length cfv6v], .bool true]) (by simp only [results, Try.results43]; go_simp) rfl ?_
      rw [slice_yes hB4.out hB5.out, hCB.out, hCS.out, hCT.out]
      exact ⟨_, _, rfl, i7u.lower (by omega), i7v.lower (by omega), Xw4⟩


end Go.Proofs.Ytonnnjaooifpjaa

/- Plain laws: a picked number of a dimension, and the slice of that number alone. -/
namespace Go.Proofs.Ytonnnjaooifpjaa
open Go.RowKit
set_option linter.unusedVariables false
set_option maxRecDepth 100000

theorem numL_unit (j : Int) : numL j (j + 1) 1 = [j] := numL_one (cnt_of (n := 1) (by omega) fun k => by omega)
theorem idx_unit {e j : Int} (h0 : 0 ≤ j) (h1 : j < e) : idxS e j (j + 1) 1 true true = [j] := by
  have h2 : fromI e j 1 true = j := by unfold fromI boundI; simp; omega
  have h3 : toI e (j + 1) 1 true = j + 1 := by unfold toI boundI; simp; omega
  unfold idxS; rw [h2, h3, numL_unit]
theorem slice_unit {j : Int} (h0 : 0 ≤ j) (h1 : j ≤ 60) : sliceB j (j + 1) 1 true true = true := by
  unfold sliceB inB; simp; omega
theorem offC_unit : ∀ (s t : List Int) (d : Nat) (B : Int), d < s.length → t.length = s.length → offC B (s.set d 1) (t.set d 0) = offC B (delL s d) (delL t d)
  | e :: s, x :: t, 0, B, _, _ => by
    rw [delL_zero, delL_zero, List.set_cons_zero, List.set_cons_zero, offC_cons]; simp
  | e :: s, x :: t, d+1, B, h, hl => by
    rw [delL_succ, delL_succ, List.set_cons_succ, List.set_cons_succ, offC_cons, offC_cons, offC_unit s t d B (by simpa using h) (by simpa using hl)]
  | [], _, _, _, h, _ => by simp at h
  | _ :: _, [], _, _, _, h => by simp at h
theorem prod_unit {s : List Int} {d : Nat} (h : d < s.length) : prodL (s.set d 1) = prodL (delL s d) := by
  rw [prodL_set s d 1 h]
  unfold delL
  rw [prodL_append, Int.one_mul]
theorem pick_law {b : Int} {s t : List Int} {d x : Int} {PB : Int} {PS PT : List Int} (h : pickV b s t d x = (PB, PS, PT, true)) :
    ∃ (D : Nat) (J CB : Int) (CS CT : List Int), d = D ∧ D < s.length ∧ D < t.length ∧ s.length ≤ 4 ∧ (0 ≤ J ∧ J ≤ 60) ∧ (x < 0 → J = x + s.getD D 0) ∧ (¬ x < 0 → J = x) ∧ (0 ≤ s.getD D 0 ∧ s.getD D 0 ≤ 60) ∧
      sliceV b s t (D : Int) J (J + 1) 1 true true = (CB, CS, CT, true) ∧ offA PB PS PT = offA CB CS CT ∧ PS = delL s D := by
  by_cases hc : (dimB b s t d && (decide (-(s.getD d.toNat 0) ≤ x) && decide (x < s.getD d.toNat 0))) = true
  · have h0 := h
    unfold pickV at h
    rw [if_pos hc] at h
    simp only [Bool.and_eq_true, decide_eq_true_eq] at hc
    obtain ⟨hd, h1, h2⟩ := hc
    obtain ⟨hv, g1, g2⟩ := dim_in hd
    obtain ⟨D, rfl⟩ : ∃ D : Nat, d = D := ⟨d.toNat, by omega⟩
    rw [Int.toNat_natCast] at h h1 h2
    have hD : D < s.length := by omega
    obtain ⟨v1, v2, v3, v4, v5⟩ := viewB_in hv
    have hs := view_small hv
    have he := hs.2 _ (getD_mem hD)
    generalize hJ : (if x < 0 then x + s.getD D 0 else x) = J at h
    have hJ0 : 0 ≤ J ∧ J < s.getD D 0 := by split at hJ <;> omega
    injection h with e1 h
    injection h with e2 h
    injection h with e3 _
    have hL := idx_unit hJ0.1 hJ0.2
    have hsl := slice_unit hJ0.1 (show J ≤ 60 by omega)
    have hq : (1 : Int) ≠ 0 := by omega
    have hcv := cut_view (a := J) (e := J + 1) hv hD hq (by rw [numL_unit]; intro i hi; simp at hi; omega)
    rw [numL_unit] at hcv
    have hsv : sliceV b s t (D : Int) J (J + 1) 1 true true = (cutB b s t D [J], cutS s D [J], cutT s t D [J], true) := by
      rw [slice_yes hd hsl, hL]
    obtain ⟨pv1, pv2⟩ := pick_view hv hD hJ0.1 hJ0.2
    refine ⟨D, J, _, _, _, rfl, hD, by omega, hs.1, by omega, fun hx => by rw [if_pos hx] at hJ; exact hJ.symm, fun hx => by rw [if_neg hx] at hJ; exact hJ.symm, he, hsv, ?_, e2.symm⟩
    have hN : (normL [J]).1 = J := by
      have := (slice_first hq (numL_unit J)).1 (by simp); simpa using this
    have c1 : cutB b s t D [J] = tidyB (b + J * t.getD D 0) (s.set D 1) := by unfold cutB; rw [hN]; rfl
    have c2 : cutT s t D [J] = tidyT (s.set D 1) (t.set D 0) := by unfold cutT; rfl
    have c3 : cutS s D [J] = s.set D 1 := rfl
    have hs1 : Small (s.set D 1) := small_set hs D (by omega)
    have hcc : countL (s.set D 1) = countL (delL s D) := by rw [hs1.count.1, (del_small hs D hD).count.1, prod_unit hD]
    have hvc := hcv.1
    rw [c1, c2, c3] at hvc ⊢
    rw [← e1, ← e2, ← e3]
    unfold offA
    rw [if_pos pv1, if_pos hvc, pv2]
    by_cases hz : countL (delL s D) = 0
    · rw [if_pos hz]
      exact (List.eq_nil_of_length_eq_zero (by rw [offs_count, hcc, hz]; rfl)).symm
    · rw [if_neg hz, view_C hvc]
      unfold tidyB tidyT
      rw [if_neg (by rw [hcc]; exact hz), if_neg (by rw [hcc]; exact hz), offC_unit s t D _ hD v2]
  · unfold pickV at h
    rw [if_neg hc] at h
    simp [noV] at h
end Go.Proofs.Ytonnnjaooifpjaa

/- Plain laws: other shapes of the same cells, there and back. -/
namespace Go.Proofs.Ytonnnjaooifpjaa
open Go.RowKit
set_option linter.unusedVariables false
set_option linter.unusedSimpArgs false

/-- strides, 0 where there are not two -/
def maskR : List Int → List Int → List Int
  | e :: s, x :: t => (if 1 < e then x else 0) :: maskR s t
  | _, _ => []
theorem maskR_len : ∀ (s t : List Int), t.length = s.length → (maskR s t).length = s.length
  | [], [], _ => rfl
  | e :: s, x :: t, h => by rw [maskR, List.length_cons, List.length_cons, maskR_len s t (by simpa using h)]
  | [], x :: t, h => by simp at h
  | e :: s, [], h => by simp at h
theorem maskR_get : ∀ (s t : List Int) (i : Nat), t.length = s.length → i < s.length → (maskR s t).getD i 0 = if 1 < s.getD i 0 then t.getD i 0 else 0
  | [], _, i, _, h => absurd h (by simp)
  | e :: s, x :: t, 0, _, _ => by rw [maskR]; rfl
  | e :: s, x :: t, i+1, h, hi => by
    rw [maskR, List.getD_cons_succ, List.getD_cons_succ, List.getD_cons_succ]
    exact maskR_get s t i (by simpa using h) (by simpa using hi)
  | e :: s, [], _, h, _ => by simp at h
theorem mask_mem : ∀ {s t : List Int} {x : Int}, x ∈ maskR s t → x = 0 ∨ x ∈ t
  | [], _, x, h => by simp [maskR] at h
  | e :: s, [], x, h => by simp [maskR] at h
  | e :: s, y :: t, x, h => by
    rw [maskR] at h
    rcases List.mem_cons.1 h with h | h
    · split at h
      · exact .inr (h ▸ List.mem_cons_self ..)
      · exact .inl h
    · rcases mask_mem h with h | h
      · exact .inl h
      · exact .inr (List.mem_cons_of_mem _ h)
theorem mask_off : ∀ (s t : List Int) (b : Int), t.length = s.length → offC b s (maskR s t) = offC b s t
  | [], [], b, _ => rfl
  | e :: s, x :: t, b, h => by
    rw [maskR, offC_cons, offC_cons, mask_off s t b (by simpa using h)]
    refine flatMap_same fun i hi => ?_
    have hi := List.mem_range.1 hi
    by_cases h1 : 1 < e
    · rw [if_pos h1]
    · rw [if_neg h1]
      obtain rfl : i = 0 := by omega
      simp
  | [], x :: t, b, h => by simp at h
  | e :: s, [], b, h => by simp at h
theorem mask_view {b : Int} {s t : List Int} (h : viewB b s t = true) : viewB b s (maskR s t) = true ∧ offsL b s (maskR s t) = offsL b s t := by
  obtain ⟨h1, h2, h3, h4, h5⟩ := viewB_in h
  have hm := view_mild h
  have hm2 : Mild b (maskR s t) := ⟨hm.1, fun x hx => by
    rcases mask_mem hx with rfl | hx
    · omega
    · exact hm.2 x hx⟩
  have e : offsL b s (maskR s t) = offsL b s t := by rw [offs_C (view_small h) hm2, view_C h, mask_off s t b h2]
  refine ⟨viewB_mk h1 (by rw [maskR_len s t h2]) h3 (fun x hx => ?_) (by rw [e]; exact h5), e⟩
  rcases mask_mem hx with rfl | hx
  · omega
  · exact h4 x hx
theorem ext_getD {a b : List Int} (hl : a.length = b.length) (h : ∀ i, i < a.length → a.getD i 0 = b.getD i 0) : a = b := by
  apply List.ext_getElem hl
  intro i h1 h2
  have := h i h1
  rw [getD_get h1, getD_get h2] at this
  exact this
theorem rankC_set : ∀ (shape : List Int) (d : Nat) (x : Int), d < shape.length → rankC shape ((List.replicate shape.length 0).set d x) = x * prodL (shape.drop (d+1))
  | [], d, x, h => absurd h (by simp)
  | e :: s, 0, x, _ => by
    rw [List.length_cons, List.replicate_succ, List.set_cons_zero, rankC, rankC_zero]; simp
  | e :: s, d+1, x, h => by
    rw [List.length_cons, List.replicate_succ, List.set_cons_succ, rankC, rankC_set s d x (by simpa using h)]; simp
/-- the cell of the index that is not 0 in one dimension alone -/
theorem cell_set {b : Int} {s t : List Int} (h : viewB b s t = true) (hp : ∀ e ∈ s, 1 ≤ e) (d : Nat) (hd : d < s.length) (x : Int) (h0 : 0 ≤ x) (hx : x < s.getD d 0) :
    (0 ≤ x * prodL (s.drop (d+1)) ∧ x * prodL (s.drop (d+1)) < countL s) ∧ (offsL b s t).getD (x * prodL (s.drop (d+1))).toNat 0 = b + x * t.getD d 0 := by
  have hl := (viewB_in h).2.1
  have hr := ix_set s _ d x (ix_zero s hp) hd h0 hx
  have := offs_rank h hr
  have hsm := view_small h
  rw [rankL_eq (by simp) hsm (hr.small fun e he => (hsm.2 e he).2), rankC_set s d x hd, dotC_set _ _ d x b (by simpa using hd) (by simp [hl]), dotC_zero] at this
  refine ⟨this.1, this.2.trans ?_⟩
  have : (List.replicate s.length (0 : Int)).getD d 0 = 0 := by simp [hd]
  rw [this]; simp
theorem cell_zero {b : Int} {s t : List Int} (h : viewB b s t = true) (hp : ∀ e ∈ s, 1 ≤ e) : (offsL b s t).getD 0 0 = b := by
  have hr := ix_zero s hp
  have := offs_rank h hr
  have hsm := view_small h
  rw [rankL_eq (by simp) hsm (hr.small fun e he => (hsm.2 e he).2), rankC_zero, dotC_zero] at this
  exact this.2
theorem reshS_get (c s : List Int) (m i : Nat) (h : i < m) : (reshS c s m).getD i 0 = if 1 < s.getD i 0 then c.getD (countL (s.drop (i+1))).toNat 0 - c.getD 0 0 else 0 := by
  simp [reshS, h]
theorem small_pos {s : List Int} (h : Small s) (hc : countL s ≠ 0) : ∀ e ∈ s, 1 ≤ e := by
  have := h.count
  exact this.2.2.2 (by omega)
theorem resh_mask {b : Int} {s t : List Int} (h : viewB b s t = true) (hc : countL s ≠ 0) : reshS (offsL b s t) s s.length = maskR s t := by
  obtain ⟨h1, h2, h3, h4, h5⟩ := viewB_in h
  have hsm := view_small h
  have hp := small_pos hsm hc
  refine ext_getD (by rw [reshS_len, maskR_len s t h2]) fun i hi => ?_
  rw [reshS_len] at hi
  rw [reshS_get _ _ _ _ hi, maskR_get s t i h2 hi]
  by_cases h7 : 1 < s.getD i 0
  · rw [if_pos h7, if_pos h7]
    have := (cell_set h hp i hi 1 (by omega) h7).2
    rw [Int.one_mul] at this
    rw [(hsm.drop (i+1)).count.1, this, cell_zero h hp]; omega
  · rw [if_neg h7, if_neg h7]
/-- there is a view with the shape u and the cells of another one: it is found -/
theorem resh_of {b : Int} {s t u T : List Int} (hc : countL s ≠ 0) (hT : viewB b u T = true) (hcu : countL u = countL s) (he : offsL b u T = offsL b s t) :
    reshB b s t u = true ∧ reshS (offsL b s t) u u.length = maskR u T := by
  have e : reshS (offsL b s t) u u.length = maskR u T := by rw [← he]; exact resh_mask hT (by omega)
  refine ⟨?_, e⟩
  obtain ⟨m1, m2⟩ := mask_view hT
  unfold reshB
  rw [e, m1, m2, he, hcu]
  simp [sameB]
theorem resh_in {b : Int} {s t u : List Int} (hc : countL s ≠ 0) (h : reshB b s t u = true) :
    countL u = countL s ∧ viewB b u (reshS (offsL b s t) u u.length) = true ∧ offsL b u (reshS (offsL b s t) u u.length) = offsL b s t := by
  unfold reshB at h
  simp only [Bool.and_eq_true, Bool.or_eq_true, beq_iff_eq, sameB] at h
  obtain ⟨h1, h2⟩ := h
  rcases h2 with h2 | h2
  · omega
  · exact ⟨h1, h2.1, h2.2⟩

end Go.Proofs.Ytonnnjaooifpjaa

/- Plain laws: Reshape, of dense views too; two dimensions that are one, one that is two. -/
namespace Go.Proofs.Ytonnnjaooifpjaa
open Go.RowKit
set_option linter.unusedVariables false
set_option linter.unusedSimpArgs false
set_option maxRecDepth 100000

/-- Reshape -/
def rsV (b : Int) (s t u : List Int) : VBool :=
  if viewB b s t && (shapeB u && reshB b s t u) then (if countL u = 0 then (0, u, List.replicate u.length 0, true) else (b, u, reshS (offsL b s t) u u.length, true)) else noV
theorem offs_none {b : Int} {s t : List Int} (h : countL s = 0) : offsL b s t = [] := by unfold offsL; rw [h]; rfl
theorem zero_view {u : List Int} (hu : shapeB u = true) (hc : countL u = 0) : viewB 0 u (List.replicate u.length 0) = true :=
  (viewB_zero hc).2 ⟨hu, by simp, by omega, fun x hx => by rw [List.mem_replicate] at hx; omega⟩
theorem rs_no {b : Int} {s t u : List Int} (h : ¬ (viewB b s t = true ∧ shapeB u = true ∧ reshB b s t u = true)) : rsV b s t u = noV := by
  unfold rsV; rw [if_neg (by simpa using h)]
theorem rs_yes0 {b : Int} {s t u : List Int} (hv : viewB b s t = true) (hu : shapeB u = true) (h0 : countL s = 0) (hc : countL u = 0) : rsV b s t u = (0, u, List.replicate u.length 0, true) := by
  unfold rsV
  rw [hv, hu, show reshB b s t u = true by unfold reshB; rw [h0, hc]; rfl, if_pos (show (true && (true && true)) = true from rfl), if_pos hc]
theorem rs_yes1 {b : Int} {s t u T : List Int} (hv : viewB b s t = true) (hc : countL s ≠ 0) (hT : viewB b u T = true) (hcu : countL u = countL s) (he : offsL b u T = offsL b s t) :
    rsV b s t u = (b, u, maskR u T, true) := by
  obtain ⟨h1, h2⟩ := resh_of hc hT hcu he
  unfold rsV
  rw [hv, (viewB_in hT).1, h1, if_pos (show (true && (true && true)) = true from rfl), if_neg (by omega), h2]
theorem rs_in {b : Int} {s t u : List Int} {PB : Int} {PS PT : List Int} (h : rsV b s t u = (PB, PS, PT, true)) :
    viewB b s t = true ∧ shapeB u = true ∧ PS = u ∧ countL u = countL s ∧ viewB PB u PT = true ∧ offsL PB u PT = offsL b s t ∧ (countL s ≠ 0 → PB = b) := by
  unfold rsV at h
  split at h
  · rename_i h1
    simp only [Bool.and_eq_true] at h1
    obtain ⟨hv, hu, hr⟩ := h1
    split at h
    · rename_i h0
      have hs : countL s = 0 := by
        unfold reshB at hr
        simp only [Bool.and_eq_true, beq_iff_eq] at hr
        omega
      cases h
      exact ⟨hv, hu, rfl, by omega, zero_view hu h0, by rw [offs_none h0, offs_none hs], fun h => absurd hs h⟩
    · rename_i h0
      have hs : countL s ≠ 0 := by
        unfold reshB at hr
        simp only [Bool.and_eq_true, beq_iff_eq] at hr
        omega
      obtain ⟨h2, h3, h4⟩ := resh_in hs hr
      cases h
      exact ⟨hv, hu, rfl, h2, h3, h4, fun _ => rfl⟩
  · unfold noV at h; cases h
/-- there and back -/
theorem rs_back {b : Int} {s t u : List Int} {PB : Int} {PS PT : List Int} (h : rsV b s t u = (PB, PS, PT, true)) :
    ∃ QB QT, rsV PB u PT s = (QB, s, QT, true) ∧ viewB QB s QT = true ∧ offsL QB s QT = offsL b s t := by
  obtain ⟨hv, hu, rfl, hc, hw, ho, hb⟩ := rs_in h
  by_cases h0 : countL s = 0
  · have hs := (viewB_in hv).1
    exact ⟨0, _, rs_yes0 hw hs (by omega) h0, zero_view hs h0, by rw [offs_none h0, offs_none h0]⟩
  · obtain rfl := hb h0
    obtain ⟨m1, m2⟩ := mask_view hv
    exact ⟨_, _, rs_yes1 hw (by omega) hv hc.symm ho.symm, m1, m2⟩
/-- dense views -/
theorem rs_row {b : Int} {s t u : List Int} (hr : rowB b s t = true) (hu : shapeB u = true) (hc : countL u = countL s) : ∃ PB PT, rsV b s t u = (PB, u, PT, true) ∧ rowB PB u PT = true := by
  unfold rowB at hr
  simp only [Bool.and_eq_true, sameB, beq_iff_eq] at hr
  obtain ⟨hv, ho⟩ := hr
  obtain ⟨h1, h2, h3, h4, h5⟩ := viewB_in hv
  by_cases h0 : countL s = 0
  · refine ⟨0, _, rs_yes0 hv hu h0 (by omega), ?_⟩
    unfold rowB
    rw [zero_view hu (by omega), offs_none (by omega), offs_none (by omega)]; rfl
  · have hsm := Small.of hu
    have e : offsL b u (rowS u) = offsL b s t := by rw [ho, offs_row hu h3, offs_row h1 h3, hc]
    have hp := small_pos hsm (by omega)
    have hp60 : prodL u ≤ 60 := by have := (shapeB_in hu).2.2.2.1; have := hsm.count.1; omega
    have hT : viewB b u (rowS u) = true := viewB_mk hu (rowS_len u) h3 (fun x hx => by have := rowS_le hsm hp x hx; omega) (by rw [e]; exact h5)
    refine ⟨b, _, rs_yes1 hv h0 hT hc e, ?_⟩
    obtain ⟨m1, m2⟩ := mask_view hT
    unfold rowB
    rw [m1, m2]; simp [sameB]
theorem rs_cnt {b : Int} {s t u : List Int} (h : countL u ≠ countL s) : rsV b s t u = noV :=
  rs_no fun h2 => by
    have := h2.2.2
    unfold reshB at this
    simp only [Bool.and_eq_true, beq_iff_eq] at this
    exact h this.1

/-- two dimensions are one -/
def joinS (s : List Int) (d : Nat) (x : Int) : List Int := (delL s (d+1)).set d x
theorem join_zero (e1 e2 x : Int) (s : List Int) : joinS (e1 :: e2 :: s) 0 x = x :: s := by simp [joinS, delL]
theorem join_succ (e x : Int) (s : List Int) (d : Nat) : joinS (e :: s) (d + 1) x = e :: joinS s d x := by simp [joinS, delL_succ]
theorem join_len (s : List Int) (d : Nat) (x : Int) (h : d + 1 < s.length) : (joinS s d x).length = s.length - 1 := by unfold joinS; rw [List.length_set, delL_len s (d+1) h]
/-- the other way to write it -/
theorem join_del (s : List Int) (d : Nat) (x : Int) : (delL s d).set d x = joinS s d x ∨ s.length ≤ d + 1 := by
  induction s generalizing d with
  | nil => right; simp
  | cons e s ih =>
    cases d with
    | zero =>
      cases s with
      | nil => right; simp
      | cons e2 s => left; simp [joinS, delL]
    | succ d =>
      rcases ih d with h | h
      · left; rw [join_succ, delL_succ, List.set_cons_succ, h]
      · right; simp; omega
theorem join_set (s : List Int) (d : Nat) (x : Int) : delL (s.set d x) (d+1) = joinS s d x := by
  induction s generalizing d with
  | nil => simp [joinS, delL]
  | cons e s ih =>
    cases d with
    | zero => cases s <;> simp [joinS, delL]
    | succ d => rw [join_succ, List.set_cons_succ, delL_succ, ih]
theorem join_off : ∀ (s t : List Int) (d : Nat) (b X : Int), t.length = s.length → d + 1 < s.length → (∀ e ∈ s, 1 ≤ e) →
    (s.getD (d+1) 0 = 1 ∧ X = t.getD d 0 ∨ s.getD d 0 = 1 ∧ X = t.getD (d+1) 0 ∨ X = t.getD (d+1) 0 ∧ t.getD d 0 = t.getD (d+1) 0 * s.getD (d+1) 0) →
    offC b (joinS s d (s.getD d 0 * s.getD (d+1) 0)) (joinS t d X) = offC b s t
  | [], _, d, _, _, _, h, _, _ => absurd h (by simp)
  | e :: s, [], d, _, _, h, _, _, _ => by simp at h
  | [e], x :: t, d, _, _, _, h, _, _ => absurd h (by simp)
  | e1 :: e2 :: s, [x], _, _, _, h, _, _, _ => by simp at h
  | e1 :: e2 :: s, x1 :: x2 :: t, 0, b, X, hl, _, hp, hX => by
    have p1 := hp e1 (by simp)
    have p2 := hp e2 (by simp)
    rw [join_zero, join_zero]
    simp only [List.getD_cons_zero, List.getD_cons_succ] at hX ⊢
    rw [offC_cons, offC_cons, offC_cons]
    rw [show (e1 * e2).toNat = e1.toNat * e2.toNat by
      obtain ⟨a, rfl⟩ := Int.eq_ofNat_of_zero_le (show 0 ≤ e1 by omega)
      obtain ⟨c, rfl⟩ := Int.eq_ofNat_of_zero_le (show 0 ≤ e2 by omega)
      rw [← Int.natCast_mul]; simp only [Int.toNat_natCast]]
    rw [range_mul, List.flatMap_assoc]
    refine flatMap_same fun i hi => ?_
    have hi := List.mem_range.1 hi
    rw [List.map_flatMap, List.flatMap_map]
    refine flatMap_same fun j hj => ?_
    have hj := List.mem_range.1 hj
    rw [List.map_map]
    refine List.map_congr_left fun y _ => ?_
    simp only [Function.comp]
    have e2' : ((e2.toNat : Nat) : Int) = e2 := by omega
    rw [Int.natCast_add, Int.natCast_mul, e2', Int.add_assoc]
    congr 1
    rcases hX with ⟨h1, h2⟩ | ⟨h1, h2⟩ | ⟨h1, h2⟩
    · obtain rfl : j = 0 := by omega
      rw [h1, h2]; simp
    · obtain rfl : i = 0 := by omega
      rw [h2]; simp
    · rw [h1, h2, Int.add_mul, Int.mul_comm x2 e2, ← Int.mul_assoc, Int.add_comm]
  | e1 :: s, x1 :: t, d+1, b, X, hl, hd, hp, hX => by
    rw [join_succ, join_succ]
    simp only [List.getD_cons_succ] at hX ⊢
    rw [offC_cons, offC_cons, join_off s t d b X (by simpa using hl) (by simpa using hd) (fun e he => hp e (List.mem_cons_of_mem _ he)) hX]
theorem join_mem {t : List Int} {d : Nat} {x X : Int} (h : x ∈ joinS t d X) : x = X ∨ x ∈ t := by
  unfold joinS at h
  rcases List.mem_or_eq_of_mem_set h with h | h
  · exact .inr (delL_mem h)
  · exact .inl h
theorem join_prod : ∀ (s : List Int) (d : Nat), d + 1 < s.length → prodL (joinS s d (s.getD d 0 * s.getD (d+1) 0)) = prodL s
  | [], d, h => absurd h (by simp)
  | [e], d, h => absurd h (by simp)
  | e1 :: e2 :: s, 0, _ => by
    rw [join_zero, prodL_cons, prodL_cons, prodL_cons, ← Int.mul_assoc]; rfl
  | e1 :: s, d+1, h => by
    rw [join_succ, prodL_cons, prodL_cons]
    simp only [List.getD_cons_succ]
    rw [join_prod s d (by simpa using h)]
theorem join_drop : ∀ (s : List Int) (d : Nat) (x : Int), d + 1 < s.length → (joinS s d x).drop (d+1) = s.drop (d+2)
  | [], d, _, h => absurd h (by simp)
  | [e], d, _, h => absurd h (by simp)
  | e1 :: e2 :: s, 0, x, _ => by rw [join_zero]; rfl
  | e1 :: s, d+1, x, h => by
    rw [join_succ, List.drop_succ_cons, join_drop s d x (by simpa using h)]; rfl
theorem join_get (s : List Int) (d : Nat) (x : Int) (h : d + 1 < s.length) : (joinS s d x).getD d 0 = x := by
  have : d < (delL s (d+1)).length := by rw [delL_len s (d+1) h]; omega
  simp [joinS, this]
theorem drop_prod1 {s : List Int} {d : Nat} (h : d < s.length) : prodL (s.drop d) = s.getD d 0 * prodL (s.drop (d+1)) := by
  rw [List.drop_eq_getElem_cons h, prodL_cons, getD_get h]
theorem prod_ge {s : List Int} (hp : ∀ e ∈ s, 1 ≤ e) {d : Nat} (h : d < s.length) : s.getD d 0 ≤ prodL s := by
  rw [prodL_split s d h, ← getD_get h]
  have p1 : 1 ≤ prodL (s.take d) := prodL_pos fun e he => hp e (List.mem_of_mem_take he)
  have p2 : 1 ≤ prodL (s.drop (d+1)) := prodL_pos fun e he => hp e (List.mem_of_mem_drop he)
  have p0 := hp _ (getD_mem h)
  have h2 : s.getD d 0 * 1 ≤ s.getD d 0 * prodL (s.drop (d+1)) := Int.mul_le_mul_of_nonneg_left p2 (by omega)
  have h3 : 1 * (s.getD d 0 * prodL (s.drop (d+1))) ≤ prodL (s.take d) * (s.getD d 0 * prodL (s.drop (d+1))) := Int.mul_le_mul_of_nonneg_right p1 (by omega)
  omega
theorem join_shape {s : List Int} {d : Nat} (h : shapeB s = true) (hd : d + 1 < s.length) (hc : countL s ≠ 0) :
    shapeB (joinS s d (s.getD d 0 * s.getD (d+1) 0)) = true ∧ countL (joinS s d (s.getD d 0 * s.getD (d+1) 0)) = countL s := by
  have hsm := Small.of h
  have hp := small_pos hsm hc
  have hin := shapeB_in h
  have c1 := hsm.count.1
  have q1 := hp _ (getD_mem (show d < s.length by omega))
  have q2 := hp _ (getD_mem hd)
  have hl := join_len s d (s.getD d 0 * s.getD (d+1) 0) hd
  have hpj : ∀ e ∈ joinS s d (s.getD d 0 * s.getD (d+1) 0), 1 ≤ e := fun e he => by
    rcases join_mem he with rfl | he
    · have := Int.mul_le_mul q1 q2 (by omega) (by omega); simpa using this
    · exact hp e he
  have hm : Small (joinS s d (s.getD d 0 * s.getD (d+1) 0)) := by
    refine ⟨by omega, fun e he => ?_⟩
    rcases join_mem he with rfl | he
    · have h1 := prod_ge hpj (d := d) (by omega)
      rw [join_get s d _ hd, join_prod s d hd] at h1
      have h2 := hpj _ he
      omega
    · exact hsm.2 e he
  have c2 : countL (joinS s d (s.getD d 0 * s.getD (d+1) 0)) = countL s := by rw [hm.count.1, join_prod s d hd, c1]
  exact ⟨shapeB_mk hm (by omega), c2⟩
theorem join_view {b : Int} {s t : List Int} {d : Nat} {X : Int} (h : viewB b s t = true) (hd : d + 1 < s.length) (hc : countL s ≠ 0)
    (hX : s.getD (d+1) 0 = 1 ∧ X = t.getD d 0 ∨ s.getD d 0 = 1 ∧ X = t.getD (d+1) 0 ∨ X = t.getD (d+1) 0 ∧ t.getD d 0 = t.getD (d+1) 0 * s.getD (d+1) 0) :
    viewB b (joinS s d (s.getD d 0 * s.getD (d+1) 0)) (joinS t d X) = true ∧ offsL b (joinS s d (s.getD d 0 * s.getD (d+1) 0)) (joinS t d X) = offsL b s t := by
  obtain ⟨h1, h2, h3, h4, h5⟩ := viewB_in h
  obtain ⟨j1, j2⟩ := join_shape h1 hd hc
  have hXm : X ∈ t := by
    rcases hX with ⟨_, h⟩ | ⟨_, h⟩ | ⟨h, _⟩ <;> rw [h] <;> exact getD_mem (by omega)
  have hTm : ∀ x ∈ joinS t d X, x ∈ t := fun x hx => by
    rcases join_mem hx with rfl | hx
    · exact hXm
    · exact hx
  have hm := view_mild h
  have hm2 : Mild b (joinS t d X) := ⟨hm.1, fun x hx => hm.2 x (hTm x hx)⟩
  have e : offsL b (joinS s d (s.getD d 0 * s.getD (d+1) 0)) (joinS t d X) = offsL b s t := by
    rw [offs_C (Small.of j1) hm2, view_C h, join_off s t d b X h2 hd (small_pos (Small.of h1) hc) hX]
  exact ⟨viewB_mk j1 (by rw [join_len t d X (by omega), join_len s d _ hd]; omega) h3 (fun x hx => h4 x (hTm x hx)) (by rw [e]; exact h5), e⟩
/-- JoinDims is possible just if the cells go on -/
theorem join_law {b : Int} {s t : List Int} {d : Nat} (h : viewB b s t = true) (hd : d + 1 < s.length) (hc : countL s ≠ 0) :
    (rsV b s t (joinS s d (s.getD d 0 * s.getD (d+1) 0))).2.2.2 = true ↔ (s.getD d 0 = 1 ∨ s.getD (d+1) 0 = 1 ∨ t.getD d 0 = t.getD (d+1) 0 * s.getD (d+1) 0) := by
  obtain ⟨h1, h2, h3, h4, h5⟩ := viewB_in h
  obtain ⟨j1, j2⟩ := join_shape h1 hd hc
  have hp := small_pos (Small.of h1) hc
  constructor
  · intro hok
    have hd1 := getD_mem (show d < s.length by omega)
    have hd2 := getD_mem hd
    have q1 := hp _ hd1
    have q2 := hp _ hd2
    by_cases e1 : s.getD d 0 = 1
    · exact .inl e1
    by_cases e2 : s.getD (d+1) 0 = 1
    · exact .inr (.inl e2)
    refine .inr (.inr ?_)
    obtain ⟨_, hu, _, _, hw, ho, hb⟩ := rs_in (show rsV b s t (joinS s d (s.getD d 0 * s.getD (d+1) 0)) = (_, _, _, true) from by rw [← hok])
    rw [hb hc] at hw ho
    generalize hP : (rsV b s t (joinS s d (s.getD d 0 * s.getD (d+1) 0))).2.2.1 = P at *
    have hpj := small_pos (Small.of hu) (by omega)
    have hlen := join_len s d (s.getD d 0 * s.getD (d+1) 0) hd
    have hbig : s.getD (d+1) 0 < s.getD d 0 * s.getD (d+1) 0 := by
      have := Int.mul_le_mul_of_nonneg_right (show 2 ≤ s.getD d 0 by omega) (show 0 ≤ s.getD (d+1) 0 by omega)
      omega
    have a1 := (cell_set hw hpj d (by omega) 1 (by omega) (by rw [join_get s d _ hd]; omega)).2
    have a2 := (cell_set hw hpj d (by omega) (s.getD (d+1) 0) (by omega) (by rw [join_get s d _ hd]; omega)).2
    have b1 := (cell_set h hp (d+1) hd 1 (by omega) (by omega)).2
    have b2 := (cell_set h hp d (by omega) 1 (by omega) (by omega)).2
    rw [join_drop s d _ hd, ho] at a1 a2
    rw [drop_prod1 hd, Int.one_mul] at b2
    rw [a2] at b2
    rw [a1] at b1
    rw [Int.one_mul] at b1 b2
    have : P.getD d 0 = t.getD (d+1) 0 := by omega
    rw [this] at b2
    rw [Int.mul_comm]; omega
  · intro hX
    have : ∃ X, s.getD (d+1) 0 = 1 ∧ X = t.getD d 0 ∨ s.getD d 0 = 1 ∧ X = t.getD (d+1) 0 ∨ X = t.getD (d+1) 0 ∧ t.getD d 0 = t.getD (d+1) 0 * s.getD (d+1) 0 := by
      rcases hX with h | h | h
      · exact ⟨_, .inr (.inl ⟨h, rfl⟩)⟩
      · exact ⟨_, .inl ⟨h, rfl⟩⟩
      · exact ⟨_, .inr (.inr ⟨rfl, h⟩)⟩
    obtain ⟨X, hX⟩ := this
    obtain ⟨v1, v2⟩ := join_view h hd hc hX
    rw [rs_yes1 h hc v1 j2 v2]

/-- one dimension is two -/
def splitS (s : List Int) (d : Nat) (o q : Int) : List Int := insL (s.set d o) (d+1) q
theorem insL_succ (e x : Int) (s : List Int) (i : Nat) : insL (e :: s) (i + 1) x = e :: insL s i x := by simp [insL]
theorem insL_zero (x : Int) (s : List Int) : insL s 0 x = x :: s := by simp [insL]
theorem split_join : ∀ (s : List Int) (d : Nat) (o q : Int), d < s.length → joinS (splitS s d o q) d (s.getD d 0) = s
  | [], d, _, _, h => absurd h (by simp)
  | e :: s, 0, o, q, _ => by unfold splitS; rw [List.set_cons_zero, insL_succ, insL_zero, join_zero]; rfl
  | e :: s, d+1, o, q, h => by
    unfold splitS
    rw [List.set_cons_succ, insL_succ, join_succ, List.getD_cons_succ]
    have := split_join s d o q (by simpa using h)
    unfold splitS at this
    rw [this]
theorem split_get : ∀ (s : List Int) (d : Nat) (o q : Int), d < s.length → (splitS s d o q).getD d 0 = o ∧ (splitS s d o q).getD (d+1) 0 = q
  | [], d, _, _, h => absurd h (by simp)
  | e :: s, 0, o, q, _ => by unfold splitS; rw [List.set_cons_zero, insL_succ, insL_zero]; exact ⟨rfl, rfl⟩
  | e :: s, d+1, o, q, h => by
    unfold splitS
    rw [List.set_cons_succ, insL_succ, List.getD_cons_succ, List.getD_cons_succ]
    exact split_get s d o q (by simpa using h)
theorem split_len (s : List Int) (d : Nat) (o q : Int) (h : d < s.length) : (splitS s d o q).length = s.length + 1 := by unfold splitS insL; simp; omega
/-- the other way to write it -/
theorem split_ins : ∀ (s : List Int) (d : Nat) (o q : Int), d < s.length → (insL s d o).set (d+1) q = splitS s d o q
  | [], d, _, _, h => absurd h (by simp)
  | e :: s, 0, o, q, _ => by unfold splitS; rw [List.set_cons_zero, insL_succ, insL_zero, insL_zero]; rfl
  | e :: s, d+1, o, q, h => by
    unfold splitS
    rw [List.set_cons_succ, insL_succ, insL_succ, List.set_cons_succ, split_ins s d o q (by simpa using h)]; rfl

end Go.Proofs.Ytonnnjaooifpjaa

/- Walks: CountOf of the program. -/
namespace Go.Proofs.Ytonnnjaooifpjaa
open Go.RowKit
set_option linter.unusedVariables false
set_option maxRecDepth 100000


def cntA (s : List Int) : Int := if shapeB s then countL s else -1

set_option maxHeartbeats 1600000 in
theorem implCountOf_c (s : List Int) (v1 : Value) (w : World) (l1 : Nat) (h1 : Ints w l1 v1 s) :
    Calls Try.prog 34 #[v1] w (fun e w' => e = .returned (.int .i64 (cntA s)) ∧ w = w') := by
  obtain ⟨p0, c0, rfl⟩ := h1.form
  go_enter Try.func34, Try.ntmps34
  go_wp2_with fail
  refine (isShape_c s (.slice p0 s.length c0) _ _ (h1.ext qXt)).mono ?_
  rintro e w' ⟨rfl, rfl⟩
  cases hB1 : shapeB s
  · replace hB1 := Lib.hid hB1
    go_wp2_with fail
    go_ret
    exact ⟨by rw [show cntA s = -1 by unfold cntA; rw [hB1.out]; rfl] <;> rfl, rfl⟩
  · replace hB1 := Lib.hid hB1
    go_wp2_with fail
    refine (countOf_c s (.slice p0 s.length c0) _ _ (h1.ext qXt)).mono ?_
    rintro e w' ⟨rfl, rfl⟩
    go_wp2_with fail
    go_ret
    exact ⟨by rw [show cntA s = countL s by unfold cntA; rw [hB1.out]; rfl] <;> rfl, rfl⟩


end Go.Proofs.Ytonnnjaooifpjaa

/- Plain laws: Reshape as the laws ask it. -/
namespace Go.Proofs.Ytonnnjaooifpjaa
open Go.RowKit
set_option linter.unusedVariables false
set_option maxRecDepth 100000

theorem offA_of {b : Int} {s t : List Int} (h : viewB b s t = true) : offA b s t = offsL b s t := by unfold offA; rw [h]; rfl
theorem cntA_of {s : List Int} (h : shapeB s = true) : cntA s = countL s := by unfold cntA; rw [h]; rfl
theorem sameV_of {b1 : Int} {s t1 : List Int} {b2 : Int} {t2 : List Int} (h1 : viewB b1 s t1 = true) (h2 : viewB b2 s t2 = true) (h : offsL b1 s t1 = offsL b2 s t2) : sameV b1 s t1 b2 s t2 = true := by
  unfold sameV; rw [h1, h2, h]; simp [sameB]
theorem rs_law {b : Int} {s t u : List Int} {PB : Int} {PS PT : List Int} (h : rsV b s t u = (PB, PS, PT, true)) :
    PS = u ∧ u.length ≤ 4 ∧ offA PB u PT = offA b s t ∧ viewB b s t = true ∧ viewB PB u PT = true ∧ cntA u = cntA s ∧ ∃ QB QT, rsV PB u PT s = (QB, s, QT, true) ∧ sameV QB s QT b s t = true := by
  obtain ⟨hv, hu, h1, hc, hw, ho, _⟩ := rs_in h
  obtain ⟨QB, QT, h2, h3, h4⟩ := rs_back h
  exact ⟨h1, (shapeB_in hu).1, by rw [offA_of hw, offA_of hv, ho], hv, hw, by rw [cntA_of hu, cntA_of (viewB_in hv).1, hc], QB, QT, h2, sameV_of h3 hv h4⟩
/-- a dense view: it is just a matter of numbers -/
theorem rs_row_law {b : Int} {s t u : List Int} {PB : Int} {PS PT : List Int} {PO : Bool} (h : rsV b s t u = (PB, PS, PT, PO)) (hr : rowB b s t = true) (hu : shapeB u = true) :
    (PO = true → cntA u = cntA s ∧ rowB PB PS PT = true) ∧ (PO = false → ¬ cntA u = cntA s) := by
  have hv : viewB b s t = true := by unfold rowB at hr; simp only [Bool.and_eq_true] at hr; exact hr.1
  have e1 := cntA_of hu
  have e2 := cntA_of (viewB_in hv).1
  constructor
  · intro hp
    subst hp
    obtain ⟨_, _, _, hc, _⟩ := rs_in h
    obtain ⟨PB', PT', h2, h3⟩ := rs_row hr hu hc
    rw [h] at h2
    cases h2
    exact ⟨by rw [e1, e2, hc], h3⟩
  · intro hp hc
    subst hp
    obtain ⟨PB', PT', h2, h3⟩ := rs_row hr hu (by omega)
    rw [h] at h2
    cases h2
end Go.Proofs.Ytonnnjaooifpjaa

/- Plain laws: a slice of a slice is a slice. -/
namespace Go.Proofs.Ytonnnjaooifpjaa
open Go.RowKit
set_option linter.unusedVariables false
set_option maxRecDepth 100000

/-- numbers by a step, by their number -/
theorem num_of (a : Int) {q : Int} (hq : q ≠ 0) (m : Nat) : numL a (a + m * q) q = (List.range m).map fun k : Nat => a + k * q := by
  unfold numL
  rw [cnt_of (n := m) hq fun k => ?_]
  rcases Int.lt_or_le 0 q with h | h
  · have : (k : Int) * q < m * q ↔ (k : Int) < m := ⟨fun g => Int.lt_of_mul_lt_mul_right g (by omega), fun g => Int.mul_lt_mul_of_pos_right g h⟩
    omega
  · have : (m : Int) * q < k * q ↔ (k : Int) < m := ⟨fun g => by
      rcases Int.lt_or_le (k : Int) m with g' | g'
      · exact g'
      · have := Int.mul_le_mul_of_nonpos_right g' h
        omega, fun g => by
      have h' : q < 0 := by omega
      exact Int.mul_lt_mul_of_neg_right g h'⟩
    omega
theorem take_num {a e q c f p : Int} (hq : q ≠ 0) (hp : p ≠ 0) (h : ∀ i ∈ numL c f p, 0 ≤ i ∧ i < (numL a e q).length) :
    takL (numL a e q) (numL c f p) = numL (a + c * q) (a + c * q + ((numL c f p).length : Nat) * (p * q)) (p * q) := by
  rw [num_of _ (Int.mul_ne_zero hp hq), numL_len]
  have hm : ∀ k : Nat, k < cntL c f p → 0 ≤ c + k * p ∧ c + k * p < (numL a e q).length := fun k hk => h _ (by unfold numL; exact List.mem_map.2 ⟨k, List.mem_range.2 hk, rfl⟩)
  unfold takL
  conv => lhs; unfold numL
  rw [List.map_map]
  refine List.map_congr_left fun k hk => ?_
  have hk := hm k (List.mem_range.1 hk)
  have hj : (c + (k : Int) * p).toNat < (numL a e q).length := by omega
  show (numL a e q).getD (c + (k : Int) * p).toNat 0 = _
  rw [List.getD_eq_getElem?_getD, List.getElem?_eq_getElem hj, Option.getD_some, numL_get]
  have : ((c + (k : Int) * p).toNat : Int) = c + k * p := by omega
  rw [this, Int.add_mul, Int.mul_assoc]; omega
/-- the normal form of some of n, as a slice, takes the same -/
theorem norm_slice {a b q n : Int} (hq : q ≠ 0) (h0 : 0 ≤ n ∧ n ≤ 60) (h : ∀ i ∈ numL a b q, 0 ≤ i ∧ i < n) {N1 N2 N3 : Int} (hN : normL (numL a b q) = (N1, N2, N3)) :
    idxS n N1 (if N2 = -1 then 0 else N2) N3 true (!decide (N2 = -1)) = numL a b q ∧ sliceB N1 (if N2 = -1 then 0 else N2) N3 true (!decide (N2 = -1)) = true := by
  have hk := norm_numL (a := a) (b := b) hq
  have hnd := numL_nodup (a := a) (b := b) hq
  rw [hN] at hk
  have key : (0 ≤ N1 ∧ N1 ≤ 60 ∧ (N1 < n ∨ N1 = 0 ∧ 0 < N3)) ∧ N3 ≠ 0 ∧ (-60 ≤ N3 ∧ N3 ≤ 60) ∧ (0 < N3 → 0 ≤ N2 ∧ N2 ≤ n) ∧ (N3 < 0 → -1 ≤ N2 ∧ N2 ≤ n - 1) := by
    match hX : numL a b q, hN, h, hnd with
    | [], hN, h, _ => cases hN; omega
    | [x], hN, h, _ =>
      cases hN
      have := h N1 (by simp); omega
    | x :: y :: r, hN, h, hnd =>
      have h1 := h x (by simp)
      have h2 := h y (by simp)
      have h3 := h _ (List.mem_cons_of_mem x (List.getLast_mem (List.cons_ne_nil y r)))
      have h4 : x ≠ y := by
        rw [List.nodup_cons] at hnd
        intro he; exact hnd.1 (by rw [he]; simp)
      simp only [normL, Prod.mk.injEq] at hN
      obtain ⟨e1, e2, e3⟩ := hN
      subst e1; subst e3
      generalize (y :: r).getLast (List.cons_ne_nil y r) = z at *
      split at e2 <;> omega
  obtain ⟨k1, k2, k3, k4, k5⟩ := key
  constructor
  · rw [← hk]
    unfold idxS
    have e1 : fromI n N1 N3 true = N1 := by unfold fromI boundI; simp only [if_true]; split <;> split <;> omega
    have e2 : toI n (if N2 = -1 then 0 else N2) N3 (!decide (N2 = -1)) = N2 := by
      by_cases hs : N2 = -1
      · rw [if_pos hs]; subst hs; unfold toI; simp; omega
      · rw [if_neg hs]; unfold toI boundI; simp only [hs, decide_false, Bool.not_false, if_true]; split <;> split <;> omega
    rw [e1, e2]
  · unfold sliceB inB
    by_cases hs : N2 = -1
    · subst hs; simp; omega
    · simp [hs]; omega
theorem tidy_len (s t : List Int) (h : t.length = s.length) : (tidyT s t).length = s.length := by unfold tidyT; split <;> simp [h]
theorem zero_set {s : List Int} {d : Nat} {x y : Int} (hd : d < s.length) (hx : Small (s.set d x)) (hy : Small (s.set d y)) (h : countL (s.set d x) = 0) (h2 : x ≠ 0) : countL (s.set d y) = 0 := by
  rw [hx.count.1, prodL_set _ _ _ hd] at h
  rw [hy.count.1, prodL_set _ _ _ hd]
  rcases Int.mul_eq_zero.1 h with h | h
  · rw [h, Int.zero_mul]
  · rcases Int.mul_eq_zero.1 h with h | h
    · exact absurd h h2
    · rw [h, Int.mul_zero, Int.mul_zero]
theorem zero_len {s : List Int} {d : Nat} (hd : d < s.length) (hx : Small (s.set d 0)) : countL (s.set d 0) = 0 := by
  rw [hx.count.1, prodL_set _ _ _ hd, Int.zero_mul, Int.mul_zero]
/-- a cut of a cut is the cut by what is taken of what is taken -/
theorem cut_cut {b : Int} {s t : List Int} {d : Nat} {a e q c f p : Int} (hs : Small s) (hl : t.length = s.length) (hd : d < s.length) (hq : q ≠ 0) (hp : p ≠ 0) (h1 : ((numL a e q).length : Int) ≤ 60) (h2 : ((numL c f p).length : Int) ≤ 60)
    (h : ∀ i ∈ numL c f p, 0 ≤ i ∧ i < (numL a e q).length) :
    cutB (cutB b s t d (numL a e q)) (cutS s d (numL a e q)) (cutT s t d (numL a e q)) d (numL c f p) = cutB b s t d (takL (numL a e q) (numL c f p)) ∧
    cutS (cutS s d (numL a e q)) d (numL c f p) = cutS s d (takL (numL a e q) (numL c f p)) ∧
    cutT (cutS s d (numL a e q)) (cutT s t d (numL a e q)) d (numL c f p) = cutT s t d (takL (numL a e q) (numL c f p)) := by
  have hX := take_num hq hp h
  have hXl := takL_len (numL a e q) (numL c f p)
  have hpq := Int.mul_ne_zero hp hq
  obtain ⟨n1, n2, n3⟩ := norm_two (a := a) (b := e) hq
  obtain ⟨m1, m2, m3⟩ := norm_two (a := c) (b := f) hp
  obtain ⟨x1, x2, x3⟩ := norm_two (a := a + c * q) (b := a + c * q + ((numL c f p).length : Nat) * (p * q)) hpq
  rw [← hX] at x1 x2 x3
  have hsm : ∀ m : Nat, (m : Int) ≤ 60 → Small (s.set d m) := fun m hm => small_set hs d (by omega)
  have hc0 : 2 ≤ (numL c f p).length → 2 ≤ (numL a e q).length := by
    intro h2
    have g0 := h _ (List.getElem_mem (show 0 < (numL c f p).length by omega))
    have g1 := h _ (List.getElem_mem (show 1 < (numL c f p).length by omega))
    rw [numL_get] at g0 g1
    omega
  have hc1 : (numL c f p).length ≠ 0 → 0 ≤ c ∧ c < (numL a e q).length := by
    intro h2
    have g0 := h _ (List.getElem_mem (show 0 < (numL c f p).length by omega))
    rw [numL_get] at g0
    omega
  generalize takL (numL a e q) (numL c f p) = X at *
  generalize numL a e q = L at *
  generalize numL c f p = K at *
  have e0 : (s.set d (L.length : Int)).set d (K.length : Int) = s.set d X.length := by rw [List.set_set, hXl]
  refine ⟨?_, by unfold cutS; exact e0, ?_⟩
  · unfold cutB cutT cutS
    rw [e0]
    unfold tidyB
    by_cases hz : countL (s.set d X.length) = 0
    · rw [if_pos hz, if_pos hz]
    · have hK0 : K.length ≠ 0 := by
        intro h0; rw [hXl, h0] at hz; exact hz (zero_len hd (by simpa using hsm 0 (by omega)))
      have hL0 : L.length ≠ 0 := by have := hc1 hK0; omega
      have hzL : ¬ countL (s.set d L.length) = 0 := fun g => hz (zero_set hd (hsm _ h1) (hsm _ (by rw [hXl]; exact h2)) g (by omega))
      rw [if_neg hz, if_neg hz, if_neg hzL]
      unfold tidyT
      rw [if_neg hzL, n1 hL0, m1 hK0, x1 (by omega)]
      rw [show (t.set d (if L.length ≤ 1 then 0 else (normL L).2.2 * t.getD d 0)).getD d 0 = if L.length ≤ 1 then 0 else (normL L).2.2 * t.getD d 0 by simp [hl, hd]]
      by_cases h5 : L.length ≤ 1
      · rw [if_pos h5]
        have : c = 0 := by have := hc1 hK0; omega
        subst this
        simp
      · rw [if_neg h5, n3 (by omega), Int.add_mul, Int.mul_assoc, Int.add_assoc]
  · unfold cutT cutS
    rw [e0]
    unfold tidyT
    by_cases hz : countL (s.set d X.length) = 0
    · rw [if_pos hz, if_pos hz]
    · have hK0 : K.length ≠ 0 := by
        intro h0; rw [hXl, h0] at hz; exact hz (zero_len hd (by simpa using hsm 0 (by omega)))
      have hL0 : L.length ≠ 0 := by have := hc1 hK0; omega
      have hzL : ¬ countL (s.set d L.length) = 0 := fun g => hz (zero_set hd (hsm _ h1) (hsm _ (by rw [hXl]; exact h2)) g (by omega))
      rw [if_neg hz, if_neg hz, if_neg hzL, List.set_set]
      congr 1
      rw [show (t.set d (if L.length ≤ 1 then 0 else (normL L).2.2 * t.getD d 0)).getD d 0 = if L.length ≤ 1 then 0 else (normL L).2.2 * t.getD d 0 by simp [hl, hd]]
      by_cases h5 : K.length ≤ 1
      · rw [if_pos h5, if_pos (by omega)]
      · have h6 := hc0 (by omega)
        rw [if_neg h5, if_neg (by omega), if_neg (by omega), m3 (by omega), n3 (by omega), x3 (by omega), Int.mul_assoc]
theorem slice_inv {b : Int} {s t : List Int} {d F T B : Int} {hf ht : Bool} {PB : Int} {PS PT : List Int} (h : sliceV b s t d F T B hf ht = (PB, PS, PT, true)) :
    ∃ D : Nat, d = (D : Int) ∧ D < s.length ∧ viewB b s t = true ∧ sliceB F T B hf ht = true ∧ PB = cutB b s t D (idxS (s.getD D 0) F T B hf ht) ∧ PS = cutS s D (idxS (s.getD D 0) F T B hf ht) ∧ PT = cutT s t D (idxS (s.getD D 0) F T B hf ht) := by
  unfold sliceV at h
  split at h
  · rename_i h1
    simp only [Bool.and_eq_true, inB, decide_eq_true_eq] at h1
    obtain ⟨hv, ⟨hd0, hd1⟩, hsl⟩ := h1
    obtain ⟨D, rfl⟩ : ∃ D : Nat, d = D := ⟨d.toNat, by omega⟩
    rw [Int.toNat_natCast] at h
    cases h
    exact ⟨D, rfl, by omega, hv, hsl, rfl, rfl, rfl⟩
  · unfold noV at h; cases h
theorem idx_in {n F T B : Int} {hf ht : Bool} (hn : 0 ≤ n) (hB : B ≠ 0) : ∀ i ∈ idxS n F T B hf ht, 0 ≤ i ∧ i < n := by
  intro i hi
  unfold idxS at hi
  have h1 := fromI_in (F := F) (B := B) (hf := hf) hn
  have h2 := toI_in (T := T) (B := B) (ht := ht) hn
  have h3 := numL_in hB hi
  rcases Int.lt_or_le 0 B with h | h
  · have := h3.1 h; omega
  · have := h3.2 (by omega); omega
theorem same_self {b : Int} {s t : List Int} (h : viewB b s t = true) : sameV b s t b s t = true := sameV_of h h rfl
theorem twice_law {b : Int} {s t : List Int} {d F T B : Int} {hf ht : Bool} {PB : Int} {PS PT : List Int} (h : sliceV b s t d F T B hf ht = (PB, PS, PT, true)) :
    ∃ D : Nat, d = (D : Int) ∧ D < s.length ∧ viewB b s t = true ∧ sliceB F T B hf ht = true ∧ (0 ≤ s.getD D 0 ∧ s.getD D 0 ≤ 60) ∧ (idxS (s.getD D 0) F T B hf ht).length ≤ 60 ∧
      (∀ i ∈ idxS ((idxS (s.getD D 0) F T B hf ht).length : Int) (-1) 0 (-2) true false, 0 ≤ i ∧ i < ((idxS (s.getD D 0) F T B hf ht).length : Int)) ∧
      ∃ X N1 N2 N3, takL (idxS (s.getD D 0) F T B hf ht) (idxS ((idxS (s.getD D 0) F T B hf ht).length : Int) (-1) 0 (-2) true false) = X ∧ (∀ x ∈ X, -1000000 ≤ x ∧ x ≤ 1000000) ∧ normL X = (N1, N2, N3) ∧
      ∃ QB QS QT, sliceV PB PS PT (D : Int) (-1) 0 (-2) true false = (QB, QS, QT, true) ∧ sliceV b s t (D : Int) N1 (if N2 = -1 then 0 else N2) N3 true (!decide (N2 = -1)) = (QB, QS, QT, true) ∧ sameV QB QS QT QB QS QT = true := by
  obtain ⟨D, rfl, hD, hv, hsl, rfl, rfl, rfl⟩ := slice_inv h
  have hs := view_small hv
  have hl := (viewB_in hv).2.1
  have he := hs.2 _ (getD_mem hD)
  have hB := (sliceB_in hsl).2.2.2
  have hLi := idx_in (F := F) (T := T) (hf := hf) (ht := ht) he.1 hB
  have hcv := cut_view (a := fromI (s.getD D 0) F B hf) (e := toI (s.getD D 0) T B ht) hv hD hB hLi
  have hL60 : ((idxS (s.getD D 0) F T B hf ht).length : Int) ≤ 60 := hcv.2
  have hKi := idx_in (n := ((idxS (s.getD D 0) F T B hf ht).length : Int)) (F := -1) (T := 0) (B := -2) (hf := true) (ht := false) (by omega) (by omega)
  obtain ⟨N1, N2, N3, hN⟩ : ∃ N1 N2 N3, normL (takL (idxS (s.getD D 0) F T B hf ht) (idxS ((idxS (s.getD D 0) F T B hf ht).length : Int) (-1) 0 (-2) true false)) = (N1, N2, N3) := ⟨_, _, _, rfl⟩
  refine ⟨D, rfl, hD, hv, hsl, he, by omega, hKi, _, N1, N2, N3, rfl, ?_, hN, ?_⟩
  · intro x hx
    unfold takL at hx
    obtain ⟨i, hi, rfl⟩ := List.mem_map.1 hx
    have hi := hKi i hi
    have := hLi _ (getD_mem (s := idxS (s.getD D 0) F T B hf ht) (d := i.toNat) (by omega))
    omega
  · have hDS : D < (cutS s D (idxS (s.getD D 0) F T B hf ht)).length := by unfold cutS; simpa using hD
    have hS : (cutS s D (idxS (s.getD D 0) F T B hf ht)).getD D 0 = (idxS (s.getD D 0) F T B hf ht).length := by unfold cutS; simp [hD]
    have hdim : dimB (cutB b s t D (idxS (s.getD D 0) F T B hf ht)) (cutS s D (idxS (s.getD D 0) F T B hf ht)) (cutT s t D (idxS (s.getD D 0) F T B hf ht)) (D : Int) = true := by
      unfold dimB; rw [show viewB (cutB b s t D (idxS (s.getD D 0) F T B hf ht)) (cutS s D (idxS (s.getD D 0) F T B hf ht)) (cutT s t D (idxS (s.getD D 0) F T B hf ht)) = true from hcv.1, Bool.true_and]
      simp only [inB, Bool.and_eq_true, decide_eq_true_eq]; omega
    have hdim2 : dimB b s t (D : Int) = true := by unfold dimB inB; rw [hv]; simp; omega
    have q1 := slice_yes hdim (show sliceB (-1) 0 (-2) true false = true by decide)
    rw [hS] at q1
    have hKl : ((idxS ((idxS (s.getD D 0) F T B hf ht).length : Int) (-1) 0 (-2) true false).length : Int) ≤ 60 := by
      rcases num_len_le (by omega) hKi with g | g
      · exact Int.le_trans g hL60
      · unfold idxS at g ⊢; rw [g]; decide
    have hcc := cut_cut (b := b) (a := fromI (s.getD D 0) F B hf) (e := toI (s.getD D 0) T B ht) (c := fromI ((idxS (s.getD D 0) F T B hf ht).length : Int) (-1) (-2) true) (f := toI ((idxS (s.getD D 0) F T B hf ht).length : Int) 0 (-2) false) (p := -2) hs hl hD hB (by omega) hL60 hKl hKi
    have hXn := take_num (a := fromI (s.getD D 0) F B hf) (e := toI (s.getD D 0) T B ht) (c := fromI ((idxS (s.getD D 0) F T B hf ht).length : Int) (-1) (-2) true) (f := toI ((idxS (s.getD D 0) F T B hf ht).length : Int) 0 (-2) false) (p := -2) hB (by omega) hKi
    have hXi : ∀ x ∈ takL (idxS (s.getD D 0) F T B hf ht) (idxS ((idxS (s.getD D 0) F T B hf ht).length : Int) (-1) 0 (-2) true false), 0 ≤ x ∧ x < s.getD D 0 := by
      intro x hx
      unfold takL at hx
      obtain ⟨i, hi, rfl⟩ := List.mem_map.1 hx
      have hi := hKi i hi
      exact hLi _ (getD_mem (s := idxS (s.getD D 0) F T B hf ht) (d := i.toNat) (by omega))
    change cutB _ _ _ D (idxS ((idxS (s.getD D 0) F T B hf ht).length : Int) (-1) 0 (-2) true false) = cutB b s t D (takL (idxS (s.getD D 0) F T B hf ht) (idxS ((idxS (s.getD D 0) F T B hf ht).length : Int) (-1) 0 (-2) true false)) ∧ cutS _ D (idxS ((idxS (s.getD D 0) F T B hf ht).length : Int) (-1) 0 (-2) true false) = cutS s D (takL (idxS (s.getD D 0) F T B hf ht) (idxS ((idxS (s.getD D 0) F T B hf ht).length : Int) (-1) 0 (-2) true false)) ∧ cutT _ _ D (idxS ((idxS (s.getD D 0) F T B hf ht).length : Int) (-1) 0 (-2) true false) = cutT s t D (takL (idxS (s.getD D 0) F T B hf ht) (idxS ((idxS (s.getD D 0) F T B hf ht).length : Int) (-1) 0 (-2) true false)) at hcc
    change takL (idxS (s.getD D 0) F T B hf ht) (idxS ((idxS (s.getD D 0) F T B hf ht).length : Int) (-1) 0 (-2) true false) = _ at hXn
    have hcv2 := (cut_view (a := fromI ((idxS (s.getD D 0) F T B hf ht).length : Int) (-1) (-2) true) (e := toI ((idxS (s.getD D 0) F T B hf ht).length : Int) 0 (-2) false) (q := -2) hcv.1 hDS (by omega) (by
      intro i hi; have := hKi i hi; rw [show (cutS s D (numL (fromI (s.getD D 0) F B hf) (toI (s.getD D 0) T B ht) B)).getD D 0 = (idxS (s.getD D 0) F T B hf ht).length from hS]; exact this)).1
    change viewB (cutB _ _ _ D (idxS ((idxS (s.getD D 0) F T B hf ht).length : Int) (-1) 0 (-2) true false)) (cutS _ D (idxS ((idxS (s.getD D 0) F T B hf ht).length : Int) (-1) 0 (-2) true false)) (cutT _ _ D (idxS ((idxS (s.getD D 0) F T B hf ht).length : Int) (-1) 0 (-2) true false)) = true at hcv2
    have hns := norm_slice (n := s.getD D 0) (N1 := N1) (N2 := N2) (N3 := N3) (Int.mul_ne_zero (by omega : (-2 : Int) ≠ 0) hB) he (by rw [← hXn]; exact hXi) (by rw [← hXn]; exact hN)
    rw [← hXn] at hns
    have q2 := slice_yes hdim2 hns.2
    rw [hns.1, ← hcc.1, ← hcc.2.1, ← hcc.2.2] at q2
    exact ⟨_, _, _, q1, q2, same_self hcv2⟩
end Go.Proofs.Ytonnnjaooifpjaa
