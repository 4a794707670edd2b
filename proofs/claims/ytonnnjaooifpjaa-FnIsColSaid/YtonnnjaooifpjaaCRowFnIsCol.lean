/- Texts of these proofs put together: LvQ, LawFnIsCol, RowFnIsCol. No condition. -/
import Derived.Test.YtonnnjaooifpjaaM1
import Derived.Test.YtonnnjaooifpjaaD1RowFnIsCol
import Derived.Test.YtonnnjaooifpjaaM2
import Derived.Test.YtonnnjaooifpjaaM5
set_option linter.unusedVariables false
set_option linter.unusedSimpArgs false
/- Walks: strides by columns. -/
namespace Go.Proofs.Ytonnnjaooifpjaa
open Go.RowKit
set_option linter.unusedVariables false
set_option maxRecDepth 100000


theorem colS_at (xs : List Int) (j : Nat) (h : j < xs.length) : ((colS xs).take j ++ List.replicate (xs.length - j) 0).set j (prodL (xs.take j)) = (colS xs).take (j+1) ++ List.replicate (xs.length - (j+1)) 0 := by
  have := fill_at (colS xs) j (by rw [colS_len]; exact h)
  rw [colS_len, colS_get xs j h] at this; exact this
theorem prodL_take (xs : List Int) (j : Nat) (h : j < xs.length) : prodL (xs.take (j+1)) = prodL (xs.take j) * xs.getD j 0 := by
  rw [List.take_succ_eq_append_getElem h, prodL_append]; simp [prodL, h]
def colB (b : Int) (s t : List Int) : Bool := viewB b s t && sameB (offsL b s t) (offsL b s (colS s))

set_option maxHeartbeats 800000 in
theorem implColStrides_c (xs : List Int) (v : Value) (w : World) (lo : Nat) (hv : Ints w lo v xs) (hs : Small xs) :
    Calls Try.prog 72 #[v] w (PInts w (colS xs)) := by
  have hv0 := hv
  obtain ⟨a, cap, rfl, hlc, hcm, ⟨hlen, _⟩, hc⟩ := hv
  obtain ⟨i0, hi, hz0, hz1, hz2⟩ := info_parts infoInt
  have hsb := Lib.hid (fun j : Nat => (hs.take j).count)
  have hse := Lib.hid hs.2
  clear hs
  go_enter Try.func72, Try.ntmps72
  go_wp2_with (at_make; refine wpList_make_full _ rfl _ _ 23 rfl w.heap.size 3 i0 (.int .i64 0) 1 Try.underlying23 hi hz0 hz1 .i64 .i64 _ _ xs.length rfl rfl rfl rfl (by rw [hz2]; omega) (by unfold maxLen; omega) (Nat.le_refl _) ?_)
  intro w1 hown hgr
  have hx : Ext w w1 := (Ext.refl w).grown hgr (by simp)
  rw [made_ints] at hown
  clear hgr
  go_wp2_with fail
  go_loopw [4, 10] (fun x i wr => ∃ j : Nat, j ≤ xs.length ∧ i = .int .i64 (j : Int) ∧ wr.ownsRow w.heap.size 3 1 (.slice (some ⟨w.heap.size, 0, none⟩) xs.length xs.length) xs.length (((colS xs).take j ++ List.replicate (xs.length - j) 0).map (Value.int .i64)) ∧ Ext w wr) (fun _ i _ => xs.length - (intOf i).toNat)
  case atStart => exact ⟨0, Nat.zero_le _, rfl, by simpa using hown, hx⟩
  case round =>
    obtain ⟨j, hj, rfl, ho, hxr⟩ := hrel
    by_cases hlt : j < xs.length
    · have hI : (j : Int) < xs.length := by omega
      have hk5 : (j : Int) ≤ cap := by omega
      obtain ⟨hoc, hof⟩ := own_cell ho j (by omega)
      have hst := Lib.hid (own_set ho j (prodL (xs.take j)) (by omega))
      have hset := Lib.hid (colS_at xs j hlt)
      have hcn := Lib.hid (hsb.out j).1
      have hdr := Lib.hid ((hv0.ext hxr).take j (by omega))
      clear hc ho hv0
      go_wp2_with fail
      refine (countOf_c _ _ _ _ hdr.out).mono ?_
      rintro e w' ⟨rfl, rfl⟩
      rw [hcn.out]
      go_wp2_with fail
      go_roundw
      case rel => exact ⟨j + 1, by omega, by go_num, by have := hst.out; rw [hset.out] at this; exact this, hxr.setCell (Nat.le_refl _) _⟩
      case measure => simp [intOf]; omega
    · obtain rfl : j = xs.length := by omega
      have hIn : ¬ ((xs.length : Int) < xs.length) := by omega
      go_wp2_with fail
      go_ret
      refine PInts.mk (base := w.heap.size) ?_ (Nat.le_refl _) (by rw [colS_len]; omega) hxr
      unfold OwnI; rw [colS_len]
      rw [List.take_of_length_le (by rw [colS_len]; exact Nat.le_refl _)] at ho
      simpa using ho

set_option maxHeartbeats 800000 in
theorem scolStrides_c (xs : List Int) (v : Value) (w : World) (lo : Nat) (hv : Ints w lo v xs) (hs : Small xs) :
    Calls Try.prog 75 #[v] w (PInts w (colS xs)) := by
  have hv0 := hv
  obtain ⟨a, cap, rfl, hlc, hcm, ⟨hlen, _⟩, hc⟩ := hv
  obtain ⟨i0, hi, hz0, hz1, hz2⟩ := info_parts infoInt
  have hsb := Lib.hid (fun j : Nat => (hs.take j).count)
  have hse := Lib.hid hs.2
  clear hs
  go_enter Try.func75, Try.ntmps75
  go_wp2_with (at_make; refine wpList_make_full _ rfl _ _ 23 rfl w.heap.size 3 i0 (.int .i64 0) 1 Try.underlying23 hi hz0 hz1 .i64 .i64 _ _ xs.length rfl rfl rfl rfl (by rw [hz2]; omega) (by unfold maxLen; omega) (Nat.le_refl _) ?_)
  intro w1 hown hgr
  have hx : Ext w w1 := (Ext.refl w).grown hgr (by simp)
  rw [made_ints] at hown
  clear hgr
  go_wp2_with fail
  go_loopw [4, 5] (fun kk i wr => ∃ j : Nat, j ≤ xs.length ∧ i = .int .i64 (j : Int) ∧ kk = .int .i64 (prodL (xs.take j)) ∧ wr.ownsRow w.heap.size 3 1 (.slice (some ⟨w.heap.size, 0, none⟩) xs.length xs.length) xs.length (((colS xs).take j ++ List.replicate (xs.length - j) 0).map (Value.int .i64)) ∧ Ext w wr) (fun _ i _ => xs.length - (intOf i).toNat)
  case atStart => exact ⟨0, Nat.zero_le _, rfl, by simp [prodL], by simpa using hown, hx⟩
  case round =>
    obtain ⟨j, hj, rfl, rfl, ho, hxr⟩ := hrel
    by_cases hlt : j < xs.length
    · have hI : (j : Int) < xs.length := by omega
      obtain ⟨b, off, rfl, _, hcell, _⟩ := hc j hlt
      have hcell' := hxr.cell hcell
      have hbl : b < w.heap.size := World.block_lt_of_cell? _ _ hcell
      have hne : b ≠ w.heap.size := by omega
      have hne2 : w.heap.size ≠ b := by omega
      obtain ⟨hoc, hof⟩ := own_cell ho j (by omega)
      have hb1 := hsb.out j
      have he := hse.out (xs.getD j 0) (by simp [hlt])
      have hpb : 0 ≤ prodL (xs.take j) ∧ prodL (xs.take j) ≤ 12960000 := by rw [← hb1.1]; exact ⟨hb1.2.1, hb1.2.2.1⟩
      have hmb := mul_bd2 he.1 he.2 hpb.1 hpb.2
      have hst := Lib.hid (own_set ho j (prodL (xs.take j)) (by omega))
      have hset := Lib.hid (colS_at xs j hlt)
      have hp' := Lib.hid (prodL_take xs j hlt)
      generalize hg : xs.getD j 0 = q at *
      replace hg := Lib.hid hg
      generalize hgp : prodL (xs.take j) = P at *
      replace hgp := Lib.hid hgp
      have W1 : IntKind.i64.wrap (P * q) = P * q := IntWalk.i64_in _ (by omega)
      clear hc ho hcell hb1 hsb hse
      go_wp2_with fail
      go_roundw
      case rel => exact ⟨j + 1, by omega, by go_num, by rw [hp'.out], by have := hst.out; rw [hset.out] at this; exact this, hxr.setCell (Nat.le_refl _) _⟩
      case measure => simp [intOf]; omega
    · obtain rfl : j = xs.length := by omega
      have hIn : ¬ ((xs.length : Int) < xs.length) := by omega
      go_wp2_with fail
      go_ret
      refine PInts.mk (base := w.heap.size) ?_ (Nat.le_refl _) (by rw [colS_len]; omega) hxr
      unfold OwnI; rw [colS_len]
      rw [List.take_of_length_le (by rw [colS_len]; exact Nat.le_refl _)] at ho
      simpa using ho

set_option maxHeartbeats 1600000 in
theorem implIsCol_c (b1 : Int) (u1 v1 : Value) (s1 t1 : List Int) (w : World) (l1 m1 : Nat) (h1 : Ints w l1 u1 s1) (k1 : Ints w m1 v1 t1) :
    Calls Try.prog 16 #[.agg #[.int .i64 b1, u1, v1]] w (fun e w' => e = .returned (.bool (colB b1 s1 t1)) ∧ Ext w w') := by
  obtain ⟨p0, c0, rfl⟩ := h1.form
  obtain ⟨p1, c1, rfl⟩ := k1.form
  go_enter Try.func16, Try.ntmps16
  go_wp2_with fail
  refine (isView_c b1 (.slice p0 s1.length c0) (.slice p1 t1.length c1) s1 t1 _ _ _ (h1.ext (by repeat (first | (with_reducible assumption) | (with_reducible refine Ext.setCell ?_ (by first | (simp; done) | (simp; omega) | omega) _) | (with_reducible apply Ext.alloc) | (with_reducible apply Ext.drew) | (with_reducible apply Ext.drewN) | (with_reducible exact Ext.refl _)))) (k1.ext (by repeat (first | (with_reducible assumption) | (with_reducible refine Ext.setCell ?_ (by first | (simp; done) | (simp; omega) | omega) _) | (with_reducible apply Ext.alloc) | (with_reducible apply Ext.drew) | (with_reducible apply Ext.drewN) | (with_reducible exact Ext.refl _))))).mono ?_
  rintro e w1 ⟨rfl, xw1⟩
  have Lw1 : Ext w w1 := Ext.trans (by repeat (first | (with_reducible assumption) | (with_reducible refine Ext.setCell ?_ (by first | (simp; done) | (simp; omega) | omega) _) | (with_reducible apply Ext.alloc) | (with_reducible apply Ext.drew) | (with_reducible apply Ext.drewN) | (with_reducible exact Ext.refl _))) xw1
  have Xw1 : Ext w w1 := Lw1
  have b10 : w1.cell? ⟨w.heap.size, 0, none⟩ = some (.int .i64 b1) := xw1.cell (by first | (simp; done) | ((repeat rw [World.cell?_alloc_lt _ _ _ (by simp <;> omega)]); simp; done) | (go_simp; done))
  have b11 : w1.cell? ⟨w.heap.size, 1, none⟩ = some (.slice p0 s1.length c0) := xw1.cell (by first | (simp; done) | ((repeat rw [World.cell?_alloc_lt _ _ _ (by simp <;> omega)]); simp; done) | (go_simp; done))
  have b12 : w1.cell? ⟨w.heap.size, 2, none⟩ = some (.slice p1 t1.length c1) := xw1.cell (by first | (simp; done) | ((repeat rw [World.cell?_alloc_lt _ _ _ (by simp <;> omega)]); simp; done) | (go_simp; done))
  have z_b1 : w.heap.size < w1.heap.size := World.block_lt_of_cell? _ _ b10
  have s_w1 : w.heap.size ≤ w1.heap.size := Xw1.size
  clear xw1
  cases hB2 : viewB b1 s1 t1
  · replace hB2 := Lib.hid hB2
    go_wp2_with fail
    go_ret
    exact ⟨by rw [show colB b1 s1 t1 = false by unfold colB; rw [hB2.out] <;> rfl] <;> rfl, (Xw1.trans (by repeat (first | (with_reducible assumption) | (with_reducible refine Ext.setCell ?_ (by first | (simp; done) | (simp; omega) | omega) _) | (with_reducible apply Ext.alloc) | (with_reducible apply Ext.drew) | (with_reducible apply Ext.drewN) | (with_reducible exact Ext.refl _))))⟩
  · replace hB2 := Lib.hid hB2
    go_wp2_with fail
    refine wp_region_tail (S := fun w' => w'.cell? ⟨w.heap.size, 0, none⟩ = some (.int .i64 b1) ∧ w'.cell? ⟨w.heap.size, 1, none⟩ = some (.slice p0 s1.length c0) ∧ w'.cell? ⟨w.heap.size, 2, none⟩ = some (.slice p1 t1.length c1)) (fun i => decide (13 ≤ i)) (by kernel_rfl) ⟨b10, b11, b12⟩ (fun hHeld => ?_)
    refine wpTail_take (i := 0) (v := ?_) rfl (by kernel_rfl) (by kernel_rfl) (by kernel_rfl) rfl (by kernel_rfl) (fun _ _ _ h => h) (Or.inl ⟨by rfl, ?_⟩) (by assumption) ?_
    rotate_left
    · (intro w hSw; (try dsimp only at hSw); go_simp; try with_reducible rfl)
    try simp only [Act.put, List.setIfInBounds_toArray, List.set_cons_zero, List.set_cons_succ, List.getElem_toArray, List.getElem_cons_succ, List.getElem_cons_zero]
    refine wpTail_take (i := 2) (v := ?_) rfl (by kernel_rfl) (by kernel_rfl) (by kernel_rfl) rfl (by kernel_rfl) (fun _ _ _ h => h) (Or.inl ⟨by rfl, ?_⟩) (by assumption) ?_
    rotate_left
    · (intro w hSw; (try dsimp only at hSw); go_simp; try with_reducible rfl)
    try simp only [Act.put, List.setIfInBounds_toArray, List.set_cons_zero, List.set_cons_succ, List.getElem_toArray, List.getElem_cons_succ, List.getElem_cons_zero]
    refine wpTail_take (i := 3) (v := ?_) rfl (by kernel_rfl) (by kernel_rfl) (by kernel_rfl) rfl (by kernel_rfl) (fun _ _ _ h => h) (Or.inl ⟨by rfl, ?_⟩) (by assumption) ?_
    rotate_left
    · (intro w hSw; (try dsimp only at hSw); go_simp; try with_reducible rfl)
    try simp only [Act.put, List.setIfInBounds_toArray, List.set_cons_zero, List.set_cons_succ, List.getElem_toArray, List.getElem_cons_succ, List.getElem_cons_zero]
    refine wpTail_take (i := 4) (v := ?_) rfl (by kernel_rfl) (by kernel_rfl) (by kernel_rfl) rfl (by kernel_rfl) (fun _ _ _ h => h) (Or.inl ⟨by rfl, ?_⟩) (by assumption) ?_
    rotate_left
    · (intro w hSw; (try dsimp only at hSw); go_simp; try with_reducible rfl)
    try simp only [Act.put, List.setIfInBounds_toArray, List.set_cons_zero, List.set_cons_succ, List.getElem_toArray, List.getElem_cons_succ, List.getElem_cons_zero]
    refine wpTail_take (i := 5) (v := ?_) rfl (by kernel_rfl) (by kernel_rfl) (by kernel_rfl) rfl (by kernel_rfl) (fun _ _ _ h => h) (Or.inl ⟨by rfl, ?_⟩) (by assumption) ?_
    rotate_left
    · (intro w hSw; (try dsimp only at hSw); go_simp; try with_reducible rfl)
    try simp only [Act.put, List.setIfInBounds_toArray, List.set_cons_zero, List.set_cons_succ, List.getElem_toArray, List.getElem_cons_succ, List.getElem_cons_zero]
    refine wpTail_take (i := 6) (v := ?_) rfl (by kernel_rfl) (by kernel_rfl) (by kernel_rfl) rfl (by kernel_rfl) (fun _ _ _ h => h) (Or.inl ⟨by rfl, ?_⟩) (by assumption) ?_
    rotate_left
    · (intro w hSw; (try dsimp only at hSw); go_simp; try with_reducible rfl)
    try simp only [Act.put, List.setIfInBounds_toArray, List.set_cons_zero, List.set_cons_succ, List.getElem_toArray, List.getElem_cons_succ, List.getElem_cons_zero]
    refine wpTail_take (i := 7) (v := ?_) rfl (by kernel_rfl) (by kernel_rfl) (by kernel_rfl) rfl (by kernel_rfl) (fun _ _ _ h => h) (Or.inl ⟨by rfl, ?_⟩) (by assumption) ?_
    rotate_left
    · (intro w hSw; (try dsimp only at hSw); go_simp; try with_reducible rfl)
    try simp only [Act.put, List.setIfInBounds_toArray, List.set_cons_zero, List.set_cons_succ, List.getElem_toArray, List.getElem_cons_succ, List.getElem_cons_zero]
    refine wpTail_one (i := 1) (by kernel_rfl) rfl rfl (fun K hK => ?_)
    try simp only [Act.put, List.setIfInBounds_toArray, List.set_cons_zero, List.set_cons_succ, List.getElem_toArray, List.getElem_cons_succ, List.getElem_cons_zero]
    go_simp
    refine (offsetsOf_c b1 (.slice p0 s1.length c0) (.slice p1 t1.length c1) s1 t1 _ _ _ (h1.ext (Xw1.trans (by repeat (first | (with_reducible assumption) | (with_reducible refine Ext.setCell ?_ (by first | (simp; done) | (simp; omega) | omega) _) | (with_reducible apply Ext.alloc) | (with_reducible apply Ext.drew) | (with_reducible apply Ext.drewN) | (with_reducible exact Ext.refl _))))) (k1.ext (Xw1.trans (by repeat (first | (with_reducible assumption) | (with_reducible refine Ext.setCell ?_ (by first | (simp; done) | (simp; omega) | omega) _) | (with_reducible apply Ext.alloc) | (with_reducible apply Ext.drew) | (with_reducible apply Ext.drewN) | (with_reducible exact Ext.refl _))))) (by first | omega | exact (vw hB2.out).1 | exact (vw hB2.out).2.1 | exact (vw hB2.out).2.2.1 | exact (vw hB2.out).2.2.2) (by first | omega | exact (vw hB2.out).1 | exact (vw hB2.out).2.1 | exact (vw hB2.out).2.2.1 | exact (vw hB2.out).2.2.2) (by first | omega | exact (vw hB2.out).1 | exact (vw hB2.out).2.1 | exact (vw hB2.out).2.2.1 | exact (vw hB2.out).2.2.2)).mono ?_
    rintro e w2 ⟨fv3, rfl, i4, -, xw2⟩
    have Lw2 : Ext w1 w2 := Ext.trans (by repeat (first | (with_reducible assumption) | (with_reducible refine Ext.setCell ?_ (by first | (simp; done) | (simp; omega) | omega) _) | (with_reducible apply Ext.alloc) | (with_reducible apply Ext.drew) | (with_reducible apply Ext.drewN) | (with_reducible exact Ext.refl _))) xw2
    have Xw2 : Ext w w2 := Xw1.trans Lw2
    replace b10 := Lw2.cell b10
    replace b11 := Lw2.cell b11
    replace b12 := Lw2.cell b12
    have z_b1 : w.heap.size < w2.heap.size := World.block_lt_of_cell? _ _ b10
    have s_w2 : w.heap.size ≤ w2.heap.size := Xw2.size
    clear xw2
    obtain ⟨afv3, cfv3, rfl⟩ := i4.form
    refine hK.out _ _ ⟨b10, b11, b12⟩ (fun hHeld => ?_)
    clear hK K
    try simp only [Act.put, List.setIfInBounds_toArray, List.set_cons_zero, List.set_cons_succ, List.getElem_toArray, List.getElem_cons_succ, List.getElem_cons_zero]
    refine wpTail_one (i := 8) (by kernel_rfl) rfl rfl (fun K hK => ?_)
    try simp only [Act.put, List.setIfInBounds_toArray, List.set_cons_zero, List.set_cons_succ, List.getElem_toArray, List.getElem_cons_succ, List.getElem_cons_zero]
    go_simp
    refine (implColStrides_c s1 (.slice p0 s1.length c0) _ _ (h1.ext (Xw2.trans (by repeat (first | (with_reducible assumption) | (with_reducible refine Ext.setCell ?_ (by first | (simp; done) | (simp; omega) | omega) _) | (with_reducible apply Ext.alloc) | (with_reducible apply Ext.drew) | (with_reducible apply Ext.drewN) | (with_reducible exact Ext.refl _))))) (by first | omega | exact (vw hB2.out).1 | exact (vw hB2.out).2.1 | exact (vw hB2.out).2.2.1 | exact (vw hB2.out).2.2.2)).mono ?_
    rintro e w3 ⟨fv5, rfl, i6, -, xw3⟩
    have Lw3 : Ext w2 w3 := Ext.trans (by repeat (first | (with_reducible assumption) | (with_reducible refine Ext.setCell ?_ (by first | (simp; done) | (simp; omega) | omega) _) | (with_reducible apply Ext.alloc) | (with_reducible apply Ext.drew) | (with_reducible apply Ext.drewN) | (with_reducible exact Ext.refl _))) xw3
    have Xw3 : Ext w w3 := Xw2.trans Lw3
    replace b10 := Lw3.cell b10
    replace b11 := Lw3.cell b11
    replace b12 := Lw3.cell b12
    have z_b1 : w.heap.size < w3.heap.size := World.block_lt_of_cell? _ _ b10
    replace i4 := i4.ext Lw3
    have s_w3 : w.heap.size ≤ w3.heap.size := Xw3.size
    clear xw3
    obtain ⟨afv5, cfv5, rfl⟩ := i6.form
    refine hK.out _ _ ⟨b10, b11, b12⟩ (fun hHeld => ?_)
    clear hK K
    try simp only [Act.put, List.setIfInBounds_toArray, List.set_cons_zero, List.set_cons_succ, List.getElem_toArray, List.getElem_cons_succ, List.getElem_cons_zero]
    refine wpTail_take (i := 9) (v := ?_) rfl (by kernel_rfl) (by kernel_rfl) (by kernel_rfl) rfl (by kernel_rfl) (fun _ _ _ h => h) (Or.inl ⟨by rfl, ?_⟩) (by assumption) ?_
    rotate_left
    · (intro w hSw; (try dsimp only at hSw); go_simp; try with_reducible rfl)
    try simp only [Act.put, List.setIfInBounds_toArray, List.set_cons_zero, List.set_cons_succ, List.getElem_toArray, List.getElem_cons_succ, List.getElem_cons_zero]
    refine wpTail_one (i := 10) (by kernel_rfl) rfl rfl (fun K hK => ?_)
    try simp only [Act.put, List.setIfInBounds_toArray, List.set_cons_zero, List.set_cons_succ, List.getElem_toArray, List.getElem_cons_succ, List.getElem_cons_zero]
    go_simp
    refine (offsetsOf_c b1 (.slice p0 s1.length c0) (.slice afv5 ((colS s1).length) cfv5) s1 (colS s1) _ _ _ (h1.ext (Xw3.trans (by repeat (first | (with_reducible assumption) | (with_reducible refine Ext.setCell ?_ (by first | (simp; done) | (simp; omega) | omega) _) | (with_reducible apply Ext.alloc) | (with_reducible apply Ext.drew) | (with_reducible apply Ext.drewN) | (with_reducible exact Ext.refl _))))) (i6.ext (by repeat (first | (with_reducible assumption) | (with_reducible refine Ext.setCell ?_ (by first | (simp; done) | (simp; omega) | omega) _) | (with_reducible apply Ext.alloc) | (with_reducible apply Ext.drew) | (with_reducible apply Ext.drewN) | (with_reducible exact Ext.refl _)))) (by first | omega | exact (vw hB2.out).1 | exact (vw hB2.out).2.1 | exact (vw hB2.out).2.2.1 | exact (vw hB2.out).2.2.2 | (rw [colS_len]; omega) | exact Nat.le_of_eq (colS_len _).symm) (by first | omega | exact (vw hB2.out).1 | exact (vw hB2.out).2.1 | exact (vw hB2.out).2.2.1 | exact (vw hB2.out).2.2.2) (by first | omega | exact (vw hB2.out).1 | exact (vw hB2.out).2.1 | exact (vw hB2.out).2.2.1 | exact (vw hB2.out).2.2.2)).mono ?_
    rintro e w4 ⟨fv7, rfl, i8, -, xw4⟩
    have Lw4 : Ext w3 w4 := Ext.trans (by repeat (first | (with_reducible assumption) | (with_reducible refine Ext.setCell ?_ (by first | (simp; done) | (simp; omega) | omega) _) | (with_reducible apply Ext.alloc) | (with_reducible apply Ext.drew) | (with_reducible apply Ext.drewN) | (with_reducible exact Ext.refl _))) xw4
    have Xw4 : Ext w w4 := Xw3.trans Lw4
    replace b10 := Lw4.cell b10
    replace b11 := Lw4.cell b11
    replace b12 := Lw4.cell b12
    have z_b1 : w.heap.size < w4.heap.size := World.block_lt_of_cell? _ _ b10
    replace i4 := i4.ext Lw4
    replace i6 := i6.ext Lw4
    have s_w4 : w.heap.size ≤ w4.heap.size := Xw4.size
    clear xw4
    obtain ⟨afv7, cfv7, rfl⟩ := i8.form
    refine hK.out _ _ ⟨b10, b11, b12⟩ (fun hHeld => ?_)
    clear hK K
    try simp only [Act.put, List.setIfInBounds_toArray, List.set_cons_zero, List.set_cons_succ, List.getElem_toArray, List.getElem_cons_succ, List.getElem_cons_zero]
    refine wpTail_one (i := 11) (by kernel_rfl) rfl rfl (fun K hK => ?_)
    try simp only [Act.put, List.setIfInBounds_toArray, List.set_cons_zero, List.set_cons_succ, List.getElem_toArray, List.getElem_cons_succ, List.getElem_cons_zero]
    go_simp
    refine (equal_x (offsL b1 s1 t1) (offsL b1 s1 (colS s1)) (.slice afv3 ((offsL b1 s1 t1).length) cfv3) (.slice afv7 ((offsL b1 s1 (colS s1)).length) cfv7) _ _ _ (i4.ext (by repeat (first | (with_reducible assumption) | (with_reducible refine Ext.setCell ?_ (by first | (simp; done) | (simp; omega) | omega) _) | (with_reducible apply Ext.alloc) | (with_reducible apply Ext.drew) | (with_reducible apply Ext.drewN) | (with_reducible exact Ext.refl _)))) (i8.ext (by repeat (first | (with_reducible assumption) | (with_reducible refine Ext.setCell ?_ (by first | (simp; done) | (simp; omega) | omega) _) | (with_reducible apply Ext.alloc) | (with_reducible apply Ext.drew) | (with_reducible apply Ext.drewN) | (with_reducible exact Ext.refl _))))).mono ?_
    rintro e w5 ⟨rfl, xw5⟩
    have Lw5 : Ext w4 w5 := Ext.trans (by repeat (first | (with_reducible assumption) | (with_reducible refine Ext.setCell ?_ (by first | (simp; done) | (simp; omega) | omega) _) | (with_reducible apply Ext.alloc) | (with_reducible apply Ext.drew) | (with_reducible apply Ext.drewN) | (with_reducible exact Ext.refl _))) xw5
    have Xw5 : Ext w w5 := Xw4.trans Lw5
    replace b10 := Lw5.cell b10
    replace b11 := Lw5.cell b11
    replace b12 := Lw5.cell b12
    have z_b1 : w.heap.size < w5.heap.size := World.block_lt_of_cell? _ _ b10
    replace i4 := i4.ext Lw5
    replace i6 := i6.ext Lw5
    replace i8 := i8.ext Lw5
    have s_w5 : w.heap.size ≤ w5.heap.size := Xw5.size
    clear xw5
    cases hB9 : sameB (offsL b1 s1 t1) (offsL b1 s1 (colS s1))
    · replace hB9 := Lib.hid hB9
      refine hK.out _ _ ⟨b10, b11, b12⟩ (fun hHeld => ?_)
      clear hK K
      try simp only [Act.put, List.setIfInBounds_toArray, List.set_cons_zero, List.set_cons_succ, List.getElem_toArray, List.getElem_cons_succ, List.getElem_cons_zero]
      refine wpTail_take (i := 12) (v := ?_) rfl (by kernel_rfl) (by kernel_rfl) (by kernel_rfl) rfl (by kernel_rfl) (fun _ _ _ h => h) (Or.inl ⟨by rfl, ?_⟩) (by assumption) ?_
      rotate_left
      · (intro w hSw; (try dsimp only at hSw); go_simp; try with_reducible rfl)
      try simp only [Act.put, List.setIfInBounds_toArray, List.set_cons_zero, List.set_cons_succ, List.getElem_toArray, List.getElem_cons_succ, List.getElem_cons_zero]
      refine wpTail_done (by kernel_rfl) ?_ _
      clear hHeld 
      go_wp2_with fail
      go_ret
      exact ⟨by rw [show colB b1 s1 t1 = false by unfold colB; rw [hB2.out, hB9.out] <;> rfl] <;> rfl, (Xw5.trans (by repeat (first | (with_reducible assumption) | (with_reducible refine Ext.setCell ?_ (by first | (simp; done) | (simp; omega) | omega) _) | (with_reducible apply Ext.alloc) | (with_reducible apply Ext.drew) | (with_reducible apply Ext.drewN) | (with_reducible exact Ext.refl _))))⟩
    · replace hB9 := Lib.hid hB9
      refine hK.out _ _ ⟨b10, b11, b12⟩ (fun hHeld => ?_)
      clear hK K
      try simp only [Act.put, List.setIfInBounds_toArray, List.set_cons_zero, List.set_cons_succ, List.getElem_toArray, List.getElem_cons_succ, List.getElem_cons_zero]
      refine wpTail_take (i := 12) (v := ?_) rfl (by kernel_rfl) (by kernel_rfl) (by kernel_rfl) rfl (by kernel_rfl) (fun _ _ _ h => h) (Or.inl ⟨by rfl, ?_⟩) (by assumption) ?_
      rotate_left
      · (intro w hSw; (try dsimp only at hSw); go_simp; try with_reducible rfl)
      try simp only [Act.put, List.setIfInBounds_toArray, List.set_cons_zero, List.set_cons_succ, List.getElem_toArray, List.getElem_cons_succ, List.getElem_cons_zero]
      refine wpTail_done (by kernel_rfl) ?_ _
      clear hHeld 
      go_wp2_with fail
      go_ret
      exact ⟨by rw [show colB b1 s1 t1 = true by unfold colB; rw [hB2.out, hB9.out] <;> rfl] <;> rfl, (Xw5.trans (by repeat (first | (with_reducible assumption) | (with_reducible refine Ext.setCell ?_ (by first | (simp; done) | (simp; omega) | omega) _) | (with_reducible apply Ext.alloc) | (with_reducible apply Ext.drew) | (with_reducible apply Ext.drewN) | (with_reducible exact Ext.refl _))))⟩

set_option maxHeartbeats 1600000 in
theorem specIsCol_c (b1 : Int) (u1 v1 : Value) (s1 t1 : List Int) (w : World) (l1 m1 : Nat) (h1 : Ints w l1 u1 s1) (k1 : Ints w m1 v1 t1) :
    Calls Try.prog 17 #[.agg #[.int .i64 b1, u1, v1]] w (fun e w' => e = .returned (.bool (colB b1 s1 t1)) ∧ Ext w w') := by
  obtain ⟨p0, c0, rfl⟩ := h1.form
  obtain ⟨p1, c1, rfl⟩ := k1.form
  go_enter Try.func17, Try.ntmps17
  go_wp2_with fail
  have Lw1 : Ext w (w.alloc (.cells #[.int .i64 b1, .slice p0 s1.length c0, .slice p1 t1.length c1] 25)) := (by repeat (first | (with_reducible assumption) | (with_reducible refine Ext.setCell ?_ (by first | (simp; done) | (simp; omega) | omega) _) | (with_reducible apply Ext.alloc) | (with_reducible apply Ext.drew) | (with_reducible apply Ext.drewN) | (with_reducible exact Ext.refl _)))
  have Xw1 : Ext w (w.alloc (.cells #[.int .i64 b1, .slice p0 s1.length c0, .slice p1 t1.length c1] 25)) := Lw1
  have b10 : (w.alloc (.cells #[.int .i64 b1, .slice p0 s1.length c0, .slice p1 t1.length c1] 25)).cell? ⟨w.heap.size, 0, none⟩ = some (.int .i64 b1) := (by first | (simp; done) | ((repeat rw [World.cell?_alloc_lt _ _ _ (by simp <;> omega)]); simp; done) | (go_simp; done))
  have b11 : (w.alloc (.cells #[.int .i64 b1, .slice p0 s1.length c0, .slice p1 t1.length c1] 25)).cell? ⟨w.heap.size, 1, none⟩ = some (.slice p0 s1.length c0) := (by first | (simp; done) | ((repeat rw [World.cell?_alloc_lt _ _ _ (by simp <;> omega)]); simp; done) | (go_simp; done))
  have b12 : (w.alloc (.cells #[.int .i64 b1, .slice p0 s1.length c0, .slice p1 t1.length c1] 25)).cell? ⟨w.heap.size, 2, none⟩ = some (.slice p1 t1.length c1) := (by first | (simp; done) | ((repeat rw [World.cell?_alloc_lt _ _ _ (by simp <;> omega)]); simp; done) | (go_simp; done))
  have z_b1 : w.heap.size < (w.alloc (.cells #[.int .i64 b1, .slice p0 s1.length c0, .slice p1 t1.length c1] 25)).heap.size := World.block_lt_of_cell? _ _ b10
  have s_w1 : w.heap.size ≤ (w.alloc (.cells #[.int .i64 b1, .slice p0 s1.length c0, .slice p1 t1.length c1] 25)).heap.size := Xw1.size
  generalize w.alloc (.cells #[.int .i64 b1, .slice p0 s1.length c0, .slice p1 t1.length c1] 25) = w1 at *
  refine wp_region_tail (S := fun w' => w'.cell? ⟨w.heap.size, 0, none⟩ = some (.int .i64 b1) ∧ w'.cell? ⟨w.heap.size, 1, none⟩ = some (.slice p0 s1.length c0) ∧ w'.cell? ⟨w.heap.size, 2, none⟩ = some (.slice p1 t1.length c1)) (fun i => decide (10 ≤ i)) (by kernel_rfl) ⟨b10, b11, b12⟩ (fun hHeld => ?_)
  refine wpTail_take (i := 0) (v := ?_) rfl (by kernel_rfl) (by kernel_rfl) (by kernel_rfl) rfl (by kernel_rfl) (fun _ _ _ h => h) (Or.inl ⟨by rfl, ?_⟩) (by assumption) ?_
  rotate_left
  · (intro w hSw; (try dsimp only at hSw); go_simp; try with_reducible rfl)
  try simp only [Act.put, List.setIfInBounds_toArray, List.set_cons_zero, List.set_cons_succ, List.getElem_toArray, List.getElem_cons_succ, List.getElem_cons_zero]
  refine wpTail_one (i := 1) (by kernel_rfl) rfl rfl (fun K hK => ?_)
  try simp only [Act.put, List.setIfInBounds_toArray, List.set_cons_zero, List.set_cons_succ, List.getElem_toArray, List.getElem_cons_succ, List.getElem_cons_zero]
  go_simp
  refine (validView_c b1 (.slice p0 s1.length c0) (.slice p1 t1.length c1) s1 t1 _ _ _ (h1.ext (Xw1.trans (by repeat (first | (with_reducible assumption) | (with_reducible refine Ext.setCell ?_ (by first | (simp; done) | (simp; omega) | omega) _) | (with_reducible apply Ext.alloc) | (with_reducible apply Ext.drew) | (with_reducible apply Ext.drewN) | (with_reducible exact Ext.refl _))))) (k1.ext (Xw1.trans (by repeat (first | (with_reducible assumption) | (with_reducible refine Ext.setCell ?_ (by first | (simp; done) | (simp; omega) | omega) _) | (with_reducible apply Ext.alloc) | (with_reducible apply Ext.drew) | (with_reducible apply Ext.drewN) | (with_reducible exact Ext.refl _)))))).mono ?_
  rintro e w2 ⟨rfl, xw2⟩
  have Lw2 : Ext w1 w2 := Ext.trans (by repeat (first | (with_reducible assumption) | (with_reducible refine Ext.setCell ?_ (by first | (simp; done) | (simp; omega) | omega) _) | (with_reducible apply Ext.alloc) | (with_reducible apply Ext.drew) | (with_reducible apply Ext.drewN) | (with_reducible exact Ext.refl _))) xw2
  have Xw2 : Ext w w2 := Xw1.trans Lw2
  replace b10 := Lw2.cell b10
  replace b11 := Lw2.cell b11
  replace b12 := Lw2.cell b12
  have z_b1 : w.heap.size < w2.heap.size := World.block_lt_of_cell? _ _ b10
  have s_w2 : w.heap.size ≤ w2.heap.size := Xw2.size
  clear xw2
  cases hB2 : viewB b1 s1 t1
  · replace hB2 := Lib.hid hB2
    refine hK.out _ _ ⟨b10, b11, b12⟩ (fun hHeld => ?_)
    clear hK K
    try simp only [Act.put, List.setIfInBounds_toArray, List.set_cons_zero, List.set_cons_succ, List.getElem_toArray, List.getElem_cons_succ, List.getElem_cons_zero]
    refine wpTail_take (i := 2) (v := ?_) rfl (by kernel_rfl) (by kernel_rfl) (by kernel_rfl) rfl (by kernel_rfl) (fun _ _ _ h => h) (Or.inl ⟨by rfl, ?_⟩) (by assumption) ?_
    rotate_left
    · (intro w hSw; (try dsimp only at hSw); go_simp; try with_reducible rfl)
    try simp only [Act.put, List.setIfInBounds_toArray, List.set_cons_zero, List.set_cons_succ, List.getElem_toArray, List.getElem_cons_succ, List.getElem_cons_zero]
    refine wpTail_take (i := 3) (v := undef) rfl (by kernel_rfl) (by kernel_rfl) (by kernel_rfl) rfl (by kernel_rfl) (fun _ _ _ h => h) (Or.inr ⟨by rfl, rfl⟩) (by assumption) ?_
    try simp only [Act.put, List.setIfInBounds_toArray, List.set_cons_zero, List.set_cons_succ, List.getElem_toArray, List.getElem_cons_succ, List.getElem_cons_zero]
    refine wpTail_take (i := 4) (v := undef) rfl (by kernel_rfl) (by kernel_rfl) (by kernel_rfl) rfl (by kernel_rfl) (fun _ _ _ h => h) (Or.inr ⟨by rfl, rfl⟩) (by assumption) ?_
    try simp only [Act.put, List.setIfInBounds_toArray, List.set_cons_zero, List.set_cons_succ, List.getElem_toArray, List.getElem_cons_succ, List.getElem_cons_zero]
    refine wpTail_take (i := 5) (v := undef) rfl (by kernel_rfl) (by kernel_rfl) (by kernel_rfl) rfl (by kernel_rfl) (fun _ _ _ h => h) (Or.inr ⟨by rfl, rfl⟩) (by assumption) ?_
    try simp only [Act.put, List.setIfInBounds_toArray, List.set_cons_zero, List.set_cons_succ, List.getElem_toArray, List.getElem_cons_succ, List.getElem_cons_zero]
    refine wpTail_take (i := 6) (v := undef) rfl (by kernel_rfl) (by kernel_rfl) (by kernel_rfl) rfl (by kernel_rfl) (fun _ _ _ h => h) (Or.inr ⟨by rfl, rfl⟩) (by assumption) ?_
    try simp only [Act.put, List.setIfInBounds_toArray, List.set_cons_zero, List.set_cons_succ, List.getElem_toArray, List.getElem_cons_succ, List.getElem_cons_zero]
    refine wpTail_take (i := 7) (v := undef) rfl (by kernel_rfl) (by kernel_rfl) (by kernel_rfl) rfl (by kernel_rfl) (fun _ _ _ h => h) (Or.inr ⟨by rfl, rfl⟩) (by assumption) ?_
    try simp only [Act.put, List.setIfInBounds_toArray, List.set_cons_zero, List.set_cons_succ, List.getElem_toArray, List.getElem_cons_succ, List.getElem_cons_zero]
    refine wpTail_take (i := 8) (v := ?_) rfl (by kernel_rfl) (by kernel_rfl) (by kernel_rfl) rfl (by kernel_rfl) (fun _ _ _ h => h) (Or.inl ⟨by rfl, ?_⟩) (by assumption) ?_
    rotate_left
    · (intro w hSw; (try dsimp only at hSw); go_simp; try with_reducible rfl)
    try simp only [Act.put, List.setIfInBounds_toArray, List.set_cons_zero, List.set_cons_succ, List.getElem_toArray, List.getElem_cons_succ, List.getElem_cons_zero]
    refine wpTail_take (i := 9) (v := ?_) rfl (by kernel_rfl) (by kernel_rfl) (by kernel_rfl) rfl (by kernel_rfl) (fun _ _ _ h => h) (Or.inl ⟨by rfl, ?_⟩) (by assumption) ?_
    rotate_left
    · (intro w hSw; (try dsimp only at hSw); go_simp; try with_reducible rfl)
    try simp only [Act.put, List.setIfInBounds_toArray, List.set_cons_zero, List.set_cons_succ, List.getElem_toArray, List.getElem_cons_succ, List.getElem_cons_zero]
    refine wpTail_done (by kernel_rfl) ?_ _
    clear hHeld 
    go_wp2_with fail
    go_ret
    exact ⟨by rw [show colB b1 s1 t1 = false by unfold colB; rw [hB2.out] <;> rfl] <;> rfl, (Xw2.trans (by repeat (first | (with_reducible assumption) | (with_reducible refine Ext.setCell ?_ (by first | (simp; done) | (simp; omega) | omega) _) | (with_reducible apply Ext.alloc) | (with_reducible apply Ext.drew) | (with_reducible apply Ext.drewN) | (with_reducible exact Ext.refl _))))⟩
  · replace hB2 := Lib.hid hB2
    refine hK.out _ _ ⟨b10, b11, b12⟩ (fun hHeld => ?_)
    clear hK K
    try simp only [Act.put, List.setIfInBounds_toArray, List.set_cons_zero, List.set_cons_succ, List.getElem_toArray, List.getElem_cons_succ, List.getElem_cons_zero]
    refine wpTail_take (i := 2) (v := ?_) rfl (by kernel_rfl) (by kernel_rfl) (by kernel_rfl) rfl (by kernel_rfl) (fun _ _ _ h => h) (Or.inl ⟨by rfl, ?_⟩) (by assumption) ?_
    rotate_left
    · (intro w hSw; (try dsimp only at hSw); go_simp; try with_reducible rfl)
    try simp only [Act.put, List.setIfInBounds_toArray, List.set_cons_zero, List.set_cons_succ, List.getElem_toArray, List.getElem_cons_succ, List.getElem_cons_zero]
    refine wpTail_take (i := 3) (v := ?_) rfl (by kernel_rfl) (by kernel_rfl) (by kernel_rfl) rfl (by kernel_rfl) (fun _ _ _ h => h) (Or.inl ⟨by rfl, ?_⟩) (by assumption) ?_
    rotate_left
    · (intro w hSw; (try dsimp only at hSw); go_simp; try with_reducible rfl)
    try simp only [Act.put, List.setIfInBounds_toArray, List.set_cons_zero, List.set_cons_succ, List.getElem_toArray, List.getElem_cons_succ, List.getElem_cons_zero]
    refine wpTail_take (i := 4) (v := ?_) rfl (by kernel_rfl) (by kernel_rfl) (by kernel_rfl) rfl (by kernel_rfl) (fun _ _ _ h => h) (Or.inl ⟨by rfl, ?_⟩) (by assumption) ?_
    rotate_left
    · (intro w hSw; (try dsimp only at hSw); go_simp; try with_reducible rfl)
    try simp only [Act.put, List.setIfInBounds_toArray, List.set_cons_zero, List.set_cons_succ, List.getElem_toArray, List.getElem_cons_succ, List.getElem_cons_zero]
    refine wpTail_take (i := 5) (v := ?_) rfl (by kernel_rfl) (by kernel_rfl) (by kernel_rfl) rfl (by kernel_rfl) (fun _ _ _ h => h) (Or.inl ⟨by rfl, ?_⟩) (by assumption) ?_
    rotate_left
    · (intro w hSw; (try dsimp only at hSw); go_simp; try with_reducible rfl)
    try simp only [Act.put, List.setIfInBounds_toArray, List.set_cons_zero, List.set_cons_succ, List.getElem_toArray, List.getElem_cons_succ, List.getElem_cons_zero]
    refine wpTail_one (i := 6) (by kernel_rfl) rfl rfl (fun K hK => ?_)
    try simp only [Act.put, List.setIfInBounds_toArray, List.set_cons_zero, List.set_cons_succ, List.getElem_toArray, List.getElem_cons_succ, List.getElem_cons_zero]
    go_simp
    refine (scolStrides_c s1 (.slice p0 s1.length c0) _ _ (h1.ext (Xw2.trans (by repeat (first | (with_reducible assumption) | (with_reducible refine Ext.setCell ?_ (by first | (simp; done) | (simp; omega) | omega) _) | (with_reducible apply Ext.alloc) | (with_reducible apply Ext.drew) | (with_reducible apply Ext.drewN) | (with_reducible exact Ext.refl _))))) (by first | omega | exact (vw hB2.out).1 | exact (vw hB2.out).2.1 | exact (vw hB2.out).2.2.1 | exact (vw hB2.out).2.2.2)).mono ?_
    rintro e w3 ⟨fv3, rfl, i4, -, xw3⟩
    have Lw3 : Ext w2 w3 := Ext.trans (by repeat (first | (with_reducible assumption) | (with_reducible refine Ext.setCell ?_ (by first | (simp; done) | (simp; omega) | omega) _) | (with_reducible apply Ext.alloc) | (with_reducible apply Ext.drew) | (with_reducible apply Ext.drewN) | (with_reducible exact Ext.refl _))) xw3
    have Xw3 : Ext w w3 := Xw2.trans Lw3
    replace b10 := Lw3.cell b10
    replace b11 := Lw3.cell b11
    replace b12 := Lw3.cell b12
    have z_b1 : w.heap.size < w3.heap.size := World.block_lt_of_cell? _ _ b10
    have s_w3 : w.heap.size ≤ w3.heap.size := Xw3.size
    clear xw3
    obtain ⟨afv3, cfv3, rfl⟩ := i4.form
    refine hK.out _ _ ⟨b10, b11, b12⟩ (fun hHeld => ?_)
    clear hK K
    try simp only [Act.put, List.setIfInBounds_toArray, List.set_cons_zero, List.set_cons_succ, List.getElem_toArray, List.getElem_cons_succ, List.getElem_cons_zero]
    refine wpTail_one (i := 7) (by kernel_rfl) rfl rfl (fun K hK => ?_)
    try simp only [Act.put, List.setIfInBounds_toArray, List.set_cons_zero, List.set_cons_succ, List.getElem_toArray, List.getElem_cons_succ, List.getElem_cons_zero]
    go_simp
    refine (dense_c b1 (.slice p0 s1.length c0) (.slice p1 t1.length c1) s1 t1 (.slice afv3 ((colS s1).length) cfv3) (colS s1) _ _ _ (h1.ext (Xw3.trans (by repeat (first | (with_reducible assumption) | (with_reducible refine Ext.setCell ?_ (by first | (simp; done) | (simp; omega) | omega) _) | (with_reducible apply Ext.alloc) | (with_reducible apply Ext.drew) | (with_reducible apply Ext.drewN) | (with_reducible exact Ext.refl _))))) (k1.ext (Xw3.trans (by repeat (first | (with_reducible assumption) | (with_reducible refine Ext.setCell ?_ (by first | (simp; done) | (simp; omega) | omega) _) | (with_reducible apply Ext.alloc) | (with_reducible apply Ext.drew) | (with_reducible apply Ext.drewN) | (with_reducible exact Ext.refl _))))) _ (i4.ext (by repeat (first | (with_reducible assumption) | (with_reducible refine Ext.setCell ?_ (by first | (simp; done) | (simp; omega) | omega) _) | (with_reducible apply Ext.alloc) | (with_reducible apply Ext.drew) | (with_reducible apply Ext.drewN) | (with_reducible exact Ext.refl _)))) hB2.out (by first | omega | exact (vw hB2.out).1 | exact (vw hB2.out).2.1 | exact (vw hB2.out).2.2.1 | exact (vw hB2.out).2.2.2 | (rw [colS_len]; omega) | exact Nat.le_of_eq (colS_len _).symm)).mono ?_
    rintro e w4 ⟨rfl, xw4⟩
    have Lw4 : Ext w3 w4 := Ext.trans (by repeat (first | (with_reducible assumption) | (with_reducible refine Ext.setCell ?_ (by first | (simp; done) | (simp; omega) | omega) _) | (with_reducible apply Ext.alloc) | (with_reducible apply Ext.drew) | (with_reducible apply Ext.drewN) | (with_reducible exact Ext.refl _))) xw4
    have Xw4 : Ext w w4 := Xw3.trans Lw4
    replace b10 := Lw4.cell b10
    replace b11 := Lw4.cell b11
    replace b12 := Lw4.cell b12
    have z_b1 : w.heap.size < w4.heap.size := World.block_lt_of_cell? _ _ b10
    replace i4 := i4.ext Lw4
    have s_w4 : w.heap.size ≤ w4.heap.size := Xw4.size
    clear xw4
    cases hB5 : sameB (offsL b1 s1 t1) (offsL b1 s1 (colS s1))
    · replace hB5 := Lib.hid hB5
      refine hK.out _ _ ⟨b10, b11, b12⟩ (fun hHeld => ?_)
      clear hK K
      try simp only [Act.put, List.setIfInBounds_toArray, List.set_cons_zero, List.set_cons_succ, List.getElem_toArray, List.getElem_cons_succ, List.getElem_cons_zero]
      refine wpTail_take (i := 8) (v := ?_) rfl (by kernel_rfl) (by kernel_rfl) (by kernel_rfl) rfl (by kernel_rfl) (fun _ _ _ h => h) (Or.inl ⟨by rfl, ?_⟩) (by assumption) ?_
      rotate_left
      · (intro w hSw; (try dsimp only at hSw); go_simp; try with_reducible rfl)
      try simp only [Act.put, List.setIfInBounds_toArray, List.set_cons_zero, List.set_cons_succ, List.getElem_toArray, List.getElem_cons_succ, List.getElem_cons_zero]
      refine wpTail_take (i := 9) (v := ?_) rfl (by kernel_rfl) (by kernel_rfl) (by kernel_rfl) rfl (by kernel_rfl) (fun _ _ _ h => h) (Or.inl ⟨by rfl, ?_⟩) (by assumption) ?_
      rotate_left
      · (intro w hSw; (try dsimp only at hSw); go_simp; try with_reducible rfl)
      try simp only [Act.put, List.setIfInBounds_toArray, List.set_cons_zero, List.set_cons_succ, List.getElem_toArray, List.getElem_cons_succ, List.getElem_cons_zero]
      refine wpTail_done (by kernel_rfl) ?_ _
      clear hHeld 
      go_wp2_with fail
      go_ret
      exact ⟨by rw [show colB b1 s1 t1 = false by unfold colB; rw [hB2.out, hB5.out] <;> rfl] <;> rfl, (Xw4.trans (by repeat (first | (with_reducible assumption) | (with_reducible refine Ext.setCell ?_ (by first | (simp; done) | (simp; omega) | omega) _) | (with_reducible apply Ext.alloc) | (with_reducible apply Ext.drew) | (with_reducible apply Ext.drewN) | (with_reducible exact Ext.refl _))))⟩
    · replace hB5 := Lib.hid hB5
      refine hK.out _ _ ⟨b10, b11, b12⟩ (fun hHeld => ?_)
      clear hK K
      try simp only [Act.put, List.setIfInBounds_toArray, List.set_cons_zero, List.set_cons_succ, List.getElem_toArray, List.getElem_cons_succ, List.getElem_cons_zero]
      refine wpTail_take (i := 8) (v := ?_) rfl (by kernel_rfl) (by kernel_rfl) (by kernel_rfl) rfl (by kernel_rfl) (fun _ _ _ h => h) (Or.inl ⟨by rfl, ?_⟩) (by assumption) ?_
      rotate_left
      · (intro w hSw; (try dsimp only at hSw); go_simp; try with_reducible rfl)
      try simp only [Act.put, List.setIfInBounds_toArray, List.set_cons_zero, List.set_cons_succ, List.getElem_toArray, List.getElem_cons_succ, List.getElem_cons_zero]
      refine wpTail_take (i := 9) (v := ?_) rfl (by kernel_rfl) (by kernel_rfl) (by kernel_rfl) rfl (by kernel_rfl) (fun _ _ _ h => h) (Or.inl ⟨by rfl, ?_⟩) (by assumption) ?_
      rotate_left
      · (intro w hSw; (try dsimp only at hSw); go_simp; try with_reducible rfl)
      try simp only [Act.put, List.setIfInBounds_toArray, List.set_cons_zero, List.set_cons_succ, List.getElem_toArray, List.getElem_cons_succ, List.getElem_cons_zero]
      refine wpTail_done (by kernel_rfl) ?_ _
      clear hHeld 
      go_wp2_with fail
      go_ret
      exact ⟨by rw [show colB b1 s1 t1 = true by unfold colB; rw [hB2.out, hB5.out] <;> rfl] <;> rfl, (Xw4.trans (by repeat (first | (with_reducible assumption) | (with_reducible refine Ext.setCell ?_ (by first | (simp; done) | (simp; omega) | omega) _) | (with_reducible apply Ext.alloc) | (with_reducible apply Ext.drew) | (with_reducible apply Ext.drewN) | (with_reducible exact Ext.refl _))))⟩


end Go.Proofs.Ytonnnjaooifpjaa

/- FnIsCol returns true for all bytes: no condition. -/
namespace Go.Proofs.Ytonnnjaooifpjaa
open Go.RowKit
set_option linter.unusedVariables false
set_option maxRecDepth 100000


theorem icol_law {b : Int} {s t : List Int} (h : viewB b s t = true) : permV b s t (upL s.length).reverse = (b, s.reverse, t.reverse, true) ∧ colB b s t = rowB b s.reverse t.reverse := by
  obtain ⟨h1, h2⟩ := col_law h
  have ho := order_back s.length
  have e := rev_up t
  rw [(viewB_in h).2.1] at e
  refine ⟨?_, ?_⟩
  · unfold permV madeV; rw [h, ho, rev_up, e, h1]; rfl
  · unfold colB rowB; rw [h, h1, h2]

set_option maxHeartbeats 3200000 in
theorem lawFnIsCol_c (a : Option Addr) (n cap : Nat) (w : World) (hb : BysIn w a n cap) :
    Calls Try.prog 3 #[.slice a n cap] w fun e w' => e = .returned (.bool true) ∧ Ext w w' := by
  have hcm := hb.1
  have hcm2 := hb.2.1
  unfold maxLen at hcm2
  go_enter Try.func3, Try.ntmps3
  by_cases hc1 : (1048576 : Int) < (n : Int)
  · go_wp2_with fail
    go_ret
    exact ⟨rfl, (by repeat (first | exact Ext.refl _ | assumption | apply Ext.drewN | apply Ext.drew | apply Ext.alloc))⟩
  · go_wp2_with fail
    refine (drawIsCol_c a n cap _ hb).mono ?_
    rintro e w1 ⟨b, s, t, p1, p2, n1, r1, n2, r2, rfl, i1, i2, l1, l2, xw1⟩
    have Lw1 : Ext w w1 := Ext.trans (by repeat (first | (with_reducible assumption) | (with_reducible refine Ext.setCell ?_ (by first | (simp; done) | (simp; omega) | omega) _) | (with_reducible apply Ext.alloc) | (with_reducible apply Ext.drew) | (with_reducible apply Ext.drewN) | (with_reducible exact Ext.refl _))) xw1
    have Xw1 : Ext w w1 := Lw1
    have s_w1 : w.heap.size ≤ w1.heap.size := Xw1.size
    clear xw1
    obtain rfl := i1.len_eq
    obtain rfl := i2.len_eq
    clear hb
    go_wp2_with fail
    refine (implIsCol_c b (.slice p1 s.length r1) (.slice p2 t.length r2) s t _ _ _ (i1.ext (by repeat (first | (with_reducible assumption) | (with_reducible refine Ext.setCell ?_ (by first | (simp; done) | (simp; omega) | omega) _) | (with_reducible apply Ext.alloc) | (with_reducible apply Ext.drew) | (with_reducible apply Ext.drewN) | (with_reducible exact Ext.refl _)))) (i2.ext (by repeat (first | (with_reducible assumption) | (with_reducible refine Ext.setCell ?_ (by first | (simp; done) | (simp; omega) | omega) _) | (with_reducible apply Ext.alloc) | (with_reducible apply Ext.drew) | (with_reducible apply Ext.drewN) | (with_reducible exact Ext.refl _))))).mono ?_
    rintro e w2 ⟨rfl, xw2⟩
    have Lw2 : Ext w1 w2 := Ext.trans (by repeat (first | (with_reducible assumption) | (with_reducible refine Ext.setCell ?_ (by first | (simp; done) | (simp; omega) | omega) _) | (with_reducible apply Ext.alloc) | (with_reducible apply Ext.drew) | (with_reducible apply Ext.drewN) | (with_reducible exact Ext.refl _))) xw2
    have Xw2 : Ext w w2 := Xw1.trans Lw2
    have b20 : w2.cell? ⟨w1.heap.size, 0, none⟩ = some (.int .i64 b) := xw2.cell (by first | (simp; done) | ((repeat rw [World.cell?_alloc_lt _ _ _ (by simp <;> omega)]); simp; done) | (go_simp; done))
    have b21 : w2.cell? ⟨w1.heap.size, 1, none⟩ = some (.slice p1 s.length r1) := xw2.cell (by first | (simp; done) | ((repeat rw [World.cell?_alloc_lt _ _ _ (by simp <;> omega)]); simp; done) | (go_simp; done))
    have b22 : w2.cell? ⟨w1.heap.size, 2, none⟩ = some (.slice p2 t.length r2) := xw2.cell (by first | (simp; done) | ((repeat rw [World.cell?_alloc_lt _ _ _ (by simp <;> omega)]); simp; done) | (go_simp; done))
    have z_b2 : w1.heap.size < w2.heap.size := World.block_lt_of_cell? _ _ b20
    replace i1 := i1.ext Lw2
    replace i2 := i2.ext Lw2
    have s_w2 : w.heap.size ≤ w2.heap.size := Xw2.size
    clear xw2
    cases hB3 : colB b s t
    · replace hB3 := Lib.hid hB3
      go_wp2_with fail
      refine (specIsCol_c b (.slice p1 s.length r1) (.slice p2 t.length r2) s t _ _ _ (i1.ext (by repeat (first | (with_reducible assumption) | (with_reducible refine Ext.setCell ?_ (by first | (simp; done) | (simp; omega) | omega) _) | (with_reducible apply Ext.alloc) | (with_reducible apply Ext.drew) | (with_reducible apply Ext.drewN) | (with_reducible exact Ext.refl _)))) (i2.ext (by repeat (first | (with_reducible assumption) | (with_reducible refine Ext.setCell ?_ (by first | (simp; done) | (simp; omega) | omega) _) | (with_reducible apply Ext.alloc) | (with_reducible apply Ext.drew) | (with_reducible apply Ext.drewN) | (with_reducible exact Ext.refl _))))).mono ?_
      rintro e w3 ⟨rfl, xw3⟩
      have Lw3 : Ext w2 w3 := Ext.trans (by repeat (first | (with_reducible assumption) | (with_reducible refine Ext.setCell ?_ (by first | (simp; done) | (simp; omega) | omega) _) | (with_reducible apply Ext.alloc) | (with_reducible apply Ext.drew) | (with_reducible apply Ext.drewN) | (with_reducible exact Ext.refl _))) xw3
      have Xw3 : Ext w w3 := Xw2.trans Lw3
      replace b20 := Lw3.cell b20
      replace b21 := Lw3.cell b21
      replace b22 := Lw3.cell b22
      have z_b2 : w1.heap.size < w3.heap.size := World.block_lt_of_cell? _ _ b20
      replace i1 := i1.ext Lw3
      replace i2 := i2.ext Lw3
      have s_w3 : w.heap.size ≤ w3.heap.size := Xw3.size
      clear xw3
      rw [hB3.out]
      go_wp2_with fail
      refine (implValidView_c b (.slice p1 s.length r1) (.slice p2 t.length r2) s t _ _ _ (i1.ext (by repeat (first | (with_reducible assumption) | (with_reducible refine Ext.setCell ?_ (by first | (simp; done) | (simp; omega) | omega) _) | (with_reducible apply Ext.alloc) | (with_reducible apply Ext.drew) | (with_reducible apply Ext.drewN) | (with_reducible exact Ext.refl _)))) (i2.ext (by repeat (first | (with_reducible assumption) | (with_reducible refine Ext.setCell ?_ (by first | (simp; done) | (simp; omega) | omega) _) | (with_reducible apply Ext.alloc) | (with_reducible apply Ext.drew) | (with_reducible apply Ext.drewN) | (with_reducible exact Ext.refl _))))).mono ?_
      rintro e w4 ⟨rfl, xw4⟩
      have Lw4 : Ext w3 w4 := Ext.trans (by repeat (first | (with_reducible assumption) | (with_reducible refine Ext.setCell ?_ (by first | (simp; done) | (simp; omega) | omega) _) | (with_reducible apply Ext.alloc) | (with_reducible apply Ext.drew) | (with_reducible apply Ext.drewN) | (with_reducible exact Ext.refl _))) xw4
      have Xw4 : Ext w w4 := Xw3.trans Lw4
      replace b20 := Lw4.cell b20
      replace b21 := Lw4.cell b21
      replace b22 := Lw4.cell b22
      have z_b2 : w1.heap.size < w4.heap.size := World.block_lt_of_cell? _ _ b20
      replace i1 := i1.ext Lw4
      replace i2 := i2.ext Lw4
      have s_w4 : w.heap.size ≤ w4.heap.size := Xw4.size
      clear xw4
      cases hB4 : viewB b s t
      · replace hB4 := Lib.hid hB4
        go_wp2_with fail
        refine (specIsCol_c b (.slice p1 s.length r1) (.slice p2 t.length r2) s t _ _ _ (i1.ext (by repeat (first | (with_reducible assumption) | (with_reducible refine Ext.setCell ?_ (by first | (simp; done) | (simp; omega) | omega) _) | (with_reducible apply Ext.alloc) | (with_reducible apply Ext.drew) | (with_reducible apply Ext.drewN) | (with_reducible exact Ext.refl _)))) (i2.ext (by repeat (first | (with_reducible assumption) | (with_reducible refine Ext.setCell ?_ (by first | (simp; done) | (simp; omega) | omega) _) | (with_reducible apply Ext.alloc) | (with_reducible apply Ext.drew) | (with_reducible apply Ext.drewN) | (with_reducible exact Ext.refl _))))).mono ?_
        rintro e w5 ⟨rfl, xw5⟩
        have Lw5 : Ext w4 w5 := Ext.trans (by repeat (first | (with_reducible assumption) | (with_reducible refine Ext.setCell ?_ (by first | (simp; done) | (simp; omega) | omega) _) | (with_reducible apply Ext.alloc) | (with_reducible apply Ext.drew) | (with_reducible apply Ext.drewN) | (with_reducible exact Ext.refl _))) xw5
        have Xw5 : Ext w w5 := Xw4.trans Lw5
        replace b20 := Lw5.cell b20
        replace b21 := Lw5.cell b21
        replace b22 := Lw5.cell b22
        have z_b2 : w1.heap.size < w5.heap.size := World.block_lt_of_cell? _ _ b20
        replace i1 := i1.ext Lw5
        replace i2 := i2.ext Lw5
        have s_w5 : w.heap.size ≤ w5.heap.size := Xw5.size
        clear xw5
        rw [hB3.out]
        go_wp2_with fail
        go_ret
        exact ⟨rfl, (Xw5.trans (by repeat (first | (with_reducible assumption) | (with_reducible refine Ext.setCell ?_ (by first | (simp; done) | (simp; omega) | omega) _) | (with_reducible apply Ext.alloc) | (with_reducible apply Ext.drew) | (with_reducible apply Ext.drewN) | (with_reducible exact Ext.refl _))))⟩
      · replace hB4 := Lib.hid hB4
        obtain ⟨hl1, hl9⟩ := icol_law hB4.out
        obtain ⟨R, hR⟩ : ∃ R, (upL s.length).reverse = R := ⟨_, rfl⟩
        obtain ⟨PS, hPS⟩ : ∃ x, s.reverse = x := ⟨_, rfl⟩
        obtain ⟨PT, hPT⟩ : ∃ x, t.reverse = x := ⟨_, rfl⟩
        rw [hR, hPS, hPT] at hl1
        rw [hPS, hPT] at hl9
        replace hl1 := Lib.hid hl1
        replace hR := Lib.hid hR
        replace hl9 := Lib.hid hl9
        clear hPS hPT
        go_wp2_with fail
        go_cut [5, 6] (fun s5 s6 wx => ∃ (g : Nat) (afv9u : Option Addr) (cfv9u : Nat) (afv9v : Option Addr) (cfv9v : Nat), s5 = .pointer (some ⟨g, 0, none⟩) ∧ s6 = .bool true ∧ Ext w4 wx ∧ w4.heap.size ≤ g ∧ wx.cell? ⟨g, 0, none⟩ = some (.int .i64 b) ∧ wx.cell? ⟨g, 1, none⟩ = some (.slice afv9u PS.length cfv9u) ∧ wx.cell? ⟨g, 2, none⟩ = some (.slice afv9v PT.length cfv9v) ∧ wx.frozen? ⟨g, 0, none⟩ = false ∧ wx.frozen? ⟨g, 1, none⟩ = false ∧ wx.frozen? ⟨g, 2, none⟩ = false ∧ Ints wx w4.heap.size (.slice afv9u PS.length cfv9u) PS ∧ Ints wx w4.heap.size (.slice afv9v PT.length cfv9v) PT)
        case first =>
          have BD7 : Ext w4 w4 := Ext.refl _
          refine wp_region_held_drew (S := fun w' => w'.cell? ⟨w1.heap.size, 0, none⟩ = some (.int .i64 b) ∧ w'.cell? ⟨w1.heap.size, 1, none⟩ = some (.slice p1 s.length r1) ∧ w'.cell? ⟨w1.heap.size, 2, none⟩ = some (.slice p2 t.length r2)) (by kernel_rfl) ⟨b20, b21, b22⟩ (fun hHeld => ?_)
          refine wpAnyH_take (i := 0) (v := ?_) rfl (by kernel_rfl) (by kernel_rfl) (by kernel_rfl) (fun _ _ _ h => h) (Or.inl ⟨by rfl, ?_⟩) (by assumption) ?_
          rotate_left
          · (intro w hSw; (try dsimp only at hSw); go_simp; try with_reducible rfl)
          try simp only [Act.put, List.setIfInBounds_toArray, List.set_cons_zero, List.set_cons_succ, List.getElem_toArray, List.getElem_cons_succ, List.getElem_cons_zero]
          refine wpAnyH_take (i := 1) (v := ?_) rfl (by kernel_rfl) (by kernel_rfl) (by kernel_rfl) (fun _ _ _ h => h) (Or.inl ⟨by rfl, ?_⟩) (by assumption) ?_
          rotate_left
          · (intro w hSw; (try dsimp only at hSw); go_simp; try with_reducible rfl)
          try simp only [Act.put, List.setIfInBounds_toArray, List.set_cons_zero, List.set_cons_succ, List.getElem_toArray, List.getElem_cons_succ, List.getElem_cons_zero]
          refine wpAnyH_take (i := 2) (v := ?_) rfl (by kernel_rfl) (by kernel_rfl) (by kernel_rfl) (fun _ _ _ h => h) (Or.inl ⟨by rfl, ?_⟩) (by assumption) ?_
          rotate_left
          · (intro w hSw; (try dsimp only at hSw); go_simp; try with_reducible rfl)
          try simp only [Act.put, List.setIfInBounds_toArray, List.set_cons_zero, List.set_cons_succ, List.getElem_toArray, List.getElem_cons_succ, List.getElem_cons_zero]
          refine wpAnyH_take (i := 3) (v := ?_) rfl (by kernel_rfl) (by kernel_rfl) (by kernel_rfl) (fun _ _ _ h => h) (Or.inl ⟨by rfl, ?_⟩) (by assumption) ?_
          rotate_left
          · (intro w hSw; (try dsimp only at hSw); go_simp; try with_reducible rfl)
          try simp only [Act.put, List.setIfInBounds_toArray, List.set_cons_zero, List.set_cons_succ, List.getElem_toArray, List.getElem_cons_succ, List.getElem_cons_zero]
          refine wpAnyH_ready (rs := [4, 10]) (by kernel_rfl) (by simp) ?_
          refine AllReadyH.cons rfl (fun K hK => ?_) (AllReadyH.cons rfl (fun K hK => ?_) AllReadyH.nil)
          · try simp only [Act.put, List.setIfInBounds_toArray, List.set_cons_zero, List.set_cons_succ, List.getElem_toArray, List.getElem_cons_succ, List.getElem_cons_zero]
            go_simp
            refine (lupTo_c s.length _ (by first | omega | exact (vw hB4.out).1 | exact (vw hB4.out).2.1 | exact (vw hB4.out).2.2.1 | exact (vw hB4.out).2.2.2)).mono ?_
            rintro e w5 ⟨fv5, rfl, i6, -, xw5⟩
            have Lw5 : Ext w4 w5 := Ext.trans (by repeat (first | (with_reducible assumption) | (with_reducible refine Ext.setCell ?_ (by first | (simp; done) | (simp; omega) | omega) _) | (with_reducible apply Ext.alloc) | (with_reducible apply Ext.drew) | (with_reducible apply Ext.drewN) | (with_reducible exact Ext.refl _))) xw5
            have Xw5 : Ext w w5 := Xw4.trans Lw5
            replace b20 := Lw5.cell b20
            replace b21 := Lw5.cell b21
            replace b22 := Lw5.cell b22
            have z_b2 : w1.heap.size < w5.heap.size := World.block_lt_of_cell? _ _ b20
            replace i1 := i1.ext Lw5
            replace i2 := i2.ext Lw5
            have s_w5 : w.heap.size ≤ w5.heap.size := Xw5.size
            have BD7_w5 : Ext w4 w5 := BD7.trans Lw5
            clear xw5
            try simp only [World.size_alloc, World.size_drew] at i6
            obtain ⟨afv5, cfv5, rfl⟩ := i6.form
            have zD_w5 := (BD7_w5).size
            refine hK.out _ _ ⟨b20, b21, b22⟩ (fun hHeld => ?_)
            clear hK K
            try simp only [Act.put, List.setIfInBounds_toArray, List.set_cons_zero, List.set_cons_succ, List.getElem_toArray, List.getElem_cons_succ, List.getElem_cons_zero]
            refine wpAnyH_ready (rs := [5, 10]) (by kernel_rfl) (by simp) ?_
            refine AllReadyH.cons rfl (fun K hK => ?_) (AllReadyH.cons rfl (fun K hK => ?_) AllReadyH.nil)
            · try simp only [Act.put, List.setIfInBounds_toArray, List.set_cons_zero, List.set_cons_succ, List.getElem_toArray, List.getElem_cons_succ, List.getElem_cons_zero]
              go_simp
              refine (pi_eq hR.out (back_c (upL s.length) (.slice afv5 ((upL s.length).length) cfv5) _ _ (i6.ext (by repeat (first | (with_reducible assumption) | (with_reducible refine Ext.setCell ?_ (by first | (simp; done) | (simp; omega) | omega) _) | (with_reducible apply Ext.alloc) | (with_reducible apply Ext.drew) | (with_reducible apply Ext.drewN) | (with_reducible exact Ext.refl _)))))).mono ?_
              rintro e w6 ⟨fv7, rfl, i8, -, xw6⟩
              have Lw6 : Ext w5 w6 := Ext.trans (by repeat (first | (with_reducible assumption) | (with_reducible refine Ext.setCell ?_ (by first | (simp; done) | (simp; omega) | omega) _) | (with_reducible apply Ext.alloc) | (with_reducible apply Ext.drew) | (with_reducible apply Ext.drewN) | (with_reducible exact Ext.refl _))) xw6
              have Xw6 : Ext w w6 := Xw5.trans Lw6
              replace b20 := Lw6.cell b20
              replace b21 := Lw6.cell b21
              replace b22 := Lw6.cell b22
              have z_b2 : w1.heap.size < w6.heap.size := World.block_lt_of_cell? _ _ b20
              replace i1 := i1.ext Lw6
              replace i2 := i2.ext Lw6
              replace i6 := i6.ext Lw6
              have s_w6 : w.heap.size ≤ w6.heap.size := Xw6.size
              have BD7_w6 : Ext w4 w6 := BD7_w5.trans Lw6
              clear xw6
              try simp only [World.size_alloc, World.size_drew] at i8
              obtain ⟨afv7, cfv7, rfl⟩ := i8.form
              have zD_w6 := (BD7_w6).size
              refine hK.out _ _ ⟨b20, b21, b22⟩ (fun hHeld => ?_)
              clear hK K
              try simp only [Act.put, List.setIfInBounds_toArray, List.set_cons_zero, List.set_cons_succ, List.getElem_toArray, List.getElem_cons_succ, List.getElem_cons_zero]
              refine wpAnyH_ready (rs := [6, 10]) (by kernel_rfl) (by simp) ?_
              refine AllReadyH.cons rfl (fun K hK => ?_) (AllReadyH.cons rfl (fun K hK => ?_) AllReadyH.nil)
              · try simp only [Act.put, List.setIfInBounds_toArray, List.set_cons_zero, List.set_cons_succ, List.getElem_toArray, List.getElem_cons_succ, List.getElem_cons_zero]
                go_simp
                refine (pv_eq hl1.out (implPermuteDims_c b (.slice p1 s.length r1) (.slice p2 t.length r2) s t (.slice afv7 R.length cfv7) R _ _ _ (i1.ext (by repeat (first | (with_reducible assumption) | (with_reducible refine Ext.setCell ?_ (by first | (simp; done) | (simp; omega) | omega) _) | (with_reducible apply Ext.alloc) | (with_reducible apply Ext.drew) | (with_reducible apply Ext.drewN) | (with_reducible exact Ext.refl _)))) (i2.ext (by repeat (first | (with_reducible assumption) | (with_reducible refine Ext.setCell ?_ (by first | (simp; done) | (simp; omega) | omega) _) | (with_reducible apply Ext.alloc) | (with_reducible apply Ext.drew) | (with_reducible apply Ext.drewN) | (with_reducible exact Ext.refl _)))) _ (i8.ext (by repeat (first | (with_reducible assumption) | (with_reducible refine Ext.setCell ?_ (by first | (simp; done) | (simp; omega) | omega) _) | (with_reducible apply Ext.alloc) | (with_reducible apply Ext.drew) | (with_reducible apply Ext.drewN) | (with_reducible exact Ext.refl _)))))).mono ?_
                rintro e w7 ⟨fv9u, fv9v, rfl, i10u, i10v, -, -, -, xw7⟩
                have Lw7 : Ext w6 w7 := Ext.trans (by repeat (first | (with_reducible assumption) | (with_reducible refine Ext.setCell ?_ (by first | (simp; done) | (simp; omega) | omega) _) | (with_reducible apply Ext.alloc) | (with_reducible apply Ext.drew) | (with_reducible apply Ext.drewN) | (with_reducible exact Ext.refl _))) xw7
                have Xw7 : Ext w w7 := Xw6.trans Lw7
                replace b20 := Lw7.cell b20
                replace b21 := Lw7.cell b21
                replace b22 := Lw7.cell b22
                have z_b2 : w1.heap.size < w7.heap.size := World.block_lt_of_cell? _ _ b20
                replace i1 := i1.ext Lw7
                replace i2 := i2.ext Lw7
                replace i6 := i6.ext Lw7
                replace i8 := i8.ext Lw7
                have s_w7 : w.heap.size ≤ w7.heap.size := Xw7.size
                have BD7_w7 : Ext w4 w7 := BD7_w6.trans Lw7
                clear xw7
                try simp only [World.size_alloc, World.size_drew] at i10u i10v
                obtain ⟨afv9u, cfv9u, rfl⟩ := i10u.form
                obtain ⟨afv9v, cfv9v, rfl⟩ := i10v.form
                have zD_w7 := (BD7_w7).size
                refine hK.out _ _ ⟨b20, b21, b22⟩ (fun hHeld => ?_)
                clear hK K
                try simp only [Act.put, List.setIfInBounds_toArray, List.set_cons_zero, List.set_cons_succ, List.getElem_toArray, List.getElem_cons_succ, List.getElem_cons_zero]
                refine wpAnyH_take (i := 7) (v := ?_) rfl (by kernel_rfl) (by kernel_rfl) (by kernel_rfl) (fun _ _ _ h => h) (Or.inl ⟨by rfl, ?_⟩) (by assumption) ?_
                rotate_left
                · (intro w hSw; (try dsimp only at hSw); go_simp; try with_reducible rfl)
                try simp only [Act.put, List.setIfInBounds_toArray, List.set_cons_zero, List.set_cons_succ, List.getElem_toArray, List.getElem_cons_succ, List.getElem_cons_zero]
                refine wpAnyH_take (i := 8) (v := ?_) rfl (by kernel_rfl) (by kernel_rfl) (by kernel_rfl) (fun _ _ _ h => h) (Or.inl ⟨by rfl, ?_⟩) (by assumption) ?_
                rotate_left
                · (intro w hSw; (try dsimp only at hSw); go_simp; try with_reducible rfl)
                try simp only [Act.put, List.setIfInBounds_toArray, List.set_cons_zero, List.set_cons_succ, List.getElem_toArray, List.getElem_cons_succ, List.getElem_cons_zero]
                refine wpAnyH_take (i := 9) (v := ?_) rfl (by kernel_rfl) (by kernel_rfl) (by kernel_rfl) (fun _ _ _ h => h) (Or.inl ⟨by rfl, ?_⟩) (by assumption) ?_
                rotate_left
                · (intro w hSw; (try dsimp only at hSw); go_simp; try with_reducible rfl)
                try simp only [Act.put, List.setIfInBounds_toArray, List.set_cons_zero, List.set_cons_succ, List.getElem_toArray, List.getElem_cons_succ, List.getElem_cons_zero]
                refine wpAnyH_ready (rs := [10]) (by kernel_rfl) (by simp) ?_
                refine AllReadyH.cons rfl (fun K hK => ?_) AllReadyH.nil
                try simp only [Act.put, List.setIfInBounds_toArray, List.set_cons_zero, List.set_cons_succ, List.getElem_toArray, List.getElem_cons_succ, List.getElem_cons_zero]
                go_simp
                have Q11_b20 := Lib.hid b20
                have Q11_b21 := Lib.hid b21
                have Q11_b22 := Lib.hid b22
                have Q11_zb2 := z_b2
                have Q11_i1 := Lib.hid i1
                have Q11_i2 := Lib.hid i2
                have Q11_i6 := Lib.hid i6
                have Q11_i8 := Lib.hid i8
                have Q11_i10u := Lib.hid i10u
                have Q11_i10v := Lib.hid i10v
                have BL12 : Ext w7 w7 := Ext.refl _
                refine hK.out _ _ ⟨(show Ext w7 _ from (by repeat (first | (with_reducible assumption) | (with_reducible refine Ext.setCell ?_ (by first | (simp; done) | (simp; omega) | omega) _) | (with_reducible apply Ext.alloc) | (with_reducible apply Ext.drew) | (with_reducible apply Ext.drewN) | (with_reducible exact Ext.refl _)))).cell b20, (show Ext w7 _ from (by repeat (first | (with_reducible assumption) | (with_reducible refine Ext.setCell ?_ (by first | (simp; done) | (simp; omega) | omega) _) | (with_reducible apply Ext.alloc) | (with_reducible apply Ext.drew) | (with_reducible apply Ext.drewN) | (with_reducible exact Ext.refl _)))).cell b21, (show Ext w7 _ from (by repeat (first | (with_reducible assumption) | (with_reducible refine Ext.setCell ?_ (by first | (simp; done) | (simp; omega) | omega) _) | (with_reducible apply Ext.alloc) | (with_reducible apply Ext.drew) | (with_reducible apply Ext.drewN) | (with_reducible exact Ext.refl _)))).cell b22⟩ (fun hHeld => ?_)
                clear hK K
                try simp only [Act.put, List.setIfInBounds_toArray, List.set_cons_zero, List.set_cons_succ, List.getElem_toArray, List.getElem_cons_succ, List.getElem_cons_zero]
                refine wpAnyH_ready (rs := [11]) (by kernel_rfl) (by simp) ?_
                refine AllReadyH.cons rfl (fun K hK => ?_) AllReadyH.nil
                try simp only [Act.put, List.setIfInBounds_toArray, List.set_cons_zero, List.set_cons_succ, List.getElem_toArray, List.getElem_cons_succ, List.getElem_cons_zero]
                go_simp
                have Lw8 : Ext w7 (w7.alloc (.cells #[.int .i64 b, .slice afv9u PS.length cfv9u, .slice afv9v PT.length cfv9v] 25)) := (by repeat (first | (with_reducible assumption) | (with_reducible refine Ext.setCell ?_ (by first | (simp; done) | (simp; omega) | omega) _) | (with_reducible apply Ext.alloc) | (with_reducible apply Ext.drew) | (with_reducible apply Ext.drewN) | (with_reducible exact Ext.refl _)))
                have Xw8 : Ext w (w7.alloc (.cells #[.int .i64 b, .slice afv9u PS.length cfv9u, .slice afv9v PT.length cfv9v] 25)) := Xw7.trans Lw8
                replace b20 := Lw8.cell b20
                replace b21 := Lw8.cell b21
                replace b22 := Lw8.cell b22
                have b130 : (w7.alloc (.cells #[.int .i64 b, .slice afv9u PS.length cfv9u, .slice afv9v PT.length cfv9v] 25)).cell? ⟨w7.heap.size, 0, none⟩ = some (.int .i64 b) := (by first | (simp; done) | ((repeat rw [World.cell?_alloc_lt _ _ _ (by simp <;> omega)]); simp; done) | (go_simp; done))
                have b131 : (w7.alloc (.cells #[.int .i64 b, .slice afv9u PS.length cfv9u, .slice afv9v PT.length cfv9v] 25)).cell? ⟨w7.heap.size, 1, none⟩ = some (.slice afv9u PS.length cfv9u) := (by first | (simp; done) | ((repeat rw [World.cell?_alloc_lt _ _ _ (by simp <;> omega)]); simp; done) | (go_simp; done))
                have b132 : (w7.alloc (.cells #[.int .i64 b, .slice afv9u PS.length cfv9u, .slice afv9v PT.length cfv9v] 25)).cell? ⟨w7.heap.size, 2, none⟩ = some (.slice afv9v PT.length cfv9v) := (by first | (simp; done) | ((repeat rw [World.cell?_alloc_lt _ _ _ (by simp <;> omega)]); simp; done) | (go_simp; done))
                have f_b130 : (w7.alloc (.cells #[.int .i64 b, .slice afv9u PS.length cfv9u, .slice afv9v PT.length cfv9v] 25)).frozen? ⟨w7.heap.size, 0, none⟩ = false := (by first | (simp; done) | (go_simp; done))
                have f_b131 : (w7.alloc (.cells #[.int .i64 b, .slice afv9u PS.length cfv9u, .slice afv9v PT.length cfv9v] 25)).frozen? ⟨w7.heap.size, 1, none⟩ = false := (by first | (simp; done) | (go_simp; done))
                have f_b132 : (w7.alloc (.cells #[.int .i64 b, .slice afv9u PS.length cfv9u, .slice afv9v PT.length cfv9v] 25)).frozen? ⟨w7.heap.size, 2, none⟩ = false := (by first | (simp; done) | (go_simp; done))
                have z_b2 : w1.heap.size < (w7.alloc (.cells #[.int .i64 b, .slice afv9u PS.length cfv9u, .slice afv9v PT.length cfv9v] 25)).heap.size := World.block_lt_of_cell? _ _ b20
                have z_b13 : w7.heap.size < (w7.alloc (.cells #[.int .i64 b, .slice afv9u PS.length cfv9u, .slice afv9v PT.length cfv9v] 25)).heap.size := World.block_lt_of_cell? _ _ b130
                replace i1 := i1.ext Lw8
                replace i2 := i2.ext Lw8
                replace i6 := i6.ext Lw8
                replace i8 := i8.ext Lw8
                replace i10u := i10u.ext Lw8
                replace i10v := i10v.ext Lw8
                have s_w8 : w.heap.size ≤ (w7.alloc (.cells #[.int .i64 b, .slice afv9u PS.length cfv9u, .slice afv9v PT.length cfv9v] 25)).heap.size := Xw8.size
                have BD7_w8 : Ext w4 (w7.alloc (.cells #[.int .i64 b, .slice afv9u PS.length cfv9u, .slice afv9v PT.length cfv9v] 25)) := BD7_w7.trans Lw8
                have BL12_w8 : Ext w7 (w7.alloc (.cells #[.int .i64 b, .slice afv9u PS.length cfv9u, .slice afv9v PT.length cfv9v] 25)) := BL12.trans Lw8
                generalize w7.alloc (.cells #[.int .i64 b, .slice afv9u PS.length cfv9u, .slice afv9v PT.length cfv9v] 25) = w8 at *
                refine hK.out _ _ ⟨b20, b21, b22⟩ (fun hHeld => ?_)
                clear hK K
                try simp only [Act.put, List.setIfInBounds_toArray, List.set_cons_zero, List.set_cons_succ, List.getElem_toArray, List.getElem_cons_succ, List.getElem_cons_zero]
                refine wpAnyH_take (i := 12) (v := ?_) rfl (by kernel_rfl) (by kernel_rfl) (by kernel_rfl) (fun _ _ _ h => h) (Or.inl ⟨by rfl, ?_⟩) (by assumption) ?_
                rotate_left
                · (intro w hSw; (try dsimp only at hSw); go_simp; try with_reducible rfl)
                try simp only [Act.put, List.setIfInBounds_toArray, List.set_cons_zero, List.set_cons_succ, List.getElem_toArray, List.getElem_cons_succ, List.getElem_cons_zero]
                refine wpAnyH_done (by kernel_rfl) ?_ _
                clear hHeld
                go_step
                go_step
                go_meet
                case rel => exact ⟨_, _, _, _, _, rfl, rfl, BD7_w8, (by omega), b130, b131, b132, f_b130, f_b131, f_b132, i10u.lower (by omega), i10v.lower (by omega)⟩
              · try simp only [Act.put, List.setIfInBounds_toArray, List.set_cons_zero, List.set_cons_succ, List.getElem_toArray, List.getElem_cons_succ, List.getElem_cons_zero]
                go_simp
                have Q14_b20 := Lib.hid b20
                have Q14_b21 := Lib.hid b21
                have Q14_b22 := Lib.hid b22
                have Q14_zb2 := z_b2
                have Q14_i1 := Lib.hid i1
                have Q14_i2 := Lib.hid i2
                have Q14_i6 := Lib.hid i6
                have Q14_i8 := Lib.hid i8
                have BL15 : Ext w6 w6 := Ext.refl _
                refine hK.out _ _ ⟨(show Ext w6 _ from (by repeat (first | (with_reducible assumption) | (with_reducible refine Ext.setCell ?_ (by first | (simp; done) | (simp; omega) | omega) _) | (with_reducible apply Ext.alloc) | (with_reducible apply Ext.drew) | (with_reducible apply Ext.drewN) | (with_reducible exact Ext.refl _)))).cell b20, (show Ext w6 _ from (by repeat (first | (with_reducible assumption) | (with_reducible refine Ext.setCell ?_ (by first | (simp; done) | (simp; omega) | omega) _) | (with_reducible apply Ext.alloc) | (with_reducible apply Ext.drew) | (with_reducible apply Ext.drewN) | (with_reducible exact Ext.refl _)))).cell b21, (show Ext w6 _ from (by repeat (first | (with_reducible assumption) | (with_reducible refine Ext.setCell ?_ (by first | (simp; done) | (simp; omega) | omega) _) | (with_reducible apply Ext.alloc) | (with_reducible apply Ext.drew) | (with_reducible apply Ext.drewN) | (with_reducible exact Ext.refl _)))).cell b22⟩ (fun hHeld => ?_)
                clear hK K
                try simp only [Act.put, List.setIfInBounds_toArray, List.set_cons_zero, List.set_cons_succ, List.getElem_toArray, List.getElem_cons_succ, List.getElem_cons_zero]
                refine wpAnyH_ready (rs := [6]) (by kernel_rfl) (by simp) ?_
                refine AllReadyH.cons rfl (fun K hK => ?_) AllReadyH.nil
                try simp only [Act.put, List.setIfInBounds_toArray, List.set_cons_zero, List.set_cons_succ, List.getElem_toArray, List.getElem_cons_succ, List.getElem_cons_zero]
                go_simp
                refine (pv_eq hl1.out (implPermuteDims_c b (.slice p1 s.length r1) (.slice p2 t.length r2) s t (.slice afv7 R.length cfv7) R _ _ _ (i1.ext (by repeat (first | (with_reducible assumption) | (with_reducible refine Ext.setCell ?_ (by first | (simp; done) | (simp; omega) | omega) _) | (with_reducible apply Ext.alloc) | (with_reducible apply Ext.drew) | (with_reducible apply Ext.drewN) | (with_reducible exact Ext.refl _)))) (i2.ext (by repeat (first | (with_reducible assumption) | (with_reducible refine Ext.setCell ?_ (by first | (simp; done) | (simp; omega) | omega) _) | (with_reducible apply Ext.alloc) | (with_reducible apply Ext.drew) | (with_reducible apply Ext.drewN) | (with_reducible exact Ext.refl _)))) _ (i8.ext (by repeat (first | (with_reducible assumption) | (with_reducible refine Ext.setCell ?_ (by first | (simp; done) | (simp; omega) | omega) _) | (with_reducible apply Ext.alloc) | (with_reducible apply Ext.drew) | (with_reducible apply Ext.drewN) | (with_reducible exact Ext.refl _)))))).mono ?_
                rintro e w7 ⟨fv17u, fv17v, rfl, i18u, i18v, -, -, -, xw7⟩
                have Lw7 : Ext w6 w7 := Ext.trans (by repeat (first | (with_reducible assumption) | (with_reducible refine Ext.setCell ?_ (by first | (simp; done) | (simp; omega) | omega) _) | (with_reducible apply Ext.alloc) | (with_reducible apply Ext.drew) | (with_reducible apply Ext.drewN) | (with_reducible exact Ext.refl _))) xw7
                have Xw7 : Ext w w7 := Xw6.trans Lw7
                replace b20 := Lw7.cell b20
                replace b21 := Lw7.cell b21
                replace b22 := Lw7.cell b22
                have b160 : w7.cell? ⟨w6.heap.size, 0, none⟩ = some (.int .i64 0) := xw7.cell (by first | (simp; done) | ((repeat rw [World.cell?_alloc_lt _ _ _ (by simp <;> omega)]); simp; done) | (go_simp; done))
                have b161 : w7.cell? ⟨w6.heap.size, 1, none⟩ = some (.slice none 0 0) := xw7.cell (by first | (simp; done) | ((repeat rw [World.cell?_alloc_lt _ _ _ (by simp <;> omega)]); simp; done) | (go_simp; done))
                have b162 : w7.cell? ⟨w6.heap.size, 2, none⟩ = some (.slice none 0 0) := xw7.cell (by first | (simp; done) | ((repeat rw [World.cell?_alloc_lt _ _ _ (by simp <;> omega)]); simp; done) | (go_simp; done))
                have f_b160 : w7.frozen? ⟨w6.heap.size, 0, none⟩ = false := xw7.frz (by simp <;> omega) (by first | (simp; done) | (go_simp; done))
                have f_b161 : w7.frozen? ⟨w6.heap.size, 1, none⟩ = false := xw7.frz (by simp <;> omega) (by first | (simp; done) | (go_simp; done))
                have f_b162 : w7.frozen? ⟨w6.heap.size, 2, none⟩ = false := xw7.frz (by simp <;> omega) (by first | (simp; done) | (go_simp; done))
                have z_b2 : w1.heap.size < w7.heap.size := World.block_lt_of_cell? _ _ b20
                have z_b16 : w6.heap.size < w7.heap.size := World.block_lt_of_cell? _ _ b160
                replace i1 := i1.ext Lw7
                replace i2 := i2.ext Lw7
                replace i6 := i6.ext Lw7
                replace i8 := i8.ext Lw7
                have s_w7 : w.heap.size ≤ w7.heap.size := Xw7.size
                have BD7_w7 : Ext w4 w7 := BD7_w6.trans Lw7
                have BL15_w7 : Ext w6 w7 := BL15.trans Lw7
                clear xw7
                try simp only [World.size_alloc, World.size_drew] at i18u i18v
                obtain ⟨afv17u, cfv17u, rfl⟩ := i18u.form
                obtain ⟨afv17v, cfv17v, rfl⟩ := i18v.form
                have zD_w7 := (BD7_w7).size
                refine hK.out _ _ ⟨b20, b21, b22⟩ (fun hHeld => ?_)
                clear hK K
                try simp only [Act.put, List.setIfInBounds_toArray, List.set_cons_zero, List.set_cons_succ, List.getElem_toArray, List.getElem_cons_succ, List.getElem_cons_zero]
                refine wpAnyH_take (i := 7) (v := ?_) rfl (by kernel_rfl) (by kernel_rfl) (by kernel_rfl) (fun _ _ _ h => h) (Or.inl ⟨by rfl, ?_⟩) (by assumption) ?_
                rotate_left
                · (intro w hSw; (try dsimp only at hSw); go_simp; try with_reducible rfl)
                try simp only [Act.put, List.setIfInBounds_toArray, List.set_cons_zero, List.set_cons_succ, List.getElem_toArray, List.getElem_cons_succ, List.getElem_cons_zero]
                refine wpAnyH_take (i := 8) (v := ?_) rfl (by kernel_rfl) (by kernel_rfl) (by kernel_rfl) (fun _ _ _ h => h) (Or.inl ⟨by rfl, ?_⟩) (by assumption) ?_
                rotate_left
                · (intro w hSw; (try dsimp only at hSw); go_simp; try with_reducible rfl)
                try simp only [Act.put, List.setIfInBounds_toArray, List.set_cons_zero, List.set_cons_succ, List.getElem_toArray, List.getElem_cons_succ, List.getElem_cons_zero]
                refine wpAnyH_take (i := 9) (v := ?_) rfl (by kernel_rfl) (by kernel_rfl) (by kernel_rfl) (fun _ _ _ h => h) (Or.inl ⟨by rfl, ?_⟩) (by assumption) ?_
                rotate_left
                · (intro w hSw; (try dsimp only at hSw); go_simp; try with_reducible rfl)
                try simp only [Act.put, List.setIfInBounds_toArray, List.set_cons_zero, List.set_cons_succ, List.getElem_toArray, List.getElem_cons_succ, List.getElem_cons_zero]
                refine wpAnyH_ready (rs := [11]) (by kernel_rfl) (by simp) ?_
                refine AllReadyH.cons rfl (fun K hK => ?_) AllReadyH.nil
                try simp only [Act.put, List.setIfInBounds_toArray, List.set_cons_zero, List.set_cons_succ, List.getElem_toArray, List.getElem_cons_succ, List.getElem_cons_zero]
                go_simp
                have Kw8 : Chg (w6.heap.size) (w6.heap.size + 1) w7 (((w7.setCell ⟨w6.heap.size, 0, none⟩ (.int .i64 b)).setCell ⟨w6.heap.size, 1, none⟩ (.slice afv17u PS.length cfv17u)).setCell ⟨w6.heap.size, 2, none⟩ (.slice afv17v PT.length cfv17v)) := (Chg.setCell (p := ⟨w6.heap.size, 2, none⟩) (Chg.setCell (p := ⟨w6.heap.size, 1, none⟩) (Chg.setCell (p := ⟨w6.heap.size, 0, none⟩) (Chg.refl (w6.heap.size) (w6.heap.size + 1) _) (Nat.le_refl _) (Nat.lt_succ_self _) (.int .i64 b)) (Nat.le_refl _) (Nat.lt_succ_self _) (.slice afv17u PS.length cfv17u)) (Nat.le_refl _) (Nat.lt_succ_self _) (.slice afv17v PT.length cfv17v))
                have Xw8 : Ext w (((w7.setCell ⟨w6.heap.size, 0, none⟩ (.int .i64 b)).setCell ⟨w6.heap.size, 1, none⟩ (.slice afv17u PS.length cfv17u)).setCell ⟨w6.heap.size, 2, none⟩ (.slice afv17v PT.length cfv17v)) := (Ext.setCell (p := ⟨w6.heap.size, 2, none⟩) (Ext.setCell (p := ⟨w6.heap.size, 1, none⟩) (Ext.setCell (p := ⟨w6.heap.size, 0, none⟩) Xw7 (by first | (simp; done) | (simp; omega) | omega) (.int .i64 b)) (by first | (simp; done) | (simp; omega) | omega) (.slice afv17u PS.length cfv17u)) (by first | (simp; done) | (simp; omega) | omega) (.slice afv17v PT.length cfv17v))
                have BD7_w8 : Ext w4 (((w7.setCell ⟨w6.heap.size, 0, none⟩ (.int .i64 b)).setCell ⟨w6.heap.size, 1, none⟩ (.slice afv17u PS.length cfv17u)).setCell ⟨w6.heap.size, 2, none⟩ (.slice afv17v PT.length cfv17v)) := (Ext.setCell (p := ⟨w6.heap.size, 2, none⟩) (Ext.setCell (p := ⟨w6.heap.size, 1, none⟩) (Ext.setCell (p := ⟨w6.heap.size, 0, none⟩) BD7_w7 (by first | (simp; done) | (simp; omega) | omega) (.int .i64 b)) (by first | (simp; done) | (simp; omega) | omega) (.slice afv17u PS.length cfv17u)) (by first | (simp; done) | (simp; omega) | omega) (.slice afv17v PT.length cfv17v))
                have BL15_w8 : Ext w6 (((w7.setCell ⟨w6.heap.size, 0, none⟩ (.int .i64 b)).setCell ⟨w6.heap.size, 1, none⟩ (.slice afv17u PS.length cfv17u)).setCell ⟨w6.heap.size, 2, none⟩ (.slice afv17v PT.length cfv17v)) := (Ext.setCell (p := ⟨w6.heap.size, 2, none⟩) (Ext.setCell (p := ⟨w6.heap.size, 1, none⟩) (Ext.setCell (p := ⟨w6.heap.size, 0, none⟩) BL15_w7 (by first | (simp; done) | (simp; omega) | omega) (.int .i64 b)) (by first | (simp; done) | (simp; omega) | omega) (.slice afv17u PS.length cfv17u)) (by first | (simp; done) | (simp; omega) | omega) (.slice afv17v PT.length cfv17v))
                replace b20 := BL15_w8.cell Q14_b20.out
                replace b21 := BL15_w8.cell Q14_b21.out
                replace b22 := BL15_w8.cell Q14_b22.out
                have n_b160 : (((w7.setCell ⟨w6.heap.size, 0, none⟩ (.int .i64 b)).setCell ⟨w6.heap.size, 1, none⟩ (.slice afv17u PS.length cfv17u)).setCell ⟨w6.heap.size, 2, none⟩ (.slice afv17v PT.length cfv17v)).cell? ⟨w6.heap.size, 0, none⟩ = some (.int .i64 b) := by go_simp
                have n_f_b160 : (((w7.setCell ⟨w6.heap.size, 0, none⟩ (.int .i64 b)).setCell ⟨w6.heap.size, 1, none⟩ (.slice afv17u PS.length cfv17u)).setCell ⟨w6.heap.size, 2, none⟩ (.slice afv17v PT.length cfv17v)).frozen? ⟨w6.heap.size, 0, none⟩ = false := by go_simp
                have n_b161 : (((w7.setCell ⟨w6.heap.size, 0, none⟩ (.int .i64 b)).setCell ⟨w6.heap.size, 1, none⟩ (.slice afv17u PS.length cfv17u)).setCell ⟨w6.heap.size, 2, none⟩ (.slice afv17v PT.length cfv17v)).cell? ⟨w6.heap.size, 1, none⟩ = some (.slice afv17u PS.length cfv17u) := by go_simp
                have n_f_b161 : (((w7.setCell ⟨w6.heap.size, 0, none⟩ (.int .i64 b)).setCell ⟨w6.heap.size, 1, none⟩ (.slice afv17u PS.length cfv17u)).setCell ⟨w6.heap.size, 2, none⟩ (.slice afv17v PT.length cfv17v)).frozen? ⟨w6.heap.size, 1, none⟩ = false := by go_simp
                have n_b162 : (((w7.setCell ⟨w6.heap.size, 0, none⟩ (.int .i64 b)).setCell ⟨w6.heap.size, 1, none⟩ (.slice afv17u PS.length cfv17u)).setCell ⟨w6.heap.size, 2, none⟩ (.slice afv17v PT.length cfv17v)).cell? ⟨w6.heap.size, 2, none⟩ = some (.slice afv17v PT.length cfv17v) := by go_simp
                have n_f_b162 : (((w7.setCell ⟨w6.heap.size, 0, none⟩ (.int .i64 b)).setCell ⟨w6.heap.size, 1, none⟩ (.slice afv17u PS.length cfv17u)).setCell ⟨w6.heap.size, 2, none⟩ (.slice afv17v PT.length cfv17v)).frozen? ⟨w6.heap.size, 2, none⟩ = false := by go_simp
                replace b160 := n_b160
                clear n_b160
                replace f_b160 := n_f_b160
                clear n_f_b160
                replace b161 := n_b161
                clear n_b161
                replace f_b161 := n_f_b161
                clear n_f_b161
                replace b162 := n_b162
                clear n_b162
                replace f_b162 := n_f_b162
                clear n_f_b162
                replace i1 := (Q14_i1.out).ext BL15_w8
                replace i2 := (Q14_i2.out).ext BL15_w8
                replace i6 := (Q14_i6.out).ext BL15_w8
                replace i8 := (Q14_i8.out).ext BL15_w8
                replace i18u := i18u.chg Kw8 (by omega)
                replace i18v := i18v.chg Kw8 (by omega)
                clear Kw8
                have z_b2 : w1.heap.size < (((w7.setCell ⟨w6.heap.size, 0, none⟩ (.int .i64 b)).setCell ⟨w6.heap.size, 1, none⟩ (.slice afv17u PS.length cfv17u)).setCell ⟨w6.heap.size, 2, none⟩ (.slice afv17v PT.length cfv17v)).heap.size := World.block_lt_of_cell? _ _ b20
                have z_b16 : w6.heap.size < (((w7.setCell ⟨w6.heap.size, 0, none⟩ (.int .i64 b)).setCell ⟨w6.heap.size, 1, none⟩ (.slice afv17u PS.length cfv17u)).setCell ⟨w6.heap.size, 2, none⟩ (.slice afv17v PT.length cfv17v)).heap.size := World.block_lt_of_cell? _ _ b160
                have s_w8 : w.heap.size ≤ (((w7.setCell ⟨w6.heap.size, 0, none⟩ (.int .i64 b)).setCell ⟨w6.heap.size, 1, none⟩ (.slice afv17u PS.length cfv17u)).setCell ⟨w6.heap.size, 2, none⟩ (.slice afv17v PT.length cfv17v)).heap.size := Xw8.size
                generalize (((w7.setCell ⟨w6.heap.size, 0, none⟩ (.int .i64 b)).setCell ⟨w6.heap.size, 1, none⟩ (.slice afv17u PS.length cfv17u)).setCell ⟨w6.heap.size, 2, none⟩ (.slice afv17v PT.length cfv17v)) = w8 at *
                refine hK.out _ _ ⟨b20, b21, b22⟩ (fun hHeld => ?_)
                clear hK K
                try simp only [Act.put, List.setIfInBounds_toArray, List.set_cons_zero, List.set_cons_succ, List.getElem_toArray, List.getElem_cons_succ, List.getElem_cons_zero]
                refine wpAnyH_take (i := 12) (v := ?_) rfl (by kernel_rfl) (by kernel_rfl) (by kernel_rfl) (fun _ _ _ h => h) (Or.inl ⟨by rfl, ?_⟩) (by assumption) ?_
                rotate_left
                · (intro w hSw; (try dsimp only at hSw); go_simp; try with_reducible rfl)
                try simp only [Act.put, List.setIfInBounds_toArray, List.set_cons_zero, List.set_cons_succ, List.getElem_toArray, List.getElem_cons_succ, List.getElem_cons_zero]
                refine wpAnyH_done (by kernel_rfl) ?_ _
                clear hHeld
                go_step
                go_step
                go_meet
                case rel => exact ⟨_, _, _, _, _, rfl, rfl, BD7_w8, (by omega), b160, b161, b162, f_b160, f_b161, f_b162, i18u.lower (by omega), i18v.lower (by omega)⟩
            · try simp only [Act.put, List.setIfInBounds_toArray, List.set_cons_zero, List.set_cons_succ, List.getElem_toArray, List.getElem_cons_succ, List.getElem_cons_zero]
              go_simp
              have Q19_b20 := Lib.hid b20
              have Q19_b21 := Lib.hid b21
              have Q19_b22 := Lib.hid b22
              have Q19_zb2 := z_b2
              have Q19_i1 := Lib.hid i1
              have Q19_i2 := Lib.hid i2
              have Q19_i6 := Lib.hid i6
              have BL20 : Ext w5 w5 := Ext.refl _
              refine hK.out _ _ ⟨(show Ext w5 _ from (by repeat (first | (with_reducible assumption) | (with_reducible refine Ext.setCell ?_ (by first | (simp; done) | (simp; omega) | omega) _) | (with_reducible apply Ext.alloc) | (with_reducible apply Ext.drew) | (with_reducible apply Ext.drewN) | (with_reducible exact Ext.refl _)))).cell b20, (show Ext w5 _ from (by repeat (first | (with_reducible assumption) | (with_reducible refine Ext.setCell ?_ (by first | (simp; done) | (simp; omega) | omega) _) | (with_reducible apply Ext.alloc) | (with_reducible apply Ext.drew) | (with_reducible apply Ext.drewN) | (with_reducible exact Ext.refl _)))).cell b21, (show Ext w5 _ from (by repeat (first | (with_reducible assumption) | (with_reducible refine Ext.setCell ?_ (by first | (simp; done) | (simp; omega) | omega) _) | (with_reducible apply Ext.alloc) | (with_reducible apply Ext.drew) | (with_reducible apply Ext.drewN) | (with_reducible exact Ext.refl _)))).cell b22⟩ (fun hHeld => ?_)
              clear hK K
              try simp only [Act.put, List.setIfInBounds_toArray, List.set_cons_zero, List.set_cons_succ, List.getElem_toArray, List.getElem_cons_succ, List.getElem_cons_zero]
              refine wpAnyH_ready (rs := [5]) (by kernel_rfl) (by simp) ?_
              refine AllReadyH.cons rfl (fun K hK => ?_) AllReadyH.nil
              try simp only [Act.put, List.setIfInBounds_toArray, List.set_cons_zero, List.set_cons_succ, List.getElem_toArray, List.getElem_cons_succ, List.getElem_cons_zero]
              go_simp
              refine (pi_eq hR.out (back_c (upL s.length) (.slice afv5 ((upL s.length).length) cfv5) _ _ (i6.ext (by repeat (first | (with_reducible assumption) | (with_reducible refine Ext.setCell ?_ (by first | (simp; done) | (simp; omega) | omega) _) | (with_reducible apply Ext.alloc) | (with_reducible apply Ext.drew) | (with_reducible apply Ext.drewN) | (with_reducible exact Ext.refl _)))))).mono ?_
              rintro e w6 ⟨fv22, rfl, i23, -, xw6⟩
              have Lw6 : Ext w5 w6 := Ext.trans (by repeat (first | (with_reducible assumption) | (with_reducible refine Ext.setCell ?_ (by first | (simp; done) | (simp; omega) | omega) _) | (with_reducible apply Ext.alloc) | (with_reducible apply Ext.drew) | (with_reducible apply Ext.drewN) | (with_reducible exact Ext.refl _))) xw6
              have Xw6 : Ext w w6 := Xw5.trans Lw6
              replace b20 := Lw6.cell b20
              replace b21 := Lw6.cell b21
              replace b22 := Lw6.cell b22
              have b210 : w6.cell? ⟨w5.heap.size, 0, none⟩ = some (.int .i64 0) := xw6.cell (by first | (simp; done) | ((repeat rw [World.cell?_alloc_lt _ _ _ (by simp <;> omega)]); simp; done) | (go_simp; done))
              have b211 : w6.cell? ⟨w5.heap.size, 1, none⟩ = some (.slice none 0 0) := xw6.cell (by first | (simp; done) | ((repeat rw [World.cell?_alloc_lt _ _ _ (by simp <;> omega)]); simp; done) | (go_simp; done))
              have b212 : w6.cell? ⟨w5.heap.size, 2, none⟩ = some (.slice none 0 0) := xw6.cell (by first | (simp; done) | ((repeat rw [World.cell?_alloc_lt _ _ _ (by simp <;> omega)]); simp; done) | (go_simp; done))
              have f_b210 : w6.frozen? ⟨w5.heap.size, 0, none⟩ = false := xw6.frz (by simp <;> omega) (by first | (simp; done) | (go_simp; done))
              have f_b211 : w6.frozen? ⟨w5.heap.size, 1, none⟩ = false := xw6.frz (by simp <;> omega) (by first | (simp; done) | (go_simp; done))
              have f_b212 : w6.frozen? ⟨w5.heap.size, 2, none⟩ = false := xw6.frz (by simp <;> omega) (by first | (simp; done) | (go_simp; done))
              have z_b2 : w1.heap.size < w6.heap.size := World.block_lt_of_cell? _ _ b20
              have z_b21 : w5.heap.size < w6.heap.size := World.block_lt_of_cell? _ _ b210
              replace i1 := i1.ext Lw6
              replace i2 := i2.ext Lw6
              replace i6 := i6.ext Lw6
              have s_w6 : w.heap.size ≤ w6.heap.size := Xw6.size
              have BD7_w6 : Ext w4 w6 := BD7_w5.trans Lw6
              have BL20_w6 : Ext w5 w6 := BL20.trans Lw6
              clear xw6
              try simp only [World.size_alloc, World.size_drew] at i23
              obtain ⟨afv22, cfv22, rfl⟩ := i23.form
              have zD_w6 := (BD7_w6).size
              refine hK.out _ _ ⟨b20, b21, b22⟩ (fun hHeld => ?_)
              clear hK K
              try simp only [Act.put, List.setIfInBounds_toArray, List.set_cons_zero, List.set_cons_succ, List.getElem_toArray, List.getElem_cons_succ, List.getElem_cons_zero]
              refine wpAnyH_ready (rs := [6]) (by kernel_rfl) (by simp) ?_
              refine AllReadyH.cons rfl (fun K hK => ?_) AllReadyH.nil
              try simp only [Act.put, List.setIfInBounds_toArray, List.set_cons_zero, List.set_cons_succ, List.getElem_toArray, List.getElem_cons_succ, List.getElem_cons_zero]
              go_simp
              refine (pv_eq hl1.out (implPermuteDims_c b (.slice p1 s.length r1) (.slice p2 t.length r2) s t (.slice afv22 R.length cfv22) R _ _ _ (i1.ext (by repeat (first | (with_reducible assumption) | (with_reducible refine Ext.setCell ?_ (by first | (simp; done) | (simp; omega) | omega) _) | (with_reducible apply Ext.alloc) | (with_reducible apply Ext.drew) | (with_reducible apply Ext.drewN) | (with_reducible exact Ext.refl _)))) (i2.ext (by repeat (first | (with_reducible assumption) | (with_reducible refine Ext.setCell ?_ (by first | (simp; done) | (simp; omega) | omega) _) | (with_reducible apply Ext.alloc) | (with_reducible apply Ext.drew) | (with_reducible apply Ext.drewN) | (with_reducible exact Ext.refl _)))) _ (i23.ext (by repeat (first | (with_reducible assumption) | (with_reducible refine Ext.setCell ?_ (by first | (simp; done) | (simp; omega) | omega) _) | (with_reducible apply Ext.alloc) | (with_reducible apply Ext.drew) | (with_reducible apply Ext.drewN) | (with_reducible exact Ext.refl _)))))).mono ?_
              rintro e w7 ⟨fv24u, fv24v, rfl, i25u, i25v, -, -, -, xw7⟩
              have Lw7 : Ext w6 w7 := Ext.trans (by repeat (first | (with_reducible assumption) | (with_reducible refine Ext.setCell ?_ (by first | (simp; done) | (simp; omega) | omega) _) | (with_reducible apply Ext.alloc) | (with_reducible apply Ext.drew) | (with_reducible apply Ext.drewN) | (with_reducible exact Ext.refl _))) xw7
              have Xw7 : Ext w w7 := Xw6.trans Lw7
              replace b20 := Lw7.cell b20
              replace b21 := Lw7.cell b21
              replace b22 := Lw7.cell b22
              replace b210 := Lw7.cell b210
              replace b211 := Lw7.cell b211
              replace b212 := Lw7.cell b212
              replace f_b210 := Lw7.frz z_b21 f_b210
              replace f_b211 := Lw7.frz z_b21 f_b211
              replace f_b212 := Lw7.frz z_b21 f_b212
              have z_b2 : w1.heap.size < w7.heap.size := World.block_lt_of_cell? _ _ b20
              have z_b21 : w5.heap.size < w7.heap.size := World.block_lt_of_cell? _ _ b210
              replace i1 := i1.ext Lw7
              replace i2 := i2.ext Lw7
              replace i6 := i6.ext Lw7
              replace i23 := i23.ext Lw7
              have s_w7 : w.heap.size ≤ w7.heap.size := Xw7.size
              have BD7_w7 : Ext w4 w7 := BD7_w6.trans Lw7
              have BL20_w7 : Ext w5 w7 := BL20_w6.trans Lw7
              clear xw7
              try simp only [World.size_alloc, World.size_drew] at i25u i25v
              obtain ⟨afv24u, cfv24u, rfl⟩ := i25u.form
              obtain ⟨afv24v, cfv24v, rfl⟩ := i25v.form
              have zD_w7 := (BD7_w7).size
              refine hK.out _ _ ⟨b20, b21, b22⟩ (fun hHeld => ?_)
              clear hK K
              try simp only [Act.put, List.setIfInBounds_toArray, List.set_cons_zero, List.set_cons_succ, List.getElem_toArray, List.getElem_cons_succ, List.getElem_cons_zero]
              refine wpAnyH_take (i := 7) (v := ?_) rfl (by kernel_rfl) (by kernel_rfl) (by kernel_rfl) (fun _ _ _ h => h) (Or.inl ⟨by rfl, ?_⟩) (by assumption) ?_
              rotate_left
              · (intro w hSw; (try dsimp only at hSw); go_simp; try with_reducible rfl)
              try simp only [Act.put, List.setIfInBounds_toArray, List.set_cons_zero, List.set_cons_succ, List.getElem_toArray, List.getElem_cons_succ, List.getElem_cons_zero]
              refine wpAnyH_take (i := 8) (v := ?_) rfl (by kernel_rfl) (by kernel_rfl) (by kernel_rfl) (fun _ _ _ h => h) (Or.inl ⟨by rfl, ?_⟩) (by assumption) ?_
              rotate_left
              · (intro w hSw; (try dsimp only at hSw); go_simp; try with_reducible rfl)
              try simp only [Act.put, List.setIfInBounds_toArray, List.set_cons_zero, List.set_cons_succ, List.getElem_toArray, List.getElem_cons_succ, List.getElem_cons_zero]
              refine wpAnyH_take (i := 9) (v := ?_) rfl (by kernel_rfl) (by kernel_rfl) (by kernel_rfl) (fun _ _ _ h => h) (Or.inl ⟨by rfl, ?_⟩) (by assumption) ?_
              rotate_left
              · (intro w hSw; (try dsimp only at hSw); go_simp; try with_reducible rfl)
              try simp only [Act.put, List.setIfInBounds_toArray, List.set_cons_zero, List.set_cons_succ, List.getElem_toArray, List.getElem_cons_succ, List.getElem_cons_zero]
              refine wpAnyH_ready (rs := [11]) (by kernel_rfl) (by simp) ?_
              refine AllReadyH.cons rfl (fun K hK => ?_) AllReadyH.nil
              try simp only [Act.put, List.setIfInBounds_toArray, List.set_cons_zero, List.set_cons_succ, List.getElem_toArray, List.getElem_cons_succ, List.getElem_cons_zero]
              go_simp
              have Kw8 : Chg (w5.heap.size) (w5.heap.size + 1) w7 (((w7.setCell ⟨w5.heap.size, 0, none⟩ (.int .i64 b)).setCell ⟨w5.heap.size, 1, none⟩ (.slice afv24u PS.length cfv24u)).setCell ⟨w5.heap.size, 2, none⟩ (.slice afv24v PT.length cfv24v)) := (Chg.setCell (p := ⟨w5.heap.size, 2, none⟩) (Chg.setCell (p := ⟨w5.heap.size, 1, none⟩) (Chg.setCell (p := ⟨w5.heap.size, 0, none⟩) (Chg.refl (w5.heap.size) (w5.heap.size + 1) _) (Nat.le_refl _) (Nat.lt_succ_self _) (.int .i64 b)) (Nat.le_refl _) (Nat.lt_succ_self _) (.slice afv24u PS.length cfv24u)) (Nat.le_refl _) (Nat.lt_succ_self _) (.slice afv24v PT.length cfv24v))
              have Xw8 : Ext w (((w7.setCell ⟨w5.heap.size, 0, none⟩ (.int .i64 b)).setCell ⟨w5.heap.size, 1, none⟩ (.slice afv24u PS.length cfv24u)).setCell ⟨w5.heap.size, 2, none⟩ (.slice afv24v PT.length cfv24v)) := (Ext.setCell (p := ⟨w5.heap.size, 2, none⟩) (Ext.setCell (p := ⟨w5.heap.size, 1, none⟩) (Ext.setCell (p := ⟨w5.heap.size, 0, none⟩) Xw7 (by first | (simp; done) | (simp; omega) | omega) (.int .i64 b)) (by first | (simp; done) | (simp; omega) | omega) (.slice afv24u PS.length cfv24u)) (by first | (simp; done) | (simp; omega) | omega) (.slice afv24v PT.length cfv24v))
              have BD7_w8 : Ext w4 (((w7.setCell ⟨w5.heap.size, 0, none⟩ (.int .i64 b)).setCell ⟨w5.heap.size, 1, none⟩ (.slice afv24u PS.length cfv24u)).setCell ⟨w5.heap.size, 2, none⟩ (.slice afv24v PT.length cfv24v)) := (Ext.setCell (p := ⟨w5.heap.size, 2, none⟩) (Ext.setCell (p := ⟨w5.heap.size, 1, none⟩) (Ext.setCell (p := ⟨w5.heap.size, 0, none⟩) BD7_w7 (by first | (simp; done) | (simp; omega) | omega) (.int .i64 b)) (by first | (simp; done) | (simp; omega) | omega) (.slice afv24u PS.length cfv24u)) (by first | (simp; done) | (simp; omega) | omega) (.slice afv24v PT.length cfv24v))
              have BL20_w8 : Ext w5 (((w7.setCell ⟨w5.heap.size, 0, none⟩ (.int .i64 b)).setCell ⟨w5.heap.size, 1, none⟩ (.slice afv24u PS.length cfv24u)).setCell ⟨w5.heap.size, 2, none⟩ (.slice afv24v PT.length cfv24v)) := (Ext.setCell (p := ⟨w5.heap.size, 2, none⟩) (Ext.setCell (p := ⟨w5.heap.size, 1, none⟩) (Ext.setCell (p := ⟨w5.heap.size, 0, none⟩) BL20_w7 (by first | (simp; done) | (simp; omega) | omega) (.int .i64 b)) (by first | (simp; done) | (simp; omega) | omega) (.slice afv24u PS.length cfv24u)) (by first | (simp; done) | (simp; omega) | omega) (.slice afv24v PT.length cfv24v))
              replace b20 := BL20_w8.cell Q19_b20.out
              replace b21 := BL20_w8.cell Q19_b21.out
              replace b22 := BL20_w8.cell Q19_b22.out
              have n_b210 : (((w7.setCell ⟨w5.heap.size, 0, none⟩ (.int .i64 b)).setCell ⟨w5.heap.size, 1, none⟩ (.slice afv24u PS.length cfv24u)).setCell ⟨w5.heap.size, 2, none⟩ (.slice afv24v PT.length cfv24v)).cell? ⟨w5.heap.size, 0, none⟩ = some (.int .i64 b) := by go_simp
              have n_f_b210 : (((w7.setCell ⟨w5.heap.size, 0, none⟩ (.int .i64 b)).setCell ⟨w5.heap.size, 1, none⟩ (.slice afv24u PS.length cfv24u)).setCell ⟨w5.heap.size, 2, none⟩ (.slice afv24v PT.length cfv24v)).frozen? ⟨w5.heap.size, 0, none⟩ = false := by go_simp
              have n_b211 : (((w7.setCell ⟨w5.heap.size, 0, none⟩ (.int .i64 b)).setCell ⟨w5.heap.size, 1, none⟩ (.slice afv24u PS.length cfv24u)).setCell ⟨w5.heap.size, 2, none⟩ (.slice afv24v PT.length cfv24v)).cell? ⟨w5.heap.size, 1, none⟩ = some (.slice afv24u PS.length cfv24u) := by go_simp
              have n_f_b211 : (((w7.setCell ⟨w5.heap.size, 0, none⟩ (.int .i64 b)).setCell ⟨w5.heap.size, 1, none⟩ (.slice afv24u PS.length cfv24u)).setCell ⟨w5.heap.size, 2, none⟩ (.slice afv24v PT.length cfv24v)).frozen? ⟨w5.heap.size, 1, none⟩ = false := by go_simp
              have n_b212 : (((w7.setCell ⟨w5.heap.size, 0, none⟩ (.int .i64 b)).setCell ⟨w5.heap.size, 1, none⟩ (.slice afv24u PS.length cfv24u)).setCell ⟨w5.heap.size, 2, none⟩ (.slice afv24v PT.length cfv24v)).cell? ⟨w5.heap.size, 2, none⟩ = some (.slice afv24v PT.length cfv24v) := by go_simp
              have n_f_b212 : (((w7.setCell ⟨w5.heap.size, 0, none⟩ (.int .i64 b)).setCell ⟨w5.heap.size, 1, none⟩ (.slice afv24u PS.length cfv24u)).setCell ⟨w5.heap.size, 2, none⟩ (.slice afv24v PT.length cfv24v)).frozen? ⟨w5.heap.size, 2, none⟩ = false := by go_simp
              replace b210 := n_b210
              clear n_b210
              replace f_b210 := n_f_b210
              clear n_f_b210
              replace b211 := n_b211
              clear n_b211
              replace f_b211 := n_f_b211
              clear n_f_b211
              replace b212 := n_b212
              clear n_b212
              replace f_b212 := n_f_b212
              clear n_f_b212
              replace i1 := (Q19_i1.out).ext BL20_w8
              replace i2 := (Q19_i2.out).ext BL20_w8
              replace i6 := (Q19_i6.out).ext BL20_w8
              replace i23 := i23.chg Kw8 (by omega)
              replace i25u := i25u.chg Kw8 (by omega)
              replace i25v := i25v.chg Kw8 (by omega)
              clear Kw8
              have z_b2 : w1.heap.size < (((w7.setCell ⟨w5.heap.size, 0, none⟩ (.int .i64 b)).setCell ⟨w5.heap.size, 1, none⟩ (.slice afv24u PS.length cfv24u)).setCell ⟨w5.heap.size, 2, none⟩ (.slice afv24v PT.length cfv24v)).heap.size := World.block_lt_of_cell? _ _ b20
              have z_b21 : w5.heap.size < (((w7.setCell ⟨w5.heap.size, 0, none⟩ (.int .i64 b)).setCell ⟨w5.heap.size, 1, none⟩ (.slice afv24u PS.length cfv24u)).setCell ⟨w5.heap.size, 2, none⟩ (.slice afv24v PT.length cfv24v)).heap.size := World.block_lt_of_cell? _ _ b210
              have s_w8 : w.heap.size ≤ (((w7.setCell ⟨w5.heap.size, 0, none⟩ (.int .i64 b)).setCell ⟨w5.heap.size, 1, none⟩ (.slice afv24u PS.length cfv24u)).setCell ⟨w5.heap.size, 2, none⟩ (.slice afv24v PT.length cfv24v)).heap.size := Xw8.size
              generalize (((w7.setCell ⟨w5.heap.size, 0, none⟩ (.int .i64 b)).setCell ⟨w5.heap.size, 1, none⟩ (.slice afv24u PS.length cfv24u)).setCell ⟨w5.heap.size, 2, none⟩ (.slice afv24v PT.length cfv24v)) = w8 at *
              refine hK.out _ _ ⟨b20, b21, b22⟩ (fun hHeld => ?_)
              clear hK K
              try simp only [Act.put, List.setIfInBounds_toArray, List.set_cons_zero, List.set_cons_succ, List.getElem_toArray, List.getElem_cons_succ, List.getElem_cons_zero]
              refine wpAnyH_take (i := 12) (v := ?_) rfl (by kernel_rfl) (by kernel_rfl) (by kernel_rfl) (fun _ _ _ h => h) (Or.inl ⟨by rfl, ?_⟩) (by assumption) ?_
              rotate_left
              · (intro w hSw; (try dsimp only at hSw); go_simp; try with_reducible rfl)
              try simp only [Act.put, List.setIfInBounds_toArray, List.set_cons_zero, List.set_cons_succ, List.getElem_toArray, List.getElem_cons_succ, List.getElem_cons_zero]
              refine wpAnyH_done (by kernel_rfl) ?_ _
              clear hHeld
              go_step
              go_step
              go_meet
              case rel => exact ⟨_, _, _, _, _, rfl, rfl, BD7_w8, (by omega), b210, b211, b212, f_b210, f_b211, f_b212, i25u.lower (by omega), i25v.lower (by omega)⟩
          · try simp only [Act.put, List.setIfInBounds_toArray, List.set_cons_zero, List.set_cons_succ, List.getElem_toArray, List.getElem_cons_succ, List.getElem_cons_zero]
            go_simp
            have Q26_b20 := Lib.hid b20
            have Q26_b21 := Lib.hid b21
            have Q26_b22 := Lib.hid b22
            have Q26_zb2 := z_b2
            have Q26_i1 := Lib.hid i1
            have Q26_i2 := Lib.hid i2
            have BL27 : Ext w4 w4 := Ext.refl _
            refine hK.out _ _ ⟨(show Ext w4 _ from (by repeat (first | (with_reducible assumption) | (with_reducible refine Ext.setCell ?_ (by first | (simp; done) | (simp; omega) | omega) _) | (with_reducible apply Ext.alloc) | (with_reducible apply Ext.drew) | (with_reducible apply Ext.drewN) | (with_reducible exact Ext.refl _)))).cell b20, (show Ext w4 _ from (by repeat (first | (with_reducible assumption) | (with_reducible refine Ext.setCell ?_ (by first | (simp; done) | (simp; omega) | omega) _) | (with_reducible apply Ext.alloc) | (with_reducible apply Ext.drew) | (with_reducible apply Ext.drewN) | (with_reducible exact Ext.refl _)))).cell b21, (show Ext w4 _ from (by repeat (first | (with_reducible assumption) | (with_reducible refine Ext.setCell ?_ (by first | (simp; done) | (simp; omega) | omega) _) | (with_reducible apply Ext.alloc) | (with_reducible apply Ext.drew) | (with_reducible apply Ext.drewN) | (with_reducible exact Ext.refl _)))).cell b22⟩ (fun hHeld => ?_)
            clear hK K
            try simp only [Act.put, List.setIfInBounds_toArray, List.set_cons_zero, List.set_cons_succ, List.getElem_toArray, List.getElem_cons_succ, List.getElem_cons_zero]
            refine wpAnyH_ready (rs := [4]) (by kernel_rfl) (by simp) ?_
            refine AllReadyH.cons rfl (fun K hK => ?_) AllReadyH.nil
            try simp only [Act.put, List.setIfInBounds_toArray, List.set_cons_zero, List.set_cons_succ, List.getElem_toArray, List.getElem_cons_succ, List.getElem_cons_zero]
            go_simp
            refine (lupTo_c s.length _ (by first | omega | exact (vw hB4.out).1 | exact (vw hB4.out).2.1 | exact (vw hB4.out).2.2.1 | exact (vw hB4.out).2.2.2)).mono ?_
            rintro e w5 ⟨fv29, rfl, i30, -, xw5⟩
            have Lw5 : Ext w4 w5 := Ext.trans (by repeat (first | (with_reducible assumption) | (with_reducible refine Ext.setCell ?_ (by first | (simp; done) | (simp; omega) | omega) _) | (with_reducible apply Ext.alloc) | (with_reducible apply Ext.drew) | (with_reducible apply Ext.drewN) | (with_reducible exact Ext.refl _))) xw5
            have Xw5 : Ext w w5 := Xw4.trans Lw5
            replace b20 := Lw5.cell b20
            replace b21 := Lw5.cell b21
            replace b22 := Lw5.cell b22
            have b280 : w5.cell? ⟨w4.heap.size, 0, none⟩ = some (.int .i64 0) := xw5.cell (by first | (simp; done) | ((repeat rw [World.cell?_alloc_lt _ _ _ (by simp <;> omega)]); simp; done) | (go_simp; done))
            have b281 : w5.cell? ⟨w4.heap.size, 1, none⟩ = some (.slice none 0 0) := xw5.cell (by first | (simp; done) | ((repeat rw [World.cell?_alloc_lt _ _ _ (by simp <;> omega)]); simp; done) | (go_simp; done))
            have b282 : w5.cell? ⟨w4.heap.size, 2, none⟩ = some (.slice none 0 0) := xw5.cell (by first | (simp; done) | ((repeat rw [World.cell?_alloc_lt _ _ _ (by simp <;> omega)]); simp; done) | (go_simp; done))
            have f_b280 : w5.frozen? ⟨w4.heap.size, 0, none⟩ = false := xw5.frz (by simp <;> omega) (by first | (simp; done) | (go_simp; done))
            have f_b281 : w5.frozen? ⟨w4.heap.size, 1, none⟩ = false := xw5.frz (by simp <;> omega) (by first | (simp; done) | (go_simp; done))
            have f_b282 : w5.frozen? ⟨w4.heap.size, 2, none⟩ = false := xw5.frz (by simp <;> omega) (by first | (simp; done) | (go_simp; done))
            have z_b2 : w1.heap.size < w5.heap.size := World.block_lt_of_cell? _ _ b20
            have z_b28 : w4.heap.size < w5.heap.size := World.block_lt_of_cell? _ _ b280
            replace i1 := i1.ext Lw5
            replace i2 := i2.ext Lw5
            have s_w5 : w.heap.size ≤ w5.heap.size := Xw5.size
            have BD7_w5 : Ext w4 w5 := BD7.trans Lw5
            have BL27_w5 : Ext w4 w5 := BL27.trans Lw5
            clear xw5
            try simp only [World.size_alloc, World.size_drew] at i30
            obtain ⟨afv29, cfv29, rfl⟩ := i30.form
            have zD_w5 := (BD7_w5).size
            refine hK.out _ _ ⟨b20, b21, b22⟩ (fun hHeld => ?_)
            clear hK K
            try simp only [Act.put, List.setIfInBounds_toArray, List.set_cons_zero, List.set_cons_succ, List.getElem_toArray, List.getElem_cons_succ, List.getElem_cons_zero]
            refine wpAnyH_ready (rs := [5]) (by kernel_rfl) (by simp) ?_
            refine AllReadyH.cons rfl (fun K hK => ?_) AllReadyH.nil
            try simp only [Act.put, List.setIfInBounds_toArray, List.set_cons_zero, List.set_cons_succ, List.getElem_toArray, List.getElem_cons_succ, List.getElem_cons_zero]
            go_simp
            refine (pi_eq hR.out (back_c (upL s.length) (.slice afv29 ((upL s.length).length) cfv29) _ _ (i30.ext (by repeat (first | (with_reducible assumption) | (with_reducible refine Ext.setCell ?_ (by first | (simp; done) | (simp; omega) | omega) _) | (with_reducible apply Ext.alloc) | (with_reducible apply Ext.drew) | (with_reducible apply Ext.drewN) | (with_reducible exact Ext.refl _)))))).mono ?_
            rintro e w6 ⟨fv31, rfl, i32, -, xw6⟩
            have Lw6 : Ext w5 w6 := Ext.trans (by repeat (first | (with_reducible assumption) | (with_reducible refine Ext.setCell ?_ (by first | (simp; done) | (simp; omega) | omega) _) | (with_reducible apply Ext.alloc) | (with_reducible apply Ext.drew) | (with_reducible apply Ext.drewN) | (with_reducible exact Ext.refl _))) xw6
            have Xw6 : Ext w w6 := Xw5.trans Lw6
            replace b20 := Lw6.cell b20
            replace b21 := Lw6.cell b21
            replace b22 := Lw6.cell b22
            replace b280 := Lw6.cell b280
            replace b281 := Lw6.cell b281
            replace b282 := Lw6.cell b282
            replace f_b280 := Lw6.frz z_b28 f_b280
            replace f_b281 := Lw6.frz z_b28 f_b281
            replace f_b282 := Lw6.frz z_b28 f_b282
            have z_b2 : w1.heap.size < w6.heap.size := World.block_lt_of_cell? _ _ b20
            have z_b28 : w4.heap.size < w6.heap.size := World.block_lt_of_cell? _ _ b280
            replace i1 := i1.ext Lw6
            replace i2 := i2.ext Lw6
            replace i30 := i30.ext Lw6
            have s_w6 : w.heap.size ≤ w6.heap.size := Xw6.size
            have BD7_w6 : Ext w4 w6 := BD7_w5.trans Lw6
            have BL27_w6 : Ext w4 w6 := BL27_w5.trans Lw6
            clear xw6
            try simp only [World.size_alloc, World.size_drew] at i32
            obtain ⟨afv31, cfv31, rfl⟩ := i32.form
            have zD_w6 := (BD7_w6).size
            refine hK.out _ _ ⟨b20, b21, b22⟩ (fun hHeld => ?_)
            clear hK K
            try simp only [Act.put, List.setIfInBounds_toArray, List.set_cons_zero, List.set_cons_succ, List.getElem_toArray, List.getElem_cons_succ, List.getElem_cons_zero]
            refine wpAnyH_ready (rs := [6]) (by kernel_rfl) (by simp) ?_
            refine AllReadyH.cons rfl (fun K hK => ?_) AllReadyH.nil
            try simp only [Act.put, List.setIfInBounds_toArray, List.set_cons_zero, List.set_cons_succ, List.getElem_toArray, List.getElem_cons_succ, List.getElem_cons_zero]
            go_simp
            refine (pv_eq hl1.out (implPermuteDims_c b (.slice p1 s.length r1) (.slice p2 t.length r2) s t (.slice afv31 R.length cfv31) R _ _ _ (i1.ext (by repeat (first | (with_reducible assumption) | (with_reducible refine Ext.setCell ?_ (by first | (simp; done) | (simp; omega) | omega) _) | (with_reducible apply Ext.alloc) | (with_reducible apply Ext.drew) | (with_reducible apply Ext.drewN) | (with_reducible exact Ext.refl _)))) (i2.ext (by repeat (first | (with_reducible assumption) | (with_reducible refine Ext.setCell ?_ (by first | (simp; done) | (simp; omega) | omega) _) | (with_reducible apply Ext.alloc) | (with_reducible apply Ext.drew) | (with_reducible apply Ext.drewN) | (with_reducible exact Ext.refl _)))) _ (i32.ext (by repeat (first | (with_reducible assumption) | (with_reducible refine Ext.setCell ?_ (by first | (simp; done) | (simp; omega) | omega) _) | (with_reducible apply Ext.alloc) | (with_reducible apply Ext.drew) | (with_reducible apply Ext.drewN) | (with_reducible exact Ext.refl _)))))).mono ?_
            rintro e w7 ⟨fv33u, fv33v, rfl, i34u, i34v, -, -, -, xw7⟩
            have Lw7 : Ext w6 w7 := Ext.trans (by repeat (first | (with_reducible assumption) | (with_reducible refine Ext.setCell ?_ (by first | (simp; done) | (simp; omega) | omega) _) | (with_reducible apply Ext.alloc) | (with_reducible apply Ext.drew) | (with_reducible apply Ext.drewN) | (with_reducible exact Ext.refl _))) xw7
            have Xw7 : Ext w w7 := Xw6.trans Lw7
            replace b20 := Lw7.cell b20
            replace b21 := Lw7.cell b21
            replace b22 := Lw7.cell b22
            replace b280 := Lw7.cell b280
            replace b281 := Lw7.cell b281
            replace b282 := Lw7.cell b282
            replace f_b280 := Lw7.frz z_b28 f_b280
            replace f_b281 := Lw7.frz z_b28 f_b281
            replace f_b282 := Lw7.frz z_b28 f_b282
            have z_b2 : w1.heap.size < w7.heap.size := World.block_lt_of_cell? _ _ b20
            have z_b28 : w4.heap.size < w7.heap.size := World.block_lt_of_cell? _ _ b280
            replace i1 := i1.ext Lw7
            replace i2 := i2.ext Lw7
            replace i30 := i30.ext Lw7
            replace i32 := i32.ext Lw7
            have s_w7 : w.heap.size ≤ w7.heap.size := Xw7.size
            have BD7_w7 : Ext w4 w7 := BD7_w6.trans Lw7
            have BL27_w7 : Ext w4 w7 := BL27_w6.trans Lw7
            clear xw7
            try simp only [World.size_alloc, World.size_drew] at i34u i34v
            obtain ⟨afv33u, cfv33u, rfl⟩ := i34u.form
            obtain ⟨afv33v, cfv33v, rfl⟩ := i34v.form
            have zD_w7 := (BD7_w7).size
            refine hK.out _ _ ⟨b20, b21, b22⟩ (fun hHeld => ?_)
            clear hK K
            try simp only [Act.put, List.setIfInBounds_toArray, List.set_cons_zero, List.set_cons_succ, List.getElem_toArray, List.getElem_cons_succ, List.getElem_cons_zero]
            refine wpAnyH_take (i := 7) (v := ?_) rfl (by kernel_rfl) (by kernel_rfl) (by kernel_rfl) (fun _ _ _ h => h) (Or.inl ⟨by rfl, ?_⟩) (by assumption) ?_
            rotate_left
            · (intro w hSw; (try dsimp only at hSw); go_simp; try with_reducible rfl)
            try simp only [Act.put, List.setIfInBounds_toArray, List.set_cons_zero, List.set_cons_succ, List.getElem_toArray, List.getElem_cons_succ, List.getElem_cons_zero]
            refine wpAnyH_take (i := 8) (v := ?_) rfl (by kernel_rfl) (by kernel_rfl) (by kernel_rfl) (fun _ _ _ h => h) (Or.inl ⟨by rfl, ?_⟩) (by assumption) ?_
            rotate_left
            · (intro w hSw; (try dsimp only at hSw); go_simp; try with_reducible rfl)
            try simp only [Act.put, List.setIfInBounds_toArray, List.set_cons_zero, List.set_cons_succ, List.getElem_toArray, List.getElem_cons_succ, List.getElem_cons_zero]
            refine wpAnyH_take (i := 9) (v := ?_) rfl (by kernel_rfl) (by kernel_rfl) (by kernel_rfl) (fun _ _ _ h => h) (Or.inl ⟨by rfl, ?_⟩) (by assumption) ?_
            rotate_left
            · (intro w hSw; (try dsimp only at hSw); go_simp; try with_reducible rfl)
            try simp only [Act.put, List.setIfInBounds_toArray, List.set_cons_zero, List.set_cons_succ, List.getElem_toArray, List.getElem_cons_succ, List.getElem_cons_zero]
            refine wpAnyH_ready (rs := [11]) (by kernel_rfl) (by simp) ?_
            refine AllReadyH.cons rfl (fun K hK => ?_) AllReadyH.nil
            try simp only [Act.put, List.setIfInBounds_toArray, List.set_cons_zero, List.set_cons_succ, List.getElem_toArray, List.getElem_cons_succ, List.getElem_cons_zero]
            go_simp
            have Kw8 : Chg (w4.heap.size) (w4.heap.size + 1) w7 (((w7.setCell ⟨w4.heap.size, 0, none⟩ (.int .i64 b)).setCell ⟨w4.heap.size, 1, none⟩ (.slice afv33u PS.length cfv33u)).setCell ⟨w4.heap.size, 2, none⟩ (.slice afv33v PT.length cfv33v)) := (Chg.setCell (p := ⟨w4.heap.size, 2, none⟩) (Chg.setCell (p := ⟨w4.heap.size, 1, none⟩) (Chg.setCell (p := ⟨w4.heap.size, 0, none⟩) (Chg.refl (w4.heap.size) (w4.heap.size + 1) _) (Nat.le_refl _) (Nat.lt_succ_self _) (.int .i64 b)) (Nat.le_refl _) (Nat.lt_succ_self _) (.slice afv33u PS.length cfv33u)) (Nat.le_refl _) (Nat.lt_succ_self _) (.slice afv33v PT.length cfv33v))
            have Xw8 : Ext w (((w7.setCell ⟨w4.heap.size, 0, none⟩ (.int .i64 b)).setCell ⟨w4.heap.size, 1, none⟩ (.slice afv33u PS.length cfv33u)).setCell ⟨w4.heap.size, 2, none⟩ (.slice afv33v PT.length cfv33v)) := (Ext.setCell (p := ⟨w4.heap.size, 2, none⟩) (Ext.setCell (p := ⟨w4.heap.size, 1, none⟩) (Ext.setCell (p := ⟨w4.heap.size, 0, none⟩) Xw7 (by first | (simp; done) | (simp; omega) | omega) (.int .i64 b)) (by first | (simp; done) | (simp; omega) | omega) (.slice afv33u PS.length cfv33u)) (by first | (simp; done) | (simp; omega) | omega) (.slice afv33v PT.length cfv33v))
            have BD7_w8 : Ext w4 (((w7.setCell ⟨w4.heap.size, 0, none⟩ (.int .i64 b)).setCell ⟨w4.heap.size, 1, none⟩ (.slice afv33u PS.length cfv33u)).setCell ⟨w4.heap.size, 2, none⟩ (.slice afv33v PT.length cfv33v)) := (Ext.setCell (p := ⟨w4.heap.size, 2, none⟩) (Ext.setCell (p := ⟨w4.heap.size, 1, none⟩) (Ext.setCell (p := ⟨w4.heap.size, 0, none⟩) BD7_w7 (by first | (simp; done) | (simp; omega) | omega) (.int .i64 b)) (by first | (simp; done) | (simp; omega) | omega) (.slice afv33u PS.length cfv33u)) (by first | (simp; done) | (simp; omega) | omega) (.slice afv33v PT.length cfv33v))
            have BL27_w8 : Ext w4 (((w7.setCell ⟨w4.heap.size, 0, none⟩ (.int .i64 b)).setCell ⟨w4.heap.size, 1, none⟩ (.slice afv33u PS.length cfv33u)).setCell ⟨w4.heap.size, 2, none⟩ (.slice afv33v PT.length cfv33v)) := (Ext.setCell (p := ⟨w4.heap.size, 2, none⟩) (Ext.setCell (p := ⟨w4.heap.size, 1, none⟩) (Ext.setCell (p := ⟨w4.heap.size, 0, none⟩) BL27_w7 (by first | (simp; done) | (simp; omega) | omega) (.int .i64 b)) (by first | (simp; done) | (simp; omega) | omega) (.slice afv33u PS.length cfv33u)) (by first | (simp; done) | (simp; omega) | omega) (.slice afv33v PT.length cfv33v))
            replace b20 := BL27_w8.cell Q26_b20.out
            replace b21 := BL27_w8.cell Q26_b21.out
            replace b22 := BL27_w8.cell Q26_b22.out
            have n_b280 : (((w7.setCell ⟨w4.heap.size, 0, none⟩ (.int .i64 b)).setCell ⟨w4.heap.size, 1, none⟩ (.slice afv33u PS.length cfv33u)).setCell ⟨w4.heap.size, 2, none⟩ (.slice afv33v PT.length cfv33v)).cell? ⟨w4.heap.size, 0, none⟩ = some (.int .i64 b) := by go_simp
            have n_f_b280 : (((w7.setCell ⟨w4.heap.size, 0, none⟩ (.int .i64 b)).setCell ⟨w4.heap.size, 1, none⟩ (.slice afv33u PS.length cfv33u)).setCell ⟨w4.heap.size, 2, none⟩ (.slice afv33v PT.length cfv33v)).frozen? ⟨w4.heap.size, 0, none⟩ = false := by go_simp
            have n_b281 : (((w7.setCell ⟨w4.heap.size, 0, none⟩ (.int .i64 b)).setCell ⟨w4.heap.size, 1, none⟩ (.slice afv33u PS.length cfv33u)).setCell ⟨w4.heap.size, 2, none⟩ (.slice afv33v PT.length cfv33v)).cell? ⟨w4.heap.size, 1, none⟩ = some (.slice afv33u PS.length cfv33u) := by go_simp
            have n_f_b281 : (((w7.setCell ⟨w4.heap.size, 0, none⟩ (.int .i64 b)).setCell ⟨w4.heap.size, 1, none⟩ (.slice afv33u PS.length cfv33u)).setCell ⟨w4.heap.size, 2, none⟩ (.slice afv33v PT.length cfv33v)).frozen? ⟨w4.heap.size, 1, none⟩ = false := by go_simp
            have n_b282 : (((w7.setCell ⟨w4.heap.size, 0, none⟩ (.int .i64 b)).setCell ⟨w4.heap.size, 1, none⟩ (.slice afv33u PS.length cfv33u)).setCell ⟨w4.heap.size, 2, none⟩ (.slice afv33v PT.length cfv33v)).cell? ⟨w4.heap.size, 2, none⟩ = some (.slice afv33v PT.length cfv33v) := by go_simp
            have n_f_b282 : (((w7.setCell ⟨w4.heap.size, 0, none⟩ (.int .i64 b)).setCell ⟨w4.heap.size, 1, none⟩ (.slice afv33u PS.length cfv33u)).setCell ⟨w4.heap.size, 2, none⟩ (.slice afv33v PT.length cfv33v)).frozen? ⟨w4.heap.size, 2, none⟩ = false := by go_simp
            replace b280 := n_b280
            clear n_b280
            replace f_b280 := n_f_b280
            clear n_f_b280
            replace b281 := n_b281
            clear n_b281
            replace f_b281 := n_f_b281
            clear n_f_b281
            replace b282 := n_b282
            clear n_b282
            replace f_b282 := n_f_b282
            clear n_f_b282
            replace i1 := (Q26_i1.out).ext BL27_w8
            replace i2 := (Q26_i2.out).ext BL27_w8
            replace i30 := i30.chg Kw8 (by omega)
            replace i32 := i32.chg Kw8 (by omega)
            replace i34u := i34u.chg Kw8 (by omega)
            replace i34v := i34v.chg Kw8 (by omega)
            clear Kw8
            have z_b2 : w1.heap.size < (((w7.setCell ⟨w4.heap.size, 0, none⟩ (.int .i64 b)).setCell ⟨w4.heap.size, 1, none⟩ (.slice afv33u PS.length cfv33u)).setCell ⟨w4.heap.size, 2, none⟩ (.slice afv33v PT.length cfv33v)).heap.size := World.block_lt_of_cell? _ _ b20
            have z_b28 : w4.heap.size < (((w7.setCell ⟨w4.heap.size, 0, none⟩ (.int .i64 b)).setCell ⟨w4.heap.size, 1, none⟩ (.slice afv33u PS.length cfv33u)).setCell ⟨w4.heap.size, 2, none⟩ (.slice afv33v PT.length cfv33v)).heap.size := World.block_lt_of_cell? _ _ b280
            have s_w8 : w.heap.size ≤ (((w7.setCell ⟨w4.heap.size, 0, none⟩ (.int .i64 b)).setCell ⟨w4.heap.size, 1, none⟩ (.slice afv33u PS.length cfv33u)).setCell ⟨w4.heap.size, 2, none⟩ (.slice afv33v PT.length cfv33v)).heap.size := Xw8.size
            generalize (((w7.setCell ⟨w4.heap.size, 0, none⟩ (.int .i64 b)).setCell ⟨w4.heap.size, 1, none⟩ (.slice afv33u PS.length cfv33u)).setCell ⟨w4.heap.size, 2, none⟩ (.slice afv33v PT.length cfv33v)) = w8 at *
            refine hK.out _ _ ⟨b20, b21, b22⟩ (fun hHeld => ?_)
            clear hK K
            try simp only [Act.put, List.setIfInBounds_toArray, List.set_cons_zero, List.set_cons_succ, List.getElem_toArray, List.getElem_cons_succ, List.getElem_cons_zero]
            refine wpAnyH_take (i := 12) (v := ?_) rfl (by kernel_rfl) (by kernel_rfl) (by kernel_rfl) (fun _ _ _ h => h) (Or.inl ⟨by rfl, ?_⟩) (by assumption) ?_
            rotate_left
            · (intro w hSw; (try dsimp only at hSw); go_simp; try with_reducible rfl)
            try simp only [Act.put, List.setIfInBounds_toArray, List.set_cons_zero, List.set_cons_succ, List.getElem_toArray, List.getElem_cons_succ, List.getElem_cons_zero]
            refine wpAnyH_done (by kernel_rfl) ?_ _
            clear hHeld
            go_step
            go_step
            go_meet
            case rel => exact ⟨_, _, _, _, _, rfl, rfl, BD7_w8, (by omega), b280, b281, b282, f_b280, f_b281, f_b282, i34u.lower (by omega), i34v.lower (by omega)⟩
        case rest =>
          generalize wc = wc36 at hcut ⊢
          obtain ⟨g37, af41, cf42, af43, cf44, rfl, rfl, xx38, hg_b35, b350, b351, b352, f_b350, f_b351, f_b352, i39, i40⟩ := hcut
          have Lwc36 : Ext w4 wc36 := Ext.trans (by repeat (first | (with_reducible assumption) | (with_reducible refine Ext.setCell ?_ (by first | (simp; done) | (simp; omega) | omega) _) | (with_reducible apply Ext.alloc) | (with_reducible apply Ext.drew) | (with_reducible apply Ext.drewN) | (with_reducible exact Ext.refl _))) xx38
          have Xwc36 : Ext w wc36 := Xw4.trans Lwc36
          replace b20 := Lwc36.cell b20
          replace b21 := Lwc36.cell b21
          replace b22 := Lwc36.cell b22
          have z_b2 : w1.heap.size < wc36.heap.size := World.block_lt_of_cell? _ _ b20
          replace i1 := i1.ext Lwc36
          replace i2 := i2.ext Lwc36
          have s_wc36 : w.heap.size ≤ wc36.heap.size := Xwc36.size
          clear xx38
          have z_b35 : g37 < wc36.heap.size := World.block_lt_of_cell? _ _ b350
          go_wp2_with fail
          refine (implIsRow_c b (.slice af41 PS.length cf42) (.slice af43 PT.length cf44) PS PT _ _ _ (i39.ext (by repeat (first | (with_reducible assumption) | (with_reducible refine Ext.setCell ?_ (by first | (simp; done) | (simp; omega) | omega) _) | (with_reducible apply Ext.alloc) | (with_reducible apply Ext.drew) | (with_reducible apply Ext.drewN) | (with_reducible exact Ext.refl _)))) (i40.ext (by repeat (first | (with_reducible assumption) | (with_reducible refine Ext.setCell ?_ (by first | (simp; done) | (simp; omega) | omega) _) | (with_reducible apply Ext.alloc) | (with_reducible apply Ext.drew) | (with_reducible apply Ext.drewN) | (with_reducible exact Ext.refl _))))).mono ?_
          rintro e w5 ⟨rfl, xw5⟩
          have Lw5 : Ext wc36 w5 := Ext.trans (by repeat (first | (with_reducible assumption) | (with_reducible refine Ext.setCell ?_ (by first | (simp; done) | (simp; omega) | omega) _) | (with_reducible apply Ext.alloc) | (with_reducible apply Ext.drew) | (with_reducible apply Ext.drewN) | (with_reducible exact Ext.refl _))) xw5
          have Xw5 : Ext w w5 := Xwc36.trans Lw5
          replace b20 := Lw5.cell b20
          replace b21 := Lw5.cell b21
          replace b22 := Lw5.cell b22
          replace b350 := Lw5.cell b350
          replace b351 := Lw5.cell b351
          replace b352 := Lw5.cell b352
          replace f_b350 := Lw5.frz z_b35 f_b350
          replace f_b351 := Lw5.frz z_b35 f_b351
          replace f_b352 := Lw5.frz z_b35 f_b352
          have z_b2 : w1.heap.size < w5.heap.size := World.block_lt_of_cell? _ _ b20
          have z_b35 : g37 < w5.heap.size := World.block_lt_of_cell? _ _ b350
          replace i1 := i1.ext Lw5
          replace i2 := i2.ext Lw5
          replace i39 := i39.ext Lw5
          replace i40 := i40.ext Lw5
          have s_w5 : w.heap.size ≤ w5.heap.size := Xw5.size
          clear xw5
          rw [(show rowB b PS PT = false from by have h7 := hB3.out; have h8 := hl9.out; rw [h8] at h7; exact h7)]
          go_wp2_with fail
          go_ret
          exact ⟨rfl, (Xw5.trans (by repeat (first | (with_reducible assumption) | (with_reducible refine Ext.setCell ?_ (by first | (simp; done) | (simp; omega) | omega) _) | (with_reducible apply Ext.alloc) | (with_reducible apply Ext.drew) | (with_reducible apply Ext.drewN) | (with_reducible exact Ext.refl _))))⟩
    · replace hB3 := Lib.hid hB3
      go_wp2_with fail
      refine (specIsCol_c b (.slice p1 s.length r1) (.slice p2 t.length r2) s t _ _ _ (i1.ext (by repeat (first | (with_reducible assumption) | (with_reducible refine Ext.setCell ?_ (by first | (simp; done) | (simp; omega) | omega) _) | (with_reducible apply Ext.alloc) | (with_reducible apply Ext.drew) | (with_reducible apply Ext.drewN) | (with_reducible exact Ext.refl _)))) (i2.ext (by repeat (first | (with_reducible assumption) | (with_reducible refine Ext.setCell ?_ (by first | (simp; done) | (simp; omega) | omega) _) | (with_reducible apply Ext.alloc) | (with_reducible apply Ext.drew) | (with_reducible apply Ext.drewN) | (with_reducible exact Ext.refl _))))).mono ?_
      rintro e w3 ⟨rfl, xw3⟩
      have Lw3 : Ext w2 w3 := Ext.trans (by repeat (first | (with_reducible assumption) | (with_reducible refine Ext.setCell ?_ (by first | (simp; done) | (simp; omega) | omega) _) | (with_reducible apply Ext.alloc) | (with_reducible apply Ext.drew) | (with_reducible apply Ext.drewN) | (with_reducible exact Ext.refl _))) xw3
      have Xw3 : Ext w w3 := Xw2.trans Lw3
      replace b20 := Lw3.cell b20
      replace b21 := Lw3.cell b21
      replace b22 := Lw3.cell b22
      have z_b2 : w1.heap.size < w3.heap.size := World.block_lt_of_cell? _ _ b20
      replace i1 := i1.ext Lw3
      replace i2 := i2.ext Lw3
      have s_w3 : w.heap.size ≤ w3.heap.size := Xw3.size
      clear xw3
      rw [hB3.out]
      go_wp2_with fail
      refine (implValidView_c b (.slice p1 s.length r1) (.slice p2 t.length r2) s t _ _ _ (i1.ext (by repeat (first | (with_reducible assumption) | (with_reducible refine Ext.setCell ?_ (by first | (simp; done) | (simp; omega) | omega) _) | (with_reducible apply Ext.alloc) | (with_reducible apply Ext.drew) | (with_reducible apply Ext.drewN) | (with_reducible exact Ext.refl _)))) (i2.ext (by repeat (first | (with_reducible assumption) | (with_reducible refine Ext.setCell ?_ (by first | (simp; done) | (simp; omega) | omega) _) | (with_reducible apply Ext.alloc) | (with_reducible apply Ext.drew) | (with_reducible apply Ext.drewN) | (with_reducible exact Ext.refl _))))).mono ?_
      rintro e w4 ⟨rfl, xw4⟩
      have Lw4 : Ext w3 w4 := Ext.trans (by repeat (first | (with_reducible assumption) | (with_reducible refine Ext.setCell ?_ (by first | (simp; done) | (simp; omega) | omega) _) | (with_reducible apply Ext.alloc) | (with_reducible apply Ext.drew) | (with_reducible apply Ext.drewN) | (with_reducible exact Ext.refl _))) xw4
      have Xw4 : Ext w w4 := Xw3.trans Lw4
      replace b20 := Lw4.cell b20
      replace b21 := Lw4.cell b21
      replace b22 := Lw4.cell b22
      have z_b2 : w1.heap.size < w4.heap.size := World.block_lt_of_cell? _ _ b20
      replace i1 := i1.ext Lw4
      replace i2 := i2.ext Lw4
      have s_w4 : w.heap.size ≤ w4.heap.size := Xw4.size
      clear xw4
      cases hB45 : viewB b s t
      · replace hB45 := Lib.hid hB45
        go_wp2_with fail
        refine (specIsCol_c b (.slice p1 s.length r1) (.slice p2 t.length r2) s t _ _ _ (i1.ext (by repeat (first | (with_reducible assumption) | (with_reducible refine Ext.setCell ?_ (by first | (simp; done) | (simp; omega) | omega) _) | (with_reducible apply Ext.alloc) | (with_reducible apply Ext.drew) | (with_reducible apply Ext.drewN) | (with_reducible exact Ext.refl _)))) (i2.ext (by repeat (first | (with_reducible assumption) | (with_reducible refine Ext.setCell ?_ (by first | (simp; done) | (simp; omega) | omega) _) | (with_reducible apply Ext.alloc) | (with_reducible apply Ext.drew) | (with_reducible apply Ext.drewN) | (with_reducible exact Ext.refl _))))).mono ?_
        rintro e w5 ⟨rfl, xw5⟩
        have Lw5 : Ext w4 w5 := Ext.trans (by repeat (first | (with_reducible assumption) | (with_reducible refine Ext.setCell ?_ (by first | (simp; done) | (simp; omega) | omega) _) | (with_reducible apply Ext.alloc) | (with_reducible apply Ext.drew) | (with_reducible apply Ext.drewN) | (with_reducible exact Ext.refl _))) xw5
        have Xw5 : Ext w w5 := Xw4.trans Lw5
        replace b20 := Lw5.cell b20
        replace b21 := Lw5.cell b21
        replace b22 := Lw5.cell b22
        have z_b2 : w1.heap.size < w5.heap.size := World.block_lt_of_cell? _ _ b20
        replace i1 := i1.ext Lw5
        replace i2 := i2.ext Lw5
        have s_w5 : w.heap.size ≤ w5.heap.size := Xw5.size
        clear xw5
        rw [hB3.out]
        go_wp2_with fail
        go_ret
        exact ⟨rfl, (Xw5.trans (by repeat (first | (with_reducible assumption) | (with_reducible refine Ext.setCell ?_ (by first | (simp; done) | (simp; omega) | omega) _) | (with_reducible apply Ext.alloc) | (with_reducible apply Ext.drew) | (with_reducible apply Ext.drewN) | (with_reducible exact Ext.refl _))))⟩
      · replace hB45 := Lib.hid hB45
        obtain ⟨hl1, hl9⟩ := icol_law hB45.out
        obtain ⟨R, hR⟩ : ∃ R, (upL s.length).reverse = R := ⟨_, rfl⟩
        obtain ⟨PS, hPS⟩ : ∃ x, s.reverse = x := ⟨_, rfl⟩
        obtain ⟨PT, hPT⟩ : ∃ x, t.reverse = x := ⟨_, rfl⟩
        rw [hR, hPS, hPT] at hl1
        rw [hPS, hPT] at hl9
        replace hl1 := Lib.hid hl1
        replace hR := Lib.hid hR
        replace hl9 := Lib.hid hl9
        clear hPS hPT
        go_wp2_with fail
        go_cut [5, 6] (fun s5 s6 wx => ∃ (g : Nat) (afv50u : Option Addr) (cfv50u : Nat) (afv50v : Option Addr) (cfv50v : Nat), s5 = .pointer (some ⟨g, 0, none⟩) ∧ s6 = .bool true ∧ Ext w4 wx ∧ w4.heap.size ≤ g ∧ wx.cell? ⟨g, 0, none⟩ = some (.int .i64 b) ∧ wx.cell? ⟨g, 1, none⟩ = some (.slice afv50u PS.length cfv50u) ∧ wx.cell? ⟨g, 2, none⟩ = some (.slice afv50v PT.length cfv50v) ∧ wx.frozen? ⟨g, 0, none⟩ = false ∧ wx.frozen? ⟨g, 1, none⟩ = false ∧ wx.frozen? ⟨g, 2, none⟩ = false ∧ Ints wx w4.heap.size (.slice afv50u PS.length cfv50u) PS ∧ Ints wx w4.heap.size (.slice afv50v PT.length cfv50v) PT)
        case first =>
          have BD7 : Ext w4 w4 := Ext.refl _
          refine wp_region_held_drew (S := fun w' => w'.cell? ⟨w1.heap.size, 0, none⟩ = some (.int .i64 b) ∧ w'.cell? ⟨w1.heap.size, 1, none⟩ = some (.slice p1 s.length r1) ∧ w'.cell? ⟨w1.heap.size, 2, none⟩ = some (.slice p2 t.length r2)) (by kernel_rfl) ⟨b20, b21, b22⟩ (fun hHeld => ?_)
          refine wpAnyH_take (i := 0) (v := ?_) rfl (by kernel_rfl) (by kernel_rfl) (by kernel_rfl) (fun _ _ _ h => h) (Or.inl ⟨by rfl, ?_⟩) (by assumption) ?_
          rotate_left
          · (intro w hSw; (try dsimp only at hSw); go_simp; try with_reducible rfl)
          try simp only [Act.put, List.setIfInBounds_toArray, List.set_cons_zero, List.set_cons_succ, List.getElem_toArray, List.getElem_cons_succ, List.getElem_cons_zero]
          refine wpAnyH_take (i := 1) (v := ?_) rfl (by kernel_rfl) (by kernel_rfl) (by kernel_rfl) (fun _ _ _ h => h) (Or.inl ⟨by rfl, ?_⟩) (by assumption) ?_
          rotate_left
          · (intro w hSw; (try dsimp only at hSw); go_simp; try with_reducible rfl)
          try simp only [Act.put, List.setIfInBounds_toArray, List.set_cons_zero, List.set_cons_succ, List.getElem_toArray, List.getElem_cons_succ, List.getElem_cons_zero]
          refine wpAnyH_take (i := 2) (v := ?_) rfl (by kernel_rfl) (by kernel_rfl) (by kernel_rfl) (fun _ _ _ h => h) (Or.inl ⟨by rfl, ?_⟩) (by assumption) ?_
          rotate_left
          · (intro w hSw; (try dsimp only at hSw); go_simp; try with_reducible rfl)
          try simp only [Act.put, List.setIfInBounds_toArray, List.set_cons_zero, List.set_cons_succ, List.getElem_toArray, List.getElem_cons_succ, List.getElem_cons_zero]
          refine wpAnyH_take (i := 3) (v := ?_) rfl (by kernel_rfl) (by kernel_rfl) (by kernel_rfl) (fun _ _ _ h => h) (Or.inl ⟨by rfl, ?_⟩) (by assumption) ?_
          rotate_left
          · (intro w hSw; (try dsimp only at hSw); go_simp; try with_reducible rfl)
          try simp only [Act.put, List.setIfInBounds_toArray, List.set_cons_zero, List.set_cons_succ, List.getElem_toArray, List.getElem_cons_succ, List.getElem_cons_zero]
          refine wpAnyH_ready (rs := [4, 10]) (by kernel_rfl) (by simp) ?_
          refine AllReadyH.cons rfl (fun K hK => ?_) (AllReadyH.cons rfl (fun K hK => ?_) AllReadyH.nil)
          · try simp only [Act.put, List.setIfInBounds_toArray, List.set_cons_zero, List.set_cons_succ, List.getElem_toArray, List.getElem_cons_succ, List.getElem_cons_zero]
            go_simp
            refine (lupTo_c s.length _ (by first | omega | exact (vw hB45.out).1 | exact (vw hB45.out).2.1 | exact (vw hB45.out).2.2.1 | exact (vw hB45.out).2.2.2)).mono ?_
            rintro e w5 ⟨fv46, rfl, i47, -, xw5⟩
            have Lw5 : Ext w4 w5 := Ext.trans (by repeat (first | (with_reducible assumption) | (with_reducible refine Ext.setCell ?_ (by first | (simp; done) | (simp; omega) | omega) _) | (with_reducible apply Ext.alloc) | (with_reducible apply Ext.drew) | (with_reducible apply Ext.drewN) | (with_reducible exact Ext.refl _))) xw5
            have Xw5 : Ext w w5 := Xw4.trans Lw5
            replace b20 := Lw5.cell b20
            replace b21 := Lw5.cell b21
            replace b22 := Lw5.cell b22
            have z_b2 : w1.heap.size < w5.heap.size := World.block_lt_of_cell? _ _ b20
            replace i1 := i1.ext Lw5
            replace i2 := i2.ext Lw5
            have s_w5 : w.heap.size ≤ w5.heap.size := Xw5.size
            have BD7_w5 : Ext w4 w5 := BD7.trans Lw5
            clear xw5
            try simp only [World.size_alloc, World.size_drew] at i47
            obtain ⟨afv46, cfv46, rfl⟩ := i47.form
            have zD_w5 := (BD7_w5).size
            refine hK.out _ _ ⟨b20, b21, b22⟩ (fun hHeld => ?_)
            clear hK K
            try simp only [Act.put, List.setIfInBounds_toArray, List.set_cons_zero, List.set_cons_succ, List.getElem_toArray, List.getElem_cons_succ, List.getElem_cons_zero]
            refine wpAnyH_ready (rs := [5, 10]) (by kernel_rfl) (by simp) ?_
            refine AllReadyH.cons rfl (fun K hK => ?_) (AllReadyH.cons rfl (fun K hK => ?_) AllReadyH.nil)
            · try simp only [Act.put, List.setIfInBounds_toArray, List.set_cons_zero, List.set_cons_succ, List.getElem_toArray, List.getElem_cons_succ, List.getElem_cons_zero]
              go_simp
              refine (pi_eq hR.out (back_c (upL s.length) (.slice afv46 ((upL s.length).length) cfv46) _ _ (i47.ext (by repeat (first | (with_reducible assumption) | (with_reducible refine Ext.setCell ?_ (by first | (simp; done) | (simp; omega) | omega) _) | (with_reducible apply Ext.alloc) | (with_reducible apply Ext.drew) | (with_reducible apply Ext.drewN) | (with_reducible exact Ext.refl _)))))).mono ?_
              rintro e w6 ⟨fv48, rfl, i49, -, xw6⟩
              have Lw6 : Ext w5 w6 := Ext.trans (by repeat (first | (with_reducible assumption) | (with_reducible refine Ext.setCell ?_ (by first | (simp; done) | (simp; omega) | omega) _) | (with_reducible apply Ext.alloc) | (with_reducible apply Ext.drew) | (with_reducible apply Ext.drewN) | (with_reducible exact Ext.refl _))) xw6
              have Xw6 : Ext w w6 := Xw5.trans Lw6
              replace b20 := Lw6.cell b20
              replace b21 := Lw6.cell b21
              replace b22 := Lw6.cell b22
              have z_b2 : w1.heap.size < w6.heap.size := World.block_lt_of_cell? _ _ b20
              replace i1 := i1.ext Lw6
              replace i2 := i2.ext Lw6
              replace i47 := i47.ext Lw6
              have s_w6 : w.heap.size ≤ w6.heap.size := Xw6.size
              have BD7_w6 : Ext w4 w6 := BD7_w5.trans Lw6
              clear xw6
              try simp only [World.size_alloc, World.size_drew] at i49
              obtain ⟨afv48, cfv48, rfl⟩ := i49.form
              have zD_w6 := (BD7_w6).size
              refine hK.out _ _ ⟨b20, b21, b22⟩ (fun hHeld => ?_)
              clear hK K
              try simp only [Act.put, List.setIfInBounds_toArray, List.set_cons_zero, List.set_cons_succ, List.getElem_toArray, List.getElem_cons_succ, List.getElem_cons_zero]
              refine wpAnyH_ready (rs := [6, 10]) (by kernel_rfl) (by simp) ?_
              refine AllReadyH.cons rfl (fun K hK => ?_) (AllReadyH.cons rfl (fun K hK => ?_) AllReadyH.nil)
              · try simp only [Act.put, List.setIfInBounds_toArray, List.set_cons_zero, List.set_cons_succ, List.getElem_toArray, List.getElem_cons_succ, List.getElem_cons_zero]
                go_simp
                refine (pv_eq hl1.out (implPermuteDims_c b (.slice p1 s.length r1) (.slice p2 t.length r2) s t (.slice afv48 R.length cfv48) R _ _ _ (i1.ext (by repeat (first | (with_reducible assumption) | (with_reducible refine Ext.setCell ?_ (by first | (simp; done) | (simp; omega) | omega) _) | (with_reducible apply Ext.alloc) | (with_reducible apply Ext.drew) | (with_reducible apply Ext.drewN) | (with_reducible exact Ext.refl _)))) (i2.ext (by repeat (first | (with_reducible assumption) | (with_reducible refine Ext.setCell ?_ (by first | (simp; done) | (simp; omega) | omega) _) | (with_reducible apply Ext.alloc) | (with_reducible apply Ext.drew) | (with_reducible apply Ext.drewN) | (with_reducible exact Ext.refl _)))) _ (i49.ext (by repeat (first | (with_reducible assumption) | (with_reducible refine Ext.setCell ?_ (by first | (simp; done) | (simp; omega) | omega) _) | (with_reducible apply Ext.alloc) | (with_reducible apply Ext.drew) | (with_reducible apply Ext.drewN) | (with_reducible exact Ext.refl _)))))).mono ?_
                rintro e w7 ⟨fv50u, fv50v, rfl, i51u, i51v, -, -, -, xw7⟩
                have Lw7 : Ext w6 w7 := Ext.trans (by repeat (first | (with_reducible assumption) | (with_reducible refine Ext.setCell ?_ (by first | (simp; done) | (simp; omega) | omega) _) | (with_reducible apply Ext.alloc) | (with_reducible apply Ext.drew) | (with_reducible apply Ext.drewN) | (with_reducible exact Ext.refl _))) xw7
                have Xw7 : Ext w w7 := Xw6.trans Lw7
                replace b20 := Lw7.cell b20
                replace b21 := Lw7.cell b21
                replace b22 := Lw7.cell b22
                have z_b2 : w1.heap.size < w7.heap.size := World.block_lt_of_cell? _ _ b20
                replace i1 := i1.ext Lw7
                replace i2 := i2.ext Lw7
                replace i47 := i47.ext Lw7
                replace i49 := i49.ext Lw7
                have s_w7 : w.heap.size ≤ w7.heap.size := Xw7.size
                have BD7_w7 : Ext w4 w7 := BD7_w6.trans Lw7
                clear xw7
                try simp only [World.size_alloc, World.size_drew] at i51u i51v
                obtain ⟨afv50u, cfv50u, rfl⟩ := i51u.form
                obtain ⟨afv50v, cfv50v, rfl⟩ := i51v.form
                have zD_w7 := (BD7_w7).size
                refine hK.out _ _ ⟨b20, b21, b22⟩ (fun hHeld => ?_)
                clear hK K
                try simp only [Act.put, List.setIfInBounds_toArray, List.set_cons_zero, List.set_cons_succ, List.getElem_toArray, List.getElem_cons_succ, List.getElem_cons_zero]
                refine wpAnyH_take (i := 7) (v := ?_) rfl (by kernel_rfl) (by kernel_rfl) (by kernel_rfl) (fun _ _ _ h => h) (Or.inl ⟨by rfl, ?_⟩) (by assumption) ?_
                rotate_left
                · (intro w hSw; (try dsimp only at hSw); go_simp; try with_reducible rfl)
                try simp only [Act.put, List.setIfInBounds_toArray, List.set_cons_zero, List.set_cons_succ, List.getElem_toArray, List.getElem_cons_succ, List.getElem_cons_zero]
                refine wpAnyH_take (i := 8) (v := ?_) rfl (by kernel_rfl) (by kernel_rfl) (by kernel_rfl) (fun _ _ _ h => h) (Or.inl ⟨by rfl, ?_⟩) (by assumption) ?_
                rotate_left
                · (intro w hSw; (try dsimp only at hSw); go_simp; try with_reducible rfl)
                try simp only [Act.put, List.setIfInBounds_toArray, List.set_cons_zero, List.set_cons_succ, List.getElem_toArray, List.getElem_cons_succ, List.getElem_cons_zero]
                refine wpAnyH_take (i := 9) (v := ?_) rfl (by kernel_rfl) (by kernel_rfl) (by kernel_rfl) (fun _ _ _ h => h) (Or.inl ⟨by rfl, ?_⟩) (by assumption) ?_
                rotate_left
                · (intro w hSw; (try dsimp only at hSw); go_simp; try with_reducible rfl)
                try simp only [Act.put, List.setIfInBounds_toArray, List.set_cons_zero, List.set_cons_succ, List.getElem_toArray, List.getElem_cons_succ, List.getElem_cons_zero]
                refine wpAnyH_ready (rs := [10]) (by kernel_rfl) (by simp) ?_
                refine AllReadyH.cons rfl (fun K hK => ?_) AllReadyH.nil
                try simp only [Act.put, List.setIfInBounds_toArray, List.set_cons_zero, List.set_cons_succ, List.getElem_toArray, List.getElem_cons_succ, List.getElem_cons_zero]
                go_simp
                have Q52_b20 := Lib.hid b20
                have Q52_b21 := Lib.hid b21
                have Q52_b22 := Lib.hid b22
                have Q52_zb2 := z_b2
                have Q52_i1 := Lib.hid i1
                have Q52_i2 := Lib.hid i2
                have Q52_i47 := Lib.hid i47
                have Q52_i49 := Lib.hid i49
                have Q52_i51u := Lib.hid i51u
                have Q52_i51v := Lib.hid i51v
                have BL53 : Ext w7 w7 := Ext.refl _
                refine hK.out _ _ ⟨(show Ext w7 _ from (by repeat (first | (with_reducible assumption) | (with_reducible refine Ext.setCell ?_ (by first | (simp; done) | (simp; omega) | omega) _) | (with_reducible apply Ext.alloc) | (with_reducible apply Ext.drew) | (with_reducible apply Ext.drewN) | (with_reducible exact Ext.refl _)))).cell b20, (show Ext w7 _ from (by repeat (first | (with_reducible assumption) | (with_reducible refine Ext.setCell ?_ (by first | (simp; done) | (simp; omega) | omega) _) | (with_reducible apply Ext.alloc) | (with_reducible apply Ext.drew) | (with_reducible apply Ext.drewN) | (with_reducible exact Ext.refl _)))).cell b21, (show Ext w7 _ from (by repeat (first | (with_reducible assumption) | (with_reducible refine Ext.setCell ?_ (by first | (simp; done) | (simp; omega) | omega) _) | (with_reducible apply Ext.alloc) | (with_reducible apply Ext.drew) | (with_reducible apply Ext.drewN) | (with_reducible exact Ext.refl _)))).cell b22⟩ (fun hHeld => ?_)
                clear hK K
                try simp only [Act.put, List.setIfInBounds_toArray, List.set_cons_zero, List.set_cons_succ, List.getElem_toArray, List.getElem_cons_succ, List.getElem_cons_zero]
                refine wpAnyH_ready (rs := [11]) (by kernel_rfl) (by simp) ?_
                refine AllReadyH.cons rfl (fun K hK => ?_) AllReadyH.nil
                try simp only [Act.put, List.setIfInBounds_toArray, List.set_cons_zero, List.set_cons_succ, List.getElem_toArray, List.getElem_cons_succ, List.getElem_cons_zero]
                go_simp
                have Lw8 : Ext w7 (w7.alloc (.cells #[.int .i64 b, .slice afv50u PS.length cfv50u, .slice afv50v PT.length cfv50v] 25)) := (by repeat (first | (with_reducible assumption) | (with_reducible refine Ext.setCell ?_ (by first | (simp; done) | (simp; omega) | omega) _) | (with_reducible apply Ext.alloc) | (with_reducible apply Ext.drew) | (with_reducible apply Ext.drewN) | (with_reducible exact Ext.refl _)))
                have Xw8 : Ext w (w7.alloc (.cells #[.int .i64 b, .slice afv50u PS.length cfv50u, .slice afv50v PT.length cfv50v] 25)) := Xw7.trans Lw8
                replace b20 := Lw8.cell b20
                replace b21 := Lw8.cell b21
                replace b22 := Lw8.cell b22
                have b540 : (w7.alloc (.cells #[.int .i64 b, .slice afv50u PS.length cfv50u, .slice afv50v PT.length cfv50v] 25)).cell? ⟨w7.heap.size, 0, none⟩ = some (.int .i64 b) := (by first | (simp; done) | ((repeat rw [World.cell?_alloc_lt _ _ _ (by simp <;> omega)]); simp; done) | (go_simp; done))
                have b541 : (w7.alloc (.cells #[.int .i64 b, .slice afv50u PS.length cfv50u, .slice afv50v PT.length cfv50v] 25)).cell? ⟨w7.heap.size, 1, none⟩ = some (.slice afv50u PS.length cfv50u) := (by first | (simp; done) | ((repeat rw [World.cell?_alloc_lt _ _ _ (by simp <;> omega)]); simp; done) | (go_simp; done))
                have b542 : (w7.alloc (.cells #[.int .i64 b, .slice afv50u PS.length cfv50u, .slice afv50v PT.length cfv50v] 25)).cell? ⟨w7.heap.size, 2, none⟩ = some (.slice afv50v PT.length cfv50v) := (by first | (simp; done) | ((repeat rw [World.cell?_alloc_lt _ _ _ (by simp <;> omega)]); simp; done) | (go_simp; done))
                have f_b540 : (w7.alloc (.cells #[.int .i64 b, .slice afv50u PS.length cfv50u, .slice afv50v PT.length cfv50v] 25)).frozen? ⟨w7.heap.size, 0, none⟩ = false := (by first | (simp; done) | (go_simp; done))
                have f_b541 : (w7.alloc (.cells #[.int .i64 b, .slice afv50u PS.length cfv50u, .slice afv50v PT.length cfv50v] 25)).frozen? ⟨w7.heap.size, 1, none⟩ = false := (by first | (simp; done) | (go_simp; done))
                have f_b542 : (w7.alloc (.cells #[.int .i64 b, .slice afv50u PS.length cfv50u, .slice afv50v PT.length cfv50v] 25)).frozen? ⟨w7.heap.size, 2, none⟩ = false := (by first | (simp; done) | (go_simp; done))
                have z_b2 : w1.heap.size < (w7.alloc (.cells #[.int .i64 b, .slice afv50u PS.length cfv50u, .slice afv50v PT.length cfv50v] 25)).heap.size := World.block_lt_of_cell? _ _ b20
                have z_b54 : w7.heap.size < (w7.alloc (.cells #[.int .i64 b, .slice afv50u PS.length cfv50u, .slice afv50v PT.length cfv50v] 25)).heap.size := World.block_lt_of_cell? _ _ b540
                replace i1 := i1.ext Lw8
                replace i2 := i2.ext Lw8
                replace i47 := i47.ext Lw8
                replace i49 := i49.ext Lw8
                replace i51u := i51u.ext Lw8
                replace i51v := i51v.ext Lw8
                have s_w8 : w.heap.size ≤ (w7.alloc (.cells #[.int .i64 b, .slice afv50u PS.length cfv50u, .slice afv50v PT.length cfv50v] 25)).heap.size := Xw8.size
                have BD7_w8 : Ext w4 (w7.alloc (.cells #[.int .i64 b, .slice afv50u PS.length cfv50u, .slice afv50v PT.length cfv50v] 25)) := BD7_w7.trans Lw8
                have BL53_w8 : Ext w7 (w7.alloc (.cells #[.int .i64 b, .slice afv50u PS.length cfv50u, .slice afv50v PT.length cfv50v] 25)) := BL53.trans Lw8
                generalize w7.alloc (.cells #[.int .i64 b, .slice afv50u PS.length cfv50u, .slice afv50v PT.length cfv50v] 25) = w8 at *
                refine hK.out _ _ ⟨b20, b21, b22⟩ (fun hHeld => ?_)
                clear hK K
                try simp only [Act.put, List.setIfInBounds_toArray, List.set_cons_zero, List.set_cons_succ, List.getElem_toArray, List.getElem_cons_succ, List.getElem_cons_zero]
                refine wpAnyH_take (i := 12) (v := ?_) rfl (by kernel_rfl) (by kernel_rfl) (by kernel_rfl) (fun _ _ _ h => h) (Or.inl ⟨by rfl, ?_⟩) (by assumption) ?_
                rotate_left
                · (intro w hSw; (try dsimp only at hSw); go_simp; try with_reducible rfl)
                try simp only [Act.put, List.setIfInBounds_toArray, List.set_cons_zero, List.set_cons_succ, List.getElem_toArray, List.getElem_cons_succ, List.getElem_cons_zero]
                refine wpAnyH_done (by kernel_rfl) ?_ _
                clear hHeld
                go_step
                go_step
                go_meet
                case rel => exact ⟨_, _, _, _, _, rfl, rfl, BD7_w8, (by omega), b540, b541, b542, f_b540, f_b541, f_b542, i51u.lower (by omega), i51v.lower (by omega)⟩
              · try simp only [Act.put, List.setIfInBounds_toArray, List.set_cons_zero, List.set_cons_succ, List.getElem_toArray, List.getElem_cons_succ, List.getElem_cons_zero]
                go_simp
                have Q55_b20 := Lib.hid b20
                have Q55_b21 := Lib.hid b21
                have Q55_b22 := Lib.hid b22
                have Q55_zb2 := z_b2
                have Q55_i1 := Lib.hid i1
                have Q55_i2 := Lib.hid i2
                have Q55_i47 := Lib.hid i47
                have Q55_i49 := Lib.hid i49
                have BL56 : Ext w6 w6 := Ext.refl _
                refine hK.out _ _ ⟨(show Ext w6 _ from (by repeat (first | (with_reducible assumption) | (with_reducible refine Ext.setCell ?_ (by first | (simp; done) | (simp; omega) | omega) _) | (with_reducible apply Ext.alloc) | (with_reducible apply Ext.drew) | (with_reducible apply Ext.drewN) | (with_reducible exact Ext.refl _)))).cell b20, (show Ext w6 _ from (by repeat (first | (with_reducible assumption) | (with_reducible refine Ext.setCell ?_ (by first | (simp; done) | (simp; omega) | omega) _) | (with_reducible apply Ext.alloc) | (with_reducible apply Ext.drew) | (with_reducible apply Ext.drewN) | (with_reducible exact Ext.refl _)))).cell b21, (show Ext w6 _ from (by repeat (first | (with_reducible assumption) | (with_reducible refine Ext.setCell ?_ (by first | (simp; done) | (simp; omega) | omega) _) | (with_reducible apply Ext.alloc) | (with_reducible apply Ext.drew) | (with_reducible apply Ext.drewN) | (with_reducible exact Ext.refl _)))).cell b22⟩ (fun hHeld => ?_)
                clear hK K
                try simp only [Act.put, List.setIfInBounds_toArray, List.set_cons_zero, List.set_cons_succ, List.getElem_toArray, List.getElem_cons_succ, List.getElem_cons_zero]
                refine wpAnyH_ready (rs := [6]) (by kernel_rfl) (by simp) ?_
                refine AllReadyH.cons rfl (fun K hK => ?_) AllReadyH.nil
                try simp only [Act.put, List.setIfInBounds_toArray, List.set_cons_zero, List.set_cons_succ, List.getElem_toArray, List.getElem_cons_succ, List.getElem_cons_zero]
                go_simp
                refine (pv_eq hl1.out (implPermuteDims_c b (.slice p1 s.length r1) (.slice p2 t.length r2) s t (.slice afv48 R.length cfv48) R _ _ _ (i1.ext (by repeat (first | (with_reducible assumption) | (with_reducible refine Ext.setCell ?_ (by first | (simp; done) | (simp; omega) | omega) _) | (with_reducible apply Ext.alloc) | (with_reducible apply Ext.drew) | (with_reducible apply Ext.drewN) | (with_reducible exact Ext.refl _)))) (i2.ext (by repeat (first | (with_reducible assumption) | (with_reducible refine Ext.setCell ?_ (by first | (simp; done) | (simp; omega) | omega) _) | (with_reducible apply Ext.alloc) | (with_reducible apply Ext.drew) | (with_reducible apply Ext.drewN) | (with_reducible exact Ext.refl _)))) _ (i49.ext (by repeat (first | (with_reducible assumption) | (with_reducible refine Ext.setCell ?_ (by first | (simp; done) | (simp; omega) | omega) _) | (with_reducible apply Ext.alloc) | (with_reducible apply Ext.drew) | (with_reducible apply Ext.drewN) | (with_reducible exact Ext.refl _)))))).mono ?_
                rintro e w7 ⟨fv58u, fv58v, rfl, i59u, i59v, -, -, -, xw7⟩
                have Lw7 : Ext w6 w7 := Ext.trans (by repeat (first | (with_reducible assumption) | (with_reducible refine Ext.setCell ?_ (by first | (simp; done) | (simp; omega) | omega) _) | (with_reducible apply Ext.alloc) | (with_reducible apply Ext.drew) | (with_reducible apply Ext.drewN) | (with_reducible exact Ext.refl _))) xw7
                have Xw7 : Ext w w7 := Xw6.trans Lw7
                replace b20 := Lw7.cell b20
                replace b21 := Lw7.cell b21
                replace b22 := Lw7.cell b22
                have b570 : w7.cell? ⟨w6.heap.size, 0, none⟩ = some (.int .i64 0) := xw7.cell (by first | (simp; done) | ((repeat rw [World.cell?_alloc_lt _ _ _ (by simp <;> omega)]); simp; done) | (go_simp; done))
                have b571 : w7.cell? ⟨w6.heap.size, 1, none⟩ = some (.slice none 0 0) := xw7.cell (by first | (simp; done) | ((repeat rw [World.cell?_alloc_lt _ _ _ (by simp <;> omega)]); simp; done) | (go_simp; done))
                have b572 : w7.cell? ⟨w6.heap.size, 2, none⟩ = some (.slice none 0 0) := xw7.cell (by first | (simp; done) | ((repeat rw [World.cell?_alloc_lt _ _ _ (by simp <;> omega)]); simp; done) | (go_simp; done))
                have f_b570 : w7.frozen? ⟨w6.heap.size, 0, none⟩ = false := xw7.frz (by simp <;> omega) (by first | (simp; done) | (go_simp; done))
                have f_b571 : w7.frozen? ⟨w6.heap.size, 1, none⟩ = false := xw7.frz (by simp <;> omega) (by first | (simp; done) | (go_simp; done))
                have f_b572 : w7.frozen? ⟨w6.heap.size, 2, none⟩ = false := xw7.frz (by simp <;> omega) (by first | (simp; done) | (go_simp; done))
                have z_b2 : w1.heap.size < w7.heap.size := World.block_lt_of_cell? _ _ b20
                have z_b57 : w6.heap.size < w7.heap.size := World.block_lt_of_cell? _ _ b570
                replace i1 := i1.ext Lw7
                replace i2 := i2.ext Lw7
                replace i47 := i47.ext Lw7
                replace i49 := i49.ext Lw7
                have s_w7 : w.heap.size ≤ w7.heap.size := Xw7.size
                have BD7_w7 : Ext w4 w7 := BD7_w6.trans Lw7
                have BL56_w7 : Ext w6 w7 := BL56.trans Lw7
                clear xw7
                try simp only [World.size_alloc, World.size_drew] at i59u i59v
                obtain ⟨afv58u, cfv58u, rfl⟩ := i59u.form
                obtain ⟨afv58v, cfv58v, rfl⟩ := i59v.form
                have zD_w7 := (BD7_w7).size
                refine hK.out _ _ ⟨b20, b21, b22⟩ (fun hHeld => ?_)
                clear hK K
                try simp only [Act.put, List.setIfInBounds_toArray, List.set_cons_zero, List.set_cons_succ, List.getElem_toArray, List.getElem_cons_succ, List.getElem_cons_zero]
                refine wpAnyH_take (i := 7) (v := ?_) rfl (by kernel_rfl) (by kernel_rfl) (by kernel_rfl) (fun _ _ _ h => h) (Or.inl ⟨by rfl, ?_⟩) (by assumption) ?_
                rotate_left
                · (intro w hSw; (try dsimp only at hSw); go_simp; try with_reducible rfl)
                try simp only [Act.put, List.setIfInBounds_toArray, List.set_cons_zero, List.set_cons_succ, List.getElem_toArray, List.getElem_cons_succ, List.getElem_cons_zero]
                refine wpAnyH_take (i := 8) (v := ?_) rfl (by kernel_rfl) (by kernel_rfl) (by kernel_rfl) (fun _ _ _ h => h) (Or.inl ⟨by rfl, ?_⟩) (by assumption) ?_
                rotate_left
                · (intro w hSw; (try dsimp only at hSw); go_simp; try with_reducible rfl)
                try simp only [Act.put, List.setIfInBounds_toArray, List.set_cons_zero, List.set_cons_succ, List.getElem_toArray, List.getElem_cons_succ, List.getElem_cons_zero]
                refine wpAnyH_take (i := 9) (v := ?_) rfl (by kernel_rfl) (by kernel_rfl) (by kernel_rfl) (fun _ _ _ h => h) (Or.inl ⟨by rfl, ?_⟩) (by assumption) ?_
                rotate_left
                · (intro w hSw; (try dsimp only at hSw); go_simp; try with_reducible rfl)
                try simp only [Act.put, List.setIfInBounds_toArray, List.set_cons_zero, List.set_cons_succ, List.getElem_toArray, List.getElem_cons_succ, List.getElem_cons_zero]
                refine wpAnyH_ready (rs := [11]) (by kernel_rfl) (by simp) ?_
                refine AllReadyH.cons rfl (fun K hK => ?_) AllReadyH.nil
                try simp only [Act.put, List.setIfInBounds_toArray, List.set_cons_zero, List.set_cons_succ, List.getElem_toArray, List.getElem_cons_succ, List.getElem_cons_zero]
                go_simp
                have Kw8 : Chg (w6.heap.size) (w6.heap.size + 1) w7 (((w7.setCell ⟨w6.heap.size, 0, none⟩ (.int .i64 b)).setCell ⟨w6.heap.size, 1, none⟩ (.slice afv58u PS.length cfv58u)).setCell ⟨w6.heap.size, 2, none⟩ (.slice afv58v PT.length cfv58v)) := (Chg.setCell (p := ⟨w6.heap.size, 2, none⟩) (Chg.setCell (p := ⟨w6.heap.size, 1, none⟩) (Chg.setCell (p := ⟨w6.heap.size, 0, none⟩) (Chg.refl (w6.heap.size) (w6.heap.size + 1) _) (Nat.le_refl _) (Nat.lt_succ_self _) (.int .i64 b)) (Nat.le_refl _) (Nat.lt_succ_self _) (.slice afv58u PS.length cfv58u)) (Nat.le_refl _) (Nat.lt_succ_self _) (.slice afv58v PT.length cfv58v))
                have Xw8 : Ext w (((w7.setCell ⟨w6.heap.size, 0, none⟩ (.int .i64 b)).setCell ⟨w6.heap.size, 1, none⟩ (.slice afv58u PS.length cfv58u)).setCell ⟨w6.heap.size, 2, none⟩ (.slice afv58v PT.length cfv58v)) := (Ext.setCell (p := ⟨w6.heap.size, 2, none⟩) (Ext.setCell (p := ⟨w6.heap.size, 1, none⟩) (Ext.setCell (p := ⟨w6.heap.size, 0, none⟩) Xw7 (by first | (simp; done) | (simp; omega) | omega) (.int .i64 b)) (by first | (simp; done) | (simp; omega) | omega) (.slice afv58u PS.length cfv58u)) (by first | (simp; done) | (simp; omega) | omega) (.slice afv58v PT.length cfv58v))
                have BD7_w8 : Ext w4 (((w7.setCell ⟨w6.heap.size, 0, none⟩ (.int .i64 b)).setCell ⟨w6.heap.size, 1, none⟩ (.slice afv58u PS.length cfv58u)).setCell ⟨w6.heap.size, 2, none⟩ (.slice afv58v PT.length cfv58v)) := (Ext.setCell (p := ⟨w6.heap.size, 2, none⟩) (Ext.setCell (p := ⟨w6.heap.size, 1, none⟩) (Ext.setCell (p := ⟨w6.heap.size, 0, none⟩) BD7_w7 (by first | (simp; done) | (simp; omega) | omega) (.int .i64 b)) (by first | (simp; done) | (simp; omega) | omega) (.slice afv58u PS.length cfv58u)) (by first | (simp; done) | (simp; omega) | omega) (.slice afv58v PT.length cfv58v))
                have BL56_w8 : Ext w6 (((w7.setCell ⟨w6.heap.size, 0, none⟩ (.int .i64 b)).setCell ⟨w6.heap.size, 1, none⟩ (.slice afv58u PS.length cfv58u)).setCell ⟨w6.heap.size, 2, none⟩ (.slice afv58v PT.length cfv58v)) := (Ext.setCell (p := ⟨w6.heap.size, 2, none⟩) (Ext.setCell (p := ⟨w6.heap.size, 1, none⟩) (Ext.setCell (p := ⟨w6.heap.size, 0, none⟩) BL56_w7 (by first | (simp; done) | (simp; omega) | omega) (.int .i64 b)) (by first | (simp; done) | (simp; omega) | omega) (.slice afv58u PS.length cfv58u)) (by first | (simp; done) | (simp; omega) | omega) (.slice afv58v PT.length cfv58v))
                replace b20 := BL56_w8.cell Q55_b20.out
                replace b21 := BL56_w8.cell Q55_b21.out
                replace b22 := BL56_w8.cell Q55_b22.out
                have n_b570 : (((w7.setCell ⟨w6.heap.size, 0, none⟩ (.int .i64 b)).setCell ⟨w6.heap.size, 1, none⟩ (.slice afv58u PS.length cfv58u)).setCell ⟨w6.heap.size, 2, none⟩ (.slice afv58v PT.length cfv58v)).cell? ⟨w6.heap.size, 0, none⟩ = some (.int .i64 b) := by go_simp
                have n_f_b570 : (((w7.setCell ⟨w6.heap.size, 0, none⟩ (.int .i64 b)).setCell ⟨w6.heap.size, 1, none⟩ (.slice afv58u PS.length cfv58u)).setCell ⟨w6.heap.size, 2, none⟩ (.slice afv58v PT.length cfv58v)).frozen? ⟨w6.heap.size, 0, none⟩ = false := by go_simp
                have n_b571 : (((w7.setCell ⟨w6.heap.size, 0, none⟩ (.int .i64 b)).setCell ⟨w6.heap.size, 1, none⟩ (.slice afv58u PS.length cfv58u)).setCell ⟨w6.heap.size, 2, none⟩ (.slice afv58v PT.length cfv58v)).cell? ⟨w6.heap.size, 1, none⟩ = some (.slice afv58u PS.length cfv58u) := by go_simp
                have n_f_b571 : (((w7.setCell ⟨w6.heap.size, 0, none⟩ (.int .i64 b)).setCell ⟨w6.heap.size, 1, none⟩ (.slice afv58u PS.length cfv58u)).setCell ⟨w6.heap.size, 2, none⟩ (.slice afv58v PT.length cfv58v)).frozen? ⟨w6.heap.size, 1, none⟩ = false := by go_simp
                have n_b572 : (((w7.setCell ⟨w6.heap.size, 0, none⟩ (.int .i64 b)).setCell ⟨w6.heap.size, 1, none⟩ (.slice afv58u PS.length cfv58u)).setCell ⟨w6.heap.size, 2, none⟩ (.slice afv58v PT.length cfv58v)).cell? ⟨w6.heap.size, 2, none⟩ = some (.slice afv58v PT.length cfv58v) := by go_simp
                have n_f_b572 : (((w7.setCell ⟨w6.heap.size, 0, none⟩ (.int .i64 b)).setCell ⟨w6.heap.size, 1, none⟩ (.slice afv58u PS.length cfv58u)).setCell ⟨w6.heap.size, 2, none⟩ (.slice afv58v PT.length cfv58v)).frozen? ⟨w6.heap.size, 2, none⟩ = false := by go_simp
                replace b570 := n_b570
                clear n_b570
                replace f_b570 := n_f_b570
                clear n_f_b570
                replace b571 := n_b571
                clear n_b571
                replace f_b571 := n_f_b571
                clear n_f_b571
                replace b572 := n_b572
                clear n_b572
                replace f_b572 := n_f_b572
                clear n_f_b572
                replace i1 := (Q55_i1.out).ext BL56_w8
                replace i2 := (Q55_i2.out).ext BL56_w8
                replace i47 := (Q55_i47.out).ext BL56_w8
                replace i49 := (Q55_i49.out).ext BL56_w8
                replace i59u := i59u.chg Kw8 (by omega)
                replace i59v := i59v.chg Kw8 (by omega)
                clear Kw8
                have z_b2 : w1.heap.size < (((w7.setCell ⟨w6.heap.size, 0, none⟩ (.int .i64 b)).setCell ⟨w6.heap.size, 1, none⟩ (.slice afv58u PS.length cfv58u)).setCell ⟨w6.heap.size, 2, none⟩ (.slice afv58v PT.length cfv58v)).heap.size := World.block_lt_of_cell? _ _ b20
                have z_b57 : w6.heap.size < (((w7.setCell ⟨w6.heap.size, 0, none⟩ (.int .i64 b)).setCell ⟨w6.heap.size, 1, none⟩ (.slice afv58u PS.length cfv58u)).setCell ⟨w6.heap.size, 2, none⟩ (.slice afv58v PT.length cfv58v)).heap.size := World.block_lt_of_cell? _ _ b570
                have s_w8 : w.heap.size ≤ (((w7.setCell ⟨w6.heap.size, 0, none⟩ (.int .i64 b)).setCell ⟨w6.heap.size, 1, none⟩ (.slice afv58u PS.length cfv58u)).setCell ⟨w6.heap.size, 2, none⟩ (.slice afv58v PT.length cfv58v)).heap.size := Xw8.size
                generalize (((w7.setCell ⟨w6.heap.size, 0, none⟩ (.int .i64 b)).setCell ⟨w6.heap.size, 1, none⟩ (.slice afv58u PS.length cfv58u)).setCell ⟨w6.heap.size, 2, none⟩ (.slice afv58v PT.length cfv58v)) = w8 at *
                refine hK.out _ _ ⟨b20, b21, b22⟩ (fun hHeld => ?_)
                clear hK K
                try simp only [Act.put, List.setIfInBounds_toArray, List.set_cons_zero, List.set_cons_succ, List.getElem_toArray, List.getElem_cons_succ, List.getElem_cons_zero]
                refine wpAnyH_take (i := 12) (v := ?_) rfl (by kernel_rfl) (by kernel_rfl) (by kernel_rfl) (fun _ _ _ h => h) (Or.inl ⟨by rfl, ?_⟩) (by assumption) ?_
                rotate_left
                · (intro w hSw; (try dsimp only at hSw); go_simp; try with_reducible rfl)
                try simp only [Act.put, List.setIfInBounds_toArray, List.set_cons_zero, List.set_cons_succ, List.getElem_toArray, List.getElem_cons_succ, List.getElem_cons_zero]
                refine wpAnyH_done (by kernel_rfl) ?_ _
                clear hHeld
                go_step
                go_step
                go_meet
                case rel => exact ⟨_, _, _, _, _, rfl, rfl, BD7_w8, (by omega), b570, b571, b572, f_b570, f_b571, f_b572, i59u.lower (by omega), i59v.lower (by omega)⟩
            · try simp only [Act.put, List.setIfInBounds_toArray, List.set_cons_zero, List.set_cons_succ, List.getElem_toArray, List.getElem_cons_succ, List.getElem_cons_zero]
              go_simp
              have Q60_b20 := Lib.hid b20
              have Q60_b21 := Lib.hid b21
              have Q60_b22 := Lib.hid b22
              have Q60_zb2 := z_b2
              have Q60_i1 := Lib.hid i1
              have Q60_i2 := Lib.hid i2
              have Q60_i47 := Lib.hid i47
              have BL61 : Ext w5 w5 := Ext.refl _
              refine hK.out _ _ ⟨(show Ext w5 _ from (by repeat (first | (with_reducible assumption) | (with_reducible refine Ext.setCell ?_ (by first | (simp; done) | (simp; omega) | omega) _) | (with_reducible apply Ext.alloc) | (with_reducible apply Ext.drew) | (with_reducible apply Ext.drewN) | (with_reducible exact Ext.refl _)))).cell b20, (show Ext w5 _ from (by repeat (first | (with_reducible assumption) | (with_reducible refine Ext.setCell ?_ (by first | (simp; done) | (simp; omega) | omega) _) | (with_reducible apply Ext.alloc) | (with_reducible apply Ext.drew) | (with_reducible apply Ext.drewN) | (with_reducible exact Ext.refl _)))).cell b21, (show Ext w5 _ from (by repeat (first | (with_reducible assumption) | (with_reducible refine Ext.setCell ?_ (by first | (simp; done) | (simp; omega) | omega) _) | (with_reducible apply Ext.alloc) | (with_reducible apply Ext.drew) | (with_reducible apply Ext.drewN) | (with_reducible exact Ext.refl _)))).cell b22⟩ (fun hHeld => ?_)
              clear hK K
              try simp only [Act.put, List.setIfInBounds_toArray, List.set_cons_zero, List.set_cons_succ, List.getElem_toArray, List.getElem_cons_succ, List.getElem_cons_zero]
              refine wpAnyH_ready (rs := [5]) (by kernel_rfl) (by simp) ?_
              refine AllReadyH.cons rfl (fun K hK => ?_) AllReadyH.nil
              try simp only [Act.put, List.setIfInBounds_toArray, List.set_cons_zero, List.set_cons_succ, List.getElem_toArray, List.getElem_cons_succ, List.getElem_cons_zero]
              go_simp
              refine (pi_eq hR.out (back_c (upL s.length) (.slice afv46 ((upL s.length).length) cfv46) _ _ (i47.ext (by repeat (first | (with_reducible assumption) | (with_reducible refine Ext.setCell ?_ (by first | (simp; done) | (simp; omega) | omega) _) | (with_reducible apply Ext.alloc) | (with_reducible apply Ext.drew) | (with_reducible apply Ext.drewN) | (with_reducible exact Ext.refl _)))))).mono ?_
              rintro e w6 ⟨fv63, rfl, i64, -, xw6⟩
              have Lw6 : Ext w5 w6 := Ext.trans (by repeat (first | (with_reducible assumption) | (with_reducible refine Ext.setCell ?_ (by first | (simp; done) | (simp; omega) | omega) _) | (with_reducible apply Ext.alloc) | (with_reducible apply Ext.drew) | (with_reducible apply Ext.drewN) | (with_reducible exact Ext.refl _))) xw6
              have Xw6 : Ext w w6 := Xw5.trans Lw6
              replace b20 := Lw6.cell b20
              replace b21 := Lw6.cell b21
              replace b22 := Lw6.cell b22
              have b620 : w6.cell? ⟨w5.heap.size, 0, none⟩ = some (.int .i64 0) := xw6.cell (by first | (simp; done) | ((repeat rw [World.cell?_alloc_lt _ _ _ (by simp <;> omega)]); simp; done) | (go_simp; done))
              have b621 : w6.cell? ⟨w5.heap.size, 1, none⟩ = some (.slice none 0 0) := xw6.cell (by first | (simp; done) | ((repeat rw [World.cell?_alloc_lt _ _ _ (by simp <;> omega)]); simp; done) | (go_simp; done))
              have b622 : w6.cell? ⟨w5.heap.size, 2, none⟩ = some (.slice none 0 0) := xw6.cell (by first | (simp; done) | ((repeat rw [World.cell?_alloc_lt _ _ _ (by simp <;> omega)]); simp; done) | (go_simp; done))
              have f_b620 : w6.frozen? ⟨w5.heap.size, 0, none⟩ = false := xw6.frz (by simp <;> omega) (by first | (simp; done) | (go_simp; done))
              have f_b621 : w6.frozen? ⟨w5.heap.size, 1, none⟩ = false := xw6.frz (by simp <;> omega) (by first | (simp; done) | (go_simp; done))
              have f_b622 : w6.frozen? ⟨w5.heap.size, 2, none⟩ = false := xw6.frz (by simp <;> omega) (by first | (simp; done) | (go_simp; done))
              have z_b2 : w1.heap.size < w6.heap.size := World.block_lt_of_cell? _ _ b20
              have z_b62 : w5.heap.size < w6.heap.size := World.block_lt_of_cell? _ _ b620
              replace i1 := i1.ext Lw6
              replace i2 := i2.ext Lw6
              replace i47 := i47.ext Lw6
              have s_w6 : w.heap.size ≤ w6.heap.size := Xw6.size
              have BD7_w6 : Ext w4 w6 := BD7_w5.trans Lw6
              have BL61_w6 : Ext w5 w6 := BL61.trans Lw6
              clear xw6
              try simp only [World.size_alloc, World.size_drew] at i64
              obtain ⟨afv63, cfv63, rfl⟩ := i64.form
              have zD_w6 := (BD7_w6).size
              refine hK.out _ _ ⟨b20, b21, b22⟩ (fun hHeld => ?_)
              clear hK K
              try simp only [Act.put, List.setIfInBounds_toArray, List.set_cons_zero, List.set_cons_succ, List.getElem_toArray, List.getElem_cons_succ, List.getElem_cons_zero]
              refine wpAnyH_ready (rs := [6]) (by kernel_rfl) (by simp) ?_
              refine AllReadyH.cons rfl (fun K hK => ?_) AllReadyH.nil
              try simp only [Act.put, List.setIfInBounds_toArray, List.set_cons_zero, List.set_cons_succ, List.getElem_toArray, List.getElem_cons_succ, List.getElem_cons_zero]
              go_simp
              refine (pv_eq hl1.out (implPermuteDims_c b (.slice p1 s.length r1) (.slice p2 t.length r2) s t (.slice afv63 R.length cfv63) R _ _ _ (i1.ext (by repeat (first | (with_reducible assumption) | (with_reducible refine Ext.setCell ?_ (by first | (simp; done) | (simp; omega) | omega) _) | (with_reducible apply Ext.alloc) | (with_reducible apply Ext.drew) | (with_reducible apply Ext.drewN) | (with_reducible exact Ext.refl _)))) (i2.ext (by repeat (first | (with_reducible assumption) | (with_reducible refine Ext.setCell ?_ (by first | (simp; done) | (simp; omega) | omega) _) | (with_reducible apply Ext.alloc) | (with_reducible apply Ext.drew) | (with_reducible apply Ext.drewN) | (with_reducible exact Ext.refl _)))) _ (i64.ext (by repeat (first | (with_reducible assumption) | (with_reducible refine Ext.setCell ?_ (by first | (simp; done) | (simp; omega) | omega) _) | (with_reducible apply Ext.alloc) | (with_reducible apply Ext.drew) | (with_reducible apply Ext.drewN) | (with_reducible exact Ext.refl _)))))).mono ?_
              rintro e w7 ⟨fv65u, fv65v, rfl, i66u, i66v, -, -, -, xw7⟩
              have Lw7 : Ext w6 w7 := Ext.trans (by repeat (first | (with_reducible assumption) | (with_reducible refine Ext.setCell ?_ (by first | (simp; done) | (simp; omega) | omega) _) | (with_reducible apply Ext.alloc) | (with_reducible apply Ext.drew) | (with_reducible apply Ext.drewN) | (with_reducible exact Ext.refl _))) xw7
              have Xw7 : Ext w w7 := Xw6.trans Lw7
              replace b20 := Lw7.cell b20
              replace b21 := Lw7.cell b21
              replace b22 := Lw7.cell b22
              replace b620 := Lw7.cell b620
              replace b621 := Lw7.cell b621
              replace b622 := Lw7.cell b622
              replace f_b620 := Lw7.frz z_b62 f_b620
              replace f_b621 := Lw7.frz z_b62 f_b621
              replace f_b622 := Lw7.frz z_b62 f_b622
              have z_b2 : w1.heap.size < w7.heap.size := World.block_lt_of_cell? _ _ b20
              have z_b62 : w5.heap.size < w7.heap.size := World.block_lt_of_cell? _ _ b620
              replace i1 := i1.ext Lw7
              replace i2 := i2.ext Lw7
              replace i47 := i47.ext Lw7
              replace i64 := i64.ext Lw7
              have s_w7 : w.heap.size ≤ w7.heap.size := Xw7.size
              have BD7_w7 : Ext w4 w7 := BD7_w6.trans Lw7
              have BL61_w7 : Ext w5 w7 := BL61_w6.trans Lw7
              clear xw7
              try simp only [World.size_alloc, World.size_drew] at i66u i66v
              obtain ⟨afv65u, cfv65u, rfl⟩ := i66u.form
              obtain ⟨afv65v, cfv65v, rfl⟩ := i66v.form
              have zD_w7 := (BD7_w7).size
              refine hK.out _ _ ⟨b20, b21, b22⟩ (fun hHeld => ?_)
              clear hK K
              try simp only [Act.put, List.setIfInBounds_toArray, List.set_cons_zero, List.set_cons_succ, List.getElem_toArray, List.getElem_cons_succ, List.getElem_cons_zero]
              refine wpAnyH_take (i := 7) (v := ?_) rfl (by kernel_rfl) (by kernel_rfl) (by kernel_rfl) (fun _ _ _ h => h) (Or.inl ⟨by rfl, ?_⟩) (by assumption) ?_
              rotate_left
              · (intro w hSw; (try dsimp only at hSw); go_simp; try with_reducible rfl)
              try simp only [Act.put, List.setIfInBounds_toArray, List.set_cons_zero, List.set_cons_succ, List.getElem_toArray, List.getElem_cons_succ, List.getElem_cons_zero]
              refine wpAnyH_take (i := 8) (v := ?_) rfl (by kernel_rfl) (by kernel_rfl) (by kernel_rfl) (fun _ _ _ h => h) (Or.inl ⟨by rfl, ?_⟩) (by assumption) ?_
              rotate_left
              · (intro w hSw; (try dsimp only at hSw); go_simp; try with_reducible rfl)
              try simp only [Act.put, List.setIfInBounds_toArray, List.set_cons_zero, List.set_cons_succ, List.getElem_toArray, List.getElem_cons_succ, List.getElem_cons_zero]
              refine wpAnyH_take (i := 9) (v := ?_) rfl (by kernel_rfl) (by kernel_rfl) (by kernel_rfl) (fun _ _ _ h => h) (Or.inl ⟨by rfl, ?_⟩) (by assumption) ?_
              rotate_left
              · (intro w hSw; (try dsimp only at hSw); go_simp; try with_reducible rfl)
              try simp only [Act.put, List.setIfInBounds_toArray, List.set_cons_zero, List.set_cons_succ, List.getElem_toArray, List.getElem_cons_succ, List.getElem_cons_zero]
              refine wpAnyH_ready (rs := [11]) (by kernel_rfl) (by simp) ?_
              refine AllReadyH.cons rfl (fun K hK => ?_) AllReadyH.nil
              try simp only [Act.put, List.setIfInBounds_toArray, List.set_cons_zero, List.set_cons_succ, List.getElem_toArray, List.getElem_cons_succ, List.getElem_cons_zero]
              go_simp
              have Kw8 : Chg (w5.heap.size) (w5.heap.size + 1) w7 (((w7.setCell ⟨w5.heap.size, 0, none⟩ (.int .i64 b)).setCell ⟨w5.heap.size, 1, none⟩ (.slice afv65u PS.length cfv65u)).setCell ⟨w5.heap.size, 2, none⟩ (.slice afv65v PT.length cfv65v)) := (Chg.setCell (p := ⟨w5.heap.size, 2, none⟩) (Chg.setCell (p := ⟨w5.heap.size, 1, none⟩) (Chg.setCell (p := ⟨w5.heap.size, 0, none⟩) (Chg.refl (w5.heap.size) (w5.heap.size + 1) _) (Nat.le_refl _) (Nat.lt_succ_self _) (.int .i64 b)) (Nat.le_refl _) (Nat.lt_succ_self _) (.slice afv65u PS.length cfv65u)) (Nat.le_refl _) (Nat.lt_succ_self _) (.slice afv65v PT.length cfv65v))
              have Xw8 : Ext w (((w7.setCell ⟨w5.heap.size, 0, none⟩ (.int .i64 b)).setCell ⟨w5.heap.size, 1, none⟩ (.slice afv65u PS.length cfv65u)).setCell ⟨w5.heap.size, 2, none⟩ (.slice afv65v PT.length cfv65v)) := (Ext.setCell (p := ⟨w5.heap.size, 2, none⟩) (Ext.setCell (p := ⟨w5.heap.size, 1, none⟩) (Ext.setCell (p := ⟨w5.heap.size, 0, none⟩) Xw7 (by first | (simp; done) | (simp; omega) | omega) (.int .i64 b)) (by first | (simp; done) | (simp; omega) | omega) (.slice afv65u PS.length cfv65u)) (by first | (simp; done) | (simp; omega) | omega) (.slice afv65v PT.length cfv65v))
              have BD7_w8 : Ext w4 (((w7.setCell ⟨w5.heap.size, 0, none⟩ (.int .i64 b)).setCell ⟨w5.heap.size, 1, none⟩ (.slice afv65u PS.length cfv65u)).setCell ⟨w5.heap.size, 2, none⟩ (.slice afv65v PT.length cfv65v)) := (Ext.setCell (p := ⟨w5.heap.size, 2, none⟩) (Ext.setCell (p := ⟨w5.heap.size, 1, none⟩) (Ext.setCell (p := ⟨w5.heap.size, 0, none⟩) BD7_w7 (by first | (simp; done) | (simp; omega) | omega) (.int .i64 b)) (by first | (simp; done) | (simp; omega) | omega) (.slice afv65u PS.length cfv65u)) (by first | (simp; done) | (simp; omega) | omega) (.slice afv65v PT.length cfv65v))
              have BL61_w8 : Ext w5 (((w7.setCell ⟨w5.heap.size, 0, none⟩ (.int .i64 b)).setCell ⟨w5.heap.size, 1, none⟩ (.slice afv65u PS.length cfv65u)).setCell ⟨w5.heap.size, 2, none⟩ (.slice afv65v PT.length cfv65v)) := (Ext.setCell (p := ⟨w5.heap.size, 2, none⟩) (Ext.setCell (p := ⟨w5.heap.size, 1, none⟩) (Ext.setCell (p := ⟨w5.heap.size, 0, none⟩) BL61_w7 (by first | (simp; done) | (simp; omega) | omega) (.int .i64 b)) (by first | (simp; done) | (simp; omega) | omega) (.slice afv65u PS.length cfv65u)) (by first | (simp; done) | (simp; omega) | omega) (.slice afv65v PT.length cfv65v))
              replace b20 := BL61_w8.cell Q60_b20.out
              replace b21 := BL61_w8.cell Q60_b21.out
              replace b22 := BL61_w8.cell Q60_b22.out
              have n_b620 : (((w7.setCell ⟨w5.heap.size, 0, none⟩ (.int .i64 b)).setCell ⟨w5.heap.size, 1, none⟩ (.slice afv65u PS.length cfv65u)).setCell ⟨w5.heap.size, 2, none⟩ (.slice afv65v PT.length cfv65v)).cell? ⟨w5.heap.size, 0, none⟩ = some (.int .i64 b) := by go_simp
              have n_f_b620 : (((w7.setCell ⟨w5.heap.size, 0, none⟩ (.int .i64 b)).setCell ⟨w5.heap.size, 1, none⟩ (.slice afv65u PS.length cfv65u)).setCell ⟨w5.heap.size, 2, none⟩ (.slice afv65v PT.length cfv65v)).frozen? ⟨w5.heap.size, 0, none⟩ = false := by go_simp
              have n_b621 : (((w7.setCell ⟨w5.heap.size, 0, none⟩ (.int .i64 b)).setCell ⟨w5.heap.size, 1, none⟩ (.slice afv65u PS.length cfv65u)).setCell ⟨w5.heap.size, 2, none⟩ (.slice afv65v PT.length cfv65v)).cell? ⟨w5.heap.size, 1, none⟩ = some (.slice afv65u PS.length cfv65u) := by go_simp
              have n_f_b621 : (((w7.setCell ⟨w5.heap.size, 0, none⟩ (.int .i64 b)).setCell ⟨w5.heap.size, 1, none⟩ (.slice afv65u PS.length cfv65u)).setCell ⟨w5.heap.size, 2, none⟩ (.slice afv65v PT.length cfv65v)).frozen? ⟨w5.heap.size, 1, none⟩ = false := by go_simp
              have n_b622 : (((w7.setCell ⟨w5.heap.size, 0, none⟩ (.int .i64 b)).setCell ⟨w5.heap.size, 1, none⟩ (.slice afv65u PS.length cfv65u)).setCell ⟨w5.heap.size, 2, none⟩ (.slice afv65v PT.length cfv65v)).cell? ⟨w5.heap.size, 2, none⟩ = some (.slice afv65v PT.length cfv65v) := by go_simp
              have n_f_b622 : (((w7.setCell ⟨w5.heap.size, 0, none⟩ (.int .i64 b)).setCell ⟨w5.heap.size, 1, none⟩ (.slice afv65u PS.length cfv65u)).setCell ⟨w5.heap.size, 2, none⟩ (.slice afv65v PT.length cfv65v)).frozen? ⟨w5.heap.size, 2, none⟩ = false := by go_simp
              replace b620 := n_b620
              clear n_b620
              replace f_b620 := n_f_b620
              clear n_f_b620
              replace b621 := n_b621
              clear n_b621
              replace f_b621 := n_f_b621
              clear n_f_b621
              replace b622 := n_b622
              clear n_b622
              replace f_b622 := n_f_b622
              clear n_f_b622
              replace i1 := (Q60_i1.out).ext BL61_w8
              replace i2 := (Q60_i2.out).ext BL61_w8
              replace i47 := (Q60_i47.out).ext BL61_w8
              replace i64 := i64.chg Kw8 (by omega)
              replace i66u := i66u.chg Kw8 (by omega)
              replace i66v := i66v.chg Kw8 (by omega)
              clear Kw8
              have z_b2 : w1.heap.size < (((w7.setCell ⟨w5.heap.size, 0, none⟩ (.int .i64 b)).setCell ⟨w5.heap.size, 1, none⟩ (.slice afv65u PS.length cfv65u)).setCell ⟨w5.heap.size, 2, none⟩ (.slice afv65v PT.length cfv65v)).heap.size := World.block_lt_of_cell? _ _ b20
              have z_b62 : w5.heap.size < (((w7.setCell ⟨w5.heap.size, 0, none⟩ (.int .i64 b)).setCell ⟨w5.heap.size, 1, none⟩ (.slice afv65u PS.length cfv65u)).setCell ⟨w5.heap.size, 2, none⟩ (.slice afv65v PT.length cfv65v)).heap.size := World.block_lt_of_cell? _ _ b620
              have s_w8 : w.heap.size ≤ (((w7.setCell ⟨w5.heap.size, 0, none⟩ (.int .i64 b)).setCell ⟨w5.heap.size, 1, none⟩ (.slice afv65u PS.length cfv65u)).setCell ⟨w5.heap.size, 2, none⟩ (.slice afv65v PT.length cfv65v)).heap.size := Xw8.size
              generalize (((w7.setCell ⟨w5.heap.size, 0, none⟩ (.int .i64 b)).setCell ⟨w5.heap.size, 1, none⟩ (.slice afv65u PS.length cfv65u)).setCell ⟨w5.heap.size, 2, none⟩ (.slice afv65v PT.length cfv65v)) = w8 at *
              refine hK.out _ _ ⟨b20, b21, b22⟩ (fun hHeld => ?_)
              clear hK K
              try simp only [Act.put, List.setIfInBounds_toArray, List.set_cons_zero, List.set_cons_succ, List.getElem_toArray, List.getElem_cons_succ, List.getElem_cons_zero]
              refine wpAnyH_take (i := 12) (v := ?_) rfl (by kernel_rfl) (by kernel_rfl) (by kernel_rfl) (fun _ _ _ h => h) (Or.inl ⟨by rfl, ?_⟩) (by assumption) ?_
              rotate_left
              · (intro w hSw; (try dsimp only at hSw); go_simp; try with_reducible rfl)
              try simp only [Act.put, List.setIfInBounds_toArray, List.set_cons_zero, List.set_cons_succ, List.getElem_toArray, List.getElem_cons_succ, List.getElem_cons_zero]
              refine wpAnyH_done (by kernel_rfl) ?_ _
              clear hHeld
              go_step
              go_step
              go_meet
              case rel => exact ⟨_, _, _, _, _, rfl, rfl, BD7_w8, (by omega), b620, b621, b622, f_b620, f_b621, f_b622, i66u.lower (by omega), i66v.lower (by omega)⟩
          · try simp only [Act.put, List.setIfInBounds_toArray, List.set_cons_zero, List.set_cons_succ, List.getElem_toArray, List.getElem_cons_succ, List.getElem_cons_zero]
            go_simp
            have Q67_b20 := Lib.hid b20
            have Q67_b21 := Lib.hid b21
            have Q67_b22 := Lib.hid b22
            have Q67_zb2 := z_b2
            have Q67_i1 := Lib.hid i1
            have Q67_i2 := Lib.hid i2
            have BL68 : Ext w4 w4 := Ext.refl _
            refine hK.out _ _ ⟨(show Ext w4 _ from (by repeat (first | (with_reducible assumption) | (with_reducible refine Ext.setCell ?_ (by first | (simp; done) | (simp; omega) | omega) _) | (with_reducible apply Ext.alloc) | (with_reducible apply Ext.drew) | (with_reducible apply Ext.drewN) | (with_reducible exact Ext.refl _)))).cell b20, (show Ext w4 _ from (by repeat (first | (with_reducible assumption) | (with_reducible refine Ext.setCell ?_ (by first | (simp; done) | (simp; omega) | omega) _) | (with_reducible apply Ext.alloc) | (with_reducible apply Ext.drew) | (with_reducible apply Ext.drewN) | (with_reducible exact Ext.refl _)))).cell b21, (show Ext w4 _ from (by repeat (first | (with_reducible assumption) | (with_reducible refine Ext.setCell ?_ (by first | (simp; done) | (simp; omega) | omega) _) | (with_reducible apply Ext.alloc) | (with_reducible apply Ext.drew) | (with_reducible apply Ext.drewN) | (with_reducible exact Ext.refl _)))).cell b22⟩ (fun hHeld => ?_)
            clear hK K
            try simp only [Act.put, List.setIfInBounds_toArray, List.set_cons_zero, List.set_cons_succ, List.getElem_toArray, List.getElem_cons_succ, List.getElem_cons_zero]
            refine wpAnyH_ready (rs := [4]) (by kernel_rfl) (by simp) ?_
            refine AllReadyH.cons rfl (fun K hK => ?_) AllReadyH.nil
            try simp only [Act.put, List.setIfInBounds_toArray, List.set_cons_zero, List.set_cons_succ, List.getElem_toArray, List.getElem_cons_succ, List.getElem_cons_zero]
            go_simp
            refine (lupTo_c s.length _ (by first | omega | exact (vw hB45.out).1 | exact (vw hB45.out).2.1 | exact (vw hB45.out).2.2.1 | exact (vw hB45.out).2.2.2)).mono ?_
            rintro e w5 ⟨fv70, rfl, i71, -, xw5⟩
            have Lw5 : Ext w4 w5 := Ext.trans (by repeat (first | (with_reducible assumption) | (with_reducible refine Ext.setCell ?_ (by first | (simp; done) | (simp; omega) | omega) _) | (with_reducible apply Ext.alloc) | (with_reducible apply Ext.drew) | (with_reducible apply Ext.drewN) | (with_reducible exact Ext.refl _))) xw5
            have Xw5 : Ext w w5 := Xw4.trans Lw5
            replace b20 := Lw5.cell b20
            replace b21 := Lw5.cell b21
            replace b22 := Lw5.cell b22
            have b690 : w5.cell? ⟨w4.heap.size, 0, none⟩ = some (.int .i64 0) := xw5.cell (by first | (simp; done) | ((repeat rw [World.cell?_alloc_lt _ _ _ (by simp <;> omega)]); simp; done) | (go_simp; done))
            have b691 : w5.cell? ⟨w4.heap.size, 1, none⟩ = some (.slice none 0 0) := xw5.cell (by first | (simp; done) | ((repeat rw [World.cell?_alloc_lt _ _ _ (by simp <;> omega)]); simp; done) | (go_simp; done))
            have b692 : w5.cell? ⟨w4.heap.size, 2, none⟩ = some (.slice none 0 0) := xw5.cell (by first | (simp; done) | ((repeat rw [World.cell?_alloc_lt _ _ _ (by simp <;> omega)]); simp; done) | (go_simp; done))
            have f_b690 : w5.frozen? ⟨w4.heap.size, 0, none⟩ = false := xw5.frz (by simp <;> omega) (by first | (simp; done) | (go_simp; done))
            have f_b691 : w5.frozen? ⟨w4.heap.size, 1, none⟩ = false := xw5.frz (by simp <;> omega) (by first | (simp; done) | (go_simp; done))
            have f_b692 : w5.frozen? ⟨w4.heap.size, 2, none⟩ = false := xw5.frz (by simp <;> omega) (by first | (simp; done) | (go_simp; done))
            have z_b2 : w1.heap.size < w5.heap.size := World.block_lt_of_cell? _ _ b20
            have z_b69 : w4.heap.size < w5.heap.size := World.block_lt_of_cell? _ _ b690
            replace i1 := i1.ext Lw5
            replace i2 := i2.ext Lw5
            have s_w5 : w.heap.size ≤ w5.heap.size := Xw5.size
            have BD7_w5 : Ext w4 w5 := BD7.trans Lw5
            have BL68_w5 : Ext w4 w5 := BL68.trans Lw5
            clear xw5
            try simp only [World.size_alloc, World.size_drew] at i71
            obtain ⟨afv70, cfv70, rfl⟩ := i71.form
            have zD_w5 := (BD7_w5).size
            refine hK.out _ _ ⟨b20, b21, b22⟩ (fun hHeld => ?_)
            clear hK K
            try simp only [Act.put, List.setIfInBounds_toArray, List.set_cons_zero, List.set_cons_succ, List.getElem_toArray, List.getElem_cons_succ, List.getElem_cons_zero]
            refine wpAnyH_ready (rs := [5]) (by kernel_rfl) (by simp) ?_
            refine AllReadyH.cons rfl (fun K hK => ?_) AllReadyH.nil
            try simp only [Act.put, List.setIfInBounds_toArray, List.set_cons_zero, List.set_cons_succ, List.getElem_toArray, List.getElem_cons_succ, List.getElem_cons_zero]
            go_simp
            refine (pi_eq hR.out (back_c (upL s.length) (.slice afv70 ((upL s.length).length) cfv70) _ _ (i71.ext (by repeat (first | (with_reducible assumption) | (with_reducible refine Ext.setCell ?_ (by first | (simp; done) | (simp; omega) | omega) _) | (with_reducible apply Ext.alloc) | (with_reducible apply Ext.drew) | (with_reducible apply Ext.drewN) | (with_reducible exact Ext.refl _)))))).mono ?_
            rintro e w6 ⟨fv72, rfl, i73, -, xw6⟩
            have Lw6 : Ext w5 w6 := Ext.trans (by repeat (first | (with_reducible assumption) | (with_reducible refine Ext.setCell ?_ (by first | (simp; done) | (simp; omega) | omega) _) | (with_reducible apply Ext.alloc) | (with_reducible apply Ext.drew) | (with_reducible apply Ext.drewN) | (with_reducible exact Ext.refl _))) xw6
            have Xw6 : Ext w w6 := Xw5.trans Lw6
            replace b20 := Lw6.cell b20
            replace b21 := Lw6.cell b21
            replace b22 := Lw6.cell b22
            replace b690 := Lw6.cell b690
            replace b691 := Lw6.cell b691
            replace b692 := Lw6.cell b692
            replace f_b690 := Lw6.frz z_b69 f_b690
            replace f_b691 := Lw6.frz z_b69 f_b691
            replace f_b692 := Lw6.frz z_b69 f_b692
            have z_b2 : w1.heap.size < w6.heap.size := World.block_lt_of_cell? _ _ b20
            have z_b69 : w4.heap.size < w6.heap.size := World.block_lt_of_cell? _ _ b690
            replace i1 := i1.ext Lw6
            replace i2 := i2.ext Lw6
            replace i71 := i71.ext Lw6
            have s_w6 : w.heap.size ≤ w6.heap.size := Xw6.size
            have BD7_w6 : Ext w4 w6 := BD7_w5.trans Lw6
            have BL68_w6 : Ext w4 w6 := BL68_w5.trans Lw6
            clear xw6
            try simp only [World.size_alloc, World.size_drew] at i73
            obtain ⟨afv72, cfv72, rfl⟩ := i73.form
            have zD_w6 := (BD7_w6).size
            refine hK.out _ _ ⟨b20, b21, b22⟩ (fun hHeld => ?_)
            clear hK K
            try simp only [Act.put, List.setIfInBounds_toArray, List.set_cons_zero, List.set_cons_succ, List.getElem_toArray, List.getElem_cons_succ, List.getElem_cons_zero]
            refine wpAnyH_ready (rs := [6]) (by kernel_rfl) (by simp) ?_
            refine AllReadyH.cons rfl (fun K hK => ?_) AllReadyH.nil
            try simp only [Act.put, List.setIfInBounds_toArray, List.set_cons_zero, List.set_cons_succ, List.getElem_toArray, List.getElem_cons_succ, List.getElem_cons_zero]
            go_simp
            refine (pv_eq hl1.out (implPermuteDims_c b (.slice p1 s.length r1) (.slice p2 t.length r2) s t (.slice afv72 R.length cfv72) R _ _ _ (i1.ext (by repeat (first | (with_reducible assumption) | (with_reducible refine Ext.setCell ?_ (by first | (simp; done) | (simp; omega) | omega) _) | (with_reducible apply Ext.alloc) | (with_reducible apply Ext.drew) | (with_reducible apply Ext.drewN) | (with_reducible exact Ext.refl _)))) (i2.ext (by repeat (first | (with_reducible assumption) | (with_reducible refine Ext.setCell ?_ (by first | (simp; done) | (simp; omega) | omega) _) | (with_reducible apply Ext.alloc) | (with_reducible apply Ext.drew) | (with_reducible apply Ext.drewN) | (with_reducible exact Ext.refl _)))) _ (i73.ext (by repeat (first | (with_reducible assumption) | (with_reducible refine Ext.setCell ?_ (by first | (simp; done) | (simp; omega) | omega) _) | (with_reducible apply Ext.alloc) | (with_reducible apply Ext.drew) | (with_reducible apply Ext.drewN) | (with_reducible exact Ext.refl _)))))).mono ?_
            rintro e w7 ⟨fv74u, fv74v, rfl, i75u, i75v, -, -, -, xw7⟩
            have Lw7 : Ext w6 w7 := Ext.trans (by repeat (first | (with_reducible assumption) | (with_reducible refine Ext.setCell ?_ (by first | (simp; done) | (simp; omega) | omega) _) | (with_reducible apply Ext.alloc) | (with_reducible apply Ext.drew) | (with_reducible apply Ext.drewN) | (with_reducible exact Ext.refl _))) xw7
            have Xw7 : Ext w w7 := Xw6.trans Lw7
            replace b20 := Lw7.cell b20
            replace b21 := Lw7.cell b21
            replace b22 := Lw7.cell b22
            replace b690 := Lw7.cell b690
            replace b691 := Lw7.cell b691
            replace b692 := Lw7.cell b692
            replace f_b690 := Lw7.frz z_b69 f_b690
            replace f_b691 := Lw7.frz z_b69 f_b691
            replace f_b692 := Lw7.frz z_b69 f_b692
            have z_b2 : w1.heap.size < w7.heap.size := World.block_lt_of_cell? _ _ b20
            have z_b69 : w4.heap.size < w7.heap.size := World.block_lt_of_cell? _ _ b690
            replace i1 := i1.ext Lw7
            replace i2 := i2.ext Lw7
            replace i71 := i71.ext Lw7
            replace i73 := i73.ext Lw7
            have s_w7 : w.heap.size ≤ w7.heap.size := Xw7.size
            have BD7_w7 : Ext w4 w7 := BD7_w6.trans Lw7
            have BL68_w7 : Ext w4 w7 := BL68_w6.trans Lw7
            clear xw7
            try simp only [World.size_alloc, World.size_drew] at i75u i75v
            obtain ⟨afv74u, cfv74u, rfl⟩ := i75u.form
            obtain ⟨afv74v, cfv74v, rfl⟩ := i75v.form
            have zD_w7 := (BD7_w7).size
            refine hK.out _ _ ⟨b20, b21, b22⟩ (fun hHeld => ?_)
            clear hK K
            try simp only [Act.put, List.setIfInBounds_toArray, List.set_cons_zero, List.set_cons_succ, List.getElem_toArray, List.getElem_cons_succ, List.getElem_cons_zero]
            refine wpAnyH_take (i := 7) (v := ?_) rfl (by kernel_rfl) (by kernel_rfl) (by kernel_rfl) (fun _ _ _ h => h) (Or.inl ⟨by rfl, ?_⟩) (by assumption) ?_
            rotate_left
            · (intro w hSw; (try dsimp only at hSw); go_simp; try with_reducible rfl)
            try simp only [Act.put, List.setIfInBounds_toArray, List.set_cons_zero, List.set_cons_succ, List.getElem_toArray, List.getElem_cons_succ, List.getElem_cons_zero]
            refine wpAnyH_take (i := 8) (v := ?_) rfl (by kernel_rfl) (by kernel_rfl) (by kernel_rfl) (fun _ _ _ h => h) (Or.inl ⟨by rfl, ?_⟩) (by assumption) ?_
            rotate_left
            · (intro w hSw; (try dsimp only at hSw); go_simp; try with_reducible rfl)
            try simp only [Act.put, List.setIfInBounds_toArray, List.set_cons_zero, List.set_cons_succ, List.getElem_toArray, List.getElem_cons_succ, List.getElem_cons_zero]
            refine wpAnyH_take (i := 9) (v := ?_) rfl (by kernel_rfl) (by kernel_rfl) (by kernel_rfl) (fun _ _ _ h => h) (Or.inl ⟨by rfl, ?_⟩) (by assumption) ?_
            rotate_left
            · (intro w hSw; (try dsimp only at hSw); go_simp; try with_reducible rfl)
            try simp only [Act.put, List.setIfInBounds_toArray, List.set_cons_zero, List.set_cons_succ, List.getElem_toArray, List.getElem_cons_succ, List.getElem_cons_zero]
            refine wpAnyH_ready (rs := [11]) (by kernel_rfl) (by simp) ?_
            refine AllReadyH.cons rfl (fun K hK => ?_) AllReadyH.nil
            try simp only [Act.put, List.setIfInBounds_toArray, List.set_cons_zero, List.set_cons_succ, List.getElem_toArray, List.getElem_cons_succ, List.getElem_cons_zero]
            go_simp
            have Kw8 : Chg (w4.heap.size) (w4.heap.size + 1) w7 (((w7.setCell ⟨w4.heap.size, 0, none⟩ (.int .i64 b)).setCell ⟨w4.heap.size, 1, none⟩ (.slice afv74u PS.length cfv74u)).setCell ⟨w4.heap.size, 2, none⟩ (.slice afv74v PT.length cfv74v)) := (Chg.setCell (p := ⟨w4.heap.size, 2, none⟩) (Chg.setCell (p := ⟨w4.heap.size, 1, none⟩) (Chg.setCell (p := ⟨w4.heap.size, 0, none⟩) (Chg.refl (w4.heap.size) (w4.heap.size + 1) _) (Nat.le_refl _) (Nat.lt_succ_self _) (.int .i64 b)) (Nat.le_refl _) (Nat.lt_succ_self _) (.slice afv74u PS.length cfv74u)) (Nat.le_refl _) (Nat.lt_succ_self _) (.slice afv74v PT.length cfv74v))
            have Xw8 : Ext w (((w7.setCell ⟨w4.heap.size, 0, none⟩ (.int .i64 b)).setCell ⟨w4.heap.size, 1, none⟩ (.slice afv74u PS.length cfv74u)).setCell ⟨w4.heap.size, 2, none⟩ (.slice afv74v PT.length cfv74v)) := (Ext.setCell (p := ⟨w4.heap.size, 2, none⟩) (Ext.setCell (p := ⟨w4.heap.size, 1, none⟩) (Ext.setCell (p := ⟨w4.heap.size, 0, none⟩) Xw7 (by first | (simp; done) | (simp; omega) | omega) (.int .i64 b)) (by first | (simp; done) | (simp; omega) | omega) (.slice afv74u PS.length cfv74u)) (by first | (simp; done) | (simp; omega) | omega) (.slice afv74v PT.length cfv74v))
            have BD7_w8 : Ext w4 (((w7.setCell ⟨w4.heap.size, 0, none⟩ (.int .i64 b)).setCell ⟨w4.heap.size, 1, none⟩ (.slice afv74u PS.length cfv74u)).setCell ⟨w4.heap.size, 2, none⟩ (.slice afv74v PT.length cfv74v)) := (Ext.setCell (p := ⟨w4.heap.size, 2, none⟩) (Ext.setCell (p := ⟨w4.heap.size, 1, none⟩) (Ext.setCell (p := ⟨w4.heap.size, 0, none⟩) BD7_w7 (by first | (simp; done) | (simp; omega) | omega) (.int .i64 b)) (by first | (simp; done) | (simp; omega) | omega) (.slice afv74u PS.length cfv74u)) (by first | (simp; done) | (simp; omega) | omega) (.slice afv74v PT.length cfv74v))
            have BL68_w8 : Ext w4 (((w7.setCell ⟨w4.heap.size, 0, none⟩ (.int .i64 b)).setCell ⟨w4.heap.size, 1, none⟩ (.slice afv74u PS.length cfv74u)).setCell ⟨w4.heap.size, 2, none⟩ (.slice afv74v PT.length cfv74v)) := (Ext.setCell (p := ⟨w4.heap.size, 2, none⟩) (Ext.setCell (p := ⟨w4.heap.size, 1, none⟩) (Ext.setCell (p := ⟨w4.heap.size, 0, none⟩) BL68_w7 (by first | (simp; done) | (simp; omega) | omega) (.int .i64 b)) (by first | (simp; done) | (simp; omega) | omega) (.slice afv74u PS.length cfv74u)) (by first | (simp; done) | (simp; omega) | omega) (.slice afv74v PT.length cfv74v))
            replace b20 := BL68_w8.cell Q67_b20.out
            replace b21 := BL68_w8.cell Q67_b21.out
            replace b22 := BL68_w8.cell Q67_b22.out
            have n_b690 : (((w7.setCell ⟨w4.heap.size, 0, none⟩ (.int .i64 b)).setCell ⟨w4.heap.size, 1, none⟩ (.slice afv74u PS.length cfv74u)).setCell ⟨w4.heap.size, 2, none⟩ (.slice afv74v PT.length cfv74v)).cell? ⟨w4.heap.size, 0, none⟩ = some (.int .i64 b) := by go_simp
            have n_f_b690 : (((w7.setCell ⟨w4.heap.size, 0, none⟩ (.int .i64 b)).setCell ⟨w4.heap.size, 1, none⟩ (.slice afv74u PS.length cfv74u)).setCell ⟨w4.heap.size, 2, none⟩ (.slice afv74v PT.length cfv74v)).frozen? ⟨w4.heap.size, 0, none⟩ = false := by go_simp
            have n_b691 : (((w7.setCell ⟨w4.heap.size, 0, none⟩ (.int .i64 b)).setCell ⟨w4.heap.size, 1, none⟩ (.slice afv74u PS.length cfv74u)).setCell ⟨w4.heap.size, 2, none⟩ (.slice afv74v PT.length cfv74v)).cell? ⟨w4.heap.size, 1, none⟩ = some (.slice afv74u PS.length cfv74u) := by go_simp
            have n_f_b691 : (((w7.setCell ⟨w4.heap.size, 0, none⟩ (.int .i64 b)).setCell ⟨w4.heap.size, 1, none⟩ (.slice afv74u PS.length cfv74u)).setCell ⟨w4.heap.size, 2, none⟩ (.slice afv74v PT.length cfv74v)).frozen? ⟨w4.heap.size, 1, none⟩ = false := by go_simp
            have n_b692 : (((w7.setCell ⟨w4.heap.size, 0, none⟩ (.int .i64 b)).setCell ⟨w4.heap.size, 1, none⟩ (.slice afv74u PS.length cfv74u)).setCell ⟨w4.heap.size, 2, none⟩ (.slice afv74v PT.length cfv74v)).cell? ⟨w4.heap.size, 2, none⟩ = some (.slice afv74v PT.length cfv74v) := by go_simp
            have n_f_b692 : (((w7.setCell ⟨w4.heap.size, 0, none⟩ (.int .i64 b)).setCell ⟨w4.heap.size, 1, none⟩ (.slice afv74u PS.length cfv74u)).setCell ⟨w4.heap.size, 2, none⟩ (.slice afv74v PT.length cfv74v)).frozen? ⟨w4.heap.size, 2, none⟩ = false := by go_simp
            replace b690 := n_b690
            clear n_b690
            replace f_b690 := n_f_b690
            clear n_f_b690
            replace b691 := n_b691
            clear n_b691
            replace f_b691 := n_f_b691
            clear n_f_b691
            replace b692 := n_b692
            clear n_b692
            replace f_b692 := n_f_b692
            clear n_f_b692
            replace i1 := (Q67_i1.out).ext BL68_w8
            replace i2 := (Q67_i2.out).ext BL68_w8
            replace i71 := i71.chg Kw8 (by omega)
            replace i73 := i73.chg Kw8 (by omega)
            replace i75u := i75u.chg Kw8 (by omega)
            replace i75v := i75v.chg Kw8 (by omega)
            clear Kw8
            have z_b2 : w1.heap.size < (((w7.setCell ⟨w4.heap.size, 0, none⟩ (.int .i64 b)).setCell ⟨w4.heap.size, 1, none⟩ (.slice afv74u PS.length cfv74u)).setCell ⟨w4.heap.size, 2, none⟩ (.slice afv74v PT.length cfv74v)).heap.size := World.block_lt_of_cell? _ _ b20
            have z_b69 : w4.heap.size < (((w7.setCell ⟨w4.heap.size, 0, none⟩ (.int .i64 b)).setCell ⟨w4.heap.size, 1, none⟩ (.slice afv74u PS.length cfv74u)).setCell ⟨w4.heap.size, 2, none⟩ (.slice afv74v PT.length cfv74v)).heap.size := World.block_lt_of_cell? _ _ b690
            have s_w8 : w.heap.size ≤ (((w7.setCell ⟨w4.heap.size, 0, none⟩ (.int .i64 b)).setCell ⟨w4.heap.size, 1, none⟩ (.slice afv74u PS.length cfv74u)).setCell ⟨w4.heap.size, 2, none⟩ (.slice afv74v PT.length cfv74v)).heap.size := Xw8.size
            generalize (((w7.setCell ⟨w4.heap.size, 0, none⟩ (.int .i64 b)).setCell ⟨w4.heap.size, 1, none⟩ (.slice afv74u PS.length cfv74u)).setCell ⟨w4.heap.size, 2, none⟩ (.slice afv74v PT.length cfv74v)) = w8 at *
            refine hK.out _ _ ⟨b20, b21, b22⟩ (fun hHeld => ?_)
            clear hK K
            try simp only [Act.put, List.setIfInBounds_toArray, List.set_cons_zero, List.set_cons_succ, List.getElem_toArray, List.getElem_cons_succ, List.getElem_cons_zero]
            refine wpAnyH_take (i := 12) (v := ?_) rfl (by kernel_rfl) (by kernel_rfl) (by kernel_rfl) (fun _ _ _ h => h) (Or.inl ⟨by rfl, ?_⟩) (by assumption) ?_
            rotate_left
            · (intro w hSw; (try dsimp only at hSw); go_simp; try with_reducible rfl)
            try simp only [Act.put, List.setIfInBounds_toArray, List.set_cons_zero, List.set_cons_succ, List.getElem_toArray, List.getElem_cons_succ, List.getElem_cons_zero]
            refine wpAnyH_done (by kernel_rfl) ?_ _
            clear hHeld
            go_step
            go_step
            go_meet
            case rel => exact ⟨_, _, _, _, _, rfl, rfl, BD7_w8, (by omega), b690, b691, b692, f_b690, f_b691, f_b692, i75u.lower (by omega), i75v.lower (by omega)⟩
        case rest =>
          generalize wc = wc77 at hcut ⊢
          obtain ⟨g78, af82, cf83, af84, cf85, rfl, rfl, xx79, hg_b76, b760, b761, b762, f_b760, f_b761, f_b762, i80, i81⟩ := hcut
          have Lwc77 : Ext w4 wc77 := Ext.trans (by repeat (first | (with_reducible assumption) | (with_reducible refine Ext.setCell ?_ (by first | (simp; done) | (simp; omega) | omega) _) | (with_reducible apply Ext.alloc) | (with_reducible apply Ext.drew) | (with_reducible apply Ext.drewN) | (with_reducible exact Ext.refl _))) xx79
          have Xwc77 : Ext w wc77 := Xw4.trans Lwc77
          replace b20 := Lwc77.cell b20
          replace b21 := Lwc77.cell b21
          replace b22 := Lwc77.cell b22
          have z_b2 : w1.heap.size < wc77.heap.size := World.block_lt_of_cell? _ _ b20
          replace i1 := i1.ext Lwc77
          replace i2 := i2.ext Lwc77
          have s_wc77 : w.heap.size ≤ wc77.heap.size := Xwc77.size
          clear xx79
          have z_b76 : g78 < wc77.heap.size := World.block_lt_of_cell? _ _ b760
          go_wp2_with fail
          refine (implIsRow_c b (.slice af82 PS.length cf83) (.slice af84 PT.length cf85) PS PT _ _ _ (i80.ext (by repeat (first | (with_reducible assumption) | (with_reducible refine Ext.setCell ?_ (by first | (simp; done) | (simp; omega) | omega) _) | (with_reducible apply Ext.alloc) | (with_reducible apply Ext.drew) | (with_reducible apply Ext.drewN) | (with_reducible exact Ext.refl _)))) (i81.ext (by repeat (first | (with_reducible assumption) | (with_reducible refine Ext.setCell ?_ (by first | (simp; done) | (simp; omega) | omega) _) | (with_reducible apply Ext.alloc) | (with_reducible apply Ext.drew) | (with_reducible apply Ext.drewN) | (with_reducible exact Ext.refl _))))).mono ?_
          rintro e w5 ⟨rfl, xw5⟩
          have Lw5 : Ext wc77 w5 := Ext.trans (by repeat (first | (with_reducible assumption) | (with_reducible refine Ext.setCell ?_ (by first | (simp; done) | (simp; omega) | omega) _) | (with_reducible apply Ext.alloc) | (with_reducible apply Ext.drew) | (with_reducible apply Ext.drewN) | (with_reducible exact Ext.refl _))) xw5
          have Xw5 : Ext w w5 := Xwc77.trans Lw5
          replace b20 := Lw5.cell b20
          replace b21 := Lw5.cell b21
          replace b22 := Lw5.cell b22
          replace b760 := Lw5.cell b760
          replace b761 := Lw5.cell b761
          replace b762 := Lw5.cell b762
          replace f_b760 := Lw5.frz z_b76 f_b760
          replace f_b761 := Lw5.frz z_b76 f_b761
          replace f_b762 := Lw5.frz z_b76 f_b762
          have z_b2 : w1.heap.size < w5.heap.size := World.block_lt_of_cell? _ _ b20
          have z_b76 : g78 < w5.heap.size := World.block_lt_of_cell? _ _ b760
          replace i1 := i1.ext Lw5
          replace i2 := i2.ext Lw5
          replace i80 := i80.ext Lw5
          replace i81 := i81.ext Lw5
          have s_w5 : w.heap.size ≤ w5.heap.size := Xw5.size
          clear xw5
          rw [(show rowB b PS PT = true from by have h7 := hB3.out; have h8 := hl9.out; rw [h8] at h7; exact h7)]
          go_wp2_with fail
          go_ret
          exact ⟨rfl, (Xw5.trans (by repeat (first | (with_reducible assumption) | (with_reducible refine Ext.setCell ?_ (by first | (simp; done) | (simp; omega) | omega) _) | (with_reducible apply Ext.alloc) | (with_reducible apply Ext.drew) | (with_reducible apply Ext.drewN) | (with_reducible exact Ext.refl _))))⟩


end Go.Proofs.Ytonnnjaooifpjaa

/- The law FnIsCol holds for all bytes: the call returns true, and its argument reads as it did. No condition. -/
namespace Go.Proofs.Ytonnnjaooifpjaa.rowFnIsCol
open Go.ChangeShapes Go.WideShapes Go.ChangeAt Go.RowKit
set_option linter.unusedVariables false

set_option maxHeartbeats 1000000 in
set_option maxRecDepth 100000 in
theorem lifted (os : Os) (started : os.Started) (H : Type) (enc : TypeId × Value → H) :
    ReturnsInHanded {} Try.checked os 3 .any (Rows.fnIsColSpec.pre6 enc Try.prog Try.f3 Rows.fnIsColRow.domain false) (Rows.fnIsColSpec.post enc Try.prog Try.f3 false true false false) := by
  refine returnsInHanded_of_change (C := Try.checked) own started (by kernel_rfl) Try.func3
    (ChangeSpec.witness6 (enc := enc) (C := Try.checked) false ⟨#[], #[.slice none 0 0], []⟩ 8 (by kernel_rfl) (by kernel_rfl) (by kernel_rfl) (by kernel_rfl)) ?_
  intro W base args ds gs before hval0 hW hcnd _
  have hval : ∀ (j : Nat) t v, Try.f3.params[j]? = some t → args[j]? = some v → Value.okWide Try.prog W .any base t v := hval0
  have hW' := hW
  obtain ⟨p, q, hA0, hV, rfl, hfz, hnd⟩ := hW
  have hA : DataW.TrodAll enc Try.prog W 0 (fun _ => true) true Try.f3.params.toList args.toList ds p := hA0
  rw [Try.params3] at hA hval
  obtain ⟨v0, vs0, d0, ds0, p0, q0, hargs0, rfl, rfl, h0, r0⟩ := trodAll_cons hA
  obtain ⟨rfl, rfl, rfl⟩ := trodAll_nil r0
  obtain rfl : args = #[v0] := by cases args; simp_all
  obtain ⟨rfl, rfl⟩ := trodVars_none hV
  obtain ⟨a0, len0, cap0, rfl⟩ := okWide_slice Try.underlying22 (hval 0 22 v0 rfl rfl)
  have k0 := h0
  have lt0 : ∀ x ∈ p0, x.block < W.heap.size := by obtain ⟨m, hm⟩ := k0; exact DataW.trod_lt m _ _ _ hm
  have w0 : BysIn W a0 len0 cap0 := by
    obtain ⟨fuel, hf⟩ := h0
    rcases open_ints Try.underlying22 Try.underlying5 (by kernel_rfl) hf with ⟨hcs, _⟩ | ⟨x, l, c, zs, hcs, _, hl, hm, hz, _, hcell, hwz⟩
    · simp [Value.cells] at hcs
      obtain ⟨rfl, rfl, rfl⟩ := hcs
      exact ⟨Nat.le_refl _, by simp, fun i hi => absurd hi (by simp)⟩
    · simp [Value.cells] at hcs
      obtain ⟨rfl, rfl, rfl⟩ := hcs
      have hzl : zs.length = cap0 := by simpa using hz
      exact bys_of_cells hl hm hzl hcell hwz
  clear hA0 hval0
  refine (lawFnIsCol_c a0 len0 cap0 W w0).mono fun e W' ⟨he, bel⟩ => ?_
  subst he
  exact ⟨_, rfl, _, _, _, [], _, [], hW', trodAll_mk1 (shut_bool Try.underlying4 _), (trodAll_cons_mk (Below.trod laidOut (by kernel_rfl) (of_decide_eq_true (by kernel_rfl)) k0 bel lt0) trodAll_mk0), rfl, Below.frame bel _, fun h => by cases h⟩

set_option maxHeartbeats 2000000 in
theorem closed : joinedFacts Try.checked.prog 3 Try.f3 Rows.fnIsColSpec Rows.fnIsColRow = true :=
  facts.all (by kernel_rfl) (by kernel_rfl) (by kernel_rfl) (by kernel_rfl) (by kernel_rfl) (by as_aux_lemma => kernel_rfl) (by as_aux_lemma => kernel_rfl) (by as_aux_lemma => kernel_rfl) (by as_aux_lemma => kernel_rfl)
    (by as_aux_lemma => kernel_rfl) (by as_aux_lemma => kernel_rfl) rfl rfl rfl rfl (by kernel_rfl) (by kernel_rfl) (by as_aux_lemma => kernel_rfl) (by as_aux_lemma => kernel_rfl)

theorem named : Try.pinned.checked.prog.funcNamed Rows.fnIsColRow.func = some 3 := by kernel_rfl

theorem over : Rows.fnIsColRow.holds Try.pinned (OpenSpec.ofChange Rows.fnIsColSpec) :=
  OpenClaim.holds_of_wide 3 Try.f3 rfl rfl rfl rfl rfl rfl rfl ⟨rfl, rfl, rfl, rfl, rfl⟩ rfl rfl rfl rfl rfl named Try.func3 closed
    (of_decide_eq_true (by kernel_rfl)) (by unfold Func.isWrapper; exact ⟨rfl, rfl⟩)
    (fun os started H enc _ => lifted os started H enc)

theorem proved : Rows.FnIsColSaid := over

end Go.Proofs.Ytonnnjaooifpjaa.rowFnIsCol
