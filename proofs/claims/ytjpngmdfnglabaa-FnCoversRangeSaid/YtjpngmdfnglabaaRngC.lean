/- Walks: what is asked of ranges: lengths, numbers, places, covers. -/
import Derived.Test.YtjpngmdfnglabaaRngB
namespace Go.Proofs.Ytjpngmdfnglabaa
open Go.RowKit
set_option linter.unusedVariables false
set_option maxRecDepth 100000

def rlenA (a e d : Int) : Int := if rangeB a e d then (cntL a e d : Int) else -1
def rnumA (a e d : Int) : List Int := if rangeB a e d then numL a e d else []
def rplaceA (a e d x : Int) : Int := if rangeB a e d then Lib.idxOf (numL a e d) x else -1
def rcovB (a1 e1 d1 a2 e2 d2 : Int) : Bool := rangeB a1 e1 d1 && (rangeB a2 e2 d2 && (numL a2 e2 d2).all fun x => (numL a1 e1 d1).contains x)

set_option maxHeartbeats 1600000 in
theorem implLenOf_c (a e d : Int) (w : World) :
    Calls Try.prog 16 #[.agg #[.int .i64 a, .int .i64 e, .int .i64 d]] w (fun r w' => r = .returned (.int .i64 (rlenA a e d)) ∧ Ext w w') := by
  cases h : rangeB a e d
  · have hr := Lib.hid (show rlenA a e d = -1 by unfold rlenA; rw [h]; rfl)
    go_enter Try.func16, Try.ntmps16
    go_wp2_with fail
    refine (isRange_c a e d _).mono ?_
    rintro r w1 ⟨rfl, x1⟩
    rw [h]
    go_wp2_with fail
    go_ret
    exact ⟨by rw [hr.out] <;> rfl, Ext.trans (by repeat (first | exact Ext.refl _ | assumption | apply Ext.drewN | apply Ext.drew | apply Ext.alloc)) x1⟩
  · have hr := Lib.hid (show rlenA a e d = (cntL a e d : Int) by unfold rlenA; rw [h]; rfl)
    have hi := rangeB_in h
    have hcl := cntL_le (a := a) (b := e) (s := d) (by omega) (by omega) hi.2.2.2
    replace hi := Lib.hid hi
    have hl := Lib.hid (numL_len a e d)
    have h' := Lib.hid h
    clear h
    go_enter Try.func16, Try.ntmps16
    go_wp2_with fail
    refine (isRange_c a e d _).mono ?_
    rintro r w1 ⟨rfl, x1⟩
    rw [h'.out]
    have c0 := x1.cell (p := ⟨w.heap.size, 0, none⟩) (v := .int .i64 a) (by simp)
    have c1 := x1.cell (p := ⟨w.heap.size, 1, none⟩) (v := .int .i64 e) (by simp)
    have c2 := x1.cell (p := ⟨w.heap.size, 2, none⟩) (v := .int .i64 d) (by simp)
    go_wp2_with fail
    refine (numbersOf_c a e d _ (by have := hi.out; omega) (by have := hi.out; omega) (by have := hi.out; omega) hi.out.2.2.2).mono ?_
    rintro r w2 ⟨v2, rfl, i2, -, x2⟩
    obtain ⟨p2, q2, rfl⟩ := i2.form
    go_wp2_with fail
    go_ret
    exact ⟨by rw [hr.out, hl.out] <;> rfl, Ext.trans (Ext.trans (by repeat (first | exact Ext.refl _ | assumption | apply Ext.drewN | apply Ext.drew | apply Ext.alloc)) x1) x2⟩

set_option maxHeartbeats 1600000 in
theorem implNumbersOf_c (a e d : Int) (w : World) :
    Calls Try.prog 14 #[.agg #[.int .i64 a, .int .i64 e, .int .i64 d]] w (PInts w (rnumA a e d)) := by
  cases h : rangeB a e d
  · have hr := Lib.hid (show rnumA a e d = [] by unfold rnumA; rw [h]; rfl)
    go_enter Try.func14, Try.ntmps14
    go_wp2_with fail
    refine (isRange_c a e d _).mono ?_
    rintro r w1 ⟨rfl, x1⟩
    rw [h]
    go_wp2_with fail
    go_ret
    rw [hr.out]
    exact PInts.nilv (Ext.trans (by repeat (first | exact Ext.refl _ | assumption | apply Ext.drewN | apply Ext.drew | apply Ext.alloc)) x1)
  · have hr := Lib.hid (show rnumA a e d = numL a e d by unfold rnumA; rw [h]; rfl)
    have hi := Lib.hid (rangeB_in h)
    have h' := Lib.hid h
    clear h
    go_enter Try.func14, Try.ntmps14
    go_wp2_with fail
    refine (isRange_c a e d _).mono ?_
    rintro r w1 ⟨rfl, x1⟩
    rw [h'.out]
    have c0 := x1.cell (p := ⟨w.heap.size, 0, none⟩) (v := .int .i64 a) (by simp)
    have c1 := x1.cell (p := ⟨w.heap.size, 1, none⟩) (v := .int .i64 e) (by simp)
    have c2 := x1.cell (p := ⟨w.heap.size, 2, none⟩) (v := .int .i64 d) (by simp)
    go_wp2_with fail
    refine (numbersOf_c a e d _ (by have := hi.out; omega) (by have := hi.out; omega) (by have := hi.out; omega) hi.out.2.2.2).mono ?_
    rintro r w2 ⟨v2, rfl, i2, o2, x2⟩
    go_wp2_with fail
    go_ret
    rw [hr.out]
    exact PInts.of o2 i2 (Ext.size (show Ext w w1 from Ext.trans (by repeat (first | exact Ext.refl _ | assumption | apply Ext.drewN | apply Ext.drew | apply Ext.alloc)) x1)) (Ext.trans (Ext.trans (by repeat (first | exact Ext.refl _ | assumption | apply Ext.drewN | apply Ext.drew | apply Ext.alloc)) x1) x2)

set_option maxHeartbeats 1600000 in
theorem implPlaceOf_c (a e d x : Int) (w : World) :
    Calls Try.prog 15 #[.agg #[.int .i64 a, .int .i64 e, .int .i64 d], .int .i64 x] w (fun r w' => r = .returned (.int .i64 (rplaceA a e d x)) ∧ Ext w w') := by
  cases h : rangeB a e d
  · have hr := Lib.hid (show rplaceA a e d x = -1 by unfold rplaceA; rw [h]; rfl)
    go_enter Try.func15, Try.ntmps15
    go_wp2_with fail
    refine (isRange_c a e d _).mono ?_
    rintro r w1 ⟨rfl, x1⟩
    rw [h]
    go_wp2_with fail
    go_ret
    exact ⟨by rw [hr.out] <;> rfl, Ext.trans (by repeat (first | exact Ext.refl _ | assumption | apply Ext.drewN | apply Ext.drew | apply Ext.alloc)) x1⟩
  · have hr := Lib.hid (show rplaceA a e d x = Lib.idxOf (numL a e d) x by unfold rplaceA; rw [h]; rfl)
    have hi := Lib.hid (rangeB_in h)
    have h' := Lib.hid h
    clear h
    go_enter Try.func15, Try.ntmps15
    go_wp2_with fail
    refine (isRange_c a e d _).mono ?_
    rintro r w1 ⟨rfl, x1⟩
    rw [h'.out]
    have c0 := x1.cell (p := ⟨w.heap.size, 0, none⟩) (v := .int .i64 a) (by simp)
    have c1 := x1.cell (p := ⟨w.heap.size, 1, none⟩) (v := .int .i64 e) (by simp)
    have c2 := x1.cell (p := ⟨w.heap.size, 2, none⟩) (v := .int .i64 d) (by simp)
    go_wp2_with fail
    refine (numbersOf_c a e d _ (by have := hi.out; omega) (by have := hi.out; omega) (by have := hi.out; omega) hi.out.2.2.2).mono ?_
    rintro r w2 ⟨v2, rfl, i2, -, x2⟩
    go_wp2_with fail
    refine (index_c _ _ x _ _ i2).mono ?_
    rintro r w' ⟨rfl, rfl⟩
    go_wp2_with fail
    go_ret
    exact ⟨by rw [hr.out] <;> rfl, Ext.trans (Ext.trans (by repeat (first | exact Ext.refl _ | assumption | apply Ext.drewN | apply Ext.drew | apply Ext.alloc)) x1) x2⟩

theorem coversF_c (w : World) (b : Nat) (v : Value) (xs : List Int) (lo : Nat) (hc : w.cell? ⟨b, 0, none⟩ = some v) (hv : Ints w lo v xs) : Asks 60 #[.pointer (some ⟨b, 0, none⟩)] w (fun x => !hasB xs x) := by
  refine ⟨⟨Try.f60, Try.func60, rfl, by decide +kernel⟩, fun x => ?_⟩
  rw [show (#[Value.int .i64 x] ++ #[.pointer (some ⟨b, 0, none⟩)]) = #[.int .i64 x, .pointer (some ⟨b, 0, none⟩)] by simp]
  obtain ⟨a, c, rfl⟩ := hv.form
  go_enter Try.func60, Try.ntmps60
  go_wp2_with (go_at_call 50; refine (contains_c _ _ _ _ _ hv).mono ?_; rintro e w' ⟨rfl, rfl⟩)
  go_ret
  exact ⟨rfl, rfl⟩

theorem any_all (ys : List Int) (xs : List Int) : (!ys.any fun x => !hasB xs x) = ys.all fun x => xs.contains x := by
  rw [List.not_any_eq_all_not]; simp [hasB]

set_option maxHeartbeats 400000 in
theorem implCoversRange_c (a1 e1 d1 a2 e2 d2 : Int) (w : World) :
    Calls Try.prog 18 #[.agg #[.int .i64 a1, .int .i64 e1, .int .i64 d1], .agg #[.int .i64 a2, .int .i64 e2, .int .i64 d2]] w (fun r w' => r = .returned (.bool (rcovB a1 e1 d1 a2 e2 d2)) ∧ Ext w w') := by
  cases h : rangeB a1 e1 d1
  · have hr := Lib.hid (show rcovB a1 e1 d1 a2 e2 d2 = false by unfold rcovB; rw [h]; rfl)
    go_enter Try.func18, Try.ntmps18
    go_wp2_with fail
    refine (isRange_c a1 e1 d1 _).mono ?_
    rintro r w1 ⟨rfl, x1⟩
    rw [h]
    go_wp2_with fail
    go_ret
    exact ⟨by rw [hr.out] <;> rfl, Ext.trans (by repeat (first | exact Ext.refl _ | assumption | apply Ext.drewN | apply Ext.drew | apply Ext.alloc)) x1⟩
  · cases h2 : rangeB a2 e2 d2
    · have hr := Lib.hid (show rcovB a1 e1 d1 a2 e2 d2 = false by unfold rcovB; rw [h, h2]; rfl)
      have h' := Lib.hid h
      have h2' := Lib.hid h2
      clear h h2
      go_enter Try.func18, Try.ntmps18
      go_wp2_with fail
      refine (isRange_c a1 e1 d1 _).mono ?_
      rintro r w1 ⟨rfl, x1⟩
      rw [h'.out]
      have c0 := x1.cell (p := ⟨w.heap.size + 1, 0, none⟩) (v := .int .i64 a2) (by simp)
      have c1 := x1.cell (p := ⟨w.heap.size + 1, 1, none⟩) (v := .int .i64 e2) (by simp)
      have c2 := x1.cell (p := ⟨w.heap.size + 1, 2, none⟩) (v := .int .i64 d2) (by simp)
      go_wp2_with fail
      refine (isRange_c a2 e2 d2 _).mono ?_
      rintro r w2 ⟨rfl, x2⟩
      rw [h2'.out]
      go_wp2_with fail
      go_ret
      exact ⟨by rw [hr.out] <;> rfl, Ext.trans (Ext.trans (by repeat (first | exact Ext.refl _ | assumption | apply Ext.drewN | apply Ext.drew | apply Ext.alloc)) x1) x2⟩
    · have hr := Lib.hid (show rcovB a1 e1 d1 a2 e2 d2 = !((numL a2 e2 d2).any fun x => !hasB (numL a1 e1 d1) x) by unfold rcovB; rw [h, h2, any_all]; rfl)
      have hi := Lib.hid (rangeB_in h)
      have hi2 := Lib.hid (rangeB_in h2)
      have h' := Lib.hid h
      have h2' := Lib.hid h2
      clear h h2
      go_enter Try.func18, Try.ntmps18
      go_wp2_with fail
      refine (isRange_c a1 e1 d1 _).mono ?_
      rintro r w1 ⟨rfl, x1⟩
      rw [h'.out]
      have c0 := x1.cell (p := ⟨w.heap.size, 0, none⟩) (v := .int .i64 a1) (by first | (simp; done) | (rw [World.cell?_alloc_lt _ _ _ (by simp)]; simp))
      have c1 := x1.cell (p := ⟨w.heap.size, 1, none⟩) (v := .int .i64 e1) (by first | (simp; done) | (rw [World.cell?_alloc_lt _ _ _ (by simp)]; simp))
      have c2 := x1.cell (p := ⟨w.heap.size, 2, none⟩) (v := .int .i64 d1) (by first | (simp; done) | (rw [World.cell?_alloc_lt _ _ _ (by simp)]; simp))
      have c3 := x1.cell (p := ⟨w.heap.size + 1, 0, none⟩) (v := .int .i64 a2) (by simp)
      have c4 := x1.cell (p := ⟨w.heap.size + 1, 1, none⟩) (v := .int .i64 e2) (by simp)
      have c5 := x1.cell (p := ⟨w.heap.size + 1, 2, none⟩) (v := .int .i64 d2) (by simp)
      have X1 : Ext w w1 := Ext.trans (by repeat (first | exact Ext.refl _ | assumption | apply Ext.drewN | apply Ext.drew | apply Ext.alloc)) x1
      go_wp2_with fail
      refine (isRange_c a2 e2 d2 _).mono ?_
      rintro r w2 ⟨rfl, x2⟩
      rw [h2'.out]
      replace c0 := x2.cell c0
      replace c1 := x2.cell c1
      replace c2 := x2.cell c2
      replace c3 := x2.cell c3
      replace c4 := x2.cell c4
      replace c5 := x2.cell c5
      have X2 : Ext w w2 := X1.trans x2
      go_wp2_with fail
      refine (numbersOf_c a1 e1 d1 _ (by have := hi.out; omega) (by have := hi.out; omega) (by have := hi.out; omega) hi.out.2.2.2).mono ?_
      rintro r w3 ⟨v3, rfl, i3, -, x3⟩
      replace c3 := x3.cell c3
      replace c4 := x3.cell c4
      replace c5 := x3.cell c5
      have X3 : Ext w w3 := X2.trans x3
      have z3 : w.heap.size + 1 < w3.heap.size := World.block_lt_of_cell? _ _ c3
      obtain ⟨p3, q3, rfl⟩ := i3.form
      clear c0 c1 c2
      go_wp2_with fail
      refine (numbersOf_c a2 e2 d2 _ (by have := hi2.out; omega) (by have := hi2.out; omega) (by have := hi2.out; omega) hi2.out.2.2.2).mono ?_
      rintro r w4 ⟨v4, rfl, i4, -, x4⟩
      have hc := x4.cell (p := ⟨w3.heap.size, 0, none⟩) (v := .slice p3 (numL a1 e1 d1).length q3) (by simp)
      have hq := Lib.hid (coversF_c w4 _ _ _ _ hc ((i3.ext (by repeat (first | exact Ext.refl _ | assumption | apply Ext.drewN | apply Ext.drew | apply Ext.alloc))).ext x4))
      have X4 : Ext w w4 := X3.trans (Ext.trans (by repeat (first | exact Ext.refl _ | assumption | apply Ext.drewN | apply Ext.drew | apply Ext.alloc)) x4)
      go_wp2_with fail
      refine (containsFunc_c _ _ _ _ _ _ _ i4 hq.out).mono ?_
      rintro r w' ⟨rfl, rfl⟩
      go_wp2_with fail
      go_ret
      exact ⟨by rw [hr.out] <;> rfl, X4⟩

theorem validRange_t {a b s : Int} (h : rangeB a b s = true) (w : World) :
    Calls Try.prog 53 #[.agg #[.int .i64 a, .int .i64 b, .int .i64 s]] w fun e w' => e = .returned (.bool true) ∧ Ext w w' := by
  have := validRange_c a b s w; rwa [h] at this
theorem validRange_f {a b s : Int} (h : rangeB a b s = false) (w : World) :
    Calls Try.prog 53 #[.agg #[.int .i64 a, .int .i64 b, .int .i64 s]] w fun e w' => e = .returned (.bool false) ∧ Ext w w' := by
  have := validRange_c a b s w; rwa [h] at this
theorem common_all (ys xs : List Int) : ((meetL ys xs).length == ys.length) = ys.all fun x => xs.contains x := by
  unfold meetL
  rw [Bool.eq_iff_iff, beq_iff_eq, List.length_filter_eq_length_iff]
  simp

set_option maxHeartbeats 1600000 in
theorem specCoversRange_c (a1 e1 d1 a2 e2 d2 : Int) (w : World) :
    Calls Try.prog 20 #[.agg #[.int .i64 a1, .int .i64 e1, .int .i64 d1], .agg #[.int .i64 a2, .int .i64 e2, .int .i64 d2]] w (fun r w' => r = .returned (.bool (rcovB a1 e1 d1 a2 e2 d2)) ∧ Ext w w') := by
  have hz0 : ∀ (i j : Nat), True := fun _ _ => trivial
  clear hz0
  have c0 : ((w.alloc (.cells #[.int .i64 a1, .int .i64 e1, .int .i64 d1] 24)).alloc (.cells #[.int .i64 a2, .int .i64 e2, .int .i64 d2] 24)).cell? ⟨w.heap.size, 0, none⟩ = some (.int .i64 a1) := by rw [World.cell?_alloc_lt _ _ _ (by simp)]; simp
  have c1 : ((w.alloc (.cells #[.int .i64 a1, .int .i64 e1, .int .i64 d1] 24)).alloc (.cells #[.int .i64 a2, .int .i64 e2, .int .i64 d2] 24)).cell? ⟨w.heap.size, 1, none⟩ = some (.int .i64 e1) := by rw [World.cell?_alloc_lt _ _ _ (by simp)]; simp
  have c2 : ((w.alloc (.cells #[.int .i64 a1, .int .i64 e1, .int .i64 d1] 24)).alloc (.cells #[.int .i64 a2, .int .i64 e2, .int .i64 d2] 24)).cell? ⟨w.heap.size, 2, none⟩ = some (.int .i64 d1) := by rw [World.cell?_alloc_lt _ _ _ (by simp)]; simp
  have c3 : ((w.alloc (.cells #[.int .i64 a1, .int .i64 e1, .int .i64 d1] 24)).alloc (.cells #[.int .i64 a2, .int .i64 e2, .int .i64 d2] 24)).cell? ⟨w.heap.size + 1, 0, none⟩ = some (.int .i64 a2) := by simp
  have c4 : ((w.alloc (.cells #[.int .i64 a1, .int .i64 e1, .int .i64 d1] 24)).alloc (.cells #[.int .i64 a2, .int .i64 e2, .int .i64 d2] 24)).cell? ⟨w.heap.size + 1, 1, none⟩ = some (.int .i64 e2) := by simp
  have c5 : ((w.alloc (.cells #[.int .i64 a1, .int .i64 e1, .int .i64 d1] 24)).alloc (.cells #[.int .i64 a2, .int .i64 e2, .int .i64 d2] 24)).cell? ⟨w.heap.size + 1, 2, none⟩ = some (.int .i64 d2) := by simp
  have X0 : Ext w ((w.alloc (.cells #[.int .i64 a1, .int .i64 e1, .int .i64 d1] 24)).alloc (.cells #[.int .i64 a2, .int .i64 e2, .int .i64 d2] 24)) := (by repeat (first | exact Ext.refl _ | assumption | apply Ext.drewN | apply Ext.drew | apply Ext.alloc))
  cases h : rangeB a1 e1 d1
  · have hr := Lib.hid (show rcovB a1 e1 d1 a2 e2 d2 = false by unfold rcovB; rw [h]; rfl)
    have h' := Lib.hid h
    clear h
    go_enter Try.func20, Try.ntmps20
    go_wp2_with fail
    revert c0 c1 c2 c3 c4 c5 X0
    generalize (w.alloc (.cells #[.int .i64 a1, .int .i64 e1, .int .i64 d1] 24)).alloc (.cells #[.int .i64 a2, .int .i64 e2, .int .i64 d2] 24) = w0
    intro c0 c1 c2 c3 c4 c5 X0
    have Y : Ext w0 w0 := Ext.refl _
    refine wp_region_held_drew (S := fun w' => w'.cell? ⟨w.heap.size, 0, none⟩ = some (.int .i64 a1) ∧ w'.cell? ⟨w.heap.size, 1, none⟩ = some (.int .i64 e1) ∧ w'.cell? ⟨w.heap.size, 2, none⟩ = some (.int .i64 d1) ∧ w'.cell? ⟨w.heap.size + 1, 0, none⟩ = some (.int .i64 a2) ∧ w'.cell? ⟨w.heap.size + 1, 1, none⟩ = some (.int .i64 e2) ∧ w'.cell? ⟨w.heap.size + 1, 2, none⟩ = some (.int .i64 d2)) (by kernel_rfl) ⟨c0, c1, c2, c3, c4, c5⟩ (fun hHeld => ?_)
    refine wpAnyH_take (i := 0) (v := ?_) rfl (by kernel_rfl) (by kernel_rfl) (by kernel_rfl) (fun _ _ _ h => h) (Or.inl ⟨by rfl, ?_⟩) (by assumption) ?_
    rotate_left
    · (intro w hSw; (try dsimp only at hSw); go_simp; try with_reducible rfl)
    try simp only [Act.put, List.setIfInBounds_toArray, List.set_cons_zero, List.set_cons_succ, List.getElem_toArray, List.getElem_cons_zero]
    refine wpAnyH_ready (rs := [1]) (by kernel_rfl) (by simp) ?_
    refine AllReadyH.cons rfl (fun K hK => ?_) AllReadyH.nil
    try simp only [Act.put, List.setIfInBounds_toArray, List.set_cons_zero, List.set_cons_succ, List.getElem_toArray, List.getElem_cons_succ, List.getElem_cons_zero]
    go_simp
    refine (validRange_f h'.out _).mono ?_
    rintro e wr1 ⟨rfl, xx⟩
    have Y : Ext w0 wr1 := Ext.trans (by repeat (first | exact Y | exact Ext.refl _ | apply Ext.drewN | apply Ext.drew | apply Ext.alloc)) xx
    refine hK.out _ _ ⟨Y.cell c0, Y.cell c1, Y.cell c2, Y.cell c3, Y.cell c4, Y.cell c5⟩ (fun hHeld => ?_)
    clear hK K
    try simp only [Act.put, List.setIfInBounds_toArray, List.set_cons_zero, List.set_cons_succ, List.getElem_toArray, List.getElem_cons_succ, List.getElem_cons_zero]
    refine wpAnyH_take (i := 2) (v := ?_) rfl (by kernel_rfl) (by kernel_rfl) (by kernel_rfl) (fun _ _ _ h => h) (Or.inl ⟨by rfl, ?_⟩) (by assumption) ?_
    rotate_left
    · (intro w hSw; (try dsimp only at hSw); go_simp; try with_reducible rfl)
    try simp only [Act.put, List.setIfInBounds_toArray, List.set_cons_zero, List.set_cons_succ, List.getElem_toArray, List.getElem_cons_succ, List.getElem_cons_zero]
    refine wpAnyH_take (i := 3) (v := undef) rfl (by kernel_rfl) (by kernel_rfl) (by kernel_rfl) (fun _ _ _ h => h) (Or.inr ⟨by rfl, rfl⟩) (by assumption) ?_
    try simp only [Act.put, List.setIfInBounds_toArray, List.set_cons_zero, List.set_cons_succ, List.getElem_toArray, List.getElem_cons_succ, List.getElem_cons_zero]
    refine wpAnyH_take (i := 4) (v := undef) rfl (by kernel_rfl) (by kernel_rfl) (by kernel_rfl) (fun _ _ _ h => h) (Or.inr ⟨by rfl, rfl⟩) (by assumption) ?_
    try simp only [Act.put, List.setIfInBounds_toArray, List.set_cons_zero, List.set_cons_succ, List.getElem_toArray, List.getElem_cons_succ, List.getElem_cons_zero]
    refine wpAnyH_take (i := 5) (v := ?_) rfl (by kernel_rfl) (by kernel_rfl) (by kernel_rfl) (fun _ _ _ h => h) (Or.inl ⟨by rfl, ?_⟩) (by assumption) ?_
    rotate_left
    · (intro w hSw; (try dsimp only at hSw); go_simp; try with_reducible rfl)
    try simp only [Act.put, List.setIfInBounds_toArray, List.set_cons_zero, List.set_cons_succ, List.getElem_toArray, List.getElem_cons_succ, List.getElem_cons_zero]
    refine wpAnyH_take (i := 6) (v := ?_) rfl (by kernel_rfl) (by kernel_rfl) (by kernel_rfl) (fun _ _ _ h => h) (Or.inl ⟨by rfl, ?_⟩) (by assumption) ?_
    rotate_left
    · (intro w hSw; (try dsimp only at hSw); go_simp; try with_reducible rfl)
    try simp only [Act.put, List.setIfInBounds_toArray, List.set_cons_zero, List.set_cons_succ, List.getElem_toArray, List.getElem_cons_succ, List.getElem_cons_zero]
    refine wpAnyH_take (i := 7) (v := undef) rfl (by kernel_rfl) (by kernel_rfl) (by kernel_rfl) (fun _ _ _ h => h) (Or.inr ⟨by rfl, rfl⟩) (by assumption) ?_
    try simp only [Act.put, List.setIfInBounds_toArray, List.set_cons_zero, List.set_cons_succ, List.getElem_toArray, List.getElem_cons_succ, List.getElem_cons_zero]
    refine wpAnyH_take (i := 8) (v := undef) rfl (by kernel_rfl) (by kernel_rfl) (by kernel_rfl) (fun _ _ _ h => h) (Or.inr ⟨by rfl, rfl⟩) (by assumption) ?_
    try simp only [Act.put, List.setIfInBounds_toArray, List.set_cons_zero, List.set_cons_succ, List.getElem_toArray, List.getElem_cons_succ, List.getElem_cons_zero]
    refine wpAnyH_take (i := 9) (v := undef) rfl (by kernel_rfl) (by kernel_rfl) (by kernel_rfl) (fun _ _ _ h => h) (Or.inr ⟨by rfl, rfl⟩) (by assumption) ?_
    try simp only [Act.put, List.setIfInBounds_toArray, List.set_cons_zero, List.set_cons_succ, List.getElem_toArray, List.getElem_cons_succ, List.getElem_cons_zero]
    refine wpAnyH_take (i := 10) (v := undef) rfl (by kernel_rfl) (by kernel_rfl) (by kernel_rfl) (fun _ _ _ h => h) (Or.inr ⟨by rfl, rfl⟩) (by assumption) ?_
    try simp only [Act.put, List.setIfInBounds_toArray, List.set_cons_zero, List.set_cons_succ, List.getElem_toArray, List.getElem_cons_succ, List.getElem_cons_zero]
    refine wpAnyH_take (i := 11) (v := undef) rfl (by kernel_rfl) (by kernel_rfl) (by kernel_rfl) (fun _ _ _ h => h) (Or.inr ⟨by rfl, rfl⟩) (by assumption) ?_
    try simp only [Act.put, List.setIfInBounds_toArray, List.set_cons_zero, List.set_cons_succ, List.getElem_toArray, List.getElem_cons_succ, List.getElem_cons_zero]
    refine wpAnyH_take (i := 12) (v := undef) rfl (by kernel_rfl) (by kernel_rfl) (by kernel_rfl) (fun _ _ _ h => h) (Or.inr ⟨by rfl, rfl⟩) (by assumption) ?_
    try simp only [Act.put, List.setIfInBounds_toArray, List.set_cons_zero, List.set_cons_succ, List.getElem_toArray, List.getElem_cons_succ, List.getElem_cons_zero]
    refine wpAnyH_take (i := 13) (v := undef) rfl (by kernel_rfl) (by kernel_rfl) (by kernel_rfl) (fun _ _ _ h => h) (Or.inr ⟨by rfl, rfl⟩) (by assumption) ?_
    try simp only [Act.put, List.setIfInBounds_toArray, List.set_cons_zero, List.set_cons_succ, List.getElem_toArray, List.getElem_cons_succ, List.getElem_cons_zero]
    refine wpAnyH_take (i := 14) (v := undef) rfl (by kernel_rfl) (by kernel_rfl) (by kernel_rfl) (fun _ _ _ h => h) (Or.inr ⟨by rfl, rfl⟩) (by assumption) ?_
    try simp only [Act.put, List.setIfInBounds_toArray, List.set_cons_zero, List.set_cons_succ, List.getElem_toArray, List.getElem_cons_succ, List.getElem_cons_zero]
    refine wpAnyH_take (i := 15) (v := undef) rfl (by kernel_rfl) (by kernel_rfl) (by kernel_rfl) (fun _ _ _ h => h) (Or.inr ⟨by rfl, rfl⟩) (by assumption) ?_
    try simp only [Act.put, List.setIfInBounds_toArray, List.set_cons_zero, List.set_cons_succ, List.getElem_toArray, List.getElem_cons_succ, List.getElem_cons_zero]
    refine wpAnyH_take (i := 16) (v := undef) rfl (by kernel_rfl) (by kernel_rfl) (by kernel_rfl) (fun _ _ _ h => h) (Or.inr ⟨by rfl, rfl⟩) (by assumption) ?_
    try simp only [Act.put, List.setIfInBounds_toArray, List.set_cons_zero, List.set_cons_succ, List.getElem_toArray, List.getElem_cons_succ, List.getElem_cons_zero]
    refine wpAnyH_take (i := 17) (v := ?_) rfl (by kernel_rfl) (by kernel_rfl) (by kernel_rfl) (fun _ _ _ h => h) (Or.inl ⟨by rfl, ?_⟩) (by assumption) ?_
    rotate_left
    · (intro w hSw; (try dsimp only at hSw); go_simp; try with_reducible rfl)
    try simp only [Act.put, List.setIfInBounds_toArray, List.set_cons_zero, List.set_cons_succ, List.getElem_toArray, List.getElem_cons_succ, List.getElem_cons_zero]
    refine wpAnyH_take (i := 18) (v := ?_) rfl (by kernel_rfl) (by kernel_rfl) (by kernel_rfl) (fun _ _ _ h => h) (Or.inl ⟨by rfl, ?_⟩) (by assumption) ?_
    rotate_left
    · (intro w hSw; (try dsimp only at hSw); go_simp; try with_reducible rfl)
    try simp only [Act.put, List.setIfInBounds_toArray, List.set_cons_zero, List.set_cons_succ, List.getElem_toArray, List.getElem_cons_succ, List.getElem_cons_zero]
    refine wpAnyH_done (by kernel_rfl) ?_ _
    go_wp2_with fail
    go_ret
    refine ⟨?_, X0.trans Y⟩
    rw [hr.out]
    refine ret_b ?_
    first | rfl | (rw [Bool.eq_iff_iff]; simp <;> omega)
  · cases h2 : rangeB a2 e2 d2
    · have hr := Lib.hid (show rcovB a1 e1 d1 a2 e2 d2 = false by unfold rcovB; rw [h, h2]; rfl)
      have h' := Lib.hid h
      have h2' := Lib.hid h2
      clear h h2
      go_enter Try.func20, Try.ntmps20
      go_wp2_with fail
      revert c0 c1 c2 c3 c4 c5 X0
      generalize (w.alloc (.cells #[.int .i64 a1, .int .i64 e1, .int .i64 d1] 24)).alloc (.cells #[.int .i64 a2, .int .i64 e2, .int .i64 d2] 24) = w0
      intro c0 c1 c2 c3 c4 c5 X0
      have Y : Ext w0 w0 := Ext.refl _
      refine wp_region_held_drew (S := fun w' => w'.cell? ⟨w.heap.size, 0, none⟩ = some (.int .i64 a1) ∧ w'.cell? ⟨w.heap.size, 1, none⟩ = some (.int .i64 e1) ∧ w'.cell? ⟨w.heap.size, 2, none⟩ = some (.int .i64 d1) ∧ w'.cell? ⟨w.heap.size + 1, 0, none⟩ = some (.int .i64 a2) ∧ w'.cell? ⟨w.heap.size + 1, 1, none⟩ = some (.int .i64 e2) ∧ w'.cell? ⟨w.heap.size + 1, 2, none⟩ = some (.int .i64 d2)) (by kernel_rfl) ⟨c0, c1, c2, c3, c4, c5⟩ (fun hHeld => ?_)
      refine wpAnyH_take (i := 0) (v := ?_) rfl (by kernel_rfl) (by kernel_rfl) (by kernel_rfl) (fun _ _ _ h => h) (Or.inl ⟨by rfl, ?_⟩) (by assumption) ?_
      rotate_left
      · (intro w hSw; (try dsimp only at hSw); go_simp; try with_reducible rfl)
      try simp only [Act.put, List.setIfInBounds_toArray, List.set_cons_zero, List.set_cons_succ, List.getElem_toArray, List.getElem_cons_zero]
      refine wpAnyH_ready (rs := [1]) (by kernel_rfl) (by simp) ?_
      refine AllReadyH.cons rfl (fun K hK => ?_) AllReadyH.nil
      try simp only [Act.put, List.setIfInBounds_toArray, List.set_cons_zero, List.set_cons_succ, List.getElem_toArray, List.getElem_cons_succ, List.getElem_cons_zero]
      go_simp
      refine (validRange_t h'.out _).mono ?_
      rintro e wr1 ⟨rfl, xx⟩
      have Y : Ext w0 wr1 := Ext.trans (by repeat (first | exact Y | exact Ext.refl _ | apply Ext.drewN | apply Ext.drew | apply Ext.alloc)) xx
      refine hK.out _ _ ⟨Y.cell c0, Y.cell c1, Y.cell c2, Y.cell c3, Y.cell c4, Y.cell c5⟩ (fun hHeld => ?_)
      clear hK K
      try simp only [Act.put, List.setIfInBounds_toArray, List.set_cons_zero, List.set_cons_succ, List.getElem_toArray, List.getElem_cons_succ, List.getElem_cons_zero]
      refine wpAnyH_take (i := 2) (v := ?_) rfl (by kernel_rfl) (by kernel_rfl) (by kernel_rfl) (fun _ _ _ h => h) (Or.inl ⟨by rfl, ?_⟩) (by assumption) ?_
      rotate_left
      · (intro w hSw; (try dsimp only at hSw); go_simp; try with_reducible rfl)
      try simp only [Act.put, List.setIfInBounds_toArray, List.set_cons_zero, List.set_cons_succ, List.getElem_toArray, List.getElem_cons_succ, List.getElem_cons_zero]
      refine wpAnyH_take (i := 3) (v := ?_) rfl (by kernel_rfl) (by kernel_rfl) (by kernel_rfl) (fun _ _ _ h => h) (Or.inl ⟨by rfl, ?_⟩) (by assumption) ?_
      rotate_left
      · (intro w hSw; (try dsimp only at hSw); go_simp; try with_reducible rfl)
      try simp only [Act.put, List.setIfInBounds_toArray, List.set_cons_zero, List.set_cons_succ, List.getElem_toArray, List.getElem_cons_succ, List.getElem_cons_zero]
      refine wpAnyH_ready (rs := [4]) (by kernel_rfl) (by simp) ?_
      refine AllReadyH.cons rfl (fun K hK => ?_) AllReadyH.nil
      try simp only [Act.put, List.setIfInBounds_toArray, List.set_cons_zero, List.set_cons_succ, List.getElem_toArray, List.getElem_cons_succ, List.getElem_cons_zero]
      go_simp
      refine (validRange_f h2'.out _).mono ?_
      rintro e wr2 ⟨rfl, xx⟩
      have Y : Ext w0 wr2 := Ext.trans (by repeat (first | exact Y | exact Ext.refl _ | apply Ext.drewN | apply Ext.drew | apply Ext.alloc)) xx
      refine hK.out _ _ ⟨Y.cell c0, Y.cell c1, Y.cell c2, Y.cell c3, Y.cell c4, Y.cell c5⟩ (fun hHeld => ?_)
      clear hK K
      try simp only [Act.put, List.setIfInBounds_toArray, List.set_cons_zero, List.set_cons_succ, List.getElem_toArray, List.getElem_cons_succ, List.getElem_cons_zero]
      refine wpAnyH_take (i := 5) (v := ?_) rfl (by kernel_rfl) (by kernel_rfl) (by kernel_rfl) (fun _ _ _ h => h) (Or.inl ⟨by rfl, ?_⟩) (by assumption) ?_
      rotate_left
      · (intro w hSw; (try dsimp only at hSw); go_simp; try with_reducible rfl)
      try simp only [Act.put, List.setIfInBounds_toArray, List.set_cons_zero, List.set_cons_succ, List.getElem_toArray, List.getElem_cons_succ, List.getElem_cons_zero]
      refine wpAnyH_take (i := 6) (v := ?_) rfl (by kernel_rfl) (by kernel_rfl) (by kernel_rfl) (fun _ _ _ h => h) (Or.inl ⟨by rfl, ?_⟩) (by assumption) ?_
      rotate_left
      · (intro w hSw; (try dsimp only at hSw); go_simp; try with_reducible rfl)
      try simp only [Act.put, List.setIfInBounds_toArray, List.set_cons_zero, List.set_cons_succ, List.getElem_toArray, List.getElem_cons_succ, List.getElem_cons_zero]
      refine wpAnyH_take (i := 7) (v := undef) rfl (by kernel_rfl) (by kernel_rfl) (by kernel_rfl) (fun _ _ _ h => h) (Or.inr ⟨by rfl, rfl⟩) (by assumption) ?_
      try simp only [Act.put, List.setIfInBounds_toArray, List.set_cons_zero, List.set_cons_succ, List.getElem_toArray, List.getElem_cons_succ, List.getElem_cons_zero]
      refine wpAnyH_take (i := 8) (v := undef) rfl (by kernel_rfl) (by kernel_rfl) (by kernel_rfl) (fun _ _ _ h => h) (Or.inr ⟨by rfl, rfl⟩) (by assumption) ?_
      try simp only [Act.put, List.setIfInBounds_toArray, List.set_cons_zero, List.set_cons_succ, List.getElem_toArray, List.getElem_cons_succ, List.getElem_cons_zero]
      refine wpAnyH_take (i := 9) (v := undef) rfl (by kernel_rfl) (by kernel_rfl) (by kernel_rfl) (fun _ _ _ h => h) (Or.inr ⟨by rfl, rfl⟩) (by assumption) ?_
      try simp only [Act.put, List.setIfInBounds_toArray, List.set_cons_zero, List.set_cons_succ, List.getElem_toArray, List.getElem_cons_succ, List.getElem_cons_zero]
      refine wpAnyH_take (i := 10) (v := undef) rfl (by kernel_rfl) (by kernel_rfl) (by kernel_rfl) (fun _ _ _ h => h) (Or.inr ⟨by rfl, rfl⟩) (by assumption) ?_
      try simp only [Act.put, List.setIfInBounds_toArray, List.set_cons_zero, List.set_cons_succ, List.getElem_toArray, List.getElem_cons_succ, List.getElem_cons_zero]
      refine wpAnyH_take (i := 11) (v := undef) rfl (by kernel_rfl) (by kernel_rfl) (by kernel_rfl) (fun _ _ _ h => h) (Or.inr ⟨by rfl, rfl⟩) (by assumption) ?_
      try simp only [Act.put, List.setIfInBounds_toArray, List.set_cons_zero, List.set_cons_succ, List.getElem_toArray, List.getElem_cons_succ, List.getElem_cons_zero]
      refine wpAnyH_take (i := 12) (v := undef) rfl (by kernel_rfl) (by kernel_rfl) (by kernel_rfl) (fun _ _ _ h => h) (Or.inr ⟨by rfl, rfl⟩) (by assumption) ?_
      try simp only [Act.put, List.setIfInBounds_toArray, List.set_cons_zero, List.set_cons_succ, List.getElem_toArray, List.getElem_cons_succ, List.getElem_cons_zero]
      refine wpAnyH_take (i := 13) (v := undef) rfl (by kernel_rfl) (by kernel_rfl) (by kernel_rfl) (fun _ _ _ h => h) (Or.inr ⟨by rfl, rfl⟩) (by assumption) ?_
      try simp only [Act.put, List.setIfInBounds_toArray, List.set_cons_zero, List.set_cons_succ, List.getElem_toArray, List.getElem_cons_succ, List.getElem_cons_zero]
      refine wpAnyH_take (i := 14) (v := undef) rfl (by kernel_rfl) (by kernel_rfl) (by kernel_rfl) (fun _ _ _ h => h) (Or.inr ⟨by rfl, rfl⟩) (by assumption) ?_
      try simp only [Act.put, List.setIfInBounds_toArray, List.set_cons_zero, List.set_cons_succ, List.getElem_toArray, List.getElem_cons_succ, List.getElem_cons_zero]
      refine wpAnyH_take (i := 15) (v := undef) rfl (by kernel_rfl) (by kernel_rfl) (by kernel_rfl) (fun _ _ _ h => h) (Or.inr ⟨by rfl, rfl⟩) (by assumption) ?_
      try simp only [Act.put, List.setIfInBounds_toArray, List.set_cons_zero, List.set_cons_succ, List.getElem_toArray, List.getElem_cons_succ, List.getElem_cons_zero]
      refine wpAnyH_take (i := 16) (v := undef) rfl (by kernel_rfl) (by kernel_rfl) (by kernel_rfl) (fun _ _ _ h => h) (Or.inr ⟨by rfl, rfl⟩) (by assumption) ?_
      try simp only [Act.put, List.setIfInBounds_toArray, List.set_cons_zero, List.set_cons_succ, List.getElem_toArray, List.getElem_cons_succ, List.getElem_cons_zero]
      refine wpAnyH_take (i := 17) (v := ?_) rfl (by kernel_rfl) (by kernel_rfl) (by kernel_rfl) (fun _ _ _ h => h) (Or.inl ⟨by rfl, ?_⟩) (by assumption) ?_
      rotate_left
      · (intro w hSw; (try dsimp only at hSw); go_simp; try with_reducible rfl)
      try simp only [Act.put, List.setIfInBounds_toArray, List.set_cons_zero, List.set_cons_succ, List.getElem_toArray, List.getElem_cons_succ, List.getElem_cons_zero]
      refine wpAnyH_take (i := 18) (v := ?_) rfl (by kernel_rfl) (by kernel_rfl) (by kernel_rfl) (fun _ _ _ h => h) (Or.inl ⟨by rfl, ?_⟩) (by assumption) ?_
      rotate_left
      · (intro w hSw; (try dsimp only at hSw); go_simp; try with_reducible rfl)
      try simp only [Act.put, List.setIfInBounds_toArray, List.set_cons_zero, List.set_cons_succ, List.getElem_toArray, List.getElem_cons_succ, List.getElem_cons_zero]
      refine wpAnyH_done (by kernel_rfl) ?_ _
      go_wp2_with fail
      go_ret
      refine ⟨?_, X0.trans Y⟩
      rw [hr.out]
      refine ret_b ?_
      first | rfl | (rw [Bool.eq_iff_iff]; simp <;> omega)
    · have hr := Lib.hid (show rcovB a1 e1 d1 a2 e2 d2 = ((meetL (numL a2 e2 d2) (numL a1 e1 d1)).length == (numL a2 e2 d2).length) by unfold rcovB; rw [h, h2, common_all]; rfl)
      have hi := Lib.hid (rangeB_in h)
      have hi2 := Lib.hid (rangeB_in h2)
      have h' := Lib.hid h
      have h2' := Lib.hid h2
      clear h h2
      go_enter Try.func20, Try.ntmps20
      go_wp2_with fail
      revert c0 c1 c2 c3 c4 c5 X0
      generalize (w.alloc (.cells #[.int .i64 a1, .int .i64 e1, .int .i64 d1] 24)).alloc (.cells #[.int .i64 a2, .int .i64 e2, .int .i64 d2] 24) = w0
      intro c0 c1 c2 c3 c4 c5 X0
      have Y : Ext w0 w0 := Ext.refl _
      refine wp_region_held_drew (S := fun w' => w'.cell? ⟨w.heap.size, 0, none⟩ = some (.int .i64 a1) ∧ w'.cell? ⟨w.heap.size, 1, none⟩ = some (.int .i64 e1) ∧ w'.cell? ⟨w.heap.size, 2, none⟩ = some (.int .i64 d1) ∧ w'.cell? ⟨w.heap.size + 1, 0, none⟩ = some (.int .i64 a2) ∧ w'.cell? ⟨w.heap.size + 1, 1, none⟩ = some (.int .i64 e2) ∧ w'.cell? ⟨w.heap.size + 1, 2, none⟩ = some (.int .i64 d2)) (by kernel_rfl) ⟨c0, c1, c2, c3, c4, c5⟩ (fun hHeld => ?_)
      refine wpAnyH_take (i := 0) (v := ?_) rfl (by kernel_rfl) (by kernel_rfl) (by kernel_rfl) (fun _ _ _ h => h) (Or.inl ⟨by rfl, ?_⟩) (by assumption) ?_
      rotate_left
      · (intro w hSw; (try dsimp only at hSw); go_simp; try with_reducible rfl)
      try simp only [Act.put, List.setIfInBounds_toArray, List.set_cons_zero, List.set_cons_succ, List.getElem_toArray, List.getElem_cons_zero]
      refine wpAnyH_ready (rs := [1]) (by kernel_rfl) (by simp) ?_
      refine AllReadyH.cons rfl (fun K hK => ?_) AllReadyH.nil
      try simp only [Act.put, List.setIfInBounds_toArray, List.set_cons_zero, List.set_cons_succ, List.getElem_toArray, List.getElem_cons_succ, List.getElem_cons_zero]
      go_simp
      refine (validRange_t h'.out _).mono ?_
      rintro e wr1 ⟨rfl, xx⟩
      have Y : Ext w0 wr1 := Ext.trans (by repeat (first | exact Y | exact Ext.refl _ | apply Ext.drewN | apply Ext.drew | apply Ext.alloc)) xx
      refine hK.out _ _ ⟨Y.cell c0, Y.cell c1, Y.cell c2, Y.cell c3, Y.cell c4, Y.cell c5⟩ (fun hHeld => ?_)
      clear hK K
      try simp only [Act.put, List.setIfInBounds_toArray, List.set_cons_zero, List.set_cons_succ, List.getElem_toArray, List.getElem_cons_succ, List.getElem_cons_zero]
      refine wpAnyH_take (i := 2) (v := ?_) rfl (by kernel_rfl) (by kernel_rfl) (by kernel_rfl) (fun _ _ _ h => h) (Or.inl ⟨by rfl, ?_⟩) (by assumption) ?_
      rotate_left
      · (intro w hSw; (try dsimp only at hSw); go_simp; try with_reducible rfl)
      try simp only [Act.put, List.setIfInBounds_toArray, List.set_cons_zero, List.set_cons_succ, List.getElem_toArray, List.getElem_cons_succ, List.getElem_cons_zero]
      refine wpAnyH_take (i := 3) (v := ?_) rfl (by kernel_rfl) (by kernel_rfl) (by kernel_rfl) (fun _ _ _ h => h) (Or.inl ⟨by rfl, ?_⟩) (by assumption) ?_
      rotate_left
      · (intro w hSw; (try dsimp only at hSw); go_simp; try with_reducible rfl)
      try simp only [Act.put, List.setIfInBounds_toArray, List.set_cons_zero, List.set_cons_succ, List.getElem_toArray, List.getElem_cons_succ, List.getElem_cons_zero]
      refine wpAnyH_ready (rs := [4]) (by kernel_rfl) (by simp) ?_
      refine AllReadyH.cons rfl (fun K hK => ?_) AllReadyH.nil
      try simp only [Act.put, List.setIfInBounds_toArray, List.set_cons_zero, List.set_cons_succ, List.getElem_toArray, List.getElem_cons_succ, List.getElem_cons_zero]
      go_simp
      refine (validRange_t h2'.out _).mono ?_
      rintro e wr2 ⟨rfl, xx⟩
      have Y : Ext w0 wr2 := Ext.trans (by repeat (first | exact Y | exact Ext.refl _ | apply Ext.drewN | apply Ext.drew | apply Ext.alloc)) xx
      refine hK.out _ _ ⟨Y.cell c0, Y.cell c1, Y.cell c2, Y.cell c3, Y.cell c4, Y.cell c5⟩ (fun hHeld => ?_)
      clear hK K
      try simp only [Act.put, List.setIfInBounds_toArray, List.set_cons_zero, List.set_cons_succ, List.getElem_toArray, List.getElem_cons_succ, List.getElem_cons_zero]
      refine wpAnyH_take (i := 5) (v := ?_) rfl (by kernel_rfl) (by kernel_rfl) (by kernel_rfl) (fun _ _ _ h => h) (Or.inl ⟨by rfl, ?_⟩) (by assumption) ?_
      rotate_left
      · (intro w hSw; (try dsimp only at hSw); go_simp; try with_reducible rfl)
      try simp only [Act.put, List.setIfInBounds_toArray, List.set_cons_zero, List.set_cons_succ, List.getElem_toArray, List.getElem_cons_succ, List.getElem_cons_zero]
      refine wpAnyH_take (i := 6) (v := ?_) rfl (by kernel_rfl) (by kernel_rfl) (by kernel_rfl) (fun _ _ _ h => h) (Or.inl ⟨by rfl, ?_⟩) (by assumption) ?_
      rotate_left
      · (intro w hSw; (try dsimp only at hSw); go_simp; try with_reducible rfl)
      try simp only [Act.put, List.setIfInBounds_toArray, List.set_cons_zero, List.set_cons_succ, List.getElem_toArray, List.getElem_cons_succ, List.getElem_cons_zero]
      refine wpAnyH_take (i := 7) (v := ?_) rfl (by kernel_rfl) (by kernel_rfl) (by kernel_rfl) (fun _ _ _ h => h) (Or.inl ⟨by rfl, ?_⟩) (by assumption) ?_
      rotate_left
      · (intro w hSw; (try dsimp only at hSw); go_simp; try with_reducible rfl)
      try simp only [Act.put, List.setIfInBounds_toArray, List.set_cons_zero, List.set_cons_succ, List.getElem_toArray, List.getElem_cons_succ, List.getElem_cons_zero]
      refine wpAnyH_take (i := 9) (v := ?_) rfl (by kernel_rfl) (by kernel_rfl) (by kernel_rfl) (fun _ _ _ h => h) (Or.inl ⟨by rfl, ?_⟩) (by assumption) ?_
      rotate_left
      · (intro w hSw; (try dsimp only at hSw); go_simp; try with_reducible rfl)
      try simp only [Act.put, List.setIfInBounds_toArray, List.set_cons_zero, List.set_cons_succ, List.getElem_toArray, List.getElem_cons_succ, List.getElem_cons_zero]
      refine wpAnyH_take (i := 13) (v := ?_) rfl (by kernel_rfl) (by kernel_rfl) (by kernel_rfl) (fun _ _ _ h => h) (Or.inl ⟨by rfl, ?_⟩) (by assumption) ?_
      rotate_left
      · (intro w hSw; (try dsimp only at hSw); go_simp; try with_reducible rfl)
      try simp only [Act.put, List.setIfInBounds_toArray, List.set_cons_zero, List.set_cons_succ, List.getElem_toArray, List.getElem_cons_succ, List.getElem_cons_zero]
      refine wpAnyH_ready (rs := [8]) (by kernel_rfl) (by simp) ?_
      refine AllReadyH.cons rfl (fun K hK => ?_) AllReadyH.nil
      try simp only [Act.put, List.setIfInBounds_toArray, List.set_cons_zero, List.set_cons_succ, List.getElem_toArray, List.getElem_cons_succ, List.getElem_cons_zero]
      go_simp
      refine (numbers_c a2 e2 d2 _ (by have := hi2.out; omega) (by have := hi2.out; omega) (by have := hi2.out; omega) hi2.out.2.2.2).mono ?_
      rintro e wr3 ⟨v3, rfl, i3, -, xx⟩
      have Y : Ext w0 wr3 := Ext.trans (by repeat (first | exact Y | exact Ext.refl _ | apply Ext.drewN | apply Ext.drew | apply Ext.alloc)) xx
      obtain ⟨p3, q3, rfl⟩ := i3.form
      refine hK.out _ _ ⟨Y.cell c0, Y.cell c1, Y.cell c2, Y.cell c3, Y.cell c4, Y.cell c5⟩ (fun hHeld => ?_)
      clear hK K
      try simp only [Act.put, List.setIfInBounds_toArray, List.set_cons_zero, List.set_cons_succ, List.getElem_toArray, List.getElem_cons_succ, List.getElem_cons_zero]
      refine wpAnyH_ready (rs := [10]) (by kernel_rfl) (by simp) ?_
      refine AllReadyH.cons rfl (fun K hK => ?_) AllReadyH.nil
      try simp only [Act.put, List.setIfInBounds_toArray, List.set_cons_zero, List.set_cons_succ, List.getElem_toArray, List.getElem_cons_succ, List.getElem_cons_zero]
      go_simp
      refine (numbers_c a1 e1 d1 _ (by have := hi.out; omega) (by have := hi.out; omega) (by have := hi.out; omega) hi.out.2.2.2).mono ?_
      rintro e wr4 ⟨v4, rfl, i4, -, xx⟩
      have Y : Ext w0 wr4 := Ext.trans (by repeat (first | exact Y | exact Ext.refl _ | apply Ext.drewN | apply Ext.drew | apply Ext.alloc)) xx
      replace i3 := i3.ext (Ext.trans (by repeat (first | exact Ext.refl _ | assumption | apply Ext.drewN | apply Ext.drew | apply Ext.alloc)) xx)
      obtain ⟨p4, q4, rfl⟩ := i4.form
      refine hK.out _ _ ⟨Y.cell c0, Y.cell c1, Y.cell c2, Y.cell c3, Y.cell c4, Y.cell c5⟩ (fun hHeld => ?_)
      clear hK K
      try simp only [Act.put, List.setIfInBounds_toArray, List.set_cons_zero, List.set_cons_succ, List.getElem_toArray, List.getElem_cons_succ, List.getElem_cons_zero]
      refine wpAnyH_ready (rs := [11]) (by kernel_rfl) (by simp) ?_
      refine AllReadyH.cons rfl (fun K hK => ?_) AllReadyH.nil
      try simp only [Act.put, List.setIfInBounds_toArray, List.set_cons_zero, List.set_cons_succ, List.getElem_toArray, List.getElem_cons_succ, List.getElem_cons_zero]
      go_simp
      refine (common_c _ _ _ _ _ _ _ (i3.ext (by repeat (first | exact Ext.refl _ | assumption | apply Ext.drewN | apply Ext.drew | apply Ext.alloc))) (i4.ext (by repeat (first | exact Ext.refl _ | assumption | apply Ext.drewN | apply Ext.drew | apply Ext.alloc)))).mono ?_
      rintro e wr5 ⟨v5, rfl, i5, -, xx⟩
      have Y : Ext w0 wr5 := Ext.trans (by repeat (first | exact Y | exact Ext.refl _ | apply Ext.drewN | apply Ext.drew | apply Ext.alloc)) xx
      replace i3 := i3.ext (Ext.trans (by repeat (first | exact Ext.refl _ | assumption | apply Ext.drewN | apply Ext.drew | apply Ext.alloc)) xx)
      replace i4 := i4.ext (Ext.trans (by repeat (first | exact Ext.refl _ | assumption | apply Ext.drewN | apply Ext.drew | apply Ext.alloc)) xx)
      obtain ⟨p5, q5, rfl⟩ := i5.form
      refine hK.out _ _ ⟨Y.cell c0, Y.cell c1, Y.cell c2, Y.cell c3, Y.cell c4, Y.cell c5⟩ (fun hHeld => ?_)
      clear hK K
      try simp only [Act.put, List.setIfInBounds_toArray, List.set_cons_zero, List.set_cons_succ, List.getElem_toArray, List.getElem_cons_succ, List.getElem_cons_zero]
      refine wpAnyH_take (i := 12) (v := ?_) rfl (by kernel_rfl) (by kernel_rfl) (by kernel_rfl) (fun _ _ _ h => h) (Or.inl ⟨by rfl, ?_⟩) (by assumption) ?_
      rotate_left
      · (intro w hSw; (try dsimp only at hSw); go_simp; try with_reducible rfl)
      try simp only [Act.put, List.setIfInBounds_toArray, List.set_cons_zero, List.set_cons_succ, List.getElem_toArray, List.getElem_cons_succ, List.getElem_cons_zero]
      refine wpAnyH_ready (rs := [14]) (by kernel_rfl) (by simp) ?_
      refine AllReadyH.cons rfl (fun K hK => ?_) AllReadyH.nil
      try simp only [Act.put, List.setIfInBounds_toArray, List.set_cons_zero, List.set_cons_succ, List.getElem_toArray, List.getElem_cons_succ, List.getElem_cons_zero]
      go_simp
      refine (numbers_c a2 e2 d2 _ (by have := hi2.out; omega) (by have := hi2.out; omega) (by have := hi2.out; omega) hi2.out.2.2.2).mono ?_
      rintro e wr6 ⟨v6, rfl, i6, -, xx⟩
      have Y : Ext w0 wr6 := Ext.trans (by repeat (first | exact Y | exact Ext.refl _ | apply Ext.drewN | apply Ext.drew | apply Ext.alloc)) xx
      replace i3 := i3.ext (Ext.trans (by repeat (first | exact Ext.refl _ | assumption | apply Ext.drewN | apply Ext.drew | apply Ext.alloc)) xx)
      replace i4 := i4.ext (Ext.trans (by repeat (first | exact Ext.refl _ | assumption | apply Ext.drewN | apply Ext.drew | apply Ext.alloc)) xx)
      replace i5 := i5.ext (Ext.trans (by repeat (first | exact Ext.refl _ | assumption | apply Ext.drewN | apply Ext.drew | apply Ext.alloc)) xx)
      obtain ⟨p6, q6, rfl⟩ := i6.form
      refine hK.out _ _ ⟨Y.cell c0, Y.cell c1, Y.cell c2, Y.cell c3, Y.cell c4, Y.cell c5⟩ (fun hHeld => ?_)
      clear hK K
      try simp only [Act.put, List.setIfInBounds_toArray, List.set_cons_zero, List.set_cons_succ, List.getElem_toArray, List.getElem_cons_succ, List.getElem_cons_zero]
      refine wpAnyH_take (i := 15) (v := ?_) rfl (by kernel_rfl) (by kernel_rfl) (by kernel_rfl) (fun _ _ _ h => h) (Or.inl ⟨by rfl, ?_⟩) (by assumption) ?_
      rotate_left
      · (intro w hSw; (try dsimp only at hSw); go_simp; try with_reducible rfl)
      try simp only [Act.put, List.setIfInBounds_toArray, List.set_cons_zero, List.set_cons_succ, List.getElem_toArray, List.getElem_cons_succ, List.getElem_cons_zero]
      refine wpAnyH_take (i := 16) (v := ?_) rfl (by kernel_rfl) (by kernel_rfl) (by kernel_rfl) (fun _ _ _ h => h) (Or.inl ⟨by rfl, ?_⟩) (by assumption) ?_
      rotate_left
      · (intro w hSw; (try dsimp only at hSw); go_simp; try with_reducible rfl)
      try simp only [Act.put, List.setIfInBounds_toArray, List.set_cons_zero, List.set_cons_succ, List.getElem_toArray, List.getElem_cons_succ, List.getElem_cons_zero]
      refine wpAnyH_take (i := 17) (v := ?_) rfl (by kernel_rfl) (by kernel_rfl) (by kernel_rfl) (fun _ _ _ h => h) (Or.inl ⟨by rfl, ?_⟩) (by assumption) ?_
      rotate_left
      · (intro w hSw; (try dsimp only at hSw); go_simp; try with_reducible rfl)
      try simp only [Act.put, List.setIfInBounds_toArray, List.set_cons_zero, List.set_cons_succ, List.getElem_toArray, List.getElem_cons_succ, List.getElem_cons_zero]
      refine wpAnyH_take (i := 18) (v := ?_) rfl (by kernel_rfl) (by kernel_rfl) (by kernel_rfl) (fun _ _ _ h => h) (Or.inl ⟨by rfl, ?_⟩) (by assumption) ?_
      rotate_left
      · (intro w hSw; (try dsimp only at hSw); go_simp; try with_reducible rfl)
      try simp only [Act.put, List.setIfInBounds_toArray, List.set_cons_zero, List.set_cons_succ, List.getElem_toArray, List.getElem_cons_succ, List.getElem_cons_zero]
      refine wpAnyH_done (by kernel_rfl) ?_ _
      go_wp2_with fail
      go_ret
      refine ⟨?_, X0.trans Y⟩
      rw [hr.out]
      refine ret_b ?_
      first | rfl | (rw [Bool.eq_iff_iff]; simp <;> omega)
end Go.Proofs.Ytjpngmdfnglabaa
