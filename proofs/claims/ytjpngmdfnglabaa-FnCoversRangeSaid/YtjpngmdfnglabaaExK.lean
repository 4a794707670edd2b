/- Walks towards SplitDim: dimensions, ranks. -/
import Derived.Test.YtjpngmdfnglabaaExJ
import Derived.Test.YtjpngmdfnglabaaRngA
import Derived.Test.YtjpngmdfnglabaaPureC
namespace Go.Proofs.Ytjpngmdfnglabaa
open Go.RowKit
set_option linter.unusedVariables false
set_option maxRecDepth 100000

/-- is it a view with such a dimension? -/
def dimB (b : Int) (s t : List Int) (i : Int) : Bool := viewB b s t && inB 0 ((s.length : Int) - 1) i

set_option maxHeartbeats 1600000 in
theorem isDim_c (b1 : Int) (u1 v1 : Value) (s1 t1 : List Int) (i : Int) (w : World) (l1 m1 : Nat) (h1 : Ints w l1 u1 s1) (k1 : Ints w m1 v1 t1) (hl : s1.length ≤ 4) :
    Calls Try.prog 86 #[.agg #[.int .i64 b1, u1, v1], .int .i64 i] w (fun e w' => e = .returned (.bool (inB 0 ((s1.length : Int) - 1) i)) ∧ Ext w w') := by
  obtain ⟨a1, c1, rfl⟩ := h1.form
  have hw := Lib.hid (show wrap64 ((s1.length : Int) - 1) = (s1.length : Int) - 1 from IntWalk.wrap64_in _ ⟨by omega, by omega⟩)
  go_enter Try.func86, Try.ntmps86
  go_wp2_with (go_at_call 70; refine (inRange_c _ _ _ _).mono ?_; rintro e w' ⟨rfl, rfl⟩)
  go_ret
  exact ⟨rfl, (by repeat (first | exact Ext.refl _ | assumption | apply Ext.drewN | apply Ext.drew | apply Ext.alloc))⟩

set_option maxHeartbeats 3200000 in
theorem rank_c (xs ys : List Int) (a b : Value) (w : World) (la lb : Nat) (ha : Ints w la a xs) (hb : Ints w lb b ys) (hl : ys.length = xs.length) :
    Calls Try.prog 149 #[a, b] w fun e w' => e = .returned (.int .i64 (rankL xs ys)) ∧ Ext w w' := by
  obtain ⟨a1, c1, rfl, _, _, ⟨hlen, _⟩, hc1⟩ := ha
  obtain ⟨a2, c2, rfl, _, _, _, hc2⟩ := hb
  rw [hl] at hc2 ⊢
  replace hl := Lib.hid hl
  go_enter Try.func149, Try.ntmps149
  go_wp2_with fail
  go_loopw [5, 6] (fun n i wr => ∃ j m : Nat, j ≤ xs.length ∧ n = .int .i64 (rankL (xs.take j) ys) ∧ i = .int .i64 j ∧ wr = w.drewN m) (fun _ i _ => xs.length - (intOf i).toNat)
  case atStart => exact ⟨0, 0, Nat.zero_le _, rfl, rfl, rfl⟩
  case round =>
    obtain ⟨j, m, hj, rfl, rfl, rfl⟩ := hrel
    by_cases hjl : j < xs.length
    · obtain ⟨b1, off1, rfl, _, hcell1, _⟩ := hc1 j hjl
      obtain ⟨b2, off2, rfl, _, hcell2, _⟩ := hc2 j hjl
      have hjI : (j : Int) < xs.length := by omega
      have hn := Lib.hid (rankL_take xs ys j hjl (by have := hl.out; omega))
      clear hc1 hc2
      go_wp2_with fail
      go_quiet (fail)
      go_wp2_with fail
      go_roundw
      case rel => exact ⟨j+1, _, by omega, by rw [hn.out]; simp [List.getD_eq_getElem?_getD, List.getElem?_eq_getElem hjl], by go_num, rfl⟩
      case measure => simp [intOf]; omega
    · obtain rfl : j = xs.length := by omega
      go_wp2_with fail
      go_ret
      exact ⟨by rw [List.take_length] <;> rfl, (by repeat (first | exact Ext.refl _ | assumption | apply Ext.drewN | apply Ext.drew | apply Ext.alloc))⟩

set_option maxHeartbeats 1600000 in
theorem hasDim_c (b1 : Int) (u1 v1 : Value) (s1 t1 : List Int) (i : Int) (w : World) (l1 m1 : Nat) (h1 : Ints w l1 u1 s1) (k1 : Ints w m1 v1 t1) :
    Calls Try.prog 84 #[.agg #[.int .i64 b1, u1, v1], .int .i64 i] w (fun e w' => e = .returned (.bool (dimB b1 s1 t1 i)) ∧ Ext w w') := by
  obtain ⟨a1, c1, rfl⟩ := h1.form
  cases ha : viewB b1 s1 t1
  · have hr := Lib.hid (show dimB b1 s1 t1 i = false by unfold dimB; rw [ha]; rfl)
    go_enter Try.func84, Try.ntmps84
    go_wp2_with fail
    refine (isView_c b1 _ _ s1 t1 _ l1 m1 (h1.ext (by repeat (first | exact Ext.refl _ | assumption | apply Ext.drewN | apply Ext.drew | apply Ext.alloc))) (k1.ext (by repeat (first | exact Ext.refl _ | assumption | apply Ext.drewN | apply Ext.drew | apply Ext.alloc)))).mono ?_
    rintro e w1 ⟨rfl, xw1⟩
    have Xw1 : Ext w w1 := Ext.trans (by repeat (first | exact Ext.refl _ | assumption | apply Ext.drewN | apply Ext.drew | apply Ext.alloc)) xw1
    rw [ha]
    go_wp2_with fail
    go_ret
    exact ⟨by rw [hr.out] <;> rfl, Xw1⟩
  · have hr := Lib.hid (show dimB b1 s1 t1 i = inB 0 ((s1.length : Int) - 1) i by unfold dimB; rw [ha]; rfl)
    have ha' := Lib.hid ha
    clear ha
    go_enter Try.func84, Try.ntmps84
    go_wp2_with fail
    refine (isView_c b1 _ _ s1 t1 _ l1 m1 (h1.ext (by repeat (first | exact Ext.refl _ | assumption | apply Ext.drewN | apply Ext.drew | apply Ext.alloc))) (k1.ext (by repeat (first | exact Ext.refl _ | assumption | apply Ext.drewN | apply Ext.drew | apply Ext.alloc)))).mono ?_
    rintro e w1 ⟨rfl, xw1⟩
    have Xw1 : Ext w w1 := Ext.trans (by repeat (first | exact Ext.refl _ | assumption | apply Ext.drewN | apply Ext.drew | apply Ext.alloc)) xw1
    have c11 : w1.cell? ⟨w.heap.size, 1, none⟩ = some (.slice a1 s1.length c1) := xw1.cell (by first | (simp; done) | (go_simp; done))
    rw [ha'.out]
    go_wp2_with fail
    all_goals
      go_ret
      refine ⟨?_, Xw1⟩
      rw [hr.out]
      refine ret_b ?_
      first | rfl | (rw [Bool.eq_iff_iff]; simp [inB] <;> omega)

set_option maxHeartbeats 1600000 in
theorem cleared_0 (b1 : Int) (u1 v1 : Value) (s1 : List Int) (w : World) (l1 : Nat) (h1 : Ints w l1 u1 s1) (hc : countL s1 = 0) :
    Calls Try.prog 90 #[.agg #[.int .i64 b1, u1, v1]] w (fun e w' => ∃ st, e = .returned (.agg #[.int .i64 0, u1, st]) ∧ OwnI w' w.heap.size st (List.replicate s1.length 0) ∧ Ext w w') := by
  obtain ⟨a1, c1, rfl⟩ := h1.form
  have hlen : s1.length ≤ 4194304 := by obtain ⟨_, _, _, _, _, ⟨h, _⟩, _⟩ := h1; exact h
  have hmk := mk_ints s1.length hlen
  go_enter Try.func90, Try.ntmps90
  go_wp2_with (go_at_call 72; refine (countOf_c s1 _ _ l1 (h1.ext (by repeat (first | exact Ext.refl _ | assumption | apply Ext.drewN | apply Ext.drew | apply Ext.alloc)))).mono ?_; rintro e w' ⟨rfl, rfl⟩)
  refine bodyPost_ret (v := .agg #[.int .i64 0, .slice a1 s1.length c1, .slice (some ⟨w.heap.size + 2, 0, none⟩) s1.length s1.length]) (by simp only [results, Try.results90]; go_simp) rfl ?_
  refine ⟨_, rfl, ?_, ?_⟩
  · have := OwnI.made ((w.alloc (.cells #[.int .i64 0, .slice a1 s1.length c1, .slice (some ⟨w.heap.size + 1 + 1, 0, none⟩) s1.length s1.length] 37)).alloc (.cells #[.int .i64 0, .slice a1 s1.length c1, .slice (some ⟨w.heap.size + 1 + 1, 0, none⟩) s1.length s1.length] 37)) w.heap.size s1.length (by simp <;> omega) hlen
    simpa using this
  · exact (by repeat (first | exact Ext.refl _ | assumption | apply Ext.drewN | apply Ext.drew | apply Ext.alloc))

/-- the number of indices of a view without cells stays, its strides go -/
theorem cleared_1 (b1 : Int) (u1 v1 : Value) (s1 t1 : List Int) (w : World) (l1 m1 : Nat) (h1 : Ints w l1 u1 s1) (k1 : Ints w m1 v1 t1) (hc : countL s1 ≠ 0) :
    Calls Try.prog 90 #[.agg #[.int .i64 b1, u1, v1]] w (fun e w' => e = .returned (.agg #[.int .i64 b1, u1, v1]) ∧ Ext w w') := by
  obtain ⟨a1, c1, rfl⟩ := h1.form
  obtain ⟨a2, c2, rfl⟩ := k1.form
  have hc1 : (countL s1 == 0) = false := by simpa using hc
  have hc2 : decide (countL s1 = 0) = false := by simpa using hc
  go_enter Try.func90, Try.ntmps90
  go_wp2_with (go_at_call 72; refine (countOf_c s1 _ _ l1 (h1.ext (by repeat (first | exact Ext.refl _ | assumption | apply Ext.drewN | apply Ext.drew | apply Ext.alloc)))).mono ?_; rintro e w' ⟨rfl, rfl⟩)
  refine bodyPost_ret (v := .agg #[.int .i64 b1, .slice a1 s1.length c1, .slice a2 t1.length c2]) (by simp only [results, Try.results90]; go_simp) rfl ?_
  exact ⟨rfl, (by repeat (first | exact Ext.refl _ | assumption | apply Ext.drewN | apply Ext.drew | apply Ext.alloc))⟩

end Go.Proofs.Ytjpngmdfnglabaa
