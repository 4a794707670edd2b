/- Texts of these proofs put together: PureM, PureP, LvA, LvB, LvF, LvE, LvH, LvG, LvI, LvJ, PureR, TuP, Rec, RlA, RlT, RlL, TnP, TnA, KitC, KitD, KitE, ToA, LvK, LvM, TfA, TuA, DrM, TeA, LvL, LvN, LvP, DrC, DrD, DrF, LawFnTensorOf, RowFnTensorOf. No condition. -/
import Derived.Test.YtpgkhjmboiepcaaM1
import Derived.Test.YtpgkhjmboiepcaaM3
import Derived.Test.YtpgkhjmboiepcaaM2
set_option linter.unusedVariables false
set_option linter.unusedSimpArgs false
/- Plain laws on memories: what is stored last stays, what is added, sums. -/
namespace Go.Proofs.Ytpgkhjmboiepcaa
open Go.RowKit
set_option linter.unusedVariables false
set_option maxRecDepth 100000

end Go.Proofs.Ytpgkhjmboiepcaa

/- Plain laws: views with their dimensions in another order. -/
namespace Go.Proofs.Ytpgkhjmboiepcaa
open Go.RowKit
set_option linter.unusedVariables false
set_option maxRecDepth 100000

theorem perm_of_sub {α : Type} [BEq α] [LawfulBEq α] : ∀ (l m : List α), l.Nodup → m.Nodup → (∀ x ∈ l, x ∈ m) → l.length = m.length → l.Perm m
  | [], m, _, _, _, h => by cases m <;> simp_all
  | a :: l, m, hl, hm, hs, h => by
    have ha : a ∈ m := hs a (by simp)
    have p := List.perm_cons_erase ha
    refine List.Perm.trans ?_ p.symm
    refine List.Perm.cons a (perm_of_sub l (m.erase a) (List.nodup_cons.1 hl).2 (hm.erase a) ?_ ?_)
    · intro x hx
      rw [hm.mem_erase_iff]
      exact ⟨fun e => (List.nodup_cons.1 hl).1 (e ▸ hx), hs x (by simp [hx])⟩
    · have := p.length_eq; simp at this h ⊢; omega
theorem orderB_in {ord : List Int} {n : Nat} (h : orderB ord n = true) : ord.length = n ∧ (∀ x ∈ ord, 0 ≤ x ∧ x < n) ∧ ord.Nodup := by
  unfold orderB at h
  simp only [Bool.and_eq_true, decide_eq_true_eq, List.all_eq_true, inB] at h
  obtain ⟨h1, h2, h3⟩ := h
  exact ⟨by omega, fun x hx => by have := h2 x hx; omega, h3⟩
theorem upL_nodup (n : Nat) : (upL n).Nodup := by
  unfold upL
  rw [List.nodup_iff_pairwise_ne, List.pairwise_map]
  exact (List.nodup_range (n := n)).imp fun h e => h (by omega)
theorem upL_len (n : Nat) : (upL n).length = n := by simp [upL]
theorem order_perm {ord : List Int} {n : Nat} (h : orderB ord n = true) : ord.Perm (upL n) := by
  obtain ⟨h1, h2, h3⟩ := orderB_in h
  exact perm_of_sub _ _ h3 (upL_nodup n) (fun x hx => (upL_mem n x).2 (h2 x hx)) (by rw [h1, upL_len])
theorem zip_take (s t ord : List Int) : (takL s ord).zip (takL t ord) = ord.map fun i => (s.getD i.toNat 0, t.getD i.toNat 0) := by
  unfold takL; induction ord with
  | nil => rfl
  | cons a o ih => simp only [List.map_cons, List.zip_cons_cons, ih]
theorem zip_up (s t : List Int) (h : t.length = s.length) : ((upL s.length).map fun i => (s.getD i.toNat 0, t.getD i.toNat 0)) = s.zip t := by
  apply List.ext_getElem
  · simp [upL, h]
  · intro i h1 h2
    simp [upL] at h1 ⊢
    simp [h1, h]
theorem take_up (s : List Int) : takL s (upL s.length) = s := by
  apply List.ext_getElem
  · simp [takL, upL]
  · intro i h1 h2
    simp [takL, upL] at h1 ⊢
    simp [h1]
theorem zip_perm {s t ord : List Int} (h : t.length = s.length) (ho : orderB ord s.length = true) : ((takL s ord).zip (takL t ord)).Perm (s.zip t) := by
  rw [zip_take, ← zip_up s t h]
  exact (order_perm ho).map _
theorem take_perm {s ord : List Int} (ho : orderB ord s.length = true) : (takL s ord).Perm s := by
  have := (order_perm ho).map fun i : Int => s.getD i.toNat 0
  exact this.trans (by have := take_up s; unfold takL at this; rw [this])
theorem prodL_perm {a b : List Int} (h : a.Perm b) : prodL a = prodL b := by
  induction h with
  | nil => rfl
  | cons x _ ih => rw [prodL_cons, prodL_cons, ih]
  | swap x y l => simp only [prodL_cons]; rw [← Int.mul_assoc, ← Int.mul_assoc, Int.mul_comm y x]
  | trans _ _ ih1 ih2 => rw [ih1, ih2]
theorem perm_small {s ord : List Int} (hs : Small s) (ho : orderB ord s.length = true) : Small (takL s ord) :=
  ⟨by rw [takL_len, (orderB_in ho).1]; exact hs.1, fun e he => hs.2 e ((take_perm ho).mem_iff.1 he)⟩
theorem perm_count {s ord : List Int} (hs : Small s) (ho : orderB ord s.length = true) : countL (takL s ord) = countL s := by
  rw [hs.count.1, (perm_small hs ho).count.1, prodL_perm (take_perm ho)]
theorem perm_view {b : Int} {s t ord : List Int} (h : viewB b s t = true) (ho : orderB ord s.length = true) :
    viewB b (takL s ord) (takL t ord) = true ∧ (offsL b (takL s ord) (takL t ord)).Perm (offsL b s t) := by
  have hs := view_small h
  obtain ⟨h1, h2, h3, h4, h5⟩ := viewB_in h
  have hc := shapeB_in h1
  have hl : (takL t ord).length = (takL s ord).length := by rw [takL_len, takL_len]
  have ht : (takL t ord).Perm t := take_perm (by rw [h2]; exact ho)
  have ho' : orderB ord t.length = true := by rw [h2]; exact ho
  have hs' := perm_small hs ho
  have hm := view_mild h
  have hm' : Mild b (takL t ord) := ⟨hm.1, fun x hx => hm.2 x (ht.mem_iff.1 hx)⟩
  have hp : (offsL b (takL s ord) (takL t ord)).Perm (offsL b s t) := by
    rw [offs_C hs' hm', offs_C hs hm, offC_P _ _ _ hl, offC_P _ _ _ h2]
    exact offP_perm b (zip_perm h2 ho)
  refine ⟨viewB_mk (shapeB_mk hs' (by rw [perm_count hs ho]; omega)) hl h3 (fun x hx => h4 x (ht.mem_iff.1 hx)) (fun x hx => h5 x (hp.mem_iff.1 hx)), hp⟩

end Go.Proofs.Ytpgkhjmboiepcaa

/- Walks: ValidView, FitsIn, BoundsOf. -/
namespace Go.Proofs.Ytpgkhjmboiepcaa
open Go.RowKit
set_option linter.unusedVariables false
set_option maxRecDepth 100000


end Go.Proofs.Ytpgkhjmboiepcaa

/- Walks: OffsetsOf and IsRow of the program and of the reference. -/
namespace Go.Proofs.Ytpgkhjmboiepcaa
open Go.RowKit
set_option linter.unusedVariables false
set_option maxRecDepth 100000


end Go.Proofs.Ytpgkhjmboiepcaa

/- Walks: rowStrides of the program. -/
namespace Go.Proofs.Ytpgkhjmboiepcaa
open Go.RowKit
set_option linter.unusedVariables false
set_option maxRecDepth 100000

end Go.Proofs.Ytpgkhjmboiepcaa

/- Helpers of the laws: equal lists, equal views, a number in a list. -/
namespace Go.Proofs.Ytpgkhjmboiepcaa
open Go.RowKit
set_option linter.unusedVariables false
set_option maxRecDepth 100000



set_option maxHeartbeats 1600000 in
theorem leqInts_c (xs : List Int) (a b : Value) (w : World) (la lb : Nat) (ha : Ints w la a xs) (hb : Ints w lb b xs) :
    Calls Try.prog 15 #[a, b] w fun e w' => e = .returned (.bool true) ∧ Ext w w' := by
  obtain ⟨a1, cap1, rfl, _, _, ⟨hlen, _⟩, hc1⟩ := ha
  obtain ⟨a2, cap2, rfl, _, _, ⟨hlen2, _⟩, hc2⟩ := hb
  go_enter Try.func15, Try.ntmps15
  go_wp2_with fail
  go_loopw [5] (fun i wr => ∃ k m : Nat, k ≤ xs.length ∧ i = .int .i64 k ∧ wr = w.drewN m) (fun i _ => xs.length - (intOf i).toNat)
  case atStart => exact ⟨0, 0, Nat.zero_le _, rfl, rfl⟩
  case round =>
    obtain ⟨k, m, hk, rfl, rfl⟩ := hrel
    by_cases hlt : k < xs.length
    · obtain ⟨b1, off1, rfl, _, hcell1, _⟩ := hc1 k hlt
      obtain ⟨b2, off2, rfl, _, hcell2, _⟩ := hc2 k hlt
      have hk4 : (k : Int) < xs.length := by omega
      clear hc1 hc2
      generalize xs.getD k 0 = x at *
      go_wp2_with fail
      go_quiet (fail)
      go_wp2_with fail
      go_roundw
      case rel => exact ⟨k+1, _, by omega, by go_num, rfl⟩
      case measure => simp [intOf]; omega
    · obtain rfl : k = xs.length := by omega
      go_wp2_with fail
      go_ret
      exact ⟨rfl, qXo⟩

end Go.Proofs.Ytpgkhjmboiepcaa

/- Walks: helpers of the laws. -/
namespace Go.Proofs.Ytpgkhjmboiepcaa
open Go.RowKit
set_option linter.unusedVariables false
set_option maxRecDepth 100000

set_option maxHeartbeats 1600000 in
theorem lupTo_c (n : Nat) (w : World) (hn : n ≤ 1000) :
    Calls Try.prog 13 #[.int .i64 (n : Int)] w (PInts w (upL n)) := by
  go_enter Try.func13, Try.ntmps13
  go_wp2_with fail
  go_loopw [3, 4] (fun v i wr => ∃ k : Nat, k ≤ n ∧ i = .int .i64 k ∧ OwnI wr w.heap.size v (upL k) ∧ Ext w wr) (fun _ i _ => n - (intOf i).toNat)
  case atStart => exact ⟨0, Nat.zero_le _, rfl, OwnI.lit0 w w.heap.size (Nat.le_refl _), qXo⟩
  case round =>
    obtain ⟨k, hk, rfl, ho, hx⟩ := hrel
    have hz := hx.size
    have hl : (upL k).length = k := by simp [upL]
    by_cases hlt : k < n
    · have hI : (k : Int) < n := by omega
      have hs := Lib.hid (upL_succ k)
      go_wp2_with (at_builtin; refine wpList_app rfl (.tmp 11) (.tmp 13) rfl rfl rfl (ho.ext ((Ext.refl _).alloc _)) (Ints.one _ 0 _ (Nat.zero_le _)) (by simp only [List.length_cons, List.length_nil]; omega) (by simp; omega) ?_)
      intro v' w3 ho3 _ hb3 _
      have hx3 := (hx.alloc (.cells #[.int .i64 (k : Int)] 3)).below hb3 (by omega)
      clear hb3 ho
      replace ho3 := Lib.hid ho3
      go_wp2_with fail
      go_roundw
      case rel => exact ⟨k+1, by omega, by go_num, by rw [hs.out]; exact ho3.out, hx3⟩
      case measure => simp [intOf]; omega
    · obtain rfl : k = n := by omega
      replace ho := Lib.hid ho
      go_wp2_with fail
      go_ret
      exact PInts.mk ho.out (Nat.le_refl _) (by omega) hx


theorem back_take (xs : List Int) (k : Nat) (h : k < xs.length) : (xs.drop k).reverse = (xs.drop (k+1)).reverse ++ [xs.getD k 0] := by
  rw [List.drop_eq_getElem_cons h, List.reverse_cons]; simp [h]
set_option maxHeartbeats 1600000 in
theorem back_c (xs : List Int) (v : Value) (w : World) (lo : Nat) (hv : Ints w lo v xs) :
    Calls Try.prog 12 #[v] w (PInts w xs.reverse) := by
  have hl4 := hv.len
  have hrl : xs.reverse.length = xs.length := by simp
  replace hrl := Lib.hid hrl
  obtain ⟨a1, c1, rfl⟩ := hv.form
  go_enter Try.func12, Try.ntmps12
  go_wp2_with fail
  go_loopw [3, 4] (fun v i wr => ∃ k : Nat, k ≤ xs.length ∧ i = .int .i64 ((k : Int) - 1) ∧ OwnI wr w.heap.size v (xs.drop k).reverse ∧ Ext w wr) (fun _ i _ => (intOf i + 1).toNat)
  case atStart => exact ⟨xs.length, Nat.le_refl _, rfl, by rw [List.drop_length]; exact OwnI.lit0 w w.heap.size (Nat.le_refl _), qXo⟩
  case round =>
    obtain ⟨k, hk, rfl, ho, hx⟩ := hrel
    have hz := hx.size
    have hl := Lib.hid (show (xs.drop k).reverse.length = xs.length - k by simp)
    by_cases hlt : 0 < k
    · obtain ⟨j, rfl⟩ : ∃ j, k = j + 1 := ⟨k - 1, by omega⟩
      have hI : (0 : Int) ≤ ((j + 1 : Nat) : Int) - 1 := by omega
      have hs := Lib.hid (back_take xs j (by omega))
      obtain ⟨b2, off2, rfl, hcell2⟩ := (hv.ext hx).at j (by omega)
      have hj : (((j + 1 : Nat) : Int) - 1) = (j : Int) := by omega
      rw [hj]
      generalize xs.getD j 0 = x at *
      have hI2 : (j : Int) < xs.length := by omega
      clear hI hj
      go_wp2_with (at_builtin; refine wpList_app rfl (.tmp 13) (.tmp 18) rfl rfl rfl (ho.ext ((Ext.refl _).alloc _)) (Ints.one _ 0 _ (Nat.zero_le _)) (by have := hl.out; simp only [List.length_cons, List.length_nil]; omega) (by simp; omega) ?_)
      intro v' w3 ho3 _ hb3 _
      have hx3 := (hx.alloc (.cells #[.int .i64 x] 3)).below hb3 (by omega)
      clear hb3 ho hcell2
      replace ho3 := Lib.hid ho3
      go_wp2_with fail
      go_roundw
      case rel => exact ⟨j, by omega, rfl, by rw [hs.out]; exact ho3.out, hx3⟩
      case measure => simp [intOf]
    · obtain rfl : k = 0 := by omega
      replace ho := Lib.hid ho
      go_wp2_with fail
      go_ret
      exact PInts.mk (by have := ho.out; rw [List.drop_zero] at this; exact this) (Nat.le_refl _) (by rw [hrl.out]; omega) hx

end Go.Proofs.Ytpgkhjmboiepcaa

/- Walks: LoadView of the program and of the reference. -/
namespace Go.Proofs.Ytpgkhjmboiepcaa
open Go.RowKit
set_option linter.unusedVariables false
set_option maxRecDepth 100000


def loadA (mem : List Int) (b : Int) (s t : List Int) : List Int := if holdB mem b s t then loadL mem b s t else []
theorem PInts.no {w w' : World} (h : Ext w w') : PInts w [] (.returned (.slice none 0 0)) w' :=
  ⟨_, rfl, Ints.nil _ _ _ _ (by simp) (fun _ => rfl), .inl ⟨rfl, none, 0, rfl, by simp, fun _ => rfl⟩, h⟩

set_option maxHeartbeats 1600000 in
theorem implLoadView_c (mem : List Int) (a0 : Value) (b1 : Int) (u1 v1 : Value) (s1 t1 : List Int) (w : World) (l0 l1 m1 : Nat) (h0 : Ints w l0 a0 mem) (h1 : Ints w l1 u1 s1) (k1 : Ints w m1 v1 t1) :
    Calls Try.prog 16 #[a0, .agg #[.int .i64 b1, u1, v1]] w (PInts w (loadA mem b1 s1 t1)) := by
  obtain ⟨p0, c0, rfl⟩ := h0.form
  obtain ⟨p1, c1, rfl⟩ := h1.form
  obtain ⟨p2, c2, rfl⟩ := k1.form
  go_enter Try.func16, Try.ntmps16
  go_wp2_with fail
  refine (canHold_c mem (.slice p0 mem.length c0) b1 (.slice p1 s1.length c1) (.slice p2 t1.length c2) s1 t1 _ _ _ _ (h0.ext qXt) (h1.ext qXt) (k1.ext qXt)).mono ?_
  rintro e w1 ⟨rfl, xw1⟩
  have Lw1 : Ext w w1 := Ext.trans qXt xw1
  have Xw1 : Ext w w1 := Lw1
  have b10 : w1.cell? ⟨w.heap.size, 0, none⟩ = some (.int .i64 b1) := xw1.cell qCl
  have b11 : w1.cell? ⟨w.heap.size, 1, none⟩ = some (.slice p1 s1.length c1) := xw1.cell qCl
  have b12 : w1.cell? ⟨w.heap.size, 2, none⟩ = some (.slice p2 t1.length c2) := xw1.cell qCl
  have z_b1 : w.heap.size < w1.heap.size := qB b10
  have s_w1 : w.heap.size ≤ w1.heap.size := Xw1.size
  clear xw1
  cases hB2 : holdB mem b1 s1 t1
  · replace hB2 := Lib.hid hB2
    go_wp2_with fail
    go_ret
    rw [show loadA mem b1 s1 t1 = [] by unfold loadA; rw [hB2.out]; rfl]
    exact PInts.no (Xw1.trans qXt)
  · replace hB2 := Lib.hid hB2
    go_wp2_with fail
    refine (loadView_c mem (.slice p0 mem.length c0) b1 (.slice p1 s1.length c1) (.slice p2 t1.length c2) s1 t1 _ _ _ _ (h0.ext (Xw1.trans qXt)) (h1.ext (Xw1.trans qXt)) (k1.ext (Xw1.trans qXt)) hB2.out).mono ?_
    rintro e w2 ⟨fv3, rfl, i4, i4z, xw2⟩
    have Lw2 : Ext w1 w2 := Ext.trans qXt xw2
    have Xw2 : Ext w w2 := Xw1.trans Lw2
    replace b10 := Lw2.cell b10
    replace b11 := Lw2.cell b11
    replace b12 := Lw2.cell b12
    have z_b1 : w.heap.size < w2.heap.size := qB b10
    have s_w2 : w.heap.size ≤ w2.heap.size := Xw2.size
    clear xw2
    obtain ⟨afv3, cfv3, rfl⟩ := i4.form
    go_wp2_with fail
    go_ret
    rw [show loadA mem b1 s1 t1 = loadL mem b1 s1 t1 by unfold loadA; rw [hB2.out]; rfl]
    exact ⟨_, rfl, i4.lower (by omega), i4z.lower (by omega), Xw2⟩

end Go.Proofs.Ytpgkhjmboiepcaa

/- Walks: indices, ranks, rows, sums. -/
namespace Go.Proofs.Ytpgkhjmboiepcaa
open Go.RowKit
set_option linter.unusedVariables false
set_option maxRecDepth 100000


theorem vw {b : Int} {s t : List Int} (h : viewB b s t = true) : s.length ≤ t.length ∧ (0 < countL s → ∀ e ∈ s, 1 ≤ e) ∧ countL s ≤ 1000000 ∧ Small s := by
  obtain ⟨h1, h2, h3, h4, h5⟩ := viewB_in h
  have h6 := shapeB_in h1
  exact ⟨by omega, h6.2.2.2.2, by omega, Small.of h1⟩
theorem sh {s : List Int} (h : shapeB s = true) : Small s ∧ (0 < countL s → ∀ e ∈ s, 1 ≤ e) ∧ countL s ≤ 1000000 := by
  have h6 := shapeB_in h
  exact ⟨Small.of h, h6.2.2.2.2, by omega⟩
/-- the first k numbers are within the extents -/
def OkTo (s r : List Int) (k : Nat) : Prop := ∀ j, j < k → 0 ≤ r.getD j 0 ∧ r.getD j 0 < s.getD j 0
theorem OkTo.zero (s r : List Int) : OkTo s r 0 := fun j h => absurd h (by omega)
theorem OkTo.succ {s r : List Int} {k : Nat} (h : OkTo s r k) {x e : Int} (hx : r.getD k 0 = x) (he : s.getD k 0 = e) (h1 : 0 ≤ x) (h2 : x < e) : OkTo s r (k+1) := fun j hj => by
  by_cases hjk : j = k
  · subst hjk; rw [hx, he]; exact ⟨h1, h2⟩
  · exact h j (by omega)
theorem ixOf_ok : ∀ (s r : List Int), r.length = s.length → (IxOf s r ↔ OkTo s r r.length)
  | [], [], _ => ⟨fun _ => OkTo.zero _ _, fun _ => trivial⟩
  | [], x :: r, h => by simp at h
  | e :: s, [], h => by simp at h
  | e :: s, x :: r, h => by
    have ih := ixOf_ok s r (by simpa using h)
    constructor
    · rintro ⟨h1, h2⟩ j hj
      cases j with
      | zero => simpa using h1
      | succ j => have := (ih.1 h2) j (by simpa using hj); simpa using this
    · intro hk
      refine ⟨by simpa using hk 0 (by simp), ih.2 fun j hj => by have := hk (j+1) (by simpa using hj); simpa using this⟩
theorem ixB_ok {s r : List Int} (hl : r.length = s.length) (h : OkTo s r r.length) : ixB s r = true := (ixB_iff s r).2 ((ixOf_ok s r hl).2 h)
theorem ixB_no {s r : List Int} {k : Nat} (hk : k < r.length) {x e : Int} (hx : r.getD k 0 = x) (he : s.getD k 0 = e) (h : x < 0 ∨ e ≤ x) : ixB s r = false := by
  cases hb : ixB s r with
  | false => rfl
  | true =>
    have h1 := (ixB_iff s r).1 hb
    have h2 := (ixOf_ok s r h1.len).1 h1 k hk
    rw [hx, he] at h2; omega
theorem ixB_len {s r : List Int} (h : r.length ≠ s.length) : ixB s r = false := by unfold ixB; simp [h]

set_option maxHeartbeats 1600000 in
theorem isIndex_c (s r : List Int) (v1 v2 : Value) (w : World) (l1 l2 : Nat) (h1 : Ints w l1 v1 s) (h2 : Ints w l2 v2 r) :
    Calls Try.prog 91 #[v1, v2] w (fun e w' => e = .returned (.bool (ixB s r)) ∧ w = w') := by
  have n1 := h1.len
  have n2 := h2.len
  obtain ⟨p1, c1, rfl⟩ := h1.form
  obtain ⟨p2, c2, rfl⟩ := h2.form
  go_enter Try.func91, Try.ntmps91
  by_cases hc1 : (r.length : Int) = (s.length : Int)
  · have hc1e : ((r.length : Int) == (s.length : Int)) = true := by simpa using hc1
    have hc1n : ((r.length : Int) != (s.length : Int)) = false := by simpa using hc1
    replace hc1 := Lib.hid hc1
    go_wp2_with fail
    go_loop [14] (fun i => ∃ (k : Nat), k ≤ r.length ∧ i = .int .i64 k ∧ Hid (OkTo s r k)) (fun i => r.length - (intOf i).toNat)
    case atStart => exact ⟨0, Nat.zero_le _, rfl, Lib.hid (OkTo.zero _ _)⟩
    case round =>
      obtain ⟨k, hk, rfl, hok⟩ := hrel
      by_cases hlt : k < r.length
      · have hkI : (k : Int) < r.length := by omega
        have hks : k < s.length := by have := hc1.out; omega
        obtain ⟨bl2, ol3, rfl, e40⟩ := h2.at k (by omega)
        obtain ⟨v5, hv5⟩ : ∃ v, r.getD k 0 = v := ⟨_, rfl⟩
        rw [hv5] at e40
        replace hv5 := Lib.hid hv5
        have y_e4 : bl2 < w.heap.size := qB e40
        have z_e4 := y_e4
        by_cases hc6 : (v5 : Int) < (0 : Int)
        · go_wp2_with fail
          go_ret
          exact ⟨by rw [show ixB s r = false from ixB_no (by omega) hv5.out rfl (by omega)] <;> rfl, rfl⟩
        · obtain ⟨bl7, ol8, rfl, e90⟩ := h1.at k (by omega)
          obtain ⟨v10, hv10⟩ : ∃ v, s.getD k 0 = v := ⟨_, rfl⟩
          rw [hv10] at e90
          replace hv10 := Lib.hid hv10
          have y_e9 : bl7 < w.heap.size := qB e90
          have z_e9 := y_e9
          by_cases hc11 : (v10 : Int) ≤ (v5 : Int)
          · go_wp2_with fail
            go_ret
            exact ⟨by rw [show ixB s r = false from ixB_no (by omega) hv5.out hv10.out (by omega)] <;> rfl, rfl⟩
          · go_wp2_with fail
            go_round
            case rel => exact ⟨k + 1, by omega, by go_num, Lib.hid (hok.out.succ hv5.out hv10.out (by omega) (by omega))⟩
            case measure => simp [intOf]; omega
      · have hkI : ¬ (k : Int) < r.length := by omega
        go_wp2_with fail
        go_ret
        exact ⟨by rw [show ixB s r = true from ixB_ok (by have := hc1.out; omega) (by have := hok.out; rwa [show k = r.length by omega] at this)] <;> rfl, rfl⟩
  · have hc1e : ((r.length : Int) == (s.length : Int)) = false := by simpa using hc1
    have hc1n : ((r.length : Int) != (s.length : Int)) = true := by simpa using hc1
    replace hc1 := Lib.hid hc1
    go_wp2_with fail
    go_ret
    exact ⟨by rw [show ixB s r = false from ixB_len (by have := hc1.out; omega)] <;> rfl, rfl⟩

end Go.Proofs.Ytpgkhjmboiepcaa

/- Walks: ranks, indices, rows, sums. -/
namespace Go.Proofs.Ytpgkhjmboiepcaa
open Go.RowKit
set_option linter.unusedVariables false
set_option maxRecDepth 100000


def rankA (s r : List Int) : Int := if shapeB s && ixB s r then rankC s r else -1
theorem ix_len {s r : List Int} (h : ixB s r = true) : r.length = s.length := ((ixB_iff s r).1 h).len
set_option maxHeartbeats 1600000 in
theorem implRankOf_c (s r : List Int) (v1 v2 : Value) (w : World) (l1 l2 : Nat) (h1 : Ints w l1 v1 s) (h2 : Ints w l2 v2 r) :
    Calls Try.prog 49 #[v1, v2] w (fun e w' => e = .returned (.int .i64 (rankA s r)) ∧ w = w') := by
  have n1 := h1.len
  have n2 := h2.len
  obtain ⟨p0, c0, rfl⟩ := h1.form
  obtain ⟨p1, c1, rfl⟩ := h2.form
  go_enter Try.func49, Try.ntmps49
  go_wp2_with fail
  refine (isShape_c s (.slice p0 s.length c0) _ _ (h1.ext qXt)).mono ?_
  rintro e w' ⟨rfl, rfl⟩
  cases hB1 : shapeB s
  · replace hB1 := Lib.hid hB1
    go_wp2_with fail
    go_ret
    exact ⟨by rw [show rankA s r = -1 by unfold rankA; rw [hB1.out]; rfl] <;> rfl, rfl⟩
  · replace hB1 := Lib.hid hB1
    go_wp2_with fail
    refine (isIndex_c s r (.slice p0 s.length c0) (.slice p1 r.length c1) _ _ _ (h1.ext qXt) (h2.ext qXt)).mono ?_
    rintro e w' ⟨rfl, rfl⟩
    cases hB2 : ixB s r
    · replace hB2 := Lib.hid hB2
      go_wp2_with fail
      go_ret
      exact ⟨by rw [show rankA s r = -1 by unfold rankA; rw [hB1.out, hB2.out]; rfl] <;> rfl, rfl⟩
    · replace hB2 := Lib.hid hB2
      go_wp2_with fail
      go_loop [5, 19] (fun n i => ∃ (k : Nat), k ≤ r.length ∧ i = .int .i64 k ∧ n = .int .i64 (rankL (s.take k) r)) (fun _ i => r.length - (intOf i).toNat)
      case atStart => exact ⟨0, Nat.zero_le _, rfl, rfl⟩
      case round =>
        obtain ⟨k, hk, rfl, rfl⟩ := hrel
        by_cases hlt : k < r.length
        · have hkI : (k : Int) < r.length := by omega
          have hks : k < s.length := by have := ix_len hB2.out; omega
          have hs := rankL_take s r k hks hlt
          obtain ⟨bl3, ol4, rfl, e50⟩ := h2.at k (by omega)
          obtain ⟨v6, hv6⟩ : ∃ v, r.getD k 0 = v := ⟨_, rfl⟩
          rw [hv6] at e50
          replace hv6 := Lib.hid hv6
          have y_e5 : bl3 < w.heap.size := qB e50
          have z_e5 := y_e5
          rw [hv6.out] at hs
          obtain ⟨bl7, ol8, rfl, e90⟩ := h1.at k (by omega)
          obtain ⟨v10, hv10⟩ : ∃ v, s.getD k 0 = v := ⟨_, rfl⟩
          rw [hv10] at e90
          replace hv10 := Lib.hid hv10
          have y_e9 : bl7 < w.heap.size := qB e90
          have z_e9 := y_e9
          rw [hv10.out] at hs
          replace hs := Lib.hid hs
          go_wp2_with fail
          go_round
          case rel => exact ⟨k + 1, by omega, by go_num, by rw [hs.out]⟩
          case measure => simp [intOf]; omega
        · have hkI : ¬ (k : Int) < r.length := by omega
          go_wp2_with fail
          go_ret
          exact ⟨by rw [show rankA s r = rankL (s.take k) r by (unfold rankA; rw [hB1.out, hB2.out, List.take_of_length_le (by have := ix_len hB2.out; omega)]; exact (rankL_eq (ix_len hB2.out).symm (Small.of hB1.out) (ixB_small hB2.out (Small.of hB1.out))).symm)] <;> rfl, rfl⟩

end Go.Proofs.Ytpgkhjmboiepcaa

/- Plain laws: orders and their inverses, cells of views with their dimensions in another order. -/
namespace Go.Proofs.Ytpgkhjmboiepcaa
open Go.RowKit
set_option linter.unusedVariables false
set_option maxRecDepth 100000

theorem dotC_sum : ∀ (r t : List Int) (b : Int), dotC b r t = b + ((r.zip t).map fun p => p.1 * p.2).sum
  | [], t, b => by cases t <;> simp [dotC]
  | x :: r, [], b => by simp [dotC]
  | x :: r, y :: t, b => by simp only [dotC, List.zip_cons_cons, List.map_cons, List.sum_cons]; rw [dotC_sum r t b]; omega
end Go.Proofs.Ytpgkhjmboiepcaa

/- Plain laws: a tensor with its dimensions in another order. No condition. -/
namespace Go.Proofs.Ytpgkhjmboiepcaa
open Go.RowKit
set_option linter.unusedVariables false

/-- the old index of a new one -/
def oldL (ord idx : List Int) : List Int := putUp (List.replicate ord.length 0) ord idx ord.length
theorem oldL_len (ord idx : List Int) : (oldL ord idx).length = ord.length := by unfold oldL; rw [putUp_len, List.length_replicate]
theorem getD_setT {y : List Int} {q k : Nat} {v : Int} (hq : q < y.length) : (y.set q v).getD k 0 = if k = q then v else y.getD k 0 := by
  by_cases h : k = q
  · subst h; rw [if_pos rfl, List.getD_eq_getElem?_getD, List.getElem?_set_self hq]; rfl
  · rw [if_neg h, List.getD_eq_getElem?_getD, List.getElem?_set_ne (fun e => h e.symm), ← List.getD_eq_getElem?_getD]
theorem nodup_getD {l : List Int} (h : l.Nodup) {i j : Nat} (hi : i < l.length) (hj : j < l.length) (e : l.getD i 0 = l.getD j 0) : i = j := by
  have e2 : l[i] = l[j] := by simpa [hi, hj] using e
  exact (List.getElem_inj h).1 e2
theorem putUp_get {m ord vs : List Int} (hn : ord.Nodup) (hx : ∀ x ∈ ord, 0 ≤ x ∧ x < m.length) (k : Nat) (hk : k ≤ ord.length) (i : Nat) (hi : i < k) : (putUp m ord vs k).getD (ord.getD i 0).toNat 0 = vs.getD i 0 := by
  induction k with
  | zero => omega
  | succ k ih =>
    have h1 := hx _ (getD_mem (s := ord) (d := k) (by omega))
    have h2 := hx _ (getD_mem (s := ord) (d := i) (by omega))
    rw [putUp_succ, getD_setT (by rw [putUp_len]; omega)]
    by_cases hik : i = k
    · subst hik; rw [if_pos rfl]
    · rw [if_neg, ih (by omega) (by omega)]
      intro e
      exact hik (nodup_getD hn (by omega) (by omega) (by omega))
/-- the old index, read in the order, is the new one -/
theorem takL_old {ord idx : List Int} {n : Nat} (ho : orderB ord n = true) (hl : idx.length = n) : takL (oldL ord idx) ord = idx := by
  obtain ⟨h1, h2, h3⟩ := orderB_in ho
  refine List.ext_getElem (by rw [takL_len]; omega) fun i ha hb => ?_
  have hi : i < ord.length := by rw [takL_len] at ha; exact ha
  have h4 := putUp_get (m := List.replicate ord.length 0) (vs := idx) h3 (fun x hx => by have := h2 x hx; rw [List.length_replicate]; omega) ord.length (Nat.le_refl _) i hi
  have e1 : ord.getD i 0 = ord[i] := by simp [hi]
  have e2 : idx.getD i 0 = idx[i] := by simp [hb]
  rw [e1, e2] at h4
  simp only [takL, List.getElem_map]
  exact h4
theorem ix_zip : ∀ (s r : List Int), IxOf s r ↔ r.length = s.length ∧ ∀ p ∈ s.zip r, 0 ≤ p.2 ∧ p.2 < p.1 := fun s r => by
  rw [← ixB_iff]
  unfold ixB
  simp only [Bool.and_eq_true, decide_eq_true_eq, List.all_eq_true]
/-- the old index is an index -/
theorem ix_old {s ord idx : List Int} (ho : orderB ord s.length = true) (h : IxOf (takL s ord) idx) : IxOf s (oldL ord idx) := by
  obtain ⟨h1, h2, h3⟩ := orderB_in ho
  have hl := h.len
  rw [takL_len] at hl
  have hlo : (oldL ord idx).length = s.length := by rw [oldL_len]; exact h1
  have hz := zip_perm (t := oldL ord idx) hlo ho
  rw [takL_old ho (by omega)] at hz
  rw [ix_zip]
  refine ⟨hlo, fun p hp => ?_⟩
  exact ((ix_zip _ _).1 h).2 p (hz.mem_iff.2 hp)
theorem sum_permT {a b : List Int} (h : a.Perm b) : a.sum = b.sum := by
  induction h with
  | nil => rfl
  | cons x _ ih => rw [List.sum_cons, List.sum_cons, ih]
  | swap x y l => simp only [List.sum_cons]; omega
  | trans _ _ h1 h2 => exact h1.trans h2
/-- and its cell is the same -/
theorem dot_old {b : Int} {s t ord idx : List Int} (hst : t.length = s.length) (ho : orderB ord s.length = true) (hl : idx.length = s.length) : dotC b (oldL ord idx) t = dotC b idx (takL t ord) := by
  obtain ⟨h1, h2, h3⟩ := orderB_in ho
  have hlo : (oldL ord idx).length = s.length := by rw [oldL_len]; exact h1
  have ho2 : orderB ord (oldL ord idx).length = true := by rw [hlo]; exact ho
  have hz := zip_perm (s := oldL ord idx) (t := t) (by omega) ho2
  rw [takL_old ho hl] at hz
  rw [dotC_sum, dotC_sum]
  have := sum_permT (hz.map fun p : Int × Int => p.1 * p.2)
  omega
/-- the values of a turned tensor -/
def turnV (s t ord : List Int) : List Int := (List.range (countL (takL s ord)).toNat).map fun (k : Nat) => t.getD (rankL s (oldL ord (unrL (takL s ord) k).1)).toNat 0
theorem takL_getD {xs ix : List Int} {k : Nat} (h : k < ix.length) : (takL xs ix).getD k 0 = xs.getD (ix.getD k 0).toNat 0 := by
  unfold takL; simp [h]
/-- a turned tensor of a view is the tensor of the turned view -/
theorem turn_law {mem : List Int} {b : Int} {s t ord : List Int} (h : viewB b s t = true) (hst : t.length = s.length) (ho : orderB ord s.length = true) : turnV s (loadL mem b s t) ord = loadL mem b (takL s ord) (takL t ord) := by
  have hv := (perm_view h ho).1
  have hc : countL (takL s ord) = countL s := perm_count (view_small h) ho
  unfold turnV loadL
  refine List.ext_getElem (by rw [List.length_map, List.length_range, takL_len, offs_count]) fun k ha hb => ?_
  rw [List.length_map, List.length_range] at ha
  have hk : (k : Int) < countL (takL s ord) := by omega
  rw [List.getElem_map, List.getElem_range]
  have hb' : k < (offsL b (takL s ord) (takL t ord)).length := by rw [takL_len] at hb; exact hb
  have e2 : (takL mem (offsL b (takL s ord) (takL t ord)))[k] = mem.getD ((offsL b (takL s ord) (takL t ord)).getD k 0).toNat 0 := by
    rw [← takL_getD hb']; simp [hb]
  rw [e2, offs_get hv k hk]
  have hpos : ∀ e ∈ takL s ord, 1 ≤ e := by
    have h5 := (shapeB_in (viewB_in hv).1).2.2.2.2
    exact h5 (by omega)
  have hix := ix_unr (takL s ord) hpos k
  have hold := ix_old ho hix
  obtain ⟨⟨r1, r2⟩, r3⟩ := offs_rank h hold
  have hlt : (rankL s (oldL ord (unrL (takL s ord) k).1)).toNat < (offsL b s t).length := by rw [offs_count]; omega
  rw [takL_getD hlt, r3, dot_old hst ho (by have := hix.len; rw [takL_len, (orderB_in ho).1] at this; exact this)]
/-- the shape in the order of the new dimensions: one dimension more -/
theorem takL_snoc {s ord : List Int} {k : Nat} {d : Int} (hk : k < ord.length) (hd : ord.getD k 0 = d) : takL s (ord.take (k+1)) = takL s (ord.take k) ++ [s.getD d.toNat 0] := by
  rw [takL_take s ord k hk]
  have e : ord[k] = d := by rw [← hd]; simp [hk]
  rw [e]
/-- the values, one more -/
theorem turnV_take (s t ord : List Int) (k : Nat) (hk : k < (countL (takL s ord)).toNat) : (turnV s t ord).take (k+1) = (turnV s t ord).take k ++ [t.getD (rankL s (oldL ord (unrL (takL s ord) k).1)).toNat 0] := by
  have hl : k < (turnV s t ord).length := by unfold turnV; rw [List.length_map, List.length_range]; exact hk
  rw [List.take_succ_eq_append_getElem hl]
  congr 1
  simp [turnV]
theorem turnV_len (s t ord : List Int) : (turnV s t ord).length = (countL (takL s ord)).toNat := by unfold turnV; rw [List.length_map, List.length_range]
end Go.Proofs.Ytpgkhjmboiepcaa

/- Words for memory: slices whose elements take several cells. No condition. -/
namespace Go.Proofs.Ytpgkhjmboiepcaa
open Go.RowKit

theorem flat_len {sz : Nat} : ∀ {L : List (List Value)}, (∀ c ∈ L, c.length = sz) → L.flatten.length = L.length * sz
  | [], _ => by simp
  | c :: L, h => by
    rw [List.flatten_cons, List.length_append, flat_len (fun c hc => h c (List.mem_cons_of_mem _ hc)), h c (List.mem_cons_self ..), List.length_cons, Nat.add_mul]
    omega
theorem flat_get {sz : Nat} : ∀ {L : List (List Value)}, (∀ c ∈ L, c.length = sz) → ∀ (i j : Nat) (hi : i < L.length) (hj : j < sz), L.flatten[i * sz + j]? = (L[i])[j]?
  | [], _, i, j, hi, _ => absurd hi (by simp)
  | c :: L, h, 0, j, _, hj => by
    have hc := h c (List.mem_cons_self ..)
    simp only [List.flatten_cons, Nat.zero_mul, Nat.zero_add, List.getElem_cons_zero]
    rw [List.getElem?_append_left (by omega)]
  | c :: L, h, i+1, j, hi, hj => by
    have hc := h c (List.mem_cons_self ..)
    have hi' : i < L.length := by simpa using hi
    have e : (i + 1) * sz + j = c.length + (i * sz + j) := by rw [Nat.add_mul, hc]; omega
    rw [List.flatten_cons, e, List.getElem?_append_right (by omega), Nat.add_sub_cancel_left, flat_get (fun c hc => h c (List.mem_cons_of_mem _ hc)) i j hi' hj]
    simp
theorem flat_set {sz : Nat} : ∀ {L : List (List Value)}, (∀ c ∈ L, c.length = sz) → ∀ (i j : Nat) (hi : i < L.length) (hj : j < sz) (x : Value), L.flatten.set (i * sz + j) x = (L.set i ((L[i]).set j x)).flatten
  | [], _, i, j, hi, _, _ => absurd hi (by simp)
  | c :: L, h, 0, j, _, hj, x => by
    have hc := h c (List.mem_cons_self ..)
    simp only [List.flatten_cons, Nat.zero_mul, Nat.zero_add, List.set_cons_zero, List.getElem_cons_zero]
    rw [List.set_append_left _ _ (by omega)]
  | c :: L, h, i+1, j, hi, hj, x => by
    have hc := h c (List.mem_cons_self ..)
    have hi' : i < L.length := by simpa using hi
    have e : (i + 1) * sz + j = c.length + (i * sz + j) := by rw [Nat.add_mul, hc]; omega
    rw [List.flatten_cons, e, List.set_append_right _ _ (by omega), Nat.add_sub_cancel_left, flat_set (fun c hc => h c (List.mem_cons_of_mem _ hc)) i j hi' hj x]
    simp
theorem mem_set_len {sz : Nat} {L : List (List Value)} (h : ∀ c ∈ L, c.length = sz) (i : Nat) {d : List Value} (hd : d.length = sz) : ∀ c ∈ L.set i d, c.length = sz := by
  intro c hc
  rcases List.mem_or_eq_of_mem_set hc with h' | h'
  · exact h c h'
  · rw [h', hd]

/-- an owned row whose elements take sz cells each -/
def OwnC (w : World) (base E sz : Nat) (v : Value) (L : List (List Value)) : Prop := w.ownsRow base E sz v L.length L.flatten ∧ ∀ c ∈ L, c.length = sz

section
variable {w w' : World} {base base' E sz : Nat} {v : Value} {L : List (List Value)}
theorem OwnC.nil : OwnC w base E sz (.slice none 0 0) [] := ⟨World.ownsRow_nil _ _ _ _, fun c hc => by cases hc⟩
theorem OwnC.ext (h : OwnC w base E sz v L) (hx : Ext w w') : OwnC w' base E sz v L := by
  refine ⟨⟨h.1.1, ?_⟩, h.2⟩
  rcases h.1.2 with h2 | ⟨g, cap, cur, hv, hg, hh, r⟩
  · exact .inl h2
  · exact .inr ⟨g, cap, cur, hv, hg, (hx.block g (Array.getElem?_eq_some_iff.1 hh).1).trans hh, r⟩
theorem OwnC.lower (h : OwnC w base E sz v L) (hb : base' ≤ base) : OwnC w base' E sz v L :=
  ⟨⟨h.1.1, h.1.2.imp id fun ⟨g, cap, cur, hv, hg, r⟩ => ⟨g, cap, cur, hv, Nat.le_trans hb hg, r⟩⟩, h.2⟩
theorem OwnC.kept {row : Option Nat} (h : OwnC w base E sz v L) (hg : w.grownBy w' row) (hne : v.ownBlock = none ∨ v.ownBlock ≠ row) : OwnC w' base E sz v L := ⟨World.ownsRow.kept h.1 hg hne, h.2⟩
theorem OwnC.chg {lo hi : Nat} (h : OwnC w base E sz v L) (k : Chg lo hi w w') (hb : hi ≤ base) : OwnC w' base E sz v L := by
  refine ⟨⟨h.1.1, ?_⟩, h.2⟩
  rcases h.1.2 with h2 | ⟨g, cap, cur, hv, hg, hh, r⟩
  · exact .inl h2
  · exact .inr ⟨g, cap, cur, hv, hg, (k.block g (Array.getElem?_eq_some_iff.1 hh).1 (.inr (by omega))).trans hh, r⟩
theorem OwnC.form (h : OwnC w base E sz v L) : ∃ a c, v = .slice a L.length c := by
  rcases h.1.2 with ⟨rfl, h0⟩ | ⟨g, cap, cur, rfl, _⟩
  · rw [h0]; exact ⟨_, _, rfl⟩
  · exact ⟨_, _, rfl⟩
theorem OwnC.lt (h : OwnC w base E sz v L) (hn : L ≠ []) : ∃ g c, v = .slice (some ⟨g, 0, none⟩) L.length c ∧ v.ownBlock = some g ∧ base ≤ g ∧ g < w.heap.size ∧ L.length ≤ c ∧ c ≤ maxLen := by
  rcases h.1.2 with ⟨rfl, h0⟩ | ⟨g, cap, cur, rfl, hb, hh, h1, h2, _⟩
  · exact absurd (List.eq_nil_of_length_eq_zero h0) hn
  · exact ⟨g, cap, rfl, rfl, hb, (Array.getElem?_eq_some_iff.1 hh).1, h1, h2⟩
theorem OwnC.cell {g c : Nat} (h : OwnC w base E sz (.slice (some ⟨g, 0, none⟩) L.length c) L) (i j : Nat) (hi : i < L.length) (hj : j < sz) :
    w.cell? ⟨g, i * sz + j, none⟩ = (L[i])[j]? ∧ w.frozen? ⟨g, i * sz + j, none⟩ = false := by
  refine ⟨?_, World.ownsRow.frozenAt h.1 _⟩
  rw [World.ownsRow.cellAt h.1 _ ?_, flat_get h.2 i j hi hj]
  calc i * sz + j < i * sz + sz := by omega
    _ = (i + 1) * sz := by rw [Nat.add_mul]; omega
    _ ≤ L.length * sz := Nat.mul_le_mul_right _ hi
theorem OwnC.set {g c : Nat} (h : OwnC w base E sz (.slice (some ⟨g, 0, none⟩) L.length c) L) (i j : Nat) (hi : i < L.length) (hj : j < sz) (x : Value) :
    OwnC (w.setCell ⟨g, i * sz + j, none⟩ x) base E sz (.slice (some ⟨g, 0, none⟩) L.length c) (L.set i ((L[i]).set j x)) := by
  have h1 := (World.ownsRow.stored h.1 (i * sz + j) x).1
  rw [flat_set h.2 i j hi hj] at h1
  refine ⟨by rw [List.length_set]; exact h1, mem_set_len h.2 i ?_⟩
  rw [List.length_set]; exact h.2 _ (List.getElem_mem hi)
theorem OwnC.made (w : World) (cs : Array Value) (n : Nat) (hb : base ≤ w.heap.size) (hm : L.length ≤ maxLen) (hs : cs.toList = L.flatten) (hl : ∀ c ∈ L, c.length = sz) :
    OwnC (w.alloc (.cells cs E)) base E sz (.slice (some ⟨w.heap.size, 0, none⟩) L.length L.length) L := by
  refine ⟨?_, hl⟩
  rw [← hs]
  exact World.ownsRow_lit w cs L.length hb hm (by have := congrArg List.length hs; rw [flat_len hl] at this; simpa using this)

end
section
variable {T E sz bytes : Nat} {z : Value} {w : World} {base : Nat} {v src : Value} {L : List (List Value)} {c : List Value}
end

end Go.Proofs.Ytpgkhjmboiepcaa

/- Words for memory: rows of records, told by cells. No condition. -/
namespace Go.Proofs.Ytpgkhjmboiepcaa
open Go.RowKit
set_option linter.unusedVariables false
set_option maxRecDepth 100000

section
variable {w w' : World} {base E sz : Nat} {v : Value} {L : List (List Value)}
end
end Go.Proofs.Ytpgkhjmboiepcaa

/- Words for memory: lists of records (Tensor). No condition. -/
namespace Go.Proofs.Ytpgkhjmboiepcaa
open Go.RowKit
set_option linter.unusedVariables false
set_option maxRecDepth 100000

/-- a record -/
structure Ten where
  s : List Int
  t : List Int
def noTen : Ten := ⟨[], []⟩
def tenAt (rs : List Ten) (i : Nat) : Ten := rs.getD i noTen
/-- the slice value v reads as the records rs; its cells, and their rows', lie in blocks from lo on -/
def Tens (w : World) (lo : Nat) (v : Value) (rs : List Ten) : Prop :=
  ∃ a cap, v = .slice a rs.length cap ∧ rs.length ≤ cap ∧ cap ≤ maxLen ∧ (rs.length ≤ 1048576 ∧ (a = none → cap = 0)) ∧
    ∀ i, i < rs.length → ∃ bl off u1 c1 u2 c2, a = some ⟨bl, off, none⟩ ∧ lo ≤ bl ∧ w.cell? ⟨bl, off + i * 2, none⟩ = some (.slice u1 (tenAt rs i).s.length c1) ∧ w.cell? ⟨bl, off + i * 2 + 1, none⟩ = some (.slice u2 (tenAt rs i).t.length c2) ∧ Ints w lo (.slice u1 (tenAt rs i).s.length c1) (tenAt rs i).s ∧ Ints w lo (.slice u2 (tenAt rs i).t.length c2) (tenAt rs i).t
section
variable {w w' : World} {lo lo' : Nat} {v : Value} {rs : List Ten}
theorem Tens.ext (h : Tens w lo v rs) (hx : Ext w w') : Tens w' lo v rs := by
  obtain ⟨a, cap, hv, h1, h2, h3, h4⟩ := h
  refine ⟨a, cap, hv, h1, h2, h3, fun i hi => ?_⟩
  obtain ⟨bl, off, u1, c1, u2, c2, ha, hl, k0, k1, j1, j2⟩ := h4 i hi
  exact ⟨bl, off, u1, c1, u2, c2, ha, hl, hx.cell k0, hx.cell k1, j1.ext hx, j2.ext hx⟩
theorem Tens.lower (h : Tens w lo v rs) (hl : lo' ≤ lo) : Tens w lo' v rs := by
  obtain ⟨a, cap, hv, h1, h2, h3, h4⟩ := h
  refine ⟨a, cap, hv, h1, h2, h3, fun i hi => ?_⟩
  obtain ⟨bl, off, u1, c1, u2, c2, ha, hb, k0, k1, j1, j2⟩ := h4 i hi
  exact ⟨bl, off, u1, c1, u2, c2, ha, by omega, k0, k1, j1.lower hl, j2.lower hl⟩
theorem Tens.chg {l h' : Nat} (h : Tens w lo v rs) (k : Chg l h' w w') (hb : h' ≤ lo) : Tens w' lo v rs := by
  obtain ⟨a, cap, hv, h1, h2, h3, h4⟩ := h
  refine ⟨a, cap, hv, h1, h2, h3, fun i hi => ?_⟩
  obtain ⟨bl, off, u1, c1, u2, c2, ha, hb', k0, k1, j1, j2⟩ := h4 i hi
  exact ⟨bl, off, u1, c1, u2, c2, ha, hb', k.cell (.inr (by omega)) k0, k.cell (.inr (by omega)) k1, j1.chg k hb, j2.chg k hb⟩
theorem Tens.form (h : Tens w lo v rs) : ∃ a c, v = .slice a rs.length c := by obtain ⟨a, cap, rfl, _⟩ := h; exact ⟨_, _, rfl⟩
theorem Tens.len (h : Tens w lo v rs) : rs.length ≤ 1048576 := by obtain ⟨_, _, _, _, _, ⟨h, _⟩, _⟩ := h; exact h
theorem Tens.nil (w : World) (lo : Nat) : Tens w lo (.slice none 0 0) [] := ⟨none, 0, rfl, by simp, by simp, ⟨by simp, fun _ => rfl⟩, fun i hi => absurd hi (by simp)⟩
/-- the cells of one record -/
theorem Tens.at {a : Option Addr} {n c : Nat} (h : Tens w lo (.slice a n c) rs) (i : Nat) (hi : i < rs.length) : ∃ bl off u1 c1 u2 c2, a = some ⟨bl, off, none⟩ ∧ w.cell? ⟨bl, off + i * 2, none⟩ = some (.slice u1 (tenAt rs i).s.length c1) ∧ w.cell? ⟨bl, off + i * 2 + 1, none⟩ = some (.slice u2 (tenAt rs i).t.length c2) ∧ Ints w lo (.slice u1 (tenAt rs i).s.length c1) (tenAt rs i).s ∧ Ints w lo (.slice u2 (tenAt rs i).t.length c2) (tenAt rs i).t := by
  obtain ⟨a', cap, hv, h1, h2, h3, h4⟩ := h
  cases hv
  obtain ⟨bl, off, u1, c1, u2, c2, ha, hb, k⟩ := h4 i hi
  exact ⟨bl, off, u1, c1, u2, c2, ha, k⟩
end
end Go.Proofs.Ytpgkhjmboiepcaa

/- Words for memory: lists of records (IntS). No condition. -/
namespace Go.Proofs.Ytpgkhjmboiepcaa
open Go.RowKit
set_option linter.unusedVariables false
set_option maxRecDepth 100000

/-- a record -/
structure Lst where
  s : List Int
def noLst : Lst := ⟨[]⟩
def lstAt (rs : List Lst) (i : Nat) : Lst := rs.getD i noLst
/-- the slice value v reads as the records rs; its cells, and their rows', lie in blocks from lo on -/
def Lsts (w : World) (lo : Nat) (v : Value) (rs : List Lst) : Prop :=
  ∃ a cap, v = .slice a rs.length cap ∧ rs.length ≤ cap ∧ cap ≤ maxLen ∧ (rs.length ≤ 1048576 ∧ (a = none → cap = 0)) ∧
    ∀ i, i < rs.length → ∃ bl off u1 c1, a = some ⟨bl, off, none⟩ ∧ lo ≤ bl ∧ w.cell? ⟨bl, off + i, none⟩ = some (.slice u1 (lstAt rs i).s.length c1) ∧ Ints w lo (.slice u1 (lstAt rs i).s.length c1) (lstAt rs i).s
section
variable {w w' : World} {lo lo' : Nat} {v : Value} {rs : List Lst}
theorem Lsts.ext (h : Lsts w lo v rs) (hx : Ext w w') : Lsts w' lo v rs := by
  obtain ⟨a, cap, hv, h1, h2, h3, h4⟩ := h
  refine ⟨a, cap, hv, h1, h2, h3, fun i hi => ?_⟩
  obtain ⟨bl, off, u1, c1, ha, hl, k0, j1⟩ := h4 i hi
  exact ⟨bl, off, u1, c1, ha, hl, hx.cell k0, j1.ext hx⟩
theorem Lsts.lower (h : Lsts w lo v rs) (hl : lo' ≤ lo) : Lsts w lo' v rs := by
  obtain ⟨a, cap, hv, h1, h2, h3, h4⟩ := h
  refine ⟨a, cap, hv, h1, h2, h3, fun i hi => ?_⟩
  obtain ⟨bl, off, u1, c1, ha, hb, k0, j1⟩ := h4 i hi
  exact ⟨bl, off, u1, c1, ha, by omega, k0, j1.lower hl⟩
theorem Lsts.chg {l h' : Nat} (h : Lsts w lo v rs) (k : Chg l h' w w') (hb : h' ≤ lo) : Lsts w' lo v rs := by
  obtain ⟨a, cap, hv, h1, h2, h3, h4⟩ := h
  refine ⟨a, cap, hv, h1, h2, h3, fun i hi => ?_⟩
  obtain ⟨bl, off, u1, c1, ha, hb', k0, j1⟩ := h4 i hi
  exact ⟨bl, off, u1, c1, ha, hb', k.cell (.inr (by omega)) k0, j1.chg k hb⟩
theorem Lsts.form (h : Lsts w lo v rs) : ∃ a c, v = .slice a rs.length c := by obtain ⟨a, cap, rfl, _⟩ := h; exact ⟨_, _, rfl⟩
theorem Lsts.len (h : Lsts w lo v rs) : rs.length ≤ 1048576 := by obtain ⟨_, _, _, _, _, ⟨h, _⟩, _⟩ := h; exact h
theorem Lsts.nil (w : World) (lo : Nat) : Lsts w lo (.slice none 0 0) [] := ⟨none, 0, rfl, by simp, by simp, ⟨by simp, fun _ => rfl⟩, fun i hi => absurd hi (by simp)⟩
/-- the cells of one record -/
theorem Lsts.at {a : Option Addr} {n c : Nat} (h : Lsts w lo (.slice a n c) rs) (i : Nat) (hi : i < rs.length) : ∃ bl off u1 c1, a = some ⟨bl, off, none⟩ ∧ w.cell? ⟨bl, off + i, none⟩ = some (.slice u1 (lstAt rs i).s.length c1) ∧ Ints w lo (.slice u1 (lstAt rs i).s.length c1) (lstAt rs i).s := by
  obtain ⟨a', cap, hv, h1, h2, h3, h4⟩ := h
  cases hv
  obtain ⟨bl, off, u1, c1, ha, hb, k⟩ := h4 i hi
  exact ⟨bl, off, u1, c1, ha, k⟩
end
end Go.Proofs.Ytpgkhjmboiepcaa

/- Plain laws: valid tensors, the extents of labels. No condition. -/
namespace Go.Proofs.Ytpgkhjmboiepcaa
open Go.RowKit
set_option linter.unusedVariables false
set_option maxRecDepth 100000

/-- is a tensor valid? -/
def tenB (s t : List Int) : Bool := (shapeB s && decide ((t.length : Int) = countL s)) && t.all (inB (-1000000) 1000000)
theorem tenB_in {s t : List Int} (h : tenB s t = true) : shapeB s = true ∧ (t.length : Int) = countL s ∧ t.all (inB (-1000000) 1000000) = true := by
  unfold tenB at h; simp only [Bool.and_eq_true, decide_eq_true_eq] at h; exact ⟨h.1.1, h.1.2, h.2⟩
theorem any_not (xs : List Int) (p : Int → Bool) : xs.any (fun x => !p x) = !xs.all p := by
  induction xs with
  | nil => rfl
  | cons a l ih => rw [List.any_cons, List.all_cons, ih]; cases p a <;> rfl
end Go.Proofs.Ytpgkhjmboiepcaa

/- Walks: valid tensors, labels. -/
namespace Go.Proofs.Ytpgkhjmboiepcaa
open Go.RowKit
set_option linter.unusedVariables false
set_option maxRecDepth 100000


theorem tensorF_c (w : World) : Asks 90 #[] w (fun x => !inB (-1000000) 1000000 x) := by
  refine ⟨⟨Try.f90, Try.func90, rfl, by decide +kernel⟩, fun x => ?_⟩
  rw [show (#[Value.int .i64 x] ++ #[]) = #[.int .i64 x] by simp]
  by_cases h : x < -1000000
  · go_enter Try.func90, Try.ntmps90
    go_wp2_with fail
    go_ret
    exact ⟨by simp [inB]; intros; omega, rfl⟩
  · have h' : ¬ (x < -1000000) := h
    by_cases h2 : 1000000 < x
    · go_enter Try.func90, Try.ntmps90
      go_wp2_with fail
      go_ret
      exact ⟨by rw [show inB (-1000000) 1000000 x = false by unfold inB; simp; omega] <;> rfl, rfl⟩
    · go_enter Try.func90, Try.ntmps90
      go_wp2_with fail
      go_ret
      exact ⟨by rw [show inB (-1000000) 1000000 x = true by unfold inB; simp; omega] <;> rfl, rfl⟩
theorem anyT_c (xs : List Int) (v : Value) (w : World) (lo : Nat) (hv : Ints w lo v xs) :
    Calls Try.prog 87 #[v, .func (.func 90) #[] #[]] w fun e w' => e = .returned (.bool (!xs.all (inB (-1000000) 1000000))) ∧ w = w' := by
  rw [← any_not]; exact containsFunc_c _ _ _ xs v w lo hv (tensorF_c w)
set_option maxHeartbeats 1600000 in
theorem isTensor_c (u v : Value) (s t : List Int) (w : World) (l1 l2 : Nat) (h1 : Ints w l1 u s) (h2 : Ints w l2 v t) :
    Calls Try.prog 46 #[.agg #[u, v]] w (fun e w' => e = .returned (.bool (tenB s t)) ∧ Ext w w') := by
  obtain ⟨p0, c0, rfl⟩ := h1.form
  obtain ⟨p1, c1, rfl⟩ := h2.form
  go_enter Try.func46, Try.ntmps46
  go_wp2_with fail
  generalize hW1 : w.alloc (.cells #[.slice p0 s.length c0, .slice p1 t.length c1] 29) = w1 at *
  have Lw1 : Ext w w1 := by subst hW1; exact qXt
  have Xw1 : Ext w w1 := by subst hW1; exact Lw1
  have b10 : w1.cell? ⟨w.heap.size, 0, none⟩ = some (.slice p0 s.length c0) := by subst hW1; exact qCl
  have b11 : w1.cell? ⟨w.heap.size, 1, none⟩ = some (.slice p1 t.length c1) := by subst hW1; exact qCl
  have z_b1 : w.heap.size < w1.heap.size := qB b10
  have s_w1 : w.heap.size ≤ w1.heap.size := Xw1.size
  clear hW1
  refine wp_region_tail (S := fun w' => w'.cell? ⟨w.heap.size, 0, none⟩ = some (.slice p0 s.length c0) ∧ w'.cell? ⟨w.heap.size, 1, none⟩ = some (.slice p1 t.length c1)) (fun i => decide (13 ≤ i)) qKr ⟨b10, b11⟩ (fun hHeld => ?_)
  refine qTk (v := ?_) 0 rfl (.inl ⟨by rfl, ?_⟩) ?_
  rotate_left
  · (intro w hSw; (try dsimp only at hSw); go_simp; try with_reducible rfl)
  try simp only [Act.put, qa, qb, qc, qD, qE, qF]
  refine qTk (v := ?_) 1 rfl (.inl ⟨by rfl, ?_⟩) ?_
  rotate_left
  · (intro w hSw; (try dsimp only at hSw); go_simp; try with_reducible rfl)
  try simp only [Act.put, qa, qb, qc, qD, qE, qF]
  refine wpTail_one (i := 2) qKr rfl rfl (fun K hK => ?_)
  try simp only [Act.put, qa, qb, qc, qD, qE, qF]
  go_simp
  refine (isShape_c s (.slice p0 s.length c0) _ _ (h1.ext (Xw1.trans qXt))).mono ?_
  rintro e w' ⟨rfl, rfl⟩
  cases hB2 : shapeB s
  · replace hB2 := Lib.hid hB2
    refine hK.out _ _ ⟨b10, b11⟩ (fun hHeld => ?_)
    clear hK K
    try simp only [Act.put, qa, qb, qc, qD, qE, qF]
    refine qTk (v := ?_) 3 rfl (.inl ⟨by rfl, ?_⟩) ?_
    rotate_left
    · (intro w hSw; (try dsimp only at hSw); go_simp; try with_reducible rfl)
    try simp only [Act.put, qa, qb, qc, qD, qE, qF]
    refine qTk (v := ?_) 4 rfl (.inl ⟨by rfl, ?_⟩) ?_
    rotate_left
    · (intro w hSw; (try dsimp only at hSw); go_simp; try with_reducible rfl)
    try simp only [Act.put, qa, qb, qc, qD, qE, qF]
    refine qTs 5 rfl (.inr ⟨by rfl, rfl⟩) ?_
    try simp only [Act.put, qa, qb, qc, qD, qE, qF]
    refine qTs 6 rfl (.inr ⟨by rfl, rfl⟩) ?_
    try simp only [Act.put, qa, qb, qc, qD, qE, qF]
    refine qTs 7 rfl (.inr ⟨by rfl, rfl⟩) ?_
    try simp only [Act.put, qa, qb, qc, qD, qE, qF]
    refine qTs 8 rfl (.inr ⟨by rfl, rfl⟩) ?_
    try simp only [Act.put, qa, qb, qc, qD, qE, qF]
    refine qTs 9 rfl (.inr ⟨by rfl, rfl⟩) ?_
    try simp only [Act.put, qa, qb, qc, qD, qE, qF]
    refine qTs 10 rfl (.inr ⟨by rfl, rfl⟩) ?_
    try simp only [Act.put, qa, qb, qc, qD, qE, qF]
    refine qTs 11 rfl (.inr ⟨by rfl, rfl⟩) ?_
    try simp only [Act.put, qa, qb, qc, qD, qE, qF]
    refine qTk (v := ?_) 12 rfl (.inl ⟨by rfl, ?_⟩) ?_
    rotate_left
    · (intro w hSw; (try dsimp only at hSw); go_simp; try with_reducible rfl)
    try simp only [Act.put, qa, qb, qc, qD, qE, qF]
    refine wpTail_done qKr ?_ _
    clear hHeld 
    go_wp2_with fail
    go_ret
    exact ⟨by rw [show tenB s t = false from by unfold tenB; rw [hB2.out]; rfl] <;> rfl, (Xw1.trans qXt)⟩
  · replace hB2 := Lib.hid hB2
    refine hK.out _ _ ⟨b10, b11⟩ (fun hHeld => ?_)
    clear hK K
    try simp only [Act.put, qa, qb, qc, qD, qE, qF]
    refine qTk (v := ?_) 3 rfl (.inl ⟨by rfl, ?_⟩) ?_
    rotate_left
    · (intro w hSw; (try dsimp only at hSw); go_simp; try with_reducible rfl)
    try simp only [Act.put, qa, qb, qc, qD, qE, qF]
    refine qTk (v := ?_) 4 rfl (.inl ⟨by rfl, ?_⟩) ?_
    rotate_left
    · (intro w hSw; (try dsimp only at hSw); go_simp; try with_reducible rfl)
    try simp only [Act.put, qa, qb, qc, qD, qE, qF]
    refine qTk (v := ?_) 5 rfl (.inl ⟨by rfl, ?_⟩) ?_
    rotate_left
    · (intro w hSw; (try dsimp only at hSw); go_simp; try with_reducible rfl)
    try simp only [Act.put, qa, qb, qc, qD, qE, qF]
    refine qTk (v := ?_) 6 rfl (.inl ⟨by rfl, ?_⟩) ?_
    rotate_left
    · (intro w hSw; (try dsimp only at hSw); go_simp; try with_reducible rfl)
    try simp only [Act.put, qa, qb, qc, qD, qE, qF]
    refine qTk (v := ?_) 7 rfl (.inl ⟨by rfl, ?_⟩) ?_
    rotate_left
    · (intro w hSw; (try dsimp only at hSw); go_simp; try with_reducible rfl)
    try simp only [Act.put, qa, qb, qc, qD, qE, qF]
    refine qTk (v := ?_) 8 rfl (.inl ⟨by rfl, ?_⟩) ?_
    rotate_left
    · (intro w hSw; (try dsimp only at hSw); go_simp; try with_reducible rfl)
    try simp only [Act.put, qa, qb, qc, qD, qE, qF]
    refine qTk (v := ?_) 9 rfl (.inl ⟨by rfl, ?_⟩) ?_
    rotate_left
    · (intro w hSw; (try dsimp only at hSw); go_simp; try with_reducible rfl)
    try simp only [Act.put, qa, qb, qc, qD, qE, qF]
    refine wpTail_one (i := 10) qKr rfl rfl (fun K hK => ?_)
    try simp only [Act.put, qa, qb, qc, qD, qE, qF]
    go_simp
    refine (countOf_c s (.slice p0 s.length c0) _ _ (h1.ext (Xw1.trans qXt))).mono ?_
    rintro e w' ⟨rfl, rfl⟩
    refine hK.out _ _ ⟨b10, b11⟩ (fun hHeld => ?_)
    clear hK K
    try simp only [Act.put, qa, qb, qc, qD, qE, qF]
    by_cases hc3 : (t.length : Int) = (countL s : Int)
    · have hc3e : ((t.length : Int) == (countL s : Int)) = true := by simpa using hc3
      have hc3n : ((t.length : Int) != (countL s : Int)) = false := by simpa using hc3
      replace hc3 := Lib.hid hc3
      refine qTk (v := ?_) 11 rfl (.inl ⟨by rfl, ?_⟩) ?_
      rotate_left
      · (intro w hSw; (try dsimp only at hSw); go_simp; try with_reducible rfl)
      try simp only [Act.put, qa, qb, qc, qD, qE, qF]
      refine qTk (v := ?_) 12 rfl (.inl ⟨by rfl, ?_⟩) ?_
      rotate_left
      · (intro w hSw; (try dsimp only at hSw); go_simp; try with_reducible rfl)
      try simp only [Act.put, qa, qb, qc, qD, qE, qF]
      refine wpTail_done qKr ?_ _
      clear hHeld 
      go_wp2_with fail
      refine (anyT_c t (.slice p1 t.length c1) _ _ (h2.ext (Xw1.trans qXt))).mono ?_
      rintro e w' ⟨rfl, rfl⟩
      cases hB4 : !(t.all (inB (-1000000) 1000000))
      · replace hB4 := Lib.hid hB4
        go_wp2_with fail
        go_ret
        exact ⟨by rw [show tenB s t = true from by unfold tenB; rw [hB2.out, decide_eq_true (show ((t.length : Int) = countL s) from hc3.out), show t.all (inB (-1000000) 1000000) = true from by simpa using hB4.out]; rfl] <;> rfl, (Xw1.trans qXt)⟩
      · replace hB4 := Lib.hid hB4
        go_wp2_with fail
        go_ret
        exact ⟨by rw [show tenB s t = false from by unfold tenB; rw [hB2.out, decide_eq_true (show ((t.length : Int) = countL s) from hc3.out), show t.all (inB (-1000000) 1000000) = false from by simpa using hB4.out]; rfl] <;> rfl, (Xw1.trans qXt)⟩
    · have hc3e : ((t.length : Int) == (countL s : Int)) = false := by simpa using hc3
      have hc3n : ((t.length : Int) != (countL s : Int)) = true := by simpa using hc3
      replace hc3 := Lib.hid hc3
      refine qTk (v := ?_) 11 rfl (.inl ⟨by rfl, ?_⟩) ?_
      rotate_left
      · (intro w hSw; (try dsimp only at hSw); go_simp; try with_reducible rfl)
      try simp only [Act.put, qa, qb, qc, qD, qE, qF]
      refine qTk (v := ?_) 12 rfl (.inl ⟨by rfl, ?_⟩) ?_
      rotate_left
      · (intro w hSw; (try dsimp only at hSw); go_simp; try with_reducible rfl)
      try simp only [Act.put, qa, qb, qc, qD, qE, qF]
      refine wpTail_done qKr ?_ _
      clear hHeld 
      go_wp2_with fail
      go_ret
      exact ⟨by rw [show tenB s t = false from by unfold tenB; rw [hB2.out, decide_eq_false (show ¬ ((t.length : Int) = countL s) from hc3.out)]; rfl] <;> rfl, (Xw1.trans qXt)⟩

end Go.Proofs.Ytpgkhjmboiepcaa

/- Helpers of walks: capacities, two rows that grow. -/
namespace Go.Proofs.Ytpgkhjmboiepcaa
open Go.RowKit
set_option linter.unusedVariables false

theorem Ints.capLe {w : World} {lo : Nat} {a : Option Addr} {n c : Nat} {xs : List Int} (h : Ints w lo (.slice a n c) xs) : n ≤ c ∧ c ≤ maxLen := by
  obtain ⟨a', c', e, h1, h2, _⟩ := h
  cases e
  exact ⟨h1, h2⟩
theorem PViewB.two {w w' : World} {B : Nat} {b : Int} {s t : List Int} {v1 v2 : Value} (T : Two B w' v1 v2 s t) (hB : w.heap.size ≤ B) (hs : s.length ≤ 1000) (ht : t.length ≤ 1000) (hx : Ext w w') :
    PViewB w b s t true (.returned (.tuple #[.agg #[.int .i64 b, v1, v2], .bool true])) w' :=
  ⟨_, _, rfl, (T.o1.ints (by omega)).lower hB, (T.o2.ints (by omega)).lower hB, (T.o1.lower hB).z, (T.o2.lower hB).z,
    (fun n1 n2 h => by obtain ⟨g, _, h1, _⟩ := (T.o1).row n1; rw [h1] at h; exact T.sep g (by rw [h1]; rfl) (h ▸ rfl)), hx⟩
end Go.Proofs.Ytpgkhjmboiepcaa

/- Helpers of walks: appends to a literal without room, whatever is appended. -/
namespace Go.Proofs.Ytpgkhjmboiepcaa
open Go.RowKit
set_option linter.unusedVariables false
section
variable {w : World} {src : Value} {ys : List Int} {lo B l : Nat}
theorem run_app0O (ty : TypeId) (O : OwnI w B (.slice (some ⟨l, 0, none⟩) 0 0) []) (hB : B ≤ w.heap.size) (hs : Ints w lo src ys) :
    ∃ g r w', (Builtin.append_ #[23, 23] ty #[.slice (some ⟨l, 0, none⟩) 0 0, src]).run Try.prog w = .ok (.slice (some ⟨g, 0, none⟩) ys.length r) w' ∧ OwnI w' B (.slice (some ⟨g, 0, none⟩) ys.length r) ys ∧ Ext w w' ∧ (g = l ∨ w.heap.size ≤ g) ∧ g < w'.heap.size ∧ (ys = [] → r = 0) := by
  obtain ⟨v', w', hr, h1, h2, h3⟩ := run_app0 ⟨l, 0, none⟩ ty hs
  by_cases he : ys = []
  · subst he
    have hs' := hs
    obtain ⟨i0, hi, hz0, hz1, hz2⟩ := info_parts infoInt
    obtain ⟨a, cap, rfl, h1, h2, ⟨h3', h3⟩, h4⟩ := hs
    refine ⟨l, 0, w, ?_, O, Ext.refl _, .inl rfl, (own_lt O rfl).2, fun _ => rfl⟩
    cases a with
    | none => simp [Builtin.append_, run_underlying Try.underlying23, sizeOf, typeInfo, hi, Builtin.lenOf, Builtin.firstCells, storeCells]
    | some x => simp [Builtin.append_, run_underlying Try.underlying23, sizeOf, typeInfo, hi, Builtin.lenOf, Builtin.firstCells, storeCells, loadCells, loadCellsFrom]
  · have O' := (h1.ofNe he)
    obtain ⟨g, r, rfl, hg, hg'⟩ := O'.row he
    exact ⟨g, r, w', hr, O'.lower hB, h2, .inr hg, hg', fun h => absurd h he⟩

theorem step_app0O {ops : Array Oper} {o : Oper} {a : Act} {K : Act → World → Prop} {Q : Exit → Act → World → Prop} {F : Prop} (hgd : o.guard = none) (s x : Operand)
    (ho : o.op = .call { callee := .builtin .append, args := #[s, x], argTypes := #[23, 23] })
    (hs : a.eval s = .slice (some ⟨l, 0, none⟩) 0 0) (hx : a.eval x = src) (O : OwnI w B (.slice (some ⟨l, 0, none⟩) 0 0) []) (hB : B ≤ w.heap.size) (hsrc : Ints w lo src ys)
    (hK : ∀ g r w', OwnI w' B (.slice (some ⟨g, 0, none⟩) ys.length r) ys → Ext w w' → (g = l ∨ w.heap.size ≤ g) → g < w'.heap.size → K (a.put o.dst (.slice (some ⟨g, 0, none⟩) ys.length r)) w') :
    if Region.wanted o (yielded ops a.tmps) = true then Oper.wp Try.prog o a w K Q else F := by
  have hw : Region.wanted o (yielded ops a.tmps) = true := by simp [Region.wanted, hgd]
  rw [if_pos hw]
  obtain ⟨g, r, w', hr, h1, h2, h3, h4, h5⟩ := run_app0O o.type O hB hsrc
  unfold Oper.wp execOp
  simp only [ho, resolve, invoke, builtin, Sem.run_bind, Sem.run_pure, Result.andThen_ok, List.map_toArray, List.map_cons, List.map_nil, hs, hx, hr]
  exact hK g r w' h1 h2 h3 h4
theorem wpList_app0C {ops : Array Oper} {rest : List Oper} {o : Oper} {a : Act} {Q : Exit → Act → World → Prop} (hgd : o.guard = none) (s x : Operand)
    (ho : o.op = .call { callee := .builtin .append, args := #[s, x], argTypes := #[23, 23] })
    (hs : a.eval s = .slice (some ⟨l, 0, none⟩) 0 0) (hx : a.eval x = src) (O : OwnI w B (.slice (some ⟨l, 0, none⟩) 0 0) []) (hB : B ≤ w.heap.size) (hsrc : Ints w lo src ys)
    (hK : ∀ g r w', OwnI w' B (.slice (some ⟨g, 0, none⟩) ys.length r) ys → Ext w w' → (g = l ∨ w.heap.size ≤ g) → g < w'.heap.size → Hid (ys = [] → r = 0) → wpList Try.prog ops Q rest (a.put o.dst (.slice (some ⟨g, 0, none⟩) ys.length r)) w') : wpList Try.prog ops Q (o :: rest) a w := by
  refine wpList_plain hgd fun K hK' => ?_
  obtain ⟨g, r, w', hr, h1, h2, h3, h4, h5⟩ := run_app0O o.type O hB hsrc
  unfold Oper.wp execOp
  simp only [ho, resolve, invoke, builtin, Sem.run_bind, Sem.run_pure, Result.andThen_ok, List.map_toArray, List.map_cons, List.map_nil, hs, hx, hr]
  exact hK' _ _ (hK g r w' h1 h2 h3 h4 (Lib.hid h5))
end
/-- a call hands back a row of its own -/
def PIntsO (w : World) (xs : List Int) (e : Ending) (w' : World) : Prop := ∃ g r, e = .returned (.slice (some ⟨g, 0, none⟩) xs.length r) ∧ OwnI w' w.heap.size (.slice (some ⟨g, 0, none⟩) xs.length r) xs ∧ w.heap.size ≤ g ∧ g < w'.heap.size ∧ Ext w w'
/-- a call hands back a row of its own, without room where it is empty -/
def PIntsC (w : World) (xs : List Int) (e : Ending) (w' : World) : Prop := ∃ g r, e = .returned (.slice (some ⟨g, 0, none⟩) xs.length r) ∧ OwnI w' w.heap.size (.slice (some ⟨g, 0, none⟩) xs.length r) xs ∧ w.heap.size ≤ g ∧ g < w'.heap.size ∧ Hid (xs = [] → r = 0) ∧ Ext w w'
theorem PIntsC.o {w w' : World} {xs : List Int} {e : Ending} (h : PIntsC w xs e w') : PIntsO w xs e w' := by obtain ⟨g, r, h1, h2, h3, h4, -, h5⟩ := h; exact ⟨g, r, h1, h2, h3, h4, h5⟩
/-- an empty slice has no room -/
def CapZ (v : Value) (xs : List Int) : Prop := Hid (xs = [] → ∃ a, v = .slice a 0 0)
theorem CapZ.row {g r n : Nat} {ys xs : List Int} (hz : Hid (ys = [] → r = 0)) (hl : xs.length = ys.length) (hn : n = ys.length) : CapZ (.slice (some ⟨g, 0, none⟩) n r) xs :=
  Lib.hid fun h => by
    subst h
    have hy : ys = [] := List.eq_nil_of_length_eq_zero hl.symm
    rw [hn, hz.out hy, hy]
    exact ⟨_, rfl⟩
theorem CapZ.nil (xs : List Int) : CapZ (.slice none 0 0) xs := Lib.hid fun _ => ⟨_, rfl⟩
theorem CapZ.same {g n : Nat} {xs : List Int} (hn : n = xs.length) : CapZ (.slice (some ⟨g, 0, none⟩) n n) xs := Lib.hid fun h => by subst h; subst hn; exact ⟨_, rfl⟩
/-- a call hands back a new slice, without room where it is empty, and whether that is possible -/
def PIntsBC (w : World) (xs : List Int) (b : Bool) (e : Ending) (w' : World) : Prop := ∃ v, e = .returned (.tuple #[v, .bool b]) ∧ Ints w' w.heap.size v xs ∧ OwnZ w' w.heap.size v xs ∧ CapZ v xs ∧ Ext w w'
theorem PIntsBC.nil {w w' : World} (h : Ext w w') : PIntsBC w [] false (.returned (.tuple #[.slice none 0 0, .bool false])) w' :=
  ⟨_, rfl, Ints.nil _ _ _ _ (by simp) (fun _ => rfl), .inl ⟨rfl, none, 0, rfl, by simp, fun _ => rfl⟩, CapZ.nil _, h⟩
end Go.Proofs.Ytpgkhjmboiepcaa

/- Walks: copies that are rows. -/
namespace Go.Proofs.Ytpgkhjmboiepcaa
open Go.RowKit
set_option linter.unusedVariables false
set_option maxRecDepth 100000

set_option maxHeartbeats 1600000 in
theorem copyIntsC_c (v3 : Value) (u : List Int) (w : World) (l3 : Nat) (h3 : Ints w l3 v3 u) :
    Calls Try.prog 42 #[v3] w (PIntsC w u) := by
  obtain ⟨p2, c2, rfl⟩ := h3.form
  go_enter Try.func42, Try.ntmps42
  have BL6 : Ext w w := Ext.refl _
  have hln1 : u.length ≤ 4194304 := (h3).len
  go_wp2_with (at_builtin; refine wpList_app0C rfl (.tmp 3) (.tmp 4) rfl rfl rfl (OwnI.lit0 (w) w.heap.size (by simp)) (by simp) (h3.ext qXt) ?_)
  intro gr3 rr4 w1 O2 xw1 hg7 Ggr3' czgr3
  replace xw1 : Ext w w1 := Ext.trans qXt xw1
  have Ggr3 : w.heap.size ≤ gr3 := by (try simp only [World.size_alloc, World.size_drew] at hg7); omega
  clear hg7
  have Lw1 : Ext w w1 := Ext.trans qXt xw1
  have Xw1 : Ext w w1 := Lw1
  have s_w1 : w.heap.size ≤ w1.heap.size := Xw1.size
  have BL6_w1 : Ext w w1 := BL6.trans Lw1
  clear xw1
  go_wp2_with fail
  go_ret
  exact ⟨_, _, rfl, O2.lower (by omega), by omega, Ggr3', czgr3, Xw1⟩

set_option maxHeartbeats 1600000 in
theorem copyIntsO_c (v3 : Value) (u : List Int) (w : World) (l3 : Nat) (h3 : Ints w l3 v3 u) :
    Calls Try.prog 42 #[v3] w (PIntsO w u) :=
  (copyIntsC_c v3 u w l3 h3).mono fun _ _ h => h.o


end Go.Proofs.Ytpgkhjmboiepcaa

/- Walks: TensorOf of the program and of the reference. -/
namespace Go.Proofs.Ytpgkhjmboiepcaa
open Go.RowKit
set_option linter.unusedVariables false
set_option maxRecDepth 100000

/-- what TensorOf returns -/
def tofA (mem : List Int) (b : Int) (s t : List Int) : Ten := if holdB mem b s t then ⟨s, loadL mem b s t⟩ else ⟨[], []⟩
theorem tofA_no {mem : List Int} {b : Int} {s t : List Int} (h : holdB mem b s t = false) : tofA mem b s t = ⟨[], []⟩ := by unfold tofA; rw [h]; rfl
theorem tofA_yes {mem : List Int} {b : Int} {s t : List Int} (h : holdB mem b s t = true) : tofA mem b s t = ⟨s, loadL mem b s t⟩ := by unfold tofA; rw [h]; rfl
/-- a call hands back a tensor, and whether it is one -/
def PTof (w : World) (x : Ten) (b : Bool) (e : Ending) (w' : World) : Prop := ∃ (u1 u2 : Option Addr) (c1 c2 : Nat), e = .returned (.tuple #[.agg #[.slice u1 x.s.length c1, .slice u2 x.t.length c2], .bool b]) ∧ Ints w' w.heap.size (.slice u1 x.s.length c1) x.s ∧ Ints w' w.heap.size (.slice u2 x.t.length c2) x.t ∧ Ext w w'
theorem PTof.no {w w' : World} (h : Ext w w') : PTof w ⟨[], []⟩ false (.returned (.tuple #[.agg #[.slice none 0 0, .slice none 0 0], .bool false])) w' :=
 ⟨none, none, 0, 0, rfl, Ints.nil _ _ _ _ (by simp) (fun _ => rfl), Ints.nil _ _ _ _ (by simp) (fun _ => rfl), h⟩
set_option maxHeartbeats 1600000 in
theorem implTensorOf_c (mem : List Int) (a0 : Value) (b1 : Int) (u1 v1 : Value) (s1 t1 : List Int) (w : World) (l0 l1 m1 : Nat) (h0 : Ints w l0 a0 mem) (h1 : Ints w l1 u1 s1) (k1 : Ints w m1 v1 t1) :
  Calls Try.prog 9 #[a0, .agg #[.int .i64 b1, u1, v1]] w (PTof w (tofA mem b1 s1 t1) (holdB mem b1 s1 t1)) := by
 have hl7 := h1.len
 obtain ⟨p0, c0, rfl⟩ := h0.form
 obtain ⟨p1, c1, rfl⟩ := h1.form
 obtain ⟨p2, c2, rfl⟩ := k1.form
 go_enter Try.func9, Try.ntmps9
 go_wp2_with fail
 refine (canHold_c mem (.slice p0 mem.length c0) b1 (.slice p1 s1.length c1) (.slice p2 t1.length c2) s1 t1 _ _ _ _ (h0.ext qXt) (h1.ext qXt) (k1.ext qXt)).mono ?_
 rintro e w1 ⟨rfl, xw1⟩
 have Lw1 : Ext w w1 := Ext.trans qXt xw1
 have Xw1 : Ext w w1 := Lw1
 have b10 : w1.cell? ⟨w.heap.size, 0, none⟩ = some (.int .i64 b1) := xw1.cell qCl
 have b11 : w1.cell? ⟨w.heap.size, 1, none⟩ = some (.slice p1 s1.length c1) := xw1.cell qCl
 have b12 : w1.cell? ⟨w.heap.size, 2, none⟩ = some (.slice p2 t1.length c2) := xw1.cell qCl
 have b20 : w1.cell? ⟨w.heap.size + 1, 0, none⟩ = some (.slice none 0 0) := xw1.cell qCl
 have b21 : w1.cell? ⟨w.heap.size + 1, 1, none⟩ = some (.slice none 0 0) := xw1.cell qCl
 have f_b20 : w1.frozen? ⟨w.heap.size + 1, 0, none⟩ = false := xw1.frz (by simp <;> omega) qFz
 have f_b21 : w1.frozen? ⟨w.heap.size + 1, 1, none⟩ = false := xw1.frz (by simp <;> omega) qFz
 have z_b1 : w.heap.size < w1.heap.size := qB b10
 have z_b2 : w.heap.size + 1 < w1.heap.size := qB b20
 have s_w1 : w.heap.size ≤ w1.heap.size := Xw1.size
 clear xw1
 cases hB3 : holdB mem b1 s1 t1
 ·
  replace hB3 := Lib.hid hB3
  go_wp2_with fail
  generalize hW1 : ((w1.setCell ⟨w.heap.size + 1, 0, none⟩ (.slice none 0 0)).setCell ⟨w.heap.size + 1, 1, none⟩ (.slice none 0 0)) = w2 at *
  have Kw2 : Chg (w.heap.size + 1) (w.heap.size + 1 + 1) w1 w2 := by subst hW1; exact qCh
  have Xw2 : Ext w w2 := by subst hW1; exact qXt
  replace b10 := Kw2.cell (by omega) b10
  replace b11 := Kw2.cell (by omega) b11
  replace b12 := Kw2.cell (by omega) b12
  replace b20 : w2.cell? ⟨w.heap.size + 1, 0, none⟩ = some (.slice none 0 0) := by subst hW1; go_simp
  replace f_b20 : w2.frozen? ⟨w.heap.size + 1, 0, none⟩ = false := by subst hW1; first | (simp only [World.frozen?_setCell]; with_reducible assumption) | go_simp
  replace b21 : w2.cell? ⟨w.heap.size + 1, 1, none⟩ = some (.slice none 0 0) := by subst hW1; go_simp
  replace f_b21 : w2.frozen? ⟨w.heap.size + 1, 1, none⟩ = false := by subst hW1; first | (simp only [World.frozen?_setCell]; with_reducible assumption) | go_simp
  clear Kw2
  have z_b1 : w.heap.size < w2.heap.size := qB b10
  have z_b2 : w.heap.size + 1 < w2.heap.size := qB b20
  have s_w2 : w.heap.size ≤ w2.heap.size := Xw2.size
  clear hW1
  go_wp2_with fail
  refine bodyPost_ret (v := .tuple #[.agg #[.slice none 0 0, .slice none 0 0], .bool false]) (by simp only [results, Try.results9]; go_simp) rfl ?_
  rw [tofA_no hB3.out, hB3.out]
  exact PTof.no Xw2
 ·
  replace hB3 := Lib.hid hB3
  go_wp2_with fail
  have Q4_b10 := Lib.hid b10
  have Q4_b11 := Lib.hid b11
  have Q4_b12 := Lib.hid b12
  have Q4_zb1 := z_b1
  have Q4_b20 := Lib.hid b20
  have Q4_f_b20 := Lib.hid f_b20
  have Q4_b21 := Lib.hid b21
  have Q4_f_b21 := Lib.hid f_b21
  have Q4_zb2 := z_b2
  have BL5 : Ext w1 w1 := Ext.refl _
  go_cut [5] (fun s5 wx => ∃ (g3 : Nat) (r3 : Nat) (a6 : Option Addr) (r6 : Nat), s5 = .bool true ∧ Chg (w.heap.size + 1) (w.heap.size + 1 + 1) w1 wx ∧ w1.heap.size ≤ g3 ∧ g3 < wx.heap.size ∧ OwnI wx w1.heap.size (.slice (some ⟨g3, 0, none⟩) s1.length r3) s1 ∧ Ints wx w1.heap.size (.slice a6 ((loadL mem b1 s1 t1).length) r6) (loadL mem b1 s1 t1) ∧ wx.cell? ⟨w.heap.size + 1, 0, none⟩ = some (.slice (some ⟨g3, 0, none⟩) s1.length r3) ∧ wx.frozen? ⟨w.heap.size + 1, 0, none⟩ = false ∧ wx.cell? ⟨w.heap.size + 1, 1, none⟩ = some (.slice a6 ((loadL mem b1 s1 t1).length) r6) ∧ wx.frozen? ⟨w.heap.size + 1, 1, none⟩ = false)
  case first =>
   have X3 : Ext w1 w1 := Ext.refl _
   refine wp_region_held_drew (S := fun w' => w'.cell? ⟨w.heap.size, 0, none⟩ = some (.int .i64 b1) ∧ w'.cell? ⟨w.heap.size, 1, none⟩ = some (.slice p1 s1.length c1) ∧ w'.cell? ⟨w.heap.size, 2, none⟩ = some (.slice p2 t1.length c2)) qKr ⟨b10, b11, b12⟩ (fun hHeld => ?_)
   refine qHk (v := ?_) 1 rfl (.inl ⟨by rfl, ?_⟩) ?_
   rotate_left
   ·
    (intro w hSw; (try dsimp only at hSw); go_simp; try with_reducible rfl)
   try simp only [Act.put, qa, qb, qc, qD, qE, qF]
   refine qHk (v := ?_) 2 rfl (.inl ⟨by rfl, ?_⟩) ?_
   rotate_left
   ·
    (intro w hSw; (try dsimp only at hSw); go_simp; try with_reducible rfl)
   try simp only [Act.put, qa, qb, qc, qD, qE, qF]
   refine qHk (v := ?_) 4 rfl (.inl ⟨by rfl, ?_⟩) ?_
   rotate_left
   ·
    (intro w hSw; (try dsimp only at hSw); go_simp; try with_reducible rfl)
   try simp only [Act.put, qa, qb, qc, qD, qE, qF]
   refine qHk (v := ?_) 5 rfl (.inl ⟨by rfl, ?_⟩) ?_
   rotate_left
   ·
    (intro w hSw; (try dsimp only at hSw); go_simp; try with_reducible rfl)
   try simp only [Act.put, qa, qb, qc, qD, qE, qF]
   refine qHr 0 rfl (fun K hK => ?_)
   try simp only [Act.put, qa, qb, qc, qD, qE, qF]
   go_simp
   refine hK.out _ (w1.drew.alloc (.cells #[] 3)) ⟨(show Ext w1 (w1.drew.alloc (.cells #[] 3)) from qXt).cell b10, (show Ext w1 (w1.drew.alloc (.cells #[] 3)) from qXt).cell b11, (show Ext w1 (w1.drew.alloc (.cells #[] 3)) from qXt).cell b12⟩ (fun hHeld => ?_)
   clear hK K
   try simp only [Act.put, qa, qb, qc, qD, qE, qF]
   generalize hW2 : w1.drew.alloc (.cells #[] 3) = w3_1 at *
   have S_w3_1 : w1.heap.size < w3_1.heap.size := by subst hW2; simp
   have hx7 : Ext w1 w3_1 := by subst hW2; exact qXt
   replace X3 := X3.trans hx7
   clear hx7
   have O3_2 : OwnI w3_1 w1.heap.size (.slice (some ⟨w1.heap.size, 0, none⟩) 0 0) [] := by subst hW2; exact OwnI.lit0 _ _ (by simp)
   have Yw3_1 := Ext.refl w3_1
   clear hW2
   refine qHr 3 rfl (fun K hK => ?_)
   refine step_app0O rfl (.tmp 11) (.tmp 13) rfl rfl rfl (O3_2.ext Yw3_1) (by omega) (by exact ((h1.ext Xw1).ext (show Ext w1 w3_1 from qXt))) ?_
   intro g3_6 r3_7 w3_3 O3_4 x3_5 Eg3_6 Hg3_6
   have S_w3_3 : w3_1.heap.size ≤ w3_3.heap.size := x3_5.size
   replace Yw3_1 := Yw3_1.trans x3_5
   replace X3 := X3.trans x3_5
   have Yw3_3 := Ext.refl w3_3
   clear x3_5
   refine hK.out _ w3_3 ⟨(show Ext w1 w3_3 from qXt).cell b10, (show Ext w1 w3_3 from qXt).cell b11, (show Ext w1 w3_3 from qXt).cell b12⟩ (fun hHeld => ?_)
   clear hK K
   try simp only [Act.put, qa, qb, qc, qD, qE, qF]
   refine qHr 6 rfl (fun K hK => ?_)
   try simp only [Act.put, qa, qb, qc, qD, qE, qF]
   go_simp
   refine (loadView_c mem (.slice p0 mem.length c0) b1 (.slice p1 s1.length c1) (.slice p2 t1.length c2) s1 t1 _ _ _ _ (h0.ext (Xw1.trans qXt)) (h1.ext (Xw1.trans qXt)) (k1.ext (Xw1.trans qXt)) hB3.out).mono ?_
   rintro e w3_8 ⟨v3_10, rfl, I3_11, O3_12, x3_9⟩
   obtain ⟨a3_13, r3_14, rfl⟩ := I3_11.form
   replace x3_9 : Ext w3_3 w3_8 := Ext.trans qXt x3_9
   have S_w3_8 : w3_3.heap.size ≤ w3_8.heap.size := x3_9.size
   replace Yw3_3 := Yw3_3.trans x3_9
   replace X3 := X3.trans x3_9
   have Yw3_8 := Ext.refl w3_8
   clear x3_9
   refine hK.out _ w3_8 ⟨(show Ext w1 w3_8 from qXt).cell b10, (show Ext w1 w3_8 from qXt).cell b11, (show Ext w1 w3_8 from qXt).cell b12⟩ (fun hHeld => ?_)
   clear hK K
   try simp only [Act.put, qa, qb, qc, qD, qE, qF]
   refine qHk (v := ?_) 7 rfl (.inl ⟨by rfl, ?_⟩) ?_
   rotate_left
   ·
    (intro w hSw; (try dsimp only at hSw); go_simp; try with_reducible rfl)
   try simp only [Act.put, qa, qb, qc, qD, qE, qF]
   refine qHr 8 rfl (fun K hK => ?_)
   try simp only [Act.put, qa, qb, qc, qD, qE, qF]
   replace b20 := X3.cell b20
   replace f_b20 := X3.frz z_b2 f_b20
   replace b21 := X3.cell b21
   replace f_b21 := X3.frz z_b2 f_b21
   go_simp
   have zz := X3.size
   have K3 : Chg (w.heap.size + 1) (w.heap.size + 1 + 1) w3_8 ((w3_8.setCell ⟨w.heap.size + 1, 0, none⟩ (.slice (some ⟨g3_6, 0, none⟩) s1.length r3_7)).setCell ⟨w.heap.size + 1, 1, none⟩ (.slice a3_13 ((loadL mem b1 s1 t1).length) r3_14)) := (Chg.setCell (p := ⟨w.heap.size + 1, 1, none⟩) (Chg.setCell (p := ⟨w.heap.size + 1, 0, none⟩) (Chg.refl (w.heap.size + 1) ((w.heap.size + 1) + 1) w3_8) (Nat.le_refl _) (Nat.lt_succ_self _) _) (Nat.le_refl _) (Nat.lt_succ_self _) _)
   have n_b20 : ((w3_8.setCell ⟨w.heap.size + 1, 0, none⟩ (.slice (some ⟨g3_6, 0, none⟩) s1.length r3_7)).setCell ⟨w.heap.size + 1, 1, none⟩ (.slice a3_13 ((loadL mem b1 s1 t1).length) r3_14)).cell? ⟨w.heap.size + 1, 0, none⟩ = some (.slice (some ⟨g3_6, 0, none⟩) s1.length r3_7) := by go_simp
   replace f_b20 : ((w3_8.setCell ⟨w.heap.size + 1, 0, none⟩ (.slice (some ⟨g3_6, 0, none⟩) s1.length r3_7)).setCell ⟨w.heap.size + 1, 1, none⟩ (.slice a3_13 ((loadL mem b1 s1 t1).length) r3_14)).frozen? ⟨w.heap.size + 1, 0, none⟩ = false := by go_simp
   have n_b21 : ((w3_8.setCell ⟨w.heap.size + 1, 0, none⟩ (.slice (some ⟨g3_6, 0, none⟩) s1.length r3_7)).setCell ⟨w.heap.size + 1, 1, none⟩ (.slice a3_13 ((loadL mem b1 s1 t1).length) r3_14)).cell? ⟨w.heap.size + 1, 1, none⟩ = some (.slice a3_13 ((loadL mem b1 s1 t1).length) r3_14) := by go_simp
   replace f_b21 : ((w3_8.setCell ⟨w.heap.size + 1, 0, none⟩ (.slice (some ⟨g3_6, 0, none⟩) s1.length r3_7)).setCell ⟨w.heap.size + 1, 1, none⟩ (.slice a3_13 ((loadL mem b1 s1 t1).length) r3_14)).frozen? ⟨w.heap.size + 1, 1, none⟩ = false := by go_simp
   replace O3_4 := (O3_4.ext Yw3_3).chgN K3 (by omega)
   replace I3_11 := (I3_11.ext Yw3_8).chg K3 (by first | omega | (simp only [World.size_alloc, World.size_drew]; omega))
   have C3 : Chg (w.heap.size + 1) (w.heap.size + 1 + 1) w1 ((w3_8.setCell ⟨w.heap.size + 1, 0, none⟩ (.slice (some ⟨g3_6, 0, none⟩) s1.length r3_7)).setCell ⟨w.heap.size + 1, 1, none⟩ (.slice a3_13 ((loadL mem b1 s1 t1).length) r3_14)) := (Chg.of_ext X3).trans K3
   clear zz K3
   have S_st : w3_8.heap.size ≤ ((w3_8.setCell ⟨w.heap.size + 1, 0, none⟩ (.slice (some ⟨g3_6, 0, none⟩) s1.length r3_7)).setCell ⟨w.heap.size + 1, 1, none⟩ (.slice a3_13 ((loadL mem b1 s1 t1).length) r3_14)).heap.size := by simp
   refine hK.out _ (((w3_8.setCell ⟨w.heap.size + 1, 0, none⟩ (.slice (some ⟨g3_6, 0, none⟩) s1.length r3_7)).setCell ⟨w.heap.size + 1, 1, none⟩ (.slice a3_13 ((loadL mem b1 s1 t1).length) r3_14))) ⟨C3.cell (by omega) b10, C3.cell (by omega) b11, C3.cell (by omega) b12⟩ (fun hHeld => ?_)
   clear hK K
   try simp only [Act.put, qa, qb, qc, qD, qE, qF]
   refine qHk (v := ?_) 9 rfl (.inl ⟨by rfl, ?_⟩) ?_
   rotate_left
   ·
    (intro w hSw; (try dsimp only at hSw); go_simp; try with_reducible rfl)
   try simp only [Act.put, qa, qb, qc, qD, qE, qF]
   refine wpAnyH_done qKr ?_ _
   clear hHeld
   have zz := X3.size
   go_step
   go_step
   go_meet
   case rel => exact ⟨g3_6, r3_7, a3_13, r3_14, rfl, C3, (by omega), (by omega), (O3_4).lower (by omega), (I3_11).lower (by omega), n_b20, f_b20, n_b21, f_b21⟩
  case rest =>
   generalize wc = wc6 at hcut ⊢
   obtain ⟨g8, r9, a10, r11, rfl, xx7, Gg8, Hg8, O12, i13, N_b20, M_b20, N_b21, M_b21⟩ := hcut
   have zc_wc6 := xx7.size
   have Xwc6 : Ext w wc6 := Ext.chg Xw1 xx7 (by omega)
   replace b10 := xx7.cell (by omega) b10
   replace b11 := xx7.cell (by omega) b11
   replace b12 := xx7.cell (by omega) b12
   replace b20 := N_b20
   clear N_b20
   replace f_b20 := M_b20
   clear M_b20
   replace b21 := N_b21
   clear N_b21
   replace f_b21 := M_b21
   clear M_b21
   have z_b1 : w.heap.size < wc6.heap.size := qB b10
   have z_b2 : w.heap.size + 1 < wc6.heap.size := qB b20
   have s_wc6 : w.heap.size ≤ wc6.heap.size := Xwc6.size
   clear xx7
   go_wp2_with fail
   go_wp2_with fail
   refine bodyPost_ret (v := .tuple #[.agg #[.slice (some ⟨g8, 0, none⟩) s1.length r9, .slice a10 ((loadL mem b1 s1 t1).length) r11], .bool true]) (by simp only [results, Try.results9]; go_simp) rfl ?_
   rw [tofA_yes hB3.out, hB3.out]
   exact ⟨_, _, _, _, rfl, (O12.ints (by first | (simp; omega) | (simp only [List.length_set]; omega) | omega)).lower (by omega), i13.lower (by omega), Xwc6⟩

set_option maxHeartbeats 1600000 in
theorem specTensorOf_c (mem : List Int) (a0 : Value) (b1 : Int) (u1 v1 : Value) (s1 t1 : List Int) (w : World) (l0 l1 m1 : Nat) (h0 : Ints w l0 a0 mem) (h1 : Ints w l1 u1 s1) (k1 : Ints w m1 v1 t1) :
  Calls Try.prog 10 #[a0, .agg #[.int .i64 b1, u1, v1]] w (PTof w (tofA mem b1 s1 t1) (holdB mem b1 s1 t1)) := by
 have hl7 := h1.len
 obtain ⟨p0, c0, rfl⟩ := h0.form
 obtain ⟨p1, c1, rfl⟩ := h1.form
 obtain ⟨p2, c2, rfl⟩ := k1.form
 go_enter Try.func10, Try.ntmps10
 go_wp2_with fail
 refine (sees_c mem (.slice p0 mem.length c0) b1 (.slice p1 s1.length c1) (.slice p2 t1.length c2) s1 t1 _ _ _ _ (h0.ext qXt) (h1.ext qXt) (k1.ext qXt)).mono ?_
 rintro e w1 ⟨rfl, xw1⟩
 have Lw1 : Ext w w1 := Ext.trans qXt xw1
 have Xw1 : Ext w w1 := Lw1
 have b10 : w1.cell? ⟨w.heap.size, 0, none⟩ = some (.int .i64 b1) := xw1.cell qCl
 have b11 : w1.cell? ⟨w.heap.size, 1, none⟩ = some (.slice p1 s1.length c1) := xw1.cell qCl
 have b12 : w1.cell? ⟨w.heap.size, 2, none⟩ = some (.slice p2 t1.length c2) := xw1.cell qCl
 have b20 : w1.cell? ⟨w.heap.size + 1, 0, none⟩ = some (.slice none 0 0) := xw1.cell qCl
 have b21 : w1.cell? ⟨w.heap.size + 1, 1, none⟩ = some (.slice none 0 0) := xw1.cell qCl
 have f_b20 : w1.frozen? ⟨w.heap.size + 1, 0, none⟩ = false := xw1.frz (by simp <;> omega) qFz
 have f_b21 : w1.frozen? ⟨w.heap.size + 1, 1, none⟩ = false := xw1.frz (by simp <;> omega) qFz
 have z_b1 : w.heap.size < w1.heap.size := qB b10
 have z_b2 : w.heap.size + 1 < w1.heap.size := qB b20
 have s_w1 : w.heap.size ≤ w1.heap.size := Xw1.size
 clear xw1
 cases hB3 : holdB mem b1 s1 t1
 ·
  replace hB3 := Lib.hid hB3
  go_wp2_with fail
  generalize hW3 : ((w1.setCell ⟨w.heap.size + 1, 0, none⟩ (.slice none 0 0)).setCell ⟨w.heap.size + 1, 1, none⟩ (.slice none 0 0)) = w2 at *
  have Kw2 : Chg (w.heap.size + 1) (w.heap.size + 1 + 1) w1 w2 := by subst hW3; exact qCh
  have Xw2 : Ext w w2 := by subst hW3; exact qXt
  replace b10 := Kw2.cell (by omega) b10
  replace b11 := Kw2.cell (by omega) b11
  replace b12 := Kw2.cell (by omega) b12
  replace b20 : w2.cell? ⟨w.heap.size + 1, 0, none⟩ = some (.slice none 0 0) := by subst hW3; go_simp
  replace f_b20 : w2.frozen? ⟨w.heap.size + 1, 0, none⟩ = false := by subst hW3; first | (simp only [World.frozen?_setCell]; with_reducible assumption) | go_simp
  replace b21 : w2.cell? ⟨w.heap.size + 1, 1, none⟩ = some (.slice none 0 0) := by subst hW3; go_simp
  replace f_b21 : w2.frozen? ⟨w.heap.size + 1, 1, none⟩ = false := by subst hW3; first | (simp only [World.frozen?_setCell]; with_reducible assumption) | go_simp
  clear Kw2
  have z_b1 : w.heap.size < w2.heap.size := qB b10
  have z_b2 : w.heap.size + 1 < w2.heap.size := qB b20
  have s_w2 : w.heap.size ≤ w2.heap.size := Xw2.size
  clear hW3
  go_wp2_with fail
  refine bodyPost_ret (v := .tuple #[.agg #[.slice none 0 0, .slice none 0 0], .bool false]) (by simp only [results, Try.results10]; go_simp) rfl ?_
  rw [tofA_no hB3.out, hB3.out]
  exact PTof.no Xw2
 ·
  replace hB3 := Lib.hid hB3
  go_wp2_with fail
  have Q4_b10 := Lib.hid b10
  have Q4_b11 := Lib.hid b11
  have Q4_b12 := Lib.hid b12
  have Q4_zb1 := z_b1
  have Q4_b20 := Lib.hid b20
  have Q4_f_b20 := Lib.hid f_b20
  have Q4_b21 := Lib.hid b21
  have Q4_f_b21 := Lib.hid f_b21
  have Q4_zb2 := z_b2
  have BL5 : Ext w1 w1 := Ext.refl _
  go_cut [5] (fun s5 wx => ∃ (g2 : Nat) (r2 : Nat) (a5 : Option Addr) (r5 : Nat), s5 = .bool true ∧ Chg (w.heap.size + 1) (w.heap.size + 1 + 1) w1 wx ∧ w1.heap.size ≤ g2 ∧ g2 < wx.heap.size ∧ OwnI wx w1.heap.size (.slice (some ⟨g2, 0, none⟩) s1.length r2) s1 ∧ Ints wx w1.heap.size (.slice a5 ((loadL mem b1 s1 t1).length) r5) (loadL mem b1 s1 t1) ∧ wx.cell? ⟨w.heap.size + 1, 0, none⟩ = some (.slice (some ⟨g2, 0, none⟩) s1.length r2) ∧ wx.frozen? ⟨w.heap.size + 1, 0, none⟩ = false ∧ wx.cell? ⟨w.heap.size + 1, 1, none⟩ = some (.slice a5 ((loadL mem b1 s1 t1).length) r5) ∧ wx.frozen? ⟨w.heap.size + 1, 1, none⟩ = false)
  case first =>
   have X3 : Ext w1 w1 := Ext.refl _
   refine wp_region_held_drew (S := fun w' => w'.cell? ⟨w.heap.size, 0, none⟩ = some (.int .i64 b1) ∧ w'.cell? ⟨w.heap.size, 1, none⟩ = some (.slice p1 s1.length c1) ∧ w'.cell? ⟨w.heap.size, 2, none⟩ = some (.slice p2 t1.length c2)) qKr ⟨b10, b11, b12⟩ (fun hHeld => ?_)
   refine qHk (v := ?_) 0 rfl (.inl ⟨by rfl, ?_⟩) ?_
   rotate_left
   ·
    (intro w hSw; (try dsimp only at hSw); go_simp; try with_reducible rfl)
   try simp only [Act.put, qa, qb, qc, qD, qE, qF]
   refine qHk (v := ?_) 1 rfl (.inl ⟨by rfl, ?_⟩) ?_
   rotate_left
   ·
    (intro w hSw; (try dsimp only at hSw); go_simp; try with_reducible rfl)
   try simp only [Act.put, qa, qb, qc, qD, qE, qF]
   refine qHk (v := ?_) 3 rfl (.inl ⟨by rfl, ?_⟩) ?_
   rotate_left
   ·
    (intro w hSw; (try dsimp only at hSw); go_simp; try with_reducible rfl)
   try simp only [Act.put, qa, qb, qc, qD, qE, qF]
   refine qHk (v := ?_) 4 rfl (.inl ⟨by rfl, ?_⟩) ?_
   rotate_left
   ·
    (intro w hSw; (try dsimp only at hSw); go_simp; try with_reducible rfl)
   try simp only [Act.put, qa, qb, qc, qD, qE, qF]
   refine qHr 2 rfl (fun K hK => ?_)
   try simp only [Act.put, qa, qb, qc, qD, qE, qF]
   go_simp
   refine (copyIntsO_c (.slice p1 s1.length c1) s1 _ _ (h1.ext (Xw1.trans qXt))).mono ?_
   rintro e w3_1 ⟨g3_4, r3_5, rfl, O3_3, Gg3_4, Hg3_4, x3_2⟩
   simp only [World.size_drew] at Gg3_4 O3_3
   replace x3_2 : Ext w1 w3_1 := Ext.trans qXt x3_2
   have S_w3_1 : w1.heap.size ≤ w3_1.heap.size := x3_2.size
   replace X3 := X3.trans x3_2
   have Yw3_1 := Ext.refl w3_1
   clear x3_2
   refine hK.out _ w3_1 ⟨(show Ext w1 w3_1 from qXt).cell b10, (show Ext w1 w3_1 from qXt).cell b11, (show Ext w1 w3_1 from qXt).cell b12⟩ (fun hHeld => ?_)
   clear hK K
   try simp only [Act.put, qa, qb, qc, qD, qE, qF]
   refine qHr 5 rfl (fun K hK => ?_)
   try simp only [Act.put, qa, qb, qc, qD, qE, qF]
   go_simp
   refine (load_c mem (.slice p0 mem.length c0) b1 (.slice p1 s1.length c1) (.slice p2 t1.length c2) s1 t1 _ _ _ _ (h0.ext (Xw1.trans qXt)) (h1.ext (Xw1.trans qXt)) (k1.ext (Xw1.trans qXt)) hB3.out).mono ?_
   rintro e w3_6 ⟨v3_8, rfl, I3_9, O3_10, x3_7⟩
   obtain ⟨a3_11, r3_12, rfl⟩ := I3_9.form
   replace x3_7 : Ext w3_1 w3_6 := Ext.trans qXt x3_7
   have S_w3_6 : w3_1.heap.size ≤ w3_6.heap.size := x3_7.size
   replace Yw3_1 := Yw3_1.trans x3_7
   replace X3 := X3.trans x3_7
   have Yw3_6 := Ext.refl w3_6
   clear x3_7
   refine hK.out _ w3_6 ⟨(show Ext w1 w3_6 from qXt).cell b10, (show Ext w1 w3_6 from qXt).cell b11, (show Ext w1 w3_6 from qXt).cell b12⟩ (fun hHeld => ?_)
   clear hK K
   try simp only [Act.put, qa, qb, qc, qD, qE, qF]
   refine qHk (v := ?_) 6 rfl (.inl ⟨by rfl, ?_⟩) ?_
   rotate_left
   ·
    (intro w hSw; (try dsimp only at hSw); go_simp; try with_reducible rfl)
   try simp only [Act.put, qa, qb, qc, qD, qE, qF]
   refine qHr 7 rfl (fun K hK => ?_)
   try simp only [Act.put, qa, qb, qc, qD, qE, qF]
   replace b20 := X3.cell b20
   replace f_b20 := X3.frz z_b2 f_b20
   replace b21 := X3.cell b21
   replace f_b21 := X3.frz z_b2 f_b21
   go_simp
   have zz := X3.size
   have K3 : Chg (w.heap.size + 1) (w.heap.size + 1 + 1) w3_6 ((w3_6.setCell ⟨w.heap.size + 1, 0, none⟩ (.slice (some ⟨g3_4, 0, none⟩) s1.length r3_5)).setCell ⟨w.heap.size + 1, 1, none⟩ (.slice a3_11 ((loadL mem b1 s1 t1).length) r3_12)) := (Chg.setCell (p := ⟨w.heap.size + 1, 1, none⟩) (Chg.setCell (p := ⟨w.heap.size + 1, 0, none⟩) (Chg.refl (w.heap.size + 1) ((w.heap.size + 1) + 1) w3_6) (Nat.le_refl _) (Nat.lt_succ_self _) _) (Nat.le_refl _) (Nat.lt_succ_self _) _)
   have n_b20 : ((w3_6.setCell ⟨w.heap.size + 1, 0, none⟩ (.slice (some ⟨g3_4, 0, none⟩) s1.length r3_5)).setCell ⟨w.heap.size + 1, 1, none⟩ (.slice a3_11 ((loadL mem b1 s1 t1).length) r3_12)).cell? ⟨w.heap.size + 1, 0, none⟩ = some (.slice (some ⟨g3_4, 0, none⟩) s1.length r3_5) := by go_simp
   replace f_b20 : ((w3_6.setCell ⟨w.heap.size + 1, 0, none⟩ (.slice (some ⟨g3_4, 0, none⟩) s1.length r3_5)).setCell ⟨w.heap.size + 1, 1, none⟩ (.slice a3_11 ((loadL mem b1 s1 t1).length) r3_12)).frozen? ⟨w.heap.size + 1, 0, none⟩ = false := by go_simp
   have n_b21 : ((w3_6.setCell ⟨w.heap.size + 1, 0, none⟩ (.slice (some ⟨g3_4, 0, none⟩) s1.length r3_5)).setCell ⟨w.heap.size + 1, 1, none⟩ (.slice a3_11 ((loadL mem b1 s1 t1).length) r3_12)).cell? ⟨w.heap.size + 1, 1, none⟩ = some (.slice a3_11 ((loadL mem b1 s1 t1).length) r3_12) := by go_simp
   replace f_b21 : ((w3_6.setCell ⟨w.heap.size + 1, 0, none⟩ (.slice (some ⟨g3_4, 0, none⟩) s1.length r3_5)).setCell ⟨w.heap.size + 1, 1, none⟩ (.slice a3_11 ((loadL mem b1 s1 t1).length) r3_12)).frozen? ⟨w.heap.size + 1, 1, none⟩ = false := by go_simp
   replace O3_3 := (O3_3.ext Yw3_1).chgN K3 (by omega)
   replace I3_9 := (I3_9.ext Yw3_6).chg K3 (by first | omega | (simp only [World.size_alloc, World.size_drew]; omega))
   have C3 : Chg (w.heap.size + 1) (w.heap.size + 1 + 1) w1 ((w3_6.setCell ⟨w.heap.size + 1, 0, none⟩ (.slice (some ⟨g3_4, 0, none⟩) s1.length r3_5)).setCell ⟨w.heap.size + 1, 1, none⟩ (.slice a3_11 ((loadL mem b1 s1 t1).length) r3_12)) := (Chg.of_ext X3).trans K3
   clear zz K3
   have S_st : w3_6.heap.size ≤ ((w3_6.setCell ⟨w.heap.size + 1, 0, none⟩ (.slice (some ⟨g3_4, 0, none⟩) s1.length r3_5)).setCell ⟨w.heap.size + 1, 1, none⟩ (.slice a3_11 ((loadL mem b1 s1 t1).length) r3_12)).heap.size := by simp
   refine hK.out _ (((w3_6.setCell ⟨w.heap.size + 1, 0, none⟩ (.slice (some ⟨g3_4, 0, none⟩) s1.length r3_5)).setCell ⟨w.heap.size + 1, 1, none⟩ (.slice a3_11 ((loadL mem b1 s1 t1).length) r3_12))) ⟨C3.cell (by omega) b10, C3.cell (by omega) b11, C3.cell (by omega) b12⟩ (fun hHeld => ?_)
   clear hK K
   try simp only [Act.put, qa, qb, qc, qD, qE, qF]
   refine qHk (v := ?_) 8 rfl (.inl ⟨by rfl, ?_⟩) ?_
   rotate_left
   ·
    (intro w hSw; (try dsimp only at hSw); go_simp; try with_reducible rfl)
   try simp only [Act.put, qa, qb, qc, qD, qE, qF]
   refine wpAnyH_done qKr ?_ _
   clear hHeld
   have zz := X3.size
   go_step
   go_step
   go_meet
   case rel => exact ⟨g3_4, r3_5, a3_11, r3_12, rfl, C3, (by omega), (by omega), (O3_3).lower (by omega), (I3_9).lower (by omega), n_b20, f_b20, n_b21, f_b21⟩
  case rest =>
   generalize wc = wc6 at hcut ⊢
   obtain ⟨g8, r9, a10, r11, rfl, xx7, Gg8, Hg8, O12, i13, N_b20, M_b20, N_b21, M_b21⟩ := hcut
   have zc_wc6 := xx7.size
   have Xwc6 : Ext w wc6 := Ext.chg Xw1 xx7 (by omega)
   replace b10 := xx7.cell (by omega) b10
   replace b11 := xx7.cell (by omega) b11
   replace b12 := xx7.cell (by omega) b12
   replace b20 := N_b20
   clear N_b20
   replace f_b20 := M_b20
   clear M_b20
   replace b21 := N_b21
   clear N_b21
   replace f_b21 := M_b21
   clear M_b21
   have z_b1 : w.heap.size < wc6.heap.size := qB b10
   have z_b2 : w.heap.size + 1 < wc6.heap.size := qB b20
   have s_wc6 : w.heap.size ≤ wc6.heap.size := Xwc6.size
   clear xx7
   go_wp2_with fail
   go_wp2_with fail
   refine bodyPost_ret (v := .tuple #[.agg #[.slice (some ⟨g8, 0, none⟩) s1.length r9, .slice a10 ((loadL mem b1 s1 t1).length) r11], .bool true]) (by simp only [results, Try.results10]; go_simp) rfl ?_
   rw [tofA_yes hB3.out, hB3.out]
   exact ⟨_, _, _, _, rfl, (O12.ints (by first | (simp; omega) | (simp only [List.length_set]; omega) | omega)).lower (by omega), i13.lower (by omega), Xwc6⟩


end Go.Proofs.Ytpgkhjmboiepcaa

/- Walks: rows, sums. -/
namespace Go.Proofs.Ytpgkhjmboiepcaa
open Go.RowKit
set_option linter.unusedVariables false
set_option maxRecDepth 100000

end Go.Proofs.Ytpgkhjmboiepcaa

/- Walks: PermuteDims of the program. -/
namespace Go.Proofs.Ytpgkhjmboiepcaa
open Go.RowKit
set_option linter.unusedVariables false
set_option maxRecDepth 100000


def OrdTo (ord : List Int) (n k : Nat) : Prop := (∀ x ∈ ord.take k, 0 ≤ x ∧ x < n) ∧ (ord.take k).Nodup
theorem take_snoc (l : List Int) (k : Nat) (h : k < l.length) : l.take (k+1) = l.take k ++ [l.getD k 0] := by
 rw [List.take_succ_eq_append_getElem h]; simp [h]
theorem OrdTo.zero (ord : List Int) (n : Nat) : OrdTo ord n 0 := ⟨by simp, by simp⟩
theorem OrdTo.succ {ord : List Int} {n k : Nat} (h : OrdTo ord n k) (hk : k < ord.length) {x : Int} (hx : ord.getD k 0 = x) (h1 : 0 ≤ x ∧ x < n) (h2 : hasB (ord.take k) x = false) : OrdTo ord n (k+1) := by
 unfold OrdTo
 rw [take_snoc ord k hk, hx]
 refine ⟨fun y hy => ?_, ?_⟩
 ·
  rcases List.mem_append.1 hy with hy | hy
  ·
   exact h.1 y hy
  ·
   simp at hy; subst hy; exact h1
 ·
  rw [List.nodup_append]
  refine ⟨h.2, by simp, fun y hy z hz e => ?_⟩
  simp at hz; subst hz; subst e
  unfold hasB at h2
  have := List.contains_iff_mem.2 hy
  rw [h2] at this; cases this
theorem ord_yes {ord : List Int} {n : Nat} (hl : ord.length = n) (h : OrdTo ord n ord.length) : orderB ord n = true := by
 unfold OrdTo at h
 rw [List.take_length] at h
 unfold orderB
 simp only [Bool.and_eq_true, decide_eq_true_eq, List.all_eq_true, inB]
 exact ⟨by omega, fun x hx => by have := h.1 x hx; omega, h.2⟩
theorem ord_no {ord : List Int} {n k : Nat} (hk : k < ord.length) {x : Int} (hx : ord.getD k 0 = x) (h : x < 0 ∨ (n : Int) ≤ x ∨ hasB (ord.take k) x = true) : orderB ord n = false := by
 cases hb : orderB ord n with
 | false => rfl
 | true =>
  obtain ⟨h1, h2, h3⟩ := orderB_in hb
  have hm : x ∈ ord := hx ▸ getD_mem hk
  have := h2 x hm
  rcases h with h | h | h
  ·
   omega
  ·
   omega
  ·
   unfold hasB at h
   have h4 := List.contains_iff_mem.1 h
   have h5 : (ord.take (k+1)).Nodup := h3.sublist (List.take_sublist _ _)
   rw [take_snoc ord k hk, hx, List.nodup_append] at h5
   exact absurd rfl (h5.2.2 x h4 x (by simp))
theorem ord_len {ord : List Int} {n : Nat} (h : ¬ (ord.length : Int) = n) : orderB ord n = false := by
 unfold orderB; simp [h]

set_option maxHeartbeats 3200000 in
theorem implPermuteDims_c (b1 : Int) (u1 v1 : Value) (s1 t1 : List Int) (v3 : Value) (ord : List Int) (w : World) (l1 m1 : Nat) (h1 : Ints w l1 u1 s1) (k1 : Ints w m1 v1 t1) (l3 : Nat) (h3 : Ints w l3 v3 ord) :
  Calls Try.prog 14 #[.agg #[.int .i64 b1, u1, v1], v3] w (PVB w (permV b1 s1 t1 ord)) := by
 obtain ⟨p0, c0, rfl⟩ := h1.form
 obtain ⟨p1, c1, rfl⟩ := k1.form
 obtain ⟨p2, c2, rfl⟩ := h3.form
 go_enter Try.func14, Try.ntmps14
 go_wp2_with fail
 refine (isView_c b1 (.slice p0 s1.length c0) (.slice p1 t1.length c1) s1 t1 _ _ _ (h1.ext qXt) (k1.ext qXt)).mono ?_
 rintro e w1 ⟨rfl, xw1⟩
 have Lw1 : Ext w w1 := Ext.trans qXt xw1
 have Xw1 : Ext w w1 := Lw1
 have b10 : w1.cell? ⟨w.heap.size, 0, none⟩ = some (.int .i64 b1) := xw1.cell qCl
 have b11 : w1.cell? ⟨w.heap.size, 1, none⟩ = some (.slice p0 s1.length c0) := xw1.cell qCl
 have b12 : w1.cell? ⟨w.heap.size, 2, none⟩ = some (.slice p1 t1.length c1) := xw1.cell qCl
 have b20 : w1.cell? ⟨w.heap.size + 1, 0, none⟩ = some (.int .i64 0) := xw1.cell qCl
 have b21 : w1.cell? ⟨w.heap.size + 1, 1, none⟩ = some (.slice none 0 0) := xw1.cell qCl
 have b22 : w1.cell? ⟨w.heap.size + 1, 2, none⟩ = some (.slice none 0 0) := xw1.cell qCl
 have f_b20 : w1.frozen? ⟨w.heap.size + 1, 0, none⟩ = false := xw1.frz (by simp <;> omega) qFz
 have f_b21 : w1.frozen? ⟨w.heap.size + 1, 1, none⟩ = false := xw1.frz (by simp <;> omega) qFz
 have f_b22 : w1.frozen? ⟨w.heap.size + 1, 2, none⟩ = false := xw1.frz (by simp <;> omega) qFz
 have z_b1 : w.heap.size < w1.heap.size := qB b10
 have z_b2 : w.heap.size + 1 < w1.heap.size := qB b20
 have s_w1 : w.heap.size ≤ w1.heap.size := Xw1.size
 clear xw1
 cases hB3 : viewB b1 s1 t1
 ·
  replace hB3 := Lib.hid hB3
  go_wp2_with fail
  generalize hW1 : (((w1.setCell ⟨w.heap.size + 1, 0, none⟩ (.int .i64 0)).setCell ⟨w.heap.size + 1, 1, none⟩ (.slice none 0 0)).setCell ⟨w.heap.size + 1, 2, none⟩ (.slice none 0 0)) = w2 at *
  have Kw2 : Chg (w.heap.size + 1) (w.heap.size + 1 + 1) w1 w2 := by subst hW1; exact qCh
  have Xw2 : Ext w w2 := by subst hW1; exact qXt
  replace b10 := Kw2.cell (by omega) b10
  replace b11 := Kw2.cell (by omega) b11
  replace b12 := Kw2.cell (by omega) b12
  replace b20 : w2.cell? ⟨w.heap.size + 1, 0, none⟩ = some (.int .i64 0) := by subst hW1; go_simp
  replace f_b20 : w2.frozen? ⟨w.heap.size + 1, 0, none⟩ = false := by subst hW1; go_simp
  replace b21 : w2.cell? ⟨w.heap.size + 1, 1, none⟩ = some (.slice none 0 0) := by subst hW1; go_simp
  replace f_b21 : w2.frozen? ⟨w.heap.size + 1, 1, none⟩ = false := by subst hW1; go_simp
  replace b22 : w2.cell? ⟨w.heap.size + 1, 2, none⟩ = some (.slice none 0 0) := by subst hW1; go_simp
  replace f_b22 : w2.frozen? ⟨w.heap.size + 1, 2, none⟩ = false := by subst hW1; go_simp
  clear Kw2
  have z_b1 : w.heap.size < w2.heap.size := qB b10
  have z_b2 : w.heap.size + 1 < w2.heap.size := qB b20
  have s_w2 : w.heap.size ≤ w2.heap.size := Xw2.size
  clear hW1
  refine bodyPost_ret (v := .tuple #[.agg #[.int .i64 0, .slice none 0 0, .slice none 0 0], .bool false]) (by simp only [results, Try.results14]; go_simp) rfl ?_
  rw [show permV b1 s1 t1 ord = noV by unfold permV; rw [hB3.out, Bool.false_and] <;> rfl]
  exact PViewB.no (Xw2.trans qXt)
 ·
  replace hB3 := Lib.hid hB3
  by_cases hc4 : (ord.length : Int) = (s1.length : Int)
  ·
   have hc4e : ((ord.length : Int) == (s1.length : Int)) = true := by simpa using hc4
   have hc4n : ((ord.length : Int) != (s1.length : Int)) = false := by simpa using hc4
   replace hc4 := Lib.hid hc4
   go_wp2_with fail
   generalize hW2 : w1.alloc (.cells #[.int .i64 b1, .slice none 0 0, .slice none 0 0] 25) = w2 at *
   have Lw2 : Ext w1 w2 := by subst hW2; exact qXt
   have Xw2 : Ext w w2 := Xw1.trans Lw2
   replace b10 := Lw2.cell b10
   replace b11 := Lw2.cell b11
   replace b12 := Lw2.cell b12
   replace b20 := Lw2.cell b20
   replace b21 := Lw2.cell b21
   replace b22 := Lw2.cell b22
   replace f_b20 := Lw2.frz z_b2 f_b20
   replace f_b21 := Lw2.frz z_b2 f_b21
   replace f_b22 := Lw2.frz z_b2 f_b22
   have b50 : w2.cell? ⟨w1.heap.size, 0, none⟩ = some (.int .i64 b1) := by subst hW2; exact qCl
   have b51 : w2.cell? ⟨w1.heap.size, 1, none⟩ = some (.slice none 0 0) := by subst hW2; exact qCl
   have b52 : w2.cell? ⟨w1.heap.size, 2, none⟩ = some (.slice none 0 0) := by subst hW2; exact qCl
   have f_b50 : w2.frozen? ⟨w1.heap.size, 0, none⟩ = false := by subst hW2; exact qFz
   have f_b51 : w2.frozen? ⟨w1.heap.size, 1, none⟩ = false := by subst hW2; exact qFz
   have f_b52 : w2.frozen? ⟨w1.heap.size, 2, none⟩ = false := by subst hW2; exact qFz
   have z_b1 : w.heap.size < w2.heap.size := qB b10
   have z_b2 : w.heap.size + 1 < w2.heap.size := qB b20
   have z_b5 : w1.heap.size < w2.heap.size := qB b50
   have s_w2 : w.heap.size ≤ w2.heap.size := Xw2.size
   clear hW2
   have hol : ord.length ≤ 4 := by have := (vw hB3.out).2.2.2.1; have := hc4.out; omega
   have hst : s1.length ≤ t1.length := (vw hB3.out).1
   have hos : ord.length = s1.length := by have := hc4.out; omega
   replace hos := Lib.hid hos
   have yE_b1 := z_b1
   have yE_b2 := z_b2
   have yE_b5 := z_b5
   go_loopw [7, 8, 26] (fun x y i wr => ∃ (k : Nat) (pr1 pr2 : Value), k ≤ ord.length ∧ i = .int .i64 k ∧ Hid (OrdTo ord s1.length k) ∧ Two (w2.heap.size) wr pr1 pr2 (takL s1 (ord.take k)) (takL t1 (ord.take k)) ∧ Ext w wr ∧ wr.cell? ⟨w.heap.size, 0, none⟩ = some (.int .i64 b1) ∧ wr.cell? ⟨w.heap.size, 1, none⟩ = some (.slice p0 s1.length c0) ∧ wr.cell? ⟨w.heap.size, 2, none⟩ = some (.slice p1 t1.length c1) ∧ wr.cell? ⟨w.heap.size + 1, 0, none⟩ = some (.int .i64 0) ∧ wr.cell? ⟨w.heap.size + 1, 1, none⟩ = some (.slice none 0 0) ∧ wr.cell? ⟨w.heap.size + 1, 2, none⟩ = some (.slice none 0 0) ∧ wr.frozen? ⟨w.heap.size + 1, 0, none⟩ = false ∧ wr.frozen? ⟨w.heap.size + 1, 1, none⟩ = false ∧ wr.frozen? ⟨w.heap.size + 1, 2, none⟩ = false ∧ wr.cell? ⟨w1.heap.size, 0, none⟩ = some (.int .i64 b1) ∧ wr.cell? ⟨w1.heap.size, 1, none⟩ = some (pr1) ∧ wr.cell? ⟨w1.heap.size, 2, none⟩ = some (pr2) ∧ wr.frozen? ⟨w1.heap.size, 0, none⟩ = false ∧ wr.frozen? ⟨w1.heap.size, 1, none⟩ = false ∧ wr.frozen? ⟨w1.heap.size, 2, none⟩ = false) (fun x y i _ => ord.length - (intOf i).toNat)
   case atStart => exact ⟨0, _, _, Nat.zero_le _, rfl, Lib.hid (OrdTo.zero _ _), by simpa [takL] using Two.nil (by omega), (Xw2.trans qXt), b10, b11, b12, b20, b21, b22, f_b20, f_b21, f_b22, b50, b51, b52, f_b50, f_b51, f_b52⟩
   case round =>
    obtain ⟨k, pr1, pr2, hk, rfl, hok, T, Xr, b10, b11, b12, b20, b21, b22, f_b20, f_b21, f_b22, b50, b51, b52, f_b50, f_b51, f_b52⟩ := hrel
    have hTs := T.size
    have z_b1 : w.heap.size < wr.heap.size := qB b10
    have z_b2 : w.heap.size + 1 < wr.heap.size := qB b20
    have z_b5 : w1.heap.size < wr.heap.size := qB b50
    by_cases hlt : k < ord.length
    ·
     have hkI : (k : Int) < ord.length := by omega
     have hs1 := takL_take s1 ord k hlt
     have hs2 := takL_take t1 ord k hlt
     rw [← getD_get hlt] at hs1 hs2
     have tl1 : (takL s1 (ord.take k)).length = k := by rw [takL_len, List.length_take]; omega
     have tl2 : (takL t1 (ord.take k)).length = k := by rw [takL_len, List.length_take]; omega
     replace tl1 := Lib.hid tl1
     replace tl2 := Lib.hid tl2
     have hN_e8 : k < ord.length := (by omega)
     have hI_e8 : (k : Int) < (ord.length : Int) := by omega
     obtain ⟨bl6, ol7, rfl, e80⟩ := h3.at k (by omega)
     have y_e8 : bl6 < w.heap.size := qB e80
     replace e80 := Xr.cell e80
     obtain ⟨v9, hv9⟩ : ∃ v, ord.getD k 0 = v := ⟨_, rfl⟩
     rw [hv9] at e80
     replace hv9 := Lib.hid hv9
     have z_e8 : bl6 < wr.heap.size := qB e80
     by_cases hc10 : (v9 : Int) < (0 : Int)
     ·
      go_wp2_with fail
      generalize hW3 : (((wr.setCell ⟨w.heap.size + 1, 0, none⟩ (.int .i64 0)).setCell ⟨w.heap.size + 1, 1, none⟩ (.slice none 0 0)).setCell ⟨w.heap.size + 1, 2, none⟩ (.slice none 0 0)) = w3 at *
      have Kw3 : Chg (w.heap.size + 1) (w.heap.size + 1 + 1) wr w3 := by subst hW3; exact qCh
      have Xw3 : Ext w w3 := by subst hW3; exact qXt
      replace b10 := Kw3.cell (by omega) b10
      replace b11 := Kw3.cell (by omega) b11
      replace b12 := Kw3.cell (by omega) b12
      replace b20 : w3.cell? ⟨w.heap.size + 1, 0, none⟩ = some (.int .i64 0) := by subst hW3; go_simp
      replace f_b20 : w3.frozen? ⟨w.heap.size + 1, 0, none⟩ = false := by subst hW3; go_simp
      replace b21 : w3.cell? ⟨w.heap.size + 1, 1, none⟩ = some (.slice none 0 0) := by subst hW3; go_simp
      replace f_b21 : w3.frozen? ⟨w.heap.size + 1, 1, none⟩ = false := by subst hW3; go_simp
      replace b22 : w3.cell? ⟨w.heap.size + 1, 2, none⟩ = some (.slice none 0 0) := by subst hW3; go_simp
      replace f_b22 : w3.frozen? ⟨w.heap.size + 1, 2, none⟩ = false := by subst hW3; go_simp
      replace b50 := Kw3.cell (by omega) b50
      replace f_b50 := Kw3.frzO (by omega) z_b5 f_b50
      replace b51 := Kw3.cell (by omega) b51
      replace f_b51 := Kw3.frzO (by omega) z_b5 f_b51
      replace b52 := Kw3.cell (by omega) b52
      replace f_b52 := Kw3.frzO (by omega) z_b5 f_b52
      replace e80 := Kw3.cell (by omega) e80
      replace T := T.chg Kw3 (by omega)
      clear Kw3
      have z_b1 : w.heap.size < w3.heap.size := qB b10
      have z_b2 : w.heap.size + 1 < w3.heap.size := qB b20
      have z_b5 : w1.heap.size < w3.heap.size := qB b50
      have z_e8 : bl6 < w3.heap.size := qB e80
      have s_w3 : w.heap.size ≤ w3.heap.size := Xw3.size
      clear hW3
      refine bodyPost_ret (v := .tuple #[.agg #[.int .i64 0, .slice none 0 0, .slice none 0 0], .bool false]) (by simp only [results, Try.results14]; go_simp) rfl ?_
      rw [show permV b1 s1 t1 ord = noV by unfold permV; rw [hB3.out, ord_no hlt hv9.out (by have := hc4.out; omega), Bool.and_false] <;> rfl]
      exact PViewB.no (Xw3.trans qXt)
     ·
      by_cases hc11 : (ord.length : Int) ≤ (v9 : Int)
      ·
       go_wp2_with fail
       generalize hW4 : (((wr.setCell ⟨w.heap.size + 1, 0, none⟩ (.int .i64 0)).setCell ⟨w.heap.size + 1, 1, none⟩ (.slice none 0 0)).setCell ⟨w.heap.size + 1, 2, none⟩ (.slice none 0 0)) = w3 at *
       have Kw3 : Chg (w.heap.size + 1) (w.heap.size + 1 + 1) wr w3 := by subst hW4; exact qCh
       have Xw3 : Ext w w3 := by subst hW4; exact qXt
       replace b10 := Kw3.cell (by omega) b10
       replace b11 := Kw3.cell (by omega) b11
       replace b12 := Kw3.cell (by omega) b12
       replace b20 : w3.cell? ⟨w.heap.size + 1, 0, none⟩ = some (.int .i64 0) := by subst hW4; go_simp
       replace f_b20 : w3.frozen? ⟨w.heap.size + 1, 0, none⟩ = false := by subst hW4; go_simp
       replace b21 : w3.cell? ⟨w.heap.size + 1, 1, none⟩ = some (.slice none 0 0) := by subst hW4; go_simp
       replace f_b21 : w3.frozen? ⟨w.heap.size + 1, 1, none⟩ = false := by subst hW4; go_simp
       replace b22 : w3.cell? ⟨w.heap.size + 1, 2, none⟩ = some (.slice none 0 0) := by subst hW4; go_simp
       replace f_b22 : w3.frozen? ⟨w.heap.size + 1, 2, none⟩ = false := by subst hW4; go_simp
       replace b50 := Kw3.cell (by omega) b50
       replace f_b50 := Kw3.frzO (by omega) z_b5 f_b50
       replace b51 := Kw3.cell (by omega) b51
       replace f_b51 := Kw3.frzO (by omega) z_b5 f_b51
       replace b52 := Kw3.cell (by omega) b52
       replace f_b52 := Kw3.frzO (by omega) z_b5 f_b52
       replace e80 := Kw3.cell (by omega) e80
       replace T := T.chg Kw3 (by omega)
       clear Kw3
       have z_b1 : w.heap.size < w3.heap.size := qB b10
       have z_b2 : w.heap.size + 1 < w3.heap.size := qB b20
       have z_b5 : w1.heap.size < w3.heap.size := qB b50
       have z_e8 : bl6 < w3.heap.size := qB e80
       have s_w3 : w.heap.size ≤ w3.heap.size := Xw3.size
       clear hW4
       refine bodyPost_ret (v := .tuple #[.agg #[.int .i64 0, .slice none 0 0, .slice none 0 0], .bool false]) (by simp only [results, Try.results14]; go_simp) rfl ?_
       rw [show permV b1 s1 t1 ord = noV by unfold permV; rw [hB3.out, ord_no hlt hv9.out (by have := hc4.out; omega), Bool.and_false] <;> rfl]
       exact PViewB.no (Xw3.trans qXt)
      ·
       have hsl12 : (k : Int) ≤ c2 := by have := ((h3.ext Xr)).capLe; omega
       go_wp2_with fail
       refine (contains_c (ord.take k) (.slice (some ⟨bl6, ol7, none⟩) k c2) v9 _ _ ((h3.take k (by omega)).ext (Xr.trans qXt))).mono ?_
       rintro e w' ⟨rfl, rfl⟩
       cases hB13 : hasB (ord.take k) v9
       ·
        replace hB13 := Lib.hid hB13
        obtain ⟨mv9, rfl⟩ : ∃ m : Nat, v9 = m := ⟨v9.toNat, by omega⟩
        rw [hv9.out, Int.toNat_natCast] at hs1 hs2
        go_wp2_with fail
        skip
        have hN_e16 : mv9 < s1.length := (by have := hos.out; omega)
        have hI_e16 : (mv9 : Int) < (s1.length : Int) := by omega
        obtain ⟨bl14, ol15, rfl, e160⟩ := h1.at mv9 (by have := hos.out; omega)
        have y_e16 : bl14 < w.heap.size := qB e160
        replace e160 := Xr.cell e160
        obtain ⟨v17, hv17⟩ : ∃ v, s1.getD mv9 0 = v := ⟨_, rfl⟩
        rw [hv17] at e160
        replace hv17 := Lib.hid hv17
        have z_e16 : bl14 < wr.heap.size := qB e160
        rw [hv17.out] at hs1
        replace hs1 := Lib.hid hs1
        refine wp_region_tail (S := fun w' => w'.cell? ⟨w.heap.size, 0, none⟩ = some (.int .i64 b1) ∧ w'.cell? ⟨w.heap.size, 1, none⟩ = some (.slice (some ⟨bl14, ol15, none⟩) s1.length c0) ∧ w'.cell? ⟨w.heap.size, 2, none⟩ = some (.slice p1 t1.length c1) ∧ w'.cell? ⟨w.heap.size + 1, 0, none⟩ = some (.int .i64 0) ∧ w'.cell? ⟨w.heap.size + 1, 1, none⟩ = some (.slice none 0 0) ∧ w'.cell? ⟨w.heap.size + 1, 2, none⟩ = some (.slice none 0 0) ∧ w'.cell? ⟨w1.heap.size, 0, none⟩ = some (.int .i64 b1) ∧ w'.cell? ⟨w1.heap.size, 1, none⟩ = some (pr1) ∧ w'.cell? ⟨w1.heap.size, 2, none⟩ = some (pr2) ∧ w'.cell? ⟨bl6, ol7 + k, none⟩ = some (.int .i64 (mv9 : Int)) ∧ w'.cell? ⟨bl14, ol15 + mv9, none⟩ = some (.int .i64 v17)) (fun i => decide (10 ≤ i)) qKr ⟨b10, b11, b12, b20, b21, b22, b50, b51, b52, e80, e160⟩ (fun hHeld => ?_)
        refine qTk (v := ?_) 0 rfl (.inl ⟨by rfl, ?_⟩) ?_
        rotate_left
        ·
         (intro w hSw; (try dsimp only at hSw); go_simp; try with_reducible rfl)
        try simp only [Act.put, qa, qb, qc, qD, qE, qF]
        refine qTk (v := ?_) 1 rfl (.inl ⟨by rfl, ?_⟩) ?_
        rotate_left
        ·
         (intro w hSw; (try dsimp only at hSw); go_simp; try with_reducible rfl)
        try simp only [Act.put, qa, qb, qc, qD, qE, qF]
        refine qTk (v := ?_) 2 rfl (.inl ⟨by rfl, ?_⟩) ?_
        rotate_left
        ·
         (intro w hSw; (try dsimp only at hSw); go_simp; try with_reducible rfl)
        try simp only [Act.put, qa, qb, qc, qD, qE, qF]
        refine qTk (v := ?_) 3 rfl (.inl ⟨by rfl, ?_⟩) ?_
        rotate_left
        ·
         (intro w hSw; (try dsimp only at hSw); go_simp; try with_reducible rfl)
        try simp only [Act.put, qa, qb, qc, qD, qE, qF]
        refine qTk (v := ?_) 4 rfl (.inl ⟨by rfl, ?_⟩) ?_
        rotate_left
        ·
         (intro w hSw; (try dsimp only at hSw); go_simp; try with_reducible rfl)
        try simp only [Act.put, qa, qb, qc, qD, qE, qF]
        refine qTk (v := ?_) 5 rfl (.inl ⟨by rfl, ?_⟩) ?_
        rotate_left
        ·
         (intro w hSw; (try dsimp only at hSw); go_simp; try with_reducible rfl)
        try simp only [Act.put, qa, qb, qc, qD, qE, qF]
        refine qTk (v := ?_) 6 rfl (.inl ⟨by rfl, ?_⟩) ?_
        rotate_left
        ·
         (intro w hSw; (try dsimp only at hSw); go_simp; try with_reducible rfl)
        try simp only [Act.put, qa, qb, qc, qD, qE, qF]
        refine wpTail_one (i := 7) qKr rfl rfl (fun K hK => ?_)
        try simp only [Act.put, qa, qb, qc, qD, qE, qF]
        go_simp
        refine hK.out _ _ ⟨Ext.cell (w := wr) qXt b10, Ext.cell (w := wr) qXt b11, Ext.cell (w := wr) qXt b12, Ext.cell (w := wr) qXt b20, Ext.cell (w := wr) qXt b21, Ext.cell (w := wr) qXt b22, Ext.cell (w := wr) qXt b50, Ext.cell (w := wr) qXt b51, Ext.cell (w := wr) qXt b52, Ext.cell (w := wr) qXt e80, Ext.cell (w := wr) qXt e160⟩ (fun hHeld => ?_)
        clear hK K
        try simp only [Act.put, qa, qb, qc, qD, qE, qF]
        refine wpTail_one (i := 8) qKr rfl rfl (fun K hK => ?_)
        have Ew3 : Ext wr ((wr.drew).alloc (.cells #[.int .i64 (v17)] 3)) := qXt
        have Sw3 : Ints ((wr.drew).alloc (.cells #[.int .i64 (v17)] 3)) 0 (.slice (some ⟨wr.heap.size, 0, none⟩) 1 1) [v17] := by simpa using Ints.one wr.drew 0 (v17) (Nat.zero_le _)
        refine step_app rfl (.tmp 48) (.tmp 54) rfl rfl rfl (by exact T.o1.ext Ew3) (by exact Sw3) (by have := tl1.out; simp only [List.length_cons, List.length_nil]; omega) (by simp <;> omega) ?_
        intro vw3 w3 ho hgr hbl hvb
        obtain ⟨pa_w3, pn_w3, pc_w3, rfl⟩ := ho.any
        have Xw3 : Ext w w3 := Ext.below (Xr.trans Ew3) hbl (by omega)
        replace b10 := below_cell hbl (by omega) (Ew3.cell b10)
        replace b11 := below_cell hbl (by omega) (Ew3.cell b11)
        replace b12 := below_cell hbl (by omega) (Ew3.cell b12)
        replace b20 := below_cell hbl (by omega) (Ew3.cell b20)
        replace f_b20 := below_frz hbl (by omega) (Ew3.frz z_b2 f_b20)
        replace b21 := below_cell hbl (by omega) (Ew3.cell b21)
        replace f_b21 := below_frz hbl (by omega) (Ew3.frz z_b2 f_b21)
        replace b22 := below_cell hbl (by omega) (Ew3.cell b22)
        replace f_b22 := below_frz hbl (by omega) (Ew3.frz z_b2 f_b22)
        replace b50 := below_cell hbl (by omega) (Ew3.cell b50)
        replace f_b50 := below_frz hbl (by omega) (Ew3.frz z_b5 f_b50)
        replace b51 := below_cell hbl (by omega) (Ew3.cell b51)
        replace f_b51 := below_frz hbl (by omega) (Ew3.frz z_b5 f_b51)
        replace b52 := below_cell hbl (by omega) (Ew3.cell b52)
        replace f_b52 := below_frz hbl (by omega) (Ew3.frz z_b5 f_b52)
        replace e80 := below_cell hbl (by omega) (Ew3.cell e80)
        replace e160 := below_cell hbl (by omega) (Ew3.cell e160)
        have z_b1 : w.heap.size < w3.heap.size := qB b10
        have z_b2 : w.heap.size + 1 < w3.heap.size := qB b20
        have z_b5 : w1.heap.size < w3.heap.size := qB b50
        have z_e8 : bl6 < w3.heap.size := qB e80
        have z_e16 : bl14 < w3.heap.size := qB e160
        replace T := (T.ext Ew3).app1 ho hgr hvb
        have s_w3 : w.heap.size ≤ w3.heap.size := Xw3.size
        clear ho hgr hbl hvb Ew3 Sw3
        refine hK.out _ _ ⟨b10, b11, b12, b20, b21, b22, b50, b51, b52, e80, e160⟩ (fun hHeld => ?_)
        clear hK K
        try simp only [Act.put, qa, qb, qc, qD, qE, qF]
        refine qTk (v := ?_) 9 rfl (.inl ⟨by rfl, ?_⟩) ?_
        rotate_left
        ·
         (intro w hSw; (try dsimp only at hSw); go_simp; try with_reducible rfl)
        try simp only [Act.put, qa, qb, qc, qD, qE, qF]
        refine wpTail_last (i := 10) qKr rfl rfl (fun K hK => ?_)
        try simp only [Act.put, qa, qb, qc, qD, qE, qF]
        go_simp
        refine hK.out _ _ ?_
        clear hK K
        try simp only [Act.put, qa, qb, qc, qD, qE, qF]
        refine wpTail_done qKr ?_ _
        clear hHeld
        generalize hW5 : (w3.setCell ⟨w1.heap.size, 1, none⟩ (.slice pa_w3 pn_w3 pc_w3)) = w4 at *
        have Kw4 : Chg (w1.heap.size) (w1.heap.size + 1) w3 w4 := by subst hW5; exact qCh
        have Xw4 : Ext w w4 := by subst hW5; exact qXt
        replace b10 := Kw4.cell (by omega) b10
        replace b11 := Kw4.cell (by omega) b11
        replace b12 := Kw4.cell (by omega) b12
        replace b20 := Kw4.cell (by omega) b20
        replace f_b20 := Kw4.frzO (by omega) z_b2 f_b20
        replace b21 := Kw4.cell (by omega) b21
        replace f_b21 := Kw4.frzO (by omega) z_b2 f_b21
        replace b22 := Kw4.cell (by omega) b22
        replace f_b22 := Kw4.frzO (by omega) z_b2 f_b22
        replace b50 : w4.cell? ⟨w1.heap.size, 0, none⟩ = some (.int .i64 b1) := by subst hW5; go_simp
        replace f_b50 : w4.frozen? ⟨w1.heap.size, 0, none⟩ = false := by subst hW5; go_simp
        replace b51 : w4.cell? ⟨w1.heap.size, 1, none⟩ = some (.slice pa_w3 pn_w3 pc_w3) := by subst hW5; go_simp
        replace f_b51 : w4.frozen? ⟨w1.heap.size, 1, none⟩ = false := by subst hW5; go_simp
        replace b52 : w4.cell? ⟨w1.heap.size, 2, none⟩ = some (pr2) := by subst hW5; go_simp
        replace f_b52 : w4.frozen? ⟨w1.heap.size, 2, none⟩ = false := by subst hW5; go_simp
        replace e80 := Kw4.cell (by omega) e80
        replace e160 := Kw4.cell (by omega) e160
        replace T := T.chg Kw4 (by omega)
        clear Kw4
        have z_b1 : w.heap.size < w4.heap.size := qB b10
        have z_b2 : w.heap.size + 1 < w4.heap.size := qB b20
        have z_b5 : w1.heap.size < w4.heap.size := qB b50
        have z_e8 : bl6 < w4.heap.size := qB e80
        have z_e16 : bl14 < w4.heap.size := qB e160
        have s_w4 : w.heap.size ≤ w4.heap.size := Xw4.size
        clear hW5
        have hTs := T.size
        go_wp2_with fail
        skip
        have hN_e23 : mv9 < t1.length := (by have := hos.out; omega)
        have hI_e23 : (mv9 : Int) < (t1.length : Int) := by omega
        obtain ⟨bl21, ol22, rfl, e230⟩ := k1.at mv9 (by have := hos.out; omega)
        have y_e23 : bl21 < w.heap.size := qB e230
        replace e230 := Xw4.cell e230
        obtain ⟨v24, hv24⟩ : ∃ v, t1.getD mv9 0 = v := ⟨_, rfl⟩
        rw [hv24] at e230
        replace hv24 := Lib.hid hv24
        have z_e23 : bl21 < w4.heap.size := qB e230
        rw [hv24.out] at hs2
        replace hs2 := Lib.hid hs2
        refine wp_region_tail (S := fun w' => w'.cell? ⟨w.heap.size, 0, none⟩ = some (.int .i64 b1) ∧ w'.cell? ⟨w.heap.size, 1, none⟩ = some (.slice (some ⟨bl14, ol15, none⟩) s1.length c0) ∧ w'.cell? ⟨w.heap.size, 2, none⟩ = some (.slice (some ⟨bl21, ol22, none⟩) t1.length c1) ∧ w'.cell? ⟨w.heap.size + 1, 0, none⟩ = some (.int .i64 0) ∧ w'.cell? ⟨w.heap.size + 1, 1, none⟩ = some (.slice none 0 0) ∧ w'.cell? ⟨w.heap.size + 1, 2, none⟩ = some (.slice none 0 0) ∧ w'.cell? ⟨w1.heap.size, 0, none⟩ = some (.int .i64 b1) ∧ w'.cell? ⟨w1.heap.size, 1, none⟩ = some (.slice pa_w3 pn_w3 pc_w3) ∧ w'.cell? ⟨w1.heap.size, 2, none⟩ = some (pr2) ∧ w'.cell? ⟨bl6, ol7 + k, none⟩ = some (.int .i64 (mv9 : Int)) ∧ w'.cell? ⟨bl14, ol15 + mv9, none⟩ = some (.int .i64 v17) ∧ w'.cell? ⟨bl21, ol22 + mv9, none⟩ = some (.int .i64 v24)) (fun i => decide (10 ≤ i)) qKr ⟨b10, b11, b12, b20, b21, b22, b50, b51, b52, e80, e160, e230⟩ (fun hHeld => ?_)
        refine qTk (v := ?_) 0 rfl (.inl ⟨by rfl, ?_⟩) ?_
        rotate_left
        ·
         (intro w hSw; (try dsimp only at hSw); go_simp; try with_reducible rfl)
        try simp only [Act.put, qa, qb, qc, qD, qE, qF]
        refine qTk (v := ?_) 1 rfl (.inl ⟨by rfl, ?_⟩) ?_
        rotate_left
        ·
         (intro w hSw; (try dsimp only at hSw); go_simp; try with_reducible rfl)
        try simp only [Act.put, qa, qb, qc, qD, qE, qF]
        refine qTk (v := ?_) 2 rfl (.inl ⟨by rfl, ?_⟩) ?_
        rotate_left
        ·
         (intro w hSw; (try dsimp only at hSw); go_simp; try with_reducible rfl)
        try simp only [Act.put, qa, qb, qc, qD, qE, qF]
        refine qTk (v := ?_) 3 rfl (.inl ⟨by rfl, ?_⟩) ?_
        rotate_left
        ·
         (intro w hSw; (try dsimp only at hSw); go_simp; try with_reducible rfl)
        try simp only [Act.put, qa, qb, qc, qD, qE, qF]
        refine qTk (v := ?_) 4 rfl (.inl ⟨by rfl, ?_⟩) ?_
        rotate_left
        ·
         (intro w hSw; (try dsimp only at hSw); go_simp; try with_reducible rfl)
        try simp only [Act.put, qa, qb, qc, qD, qE, qF]
        refine qTk (v := ?_) 5 rfl (.inl ⟨by rfl, ?_⟩) ?_
        rotate_left
        ·
         (intro w hSw; (try dsimp only at hSw); go_simp; try with_reducible rfl)
        try simp only [Act.put, qa, qb, qc, qD, qE, qF]
        refine qTk (v := ?_) 6 rfl (.inl ⟨by rfl, ?_⟩) ?_
        rotate_left
        ·
         (intro w hSw; (try dsimp only at hSw); go_simp; try with_reducible rfl)
        try simp only [Act.put, qa, qb, qc, qD, qE, qF]
        refine wpTail_one (i := 7) qKr rfl rfl (fun K hK => ?_)
        try simp only [Act.put, qa, qb, qc, qD, qE, qF]
        go_simp
        refine hK.out _ _ ⟨Ext.cell (w := w4) qXt b10, Ext.cell (w := w4) qXt b11, Ext.cell (w := w4) qXt b12, Ext.cell (w := w4) qXt b20, Ext.cell (w := w4) qXt b21, Ext.cell (w := w4) qXt b22, Ext.cell (w := w4) qXt b50, Ext.cell (w := w4) qXt b51, Ext.cell (w := w4) qXt b52, Ext.cell (w := w4) qXt e80, Ext.cell (w := w4) qXt e160, Ext.cell (w := w4) qXt e230⟩ (fun hHeld => ?_)
        clear hK K
        try simp only [Act.put, qa, qb, qc, qD, qE, qF]
        refine wpTail_one (i := 8) qKr rfl rfl (fun K hK => ?_)
        have Ew5 : Ext w4 ((w4.drew).alloc (.cells #[.int .i64 (v24)] 3)) := qXt
        have Sw5 : Ints ((w4.drew).alloc (.cells #[.int .i64 (v24)] 3)) 0 (.slice (some ⟨w4.heap.size, 0, none⟩) 1 1) [v24] := by simpa using Ints.one w4.drew 0 (v24) (Nat.zero_le _)
        refine step_app rfl (.tmp 58) (.tmp 64) rfl rfl rfl (by exact T.o2.ext Ew5) (by exact Sw5) (by have := tl2.out; simp only [List.length_cons, List.length_nil]; omega) (by simp <;> omega) ?_
        intro vw5 w5 ho hgr hbl hvb
        obtain ⟨pa_w5, pn_w5, pc_w5, rfl⟩ := ho.any
        have Xw5 : Ext w w5 := Ext.below (Xw4.trans Ew5) hbl (by omega)
        replace b10 := below_cell hbl (by omega) (Ew5.cell b10)
        replace b11 := below_cell hbl (by omega) (Ew5.cell b11)
        replace b12 := below_cell hbl (by omega) (Ew5.cell b12)
        replace b20 := below_cell hbl (by omega) (Ew5.cell b20)
        replace f_b20 := below_frz hbl (by omega) (Ew5.frz z_b2 f_b20)
        replace b21 := below_cell hbl (by omega) (Ew5.cell b21)
        replace f_b21 := below_frz hbl (by omega) (Ew5.frz z_b2 f_b21)
        replace b22 := below_cell hbl (by omega) (Ew5.cell b22)
        replace f_b22 := below_frz hbl (by omega) (Ew5.frz z_b2 f_b22)
        replace b50 := below_cell hbl (by omega) (Ew5.cell b50)
        replace f_b50 := below_frz hbl (by omega) (Ew5.frz z_b5 f_b50)
        replace b51 := below_cell hbl (by omega) (Ew5.cell b51)
        replace f_b51 := below_frz hbl (by omega) (Ew5.frz z_b5 f_b51)
        replace b52 := below_cell hbl (by omega) (Ew5.cell b52)
        replace f_b52 := below_frz hbl (by omega) (Ew5.frz z_b5 f_b52)
        replace e80 := below_cell hbl (by omega) (Ew5.cell e80)
        replace e160 := below_cell hbl (by omega) (Ew5.cell e160)
        replace e230 := below_cell hbl (by omega) (Ew5.cell e230)
        have z_b1 : w.heap.size < w5.heap.size := qB b10
        have z_b2 : w.heap.size + 1 < w5.heap.size := qB b20
        have z_b5 : w1.heap.size < w5.heap.size := qB b50
        have z_e8 : bl6 < w5.heap.size := qB e80
        have z_e16 : bl14 < w5.heap.size := qB e160
        have z_e23 : bl21 < w5.heap.size := qB e230
        replace T := (T.ext Ew5).app2 ho hgr hvb
        have s_w5 : w.heap.size ≤ w5.heap.size := Xw5.size
        clear ho hgr hbl hvb Ew5 Sw5
        refine hK.out _ _ ⟨b10, b11, b12, b20, b21, b22, b50, b51, b52, e80, e160, e230⟩ (fun hHeld => ?_)
        clear hK K
        try simp only [Act.put, qa, qb, qc, qD, qE, qF]
        refine qTk (v := ?_) 9 rfl (.inl ⟨by rfl, ?_⟩) ?_
        rotate_left
        ·
         (intro w hSw; (try dsimp only at hSw); go_simp; try with_reducible rfl)
        try simp only [Act.put, qa, qb, qc, qD, qE, qF]
        refine wpTail_last (i := 10) qKr rfl rfl (fun K hK => ?_)
        try simp only [Act.put, qa, qb, qc, qD, qE, qF]
        go_simp
        refine hK.out _ _ ?_
        clear hK K
        try simp only [Act.put, qa, qb, qc, qD, qE, qF]
        refine wpTail_done qKr ?_ _
        clear hHeld
        generalize hW6 : (w5.setCell ⟨w1.heap.size, 2, none⟩ (.slice pa_w5 pn_w5 pc_w5)) = w6 at *
        have Kw6 : Chg (w1.heap.size) (w1.heap.size + 1) w5 w6 := by subst hW6; exact qCh
        have Xw6 : Ext w w6 := by subst hW6; exact qXt
        replace b10 := Kw6.cell (by omega) b10
        replace b11 := Kw6.cell (by omega) b11
        replace b12 := Kw6.cell (by omega) b12
        replace b20 := Kw6.cell (by omega) b20
        replace f_b20 := Kw6.frzO (by omega) z_b2 f_b20
        replace b21 := Kw6.cell (by omega) b21
        replace f_b21 := Kw6.frzO (by omega) z_b2 f_b21
        replace b22 := Kw6.cell (by omega) b22
        replace f_b22 := Kw6.frzO (by omega) z_b2 f_b22
        replace b50 : w6.cell? ⟨w1.heap.size, 0, none⟩ = some (.int .i64 b1) := by subst hW6; go_simp
        replace f_b50 : w6.frozen? ⟨w1.heap.size, 0, none⟩ = false := by subst hW6; go_simp
        replace b51 : w6.cell? ⟨w1.heap.size, 1, none⟩ = some (.slice pa_w3 pn_w3 pc_w3) := by subst hW6; go_simp
        replace f_b51 : w6.frozen? ⟨w1.heap.size, 1, none⟩ = false := by subst hW6; go_simp
        replace b52 : w6.cell? ⟨w1.heap.size, 2, none⟩ = some (.slice pa_w5 pn_w5 pc_w5) := by subst hW6; go_simp
        replace f_b52 : w6.frozen? ⟨w1.heap.size, 2, none⟩ = false := by subst hW6; go_simp
        replace e80 := Kw6.cell (by omega) e80
        replace e160 := Kw6.cell (by omega) e160
        replace e230 := Kw6.cell (by omega) e230
        replace T := T.chg Kw6 (by omega)
        clear Kw6
        have z_b1 : w.heap.size < w6.heap.size := qB b10
        have z_b2 : w.heap.size + 1 < w6.heap.size := qB b20
        have z_b5 : w1.heap.size < w6.heap.size := qB b50
        have z_e8 : bl6 < w6.heap.size := qB e80
        have z_e16 : bl14 < w6.heap.size := qB e160
        have z_e23 : bl21 < w6.heap.size := qB e230
        have s_w6 : w.heap.size ≤ w6.heap.size := Xw6.size
        clear hW6
        have hTs := T.size
        go_wp2_with fail
        go_roundw
        case rel => exact ⟨k + 1, _, _, by omega, by go_num, Lib.hid (hok.out.succ hlt hv9.out (by have := hos.out; omega) hB13.out), by rw [hs1.out, hs2.out]; exact T, Xw6, b10, b11, b12, b20, b21, b22, f_b20, f_b21, f_b22, b50, b51, b52, f_b50, f_b51, f_b52⟩
        case measure => simp [intOf]; omega
       ·
        replace hB13 := Lib.hid hB13
        go_wp2_with fail
        generalize hW7 : (((wr.setCell ⟨w.heap.size + 1, 0, none⟩ (.int .i64 0)).setCell ⟨w.heap.size + 1, 1, none⟩ (.slice none 0 0)).setCell ⟨w.heap.size + 1, 2, none⟩ (.slice none 0 0)) = w3 at *
        have Kw3 : Chg (w.heap.size + 1) (w.heap.size + 1 + 1) wr w3 := by subst hW7; exact qCh
        have Xw3 : Ext w w3 := by subst hW7; exact qXt
        replace b10 := Kw3.cell (by omega) b10
        replace b11 := Kw3.cell (by omega) b11
        replace b12 := Kw3.cell (by omega) b12
        replace b20 : w3.cell? ⟨w.heap.size + 1, 0, none⟩ = some (.int .i64 0) := by subst hW7; go_simp
        replace f_b20 : w3.frozen? ⟨w.heap.size + 1, 0, none⟩ = false := by subst hW7; go_simp
        replace b21 : w3.cell? ⟨w.heap.size + 1, 1, none⟩ = some (.slice none 0 0) := by subst hW7; go_simp
        replace f_b21 : w3.frozen? ⟨w.heap.size + 1, 1, none⟩ = false := by subst hW7; go_simp
        replace b22 : w3.cell? ⟨w.heap.size + 1, 2, none⟩ = some (.slice none 0 0) := by subst hW7; go_simp
        replace f_b22 : w3.frozen? ⟨w.heap.size + 1, 2, none⟩ = false := by subst hW7; go_simp
        replace b50 := Kw3.cell (by omega) b50
        replace f_b50 := Kw3.frzO (by omega) z_b5 f_b50
        replace b51 := Kw3.cell (by omega) b51
        replace f_b51 := Kw3.frzO (by omega) z_b5 f_b51
        replace b52 := Kw3.cell (by omega) b52
        replace f_b52 := Kw3.frzO (by omega) z_b5 f_b52
        replace e80 := Kw3.cell (by omega) e80
        replace T := T.chg Kw3 (by omega)
        clear Kw3
        have z_b1 : w.heap.size < w3.heap.size := qB b10
        have z_b2 : w.heap.size + 1 < w3.heap.size := qB b20
        have z_b5 : w1.heap.size < w3.heap.size := qB b50
        have z_e8 : bl6 < w3.heap.size := qB e80
        have s_w3 : w.heap.size ≤ w3.heap.size := Xw3.size
        clear hW7
        refine bodyPost_ret (v := .tuple #[.agg #[.int .i64 0, .slice none 0 0, .slice none 0 0], .bool false]) (by simp only [results, Try.results14]; go_simp) rfl ?_
        rw [show permV b1 s1 t1 ord = noV by unfold permV; rw [hB3.out, ord_no hlt hv9.out (.inr (.inr hB13.out)), Bool.and_false] <;> rfl]
        exact PViewB.no (Xw3.trans qXt)
    ·
     have hkI : ¬ (k : Int) < ord.length := by omega
     obtain rfl : k = ord.length := by omega
     rw [List.take_length] at T
     obtain ⟨a5, c5, rfl⟩ := (T.o1.ints (by rw [takL_len]; omega)).form
     obtain ⟨a6, c6, rfl⟩ := (T.o2.ints (by rw [takL_len]; omega)).form
     simp only [takL_len] at b51 b52 T
     go_wp2_with fail
     generalize hW8 : (((wr.setCell ⟨w.heap.size + 1, 0, none⟩ (.int .i64 b1)).setCell ⟨w.heap.size + 1, 1, none⟩ (.slice a5 ord.length c5)).setCell ⟨w.heap.size + 1, 2, none⟩ (.slice a6 ord.length c6)) = w3 at *
     have Kw3 : Chg (w.heap.size + 1) (w.heap.size + 1 + 1) wr w3 := by subst hW8; exact qCh
     have Xw3 : Ext w w3 := by subst hW8; exact qXt
     replace b10 := Kw3.cell (by omega) b10
     replace b11 := Kw3.cell (by omega) b11
     replace b12 := Kw3.cell (by omega) b12
     replace b20 : w3.cell? ⟨w.heap.size + 1, 0, none⟩ = some (.int .i64 b1) := by subst hW8; go_simp
     replace f_b20 : w3.frozen? ⟨w.heap.size + 1, 0, none⟩ = false := by subst hW8; go_simp
     replace b21 : w3.cell? ⟨w.heap.size + 1, 1, none⟩ = some (.slice a5 ord.length c5) := by subst hW8; go_simp
     replace f_b21 : w3.frozen? ⟨w.heap.size + 1, 1, none⟩ = false := by subst hW8; go_simp
     replace b22 : w3.cell? ⟨w.heap.size + 1, 2, none⟩ = some (.slice a6 ord.length c6) := by subst hW8; go_simp
     replace f_b22 : w3.frozen? ⟨w.heap.size + 1, 2, none⟩ = false := by subst hW8; go_simp
     replace b50 := Kw3.cell (by omega) b50
     replace f_b50 := Kw3.frzO (by omega) z_b5 f_b50
     replace b51 := Kw3.cell (by omega) b51
     replace f_b51 := Kw3.frzO (by omega) z_b5 f_b51
     replace b52 := Kw3.cell (by omega) b52
     replace f_b52 := Kw3.frzO (by omega) z_b5 f_b52
     replace T := T.chg Kw3 (by omega)
     clear Kw3
     have z_b1 : w.heap.size < w3.heap.size := qB b10
     have z_b2 : w.heap.size + 1 < w3.heap.size := qB b20
     have z_b5 : w1.heap.size < w3.heap.size := qB b50
     have s_w3 : w.heap.size ≤ w3.heap.size := Xw3.size
     clear hW8
     refine bodyPost_ret (v := .tuple #[.agg #[.int .i64 b1, .slice a5 ord.length c5, .slice a6 ord.length c6], .bool true]) (by simp only [results, Try.results14]; go_simp) rfl ?_
     rw [show permV b1 s1 t1 ord = (b1, takL s1 ord, takL t1 ord, true) by unfold permV madeV; rw [hB3.out, ord_yes (by have := hos.out; omega) hok.out, (perm_view hB3.out (ord_yes (by have := hos.out; omega) hok.out)).1] <;> rfl]
     exact PViewB.two T (by omega) (by rw [takL_len]; omega) (by rw [takL_len]; omega) Xw3
  ·
   have hc4e : ((ord.length : Int) == (s1.length : Int)) = false := by simpa using hc4
   have hc4n : ((ord.length : Int) != (s1.length : Int)) = true := by simpa using hc4
   replace hc4 := Lib.hid hc4
   go_wp2_with fail
   generalize hW9 : (((w1.setCell ⟨w.heap.size + 1, 0, none⟩ (.int .i64 0)).setCell ⟨w.heap.size + 1, 1, none⟩ (.slice none 0 0)).setCell ⟨w.heap.size + 1, 2, none⟩ (.slice none 0 0)) = w2 at *
   have Kw2 : Chg (w.heap.size + 1) (w.heap.size + 1 + 1) w1 w2 := by subst hW9; exact qCh
   have Xw2 : Ext w w2 := by subst hW9; exact qXt
   replace b10 := Kw2.cell (by omega) b10
   replace b11 := Kw2.cell (by omega) b11
   replace b12 := Kw2.cell (by omega) b12
   replace b20 : w2.cell? ⟨w.heap.size + 1, 0, none⟩ = some (.int .i64 0) := by subst hW9; go_simp
   replace f_b20 : w2.frozen? ⟨w.heap.size + 1, 0, none⟩ = false := by subst hW9; go_simp
   replace b21 : w2.cell? ⟨w.heap.size + 1, 1, none⟩ = some (.slice none 0 0) := by subst hW9; go_simp
   replace f_b21 : w2.frozen? ⟨w.heap.size + 1, 1, none⟩ = false := by subst hW9; go_simp
   replace b22 : w2.cell? ⟨w.heap.size + 1, 2, none⟩ = some (.slice none 0 0) := by subst hW9; go_simp
   replace f_b22 : w2.frozen? ⟨w.heap.size + 1, 2, none⟩ = false := by subst hW9; go_simp
   clear Kw2
   have z_b1 : w.heap.size < w2.heap.size := qB b10
   have z_b2 : w.heap.size + 1 < w2.heap.size := qB b20
   have s_w2 : w.heap.size ≤ w2.heap.size := Xw2.size
   clear hW9
   refine bodyPost_ret (v := .tuple #[.agg #[.int .i64 0, .slice none 0 0, .slice none 0 0], .bool false]) (by simp only [results, Try.results14]; go_simp) rfl ?_
   rw [show permV b1 s1 t1 ord = noV by unfold permV; rw [hB3.out, ord_len hc4.out, Bool.and_false] <;> rfl]
   exact PViewB.no (Xw2.trans qXt)


end Go.Proofs.Ytpgkhjmboiepcaa

/- Walks: a tensor of a shape is drawn. -/
namespace Go.Proofs.Ytpgkhjmboiepcaa
open Go.RowKit
set_option linter.unusedVariables false
set_option maxRecDepth 100000

end Go.Proofs.Ytpgkhjmboiepcaa

/- Walks: TurnTensor of the program. -/
namespace Go.Proofs.Ytpgkhjmboiepcaa
open Go.RowKit
set_option linter.unusedVariables false
set_option maxRecDepth 100000

/-- a call hands back a tensor -/
def PTurn (w : World) (a b : List Int) (e : Ending) (w' : World) : Prop := ∃ (u1 u2 : Option Addr) (c1 c2 : Nat), e = .returned (.agg #[.slice u1 a.length c1, .slice u2 b.length c2]) ∧ Ints w' w.heap.size (.slice u1 a.length c1) a ∧ Ints w' w.heap.size (.slice u2 b.length c2) b ∧ Ext w w'
theorem ord_contains {ord : List Int} {n k : Nat} (ho : orderB ord n = true) (hk : k < ord.length) : hasB (ord.take k) (ord.getD k 0) = false := by
 obtain ⟨h1, h2, h3⟩ := orderB_in ho
 cases h : hasB (ord.take k) (ord.getD k 0) with
 | false => rfl
 | true =>
  unfold hasB at h
  have h4 := List.contains_iff_mem.1 h
  have h5 : (ord.take (k+1)).Nodup := h3.sublist (List.take_sublist _ _)
  rw [take_snoc ord k hk, List.nodup_append] at h5
  exact absurd rfl (h5.2.2 _ h4 _ (by simp))
theorem rank_old {s t ord J : List Int} (hb : tenB s t = true) (ho : orderB ord s.length = true) (hJ : IxOf (takL s ord) J) : ∃ q : Nat, rankA s (oldL ord J) = (q : Int) ∧ q < t.length ∧ (rankL s (oldL ord J)).toNat = q := by
 obtain ⟨h1, h2, -⟩ := tenB_in hb
 have hs := Small.of h1
 obtain ⟨h3, -⟩ := hs.count
 have hx := ix_old ho hJ
 obtain ⟨⟨a1, a2⟩, -⟩ := unr_rank s _ hx
 have e := rankL_eq (shape := s) (ix := oldL ord J) hx.len.symm hs (hx.small fun e he => (hs.2 e he).2)
 refine ⟨(rankC s (oldL ord J)).toNat, ?_, by omega, by rw [e]⟩
 unfold rankA
 rw [h1, (ixB_iff _ _).2 hx]
 simp only [Bool.and_self, if_true]
 omega
theorem Chg.below {lo hi : Nat} {a b c : World} (h : Chg lo hi a b) (k : Below a.heap.size b c) : Chg lo hi a c :=
 ⟨k.os.trans h.os, k.tape.trans h.tape, k.output.trans h.output, Nat.le_trans h.size k.size, fun i hi hd => (k.block i hi).trans (h.block i hi hd)⟩
set_option maxHeartbeats 12800000 in
theorem turnTensor_c (s t ord : List Int) (u v o : Value) (w : World) (l1 l2 l3 : Nat) (h1 : Ints w l1 u s) (h2 : Ints w l2 v t) (h3 : Ints w l3 o ord) (hb : Hid (tenB s t = true)) (ho : Hid (orderB ord s.length = true)) :
  Calls Try.prog 17 #[.agg #[u, v], o] w (PTurn w (takL s ord) (turnV s t ord)) := by
 obtain ⟨p1, c1, rfl⟩ := h1.form
 obtain ⟨p2, c2, rfl⟩ := h2.form
 obtain ⟨p3, c3, rfl⟩ := h3.form
 have hon : ord.length = s.length := (orderB_in ho.out).1
 have hs4 : s.length ≤ 4 := (shapeB_in (tenB_in hb.out).1).1
 have hx0 : ((ord.length : Int) != (s.length : Int)) = false := by simp [hon]
 replace hon := Lib.hid hon
 have hcp : ord.length ≤ c3 := by obtain ⟨a, c, e, h, _⟩ := h3; cases e; exact h
 have h1' := Lib.hid h1
 have h2' := Lib.hid h2
 have h3' := Lib.hid h3
 clear h1 h2 h3
 go_enter Try.func17, Try.ntmps17
 go_wp2_with fail
 refine (isTensor_c _ _ s t _ _ _ (h1'.out.ext qXt) (h2'.out.ext qXt)).mono ?_
 rintro e w1 ⟨rfl, xw1⟩
 have Lw1 : Ext w w1 := Ext.trans qXt xw1
 have Xw1 : Ext w w1 := Lw1
 have b0 : w1.cell? ⟨w.heap.size, 0, none⟩ = some (.slice p1 s.length c1) := xw1.cell qCl
 have b1 : w1.cell? ⟨w.heap.size, 1, none⟩ = some (.slice p2 t.length c2) := xw1.cell qCl
 have q0 : w1.cell? ⟨w.heap.size + 1, 0, none⟩ = some (.slice none 0 0) := xw1.cell qCl
 have q1 : w1.cell? ⟨w.heap.size + 1, 1, none⟩ = some (.slice none 0 0) := xw1.cell qCl
 have f_q0 : w1.frozen? ⟨w.heap.size + 1, 0, none⟩ = false := xw1.frz (by simp <;> omega) qFz
 have f_q1 : w1.frozen? ⟨w.heap.size + 1, 1, none⟩ = false := xw1.frz (by simp <;> omega) qFz
 have z_b : w.heap.size < w1.heap.size := qB b0
 have z_q : w.heap.size + 1 < w1.heap.size := qB q0
 have s_w1 : w.heap.size ≤ w1.heap.size := Xw1.size
 clear xw1
 rw [hb.out]
 go_wp2_with fail
 generalize hW1 : w1.alloc (.cells #[.slice none 0 0, .slice none 0 0] 29) = w2 at *
 have Lw2 : Ext w1 w2 := by subst hW1; exact qXt
 have Xw2 : Ext w w2 := Xw1.trans Lw2
 replace b0 := Lw2.cell b0
 replace b1 := Lw2.cell b1
 replace q0 := Lw2.cell q0
 replace q1 := Lw2.cell q1
 replace f_q0 := Lw2.frz z_q f_q0
 replace f_q1 := Lw2.frz z_q f_q1
 have y0 : w2.cell? ⟨w1.heap.size, 0, none⟩ = some (.slice none 0 0) := by subst hW1; exact qCl
 have y1 : w2.cell? ⟨w1.heap.size, 1, none⟩ = some (.slice none 0 0) := by subst hW1; exact qCl
 have f_y0 : w2.frozen? ⟨w1.heap.size, 0, none⟩ = false := by subst hW1; exact qFz
 have f_y1 : w2.frozen? ⟨w1.heap.size, 1, none⟩ = false := by subst hW1; exact qFz
 have z_b : w.heap.size < w2.heap.size := qB b0
 have z_q : w.heap.size + 1 < w2.heap.size := qB q0
 have z_y : w1.heap.size < w2.heap.size := qB y0
 have s_w2 : w.heap.size ≤ w2.heap.size := Xw2.size
 clear hW1
 have hgy : w.heap.size + 1 < w1.heap.size := by omega
 generalize w1.heap.size = gy at *
 have z_b : w.heap.size < w2.heap.size := qB b0
 have z_q : w.heap.size + 1 < w2.heap.size := qB q0
 have z_y : gy < w2.heap.size := qB y0
 go_loopw [28] (fun tt wr => ∃ (i : Nat) (pv : Option Addr) (cv : Nat), tt = .int .i64 (i : Int) ∧ i ≤ ord.length ∧ OwnI wr (gy + 1) (.slice pv i cv) (takL s (ord.take i)) ∧ gy < wr.heap.size ∧ wr.cell? ⟨w.heap.size, 0, none⟩ = some (.slice p1 s.length c1) ∧ wr.cell? ⟨w.heap.size, 1, none⟩ = some (.slice p2 t.length c2) ∧ wr.cell? ⟨w.heap.size + 1, 0, none⟩ = some (.slice none 0 0) ∧ wr.frozen? ⟨w.heap.size + 1, 0, none⟩ = false ∧ wr.cell? ⟨w.heap.size + 1, 1, none⟩ = some (.slice none 0 0) ∧ wr.frozen? ⟨w.heap.size + 1, 1, none⟩ = false ∧ wr.cell? ⟨gy, 0, none⟩ = some (.slice pv i cv) ∧ wr.frozen? ⟨gy, 0, none⟩ = false ∧ wr.cell? ⟨gy, 1, none⟩ = some (.slice none 0 0) ∧ wr.frozen? ⟨gy, 1, none⟩ = false ∧ Ext w wr) (fun tt _ => ord.length - (intOf tt).toNat)
 case atStart => exact ⟨0, none, 0, rfl, Nat.zero_le _, OwnI.nil _ _, z_y, b0, b1, q0, f_q0, q1, f_q1, y0, f_y0, y1, f_y1, Xw2⟩
 case round =>
  clear b0 b1 q0 f_q0 q1 f_q1 y0 f_y0 y1 f_y1 Xw2
  obtain ⟨i, pv, cv, rfl, hi, OS, hzy, b0, b1, q0, f_q0, q1, f_q1, y0, f_y0, y1, f_y1, X⟩ := hrel
  have s_wr := X.size
  have hlt4 : (takL s (ord.take i)).length ≤ 4 := by rw [takL_len, List.length_take]; have := hon.out; omega
  have z_b : w.heap.size < wr.heap.size := qB b0
  have z_q : w.heap.size + 1 < wr.heap.size := qB q0
  have z_y : gy < wr.heap.size := qB y0
  by_cases hlt : i < ord.length
  ·
   have hcN : i ≤ c3 := by omega
   have hcI : (i : Int) ≤ (c3 : Int) := by omega
   have hc0 : ¬ (i : Int) < 0 := by omega
   have hlI : (i : Int) < (ord.length : Int) := by omega
   obtain ⟨bo, oo, rfl, eo⟩ := (h3'.out.ext X).at i hlt
   have hco := ord_contains ho.out hlt
   obtain ⟨dv, hdv⟩ : ∃ v, ord.getD i 0 = v := ⟨_, rfl⟩
   rw [hdv] at eo hco
   have hdr := (orderB_in ho.out).2.1 dv (hdv ▸ getD_mem hlt)
   have hsn := takL_snoc (s := s) hlt hdv
   obtain ⟨dq, rfl⟩ : ∃ q : Nat, dv = q := ⟨dv.toNat, by omega⟩
   rw [Int.toNat_natCast] at hsn
   have hdq : dq < s.length := by omega
   have hdn : ¬ (dq : Int) < 0 := by omega
   have hdo : ¬ (ord.length : Int) ≤ (dq : Int) := by have := hon.out; omega
   have hdS : (dq : Int) < (s.length : Int) := by omega
   obtain ⟨bs, os, rfl, es0w⟩ := h1'.out.at dq hdq
   have zsw : bs < w.heap.size := qB es0w
   have es0 := X.cell es0w
   clear es0w
   obtain ⟨sv, hsv⟩ : ∃ v, s.getD dq 0 = v := ⟨_, rfl⟩
   rw [hsv] at es0 hsn
   replace hsn := Lib.hid hsn
   replace hsv := Lib.hid hsv
   replace hdv := Lib.hid hdv
   replace hco := Lib.hid hco
   go_wp2_with fail
   refine (contains_c (ord.take i) _ (dq : Int) _ _ (((h3'.out.ext X).take i (by omega)).ext qXt)).mono ?_
   rintro e w' ⟨rfl, rfl⟩
   rw [hco.out]
   have z_es : bs < wr.heap.size := qB es0
   have hi4 : i ≤ 4 := by have := hon.out; omega
   go_wp2_with fail
   refine wp_region_tail (S := fun w' => w'.cell? ⟨w.heap.size, 0, none⟩ = some (.slice (some ⟨bs, os, none⟩) s.length c1) ∧ w'.cell? ⟨gy, 0, none⟩ = some (.slice pv i cv) ∧ w'.cell? ⟨bs, os + dq, none⟩ = some (.int .i64 sv)) (fun i => decide (10 ≤ i)) qKr ⟨b0, y0, es0⟩ (fun hHeld => ?_)
   refine qTk (v := ?_) 0 rfl (.inl ⟨by rfl, ?_⟩) ?_
   rotate_left
   ·
    (intro w hSw; (try dsimp only at hSw); go_simp; try with_reducible rfl)
   try simp only [Act.put, qa, qb, qc, qD, qE, qF]
   refine qTk (v := ?_) 1 rfl (.inl ⟨by rfl, ?_⟩) ?_
   rotate_left
   ·
    (intro w hSw; (try dsimp only at hSw); go_simp; try with_reducible rfl)
   try simp only [Act.put, qa, qb, qc, qD, qE, qF]
   refine qTk (v := ?_) 2 rfl (.inl ⟨by rfl, ?_⟩) ?_
   rotate_left
   ·
    (intro w hSw; (try dsimp only at hSw); go_simp; try with_reducible rfl)
   try simp only [Act.put, qa, qb, qc, qD, qE, qF]
   refine qTk (v := ?_) 3 rfl (.inl ⟨by rfl, ?_⟩) ?_
   rotate_left
   ·
    (intro w hSw; (try dsimp only at hSw); go_simp; try with_reducible rfl)
   try simp only [Act.put, qa, qb, qc, qD, qE, qF]
   refine qTk (v := ?_) 4 rfl (.inl ⟨by rfl, ?_⟩) ?_
   rotate_left
   ·
    (intro w hSw; (try dsimp only at hSw); go_simp; try with_reducible rfl)
   try simp only [Act.put, qa, qb, qc, qD, qE, qF]
   refine qTk (v := ?_) 5 rfl (.inl ⟨by rfl, ?_⟩) ?_
   rotate_left
   ·
    (intro w hSw; (try dsimp only at hSw); go_simp; try with_reducible rfl)
   try simp only [Act.put, qa, qb, qc, qD, qE, qF]
   refine qTk (v := ?_) 6 rfl (.inl ⟨by rfl, ?_⟩) ?_
   rotate_left
   ·
    (intro w hSw; (try dsimp only at hSw); go_simp; try with_reducible rfl)
   try simp only [Act.put, qa, qb, qc, qD, qE, qF]
   refine wpTail_one (i := 7) qKr rfl rfl (fun K hK => ?_)
   try simp only [Act.put, qa, qb, qc, qD, qE, qF]
   go_simp
   refine hK.out _ _ ⟨Ext.cell (w := wr) qXt b0, Ext.cell (w := wr) qXt y0, Ext.cell (w := wr) qXt es0⟩ (fun hHeld => ?_)
   clear hK K
   try simp only [Act.put, qa, qb, qc, qD, qE, qF]
   refine wpTail_one (i := 8) qKr rfl rfl (fun K hK => ?_)
   have Ew4 : Ext wr ((wr.drew).alloc (.cells #[.int .i64 sv] 3)) := qXt
   have Sw4 : Ints ((wr.drew).alloc (.cells #[.int .i64 sv] 3)) 0 (.slice (some ⟨wr.heap.size, 0, none⟩) 1 1) [sv] := by simpa using Ints.one wr.drew 0 sv (Nat.zero_le _)
   refine step_app rfl (.tmp 50) (.tmp 56) rfl rfl rfl (by exact OS.ext Ew4) (by exact Sw4) (by simp only [List.length_cons, List.length_nil]; omega) (by simp <;> omega) ?_
   intro vw4 w4 ho7 hgr hbl hvb
   clear hgr hvb
   replace ho7 : OwnI w4 (gy + 1) vw4 (takL s (ord.take (i+1))) := by rw [hsn.out]; exact ho7
   obtain ⟨pw, cw, rfl⟩ : ∃ a c, vw4 = .slice a (i + 1) c := by obtain ⟨a, c, h⟩ := (ho7.ints (by rw [takL_len, List.length_take]; omega)).form; exact ⟨a, c, by rw [h, takL_len, List.length_take]; congr 1; omega⟩
   have Xw4 : Ext w w4 := Ext.below (X.trans Ew4) hbl (by omega)
   replace b0 := below_cell hbl (by omega) (Ew4.cell b0)
   replace b1 := below_cell hbl (by omega) (Ew4.cell b1)
   replace q0 := below_cell hbl (by omega) (Ew4.cell q0)
   replace f_q0 := below_frz hbl (by omega) (Ew4.frz z_q f_q0)
   replace q1 := below_cell hbl (by omega) (Ew4.cell q1)
   replace f_q1 := below_frz hbl (by omega) (Ew4.frz z_q f_q1)
   replace y0 := below_cell hbl (by omega) (Ew4.cell y0)
   replace f_y0 := below_frz hbl (by omega) (Ew4.frz z_y f_y0)
   replace y1 := below_cell hbl (by omega) (Ew4.cell y1)
   replace f_y1 := below_frz hbl (by omega) (Ew4.frz z_y f_y1)
   replace es0 := below_cell hbl (by omega) (Ew4.cell es0)
   have z_b : w.heap.size < w4.heap.size := qB b0
   have z_q : w.heap.size + 1 < w4.heap.size := qB q0
   have z_y : gy < w4.heap.size := qB y0
   have z_es : bs < w4.heap.size := qB es0
   clear OS hbl Ew4 Sw4
   have s_w4 : w.heap.size ≤ w4.heap.size := Xw4.size
   refine hK.out _ _ ⟨b0, y0, es0⟩ (fun hHeld => ?_)
   clear hK K
   try simp only [Act.put, qa, qb, qc, qD, qE, qF]
   refine qTk (v := ?_) 9 rfl (.inl ⟨by rfl, ?_⟩) ?_
   rotate_left
   ·
    (intro w hSw; (try dsimp only at hSw); go_simp; try with_reducible rfl)
   try simp only [Act.put, qa, qb, qc, qD, qE, qF]
   refine wpTail_last (i := 10) qKr rfl rfl (fun K hK => ?_)
   try simp only [Act.put, qa, qb, qc, qD, qE, qF]
   go_simp
   refine hK.out _ _ ?_
   clear hK K
   try simp only [Act.put, qa, qb, qc, qD, qE, qF]
   refine wpTail_done qKr ?_ _
   clear hHeld
   clear es0 z_es
   generalize hW2 : (w4.setCell ⟨gy, 0, none⟩ (.slice pw (i + 1) cw)) = w5 at *
   have Kw5 : Chg (gy) (gy + 1) w4 w5 := by subst hW2; exact qCh
   have Xw5 : Ext w w5 := by subst hW2; exact qXt
   replace b0 := Kw5.cell (by omega) b0
   replace b1 := Kw5.cell (by omega) b1
   replace q0 := Kw5.cell (by omega) q0
   replace f_q0 := Kw5.frzO (by omega) z_q f_q0
   replace q1 := Kw5.cell (by omega) q1
   replace f_q1 := Kw5.frzO (by omega) z_q f_q1
   replace y0 : w5.cell? ⟨gy, 0, none⟩ = some (.slice pw (i + 1) cw) := by subst hW2; go_simp
   replace f_y0 : w5.frozen? ⟨gy, 0, none⟩ = false := by subst hW2; first | (simp only [World.frozen?_setCell]; with_reducible assumption) | go_simp
   replace y1 : w5.cell? ⟨gy, 1, none⟩ = some (.slice none 0 0) := by subst hW2; go_simp
   replace f_y1 : w5.frozen? ⟨gy, 1, none⟩ = false := by subst hW2; first | (simp only [World.frozen?_setCell]; with_reducible assumption) | go_simp
   replace ho7 := ho7.chg Kw5 (by omega)
   clear Kw5
   have z_b : w.heap.size < w5.heap.size := qB b0
   have z_q : w.heap.size + 1 < w5.heap.size := qB q0
   have z_y : gy < w5.heap.size := qB y0
   have s_w5 : w.heap.size ≤ w5.heap.size := Xw5.size
   clear hW2
   go_wp2_with fail
   go_roundw
   case rel => exact ⟨i + 1, pw, cw, by first | rfl | go_num, by omega, ho7, z_y, b0, b1, q0, f_q0, q1, f_q1, y0, f_y0, y1, f_y1, Xw5⟩
   case measure => simp [intOf]; omega
  ·
   obtain rfl : i = ord.length := by omega
   have hlI : ¬ (ord.length : Int) < (ord.length : Int) := by omega
   rw [List.take_length] at OS
   have hsb := (tenB_in hb.out).1
   have hsm : Small s := ⟨(shapeB_in hsb).1, (shapeB_in hsb).2.1⟩
   have hcs := perm_count hsm ho.out
   have hS60 : 0 ≤ countL (takL s ord) ∧ countL (takL s ord) ≤ 60 := by rw [hcs]; exact ⟨(shapeB_in hsb).2.2.1, (shapeB_in hsb).2.2.2.1⟩
   have hpos : Hid (0 < countL (takL s ord) → ∀ e ∈ takL s ord, 1 ≤ e) := Lib.hid (shapeB_in (shapeB_mk (perm_small hsm ho.out) hS60.2)).2.2.2.2
   have hSl := takL_len s ord
   have iS := Lib.hid (OS.ints (by have := hon.out; omega))
   clear hcs hsm hsb OS
   obtain ⟨N, hN⟩ : ∃ N : Nat, countL (takL s ord) = N := ⟨(countL (takL s ord)).toNat, by omega⟩
   go_wp2_with fail
   refine (countOf_c (takL s ord) _ _ _ (iS.out.ext qXt)).mono ?_
   rintro e w' ⟨rfl, rfl⟩
   rw [hN]
   generalize wr = wa at *
   go_wp2_with fail
   go_loopw [63] (fun kk wr => ∃ (k : Nat) (pw : Option Addr) (cw : Nat), kk = .int .i64 (k : Int) ∧ k ≤ N ∧ OwnI wr wa.heap.size (.slice pw k cw) ((turnV s t ord).take k) ∧ wr.cell? ⟨gy, 0, none⟩ = some (.slice pv ord.length cv) ∧ wr.cell? ⟨gy, 1, none⟩ = some (.slice pw k cw) ∧ wr.frozen? ⟨gy, 0, none⟩ = false ∧ wr.frozen? ⟨gy, 1, none⟩ = false ∧ Chg gy (gy + 1) wa wr) (fun kk _ => N - (intOf kk).toNat)
   case atStart => exact ⟨0, none, 0, rfl, Nat.zero_le _, OwnI.nil _ _, y0, y1, f_y0, f_y1, Chg.refl _ _ _⟩
   case round =>
    clear y0 y1 f_y0 f_y1
    obtain ⟨k, pw, cw, rfl, hk, OV, y0, y1, f_y0, f_y1, KC⟩ := hrel
    generalize wr = wb at *
    have zk := KC.size
    have Xb : Ext w wb := Ext.chg X KC (by omega)
    replace iS := Lib.hid (iS.out.chg KC (by omega))
    have z_y' : gy < wb.heap.size := by omega
    replace b0 := KC.cell (by omega) b0
    replace b1 := KC.cell (by omega) b1
    replace q0 := KC.cell (by omega) q0
    replace f_q0 := KC.frzO (by omega) z_q f_q0
    replace q1 := KC.cell (by omega) q1
    replace f_q1 := KC.frzO (by omega) z_q f_q1
    have z_b : w.heap.size < wb.heap.size := qB b0
    have z_q : w.heap.size + 1 < wb.heap.size := qB q0
    have z_y : gy < wb.heap.size := qB y0
    replace OV := Lib.hid OV
    by_cases hkN : k < N
    ·
     have hkI : (k : Int) < (N : Int) := by omega
     have hkp := hpos.out (by omega)
     go_wp2_with fail
     refine (indexAt_c (takL s ord) _ (k : Int) _ _ (iS.out.ext qXt) (by omega) (by omega) hkp).mono ?_
     rintro e w7 ⟨vi, rfl, iI, -, x7⟩
     obtain ⟨J, hJ⟩ : ∃ J, (unrL (takL s ord) k).1 = J := ⟨_, rfl⟩
     have hJx : IxOf (takL s ord) J := hJ ▸ ix_unr (takL s ord) hkp k
     rw [hJ] at iI
     have hJl : J.length = ord.length := by rw [hJx.len, takL_len]
     obtain ⟨rq, hr1, hr2, hr3⟩ := rank_old hb.out ho.out hJx
     have hnx := turnV_take s t ord k (by omega)
     rw [hJ, hr3] at hnx
     replace hnx := Lib.hid hnx
     replace hJx := Lib.hid hJx
     replace hr1 := Lib.hid hr1
     replace hr3 := Lib.hid hr3
     replace hJ := Lib.hid hJ
     clear hkp
     obtain ⟨pi, ci, rfl⟩ : ∃ a c, vi = .slice a ord.length c := by obtain ⟨a, c, h⟩ := iI.form; exact ⟨a, c, by rw [h, hJl]⟩
     replace hJl := Lib.hid hJl
     replace iI := Lib.hid iI
     have Lw7 : Ext wb w7 := Ext.trans qXt x7
     have Xw7 : Ext w w7 := Xb.trans Lw7
     replace b0 := Lw7.cell b0
     replace b1 := Lw7.cell b1
     replace q0 := Lw7.cell q0
     replace q1 := Lw7.cell q1
     replace f_q0 := Lw7.frz z_q f_q0
     replace f_q1 := Lw7.frz z_q f_q1
     replace y0 := Lw7.cell y0
     replace y1 := Lw7.cell y1
     replace f_y0 := Lw7.frz z_y f_y0
     replace f_y1 := Lw7.frz z_y f_y1
     have z_b : w.heap.size < w7.heap.size := qB b0
     have z_q : w.heap.size + 1 < w7.heap.size := qB q0
     have z_y : gy < w7.heap.size := qB y0
     have s_w7 : w.heap.size ≤ w7.heap.size := Xw7.size
     clear x7
     obtain ⟨i0u, hiu, hz0u, hz1u, hz2u⟩ := info_parts infoInt
     have hn4 : ord.length ≤ 4 := by have := hon.out; omega
     go_wp2_with (at_make; refine wpList_make_full _ rfl _ _ 23 rfl w7.heap.size 3 i0u (.int .i64 0) 1 Try.underlying23 hiu hz0u hz1u .i64 .i64 _ _ ord.length rfl rfl rfl rfl (by rw [hz2u]; omega) (by unfold maxLen; omega) (Nat.le_refl _) ?_)
     intro w8 hown7 hgr7
     have x8 : Ext w7 w8 := (Ext.refl w7).grown hgr7 (by simp)
     rw [made_ints] at hown7
     clear hgr7
     have OM : OwnI w8 w7.heap.size (.slice (some ⟨w7.heap.size, 0, none⟩) ord.length ord.length) (List.replicate ord.length 0) := by unfold OwnI; simpa using hown7
     clear hown7 hiu hz0u hz1u hz2u i0u
     go_wp2_with fail
     go_loopw [75] (fun ii wr => ∃ (i : Nat), ii = .int .i64 (i : Int) ∧ i ≤ ord.length ∧ OwnI wr w7.heap.size (.slice (some ⟨w7.heap.size, 0, none⟩) ord.length ord.length) (putUp (List.replicate ord.length 0) ord J i) ∧ Ext w7 wr) (fun ii _ => ord.length - (intOf ii).toNat)
     case atStart => exact ⟨0, rfl, Nat.zero_le _, OM, x8⟩
     case round =>
      clear OM
      obtain ⟨i, rfl, hi7, OM, x9⟩ := hrel
      generalize wr = wd at *
      clear x8
      have Lwd : Ext w7 wd := Ext.trans qXt x9
      have Xwd : Ext w wd := Xw7.trans Lwd
      replace b0 := Lwd.cell b0
      replace b1 := Lwd.cell b1
      replace q0 := Lwd.cell q0
      replace q1 := Lwd.cell q1
      replace f_q0 := Lwd.frz z_q f_q0
      replace f_q1 := Lwd.frz z_q f_q1
      replace y0 := Lwd.cell y0
      replace y1 := Lwd.cell y1
      replace f_y0 := Lwd.frz z_y f_y0
      replace f_y1 := Lwd.frz z_y f_y1
      have z_b : w.heap.size < wd.heap.size := qB b0
      have z_q : w.heap.size + 1 < wd.heap.size := qB q0
      have z_y : gy < wd.heap.size := qB y0
      have s_wd : w.heap.size ≤ wd.heap.size := Xwd.size
      have hg8 : w7.heap.size < wd.heap.size := (World.ownsRow.lt OM w7.heap.size rfl).2
      by_cases hlt7 : i < ord.length
      ·
       have hlI : (i : Int) < (ord.length : Int) := by omega
       obtain ⟨bo, oo, rfl, eo⟩ := (h3'.out.ext Xwd).at i hlt7
       obtain ⟨dv, hdv⟩ : ∃ v, ord.getD i 0 = v := ⟨_, rfl⟩
       rw [hdv] at eo
       have hdr := (orderB_in ho.out).2.1 dv (hdv ▸ getD_mem hlt7)
       obtain ⟨dq, rfl⟩ : ∃ q : Nat, dv = q := ⟨dv.toNat, by omega⟩
       have hdq : dq < ord.length := by have := hon.out; omega
       have hdI : (dq : Int) < (ord.length : Int) := by omega
       obtain ⟨bj, oj, rfl, ej⟩ := (iI.out.ext x9).at i (by have := hJl.out; omega)
       obtain ⟨jv, hjv⟩ : ∃ v, J.getD i 0 = v := ⟨_, rfl⟩
       rw [hjv] at ej
       obtain ⟨am, af⟩ := OM.cell dq (by rw [putUp_len, List.length_replicate]; omega)
       have hnl := putUp_succ (List.replicate ord.length 0) ord J i
       rw [hdv, hjv, Int.toNat_natCast] at hnl
       replace hnl := Lib.hid hnl
       replace hdv := Lib.hid hdv
       replace hjv := Lib.hid hjv
       go_wp2_with fail
       go_roundw
       case rel => exact ⟨i + 1, by first | rfl | go_num, by omega, by rw [hnl.out]; exact OM.set dq jv (by rw [putUp_len, List.length_replicate]; omega), Ext.setCell x9 (Nat.le_refl _) _⟩
       case measure => simp [intOf]; omega
      ·
       obtain rfl : i = ord.length := by omega
       have hlI : ¬ (ord.length : Int) < (ord.length : Int) := by omega
       have iR := OM.ints (by rw [putUp_len, List.length_replicate]; omega)
       replace iR : Ints wd w7.heap.size _ (oldL ord J) := iR
       replace iR := Lib.hid iR
       clear OM
       obtain ⟨bt, ot, rfl, et0w⟩ := h2'.out.at rq hr2
       have ztw : bt < w.heap.size := qB et0w
       have et0 := Xwd.cell et0w
       clear et0w
       obtain ⟨tv, htv⟩ : ∃ v, t.getD rq 0 = v := ⟨_, rfl⟩
       rw [htv] at et0
       have hnx := hnx.out
       rw [htv] at hnx
       replace hnx := Lib.hid hnx
       replace htv := Lib.hid htv
       have hrN : ¬ (rq : Int) < 0 := by omega
       have hrI : (rq : Int) < (t.length : Int) := by omega
       have z_et : bt < wd.heap.size := qB et0
       go_wp2_with fail
       refine wp_region_tail (S := fun w' => w'.cell? ⟨w.heap.size, 0, none⟩ = some (.slice p1 s.length c1) ∧ w'.cell? ⟨w.heap.size, 1, none⟩ = some (.slice (some ⟨bt, ot, none⟩) t.length c2) ∧ w'.cell? ⟨gy, 1, none⟩ = some (.slice pw k cw) ∧ w'.cell? ⟨bt, ot + rq, none⟩ = some (.int .i64 tv)) (fun i => decide (13 ≤ i)) qKr ⟨b0, b1, y1, et0⟩ (fun hHeld => ?_)
       refine qTk (v := ?_) 0 rfl (.inl ⟨by rfl, ?_⟩) ?_
       rotate_left
       ·
        (intro w hSw; (try dsimp only at hSw); go_simp; try with_reducible rfl)
       try simp only [Act.put, qa, qb, qc, qD, qE, qF]
       refine qTk (v := ?_) 1 rfl (.inl ⟨by rfl, ?_⟩) ?_
       rotate_left
       ·
        (intro w hSw; (try dsimp only at hSw); go_simp; try with_reducible rfl)
       try simp only [Act.put, qa, qb, qc, qD, qE, qF]
       refine qTk (v := ?_) 2 rfl (.inl ⟨by rfl, ?_⟩) ?_
       rotate_left
       ·
        (intro w hSw; (try dsimp only at hSw); go_simp; try with_reducible rfl)
       try simp only [Act.put, qa, qb, qc, qD, qE, qF]
       refine qTk (v := ?_) 3 rfl (.inl ⟨by rfl, ?_⟩) ?_
       rotate_left
       ·
        (intro w hSw; (try dsimp only at hSw); go_simp; try with_reducible rfl)
       try simp only [Act.put, qa, qb, qc, qD, qE, qF]
       refine qTk (v := ?_) 4 rfl (.inl ⟨by rfl, ?_⟩) ?_
       rotate_left
       ·
        (intro w hSw; (try dsimp only at hSw); go_simp; try with_reducible rfl)
       try simp only [Act.put, qa, qb, qc, qD, qE, qF]
       refine qTk (v := ?_) 5 rfl (.inl ⟨by rfl, ?_⟩) ?_
       rotate_left
       ·
        (intro w hSw; (try dsimp only at hSw); go_simp; try with_reducible rfl)
       try simp only [Act.put, qa, qb, qc, qD, qE, qF]
       refine qTk (v := ?_) 6 rfl (.inl ⟨by rfl, ?_⟩) ?_
       rotate_left
       ·
        (intro w hSw; (try dsimp only at hSw); go_simp; try with_reducible rfl)
       try simp only [Act.put, qa, qb, qc, qD, qE, qF]
       refine wpTail_one (i := 7) qKr rfl rfl (fun K hK => ?_)
       try simp only [Act.put, qa, qb, qc, qD, qE, qF]
       go_simp
       refine (implRankOf_c s (oldL ord J) _ _ _ _ _ (h1'.out.ext (Xwd.trans qXt)) (iR.out.ext qXt)).mono ?_
       rintro e w' ⟨rfl, rfl⟩
       rw [hr1.out]
       refine hK.out _ _ ⟨Ext.cell (w := wd) qXt b0, Ext.cell (w := wd) qXt b1, Ext.cell (w := wd) qXt y1, Ext.cell (w := wd) qXt et0⟩ (fun hHeld => ?_)
       clear hK K
       try simp only [Act.put, qa, qb, qc, qD, qE, qF]
       refine qTk (v := ?_) 8 rfl (.inl ⟨by rfl, ?_⟩) ?_
       rotate_left
       ·
        (intro w hSw; (try dsimp only at hSw); go_simp; try with_reducible rfl)
       try simp only [Act.put, qa, qb, qc, qD, qE, qF]
       refine qTk (v := ?_) 9 rfl (.inl ⟨by rfl, ?_⟩) ?_
       rotate_left
       ·
        (intro w hSw; (try dsimp only at hSw); go_simp; try with_reducible rfl)
       try simp only [Act.put, qa, qb, qc, qD, qE, qF]
       refine wpTail_one (i := 10) qKr rfl rfl (fun K hK => ?_)
       try simp only [Act.put, qa, qb, qc, qD, qE, qF]
       go_simp
       refine hK.out _ _ ⟨Ext.cell (w := wd) qXt b0, Ext.cell (w := wd) qXt b1, Ext.cell (w := wd) qXt y1, Ext.cell (w := wd) qXt et0⟩ (fun hHeld => ?_)
       clear hK K
       try simp only [Act.put, qa, qb, qc, qD, qE, qF]
       refine wpTail_one (i := 11) qKr rfl rfl (fun K hK => ?_)
       have Ewe : Ext wd ((wd.drew).alloc (.cells #[.int .i64 tv] 3)) := qXt
       have Swe : Ints ((wd.drew).alloc (.cells #[.int .i64 tv] 3)) 0 (.slice (some ⟨wd.heap.size, 0, none⟩) 1 1) [tv] := by simpa using Ints.one wd.drew 0 tv (Nat.zero_le _)
       have Lwd2 := Lwd.trans Ewe
       have zwb := Lwd2.size
       have zL7 := Lw7.size
       have zLd := Lwd.size
       refine step_app rfl (.tmp 89) (.tmp 98) rfl rfl rfl (by exact ((OV.out.ext Lw7).ext Lwd).ext Ewe) (by exact Swe) (by simp only [List.length_cons, List.length_nil, List.length_take]; omega) (by simp <;> omega) ?_
       intro vwe we ho7 hgr hbl hvb
       clear hgr hvb
       replace ho7 : OwnI we wa.heap.size vwe ((turnV s t ord).take (k+1)) := by rw [hnx.out]; exact ho7
       obtain ⟨px, cx, rfl⟩ : ∃ a c, vwe = .slice a (k + 1) c := by obtain ⟨a, c, h⟩ := (ho7.ints (by rw [List.length_take]; omega)).form; exact ⟨a, c, by rw [h, List.length_take, turnV_len]; congr 1; omega⟩
       have Xwe : Ext w we := Ext.below (Xwd.trans Ewe) hbl (by omega)
       have KK : Chg gy (gy + 1) wa we := Chg.below (KC.ext (Lw7.trans Lwd2)) hbl
       replace b0 := below_cell hbl (by omega) (Ewe.cell b0)
       replace b1 := below_cell hbl (by omega) (Ewe.cell b1)
       replace q0 := below_cell hbl (by omega) (Ewe.cell q0)
       replace f_q0 := below_frz hbl (by omega) (Ewe.frz z_q f_q0)
       replace q1 := below_cell hbl (by omega) (Ewe.cell q1)
       replace f_q1 := below_frz hbl (by omega) (Ewe.frz z_q f_q1)
       replace y0 := below_cell hbl (by omega) (Ewe.cell y0)
       replace f_y0 := below_frz hbl (by omega) (Ewe.frz z_y f_y0)
       replace y1 := below_cell hbl (by omega) (Ewe.cell y1)
       replace f_y1 := below_frz hbl (by omega) (Ewe.frz z_y f_y1)
       replace et0 := below_cell hbl (by omega) (Ewe.cell et0)
       have z_b : w.heap.size < we.heap.size := qB b0
       have z_q : w.heap.size + 1 < we.heap.size := qB q0
       have z_y : gy < we.heap.size := qB y0
       have z_et : bt < we.heap.size := qB et0
       clear hbl Ewe Swe
       have s_we : w.heap.size ≤ we.heap.size := Xwe.size
       refine hK.out _ _ ⟨b0, b1, y1, et0⟩ (fun hHeld => ?_)
       clear hK K
       try simp only [Act.put, qa, qb, qc, qD, qE, qF]
       refine qTk (v := ?_) 12 rfl (.inl ⟨by rfl, ?_⟩) ?_
       rotate_left
       ·
        (intro w hSw; (try dsimp only at hSw); go_simp; try with_reducible rfl)
       try simp only [Act.put, qa, qb, qc, qD, qE, qF]
       refine wpTail_last (i := 13) qKr rfl rfl (fun K hK => ?_)
       try simp only [Act.put, qa, qb, qc, qD, qE, qF]
       go_simp
       refine hK.out _ _ ?_
       clear hK K
       try simp only [Act.put, qa, qb, qc, qD, qE, qF]
       refine wpTail_done qKr ?_ _
       clear hHeld
       go_wp2_with fail
       go_roundw
       case rel => exact ⟨k + 1, px, cx, by first | rfl | go_num, by omega, ho7.chg (Chg.setCell (p := ⟨gy, 1, none⟩) (Chg.refl gy (gy + 1) _) (Nat.le_refl _) (Nat.lt_succ_self _) _) (by omega), by go_simp, by go_simp, by go_simp, by go_simp, Chg.setCell (p := ⟨gy, 1, none⟩) KK (Nat.le_refl _) (Nat.lt_succ_self _) _⟩
       case measure => simp [intOf]; omega
    ·
     obtain rfl : k = N := by omega
     have hkI : ¬ (k : Int) < (k : Int) := by omega
     have hfull : (turnV s t ord).take k = turnV s t ord := List.take_of_length_le (by rw [turnV_len]; omega)
     replace OV := OV.out
     rw [hfull] at OV
     clear hfull
     have iS7 := iS.out
     clear iS
     go_wp2_with fail
     generalize hW3 : ((wb.setCell ⟨w.heap.size + 1, 0, none⟩ (.slice pv ord.length cv)).setCell ⟨w.heap.size + 1, 1, none⟩ (.slice pw k cw)) = w4 at *
     have Kw4 : Chg (w.heap.size + 1) (w.heap.size + 1 + 1) wb w4 := by subst hW3; exact qCh
     have Xw4 : Ext w w4 := by subst hW3; exact qXt
     replace b0 := Kw4.cell (by omega) b0
     replace b1 := Kw4.cell (by omega) b1
     replace q0 : w4.cell? ⟨w.heap.size + 1, 0, none⟩ = some (.slice pv ord.length cv) := by subst hW3; go_simp
     replace f_q0 : w4.frozen? ⟨w.heap.size + 1, 0, none⟩ = false := by subst hW3; first | (simp only [World.frozen?_setCell]; with_reducible assumption) | go_simp
     replace q1 : w4.cell? ⟨w.heap.size + 1, 1, none⟩ = some (.slice pw k cw) := by subst hW3; go_simp
     replace f_q1 : w4.frozen? ⟨w.heap.size + 1, 1, none⟩ = false := by subst hW3; first | (simp only [World.frozen?_setCell]; with_reducible assumption) | go_simp
     replace y0 := Kw4.cell (by omega) y0
     replace f_y0 := Kw4.frzO (by omega) z_y f_y0
     replace y1 := Kw4.cell (by omega) y1
     replace f_y1 := Kw4.frzO (by omega) z_y f_y1
     replace OV := OV.chg Kw4 (by omega)
     replace iS7 := iS7.chg Kw4 (by omega)
     clear Kw4
     have z_b : w.heap.size < w4.heap.size := qB b0
     have z_q : w.heap.size + 1 < w4.heap.size := qB q0
     have z_y : gy < w4.heap.size := qB y0
     have s_w4 : w.heap.size ≤ w4.heap.size := Xw4.size
     clear hW3
     refine bodyPost_ret (v := .agg #[.slice pv ord.length cv, .slice pw k cw]) (by simp only [results, Try.results17]; go_simp) rfl ?_
     exact ⟨pv, pw, cv, cw, by rw [hSl, turnV_len, show (countL (takL s ord)).toNat = k by omega], by rw [hSl]; exact iS7.lower (by omega), by rw [turnV_len, show (countL (takL s ord)).toNat = k by omega]; exact (OV.ints (by rw [turnV_len]; omega)).lower (by omega), Xw4⟩

end Go.Proofs.Ytpgkhjmboiepcaa

/- Walks: a memory and a view are drawn for TensorOf. No condition. -/
namespace Go.Proofs.Ytpgkhjmboiepcaa
open Go.RowKit
set_option linter.unusedVariables false
set_option maxRecDepth 100000

set_option maxHeartbeats 3200000 in
theorem drawTensorOf_c (a : Option Addr) (n cap : Nat) (w : World) (hb : BysIn w a n cap) :
    Calls Try.prog 8 #[.slice a n cap] w (PMemView w) := by
  go_enter Try.func8, Try.ntmps8
  go_wp2_with fail
  refine (newReader_c a n cap _ (hb.ext qXt)).mono ?_
  rintro e w1 ⟨rfl, hr, x1⟩
  simp only [World.size_alloc] at hr
  have X1 : Ext w w1 := Ext.trans qXt x1
  have q0 : w1.cell? ⟨w.heap.size, 0, none⟩ = some (.int .i64 0) := x1.cell (by simp)
  have q1 : w1.cell? ⟨w.heap.size, 1, none⟩ = some (.slice none 0 0) := x1.cell (by simp)
  have q2 : w1.cell? ⟨w.heap.size, 2, none⟩ = some (.slice none 0 0) := x1.cell (by simp)
  have f0 : w1.frozen? ⟨w.heap.size, 0, none⟩ = false := x1.frz (by simp) (by simp)
  have f1 : w1.frozen? ⟨w.heap.size, 1, none⟩ = false := x1.frz (by simp) (by simp)
  have f2 : w1.frozen? ⟨w.heap.size, 2, none⟩ = false := x1.frz (by simp) (by simp)
  have z1 := hr.lt
  clear hb x1
  go_wp2_with fail
  refine (memView_c _ 0 _ hr (by omega)).mono ?_
  rintro e w2 ⟨⟨mem, p0, n0, r0, b, s, t, p1, p2, n1, r1, n2, r2, rfl, hml, i0, i1, i2, l1, l2⟩, hr2, C⟩
  have X2 : Ext w w2 := Rch.toExt' C (by omega) X1
  replace q0 := C.cell (.inl (by omega)) q0
  replace q1 := C.cell (.inl (by omega)) q1
  replace q2 := C.cell (.inl (by omega)) q2
  replace f0 := C.frzO (.inl (by omega)) (by omega) f0
  replace f1 := C.frzO (.inl (by omega)) (by omega) f1
  replace f2 := C.frzO (.inl (by omega)) (by omega) f2
  have z2 : w.heap.size < w2.heap.size := qB q0
  clear C X1 hr
  go_wp2_with fail
  refine bodyPost_ret (v := .tuple #[.slice p0 n0 r0, .agg #[.int .i64 b, .slice p1 n1 r1, .slice p2 n2 r2]]) (by simp only [results, Try.results8]; go_simp) rfl ?_
  have K := Chg.three (lo := w.heap.size) w2 (.int .i64 b) (.slice p1 n1 r1) (.slice p2 n2 r2)
  replace i0 := i0.chg K (by omega)
  replace i1 := i1.chg K (by omega)
  replace i2 := i2.chg K (by omega)
  have X9 : Ext w (((w2.setCell ⟨w.heap.size, 0, none⟩ (.int .i64 b)).setCell ⟨w.heap.size, 1, none⟩ (.slice p1 n1 r1)).setCell ⟨w.heap.size, 2, none⟩ (.slice p2 n2 r2)) := Ext.chg (lo := w.heap.size) (hi := w.heap.size + 1) X2 K (Nat.le_refl _)
  exact ⟨⟨mem, p0, n0, r0, b, s, t, p1, p2, n1, r1, n2, r2, rfl, hml, i0.lower (by omega), i1.lower (by omega), i2.lower (by omega), l1, l2⟩, X9⟩

end Go.Proofs.Ytpgkhjmboiepcaa

/- Walks: equalTensor of two equal tensors. No condition. -/
namespace Go.Proofs.Ytpgkhjmboiepcaa
open Go.RowKit
set_option linter.unusedVariables false
set_option maxRecDepth 100000

set_option maxHeartbeats 1600000 in
theorem leqTensor_c (x : Ten) (u1 v1 u2 v2 : Value) (w : World) (l1 l2 l3 l4 : Nat) (h1 : Ints w l1 u1 x.s) (h2 : Ints w l2 v1 x.t) (h3 : Ints w l3 u2 x.s) (h4 : Ints w l4 v2 x.t) :
    Calls Try.prog 11 #[.agg #[u1, v1], .agg #[u2, v2]] w fun e w' => e = .returned (.bool true) ∧ Ext w w' := by
  obtain ⟨s, t⟩ := x
  dsimp only at h1 h2 h3 h4
  obtain ⟨a1, c1, rfl⟩ := h1.form
  obtain ⟨a2, c2, rfl⟩ := h2.form
  obtain ⟨a3, c3, rfl⟩ := h3.form
  obtain ⟨a4, c4, rfl⟩ := h4.form
  go_enter Try.func11, Try.ntmps11
  go_wp2_with fail
  refine (leqInts_c s _ _ _ _ _ (h1.ext qXt) (h3.ext qXt)).mono ?_
  rintro e w1 ⟨rfl, x1⟩
  have X1 : Ext w w1 := Ext.trans qXt x1
  have k0 : w1.cell? ⟨w.heap.size, 1, none⟩ = some (.slice a2 t.length c2) := x1.cell qCl
  have k1 : w1.cell? ⟨w.heap.size + 1, 1, none⟩ = some (.slice a4 t.length c4) := x1.cell qCl
  replace h2 := h2.ext X1
  replace h4 := h4.ext X1
  clear x1 h1 h3
  go_wp2_with fail
  refine (leqInts_c t _ _ _ _ _ (h2.ext qXt) (h4.ext qXt)).mono ?_
  rintro e w2 ⟨rfl, x2⟩
  have X2 : Ext w w2 := X1.trans (Ext.trans qXt x2)
  go_wp2_with fail
  go_ret
  exact ⟨rfl, X2.trans qXt⟩
end Go.Proofs.Ytpgkhjmboiepcaa

/- Walks: bounds of the reference. -/
namespace Go.Proofs.Ytpgkhjmboiepcaa
open Go.RowKit
set_option linter.unusedVariables false
set_option maxRecDepth 100000


end Go.Proofs.Ytpgkhjmboiepcaa

/- Walks: values that are stored, of the program and of the reference. -/
namespace Go.Proofs.Ytpgkhjmboiepcaa
open Go.RowKit
set_option linter.unusedVariables false
set_option maxRecDepth 100000


theorem PIntsB.nil {w w' : World} (h : Ext w w') : PIntsB w [] false (.returned (.tuple #[.slice none 0 0, .bool false])) w' :=
  ⟨_, rfl, Ints.nil _ _ _ _ (by simp) (fun _ => rfl), .inl ⟨rfl, none, 0, rfl, by simp, fun _ => rfl⟩, h⟩
end Go.Proofs.Ytpgkhjmboiepcaa

/- Walks: values that are added, of the reference. -/
namespace Go.Proofs.Ytpgkhjmboiepcaa
open Go.RowKit
set_option linter.unusedVariables false
set_option maxRecDepth 100000

end Go.Proofs.Ytpgkhjmboiepcaa

/- Walks: drawn values for a view of a memory. -/
namespace Go.Proofs.Ytpgkhjmboiepcaa
open Go.RowKit
set_option linter.unusedVariables false
set_option maxRecDepth 100000

end Go.Proofs.Ytpgkhjmboiepcaa

/- Walks: a view and an index are drawn. -/
namespace Go.Proofs.Ytpgkhjmboiepcaa
open Go.RowKit
set_option linter.unusedVariables false
set_option maxRecDepth 100000

end Go.Proofs.Ytpgkhjmboiepcaa

/- Walks: a view and an order are drawn. -/
namespace Go.Proofs.Ytpgkhjmboiepcaa
open Go.RowKit
set_option linter.unusedVariables false
set_option maxRecDepth 100000

end Go.Proofs.Ytpgkhjmboiepcaa

/- FnTensorOf returns true. -/
namespace Go.Proofs.Ytpgkhjmboiepcaa
open Go.RowKit
set_option linter.unusedVariables false
set_option maxRecDepth 100000

theorem hold_ten {mem : List Int} {b : Int} {s t : List Int} (h : holdB mem b s t = true) : tenB s (loadL mem b s t) = true := by
 obtain ⟨h1, h2, h3⟩ := hold_in h
 have h4 := shapeB_in (viewB_in h2).1
 unfold memB at h1
 simp only [Bool.and_eq_true, decide_eq_true_eq, List.all_eq_true, inB] at h1
 unfold tenB loadL
 rw [(viewB_in h2).1, takL_len, offs_count, decide_eq_true (by omega)]
 simp only [Bool.and_self, Bool.true_and, List.all_eq_true]
 intro x hx
 unfold takL at hx
 obtain ⟨i, hi, rfl⟩ := List.mem_map.1 hx
 have h5 := h3 i hi
 have h6 := h1.2 _ (getD_mem (s := mem) (d := i.toNat) (by omega))
 unfold inB
 rw [decide_eq_true]
 omega
theorem hold_perm {mem : List Int} {b : Int} {s t ord : List Int} (h : holdB mem b s t = true) (ho : orderB ord s.length = true) : holdB mem b (takL s ord) (takL t ord) = true := by
 obtain ⟨h1, h2, h3⟩ := hold_in h
 obtain ⟨g1, g2⟩ := perm_view h2 ho
 unfold holdB fitB
 rw [h1, g1]
 simp only [Bool.true_and, List.all_eq_true, decide_eq_true_eq]
 intro x hx
 exact (h3 x (g2.mem_iff.1 hx)).2
theorem back_order (n : Nat) : orderB (upL n).reverse n = true := by
 unfold orderB
 simp only [Bool.and_eq_true, decide_eq_true_eq, List.all_eq_true, List.length_reverse, List.mem_reverse, inB]
 refine ⟨by simp [upL], fun x hx => ?_, (List.reverse_perm _).nodup_iff.2 (upL_nodup n)⟩
 have := (upL_mem n x).1 hx
 omega
theorem permV_yes {b : Int} {s t ord : List Int} (h : viewB b s t = true) (ho : orderB ord s.length = true) : permV b s t ord = (b, takL s ord, takL t ord, true) := by
 have h2 := (perm_view h ho).1
 unfold permV
 rw [h, ho]
 simp only [Bool.and_self, if_true]
 unfold madeV
 rw [h2]; rfl
theorem implTo_e {mem : List Int} {a0 : Value} {b1 : Int} {u1 v1 : Value} {s1 t1 : List Int} {w : World} {l0 l1 m1 : Nat} {x : Ten} {o : Bool} (hx : tofA mem b1 s1 t1 = x) (ho : holdB mem b1 s1 t1 = o) (h0 : Ints w l0 a0 mem) (h1 : Ints w l1 u1 s1) (k1 : Ints w m1 v1 t1) :
  Calls Try.prog 9 #[a0, .agg #[.int .i64 b1, u1, v1]] w (PTof w x o) := by
 subst hx; subst ho; exact implTensorOf_c mem a0 b1 u1 v1 s1 t1 w l0 l1 m1 h0 h1 k1
theorem specTo_e {mem : List Int} {a0 : Value} {b1 : Int} {u1 v1 : Value} {s1 t1 : List Int} {w : World} {l0 l1 m1 : Nat} {x : Ten} {o : Bool} (hx : tofA mem b1 s1 t1 = x) (ho : holdB mem b1 s1 t1 = o) (h0 : Ints w l0 a0 mem) (h1 : Ints w l1 u1 s1) (k1 : Ints w m1 v1 t1) :
  Calls Try.prog 10 #[a0, .agg #[.int .i64 b1, u1, v1]] w (PTof w x o) := by
 subst hx; subst ho; exact specTensorOf_c mem a0 b1 u1 v1 s1 t1 w l0 l1 m1 h0 h1 k1
theorem back_e {xs ys : List Int} {v : Value} {w : World} {lo : Nat} (h : xs.reverse = ys) (hv : Ints w lo v xs) : Calls Try.prog 12 #[v] w (PInts w ys) := by subst h; exact back_c xs v w lo hv
theorem perm_e {b : Int} {u v : Value} {s t : List Int} {v3 : Value} {ord : List Int} {w : World} {l1 m1 l3 : Nat} {S T : List Int} (he : permV b s t ord = (b, S, T, true)) (h1 : Ints w l1 u s) (k1 : Ints w m1 v t) (h3 : Ints w l3 v3 ord) :
  Calls Try.prog 14 #[.agg #[.int .i64 b, u, v], v3] w (PViewB w b S T true) := by
 have := implPermuteDims_c b u v s t v3 ord w l1 m1 h1 k1 l3 h3
 rw [he] at this; exact this
theorem load_e {mem : List Int} {a0 : Value} {b : Int} {u v : Value} {s t : List Int} {w : World} {l0 l1 m1 : Nat} {L : List Int} (he : loadA mem b s t = L) (h0 : Ints w l0 a0 mem) (h1 : Ints w l1 u s) (k1 : Ints w m1 v t) :
  Calls Try.prog 16 #[a0, .agg #[.int .i64 b, u, v]] w (PInts w L) := by subst he; exact implLoadView_c mem a0 b u v s t w l0 l1 m1 h0 h1 k1
set_option maxHeartbeats 12800000 in
theorem lawFnTensorOf_c (a : Option Addr) (n cap : Nat) (w : World) (hb : BysIn w a n cap) :
  Calls Try.prog 3 #[.slice a n cap] w fun e w' => e = .returned (.bool true) ∧ Ext w w' := by
 have hcm := hb.1
 have hcm2 := hb.2.1
 unfold maxLen at hcm2
 go_enter Try.func3, Try.ntmps3
 by_cases hc1 : (1048576 : Int) < (n : Int)
 ·
  go_wp2_with fail
  go_ret
  exact ⟨rfl, qXo⟩
 ·
  skip
  go_wp2_with fail
  refine (drawTensorOf_c a n cap _ hb).mono ?_
  rintro e w1 ⟨⟨mem, p0, n0, r0, b, s, t, p1, p2, n1, r1, n2, r2, rfl, l0, i0, i1, i2, l1, l2⟩, xw1⟩
  have Lw1 : Ext w w1 := Ext.trans qXt xw1
  have Xw1 : Ext w w1 := Lw1
  have s_w1 : w.heap.size ≤ w1.heap.size := Xw1.size
  clear xw1
  obtain rfl := i0.len_eq
  obtain rfl := i1.len_eq
  obtain rfl := i2.len_eq
  clear hb
  cases hh : holdB mem b s t
  ·
   obtain ⟨x, hx⟩ : ∃ x, tofA mem b s t = x := ⟨_, rfl⟩
   replace hx := Lib.hid hx
   replace hh := Lib.hid hh
   go_wp2_with fail
   refine (implTo_e hx.out hh.out (i0.ext qXt) (i1.ext qXt) (i2.ext qXt)).mono ?_
   rintro e w2 ⟨u1, u2, c1, c2, rfl, j1, j2, xw2⟩
   have Lw2 : Ext w1 w2 := Ext.trans qXt xw2
   have Xw2 : Ext w w2 := Xw1.trans Lw2
   have v0 : w2.cell? ⟨w1.heap.size, 0, none⟩ = some (.int .i64 b) := xw2.cell qCl
   have v1 : w2.cell? ⟨w1.heap.size, 1, none⟩ = some (.slice p1 s.length r1) := xw2.cell qCl
   have v2 : w2.cell? ⟨w1.heap.size, 2, none⟩ = some (.slice p2 t.length r2) := xw2.cell qCl
   have z_v : w1.heap.size < w2.heap.size := qB v0
   replace i0 := i0.ext Lw2
   replace i1 := i1.ext Lw2
   replace i2 := i2.ext Lw2
   have s_w2 : w.heap.size ≤ w2.heap.size := Xw2.size
   clear xw2
   go_wp2_with fail
   refine (specTo_e hx.out hh.out (i0.ext qXt) (i1.ext qXt) (i2.ext qXt)).mono ?_
   rintro e w3 ⟨u3, u4, c3, c4, rfl, j3, j4, xw3⟩
   have Lw3 : Ext w2 w3 := Ext.trans qXt xw3
   have Xw3 : Ext w w3 := Xw2.trans Lw3
   replace v0 := Lw3.cell v0
   replace v1 := Lw3.cell v1
   replace v2 := Lw3.cell v2
   have x0 : w3.cell? ⟨w2.heap.size, 0, none⟩ = some (.slice u1 x.s.length c1) := xw3.cell qCl
   have x1 : w3.cell? ⟨w2.heap.size, 1, none⟩ = some (.slice u2 x.t.length c2) := xw3.cell qCl
   have z_v : w1.heap.size < w3.heap.size := qB v0
   have z_x : w2.heap.size < w3.heap.size := qB x0
   replace i0 := i0.ext Lw3
   replace i1 := i1.ext Lw3
   replace i2 := i2.ext Lw3
   replace j1 := j1.ext Lw3
   replace j2 := j2.ext Lw3
   have s_w3 : w.heap.size ≤ w3.heap.size := Xw3.size
   clear xw3
   go_wp2_with fail
   refine (leqTensor_c x _ _ _ _ _ _ _ _ _ (j1.ext qXt) (j2.ext qXt) (j3.ext qXt) (j4.ext qXt)).mono ?_
   rintro e w4 ⟨rfl, xw4⟩
   have Lw4 : Ext w3 w4 := Ext.trans qXt xw4
   have Xw4 : Ext w w4 := Xw3.trans Lw4
   replace v0 := Lw4.cell v0
   replace v1 := Lw4.cell v1
   replace v2 := Lw4.cell v2
   replace x0 := Lw4.cell x0
   replace x1 := Lw4.cell x1
   have y0 : w4.cell? ⟨w3.heap.size, 0, none⟩ = some (.slice u3 x.s.length c3) := xw4.cell qCl
   have y1 : w4.cell? ⟨w3.heap.size, 1, none⟩ = some (.slice u4 x.t.length c4) := xw4.cell qCl
   have z_v : w1.heap.size < w4.heap.size := qB v0
   have z_x : w2.heap.size < w4.heap.size := qB x0
   have z_y : w3.heap.size < w4.heap.size := qB y0
   replace i0 := i0.ext Lw4
   replace i1 := i1.ext Lw4
   replace i2 := i2.ext Lw4
   replace j1 := j1.ext Lw4
   replace j2 := j2.ext Lw4
   replace j3 := j3.ext Lw4
   replace j4 := j4.ext Lw4
   have s_w4 : w.heap.size ≤ w4.heap.size := Xw4.size
   clear xw4
   go_wp2_with fail
   refine (leqTensor_c x _ _ _ _ _ _ _ _ _ (j1.ext qXt) (j2.ext qXt) (j3.ext qXt) (j4.ext qXt)).mono ?_
   rintro e w5 ⟨rfl, xw5⟩
   have Lw5 : Ext w4 w5 := Ext.trans qXt xw5
   have Xw5 : Ext w w5 := Xw4.trans Lw5
   replace v0 := Lw5.cell v0
   replace v1 := Lw5.cell v1
   replace v2 := Lw5.cell v2
   replace x0 := Lw5.cell x0
   replace x1 := Lw5.cell x1
   replace y0 := Lw5.cell y0
   replace y1 := Lw5.cell y1
   have z_v : w1.heap.size < w5.heap.size := qB v0
   have z_x : w2.heap.size < w5.heap.size := qB x0
   have z_y : w3.heap.size < w5.heap.size := qB y0
   replace i0 := i0.ext Lw5
   replace i1 := i1.ext Lw5
   replace i2 := i2.ext Lw5
   replace j1 := j1.ext Lw5
   replace j2 := j2.ext Lw5
   replace j3 := j3.ext Lw5
   replace j4 := j4.ext Lw5
   have s_w5 : w.heap.size ≤ w5.heap.size := Xw5.size
   clear xw5
   go_wp2_with fail
   go_ret
   exact ⟨rfl, (Xw5.trans qXt)⟩
  ·
   have hvw := (hold_in hh).2.1
   have htb := hold_ten hh
   obtain ⟨od, hod⟩ : ∃ od, (upL s.length).reverse = od := ⟨_, rfl⟩
   have hob : orderB od s.length = true := hod ▸ back_order s.length
   have hh2 := hold_perm hh hob
   have hpv := permV_yes hvw hob
   have htl := turn_law (mem := mem) hvw (viewB_in hvw).2.1 hob
   have hx := tofA_yes hh
   have hx2 := tofA_yes hh2
   have hla : loadA mem b s t = loadL mem b s t := by unfold loadA; rw [hh]; rfl
   obtain ⟨L, hL⟩ : ∃ L, loadL mem b s t = L := ⟨_, rfl⟩
   obtain ⟨S, hS⟩ : ∃ S, takL s od = S := ⟨_, rfl⟩
   obtain ⟨T, hT⟩ : ∃ T, takL t od = T := ⟨_, rfl⟩
   rw [hL] at hx hla htb htl
   rw [hS, hT] at hpv hh2 hx2 htl
   obtain ⟨L2, hL2⟩ : ∃ L2, loadL mem b S T = L2 := ⟨_, rfl⟩
   rw [hL2] at hx2 htl
   replace hh := Lib.hid hh
   replace hh2 := Lib.hid hh2
   replace hx := Lib.hid hx
   replace hx2 := Lib.hid hx2
   replace hla := Lib.hid hla
   replace htb := Lib.hid htb
   replace htl := Lib.hid htl
   replace hob := Lib.hid hob
   replace hod := Lib.hid hod
   replace hpv := Lib.hid hpv
   replace hS := Lib.hid hS
   clear hL hT hL2 hvw
   go_wp2_with fail
   refine (implTo_e hx.out hh.out (i0.ext qXt) (i1.ext qXt) (i2.ext qXt)).mono ?_
   rintro e w2 ⟨u1, u2, c1, c2, rfl, j1, j2, xw2⟩
   have Lw2 : Ext w1 w2 := Ext.trans qXt xw2
   have Xw2 : Ext w w2 := Xw1.trans Lw2
   have v0 : w2.cell? ⟨w1.heap.size, 0, none⟩ = some (.int .i64 b) := xw2.cell qCl
   have v1 : w2.cell? ⟨w1.heap.size, 1, none⟩ = some (.slice p1 s.length r1) := xw2.cell qCl
   have v2 : w2.cell? ⟨w1.heap.size, 2, none⟩ = some (.slice p2 t.length r2) := xw2.cell qCl
   have z_v : w1.heap.size < w2.heap.size := qB v0
   replace i0 := i0.ext Lw2
   replace i1 := i1.ext Lw2
   replace i2 := i2.ext Lw2
   have s_w2 : w.heap.size ≤ w2.heap.size := Xw2.size
   clear xw2
   go_wp2_with fail
   refine (specTo_e hx.out hh.out (i0.ext qXt) (i1.ext qXt) (i2.ext qXt)).mono ?_
   rintro e w3 ⟨u3, u4, c3, c4, rfl, j3, j4, xw3⟩
   have Lw3 : Ext w2 w3 := Ext.trans qXt xw3
   have Xw3 : Ext w w3 := Xw2.trans Lw3
   replace v0 := Lw3.cell v0
   replace v1 := Lw3.cell v1
   replace v2 := Lw3.cell v2
   have x0 : w3.cell? ⟨w2.heap.size, 0, none⟩ = some (.slice u1 s.length c1) := xw3.cell qCl
   have x1 : w3.cell? ⟨w2.heap.size, 1, none⟩ = some (.slice u2 L.length c2) := xw3.cell qCl
   have z_v : w1.heap.size < w3.heap.size := qB v0
   have z_x : w2.heap.size < w3.heap.size := qB x0
   replace i0 := i0.ext Lw3
   replace i1 := i1.ext Lw3
   replace i2 := i2.ext Lw3
   replace j1 := j1.ext Lw3
   replace j2 := j2.ext Lw3
   have s_w3 : w.heap.size ≤ w3.heap.size := Xw3.size
   clear xw3
   go_wp2_with fail
   refine (leqTensor_c ⟨s, L⟩ _ _ _ _ _ _ _ _ _ (j1.ext qXt) (j2.ext qXt) (j3.ext qXt) (j4.ext qXt)).mono ?_
   rintro e w4 ⟨rfl, xw4⟩
   have Lw4 : Ext w3 w4 := Ext.trans qXt xw4
   have Xw4 : Ext w w4 := Xw3.trans Lw4
   replace v0 := Lw4.cell v0
   replace v1 := Lw4.cell v1
   replace v2 := Lw4.cell v2
   replace x0 := Lw4.cell x0
   replace x1 := Lw4.cell x1
   have y0 : w4.cell? ⟨w3.heap.size, 0, none⟩ = some (.slice u3 s.length c3) := xw4.cell qCl
   have y1 : w4.cell? ⟨w3.heap.size, 1, none⟩ = some (.slice u4 L.length c4) := xw4.cell qCl
   have z_v : w1.heap.size < w4.heap.size := qB v0
   have z_x : w2.heap.size < w4.heap.size := qB x0
   have z_y : w3.heap.size < w4.heap.size := qB y0
   replace i0 := i0.ext Lw4
   replace i1 := i1.ext Lw4
   replace i2 := i2.ext Lw4
   replace j1 := j1.ext Lw4
   replace j2 := j2.ext Lw4
   replace j3 := j3.ext Lw4
   replace j4 := j4.ext Lw4
   have s_w4 : w.heap.size ≤ w4.heap.size := Xw4.size
   clear xw4
   go_wp2_with fail
   refine (lupTo_c s.length _ (by omega)).mono ?_
   rintro e w5 ⟨v7, rfl, j7, -, xw5⟩
   have Lw5 : Ext w4 w5 := Ext.trans qXt xw5
   have Xw5 : Ext w w5 := Xw4.trans Lw5
   replace v0 := Lw5.cell v0
   replace v1 := Lw5.cell v1
   replace v2 := Lw5.cell v2
   replace x0 := Lw5.cell x0
   replace x1 := Lw5.cell x1
   replace y0 := Lw5.cell y0
   replace y1 := Lw5.cell y1
   have z_v : w1.heap.size < w5.heap.size := qB v0
   have z_x : w2.heap.size < w5.heap.size := qB x0
   have z_y : w3.heap.size < w5.heap.size := qB y0
   replace i0 := i0.ext Lw5
   replace i1 := i1.ext Lw5
   replace i2 := i2.ext Lw5
   replace j1 := j1.ext Lw5
   replace j2 := j2.ext Lw5
   replace j3 := j3.ext Lw5
   replace j4 := j4.ext Lw5
   have s_w5 : w.heap.size ≤ w5.heap.size := Xw5.size
   clear xw5
   go_wp2_with fail
   refine (back_e hod.out (j7.ext qXt)).mono ?_
   rintro e w6 ⟨v8, rfl, j8, -, xw6⟩
   have Lw6 : Ext w5 w6 := Ext.trans qXt xw6
   have Xw6 : Ext w w6 := Xw5.trans Lw6
   replace v0 := Lw6.cell v0
   replace v1 := Lw6.cell v1
   replace v2 := Lw6.cell v2
   replace x0 := Lw6.cell x0
   replace x1 := Lw6.cell x1
   replace y0 := Lw6.cell y0
   replace y1 := Lw6.cell y1
   have z_v : w1.heap.size < w6.heap.size := qB v0
   have z_x : w2.heap.size < w6.heap.size := qB x0
   have z_y : w3.heap.size < w6.heap.size := qB y0
   replace i0 := i0.ext Lw6
   replace i1 := i1.ext Lw6
   replace i2 := i2.ext Lw6
   replace j1 := j1.ext Lw6
   replace j2 := j2.ext Lw6
   replace j3 := j3.ext Lw6
   replace j4 := j4.ext Lw6
   replace j7 := j7.ext Lw6
   have s_w6 : w.heap.size ≤ w6.heap.size := Xw6.size
   clear xw6
   obtain ⟨p8, c8, rfl⟩ := j8.form
   clear j7
   go_wp2_with fail
   refine (perm_e hpv.out (i1.ext qXt) (i2.ext qXt) (j8.ext qXt)).mono ?_
   rintro e w7 ⟨v9, v10, rfl, j9, j10, -, -, -, xw7⟩
   have Lw7 : Ext w6 w7 := Ext.trans qXt xw7
   have Xw7 : Ext w w7 := Xw6.trans Lw7
   replace v0 := Lw7.cell v0
   replace v1 := Lw7.cell v1
   replace v2 := Lw7.cell v2
   replace x0 := Lw7.cell x0
   replace x1 := Lw7.cell x1
   replace y0 := Lw7.cell y0
   replace y1 := Lw7.cell y1
   have z_v : w1.heap.size < w7.heap.size := qB v0
   have z_x : w2.heap.size < w7.heap.size := qB x0
   have z_y : w3.heap.size < w7.heap.size := qB y0
   replace i0 := i0.ext Lw7
   replace i1 := i1.ext Lw7
   replace i2 := i2.ext Lw7
   replace j1 := j1.ext Lw7
   replace j2 := j2.ext Lw7
   replace j3 := j3.ext Lw7
   replace j4 := j4.ext Lw7
   replace j8 := j8.ext Lw7
   have s_w7 : w.heap.size ≤ w7.heap.size := Xw7.size
   clear xw7
   obtain ⟨p9, c9, rfl⟩ := j9.form
   obtain ⟨p10, c10, rfl⟩ := j10.form
   go_wp2_with fail
   refine (implTo_e hx2.out hh2.out (i0.ext qXt) (j9.ext qXt) (j10.ext qXt)).mono ?_
   rintro e w8 ⟨u5, u6, c5, c6, rfl, j11, j12, xw8⟩
   have Lw8 : Ext w7 w8 := Ext.trans qXt xw8
   have Xw8 : Ext w w8 := Xw7.trans Lw8
   replace v0 := Lw8.cell v0
   replace v1 := Lw8.cell v1
   replace v2 := Lw8.cell v2
   replace x0 := Lw8.cell x0
   replace x1 := Lw8.cell x1
   replace y0 := Lw8.cell y0
   replace y1 := Lw8.cell y1
   have z0 : w8.cell? ⟨w7.heap.size, 0, none⟩ = some (.int .i64 b) := xw8.cell qCl
   have z1 : w8.cell? ⟨w7.heap.size, 1, none⟩ = some (.slice p9 S.length c9) := xw8.cell qCl
   have z2 : w8.cell? ⟨w7.heap.size, 2, none⟩ = some (.slice p10 T.length c10) := xw8.cell qCl
   have z_v : w1.heap.size < w8.heap.size := qB v0
   have z_x : w2.heap.size < w8.heap.size := qB x0
   have z_y : w3.heap.size < w8.heap.size := qB y0
   have z_z : w7.heap.size < w8.heap.size := qB z0
   replace i0 := i0.ext Lw8
   replace i1 := i1.ext Lw8
   replace i2 := i2.ext Lw8
   replace j1 := j1.ext Lw8
   replace j2 := j2.ext Lw8
   replace j3 := j3.ext Lw8
   replace j4 := j4.ext Lw8
   replace j8 := j8.ext Lw8
   replace j9 := j9.ext Lw8
   replace j10 := j10.ext Lw8
   have s_w8 : w.heap.size ≤ w8.heap.size := Xw8.size
   clear xw8
   dsimp only at j11 j12 ⊢
   go_wp2_with fail
   generalize hW1 : w8.alloc (.cells #[.slice u5 S.length c5, .slice u6 L2.length c6] 29) = w9 at *
   have Lw9 : Ext w8 w9 := by subst hW1; exact qXt
   have Xw9 : Ext w w9 := Xw8.trans Lw9
   replace v0 := Lw9.cell v0
   replace v1 := Lw9.cell v1
   replace v2 := Lw9.cell v2
   replace x0 := Lw9.cell x0
   replace x1 := Lw9.cell x1
   replace y0 := Lw9.cell y0
   replace y1 := Lw9.cell y1
   replace z0 := Lw9.cell z0
   replace z1 := Lw9.cell z1
   replace z2 := Lw9.cell z2
   have q0 : w9.cell? ⟨w8.heap.size, 0, none⟩ = some (.slice u5 S.length c5) := by subst hW1; exact qCl
   have q1 : w9.cell? ⟨w8.heap.size, 1, none⟩ = some (.slice u6 L2.length c6) := by subst hW1; exact qCl
   have z_v : w1.heap.size < w9.heap.size := qB v0
   have z_x : w2.heap.size < w9.heap.size := qB x0
   have z_y : w3.heap.size < w9.heap.size := qB y0
   have z_z : w7.heap.size < w9.heap.size := qB z0
   have z_q : w8.heap.size < w9.heap.size := qB q0
   replace i0 := i0.ext Lw9
   replace i1 := i1.ext Lw9
   replace i2 := i2.ext Lw9
   replace j1 := j1.ext Lw9
   replace j2 := j2.ext Lw9
   replace j3 := j3.ext Lw9
   replace j4 := j4.ext Lw9
   replace j8 := j8.ext Lw9
   replace j9 := j9.ext Lw9
   replace j10 := j10.ext Lw9
   replace j11 := j11.ext Lw9
   replace j12 := j12.ext Lw9
   have s_w9 : w.heap.size ≤ w9.heap.size := Xw9.size
   clear hW1
   go_wp2_with fail
   refine wp_region_tail (S := fun w' => w'.cell? ⟨w1.heap.size, 0, none⟩ = some (.int .i64 b) ∧ w'.cell? ⟨w1.heap.size, 1, none⟩ = some (.slice p1 s.length r1) ∧ w'.cell? ⟨w1.heap.size, 2, none⟩ = some (.slice p2 t.length r2) ∧ w'.cell? ⟨w2.heap.size, 0, none⟩ = some (.slice u1 s.length c1) ∧ w'.cell? ⟨w2.heap.size, 1, none⟩ = some (.slice u2 L.length c2) ∧ w'.cell? ⟨w3.heap.size, 0, none⟩ = some (.slice u3 s.length c3) ∧ w'.cell? ⟨w3.heap.size, 1, none⟩ = some (.slice u4 L.length c4) ∧ w'.cell? ⟨w7.heap.size, 0, none⟩ = some (.int .i64 b) ∧ w'.cell? ⟨w7.heap.size, 1, none⟩ = some (.slice p9 S.length c9) ∧ w'.cell? ⟨w7.heap.size, 2, none⟩ = some (.slice p10 T.length c10) ∧ w'.cell? ⟨w8.heap.size, 0, none⟩ = some (.slice u5 S.length c5) ∧ w'.cell? ⟨w8.heap.size, 1, none⟩ = some (.slice u6 L2.length c6)) (fun i => decide (27 ≤ i)) qKr ⟨v0, v1, v2, x0, x1, y0, y1, z0, z1, z2, q0, q1⟩ (fun hHeld => ?_)
   refine qTk (v := ?_) 0 rfl (.inl ⟨by rfl, ?_⟩) ?_
   rotate_left
   ·
    (intro w hSw; (try dsimp only at hSw); go_simp; try with_reducible rfl)
   try simp only [Act.put, qa, qb, qc, qD, qE, qF]
   refine qTk (v := ?_) 1 rfl (.inl ⟨by rfl, ?_⟩) ?_
   rotate_left
   ·
    (intro w hSw; (try dsimp only at hSw); go_simp; try with_reducible rfl)
   try simp only [Act.put, qa, qb, qc, qD, qE, qF]
   refine qTk (v := ?_) 2 rfl (.inl ⟨by rfl, ?_⟩) ?_
   rotate_left
   ·
    (intro w hSw; (try dsimp only at hSw); go_simp; try with_reducible rfl)
   try simp only [Act.put, qa, qb, qc, qD, qE, qF]
   refine qTk (v := ?_) 3 rfl (.inl ⟨by rfl, ?_⟩) ?_
   rotate_left
   ·
    (intro w hSw; (try dsimp only at hSw); go_simp; try with_reducible rfl)
   try simp only [Act.put, qa, qb, qc, qD, qE, qF]
   refine wpTail_one (i := 4) qKr rfl rfl (fun K hK => ?_)
   try simp only [Act.put, qa, qb, qc, qD, qE, qF]
   go_simp
   refine (load_e hla.out (i0.ext qXt) (i1.ext qXt) (i2.ext qXt)).mono ?_
   rintro e w10 ⟨v13, rfl, j13, -, xw10⟩
   have Lw10 : Ext w9 w10 := Ext.trans qXt xw10
   have Xw10 : Ext w w10 := Xw9.trans Lw10
   replace v0 := Lw10.cell v0
   replace v1 := Lw10.cell v1
   replace v2 := Lw10.cell v2
   replace x0 := Lw10.cell x0
   replace x1 := Lw10.cell x1
   replace y0 := Lw10.cell y0
   replace y1 := Lw10.cell y1
   replace z0 := Lw10.cell z0
   replace z1 := Lw10.cell z1
   replace z2 := Lw10.cell z2
   replace q0 := Lw10.cell q0
   replace q1 := Lw10.cell q1
   have z_v : w1.heap.size < w10.heap.size := qB v0
   have z_x : w2.heap.size < w10.heap.size := qB x0
   have z_y : w3.heap.size < w10.heap.size := qB y0
   have z_z : w7.heap.size < w10.heap.size := qB z0
   have z_q : w8.heap.size < w10.heap.size := qB q0
   replace i0 := i0.ext Lw10
   replace i1 := i1.ext Lw10
   replace i2 := i2.ext Lw10
   replace j1 := j1.ext Lw10
   replace j2 := j2.ext Lw10
   replace j3 := j3.ext Lw10
   replace j4 := j4.ext Lw10
   replace j8 := j8.ext Lw10
   replace j9 := j9.ext Lw10
   replace j10 := j10.ext Lw10
   replace j11 := j11.ext Lw10
   replace j12 := j12.ext Lw10
   have s_w10 : w.heap.size ≤ w10.heap.size := Xw10.size
   clear xw10
   refine hK.out _ _ ⟨v0, v1, v2, x0, x1, y0, y1, z0, z1, z2, q0, q1⟩ (fun hHeld => ?_)
   clear hK K
   try simp only [Act.put, qa, qb, qc, qD, qE, qF]
   refine wpTail_one (i := 5) qKr rfl rfl (fun K hK => ?_)
   try simp only [Act.put, qa, qb, qc, qD, qE, qF]
   go_simp
   refine (leqInts_c L _ _ _ _ _ (j2.ext qXt) (j13.ext qXt)).mono ?_
   rintro e w11 ⟨rfl, xw11⟩
   have Lw11 : Ext w10 w11 := Ext.trans qXt xw11
   have Xw11 : Ext w w11 := Xw10.trans Lw11
   replace v0 := Lw11.cell v0
   replace v1 := Lw11.cell v1
   replace v2 := Lw11.cell v2
   replace x0 := Lw11.cell x0
   replace x1 := Lw11.cell x1
   replace y0 := Lw11.cell y0
   replace y1 := Lw11.cell y1
   replace z0 := Lw11.cell z0
   replace z1 := Lw11.cell z1
   replace z2 := Lw11.cell z2
   replace q0 := Lw11.cell q0
   replace q1 := Lw11.cell q1
   have z_v : w1.heap.size < w11.heap.size := qB v0
   have z_x : w2.heap.size < w11.heap.size := qB x0
   have z_y : w3.heap.size < w11.heap.size := qB y0
   have z_z : w7.heap.size < w11.heap.size := qB z0
   have z_q : w8.heap.size < w11.heap.size := qB q0
   replace i0 := i0.ext Lw11
   replace i1 := i1.ext Lw11
   replace i2 := i2.ext Lw11
   replace j1 := j1.ext Lw11
   replace j2 := j2.ext Lw11
   replace j3 := j3.ext Lw11
   replace j4 := j4.ext Lw11
   replace j8 := j8.ext Lw11
   replace j9 := j9.ext Lw11
   replace j10 := j10.ext Lw11
   replace j11 := j11.ext Lw11
   replace j12 := j12.ext Lw11
   replace j13 := j13.ext Lw11
   have s_w11 : w.heap.size ≤ w11.heap.size := Xw11.size
   clear xw11
   refine hK.out _ _ ⟨v0, v1, v2, x0, x1, y0, y1, z0, z1, z2, q0, q1⟩ (fun hHeld => ?_)
   clear hK K
   try simp only [Act.put, qa, qb, qc, qD, qE, qF]
   refine qTk (v := ?_) 6 rfl (.inl ⟨by rfl, ?_⟩) ?_
   rotate_left
   ·
    (intro w hSw; (try dsimp only at hSw); go_simp; try with_reducible rfl)
   try simp only [Act.put, qa, qb, qc, qD, qE, qF]
   refine qTk (v := ?_) 7 rfl (.inl ⟨by rfl, ?_⟩) ?_
   rotate_left
   ·
    (intro w hSw; (try dsimp only at hSw); go_simp; try with_reducible rfl)
   try simp only [Act.put, qa, qb, qc, qD, qE, qF]
   refine qTk (v := ?_) 8 rfl (.inl ⟨by rfl, ?_⟩) ?_
   rotate_left
   ·
    (intro w hSw; (try dsimp only at hSw); go_simp; try with_reducible rfl)
   try simp only [Act.put, qa, qb, qc, qD, qE, qF]
   refine qTk (v := ?_) 9 rfl (.inl ⟨by rfl, ?_⟩) ?_
   rotate_left
   ·
    (intro w hSw; (try dsimp only at hSw); go_simp; try with_reducible rfl)
   try simp only [Act.put, qa, qb, qc, qD, qE, qF]
   refine qTk (v := ?_) 10 rfl (.inl ⟨by rfl, ?_⟩) ?_
   rotate_left
   ·
    (intro w hSw; (try dsimp only at hSw); go_simp; try with_reducible rfl)
   try simp only [Act.put, qa, qb, qc, qD, qE, qF]
   refine wpTail_one (i := 11) qKr rfl rfl (fun K hK => ?_)
   try simp only [Act.put, qa, qb, qc, qD, qE, qF]
   go_simp
   refine (leqInts_c s _ _ _ _ _ (j1.ext qXt) (i1.ext qXt)).mono ?_
   rintro e w12 ⟨rfl, xw12⟩
   have Lw12 : Ext w11 w12 := Ext.trans qXt xw12
   have Xw12 : Ext w w12 := Xw11.trans Lw12
   replace v0 := Lw12.cell v0
   replace v1 := Lw12.cell v1
   replace v2 := Lw12.cell v2
   replace x0 := Lw12.cell x0
   replace x1 := Lw12.cell x1
   replace y0 := Lw12.cell y0
   replace y1 := Lw12.cell y1
   replace z0 := Lw12.cell z0
   replace z1 := Lw12.cell z1
   replace z2 := Lw12.cell z2
   replace q0 := Lw12.cell q0
   replace q1 := Lw12.cell q1
   have z_v : w1.heap.size < w12.heap.size := qB v0
   have z_x : w2.heap.size < w12.heap.size := qB x0
   have z_y : w3.heap.size < w12.heap.size := qB y0
   have z_z : w7.heap.size < w12.heap.size := qB z0
   have z_q : w8.heap.size < w12.heap.size := qB q0
   replace i0 := i0.ext Lw12
   replace i1 := i1.ext Lw12
   replace i2 := i2.ext Lw12
   replace j1 := j1.ext Lw12
   replace j2 := j2.ext Lw12
   replace j3 := j3.ext Lw12
   replace j4 := j4.ext Lw12
   replace j8 := j8.ext Lw12
   replace j9 := j9.ext Lw12
   replace j10 := j10.ext Lw12
   replace j11 := j11.ext Lw12
   replace j12 := j12.ext Lw12
   replace j13 := j13.ext Lw12
   have s_w12 : w.heap.size ≤ w12.heap.size := Xw12.size
   clear xw12
   refine hK.out _ _ ⟨v0, v1, v2, x0, x1, y0, y1, z0, z1, z2, q0, q1⟩ (fun hHeld => ?_)
   clear hK K
   try simp only [Act.put, qa, qb, qc, qD, qE, qF]
   refine qTk (v := ?_) 12 rfl (.inl ⟨by rfl, ?_⟩) ?_
   rotate_left
   ·
    (intro w hSw; (try dsimp only at hSw); go_simp; try with_reducible rfl)
   try simp only [Act.put, qa, qb, qc, qD, qE, qF]
   refine qTk (v := ?_) 13 rfl (.inl ⟨by rfl, ?_⟩) ?_
   rotate_left
   ·
    (intro w hSw; (try dsimp only at hSw); go_simp; try with_reducible rfl)
   try simp only [Act.put, qa, qb, qc, qD, qE, qF]
   refine qTk (v := ?_) 14 rfl (.inl ⟨by rfl, ?_⟩) ?_
   rotate_left
   ·
    (intro w hSw; (try dsimp only at hSw); go_simp; try with_reducible rfl)
   try simp only [Act.put, qa, qb, qc, qD, qE, qF]
   refine qTk (v := ?_) 15 rfl (.inl ⟨by rfl, ?_⟩) ?_
   rotate_left
   ·
    (intro w hSw; (try dsimp only at hSw); go_simp; try with_reducible rfl)
   try simp only [Act.put, qa, qb, qc, qD, qE, qF]
   refine qTk (v := ?_) 16 rfl (.inl ⟨by rfl, ?_⟩) ?_
   rotate_left
   ·
    (intro w hSw; (try dsimp only at hSw); go_simp; try with_reducible rfl)
   try simp only [Act.put, qa, qb, qc, qD, qE, qF]
   refine qTk (v := ?_) 17 rfl (.inl ⟨by rfl, ?_⟩) ?_
   rotate_left
   ·
    (intro w hSw; (try dsimp only at hSw); go_simp; try with_reducible rfl)
   try simp only [Act.put, qa, qb, qc, qD, qE, qF]
   refine qTk (v := ?_) 18 rfl (.inl ⟨by rfl, ?_⟩) ?_
   rotate_left
   ·
    (intro w hSw; (try dsimp only at hSw); go_simp; try with_reducible rfl)
   try simp only [Act.put, qa, qb, qc, qD, qE, qF]
   refine qTk (v := ?_) 19 rfl (.inl ⟨by rfl, ?_⟩) ?_
   rotate_left
   ·
    (intro w hSw; (try dsimp only at hSw); go_simp; try with_reducible rfl)
   try simp only [Act.put, qa, qb, qc, qD, qE, qF]
   refine qTk (v := ?_) 20 rfl (.inl ⟨by rfl, ?_⟩) ?_
   rotate_left
   ·
    (intro w hSw; (try dsimp only at hSw); go_simp; try with_reducible rfl)
   try simp only [Act.put, qa, qb, qc, qD, qE, qF]
   refine qTk (v := ?_) 21 rfl (.inl ⟨by rfl, ?_⟩) ?_
   rotate_left
   ·
    (intro w hSw; (try dsimp only at hSw); go_simp; try with_reducible rfl)
   try simp only [Act.put, qa, qb, qc, qD, qE, qF]
   refine qTk (v := ?_) 23 rfl (.inl ⟨by rfl, ?_⟩) ?_
   rotate_left
   ·
    (intro w hSw; (try dsimp only at hSw); go_simp; try with_reducible rfl)
   try simp only [Act.put, qa, qb, qc, qD, qE, qF]
   refine wpTail_one (i := 22) qKr rfl rfl (fun K hK => ?_)
   try simp only [Act.put, qa, qb, qc, qD, qE, qF]
   go_simp
   refine (turnTensor_c s L od _ _ _ _ _ _ _ (j1.ext qXt) (j2.ext qXt) (j8.ext qXt) htb hob).mono ?_
   rintro e w13 ⟨u14, u15, c14, c15, rfl, j14, j15, xw13⟩
   have Lw13 : Ext w12 w13 := Ext.trans qXt xw13
   have Xw13 : Ext w w13 := Xw12.trans Lw13
   replace v0 := Lw13.cell v0
   replace v1 := Lw13.cell v1
   replace v2 := Lw13.cell v2
   replace x0 := Lw13.cell x0
   replace x1 := Lw13.cell x1
   replace y0 := Lw13.cell y0
   replace y1 := Lw13.cell y1
   replace z0 := Lw13.cell z0
   replace z1 := Lw13.cell z1
   replace z2 := Lw13.cell z2
   replace q0 := Lw13.cell q0
   replace q1 := Lw13.cell q1
   have z_v : w1.heap.size < w13.heap.size := qB v0
   have z_x : w2.heap.size < w13.heap.size := qB x0
   have z_y : w3.heap.size < w13.heap.size := qB y0
   have z_z : w7.heap.size < w13.heap.size := qB z0
   have z_q : w8.heap.size < w13.heap.size := qB q0
   replace i0 := i0.ext Lw13
   replace i1 := i1.ext Lw13
   replace i2 := i2.ext Lw13
   replace j1 := j1.ext Lw13
   replace j2 := j2.ext Lw13
   replace j3 := j3.ext Lw13
   replace j4 := j4.ext Lw13
   replace j8 := j8.ext Lw13
   replace j9 := j9.ext Lw13
   replace j10 := j10.ext Lw13
   replace j11 := j11.ext Lw13
   replace j12 := j12.ext Lw13
   replace j13 := j13.ext Lw13
   have s_w13 : w.heap.size ≤ w13.heap.size := Xw13.size
   clear xw13
   rw [hS.out, htl.out]
   rw [hS.out] at j14
   rw [htl.out] at j15
   refine hK.out _ _ ⟨v0, v1, v2, x0, x1, y0, y1, z0, z1, z2, q0, q1⟩ (fun hHeld => ?_)
   clear hK K
   try simp only [Act.put, qa, qb, qc, qD, qE, qF]
   refine wpTail_one (i := 24) qKr rfl rfl (fun K hK => ?_)
   try simp only [Act.put, qa, qb, qc, qD, qE, qF]
   go_simp
   refine (leqTensor_c ⟨S, L2⟩ _ _ _ _ _ _ _ _ _ (j14.ext qXt) (j15.ext qXt) (j11.ext qXt) (j12.ext qXt)).mono ?_
   rintro e w14 ⟨rfl, xw14⟩
   have Lw14 : Ext w13 w14 := Ext.trans qXt xw14
   have Xw14 : Ext w w14 := Xw13.trans Lw14
   replace v0 := Lw14.cell v0
   replace v1 := Lw14.cell v1
   replace v2 := Lw14.cell v2
   replace x0 := Lw14.cell x0
   replace x1 := Lw14.cell x1
   replace y0 := Lw14.cell y0
   replace y1 := Lw14.cell y1
   replace z0 := Lw14.cell z0
   replace z1 := Lw14.cell z1
   replace z2 := Lw14.cell z2
   replace q0 := Lw14.cell q0
   replace q1 := Lw14.cell q1
   have z_v : w1.heap.size < w14.heap.size := qB v0
   have z_x : w2.heap.size < w14.heap.size := qB x0
   have z_y : w3.heap.size < w14.heap.size := qB y0
   have z_z : w7.heap.size < w14.heap.size := qB z0
   have z_q : w8.heap.size < w14.heap.size := qB q0
   replace i0 := i0.ext Lw14
   replace i1 := i1.ext Lw14
   replace i2 := i2.ext Lw14
   replace j1 := j1.ext Lw14
   replace j2 := j2.ext Lw14
   replace j3 := j3.ext Lw14
   replace j4 := j4.ext Lw14
   replace j8 := j8.ext Lw14
   replace j9 := j9.ext Lw14
   replace j10 := j10.ext Lw14
   replace j11 := j11.ext Lw14
   replace j12 := j12.ext Lw14
   replace j13 := j13.ext Lw14
   replace j14 := j14.ext Lw14
   replace j15 := j15.ext Lw14
   have s_w14 : w.heap.size ≤ w14.heap.size := Xw14.size
   clear xw14
   refine hK.out _ _ ⟨v0, v1, v2, x0, x1, y0, y1, z0, z1, z2, q0, q1⟩ (fun hHeld => ?_)
   clear hK K
   try simp only [Act.put, qa, qb, qc, qD, qE, qF]
   refine qTk (v := ?_) 25 rfl (.inl ⟨by rfl, ?_⟩) ?_
   rotate_left
   ·
    (intro w hSw; (try dsimp only at hSw); go_simp; try with_reducible rfl)
   try simp only [Act.put, qa, qb, qc, qD, qE, qF]
   refine qTk (v := ?_) 26 rfl (.inl ⟨by rfl, ?_⟩) ?_
   rotate_left
   ·
    (intro w hSw; (try dsimp only at hSw); go_simp; try with_reducible rfl)
   try simp only [Act.put, qa, qb, qc, qD, qE, qF]
   refine wpTail_done qKr ?_ _
   clear hHeld
   go_wp2_with fail
   go_ret
   exact ⟨rfl, (Xw14.trans qXt)⟩

end Go.Proofs.Ytpgkhjmboiepcaa

/- The law FnTensorOf holds for all bytes: the call returns true, and its argument reads as it did. No condition. -/
namespace Go.Proofs.Ytpgkhjmboiepcaa.rowFnTensorOf
open Go.ChangeShapes Go.WideShapes Go.ChangeAt Go.RowKit
set_option linter.unusedVariables false

set_option maxHeartbeats 1000000 in
set_option maxRecDepth 100000 in
theorem lifted (os : Os) (started : os.Started) (H : Type) (enc : TypeId × Value → H) :
    ReturnsInHanded {} Try.checked os 3 .any (Rows.fnTensorOfSpec.pre6 enc Try.prog Try.f3 Rows.fnTensorOfRow.domain false) (Rows.fnTensorOfSpec.post enc Try.prog Try.f3 false true false false) := by
  refine returnsInHanded_of_change (C := Try.checked) own started qKr Try.func3
    (ChangeSpec.witness6 (enc := enc) (C := Try.checked) false ⟨#[], #[.slice none 0 0], []⟩ 8 qKr qKr qKr qKr) ?_
  intro W base args ds gs before hval0 hW hcnd _
  have hval : ∀ (j : Nat) t v, Try.f3.params[j]? = some t → args[j]? = some v → Value.okWide Try.prog W .any base t v := hval0
  have hW' := hW
  obtain ⟨p, q, hA0, hV, rfl, hfz, hnd⟩ := hW
  have hA : DataW.TrodAll enc Try.prog W 0 (fun _ => true) true Try.f3.params.toList args.toList ds p := hA0
  rw [Try.params3] at hA hval
  obtain ⟨v0, vs0, d0, ds0, p0, q0, hargs0, rfl, rfl, h0, r0⟩ := trodAll_cons hA
  obtain ⟨rfl, rfl, rfl⟩ := trodAll_nil r0
  obtain rfl : args = #[v0] := by cases args; simp_all
  obtain ⟨rfl, rfl⟩ := trodVars_none hV
  obtain ⟨a0, len0, cap0, rfl⟩ := okWide_slice Try.underlying22 (hval 0 22 v0 rfl rfl)
  have k0 := h0
  have lt0 : ∀ x ∈ p0, x.block < W.heap.size := by obtain ⟨m, hm⟩ := k0; exact DataW.trod_lt m _ _ _ hm
  have w0 : BysIn W a0 len0 cap0 := by
    obtain ⟨fuel, hf⟩ := h0
    rcases open_ints Try.underlying22 Try.underlying5 qKr hf with ⟨hcs, _⟩ | ⟨x, l, c, zs, hcs, _, hl, hm, hz, _, hcell, hwz⟩
    · simp [Value.cells] at hcs
      obtain ⟨rfl, rfl, rfl⟩ := hcs
      exact ⟨Nat.le_refl _, by simp, fun i hi => absurd hi (by simp)⟩
    · simp [Value.cells] at hcs
      obtain ⟨rfl, rfl, rfl⟩ := hcs
      have hzl : zs.length = cap0 := by simpa using hz
      exact bys_of_cells hl hm hzl hcell hwz
  clear hA0 hval0
  refine (lawFnTensorOf_c a0 len0 cap0 W w0).mono fun e W' ⟨he, bel⟩ => ?_
  subst he
  exact ⟨_, rfl, _, _, _, [], _, [], hW', trodAll_mk1 (shut_bool Try.underlying4 _), (trodAll_cons_mk (Below.trod laidOut qKr (of_decide_eq_true qKr) k0 bel lt0) trodAll_mk0), rfl, Below.frame bel _, fun h => by cases h⟩

set_option maxHeartbeats 2000000 in
theorem closed : joinedFacts Try.checked.prog 3 Try.f3 Rows.fnTensorOfSpec Rows.fnTensorOfRow = true :=
  facts.all qKr qKr qKr qKr qKr (by as_aux_lemma => kernel_rfl) (by as_aux_lemma => kernel_rfl) (by as_aux_lemma => kernel_rfl) (by as_aux_lemma => kernel_rfl)
    (by as_aux_lemma => kernel_rfl) (by as_aux_lemma => kernel_rfl) rfl rfl rfl rfl qKr qKr (by as_aux_lemma => kernel_rfl) (by as_aux_lemma => kernel_rfl)

theorem named : Try.pinned.checked.prog.funcNamed Rows.fnTensorOfRow.func = some 3 := by kernel_rfl

theorem over : Rows.fnTensorOfRow.holds Try.pinned (OpenSpec.ofChange Rows.fnTensorOfSpec) :=
  OpenClaim.holds_of_wide 3 Try.f3 rfl rfl rfl rfl rfl rfl rfl ⟨rfl, rfl, rfl, rfl, rfl⟩ rfl rfl rfl rfl rfl named Try.func3 closed
    (of_decide_eq_true qKr) (by unfold Func.isWrapper; exact ⟨rfl, rfl⟩)
    (fun os started H enc _ => lifted os started H enc)

theorem proved : Rows.FnTensorOfSaid := over

end Go.Proofs.Ytpgkhjmboiepcaa.rowFnTensorOf
