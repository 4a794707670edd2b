/- Texts of these proofs put together: PureM, PureP, LvA, LvB, LvF, LvE, LvH, LvG, LvI, LvJ, PureR, ExB, FvP, FvA, KitC, KitD, FvB, FvC, DelA, DelB, PureS, DelC, FvD. No condition. -/
import Derived.Test.YtpgkhjmboiepcaaM1
set_option linter.unusedVariables false
set_option linter.unusedSimpArgs false
/- Plain laws on memories: what is stored last stays, what is added, sums. -/
namespace Go.Proofs.Ytpgkhjmboiepcaa
open Go.RowKit
set_option linter.unusedVariables false
set_option maxRecDepth 100000

/-- additions one by one -/
def addUp (mem ix vs : List Int) (k : Nat) : List Int := (List.range k).foldl (fun m i => m.set (ix.getD i 0).toNat ((m.getD (ix.getD i 0).toNat 0 + vs.getD i 0) % 256)) mem
theorem addUp_succ (mem ix vs : List Int) (k : Nat) : addUp mem ix vs (k+1) = (addUp mem ix vs k).set (ix.getD k 0).toNat (((addUp mem ix vs k).getD (ix.getD k 0).toNat 0 + vs.getD k 0) % 256) := by
  unfold addUp; rw [List.range_succ, List.foldl_append]; rfl
theorem addUp_len (mem ix vs : List Int) (k : Nat) : (addUp mem ix vs k).length = mem.length := by
  induction k with
  | zero => rfl
  | succ k ih => rw [addUp_succ, List.length_set, ih]
end Go.Proofs.Ytpgkhjmboiepcaa

/- Plain laws: views with their dimensions in another order. -/
namespace Go.Proofs.Ytpgkhjmboiepcaa
open Go.RowKit
set_option linter.unusedVariables false
set_option maxRecDepth 100000

end Go.Proofs.Ytpgkhjmboiepcaa

/- Walks: ValidView, FitsIn, BoundsOf. -/
namespace Go.Proofs.Ytpgkhjmboiepcaa
open Go.RowKit
set_option linter.unusedVariables false
set_option maxRecDepth 100000


theorem max_lib (l : List Int) : Lib.maxOf l = maxL l := by cases l <;> rfl
theorem max_c (xs : List Int) (v : Value) (w : World) (lo : Nat) (h : Ints w lo v xs) (hn : xs ≠ []) : Calls Try.prog 94 #[v] w fun e w' => e = .returned (.int .i64 (maxL xs)) ∧ w = w' := by
  obtain ⟨a, cap, rfl, h1, h2, ⟨h3, h3'⟩, h4⟩ := h
  have hpos : 0 < xs.length := by cases xs <;> simp_all
  obtain ⟨b, off, rfl, _⟩ := h4 0 hpos
  refine (Try.slices_Max_int b off xs.length cap xs w hpos (Nat.le_refl _) (by omega) (fun j hj => by obtain ⟨b', off', he, _, hc, _⟩ := h4 j hj; cases he; exact hc)).mono ?_
  rintro e w' ⟨rfl, rfl⟩
  exact ⟨by rw [List.take_length, max_lib], rfl⟩
end Go.Proofs.Ytpgkhjmboiepcaa

/- Walks: OffsetsOf and IsRow of the program and of the reference. -/
namespace Go.Proofs.Ytpgkhjmboiepcaa
open Go.RowKit
set_option linter.unusedVariables false
set_option maxRecDepth 100000


end Go.Proofs.Ytpgkhjmboiepcaa

/- Walks: rowStrides of the program. -/
namespace Go.Proofs.Ytpgkhjmboiepcaa
open Go.RowKit
set_option linter.unusedVariables false
set_option maxRecDepth 100000

end Go.Proofs.Ytpgkhjmboiepcaa

/- Helpers of the laws: equal lists, equal views, a number in a list. -/
namespace Go.Proofs.Ytpgkhjmboiepcaa
open Go.RowKit
set_option linter.unusedVariables false
set_option maxRecDepth 100000



set_option maxHeartbeats 1600000 in
theorem leqInts_c (xs : List Int) (a b : Value) (w : World) (la lb : Nat) (ha : Ints w la a xs) (hb : Ints w lb b xs) :
    Calls Try.prog 15 #[a, b] w fun e w' => e = .returned (.bool true) ∧ Ext w w' := by
  obtain ⟨a1, cap1, rfl, _, _, ⟨hlen, _⟩, hc1⟩ := ha
  obtain ⟨a2, cap2, rfl, _, _, ⟨hlen2, _⟩, hc2⟩ := hb
  go_enter Try.func15, Try.ntmps15
  go_wp2_with fail
  go_loopw [5] (fun i wr => ∃ k m : Nat, k ≤ xs.length ∧ i = .int .i64 k ∧ wr = w.drewN m) (fun i _ => xs.length - (intOf i).toNat)
  case atStart => exact ⟨0, 0, Nat.zero_le _, rfl, rfl⟩
  case round =>
    obtain ⟨k, m, hk, rfl, rfl⟩ := hrel
    by_cases hlt : k < xs.length
    · obtain ⟨b1, off1, rfl, _, hcell1, _⟩ := hc1 k hlt
      obtain ⟨b2, off2, rfl, _, hcell2, _⟩ := hc2 k hlt
      have hk4 : (k : Int) < xs.length := by omega
      clear hc1 hc2
      generalize xs.getD k 0 = x at *
      go_wp2_with fail
      go_quiet (fail)
      go_wp2_with fail
      go_roundw
      case rel => exact ⟨k+1, _, by omega, by go_num, rfl⟩
      case measure => simp [intOf]; omega
    · obtain rfl : k = xs.length := by omega
      go_wp2_with fail
      go_ret
      exact ⟨rfl, qXo⟩

set_option maxHeartbeats 1600000 in
theorem leqView_c (b1 : Int) (u1 v1 u2 v2 : Value) (s1 t1 : List Int) (w : World) (l1 m1 l2 m2 : Nat) (h1 : Ints w l1 u1 s1) (k1 : Ints w m1 v1 t1) (h2 : Ints w l2 u2 s1) (k2 : Ints w m2 v2 t1) :
    Calls Try.prog 21 #[.agg #[.int .i64 b1, u1, v1], .agg #[.int .i64 b1, u2, v2]] w fun e w' => e = .returned (.bool true) ∧ Ext w w' := by
  obtain ⟨a1, cp1, rfl⟩ := h1.form
  obtain ⟨a2, cp2, rfl⟩ := k1.form
  obtain ⟨a3, cp3, rfl⟩ := h2.form
  obtain ⟨a4, cp4, rfl⟩ := k2.form
  go_enter Try.func21, Try.ntmps21
  go_wp2_with fail
  refine (leqInts_c s1 _ _ _ l1 l2 (h1.ext qXt) (h2.ext qXt)).mono ?_
  rintro e w1 ⟨rfl, xw1⟩
  have Lw1 : Ext w w1 := Ext.trans qXt xw1
  have Xw1 : Ext w w1 := Lw1
  have va0 : w1.cell? ⟨w.heap.size, 0, none⟩ = some (.int .i64 b1) := xw1.cell qCl
  have va1 : w1.cell? ⟨w.heap.size, 1, none⟩ = some (.slice a1 s1.length cp1) := xw1.cell qCl
  have va2 : w1.cell? ⟨w.heap.size, 2, none⟩ = some (.slice a2 t1.length cp2) := xw1.cell qCl
  have vb0 : w1.cell? ⟨w.heap.size + 1, 0, none⟩ = some (.int .i64 b1) := xw1.cell qCl
  have vb1 : w1.cell? ⟨w.heap.size + 1, 1, none⟩ = some (.slice a3 s1.length cp3) := xw1.cell qCl
  have vb2 : w1.cell? ⟨w.heap.size + 1, 2, none⟩ = some (.slice a4 t1.length cp4) := xw1.cell qCl
  have z_va : w.heap.size < w1.heap.size := qB va0
  have z_vb : w.heap.size + 1 < w1.heap.size := qB vb0
  have s_w1 : w.heap.size ≤ w1.heap.size := Xw1.size
  clear xw1
  go_wp2_with fail
  refine (leqInts_c t1 _ _ _ m1 m2 (k1.ext (Xw1.trans qXt)) (k2.ext (Xw1.trans qXt))).mono ?_
  rintro e w2 ⟨rfl, xw2⟩
  have Lw2 : Ext w1 w2 := Ext.trans qXt xw2
  have Xw2 : Ext w w2 := Xw1.trans Lw2
  replace va0 := Lw2.cell va0
  replace va1 := Lw2.cell va1
  replace va2 := Lw2.cell va2
  replace vb0 := Lw2.cell vb0
  replace vb1 := Lw2.cell vb1
  replace vb2 := Lw2.cell vb2
  have z_va : w.heap.size < w2.heap.size := qB va0
  have z_vb : w.heap.size + 1 < w2.heap.size := qB vb0
  have s_w2 : w.heap.size ≤ w2.heap.size := Xw2.size
  clear xw2
  go_wp2_with fail
  go_ret
  exact ⟨rfl, Xw2.trans qXt⟩

end Go.Proofs.Ytpgkhjmboiepcaa

/- Walks: helpers of the laws. -/
namespace Go.Proofs.Ytpgkhjmboiepcaa
open Go.RowKit
set_option linter.unusedVariables false
set_option maxRecDepth 100000

end Go.Proofs.Ytpgkhjmboiepcaa

/- Walks: LoadView of the program and of the reference. -/
namespace Go.Proofs.Ytpgkhjmboiepcaa
open Go.RowKit
set_option linter.unusedVariables false
set_option maxRecDepth 100000


theorem PInts.no {w w' : World} (h : Ext w w') : PInts w [] (.returned (.slice none 0 0)) w' :=
  ⟨_, rfl, Ints.nil _ _ _ _ (by simp) (fun _ => rfl), .inl ⟨rfl, none, 0, rfl, by simp, fun _ => rfl⟩, h⟩

end Go.Proofs.Ytpgkhjmboiepcaa

/- Walks: indices, ranks, rows, sums. -/
namespace Go.Proofs.Ytpgkhjmboiepcaa
open Go.RowKit
set_option linter.unusedVariables false
set_option maxRecDepth 100000


theorem sh {s : List Int} (h : shapeB s = true) : Small s ∧ (0 < countL s → ∀ e ∈ s, 1 ≤ e) ∧ countL s ≤ 1000000 := by
  have h6 := shapeB_in h
  exact ⟨Small.of h, h6.2.2.2.2, by omega⟩
/-- the first k numbers are within the extents -/
def OkTo (s r : List Int) (k : Nat) : Prop := ∀ j, j < k → 0 ≤ r.getD j 0 ∧ r.getD j 0 < s.getD j 0
theorem OkTo.zero (s r : List Int) : OkTo s r 0 := fun j h => absurd h (by omega)
theorem OkTo.succ {s r : List Int} {k : Nat} (h : OkTo s r k) {x e : Int} (hx : r.getD k 0 = x) (he : s.getD k 0 = e) (h1 : 0 ≤ x) (h2 : x < e) : OkTo s r (k+1) := fun j hj => by
  by_cases hjk : j = k
  · subst hjk; rw [hx, he]; exact ⟨h1, h2⟩
  · exact h j (by omega)
end Go.Proofs.Ytpgkhjmboiepcaa

/- Walks: ranks, indices, rows, sums. -/
namespace Go.Proofs.Ytpgkhjmboiepcaa
open Go.RowKit
set_option linter.unusedVariables false
set_option maxRecDepth 100000


end Go.Proofs.Ytpgkhjmboiepcaa

/- Plain laws: orders and their inverses, cells of views with their dimensions in another order. -/
namespace Go.Proofs.Ytpgkhjmboiepcaa
open Go.RowKit
set_option linter.unusedVariables false
set_option maxRecDepth 100000

end Go.Proofs.Ytpgkhjmboiepcaa

/- Walks: DoOverlap, CoversView and LineOf of the program and of the reference. -/
namespace Go.Proofs.Ytpgkhjmboiepcaa
open Go.RowKit
set_option linter.unusedVariables false
set_option maxRecDepth 100000

def meetB (b1 : Int) (s1 t1 : List Int) (b2 : Int) (s2 t2 : List Int) : Bool := viewB b1 s1 t1 && (viewB b2 s2 t2 && decide (0 < (bothL (offsL b1 s1 t1) (offsL b2 s2 t2)).length))

set_option maxHeartbeats 1600000 in
theorem implDoOverlap_c (b1 : Int) (u1 v1 : Value) (s1 t1 : List Int) (b2 : Int) (u2 v2 : Value) (s2 t2 : List Int) (w : World) (l1 m1 l2 m2 : Nat)
    (h1 : Ints w l1 u1 s1) (k1 : Ints w m1 v1 t1) (h2 : Ints w l2 u2 s2) (k2 : Ints w m2 v2 t2) :
    Calls Try.prog 22 #[.agg #[.int .i64 b1, u1, v1], .agg #[.int .i64 b2, u2, v2]] w fun e w' => e = .returned (.bool (meetB b1 s1 t1 b2 s2 t2)) ∧ Ext w w' := by
  unfold meetB
  cases ha : viewB b1 s1 t1
  · go_enter Try.func22, Try.ntmps22
    go_wp2_with fail
    refine (isView_c b1 _ _ s1 t1 _ l1 m1 (h1.ext qXo) (k1.ext qXo)).mono ?_
    rintro e w1 ⟨rfl, hx1⟩
    rw [ha]
    go_wp2_with fail
    go_ret
    exact ⟨rfl, Ext.trans qXo hx1⟩
  · have ha' := Lib.hid ha
    cases hb : viewB b2 s2 t2
    · have hb' := Lib.hid hb
      clear ha hb
      go_enter Try.func22, Try.ntmps22
      go_wp2_with fail
      refine (isView_c b1 _ _ s1 t1 _ l1 m1 (h1.ext qXo) (k1.ext qXo)).mono ?_
      rintro e w1 ⟨rfl, hx1⟩
      have R1 := hx1.rule
      have X1 : Ext w w1 := Ext.trans qXo hx1
      have z1 := hx1.size
      simp at z1
      have z1a : w.heap.size < w1.heap.size := by omega
      have z1b : w.heap.size + 1 < w1.heap.size := by omega
      rw [ha'.out]
      go_wp2_with fail
      refine (isView_c b2 _ _ s2 t2 _ l2 m2 (h2.ext (X1.trans qXo)) (k2.ext (X1.trans qXo))).mono ?_
      rintro e w2 ⟨rfl, hx2⟩
      rw [hb'.out]
      go_wp2_with fail
      go_ret
      exact ⟨rfl, X1.trans (Ext.trans qXo hx2)⟩
    · have hb' := Lib.hid hb
      have ho := Lib.hid (over_both (base2 := b2) (shape2 := s2) (strides2 := t2) ha)
      clear ha hb
      go_enter Try.func22, Try.ntmps22
      go_wp2_with fail
      refine (isView_c b1 _ _ s1 t1 _ l1 m1 (h1.ext qXo) (k1.ext qXo)).mono ?_
      rintro e w1 ⟨rfl, hx1⟩
      have R1 := hx1.rule
      have X1 : Ext w w1 := Ext.trans qXo hx1
      have z1 := hx1.size
      simp at z1
      have z1a : w.heap.size < w1.heap.size := by omega
      have z1b : w.heap.size + 1 < w1.heap.size := by omega
      rw [ha'.out]
      go_wp2_with fail
      refine (isView_c b2 _ _ s2 t2 _ l2 m2 (h2.ext (X1.trans qXo)) (k2.ext (X1.trans qXo))).mono ?_
      rintro e w2 ⟨rfl, hx2⟩
      have X12 : Ext w1 w2 := Ext.trans qXo hx2
      have R2 := X12.rule
      have X2 : Ext w w2 := X1.trans X12
      rw [hb'.out]
      go_wp2_with fail
      refine (overlapOf_c b1 _ _ s1 t1 b2 _ _ s2 t2 _ l1 m1 l2 m2 (h1.ext (X2.trans qXo)) (k1.ext (X2.trans qXo)) (h2.ext (X2.trans qXo)) (k2.ext (X2.trans qXo)) ha'.out hb'.out).mono ?_
      rintro e w3 ⟨v3, rfl, hi3, _, hx3⟩
      rw [ho.out] at hi3
      obtain ⟨a3, c3, rfl⟩ := hi3.form
      go_wp2_with fail
      go_ret
      exact ⟨by first | rfl | simp, X2.trans (Ext.trans qXo hx3)⟩

end Go.Proofs.Ytpgkhjmboiepcaa

/- Plain laws: fields of items, and their views. No condition. -/
namespace Go.Proofs.Ytpgkhjmboiepcaa
open Go.RowKit
set_option linter.unusedVariables false

theorem takeF_snoc (xs : List Int) (k : Nat) (hk : k < xs.length) : xs.take (k+1) = xs.take k ++ [xs.getD k 0] := by
  rw [List.take_succ_eq_append_getElem hk]; simp [hk]
/-- the first multiple of a number from one on -/
def rupL (n m : Int) : Int := (n + m - 1) / m * m
def stepP (al : Bool) (a s : Int) : Int := if al then rupL a s else a
/-- where fields begin, and where they end -/
def plcF (al : Bool) (xs : List Int) : List Int × Int := xs.foldl (fun p s => (p.1 ++ [stepP al p.2 s], stepP al p.2 s + s)) ([], 0)
theorem plcF_snoc (al : Bool) (xs : List Int) (s : Int) : plcF al (xs ++ [s]) = ((plcF al xs).1 ++ [stepP al (plcF al xs).2 s], stepP al (plcF al xs).2 s + s) := by
  unfold plcF; rw [List.foldl_append]; rfl
theorem plcF_take (al : Bool) {xs : List Int} {k : Nat} (hk : k < xs.length) {v : Int} (hv : xs.getD k 0 = v) : plcF al (xs.take (k+1)) = ((plcF al (xs.take k)).1 ++ [stepP al (plcF al (xs.take k)).2 v], stepP al (plcF al (xs.take k)).2 v + v) := by
  rw [takeF_snoc xs k hk, hv, plcF_snoc]
def szB (x : Int) : Bool := !(!decide (x = 1) && (!decide (x = 2) && !decide (x = 4)))
theorem szB_iff {x : Int} : szB x = true ↔ x = 1 ∨ x = 2 ∨ x = 4 := by unfold szB; simp
def fmtB (xs : List Int) : Bool := xs.all szB && (decide (1 ≤ xs.length) && decide (xs.length ≤ 5))
theorem fmtB_in {xs : List Int} (h : fmtB xs = true) : (∀ x ∈ xs, x = 1 ∨ x = 2 ∨ x = 4) ∧ 1 ≤ xs.length ∧ xs.length ≤ 5 := by
  unfold fmtB at h
  simp only [Bool.and_eq_true, List.all_eq_true, decide_eq_true_eq] at h
  exact ⟨fun x hx => szB_iff.1 (h.1 x hx), h.2.1, h.2.2⟩
theorem rupL_bd {n s : Int} (hn : 0 ≤ n) (hs : s = 1 ∨ s = 2 ∨ s = 4) : n ≤ rupL n s ∧ rupL n s ≤ n + 3 := by
  unfold rupL; rcases hs with rfl | rfl | rfl <;> omega
theorem stepP_bd {al : Bool} {n s : Int} (hn : 0 ≤ n) (hs : s = 1 ∨ s = 2 ∨ s = 4) : n ≤ stepP al n s ∧ stepP al n s ≤ n + 3 := by
  unfold stepP; cases al
  · simp only [Bool.false_eq_true, if_false]; omega
  · exact rupL_bd hn hs
theorem plcF_bd (al : Bool) {xs : List Int} (h : ∀ x ∈ xs, x = 1 ∨ x = 2 ∨ x = 4) (k : Nat) (hk : k ≤ xs.length) : (plcF al (xs.take k)).1.length = k ∧ 0 ≤ (plcF al (xs.take k)).2 ∧ (plcF al (xs.take k)).2 ≤ 7 * (k : Int) := by
  induction k with
  | zero => simp [plcF]
  | succ k ih =>
    obtain ⟨h1, h2, h3⟩ := ih (by omega)
    have h4 := h _ (getD_mem (s := xs) (d := k) (by omega))
    have h5 := stepP_bd (al := al) h2 h4
    rw [plcF_take al (by omega) rfl]
    simp only [List.length_append, List.length_cons, List.length_nil]
    omega
theorem plcF_get (al : Bool) {xs : List Int} (h : ∀ x ∈ xs, x = 1 ∨ x = 2 ∨ x = 4) (k m : Nat) (hk : k < m) (hm : m ≤ xs.length) : (plcF al (xs.take m)).1.getD k 0 = stepP al (plcF al (xs.take k)).2 (xs.getD k 0) := by
  induction m with
  | zero => omega
  | succ m ih =>
    have h1 := (plcF_bd al h m (by omega)).1
    rw [plcF_take al (by omega) rfl]
    simp only [List.getD_eq_getElem?_getD]
    by_cases hkm : k < m
    · rw [List.getElem?_append_left (by omega), ← List.getD_eq_getElem?_getD, ih hkm (by omega), List.getD_eq_getElem?_getD]
    · obtain rfl : k = m := by omega
      rw [List.getElem?_append_right (by omega), h1]
      simp
theorem plcF_mono (al : Bool) {xs : List Int} (h : ∀ x ∈ xs, x = 1 ∨ x = 2 ∨ x = 4) (k m : Nat) (hk : k ≤ m) (hm : m ≤ xs.length) : (plcF al (xs.take k)).2 ≤ (plcF al (xs.take m)).2 := by
  induction m with
  | zero => obtain rfl : k = 0 := by omega
            exact Int.le_refl _
  | succ m ih =>
    by_cases hkm : k ≤ m
    · have h1 := ih hkm (by omega)
      have h2 := (plcF_bd al h m (by omega)).2.1
      have h4 := h _ (getD_mem (s := xs) (d := m) (by omega))
      have h5 := stepP_bd (al := al) h2 h4
      rw [plcF_take al (by omega) rfl]
      dsimp only
      omega
    · obtain rfl : k = m + 1 := by omega
      exact Int.le_refl _
/-- the greatest size -/
def mostF (al : Bool) (xs : List Int) : Int := if al then xs.foldl max 1 else 1
theorem mostF_take (al : Bool) {xs : List Int} {k : Nat} (hk : k < xs.length) {v : Int} (hv : xs.getD k 0 = v) : mostF al (xs.take (k+1)) = if al then max (mostF al (xs.take k)) v else 1 := by
  rw [takeF_snoc xs k hk, hv]; unfold mostF; cases al
  · rfl
  · simp only [if_true, List.foldl_append]; rfl
theorem max124 {xs : List Int} (h : ∀ x ∈ xs, x = 1 ∨ x = 2 ∨ x = 4) : ∀ a : Int, (a = 1 ∨ a = 2 ∨ a = 4) → (xs.foldl max a = 1 ∨ xs.foldl max a = 2 ∨ xs.foldl max a = 4) := by
  induction xs with
  | nil => exact fun a h => h
  | cons x r ih =>
    intro a ha
    have hx := h x (by simp)
    rw [List.foldl_cons]
    refine ih (fun y hy => h y (by simp [hy])) _ ?_
    omega
theorem mostF_in (al : Bool) {xs : List Int} (h : ∀ x ∈ xs, x = 1 ∨ x = 2 ∨ x = 4) : mostF al xs = 1 ∨ mostF al xs = 2 ∨ mostF al xs = 4 := by
  unfold mostF; cases al
  · exact .inl rfl
  · exact max124 h 1 (.inl rfl)
/-- how long an item is -/
def sizeF (al : Bool) (xs : List Int) : Int := rupL (plcF al xs).2 (mostF al xs)
theorem rup_one (n : Int) : rupL n 1 = n := by unfold rupL; omega
/-- a field: it lies within its item, and is as long as it is said -/
theorem field_in (al : Bool) {xs : List Int} (h : ∀ x ∈ xs, x = 1 ∨ x = 2 ∨ x = 4) (hl : xs.length ≤ 5) {k : Nat} (hk : k < xs.length) :
    0 ≤ (plcF al xs).1.getD k 0 ∧ (plcF al xs).1.getD k 0 + xs.getD k 0 ≤ sizeF al xs ∧ sizeF al xs ≤ 40 := by
  have h1 := plcF_get al h k xs.length hk (Nat.le_refl _)
  rw [List.take_length] at h1
  have h2 := plcF_bd al h k (by omega)
  have h3 := plcF_mono al h (k+1) xs.length (by omega) (Nat.le_refl _)
  rw [plcF_take al hk rfl, List.take_length] at h3
  have h4 := h _ (getD_mem hk)
  have h5 := stepP_bd (al := al) h2.2.1 h4
  have h6 := plcF_bd al h xs.length (Nat.le_refl _)
  rw [List.take_length] at h6
  have h7 := rupL_bd h6.2.1 (mostF_in al h)
  unfold sizeF
  dsimp only at h3
  omega
/-- two fields are apart -/
theorem field_apart (al : Bool) {xs : List Int} (h : ∀ x ∈ xs, x = 1 ∨ x = 2 ∨ x = 4) {i k : Nat} (hi : i < k) (hk : k < xs.length) :
    (plcF al xs).1.getD i 0 + xs.getD i 0 ≤ (plcF al xs).1.getD k 0 := by
  have h1 := plcF_get al h i xs.length (by omega) (Nat.le_refl _)
  have h1k := plcF_get al h k xs.length hk (Nat.le_refl _)
  rw [List.take_length] at h1 h1k
  have h2 := (plcF_bd al h k (by omega)).2.1
  have h3 := plcF_mono al h (i+1) k (by omega) (by omega)
  rw [plcF_take al (by omega) rfl] at h3
  have h4 := h _ (getD_mem hk)
  have h5 := stepP_bd (al := al) h2 h4
  dsimp only at h3
  omega
/-- the last field ends where the places end -/
theorem last_end (al : Bool) {xs : List Int} (h : ∀ x ∈ xs, x = 1 ∨ x = 2 ∨ x = 4) {k : Nat} (hk : k + 1 = xs.length) : (plcF al xs).1.getD k 0 + xs.getD k 0 = (plcF al xs).2 := by
  have h1 := plcF_get al h k xs.length (by omega) (Nat.le_refl _)
  have h2 := plcF_take al (xs := xs) (k := k) (by omega) rfl
  rw [hk, List.take_length] at h2
  rw [List.take_length] at h1
  rw [h1, h2]
/-- the item whose bytes are met -/
theorem item_one {N i j x : Int} (h1 : N * i ≤ x) (h2 : x < N * i + N) (h3 : N * j ≤ x) (h4 : x < N * j + N) : i = j := by
  have hN : 0 < N := by omega
  rcases Int.lt_trichotomy i j with h | h | h
  · have : N * (i + 1) ≤ N * j := Int.mul_le_mul_of_nonneg_left (by omega) (by omega)
    rw [Int.mul_add] at this; omega
  · exact h
  · have : N * (j + 1) ≤ N * i := Int.mul_le_mul_of_nonneg_left (by omega) (by omega)
    rw [Int.mul_add] at this; omega

def sgnF (big : Bool) : Int := if big then -1 else 1
/-- where the view of a field begins -/
def fldBase (al big : Bool) (xs : List Int) (k : Nat) : Int := (plcF al xs).1.getD k 0 + if big then xs.getD k 0 - 1 else 0
/-- whether there is a view of a field -/
def fldB (al big : Bool) (xs : List Int) (k many : Int) : Bool := fmtB xs && (decide (0 ≤ k ∧ k < xs.length) && (decide (1 ≤ many) && viewB (fldBase al big xs k.toNat) [many, xs.getD k.toNat 0] [sizeF al xs, sgnF big]))
/-- the view of a field -/
def fldV (al big : Bool) (xs : List Int) (k many : Int) : VBool := if fldB al big xs k many then (fldBase al big xs k.toNat, [many, xs.getD k.toNat 0], [sizeF al xs, sgnF big], true) else noV
theorem fldV_no {al big : Bool} {xs : List Int} {k many : Int} (h : fldB al big xs k many = false) : fldV al big xs k many = noV := by unfold fldV; rw [h]; rfl
theorem fldV_yes {al big : Bool} {xs : List Int} {k many : Int} (h : fldB al big xs k many = true) : fldV al big xs k many = (fldBase al big xs k.toNat, [many, xs.getD k.toNat 0], [sizeF al xs, sgnF big], true) := by unfold fldV; rw [h]; rfl
theorem fldB_in {al big : Bool} {xs : List Int} {k many : Int} (h : fldB al big xs k many = true) : fmtB xs = true ∧ (0 ≤ k ∧ k < xs.length) ∧ 1 ≤ many ∧ viewB (fldBase al big xs k.toNat) [many, xs.getD k.toNat 0] [sizeF al xs, sgnF big] = true := by
  unfold fldB at h
  simp only [Bool.and_eq_true, decide_eq_true_eq] at h
  exact h
theorem off1 (b s σ : Int) : offC b [s] [σ] = (List.range s.toNat).map fun j : Nat => b + (j : Int) * σ := by
  rw [offC_cons, offC_nil]
  simp only [List.map_cons, List.map_nil]
  exact List.map_eq_flatMap.symm
theorem mem_off2 {b m s N σ x : Int} (h : x ∈ offC b [m, s] [N, σ]) : ∃ i j : Nat, (i : Int) < m ∧ (j : Int) < s ∧ x = b + (j : Int) * σ + (i : Int) * N := by
  rw [offC_cons, off1] at h
  simp only [List.mem_flatMap, List.mem_map, List.mem_range] at h
  obtain ⟨i, hi, y, ⟨j, hj, rfl⟩, rfl⟩ := h
  exact ⟨i, j, by omega, by omega, rfl⟩
/-- a cell of a field's view lies in that field of an item -/
theorem fld_cell {al big : Bool} {xs : List Int} {k : Nat} {m x : Int} (hx : x ∈ offC (fldBase al big xs k) [m, xs.getD k 0] [sizeF al xs, sgnF big]) :
    ∃ i : Nat, sizeF al xs * i + (plcF al xs).1.getD k 0 ≤ x ∧ x < sizeF al xs * i + (plcF al xs).1.getD k 0 + xs.getD k 0 := by
  obtain ⟨i, j, hi, hj, rfl⟩ := mem_off2 hx
  refine ⟨i, ?_⟩
  rw [Int.mul_comm (i : Int)]
  unfold fldBase sgnF
  generalize sizeF al xs * (i : Int) = P
  generalize (plcF al xs).1.getD k 0 = p at *
  generalize xs.getD k 0 = v at *
  cases big <;> simp <;> omega
theorem fld_apart {al big big2 : Bool} {xs : List Int} {k i m m2 : Int} (h1 : fldB al big xs k m = true) (h2 : fldB al big2 xs i m2 = true) (hne : i ≠ k) : meetB (fldBase al big xs k.toNat) [m, xs.getD k.toNat 0] [sizeF al xs, sgnF big] (fldBase al big2 xs i.toNat) [m2, xs.getD i.toNat 0] [sizeF al xs, sgnF big2] = false := by
  obtain ⟨g1, g2, g3, g4⟩ := fldB_in h1
  obtain ⟨-, j2, j3, j4⟩ := fldB_in h2
  obtain ⟨f1, f2, f3⟩ := fmtB_in g1
  unfold meetB
  rw [g4, j4]
  have hb : bothL (offsL (fldBase al big xs k.toNat) [m, xs.getD k.toNat 0] [sizeF al xs, sgnF big]) (offsL (fldBase al big2 xs i.toNat) [m2, xs.getD i.toNat 0] [sizeF al xs, sgnF big2]) = [] := by
    unfold bothL
    rw [List.filter_eq_nil_iff]
    intro x _ hx
    simp only [Bool.and_eq_true, List.contains_iff_mem] at hx
    obtain ⟨ha, hc⟩ := hx
    rw [view_C g4] at ha
    rw [view_C j4] at hc
    obtain ⟨a, a1, a2⟩ := fld_cell ha
    obtain ⟨c, c1, c2⟩ := fld_cell hc
    have u1 := field_in al f1 f3 (k := k.toNat) (by omega)
    have u2 := field_in al f1 f3 (k := i.toNat) (by omega)
    have e := item_one (N := sizeF al xs) (i := a) (j := c) (x := x) (by omega) (by omega) (by omega) (by omega)
    rw [e] at a1 a2
    rcases Nat.lt_or_gt_of_ne (show i.toNat ≠ k.toNat by omega) with h | h
    · have := field_apart al f1 h (by omega); omega
    · have := field_apart al f1 h (by omega); omega
  rw [hb]; rfl
theorem nodup_off2 {b m s N σ p : Int} (hp : 0 ≤ p) (hs : p + s ≤ N) (hb : (σ = 1 ∧ b = p) ∨ (σ = -1 ∧ b = p + s - 1)) : (offC b [m, s] [N, σ]).Nodup := by
  rw [offC_cons, off1]
  unfold List.Nodup
  rw [List.pairwise_flatMap]
  constructor
  · intro i hi
    rw [List.pairwise_map, List.pairwise_map]
    refine List.Pairwise.imp ?_ (List.pairwise_lt_range (n := s.toNat))
    intro a c hac
    rcases hb with ⟨rfl, -⟩ | ⟨rfl, -⟩ <;> omega
  · refine List.Pairwise.imp ?_ (List.pairwise_lt_range (n := m.toNat))
    intro a c hac x hx y hy e
    simp only [List.mem_map, List.mem_range] at hx hy
    obtain ⟨_, ⟨j, hj, rfl⟩, rfl⟩ := hx
    obtain ⟨_, ⟨l, hl, rfl⟩, rfl⟩ := hy
    have h9 : (a : Int) = c := by
      refine item_one (N := N) (x := b + (j : Int) * σ + (a : Int) * N) ?_ ?_ ?_ ?_
      · rw [Int.mul_comm (a : Int)]; rcases hb with ⟨rfl, rfl⟩ | ⟨rfl, rfl⟩ <;> omega
      · rw [Int.mul_comm (a : Int)]; rcases hb with ⟨rfl, rfl⟩ | ⟨rfl, rfl⟩ <;> omega
      · rw [e, Int.mul_comm (c : Int)]; rcases hb with ⟨rfl, rfl⟩ | ⟨rfl, rfl⟩ <;> omega
      · rw [e, Int.mul_comm (c : Int)]; rcases hb with ⟨rfl, rfl⟩ | ⟨rfl, rfl⟩ <;> omega
    omega
theorem fld_one {al big : Bool} {xs : List Int} {k m : Int} (h : fldB al big xs k m = true) : (viewB (fldBase al big xs k.toNat) [m, xs.getD k.toNat 0] [sizeF al xs, sgnF big] && decide (offsL (fldBase al big xs k.toNat) [m, xs.getD k.toNat 0] [sizeF al xs, sgnF big]).Nodup) = true := by
  obtain ⟨g1, g2, g3, g4⟩ := fldB_in h
  obtain ⟨f1, f2, f3⟩ := fmtB_in g1
  have u1 := field_in al f1 f3 (k := k.toNat) (by omega)
  rw [g4, view_C g4, decide_eq_true]
  · rfl
  · refine nodup_off2 u1.1 u1.2.1 ?_
    unfold fldBase sgnF
    generalize (plcF al xs).1.getD k.toNat 0 = p at *
    generalize xs.getD k.toNat 0 = v at *
    cases big
    · left; simp
    · right; simp; omega
theorem fld_count {al big : Bool} {xs : List Int} {k m : Int} (h : fldB al big xs k m = true) : countL [m, xs.getD k.toNat 0] = m * xs.getD k.toNat 0 ∧ 1 ≤ m ∧ m ≤ 60 ∧ 1 ≤ xs.getD k.toNat 0 ∧ xs.getD k.toNat 0 ≤ 4 := by
  obtain ⟨g1, g2, g3, g4⟩ := fldB_in h
  obtain ⟨f1, f2, f3⟩ := fmtB_in g1
  have h4 := f1 _ (getD_mem (s := xs) (d := k.toNat) (by omega))
  have h5 := shapeB_in (viewB_in g4).1
  have h6 := (countL_zero_or h5.1 h5.2.1).2.2.2
  have h7 := h5.2.1 m (by simp)
  refine ⟨?_, by omega, by omega, by omega, by omega⟩
  rw [h6]
  simp
end Go.Proofs.Ytpgkhjmboiepcaa

/- Walks: formats, places of fields, sizes of items. -/
namespace Go.Proofs.Ytpgkhjmboiepcaa
open Go.RowKit
set_option linter.unusedVariables false
set_option maxRecDepth 100000


theorem isFormatF_c (w : World) : Asks 92 #[] w (fun x => !szB x) := by
  refine ⟨⟨Try.f92, Try.func92, rfl, by decide +kernel⟩, fun x => ?_⟩
  rw [show (#[Value.int .i64 x] ++ #[]) = #[.int .i64 x] by simp]
  by_cases h : x = 1
  · subst h
    go_enter Try.func92, Try.ntmps92
    go_wp2_with fail
    go_ret
    exact ⟨rfl, rfl⟩
  · have h1 : (x != 1) = true := by simpa using h
    have h1e : (x == 1) = false := by simpa using h
    by_cases h2 : x = 2
    · subst h2
      go_enter Try.func92, Try.ntmps92
      go_wp2_with fail
      go_ret
      exact ⟨rfl, rfl⟩
    · have g1 : (x != 2) = true := by simpa using h2
      have g1e : (x == 2) = false := by simpa using h2
      by_cases h3 : x = 4
      · subst h3
        go_enter Try.func92, Try.ntmps92
        go_wp2_with fail
        go_ret
        exact ⟨rfl, rfl⟩
      · have k1 : (x != 4) = true := by simpa using h3
        have k1e : (x == 4) = false := by simpa using h3
        go_enter Try.func92, Try.ntmps92
        go_wp2_with fail
        go_ret
        exact ⟨by rw [show szB x = false by unfold szB; simp [h, h2, h3]] <;> rfl, rfl⟩
theorem anyF_c (xs : List Int) (v : Value) (w : World) (lo : Nat) (hv : Ints w lo v xs) :
    Calls Try.prog 87 #[v, .func (.func 92) #[] #[]] w fun e w' => e = .returned (.bool (!xs.all szB)) ∧ w = w' := by
  rw [show (!xs.all szB) = xs.any (fun x => !szB x) by simp [List.all_eq_not_any_not]]; exact containsFunc_c _ _ _ xs v w lo hv (isFormatF_c w)
theorem fmt_few {xs : List Int} (h : (xs.length : Int) < 1) : fmtB xs = false := by unfold fmtB; rw [decide_eq_false (show ¬ 1 ≤ xs.length by omega)]; simp
theorem fmt_many {xs : List Int} (h : 5 < (xs.length : Int)) : fmtB xs = false := by unfold fmtB; rw [decide_eq_false (show ¬ xs.length ≤ 5 by omega)]; simp
theorem fmt_len {xs : List Int} (h : ¬ (xs.length : Int) < 1) (h2 : ¬ 5 < (xs.length : Int)) : fmtB xs = xs.all szB := by unfold fmtB; rw [decide_eq_true (show 1 ≤ xs.length by omega), decide_eq_true (show xs.length ≤ 5 by omega)]; simp
set_option maxHeartbeats 1600000 in
theorem isFormat_c (xs : List Int) (u : Value) (big al : Bool) (w : World) (lo : Nat) (h : Ints w lo u xs) :
    Calls Try.prog 53 #[.agg #[u, .bool big, .bool al]] w fun e w' => e = .returned (.bool (fmtB xs)) ∧ Ext w w' := by
  have hl := h.len
  obtain ⟨p, c, rfl⟩ := h.form
  by_cases h1 : (xs.length : Int) < 1
  · go_enter Try.func53, Try.ntmps53
    go_wp2_with fail
    go_ret
    exact ⟨by rw [fmt_few h1] <;> rfl, qXo⟩
  · by_cases h2 : 5 < (xs.length : Int)
    · go_enter Try.func53, Try.ntmps53
      go_wp2_with fail
      go_ret
      exact ⟨by rw [fmt_many h2] <;> rfl, qXo⟩
    · rw [fmt_len h1 h2]
      go_enter Try.func53, Try.ntmps53
      go_wp2_with fail
      refine (anyF_c xs _ _ _ (h.ext qXt)).mono ?_
      rintro e w' ⟨rfl, rfl⟩
      go_wp2_with fail
      go_ret
      exact ⟨by simp, qXo⟩
set_option maxHeartbeats 1600000 in
theorem implRoundUp_c (n s : Int) (w : World) (hn : 0 ≤ n ∧ n ≤ 1000) (hs : s = 1 ∨ s = 2 ∨ s = 4) :
    Calls Try.prog 93 #[.int .i64 n, .int .i64 s] w fun e w' => e = .returned (.int .i64 (rupL n s)) ∧ w = w' := by
  have hb := rupL_bd hn.1 hs
  have hr : (n + s - 1).tdiv s * s = rupL n s := by unfold rupL; rw [Int.tdiv_eq_ediv_of_nonneg (by omega)]
  have hs0 : (s == 0) = false := by rcases hs with rfl | rfl | rfl <;> rfl
  have hsn : ¬ s = 0 := by omega
  have hw1 : IntKind.i64.wrap (n + s) = n + s := IntWalk.i64_in _ (by omega)
  have hw2 : IntKind.i64.wrap (n + s - 1) = n + s - 1 := IntWalk.i64_in _ (by omega)
  have hw3 : IntKind.i64.wrap ((n + s - 1).tdiv s) = (n + s - 1).tdiv s := IntWalk.i64_in _ (by rcases hs with rfl | rfl | rfl <;> omega)
  have hw4 : IntKind.i64.wrap ((n + s - 1).tdiv s * s) = rupL n s := by rw [hr]; exact IntWalk.i64_in _ (by omega)
  replace hr := Lib.hid hr
  go_enter Try.func93, Try.ntmps93
  go_wp2_with fail
  go_ret
  exact ⟨rfl, rfl⟩
set_option maxHeartbeats 1600000 in
theorem specRoundUp_c (n s : Int) (w : World) (hn : 0 ≤ n ∧ n ≤ 1000) (hs : s = 1 ∨ s = 2 ∨ s = 4) :
    Calls Try.prog 95 #[.int .i64 n, .int .i64 s] w fun e w' => e = .returned (.int .i64 (rupL n s)) ∧ w = w' := by
  have hb := rupL_bd hn.1 hs
  have hr : (n + s - 1).tdiv s * s = rupL n s := by unfold rupL; rw [Int.tdiv_eq_ediv_of_nonneg (by omega)]
  have hs0 : (s == 0) = false := by rcases hs with rfl | rfl | rfl <;> rfl
  have hsn : ¬ s = 0 := by omega
  have hw1 : IntKind.i64.wrap (n + s) = n + s := IntWalk.i64_in _ (by omega)
  have hw2 : IntKind.i64.wrap (n + s - 1) = n + s - 1 := IntWalk.i64_in _ (by omega)
  have hw3 : IntKind.i64.wrap ((n + s - 1).tdiv s) = (n + s - 1).tdiv s := IntWalk.i64_in _ (by rcases hs with rfl | rfl | rfl <;> omega)
  have hw4 : IntKind.i64.wrap ((n + s - 1).tdiv s * s) = rupL n s := by rw [hr]; exact IntWalk.i64_in _ (by omega)
  replace hr := Lib.hid hr
  go_enter Try.func95, Try.ntmps95
  go_wp2_with fail
  go_ret
  exact ⟨rfl, rfl⟩
theorem fmt_bad {xs : List Int} {k : Nat} {v : Int} (hk : k < xs.length) (hv : xs.getD k 0 = v) (h : szB v = false) : fmtB xs = false := by
  unfold fmtB
  rw [show xs.all szB = false from List.all_eq_false.2 ⟨v, hv ▸ getD_mem hk, by rw [h]; simp⟩]; rfl
theorem allF_take {xs : List Int} {k : Nat} {v : Int} (hk : k < xs.length) (hv : xs.getD k 0 = v) (h : (xs.take k).all szB = true) (h2 : szB v = true) : (xs.take (k+1)).all szB = true := by
  rw [takeF_snoc xs k hk, hv, List.all_append, h]; simp [h2]
theorem fmt_in {xs : List Int} (h : xs.all szB = true) : fmtB xs = inB 1 5 (xs.length : Int) := by
  unfold fmtB inB; rw [h, Bool.true_and, Bool.eq_iff_iff]; simp only [Bool.and_eq_true, decide_eq_true_eq]; omega
set_option maxHeartbeats 1600000 in
theorem validFormat_c (xs : List Int) (u : Value) (big al : Bool) (w : World) (lo : Nat) (h1 : Ints w lo u xs) :
    Calls Try.prog 56 #[.agg #[u, .bool big, .bool al]] w (fun e w' => e = .returned (.bool (fmtB xs)) ∧ Ext w w') := by
  obtain ⟨p0, c0, rfl⟩ := h1.form
  have hl1 := h1.len
  go_enter Try.func56, Try.ntmps56
  go_wp2_with fail
  generalize hW1 : w.alloc (.cells #[.slice p0 xs.length c0, .bool big, .bool al] 42) = w1 at *
  have Lw1 : Ext w w1 := by subst hW1; exact qXt
  have Xw1 : Ext w w1 := by subst hW1; exact Lw1
  have b10 : w1.cell? ⟨w.heap.size, 0, none⟩ = some (.slice p0 xs.length c0) := by subst hW1; exact qCl
  have b11 : w1.cell? ⟨w.heap.size, 1, none⟩ = some (.bool big) := by subst hW1; exact qCl
  have b12 : w1.cell? ⟨w.heap.size, 2, none⟩ = some (.bool al) := by subst hW1; exact qCl
  have z_b1 : w.heap.size < w1.heap.size := qB b10
  have s_w1 : w.heap.size ≤ w1.heap.size := Xw1.size
  clear hW1
  go_loopw [3] (fun i wr => ∃ (k : Nat), k ≤ xs.length ∧ i = .int .i64 k ∧ Hid ((xs.take k).all szB = true) ∧ Ext w1 wr) (fun i _ => xs.length - (intOf i).toNat)
  case atStart => exact ⟨0, Nat.zero_le _, rfl, Lib.hid rfl, qXt⟩
  case round =>
    obtain ⟨k, hk, rfl, hal, Lwr⟩ := hrel
    have Xwr : Ext w wr := Xw1.trans Lwr
    have s_wr : w.heap.size ≤ wr.heap.size := Xwr.size
    have t_wr : w1.heap.size ≤ wr.heap.size := Lwr.size
    replace b10 := Lwr.cell b10
    replace b11 := Lwr.cell b11
    replace b12 := Lwr.cell b12
    have z_b1 : w.heap.size < wr.heap.size := qB b10
    have Bwr : Ext w1 wr := Lwr
    by_cases hlt : k < xs.length
    · have hkI : (k : Int) < xs.length := by omega
      have hN_e4 : k < xs.length := hlt
      have hI_e4 : (k : Int) < (xs.length : Int) := by omega
      obtain ⟨bl2, ol3, rfl, e40⟩ := h1.at k hlt
      have y_e4 : bl2 < w.heap.size := qB e40
      replace e40 := Xwr.cell e40
      obtain ⟨v5, hv5⟩ : ∃ v, xs.getD k 0 = v := ⟨_, rfl⟩
      rw [hv5] at e40
      replace hv5 := Lib.hid hv5
      have z_e4 : bl2 < wr.heap.size := qB e40
      by_cases hc6 : (v5 : Int) = (1 : Int)
      · have hc6e : ((v5 : Int) == (1 : Int)) = true := by simpa using hc6
        have hc6n : ((v5 : Int) != (1 : Int)) = false := by simpa using hc6
        replace hc6 := Lib.hid hc6
        have e7 := Lib.hid hc6.out
        go_wp2_with fail
        go_roundw
        case rel => exact ⟨k + 1, by omega, by go_num, Lib.hid (allF_take hlt hv5.out hal.out (szB_iff.2 (by first | (left; exact e7.out) | (right; left; exact e7.out) | (right; right; exact e7.out)))), (Bwr.trans qXt)⟩
        case measure => simp [intOf]; omega
      · have hc6e : ((v5 : Int) == (1 : Int)) = false := by simpa using hc6
        have hc6n : ((v5 : Int) != (1 : Int)) = true := by simpa using hc6
        replace hc6 := Lib.hid hc6
        have n1 := Lib.hid hc6.out
        by_cases hc10 : (v5 : Int) = (2 : Int)
        · have hc10e : ((v5 : Int) == (2 : Int)) = true := by simpa using hc10
          have hc10n : ((v5 : Int) != (2 : Int)) = false := by simpa using hc10
          replace hc10 := Lib.hid hc10
          have e7 := Lib.hid hc10.out
          go_wp2_with fail
          go_roundw
          case rel => exact ⟨k + 1, by omega, by go_num, Lib.hid (allF_take hlt hv5.out hal.out (szB_iff.2 (by first | (left; exact e7.out) | (right; left; exact e7.out) | (right; right; exact e7.out)))), (Bwr.trans qXt)⟩
          case measure => simp [intOf]; omega
        · have hc10e : ((v5 : Int) == (2 : Int)) = false := by simpa using hc10
          have hc10n : ((v5 : Int) != (2 : Int)) = true := by simpa using hc10
          replace hc10 := Lib.hid hc10
          have n2 := Lib.hid hc10.out
          by_cases hc14 : (v5 : Int) = (4 : Int)
          · have hc14e : ((v5 : Int) == (4 : Int)) = true := by simpa using hc14
            have hc14n : ((v5 : Int) != (4 : Int)) = false := by simpa using hc14
            replace hc14 := Lib.hid hc14
            have e7 := Lib.hid hc14.out
            go_wp2_with fail
            go_roundw
            case rel => exact ⟨k + 1, by omega, by go_num, Lib.hid (allF_take hlt hv5.out hal.out (szB_iff.2 (by first | (left; exact e7.out) | (right; left; exact e7.out) | (right; right; exact e7.out)))), (Bwr.trans qXt)⟩
            case measure => simp [intOf]; omega
          · have hc14e : ((v5 : Int) == (4 : Int)) = false := by simpa using hc14
            have hc14n : ((v5 : Int) != (4 : Int)) = true := by simpa using hc14
            replace hc14 := Lib.hid hc14
            have n4 := Lib.hid hc14.out
            go_wp2_with fail
            go_ret
            exact ⟨by rw [show fmtB xs = false from fmt_bad hlt hv5.out (by unfold szB; rw [decide_eq_false n1.out, decide_eq_false n2.out, decide_eq_false n4.out]; rfl)] <;> rfl, (Xwr.trans qXt)⟩
    · obtain rfl : k = xs.length := by omega
      have hkI : ¬ (xs.length : Int) < xs.length := by omega
      go_wp2_with fail
      refine (inRange_c (xs.length : Int) 1 5 _).mono ?_
      rintro e w' ⟨rfl, rfl⟩
      cases hB15 : inB 1 5 (xs.length : Int)
      · replace hB15 := Lib.hid hB15
        go_wp2_with fail
        go_ret
        exact ⟨by rw [show fmtB xs = false from by rw [fmt_in (by have h7 := hal.out; rw [List.take_length] at h7; exact h7)]; exact hB15.out] <;> rfl, (Xwr.trans qXt)⟩
      · replace hB15 := Lib.hid hB15
        go_wp2_with fail
        go_ret
        exact ⟨by rw [show fmtB xs = true from by rw [fmt_in (by have h7 := hal.out; rw [List.take_length] at h7; exact h7)]; exact hB15.out] <;> rfl, (Xwr.trans qXt)⟩


end Go.Proofs.Ytpgkhjmboiepcaa

/- Helpers of walks: capacities, two rows that grow. -/
namespace Go.Proofs.Ytpgkhjmboiepcaa
open Go.RowKit
set_option linter.unusedVariables false

theorem PViewB.two {w w' : World} {B : Nat} {b : Int} {s t : List Int} {v1 v2 : Value} (T : Two B w' v1 v2 s t) (hB : w.heap.size ≤ B) (hs : s.length ≤ 1000) (ht : t.length ≤ 1000) (hx : Ext w w') :
    PViewB w b s t true (.returned (.tuple #[.agg #[.int .i64 b, v1, v2], .bool true])) w' :=
  ⟨_, _, rfl, (T.o1.ints (by omega)).lower hB, (T.o2.ints (by omega)).lower hB, (T.o1.lower hB).z, (T.o2.lower hB).z,
    (fun n1 n2 h => by obtain ⟨g, _, h1, _⟩ := (T.o1).row n1; rw [h1] at h; exact T.sep g (by rw [h1]; rfl) (h ▸ rfl)), hx⟩
end Go.Proofs.Ytpgkhjmboiepcaa

/- Helpers of walks: appends to a literal without room, whatever is appended. -/
namespace Go.Proofs.Ytpgkhjmboiepcaa
open Go.RowKit
set_option linter.unusedVariables false
section
variable {w : World} {src : Value} {ys : List Int} {lo B l : Nat}
end
/-- a call hands back a row of its own -/
def PIntsO (w : World) (xs : List Int) (e : Ending) (w' : World) : Prop := ∃ g r, e = .returned (.slice (some ⟨g, 0, none⟩) xs.length r) ∧ OwnI w' w.heap.size (.slice (some ⟨g, 0, none⟩) xs.length r) xs ∧ w.heap.size ≤ g ∧ g < w'.heap.size ∧ Ext w w'
/-- a call hands back a row of its own, without room where it is empty -/
def PIntsC (w : World) (xs : List Int) (e : Ending) (w' : World) : Prop := ∃ g r, e = .returned (.slice (some ⟨g, 0, none⟩) xs.length r) ∧ OwnI w' w.heap.size (.slice (some ⟨g, 0, none⟩) xs.length r) xs ∧ w.heap.size ≤ g ∧ g < w'.heap.size ∧ Hid (xs = [] → r = 0) ∧ Ext w w'
theorem PIntsC.o {w w' : World} {xs : List Int} {e : Ending} (h : PIntsC w xs e w') : PIntsO w xs e w' := by obtain ⟨g, r, h1, h2, h3, h4, -, h5⟩ := h; exact ⟨g, r, h1, h2, h3, h4, h5⟩
/-- an empty slice has no room -/
def CapZ (v : Value) (xs : List Int) : Prop := Hid (xs = [] → ∃ a, v = .slice a 0 0)
theorem CapZ.row {g r n : Nat} {ys xs : List Int} (hz : Hid (ys = [] → r = 0)) (hl : xs.length = ys.length) (hn : n = ys.length) : CapZ (.slice (some ⟨g, 0, none⟩) n r) xs :=
  Lib.hid fun h => by
    subst h
    have hy : ys = [] := List.eq_nil_of_length_eq_zero hl.symm
    rw [hn, hz.out hy, hy]
    exact ⟨_, rfl⟩
theorem CapZ.nil (xs : List Int) : CapZ (.slice none 0 0) xs := Lib.hid fun _ => ⟨_, rfl⟩
theorem CapZ.same {g n : Nat} {xs : List Int} (hn : n = xs.length) : CapZ (.slice (some ⟨g, 0, none⟩) n n) xs := Lib.hid fun h => by subst h; subst hn; exact ⟨_, rfl⟩
/-- a call hands back a new slice, without room where it is empty, and whether that is possible -/
def PIntsBC (w : World) (xs : List Int) (b : Bool) (e : Ending) (w' : World) : Prop := ∃ v, e = .returned (.tuple #[v, .bool b]) ∧ Ints w' w.heap.size v xs ∧ OwnZ w' w.heap.size v xs ∧ CapZ v xs ∧ Ext w w'
theorem PIntsBC.nil {w w' : World} (h : Ext w w') : PIntsBC w [] false (.returned (.tuple #[.slice none 0 0, .bool false])) w' :=
  ⟨_, rfl, Ints.nil _ _ _ _ (by simp) (fun _ => rfl), .inl ⟨rfl, none, 0, rfl, by simp, fun _ => rfl⟩, CapZ.nil _, h⟩
end Go.Proofs.Ytpgkhjmboiepcaa

/- Walks: places of fields. -/
namespace Go.Proofs.Ytpgkhjmboiepcaa
open Go.RowKit
set_option linter.unusedVariables false
set_option maxRecDepth 100000

/-- a call hands back places, and a size -/
def PPlc (w : World) (xs : List Int) (n : Int) (e : Ending) (w' : World) : Prop := ∃ v, e = .returned (.tuple #[v, .int .i64 n]) ∧ Ints w' w.heap.size v xs ∧ OwnZ w' w.heap.size v xs ∧ Ext w w'
set_option maxHeartbeats 3200000 in
theorem implPlaces_f (xs : List Int) (u : Value) (big : Bool) (w : World) (lo : Nat) (h1 : Ints w lo u xs) (hf : fmtB xs = true) :
  Calls Try.prog 54 #[.agg #[u, .bool big, .bool false]] w (PInts w (plcF false xs).1) := by
 obtain ⟨p0, c0, rfl⟩ := h1.form
 have hl5 := (fmtB_in hf).2.2
 have hx := Lib.hid (fmtB_in hf).1
 go_enter Try.func54, Try.ntmps54
 go_wp2_with fail
 generalize hW1 : w.alloc (.cells #[.slice p0 xs.length c0, .bool big, .bool false] 42) = w1 at *
 have Lw1 : Ext w w1 := by subst hW1; exact qXt
 have Xw1 : Ext w w1 := by subst hW1; exact Lw1
 have b10 : w1.cell? ⟨w.heap.size, 0, none⟩ = some (.slice p0 xs.length c0) := by subst hW1; exact qCl
 have b11 : w1.cell? ⟨w.heap.size, 1, none⟩ = some (.bool big) := by subst hW1; exact qCl
 have b12 : w1.cell? ⟨w.heap.size, 2, none⟩ = some (.bool false) := by subst hW1; exact qCl
 have z_b1 : w.heap.size < w1.heap.size := qB b10
 have s_w1 : w.heap.size ≤ w1.heap.size := Xw1.size
 have q_w1 : w1.heap.size ≤ w.heap.size + 1 := by subst hW1; simp
 clear hW1
 go_wp2_with fail
 have Q2_b10 := Lib.hid b10
 have Q2_b11 := Lib.hid b11
 have Q2_b12 := Lib.hid b12
 have Q2_zb1 := z_b1
 have BL3 : Ext w1 w1 := Ext.refl _
 have zG_BL3 := (BL3).size
 skip
 go_loopw [3, 4, 11] (fun gv ta i wr => ∃ (k : Nat) (q : Int), k ≤ xs.length ∧ i = .int .i64 k ∧ ta = .int .i64 q ∧ Hid ((plcF false (xs.take k)).2 = q) ∧ (0 ≤ q ∧ q ≤ 7 * (k : Int)) ∧ OwnI wr w1.heap.size gv ((plcF false (xs.take k)).1) ∧ Ext w1 wr) (fun _ _ i _ => xs.length - (intOf i).toNat)
 case atStart => exact ⟨0, 0, Nat.zero_le _, rfl, rfl, Lib.hid rfl, by omega, (by rw [show (plcF false (xs.take 0)).1 = [] from rfl]; rw [show w.heap.size + 1 = w1.heap.size by omega]; exact OwnI.lit0 w1 w1.heap.size (Nat.le_refl _)), qXt⟩
 case round =>
  obtain ⟨k, q, hk, rfl, rfl, hq, hqb, OG, Lwr⟩ := hrel
  have Xwr : Ext w wr := Xw1.trans Lwr
  have s_wr : w.heap.size ≤ wr.heap.size := Xwr.size
  have t_wr : w1.heap.size ≤ wr.heap.size := Lwr.size
  replace b10 := Lwr.cell b10
  replace b11 := Lwr.cell b11
  replace b12 := Lwr.cell b12
  have z_b1 : w.heap.size < wr.heap.size := qB b10
  have BL3_wr : Ext w1 wr := BL3.trans Lwr
  have Bwr : Ext w1 wr := Lwr
  obtain ⟨ga5, gc6, rfl⟩ := (OG.ints (by have := (show ((plcF false (xs.take k)).1).length ≤ 1000000 by have h7 := (plcF_bd false hx.out k (by omega)).1; omega); omega)).form
  have OG4 := OG
  clear OG
  by_cases hlt : k < xs.length
  ·
   have hkI : (k : Int) < xs.length := by omega
   have hN_e9 : k < xs.length := hlt
   have hI_e9 : (k : Int) < (xs.length : Int) := by omega
   obtain ⟨bl7, ol8, rfl, e90⟩ := h1.at k hlt
   have y_e9 : bl7 < w.heap.size := qB e90
   replace e90 := Xwr.cell e90
   obtain ⟨v10, hv10⟩ : ∃ v, xs.getD k 0 = v := ⟨_, rfl⟩
   rw [hv10] at e90
   replace hv10 := Lib.hid hv10
   have z_e9 : bl7 < wr.heap.size := qB e90
   have hbv10 := hx.out _ (getD_mem (s := xs) (d := k) hlt)
   rw [hv10.out] at hbv10
   have hrb := rupL_bd hqb.1 hbv10
   have hpt := Lib.hid (plcF_take false hlt hv10.out)
   have hnx : rupL q v10 + v10 ≤ 7 * ((k + 1 : Nat) : Int) ∧ 0 ≤ q + v10 ∧ q + v10 ≤ 7 * ((k + 1 : Nat) : Int) := by omega
   have zGB := (Bwr).size
   have EE : Ext wr ((wr).alloc (.cells #[.int .i64 q] 3)) := qXt
   have SS : Ints ((wr).alloc (.cells #[.int .i64 q] 3)) 0 (.slice (some ⟨wr.heap.size, 0, none⟩) 1 1) [q] := by simpa using Ints.one (wr) 0 q (Nat.zero_le _)
   go_wp2_with (
    at_builtin
    refine wpList_app rfl (.tmp 20) (.tmp 22) rfl rfl rfl (by exact OG4.ext EE) (by exact SS) (by have := (show ((plcF false (xs.take k)).1).length ≤ 1000000 by have h7 := (plcF_bd false hx.out k (by omega)).1; omega); first | omega | (simp only [List.length_append, List.length_cons, List.length_nil]; omega)) qSo ?_
    intro vw2 w2 ho hg7 hbl hv7
    clear hg7 hv7
    obtain ⟨ga11, rr12, rfl⟩ : ∃ a c, vw2 = .slice a (((plcF false (xs.take k)).1).length + 1) c := by obtain ⟨a, c, h⟩ := (ho.ints (by simp only [List.length_append, List.length_cons, List.length_nil]; have := (show ((plcF false (xs.take k)).1).length ≤ 1000000 by have h7 := (plcF_bd false hx.out k (by omega)).1; omega); omega)).form; exact ⟨a, c, by rw [h, List.length_append]; rfl⟩
    have Xw2 : Ext w w2 := Ext.below (Xwr.trans EE) hbl (by omega)
    have BL3_w2 : Ext w1 w2 := Ext.below (Ext.trans BL3_wr EE) hbl (by omega)
    have Bwr_w2 : Ext w1 w2 := Ext.below (Ext.trans Bwr EE) hbl (by omega)
    replace b10 := BL3_w2.cell Q2_b10.out
    replace b11 := BL3_w2.cell Q2_b11.out
    replace b12 := BL3_w2.cell Q2_b12.out
    clear e90
    have z_b1 : w.heap.size < w2.heap.size := qB b10
    clear OG4
    have OG4 := ho
    clear ho hbl EE SS zGB
    have s_w2 : w.heap.size ≤ w2.heap.size := Xw2.size)
   go_wp2_with fail
   go_roundw
   case rel => exact ⟨k + 1, q + v10, by omega, by go_num, by first | rfl | go_num, Lib.hid (by rw [hpt.out, hq.out]; rfl), by omega, (by rw [show (plcF false (xs.take (k+1))).1 = (plcF false (xs.take k)).1 ++ [q] from by rw [hpt.out, hq.out]; rfl]; exact OG4.ext qXt), (Bwr_w2.trans qXt)⟩
   case measure => simp [intOf]; omega
  ·
   obtain rfl : k = xs.length := by omega
   have hkI : ¬ (xs.length : Int) < xs.length := by omega
   rw [List.take_length] at OG4 hq
   go_wp2_with fail
   go_ret
   exact PInts.mk OG4 (by omega) (by have h7 := (plcF_bd false hx.out xs.length (by omega)).1; rw [List.take_length] at h7; omega) (Xwr.trans qXt)

set_option maxHeartbeats 3200000 in
theorem implPlaces_t (xs : List Int) (u : Value) (big : Bool) (w : World) (lo : Nat) (h1 : Ints w lo u xs) (hf : fmtB xs = true) :
  Calls Try.prog 54 #[.agg #[u, .bool big, .bool true]] w (PInts w (plcF true xs).1) := by
 obtain ⟨p0, c0, rfl⟩ := h1.form
 have hl5 := (fmtB_in hf).2.2
 have hx := Lib.hid (fmtB_in hf).1
 go_enter Try.func54, Try.ntmps54
 go_wp2_with fail
 generalize hW2 : w.alloc (.cells #[.slice p0 xs.length c0, .bool big, .bool true] 42) = w1 at *
 have Lw1 : Ext w w1 := by subst hW2; exact qXt
 have Xw1 : Ext w w1 := by subst hW2; exact Lw1
 have b10 : w1.cell? ⟨w.heap.size, 0, none⟩ = some (.slice p0 xs.length c0) := by subst hW2; exact qCl
 have b11 : w1.cell? ⟨w.heap.size, 1, none⟩ = some (.bool big) := by subst hW2; exact qCl
 have b12 : w1.cell? ⟨w.heap.size, 2, none⟩ = some (.bool true) := by subst hW2; exact qCl
 have z_b1 : w.heap.size < w1.heap.size := qB b10
 have s_w1 : w.heap.size ≤ w1.heap.size := Xw1.size
 have q_w1 : w1.heap.size ≤ w.heap.size + 1 := by subst hW2; simp
 clear hW2
 go_wp2_with fail
 have Q2_b10 := Lib.hid b10
 have Q2_b11 := Lib.hid b11
 have Q2_b12 := Lib.hid b12
 have Q2_zb1 := z_b1
 have BL3 : Ext w1 w1 := Ext.refl _
 have zG_BL3 := (BL3).size
 skip
 go_loopw [3, 4, 11] (fun gv ta i wr => ∃ (k : Nat) (q : Int), k ≤ xs.length ∧ i = .int .i64 k ∧ ta = .int .i64 q ∧ Hid ((plcF true (xs.take k)).2 = q) ∧ (0 ≤ q ∧ q ≤ 7 * (k : Int)) ∧ OwnI wr w1.heap.size gv ((plcF true (xs.take k)).1) ∧ Ext w1 wr) (fun _ _ i _ => xs.length - (intOf i).toNat)
 case atStart => exact ⟨0, 0, Nat.zero_le _, rfl, rfl, Lib.hid rfl, by omega, (by rw [show (plcF true (xs.take 0)).1 = [] from rfl]; rw [show w.heap.size + 1 = w1.heap.size by omega]; exact OwnI.lit0 w1 w1.heap.size (Nat.le_refl _)), qXt⟩
 case round =>
  obtain ⟨k, q, hk, rfl, rfl, hq, hqb, OG, Lwr⟩ := hrel
  have Xwr : Ext w wr := Xw1.trans Lwr
  have s_wr : w.heap.size ≤ wr.heap.size := Xwr.size
  have t_wr : w1.heap.size ≤ wr.heap.size := Lwr.size
  replace b10 := Lwr.cell b10
  replace b11 := Lwr.cell b11
  replace b12 := Lwr.cell b12
  have z_b1 : w.heap.size < wr.heap.size := qB b10
  have BL3_wr : Ext w1 wr := BL3.trans Lwr
  have Bwr : Ext w1 wr := Lwr
  obtain ⟨ga5, gc6, rfl⟩ := (OG.ints (by have := (show ((plcF true (xs.take k)).1).length ≤ 1000000 by have h7 := (plcF_bd true hx.out k (by omega)).1; omega); omega)).form
  have OG4 := OG
  clear OG
  by_cases hlt : k < xs.length
  ·
   have hkI : (k : Int) < xs.length := by omega
   have hN_e9 : k < xs.length := hlt
   have hI_e9 : (k : Int) < (xs.length : Int) := by omega
   obtain ⟨bl7, ol8, rfl, e90⟩ := h1.at k hlt
   have y_e9 : bl7 < w.heap.size := qB e90
   replace e90 := Xwr.cell e90
   obtain ⟨v10, hv10⟩ : ∃ v, xs.getD k 0 = v := ⟨_, rfl⟩
   rw [hv10] at e90
   replace hv10 := Lib.hid hv10
   have z_e9 : bl7 < wr.heap.size := qB e90
   have hbv10 := hx.out _ (getD_mem (s := xs) (d := k) hlt)
   rw [hv10.out] at hbv10
   have hrb := rupL_bd hqb.1 hbv10
   have hpt := Lib.hid (plcF_take true hlt hv10.out)
   have hnx : rupL q v10 + v10 ≤ 7 * ((k + 1 : Nat) : Int) ∧ 0 ≤ q + v10 ∧ q + v10 ≤ 7 * ((k + 1 : Nat) : Int) := by omega
   go_wp2_with fail
   refine (implRoundUp_c q v10 _ (by omega) hbv10).mono ?_
   rintro e w' ⟨rfl, rfl⟩
   have zGB := (Bwr).size
   have EE : Ext wr ((wr).alloc (.cells #[.int .i64 (rupL q v10)] 3)) := qXt
   have SS : Ints ((wr).alloc (.cells #[.int .i64 (rupL q v10)] 3)) 0 (.slice (some ⟨wr.heap.size, 0, none⟩) 1 1) [rupL q v10] := by simpa using Ints.one (wr) 0 (rupL q v10) (Nat.zero_le _)
   go_wp2_with (
    at_builtin
    refine wpList_app rfl (.tmp 20) (.tmp 22) rfl rfl rfl (by exact OG4.ext EE) (by exact SS) (by have := (show ((plcF true (xs.take k)).1).length ≤ 1000000 by have h7 := (plcF_bd true hx.out k (by omega)).1; omega); first | omega | (simp only [List.length_append, List.length_cons, List.length_nil]; omega)) qSo ?_
    intro vw2 w2 ho hg7 hbl hv7
    clear hg7 hv7
    obtain ⟨ga11, rr12, rfl⟩ : ∃ a c, vw2 = .slice a (((plcF true (xs.take k)).1).length + 1) c := by obtain ⟨a, c, h⟩ := (ho.ints (by simp only [List.length_append, List.length_cons, List.length_nil]; have := (show ((plcF true (xs.take k)).1).length ≤ 1000000 by have h7 := (plcF_bd true hx.out k (by omega)).1; omega); omega)).form; exact ⟨a, c, by rw [h, List.length_append]; rfl⟩
    have Xw2 : Ext w w2 := Ext.below (Xwr.trans EE) hbl (by omega)
    have BL3_w2 : Ext w1 w2 := Ext.below (Ext.trans BL3_wr EE) hbl (by omega)
    have Bwr_w2 : Ext w1 w2 := Ext.below (Ext.trans Bwr EE) hbl (by omega)
    replace b10 := BL3_w2.cell Q2_b10.out
    replace b11 := BL3_w2.cell Q2_b11.out
    replace b12 := BL3_w2.cell Q2_b12.out
    clear e90
    have z_b1 : w.heap.size < w2.heap.size := qB b10
    clear OG4
    have OG4 := ho
    clear ho hbl EE SS zGB
    have s_w2 : w.heap.size ≤ w2.heap.size := Xw2.size)
   go_wp2_with fail
   go_roundw
   case rel => exact ⟨k + 1, rupL q v10 + v10, by omega, by go_num, by first | rfl | go_num, Lib.hid (by rw [hpt.out, hq.out]; rfl), by omega, (by rw [show (plcF true (xs.take (k+1))).1 = (plcF true (xs.take k)).1 ++ [rupL q v10] from by rw [hpt.out, hq.out]; rfl]; exact OG4.ext qXt), (Bwr_w2.trans qXt)⟩
   case measure => simp [intOf]; omega
  ·
   obtain rfl : k = xs.length := by omega
   have hkI : ¬ (xs.length : Int) < xs.length := by omega
   rw [List.take_length] at OG4 hq
   go_wp2_with fail
   go_ret
   exact PInts.mk OG4 (by omega) (by have h7 := (plcF_bd true hx.out xs.length (by omega)).1; rw [List.take_length] at h7; omega) (Xwr.trans qXt)

theorem implPlaces_c (xs : List Int) (u : Value) (big al : Bool) (w : World) (lo : Nat) (h1 : Ints w lo u xs) (hf : fmtB xs = true) :
  Calls Try.prog 54 #[.agg #[u, .bool big, .bool al]] w (PInts w (plcF al xs).1) := by
 cases al
 ·
  exact implPlaces_f xs u big w lo h1 hf
 ·
  exact implPlaces_t xs u big w lo h1 hf
set_option maxHeartbeats 3200000 in
theorem specPlaces_f (xs : List Int) (u : Value) (big : Bool) (w : World) (lo : Nat) (h1 : Ints w lo u xs) (hf : fmtB xs = true) :
  Calls Try.prog 58 #[.agg #[u, .bool big, .bool false]] w (PPlc w (plcF false xs).1 (sizeF false xs)) := by
 obtain ⟨p0, c0, rfl⟩ := h1.form
 have hl5 := (fmtB_in hf).2.2
 have hx := Lib.hid (fmtB_in hf).1
 go_enter Try.func58, Try.ntmps58
 go_wp2_with fail
 generalize hW3 : w.alloc (.cells #[.slice p0 xs.length c0, .bool big, .bool false] 42) = w1 at *
 have Lw1 : Ext w w1 := by subst hW3; exact qXt
 have Xw1 : Ext w w1 := by subst hW3; exact Lw1
 have b10 : w1.cell? ⟨w.heap.size, 0, none⟩ = some (.slice p0 xs.length c0) := by subst hW3; exact qCl
 have b11 : w1.cell? ⟨w.heap.size, 1, none⟩ = some (.bool big) := by subst hW3; exact qCl
 have b12 : w1.cell? ⟨w.heap.size, 2, none⟩ = some (.bool false) := by subst hW3; exact qCl
 have z_b1 : w.heap.size < w1.heap.size := qB b10
 have s_w1 : w.heap.size ≤ w1.heap.size := Xw1.size
 have q_w1 : w1.heap.size ≤ w.heap.size + 1 := by subst hW3; simp
 clear hW3
 go_wp2_with fail
 have Q2_b10 := Lib.hid b10
 have Q2_b11 := Lib.hid b11
 have Q2_b12 := Lib.hid b12
 have Q2_zb1 := z_b1
 have BL3 : Ext w1 w1 := Ext.refl _
 have zG_BL3 := (BL3).size
 skip
 go_loopw [4, 5, 6, 7] (fun gv ta tm i wr => ∃ (k : Nat) (q m : Int), k ≤ xs.length ∧ i = .int .i64 k ∧ ta = .int .i64 q ∧ tm = .int .i64 m ∧ Hid (mostF false (xs.take k) = m) ∧ Hid ((plcF false (xs.take k)).2 = q) ∧ (0 ≤ q ∧ q ≤ 7 * (k : Int)) ∧ OwnI wr w1.heap.size gv ((plcF false (xs.take k)).1) ∧ Ext w1 wr) (fun _ _ _ i _ => xs.length - (intOf i).toNat)
 case atStart => exact ⟨0, 0, 1, Nat.zero_le _, rfl, rfl, rfl, Lib.hid rfl, Lib.hid rfl, by omega, (by rw [show (plcF false (xs.take 0)).1 = [] from rfl]; rw [show w.heap.size + 1 = w1.heap.size by omega]; exact OwnI.lit0 w1 w1.heap.size (Nat.le_refl _)), qXt⟩
 case round =>
  obtain ⟨k, q, m, hk, rfl, rfl, rfl, hm, hq, hqb, OG, Lwr⟩ := hrel
  have Xwr : Ext w wr := Xw1.trans Lwr
  have s_wr : w.heap.size ≤ wr.heap.size := Xwr.size
  have t_wr : w1.heap.size ≤ wr.heap.size := Lwr.size
  replace b10 := Lwr.cell b10
  replace b11 := Lwr.cell b11
  replace b12 := Lwr.cell b12
  have z_b1 : w.heap.size < wr.heap.size := qB b10
  have BL3_wr : Ext w1 wr := BL3.trans Lwr
  have Bwr : Ext w1 wr := Lwr
  obtain ⟨ga5, gc6, rfl⟩ := (OG.ints (by have := (show ((plcF false (xs.take k)).1).length ≤ 1000000 by have h7 := (plcF_bd false hx.out k (by omega)).1; omega); omega)).form
  have OG4 := OG
  clear OG
  by_cases hlt : k < xs.length
  ·
   have hkI : (k : Int) < xs.length := by omega
   have zGB := (Bwr).size
   have EE : Ext wr ((wr).alloc (.cells #[.int .i64 q] 3)) := qXt
   have SS : Ints ((wr).alloc (.cells #[.int .i64 q] 3)) 0 (.slice (some ⟨wr.heap.size, 0, none⟩) 1 1) [q] := by simpa using Ints.one (wr) 0 q (Nat.zero_le _)
   go_upto_region 11 with (
    at_builtin
    refine wpList_app rfl (.tmp 32) (.tmp 34) rfl rfl rfl (by exact OG4.ext EE) (by exact SS) (by have := (show ((plcF false (xs.take k)).1).length ≤ 1000000 by have h7 := (plcF_bd false hx.out k (by omega)).1; omega); first | omega | (simp only [List.length_append, List.length_cons, List.length_nil]; omega)) qSo ?_
    intro vw2 w2 ho hg7 hbl hv7
    clear hg7 hv7
    obtain ⟨ga7, rr8, rfl⟩ : ∃ a c, vw2 = .slice a (((plcF false (xs.take k)).1).length + 1) c := by obtain ⟨a, c, h⟩ := (ho.ints (by simp only [List.length_append, List.length_cons, List.length_nil]; have := (show ((plcF false (xs.take k)).1).length ≤ 1000000 by have h7 := (plcF_bd false hx.out k (by omega)).1; omega); omega)).form; exact ⟨a, c, by rw [h, List.length_append]; rfl⟩
    have Xw2 : Ext w w2 := Ext.below (Xwr.trans EE) hbl (by omega)
    have BL3_w2 : Ext w1 w2 := Ext.below (Ext.trans BL3_wr EE) hbl (by omega)
    have Bwr_w2 : Ext w1 w2 := Ext.below (Ext.trans Bwr EE) hbl (by omega)
    replace b10 := BL3_w2.cell Q2_b10.out
    replace b11 := BL3_w2.cell Q2_b11.out
    replace b12 := BL3_w2.cell Q2_b12.out
    have z_b1 : w.heap.size < w2.heap.size := qB b10
    clear OG4
    have OG4 := ho
    clear ho hbl EE SS zGB
    have s_w2 : w.heap.size ≤ w2.heap.size := Xw2.size)
   have hN_e11 : k < xs.length := hlt
   have hI_e11 : (k : Int) < (xs.length : Int) := by omega
   obtain ⟨bl9, ol10, rfl, e110⟩ := h1.at k hlt
   have y_e11 : bl9 < w.heap.size := qB e110
   replace e110 := Xw2.cell e110
   obtain ⟨v12, hv12⟩ : ∃ v, xs.getD k 0 = v := ⟨_, rfl⟩
   rw [hv12] at e110
   replace hv12 := Lib.hid hv12
   have z_e11 : bl9 < w2.heap.size := qB e110
   have hbv12 := hx.out _ (getD_mem (s := xs) (d := k) hlt)
   rw [hv12.out] at hbv12
   have hrb := rupL_bd hqb.1 hbv12
   have hpt := Lib.hid (plcF_take false hlt hv12.out)
   have hnx : rupL q v12 + v12 ≤ 7 * ((k + 1 : Nat) : Int) ∧ 0 ≤ q + v12 ∧ q + v12 ≤ 7 * ((k + 1 : Nat) : Int) := by omega
   go_wp2_with fail
   go_roundw
   case rel => exact ⟨k + 1, q + v12, m, by omega, by go_num, by first | rfl | go_num, by first | rfl | go_num, Lib.hid (by rw [← hm.out]; rfl), Lib.hid (by rw [hpt.out, hq.out]; rfl), by omega, (by rw [show (plcF false (xs.take (k+1))).1 = (plcF false (xs.take k)).1 ++ [q] from by rw [hpt.out, hq.out]; rfl]; exact OG4.ext qXt), (Bwr_w2.trans qXt)⟩
   case measure => simp [intOf]; omega
  ·
   obtain rfl : k = xs.length := by omega
   have hkI : ¬ (xs.length : Int) < xs.length := by omega
   rw [List.take_length] at OG4 hq hm
   go_wp2_with fail
   refine (specRoundUp_c q m _ (by omega) (by rw [← hm.out]; exact mostF_in false hx.out)).mono ?_
   rintro e w' ⟨rfl, rfl⟩
   go_wp2_with fail
   refine bodyPost_ret (v := .tuple #[.slice ga5 (((plcF false xs).1).length) gc6, .int .i64 (rupL q m)]) (by simp only [results, Try.results58]; go_simp) rfl ?_
   exact ⟨_, by rw [show sizeF false xs = rupL q m from by unfold sizeF; rw [hq.out, hm.out]], (OG4.ints (by have h7 := (plcF_bd false hx.out xs.length (by omega)).1; rw [List.take_length] at h7; omega)).lower (by omega), (OG4.lower (by omega)).z, (Xwr.trans qXt)⟩

set_option maxHeartbeats 3200000 in
theorem specPlaces_t (xs : List Int) (u : Value) (big : Bool) (w : World) (lo : Nat) (h1 : Ints w lo u xs) (hf : fmtB xs = true) :
  Calls Try.prog 58 #[.agg #[u, .bool big, .bool true]] w (PPlc w (plcF true xs).1 (sizeF true xs)) := by
 obtain ⟨p0, c0, rfl⟩ := h1.form
 have hl5 := (fmtB_in hf).2.2
 have hx := Lib.hid (fmtB_in hf).1
 go_enter Try.func58, Try.ntmps58
 go_wp2_with fail
 generalize hW4 : w.alloc (.cells #[.slice p0 xs.length c0, .bool big, .bool true] 42) = w1 at *
 have Lw1 : Ext w w1 := by subst hW4; exact qXt
 have Xw1 : Ext w w1 := by subst hW4; exact Lw1
 have b10 : w1.cell? ⟨w.heap.size, 0, none⟩ = some (.slice p0 xs.length c0) := by subst hW4; exact qCl
 have b11 : w1.cell? ⟨w.heap.size, 1, none⟩ = some (.bool big) := by subst hW4; exact qCl
 have b12 : w1.cell? ⟨w.heap.size, 2, none⟩ = some (.bool true) := by subst hW4; exact qCl
 have z_b1 : w.heap.size < w1.heap.size := qB b10
 have s_w1 : w.heap.size ≤ w1.heap.size := Xw1.size
 have q_w1 : w1.heap.size ≤ w.heap.size + 1 := by subst hW4; simp
 clear hW4
 go_wp2_with fail
 have Q2_b10 := Lib.hid b10
 have Q2_b11 := Lib.hid b11
 have Q2_b12 := Lib.hid b12
 have Q2_zb1 := z_b1
 have BL3 : Ext w1 w1 := Ext.refl _
 have zG_BL3 := (BL3).size
 skip
 go_loopw [4, 5, 6, 7] (fun gv ta tm i wr => ∃ (k : Nat) (q m : Int), k ≤ xs.length ∧ i = .int .i64 k ∧ ta = .int .i64 q ∧ tm = .int .i64 m ∧ Hid (mostF true (xs.take k) = m) ∧ Hid ((plcF true (xs.take k)).2 = q) ∧ (0 ≤ q ∧ q ≤ 7 * (k : Int)) ∧ OwnI wr w1.heap.size gv ((plcF true (xs.take k)).1) ∧ Ext w1 wr) (fun _ _ _ i _ => xs.length - (intOf i).toNat)
 case atStart => exact ⟨0, 0, 1, Nat.zero_le _, rfl, rfl, rfl, Lib.hid rfl, Lib.hid rfl, by omega, (by rw [show (plcF true (xs.take 0)).1 = [] from rfl]; rw [show w.heap.size + 1 = w1.heap.size by omega]; exact OwnI.lit0 w1 w1.heap.size (Nat.le_refl _)), qXt⟩
 case round =>
  obtain ⟨k, q, m, hk, rfl, rfl, rfl, hm, hq, hqb, OG, Lwr⟩ := hrel
  have Xwr : Ext w wr := Xw1.trans Lwr
  have s_wr : w.heap.size ≤ wr.heap.size := Xwr.size
  have t_wr : w1.heap.size ≤ wr.heap.size := Lwr.size
  replace b10 := Lwr.cell b10
  replace b11 := Lwr.cell b11
  replace b12 := Lwr.cell b12
  have z_b1 : w.heap.size < wr.heap.size := qB b10
  have BL3_wr : Ext w1 wr := BL3.trans Lwr
  have Bwr : Ext w1 wr := Lwr
  obtain ⟨ga5, gc6, rfl⟩ := (OG.ints (by have := (show ((plcF true (xs.take k)).1).length ≤ 1000000 by have h7 := (plcF_bd true hx.out k (by omega)).1; omega); omega)).form
  have OG4 := OG
  clear OG
  by_cases hlt : k < xs.length
  ·
   have hkI : (k : Int) < xs.length := by omega
   have hN_e9 : k < xs.length := hlt
   have hI_e9 : (k : Int) < (xs.length : Int) := by omega
   obtain ⟨bl7, ol8, rfl, e90⟩ := h1.at k hlt
   have y_e9 : bl7 < w.heap.size := qB e90
   replace e90 := Xwr.cell e90
   obtain ⟨v10, hv10⟩ : ∃ v, xs.getD k 0 = v := ⟨_, rfl⟩
   rw [hv10] at e90
   replace hv10 := Lib.hid hv10
   have z_e9 : bl7 < wr.heap.size := qB e90
   have hbv10 := hx.out _ (getD_mem (s := xs) (d := k) hlt)
   rw [hv10.out] at hbv10
   have hrb := rupL_bd hqb.1 hbv10
   have hpt := Lib.hid (plcF_take true hlt hv10.out)
   have hnx : rupL q v10 + v10 ≤ 7 * ((k + 1 : Nat) : Int) ∧ 0 ≤ q + v10 ∧ q + v10 ≤ 7 * ((k + 1 : Nat) : Int) := by omega
   go_wp2_with fail
   refine (specRoundUp_c q v10 _ (by omega) hbv10).mono ?_
   rintro e w' ⟨rfl, rfl⟩
   have zGB := (Bwr).size
   have EE : Ext wr ((wr).alloc (.cells #[.int .i64 (rupL q v10)] 3)) := qXt
   have SS : Ints ((wr).alloc (.cells #[.int .i64 (rupL q v10)] 3)) 0 (.slice (some ⟨wr.heap.size, 0, none⟩) 1 1) [rupL q v10] := by simpa using Ints.one (wr) 0 (rupL q v10) (Nat.zero_le _)
   go_upto_region 11 with (
    at_builtin
    refine wpList_app rfl (.tmp 32) (.tmp 34) rfl rfl rfl (by exact OG4.ext EE) (by exact SS) (by have := (show ((plcF true (xs.take k)).1).length ≤ 1000000 by have h7 := (plcF_bd true hx.out k (by omega)).1; omega); first | omega | (simp only [List.length_append, List.length_cons, List.length_nil]; omega)) qSo ?_
    intro vw2 w2 ho hg7 hbl hv7
    clear hg7 hv7
    obtain ⟨ga14, rr15, rfl⟩ : ∃ a c, vw2 = .slice a (((plcF true (xs.take k)).1).length + 1) c := by obtain ⟨a, c, h⟩ := (ho.ints (by simp only [List.length_append, List.length_cons, List.length_nil]; have := (show ((plcF true (xs.take k)).1).length ≤ 1000000 by have h7 := (plcF_bd true hx.out k (by omega)).1; omega); omega)).form; exact ⟨a, c, by rw [h, List.length_append]; rfl⟩
    have Xw2 : Ext w w2 := Ext.below (Xwr.trans EE) hbl (by omega)
    have BL3_w2 : Ext w1 w2 := Ext.below (Ext.trans BL3_wr EE) hbl (by omega)
    have Bwr_w2 : Ext w1 w2 := Ext.below (Ext.trans Bwr EE) hbl (by omega)
    replace b10 := BL3_w2.cell Q2_b10.out
    replace b11 := BL3_w2.cell Q2_b11.out
    replace b12 := BL3_w2.cell Q2_b12.out
    clear e90
    have z_b1 : w.heap.size < w2.heap.size := qB b10
    clear OG4
    have OG4 := ho
    clear ho hbl EE SS zGB
    have s_w2 : w.heap.size ≤ w2.heap.size := Xw2.size)
   have hN_e18 : k < xs.length := hlt
   have hI_e18 : (k : Int) < (xs.length : Int) := by omega
   obtain ⟨b_e18, o_e18, h_e18, e180⟩ := h1.at k hlt
   cases h_e18
   have y_e18 : bl7 < w.heap.size := qB e180
   replace e180 := Xw2.cell e180
   rw [hv10.out] at e180
   have z_e18 : bl7 < w2.heap.size := qB e180
   go_wp2_with fail
   go_roundw
   case rel => exact ⟨k + 1, rupL q v10 + v10, max m v10, by omega, by go_num, by first | rfl | go_num, by first | rfl | go_num, Lib.hid (by rw [mostF_take true hlt hv10.out, hm.out]; rfl), Lib.hid (by rw [hpt.out, hq.out]; rfl), by omega, (by rw [show (plcF true (xs.take (k+1))).1 = (plcF true (xs.take k)).1 ++ [rupL q v10] from by rw [hpt.out, hq.out]; rfl]; exact OG4.ext qXt), (Bwr_w2.trans qXt)⟩
   case measure => simp [intOf]; omega
  ·
   obtain rfl : k = xs.length := by omega
   have hkI : ¬ (xs.length : Int) < xs.length := by omega
   rw [List.take_length] at OG4 hq hm
   go_wp2_with fail
   refine (specRoundUp_c q m _ (by omega) (by rw [← hm.out]; exact mostF_in true hx.out)).mono ?_
   rintro e w' ⟨rfl, rfl⟩
   go_wp2_with fail
   refine bodyPost_ret (v := .tuple #[.slice ga5 (((plcF true xs).1).length) gc6, .int .i64 (rupL q m)]) (by simp only [results, Try.results58]; go_simp) rfl ?_
   exact ⟨_, by rw [show sizeF true xs = rupL q m from by unfold sizeF; rw [hq.out, hm.out]], (OG4.ints (by have h7 := (plcF_bd true hx.out xs.length (by omega)).1; rw [List.take_length] at h7; omega)).lower (by omega), (OG4.lower (by omega)).z, (Xwr.trans qXt)⟩

theorem specPlaces_c (xs : List Int) (u : Value) (big al : Bool) (w : World) (lo : Nat) (h1 : Ints w lo u xs) (hf : fmtB xs = true) :
  Calls Try.prog 58 #[.agg #[u, .bool big, .bool al]] w (PPlc w (plcF al xs).1 (sizeF al xs)) := by
 cases al
 ·
  exact specPlaces_f xs u big w lo h1 hf
 ·
  exact specPlaces_t xs u big w lo h1 hf

end Go.Proofs.Ytpgkhjmboiepcaa

/- Walks: sizes of items. -/
namespace Go.Proofs.Ytpgkhjmboiepcaa
open Go.RowKit
set_option linter.unusedVariables false
set_option maxRecDepth 100000

theorem fold_max_most : ∀ (r : List Int) (x : Int), (x = 1 ∨ x = 2 ∨ x = 4) → (x :: r).foldl max x = (x :: r).foldl max 1 := fun r x hx => by
  rw [List.foldl_cons, List.foldl_cons, show max x x = max 1 x by omega]
theorem max_most {xs : List Int} (h : fmtB xs = true) : maxL xs = mostF true xs := by
  obtain ⟨h1, h2, -⟩ := fmtB_in h
  cases xs with
  | nil => simp at h2
  | cons x r => exact fold_max_most r x (h1 x (by simp))
theorem size_f (xs : List Int) : sizeF false xs = (plcF false xs).2 := rup_one _
set_option maxHeartbeats 1600000 in
theorem implSize_f (xs : List Int) (u : Value) (big : Bool) (w : World) (lo : Nat) (h1 : Ints w lo u xs) (hf : fmtB xs = true) :
    Calls Try.prog 55 #[.agg #[u, .bool big, .bool false]] w fun e w' => e = .returned (.int .i64 (sizeF false xs)) ∧ Ext w w' := by
  obtain ⟨p0, c0, rfl⟩ := h1.form
  obtain ⟨n, hn⟩ : ∃ n : Nat, n + 1 = xs.length := ⟨xs.length - 1, by have := (fmtB_in hf).2.1; omega⟩
  have hn5 : n ≤ 4 := by have := (fmtB_in hf).2.2; omega
  have hle := last_end false (fmtB_in hf).1 hn
  have hnI : (xs.length : Int) - 1 = (n : Int) := by omega
  have hni : (n : Int) < (xs.length : Int) := by omega
  have hbd := plcF_bd false (fmtB_in hf).1 xs.length (Nat.le_refl _)
  rw [List.take_length] at hbd
  have hnp : (n : Int) < (((plcF false xs).1).length : Int) := by omega
  have hnN : n < ((plcF false xs).1).length := by omega
  have hn0 : ¬ (n : Int) < 0 := by omega
  obtain ⟨bl, ol, rfl, e0w⟩ := h1.at n (by omega)
  have y_e : bl < w.heap.size := qB e0w
  obtain ⟨v, hv⟩ : ∃ v, xs.getD n 0 = v := ⟨_, rfl⟩
  rw [hv] at e0w hle
  obtain ⟨p, hp⟩ : ∃ p, (plcF false xs).1.getD n 0 = p := ⟨_, rfl⟩
  rw [hp] at hle
  obtain ⟨E, hE⟩ : ∃ E, (plcF false xs).2 = E := ⟨_, rfl⟩
  rw [hE] at hle hbd
  replace hp := Lib.hid hp
  replace hv := Lib.hid hv
  replace hE := Lib.hid hE
  replace hle := Lib.hid hle
  have hw1 : IntKind.i64.wrap ((xs.length : Int) - 1) = (n : Int) := by rw [hnI]; exact IntWalk.i64_in _ (by omega)
  have hw2 : IntKind.i64.wrap (p + v) = E := by rw [hle.out]; exact IntWalk.i64_in _ (by omega)
  go_enter Try.func55, Try.ntmps55
  go_wp2_with fail
  generalize hW1 : w.alloc (.cells #[.slice (some ⟨bl, ol, none⟩) xs.length c0, .bool big, .bool false] 42) = w1 at *
  have Lw1 : Ext w w1 := by subst hW1; exact qXt
  have Xw1 : Ext w w1 := by subst hW1; exact Lw1
  have b0 : w1.cell? ⟨w.heap.size, 0, none⟩ = some (.slice (some ⟨bl, ol, none⟩) xs.length c0) := by subst hW1; exact qCl
  have b1 : w1.cell? ⟨w.heap.size, 1, none⟩ = some (.bool big) := by subst hW1; exact qCl
  have b2 : w1.cell? ⟨w.heap.size, 2, none⟩ = some (.bool false) := by subst hW1; exact qCl
  have z_b : w.heap.size < w1.heap.size := qB b0
  have s_w1 : w.heap.size ≤ w1.heap.size := Xw1.size
  clear hW1
  have e0 := Xw1.cell e0w
  have z_e : bl < w1.heap.size := qB e0
  clear e0w
  go_wp2_with fail
  refine wp_region_held_drew (S := fun w' => w'.cell? ⟨w.heap.size, 0, none⟩ = some (.slice (some ⟨bl, ol, none⟩) xs.length c0) ∧ w'.cell? ⟨w.heap.size, 1, none⟩ = some (.bool big) ∧ w'.cell? ⟨w.heap.size, 2, none⟩ = some (.bool false) ∧ w'.cell? ⟨bl, ol + n, none⟩ = some (.int .i64 v)) qKr ⟨b0, b1, b2, e0⟩ (fun hHeld => ?_)
  refine qHk (v := ?_) 0 rfl (.inl ⟨by rfl, ?_⟩) ?_
  rotate_left
  · (intro w hSw; (try dsimp only at hSw); go_simp; try with_reducible rfl)
  try simp only [Act.put, qa, qb, qc, qD, qE, qF]
  refine qHk (v := ?_) 2 rfl (.inl ⟨by rfl, ?_⟩) ?_
  rotate_left
  · (intro w hSw; (try dsimp only at hSw); go_simp; try with_reducible rfl)
  try simp only [Act.put, qa, qb, qc, qD, qE, qF]
  refine qHk (v := ?_) 5 rfl (.inl ⟨by rfl, ?_⟩) ?_
  rotate_left
  · (intro w hSw; (try dsimp only at hSw); go_simp; try with_reducible rfl)
  try simp only [Act.put, qa, qb, qc, qD, qE, qF]
  refine qHk (v := ?_) 6 rfl (.inl ⟨by rfl, ?_⟩) ?_
  rotate_left
  · (intro w hSw; (try dsimp only at hSw); go_simp; try with_reducible rfl)
  try simp only [Act.put, qa, qb, qc, qD, qE, qF]
  refine qHk (v := ?_) 7 rfl (.inl ⟨by rfl, ?_⟩) ?_
  rotate_left
  · (intro w hSw; (try dsimp only at hSw); go_simp; try with_reducible rfl)
  try simp only [Act.put, qa, qb, qc, qD, qE, qF]
  refine qHk (v := ?_) 8 rfl (.inl ⟨by rfl, ?_⟩) ?_
  rotate_left
  · (intro w hSw; (try dsimp only at hSw); go_simp; try with_reducible rfl)
  try simp only [Act.put, qa, qb, qc, qD, qE, qF]
  refine qHk (v := ?_) 9 rfl (.inl ⟨by rfl, ?_⟩) ?_
  rotate_left
  · (intro w hSw; (try dsimp only at hSw); go_simp; try with_reducible rfl)
  try simp only [Act.put, qa, qb, qc, qD, qE, qF]
  refine qHr 1 rfl (fun K hK => ?_)
  try simp only [Act.put, qa, qb, qc, qD, qE, qF]
  go_simp
  refine (implPlaces_c xs _ big false _ _ (h1.ext (Xw1.trans qXt)) hf).mono ?_
  rintro e w2 ⟨pv, rfl, iP, -, xw2⟩
  obtain ⟨p5, c5, rfl⟩ := iP.form
  have Lw2 : Ext w1 w2 := Ext.trans qXt xw2
  have Xw2 : Ext w w2 := Xw1.trans Lw2
  replace b0 := Lw2.cell b0
  replace b1 := Lw2.cell b1
  replace b2 := Lw2.cell b2
  replace e0 := Lw2.cell e0
  have z_b : w.heap.size < w2.heap.size := qB b0
  have z_e : bl < w2.heap.size := qB e0
  have s_w2 : w.heap.size ≤ w2.heap.size := Xw2.size
  clear xw2
  refine hK.out _ _ ⟨b0, b1, b2, e0⟩ (fun hHeld => ?_)
  clear hK K
  try simp only [Act.put, qa, qb, qc, qD, qE, qF]
  obtain ⟨bp, op, rfl, ep⟩ := iP.at n hnN
  rw [hp.out] at ep
  refine qHk (v := ?_) 3 rfl (.inl ⟨by rfl, ?_⟩) ?_
  rotate_left
  · (intro w hSw; (try dsimp only at hSw); go_simp; try with_reducible rfl)
  try simp only [Act.put, qa, qb, qc, qD, qE, qF]
  refine qHr 4 rfl (fun K hK => ?_)
  try simp only [Act.put, qa, qb, qc, qD, qE, qF]
  go_simp
  refine hK.out _ _ ⟨b0, b1, b2, e0⟩ (fun hHeld => ?_)
  clear hK K
  try simp only [Act.put, qa, qb, qc, qD, qE, qF]
  refine qHk (v := ?_) 10 rfl (.inl ⟨by rfl, ?_⟩) ?_
  rotate_left
  · (intro w hSw; (try dsimp only at hSw); go_simp; try with_reducible rfl)
  try simp only [Act.put, qa, qb, qc, qD, qE, qF]
  refine qHk (v := ?_) 11 rfl (.inl ⟨by rfl, ?_⟩) ?_
  rotate_left
  · (intro w hSw; (try dsimp only at hSw); go_simp; try with_reducible rfl)
  try simp only [Act.put, qa, qb, qc, qD, qE, qF]
  refine wpAnyH_done qKr ?_ _
  clear hHeld
  have hsz : sizeF false xs = E := by rw [size_f, hE.out]
  go_wp2_with fail
  go_ret
  exact ⟨by rw [hsz] <;> rfl, Xw2.trans qXt⟩
set_option maxHeartbeats 1600000 in
theorem implSize_t (xs : List Int) (u : Value) (big : Bool) (w : World) (lo : Nat) (h1 : Ints w lo u xs) (hf : fmtB xs = true) :
    Calls Try.prog 55 #[.agg #[u, .bool big, .bool true]] w fun e w' => e = .returned (.int .i64 (sizeF true xs)) ∧ Ext w w' := by
  obtain ⟨p0, c0, rfl⟩ := h1.form
  obtain ⟨n, hn⟩ : ∃ n : Nat, n + 1 = xs.length := ⟨xs.length - 1, by have := (fmtB_in hf).2.1; omega⟩
  have hn5 : n ≤ 4 := by have := (fmtB_in hf).2.2; omega
  have hle := last_end true (fmtB_in hf).1 hn
  have hnI : (xs.length : Int) - 1 = (n : Int) := by omega
  have hni : (n : Int) < (xs.length : Int) := by omega
  have hbd := plcF_bd true (fmtB_in hf).1 xs.length (Nat.le_refl _)
  rw [List.take_length] at hbd
  have hnp : (n : Int) < (((plcF true xs).1).length : Int) := by omega
  have hnN : n < ((plcF true xs).1).length := by omega
  have hn0 : ¬ (n : Int) < 0 := by omega
  obtain ⟨bl, ol, rfl, e0w⟩ := h1.at n (by omega)
  have y_e : bl < w.heap.size := qB e0w
  obtain ⟨v, hv⟩ : ∃ v, xs.getD n 0 = v := ⟨_, rfl⟩
  rw [hv] at e0w hle
  obtain ⟨p, hp⟩ : ∃ p, (plcF true xs).1.getD n 0 = p := ⟨_, rfl⟩
  rw [hp] at hle
  obtain ⟨E, hE⟩ : ∃ E, (plcF true xs).2 = E := ⟨_, rfl⟩
  rw [hE] at hle hbd
  replace hp := Lib.hid hp
  replace hv := Lib.hid hv
  replace hE := Lib.hid hE
  replace hle := Lib.hid hle
  have hw1 : IntKind.i64.wrap ((xs.length : Int) - 1) = (n : Int) := by rw [hnI]; exact IntWalk.i64_in _ (by omega)
  have hw2 : IntKind.i64.wrap (p + v) = E := by rw [hle.out]; exact IntWalk.i64_in _ (by omega)
  go_enter Try.func55, Try.ntmps55
  go_wp2_with fail
  generalize hW2 : w.alloc (.cells #[.slice (some ⟨bl, ol, none⟩) xs.length c0, .bool big, .bool true] 42) = w1 at *
  have Lw1 : Ext w w1 := by subst hW2; exact qXt
  have Xw1 : Ext w w1 := by subst hW2; exact Lw1
  have b0 : w1.cell? ⟨w.heap.size, 0, none⟩ = some (.slice (some ⟨bl, ol, none⟩) xs.length c0) := by subst hW2; exact qCl
  have b1 : w1.cell? ⟨w.heap.size, 1, none⟩ = some (.bool big) := by subst hW2; exact qCl
  have b2 : w1.cell? ⟨w.heap.size, 2, none⟩ = some (.bool true) := by subst hW2; exact qCl
  have z_b : w.heap.size < w1.heap.size := qB b0
  have s_w1 : w.heap.size ≤ w1.heap.size := Xw1.size
  clear hW2
  have e0 := Xw1.cell e0w
  have z_e : bl < w1.heap.size := qB e0
  clear e0w
  go_wp2_with fail
  refine wp_region_held_drew (S := fun w' => w'.cell? ⟨w.heap.size, 0, none⟩ = some (.slice (some ⟨bl, ol, none⟩) xs.length c0) ∧ w'.cell? ⟨w.heap.size, 1, none⟩ = some (.bool big) ∧ w'.cell? ⟨w.heap.size, 2, none⟩ = some (.bool true) ∧ w'.cell? ⟨bl, ol + n, none⟩ = some (.int .i64 v)) qKr ⟨b0, b1, b2, e0⟩ (fun hHeld => ?_)
  refine qHk (v := ?_) 0 rfl (.inl ⟨by rfl, ?_⟩) ?_
  rotate_left
  · (intro w hSw; (try dsimp only at hSw); go_simp; try with_reducible rfl)
  try simp only [Act.put, qa, qb, qc, qD, qE, qF]
  refine qHk (v := ?_) 2 rfl (.inl ⟨by rfl, ?_⟩) ?_
  rotate_left
  · (intro w hSw; (try dsimp only at hSw); go_simp; try with_reducible rfl)
  try simp only [Act.put, qa, qb, qc, qD, qE, qF]
  refine qHk (v := ?_) 5 rfl (.inl ⟨by rfl, ?_⟩) ?_
  rotate_left
  · (intro w hSw; (try dsimp only at hSw); go_simp; try with_reducible rfl)
  try simp only [Act.put, qa, qb, qc, qD, qE, qF]
  refine qHk (v := ?_) 6 rfl (.inl ⟨by rfl, ?_⟩) ?_
  rotate_left
  · (intro w hSw; (try dsimp only at hSw); go_simp; try with_reducible rfl)
  try simp only [Act.put, qa, qb, qc, qD, qE, qF]
  refine qHk (v := ?_) 7 rfl (.inl ⟨by rfl, ?_⟩) ?_
  rotate_left
  · (intro w hSw; (try dsimp only at hSw); go_simp; try with_reducible rfl)
  try simp only [Act.put, qa, qb, qc, qD, qE, qF]
  refine qHk (v := ?_) 8 rfl (.inl ⟨by rfl, ?_⟩) ?_
  rotate_left
  · (intro w hSw; (try dsimp only at hSw); go_simp; try with_reducible rfl)
  try simp only [Act.put, qa, qb, qc, qD, qE, qF]
  refine qHk (v := ?_) 9 rfl (.inl ⟨by rfl, ?_⟩) ?_
  rotate_left
  · (intro w hSw; (try dsimp only at hSw); go_simp; try with_reducible rfl)
  try simp only [Act.put, qa, qb, qc, qD, qE, qF]
  refine qHr 1 rfl (fun K hK => ?_)
  try simp only [Act.put, qa, qb, qc, qD, qE, qF]
  go_simp
  refine (implPlaces_c xs _ big true _ _ (h1.ext (Xw1.trans qXt)) hf).mono ?_
  rintro e w2 ⟨pv, rfl, iP, -, xw2⟩
  obtain ⟨p5, c5, rfl⟩ := iP.form
  have Lw2 : Ext w1 w2 := Ext.trans qXt xw2
  have Xw2 : Ext w w2 := Xw1.trans Lw2
  replace b0 := Lw2.cell b0
  replace b1 := Lw2.cell b1
  replace b2 := Lw2.cell b2
  replace e0 := Lw2.cell e0
  have z_b : w.heap.size < w2.heap.size := qB b0
  have z_e : bl < w2.heap.size := qB e0
  have s_w2 : w.heap.size ≤ w2.heap.size := Xw2.size
  clear xw2
  refine hK.out _ _ ⟨b0, b1, b2, e0⟩ (fun hHeld => ?_)
  clear hK K
  try simp only [Act.put, qa, qb, qc, qD, qE, qF]
  obtain ⟨bp, op, rfl, ep⟩ := iP.at n hnN
  rw [hp.out] at ep
  refine qHk (v := ?_) 3 rfl (.inl ⟨by rfl, ?_⟩) ?_
  rotate_left
  · (intro w hSw; (try dsimp only at hSw); go_simp; try with_reducible rfl)
  try simp only [Act.put, qa, qb, qc, qD, qE, qF]
  refine qHr 4 rfl (fun K hK => ?_)
  try simp only [Act.put, qa, qb, qc, qD, qE, qF]
  go_simp
  refine hK.out _ _ ⟨b0, b1, b2, e0⟩ (fun hHeld => ?_)
  clear hK K
  try simp only [Act.put, qa, qb, qc, qD, qE, qF]
  refine qHk (v := ?_) 10 rfl (.inl ⟨by rfl, ?_⟩) ?_
  rotate_left
  · (intro w hSw; (try dsimp only at hSw); go_simp; try with_reducible rfl)
  try simp only [Act.put, qa, qb, qc, qD, qE, qF]
  refine qHk (v := ?_) 11 rfl (.inl ⟨by rfl, ?_⟩) ?_
  rotate_left
  · (intro w hSw; (try dsimp only at hSw); go_simp; try with_reducible rfl)
  try simp only [Act.put, qa, qb, qc, qD, qE, qF]
  refine wpAnyH_done qKr ?_ _
  clear hHeld
  go_wp2_with fail
  refine (max_c xs _ _ _ (h1.ext (Xw2.trans qXt)) (by intro h7; rw [h7] at hn; simp at hn)).mono ?_
  rintro e w' ⟨rfl, rfl⟩
  rw [max_most hf]
  go_wp2_with fail
  refine (implRoundUp_c E (mostF true xs) _ (by omega) (mostF_in true (fmtB_in hf).1)).mono ?_
  rintro e w' ⟨rfl, rfl⟩
  have hsz : sizeF true xs = rupL E (mostF true xs) := by unfold sizeF; rw [hE.out]
  go_wp2_with fail
  go_ret
  exact ⟨by rw [hsz] <;> rfl, Xw2.trans qXt⟩
theorem implSize_c (xs : List Int) (u : Value) (big al : Bool) (w : World) (lo : Nat) (h1 : Ints w lo u xs) (hf : fmtB xs = true) :
    Calls Try.prog 55 #[.agg #[u, .bool big, .bool al]] w fun e w' => e = .returned (.int .i64 (sizeF al xs)) ∧ Ext w w' := by
  cases al
  · exact implSize_f xs u big w lo h1 hf
  · exact implSize_t xs u big w lo h1 hf

end Go.Proofs.Ytpgkhjmboiepcaa

/- Walks: slices.Delete of one number of a row of one's own. -/
namespace Go.Proofs.Ytpgkhjmboiepcaa
open Go.RowKit
set_option linter.unusedVariables false
set_option maxRecDepth 100000

theorem Ints.chgN {w w' : World} {lo l h g o n c : Nat} {xs : List Int} (I : Ints w lo (.slice (some ⟨g, o, none⟩) n c) xs) (k : Chg l h w w') (hg : g < l ∨ h ≤ g) : Ints w' lo (.slice (some ⟨g, o, none⟩) n c) xs := by
  obtain ⟨a', c', e, h1, h2, h3, h4⟩ := I
  cases e
  refine ⟨_, _, rfl, h1, h2, h3, fun i hi => ?_⟩
  obtain ⟨b, of, ha, hb, hc, hf⟩ := h4 i hi
  cases ha
  exact ⟨_, _, rfl, hb, k.cell hg hc, k.frzO hg (qB hc) hf⟩
/-- a call hands back a view and whether there is one -/
def PVWB (w : World) (b : Int) (s t : List Int) (ok : Bool) (e : Ending) (w' : World) : Prop := ∃ u v, e = .returned (.tuple #[.agg #[.int .i64 b, u, v], .bool ok]) ∧ Ints w' w.heap.size u s ∧ Ints w' w.heap.size v t ∧ Ext w w'
theorem PVWB.no {w w' : World} (h : Ext w w') : PVWB w 0 [] [] false (.returned (.tuple #[.agg #[.int .i64 0, .slice none 0 0, .slice none 0 0], .bool false])) w' :=
  ⟨_, _, rfl, Ints.nil _ _ _ _ (by simp) (fun _ => rfl), Ints.nil _ _ _ _ (by simp) (fun _ => rfl), h⟩
end Go.Proofs.Ytpgkhjmboiepcaa

/- Walks: views without a dimension, of the program. -/
namespace Go.Proofs.Ytpgkhjmboiepcaa
open Go.RowKit
set_option linter.unusedVariables false
set_option maxRecDepth 100000

end Go.Proofs.Ytpgkhjmboiepcaa

/- Plain laws: views without a dimension. -/
namespace Go.Proofs.Ytpgkhjmboiepcaa
open Go.RowKit
set_option linter.unusedVariables false
set_option maxRecDepth 100000

end Go.Proofs.Ytpgkhjmboiepcaa

/- Walks: PickDim of the program. -/
namespace Go.Proofs.Ytpgkhjmboiepcaa
open Go.RowKit
set_option linter.unusedVariables false
set_option maxRecDepth 100000


def PVX (w : World) (x : VBool) (e : Ending) (w' : World) : Prop := PVWB w x.1 x.2.1 x.2.2.1 x.2.2.2 e w'
end Go.Proofs.Ytpgkhjmboiepcaa

/- Walks: FieldView of the program. -/
namespace Go.Proofs.Ytpgkhjmboiepcaa
open Go.RowKit
set_option linter.unusedVariables false
set_option maxRecDepth 100000

structure Row2 (w1 w : World) (g : Nat) (x y : Int) : Prop where
 ge : w1.heap.size ≤ g
 c0 : w.cell? ⟨g, 0, none⟩ = some (.int .i64 x)
 c1 : w.cell? ⟨g, 1, none⟩ = some (.int .i64 y)
 f0 : w.frozen? ⟨g, 0, none⟩ = false
 f1 : w.frozen? ⟨g, 1, none⟩ = false
section
variable {w1 w w' : World} {g c : Nat} {x y : Int} {u0 u1 u2 : Value}
theorem Row2.lt (h : Row2 w1 w g x y) : g < w.heap.size := qB h.c0
theorem Row2.ext (h : Row2 w1 w g x y) (k : Ext w w') : Row2 w1 w' g x y := ⟨h.ge, k.cell h.c0, k.cell h.c1, k.frz h.lt h.f0, k.frz h.lt h.f1⟩
theorem Row2.chg (h : Row2 w1 w g x y) (k : Chg c (c + 1) w w') (hd : g ≠ c) : Row2 w1 w' g x y := ⟨h.ge, k.cell (by omega) h.c0, k.cell (by omega) h.c1, k.frzO (by omega) h.lt h.f0, k.frzO (by omega) h.lt h.f1⟩
theorem Row2.new (X : Ext w1 w) (x y : Int) : Row2 w1 (w.alloc (.cells #[.int .i64 x, .int .i64 y] 3)) w.heap.size x y := ⟨X.size, by first | (simp; done) | (go_simp; done), by first | (simp; done) | (go_simp; done), by first | (simp; done) | (go_simp; done), by first | (simp; done) | (go_simp; done)⟩
theorem Row2.newD (X : Ext w1 w) (x y : Int) : Row2 w1 (w.drew.alloc (.cells #[.int .i64 x, .int .i64 y] 3)) w.heap.size x y := ⟨X.size, by first | (simp; done) | (go_simp; done), by first | (simp; done) | (go_simp; done), by first | (simp; done) | (go_simp; done), by first | (simp; done) | (go_simp; done)⟩
end
structure Box3 (w1 w : World) (g : Nat) (u0 u1 u2 : Value) : Prop where
 ge : w1.heap.size ≤ g
 c0 : w.cell? ⟨g, 0, none⟩ = some u0
 c1 : w.cell? ⟨g, 1, none⟩ = some u1
 c2 : w.cell? ⟨g, 2, none⟩ = some u2
 f0 : w.frozen? ⟨g, 0, none⟩ = false
 f1 : w.frozen? ⟨g, 1, none⟩ = false
 f2 : w.frozen? ⟨g, 2, none⟩ = false
section
variable {w1 w w' : World} {g c : Nat} {x y : Int} {u0 u1 u2 : Value}
theorem Box3.lt (h : Box3 w1 w g u0 u1 u2) : g < w.heap.size := qB h.c0
theorem Box3.ext (h : Box3 w1 w g u0 u1 u2) (k : Ext w w') : Box3 w1 w' g u0 u1 u2 := ⟨h.ge, k.cell h.c0, k.cell h.c1, k.cell h.c2, k.frz h.lt h.f0, k.frz h.lt h.f1, k.frz h.lt h.f2⟩
theorem Box3.new (X : Ext w1 w) : Box3 w1 (w.alloc (.cells #[.int .i64 0, .slice none 0 0, .slice none 0 0] 25)) w.heap.size (.int .i64 0) (.slice none 0 0) (.slice none 0 0) := ⟨X.size, by first | (simp; done) | (go_simp; done), by first | (simp; done) | (go_simp; done), by first | (simp; done) | (go_simp; done), by first | (simp; done) | (go_simp; done), by first | (simp; done) | (go_simp; done), by first | (simp; done) | (go_simp; done)⟩
theorem Box3.newD (X : Ext w1 w) : Box3 w1 (w.drew.alloc (.cells #[.int .i64 0, .slice none 0 0, .slice none 0 0] 25)) w.heap.size (.int .i64 0) (.slice none 0 0) (.slice none 0 0) := ⟨X.size, by first | (simp; done) | (go_simp; done), by first | (simp; done) | (go_simp; done), by first | (simp; done) | (go_simp; done), by first | (simp; done) | (go_simp; done), by first | (simp; done) | (go_simp; done), by first | (simp; done) | (go_simp; done)⟩
theorem Box3.set (h : Box3 w1 w g u0 u1 u2) (v0 v1 v2 : Value) : Box3 w1 (((w.setCell ⟨g, 0, none⟩ v0).setCell ⟨g, 1, none⟩ v1).setCell ⟨g, 2, none⟩ v2) g v0 v1 v2 := by
 obtain ⟨h0, c0, c1, c2, f0, f1, f2⟩ := h
 refine ⟨h0, by go_simp, by go_simp, by go_simp, ?_, ?_, ?_⟩ <;> (simp only [World.frozen?_setCell]; with_reducible assumption)
end
theorem wpAnyH_sub {P : Program} {md : Region.Mode} {ops : Array Oper} {Q : Exit → Act → World → Prop} {S S' : World → Prop} (h : ∀ w, S' w → S w) : ∀ (fuel : Nat) (listed : Array Bool) (a : Act) (w : World), wpAnyH P md ops Q S' fuel listed a w → wpAnyH P md ops Q S fuel listed a w
 | 0, _, _, _, H => H
 | fuel + 1, _, _, _, H => ⟨H.1, fun i hi => wpOp_mono (fun a' w' h3 => ⟨h _ h3.1, wpAnyH_sub h fuel _ a' w' h3.2⟩) (H.2 i hi)⟩
theorem Ints.two {w : World} {a : Nat} {x y : Int} (h0 : w.cell? ⟨a, 0, none⟩ = some (.int .i64 x)) (h1 : w.cell? ⟨a, 1, none⟩ = some (.int .i64 y)) (f0 : w.frozen? ⟨a, 0, none⟩ = false) (f1 : w.frozen? ⟨a, 1, none⟩ = false) : Ints w a (.slice (some ⟨a, 0, none⟩) 2 2) [x, y] :=
 ⟨some ⟨a, 0, none⟩, 2, rfl, by simp, by unfold maxLen; omega, ⟨by simp, fun h => by cases h⟩, fun i hi => by
  match i, hi with
  | 0, _ => exact ⟨a, 0, rfl, Nat.le_refl _, h0, f0⟩
  | 1, _ => exact ⟨a, 0, rfl, Nat.le_refl _, h1, f1⟩
  | n + 2, hi => exact absurd hi (by simp)⟩
theorem fldB_f {al big : Bool} {xs : List Int} {k many : Int} (h : fmtB xs = false) : fldV al big xs k many = noV := fldV_no (by unfold fldB; rw [h]; rfl)
theorem fldB_k {al big : Bool} {xs : List Int} {k many : Int} (h : ¬ (0 ≤ k ∧ k < xs.length)) : fldV al big xs k many = noV := fldV_no (by unfold fldB; rw [decide_eq_false h]; simp)
theorem fldB_m {al big : Bool} {xs : List Int} {k many : Int} (h : many < 1) : fldV al big xs k many = noV := fldV_no (by unfold fldB; rw [decide_eq_false (show ¬ 1 ≤ many by omega)]; simp)
theorem fldB_v {al big : Bool} {xs : List Int} {kn : Nat} {many : Int} (h : viewB (fldBase al big xs kn) [many, xs.getD kn 0] [sizeF al xs, sgnF big] = false) : fldV al big xs (kn : Int) many = noV := fldV_no (by unfold fldB; rw [Int.toNat_natCast, h]; simp)
theorem fldB_y {al big : Bool} {xs : List Int} {kn : Nat} {many : Int} (hf : fmtB xs = true) (hk : kn < xs.length) (hm : 1 ≤ many) (h : viewB (fldBase al big xs kn) [many, xs.getD kn 0] [sizeF al xs, sgnF big] = true) : fldV al big xs (kn : Int) many = (fldBase al big xs kn, [many, xs.getD kn 0], [sizeF al xs, sgnF big], true) := by
 have := fldV_yes (al := al) (big := big) (xs := xs) (k := (kn : Int)) (many := many) (by unfold fldB; rw [Int.toNat_natCast, h, hf, decide_eq_true hm, decide_eq_true (show (0 : Int) ≤ (kn : Int) ∧ (kn : Int) < xs.length by omega)]; rfl)
 rw [Int.toNat_natCast] at this; exact this
theorem PVX.no {w w' : World} {x : VBool} (h : x = noV) (hx : Ext w w') : PVX w x (.returned (.tuple #[.agg #[.int .i64 0, .slice none 0 0, .slice none 0 0], .bool false])) w' := by subst h; exact PVWB.no hx
theorem PVX.yes {w w' : World} {x : VBool} {b : Int} {s t : List Int} {v1 v2 : Value} (h : x = (b, s, t, true)) (i1 : Ints w' w.heap.size v1 s) (i2 : Ints w' w.heap.size v2 t) (hx : Ext w w') : PVX w x (.returned (.tuple #[.agg #[.int .i64 b, v1, v2], .bool true])) w' := by subst h; exact ⟨v1, v2, rfl, i1, i2, hx⟩
theorem implSize_e {xs : List Int} {u : Value} {big al : Bool} {w : World} {lo : Nat} {N : Int} (hN : sizeF al xs = N) (h1 : Ints w lo u xs) (hf : fmtB xs = true) :
  Calls Try.prog 55 #[.agg #[u, .bool big, .bool al]] w fun e w' => e = .returned (.int .i64 N) ∧ Ext w w' := by subst hN; exact implSize_c xs u big al w lo h1 hf
set_option maxHeartbeats 12800000 in
theorem implFieldView_c (xs : List Int) (u : Value) (big al : Bool) (k many : Int) (w : World) (lo : Nat) (h1 : Ints w lo u xs) :
  Calls Try.prog 19 #[.agg #[u, .bool big, .bool al], .int .i64 k, .int .i64 many] w (PVX w (fldV al big xs k many)) := by
 have hl9 := h1.len
 obtain ⟨p0, cq0, rfl⟩ := h1.form
 go_enter Try.func19, Try.ntmps19
 go_wp2_with fail
 refine (isFormat_c xs _ big al _ _ (h1.ext qXt)).mono ?_
 rintro e w1 ⟨rfl, xw1⟩
 have Lw1 : Ext w w1 := Ext.trans qXt xw1
 have Xw1 : Ext w w1 := Lw1
 have f0 : w1.cell? ⟨w.heap.size, 0, none⟩ = some (.slice p0 xs.length cq0) := xw1.cell qCl
 have f1 : w1.cell? ⟨w.heap.size, 1, none⟩ = some (.bool big) := xw1.cell qCl
 have f2 : w1.cell? ⟨w.heap.size, 2, none⟩ = some (.bool al) := xw1.cell qCl
 have q0 : w1.cell? ⟨w.heap.size + 1, 0, none⟩ = some (.int .i64 0) := xw1.cell qCl
 have q1 : w1.cell? ⟨w.heap.size + 1, 1, none⟩ = some (.slice none 0 0) := xw1.cell qCl
 have q2 : w1.cell? ⟨w.heap.size + 1, 2, none⟩ = some (.slice none 0 0) := xw1.cell qCl
 have f_q0 : w1.frozen? ⟨w.heap.size + 1, 0, none⟩ = false := xw1.frz (by simp <;> omega) qFz
 have f_q1 : w1.frozen? ⟨w.heap.size + 1, 1, none⟩ = false := xw1.frz (by simp <;> omega) qFz
 have f_q2 : w1.frozen? ⟨w.heap.size + 1, 2, none⟩ = false := xw1.frz (by simp <;> omega) qFz
 have z_f : w.heap.size < w1.heap.size := qB f0
 have z_q : w.heap.size + 1 < w1.heap.size := qB q0
 have s_w1 : w.heap.size ≤ w1.heap.size := Xw1.size
 clear xw1
 cases hf : fmtB xs
 ·
  replace hf := Lib.hid hf
  go_wp2_with fail
  generalize hW1 : (((w1.setCell ⟨w.heap.size + 1, 0, none⟩ (.int .i64 0)).setCell ⟨w.heap.size + 1, 1, none⟩ (.slice none 0 0)).setCell ⟨w.heap.size + 1, 2, none⟩ (.slice none 0 0)) = w2 at *
  have Kw2 : Chg (w.heap.size + 1) (w.heap.size + 1 + 1) w1 w2 := by subst hW1; exact qCh
  have Xw2 : Ext w w2 := by subst hW1; exact qXt
  replace f0 := Kw2.cell (by omega) f0
  replace f1 := Kw2.cell (by omega) f1
  replace f2 := Kw2.cell (by omega) f2
  replace q0 : w2.cell? ⟨w.heap.size + 1, 0, none⟩ = some (.int .i64 0) := by subst hW1; go_simp
  replace f_q0 : w2.frozen? ⟨w.heap.size + 1, 0, none⟩ = false := by subst hW1; first | (simp only [World.frozen?_setCell]; with_reducible assumption) | go_simp
  replace q1 : w2.cell? ⟨w.heap.size + 1, 1, none⟩ = some (.slice none 0 0) := by subst hW1; go_simp
  replace f_q1 : w2.frozen? ⟨w.heap.size + 1, 1, none⟩ = false := by subst hW1; first | (simp only [World.frozen?_setCell]; with_reducible assumption) | go_simp
  replace q2 : w2.cell? ⟨w.heap.size + 1, 2, none⟩ = some (.slice none 0 0) := by subst hW1; go_simp
  replace f_q2 : w2.frozen? ⟨w.heap.size + 1, 2, none⟩ = false := by subst hW1; first | (simp only [World.frozen?_setCell]; with_reducible assumption) | go_simp
  clear Kw2
  have z_f : w.heap.size < w2.heap.size := qB f0
  have z_q : w.heap.size + 1 < w2.heap.size := qB q0
  have s_w2 : w.heap.size ≤ w2.heap.size := Xw2.size
  clear hW1
  refine bodyPost_ret (v := .tuple #[.agg #[.int .i64 0, .slice none 0 0, .slice none 0 0], .bool false]) (by simp only [results, Try.results19]; go_simp) rfl ?_
  exact PVX.no (fldB_f hf.out) Xw2
 ·
  replace hf := Lib.hid hf
  by_cases hk0 : k < 0
  ·
   go_wp2_with fail
   generalize hW2 : (((w1.setCell ⟨w.heap.size + 1, 0, none⟩ (.int .i64 0)).setCell ⟨w.heap.size + 1, 1, none⟩ (.slice none 0 0)).setCell ⟨w.heap.size + 1, 2, none⟩ (.slice none 0 0)) = w2 at *
   have Kw2 : Chg (w.heap.size + 1) (w.heap.size + 1 + 1) w1 w2 := by subst hW2; exact qCh
   have Xw2 : Ext w w2 := by subst hW2; exact qXt
   replace f0 := Kw2.cell (by omega) f0
   replace f1 := Kw2.cell (by omega) f1
   replace f2 := Kw2.cell (by omega) f2
   replace q0 : w2.cell? ⟨w.heap.size + 1, 0, none⟩ = some (.int .i64 0) := by subst hW2; go_simp
   replace f_q0 : w2.frozen? ⟨w.heap.size + 1, 0, none⟩ = false := by subst hW2; first | (simp only [World.frozen?_setCell]; with_reducible assumption) | go_simp
   replace q1 : w2.cell? ⟨w.heap.size + 1, 1, none⟩ = some (.slice none 0 0) := by subst hW2; go_simp
   replace f_q1 : w2.frozen? ⟨w.heap.size + 1, 1, none⟩ = false := by subst hW2; first | (simp only [World.frozen?_setCell]; with_reducible assumption) | go_simp
   replace q2 : w2.cell? ⟨w.heap.size + 1, 2, none⟩ = some (.slice none 0 0) := by subst hW2; go_simp
   replace f_q2 : w2.frozen? ⟨w.heap.size + 1, 2, none⟩ = false := by subst hW2; first | (simp only [World.frozen?_setCell]; with_reducible assumption) | go_simp
   clear Kw2
   have z_f : w.heap.size < w2.heap.size := qB f0
   have z_q : w.heap.size + 1 < w2.heap.size := qB q0
   have s_w2 : w.heap.size ≤ w2.heap.size := Xw2.size
   clear hW2
   refine bodyPost_ret (v := .tuple #[.agg #[.int .i64 0, .slice none 0 0, .slice none 0 0], .bool false]) (by simp only [results, Try.results19]; go_simp) rfl ?_
   exact PVX.no (fldB_k (by omega)) Xw2
  ·
   by_cases hkl : (xs.length : Int) ≤ k
   ·
    go_wp2_with fail
    generalize hW3 : (((w1.setCell ⟨w.heap.size + 1, 0, none⟩ (.int .i64 0)).setCell ⟨w.heap.size + 1, 1, none⟩ (.slice none 0 0)).setCell ⟨w.heap.size + 1, 2, none⟩ (.slice none 0 0)) = w2 at *
    have Kw2 : Chg (w.heap.size + 1) (w.heap.size + 1 + 1) w1 w2 := by subst hW3; exact qCh
    have Xw2 : Ext w w2 := by subst hW3; exact qXt
    replace f0 := Kw2.cell (by omega) f0
    replace f1 := Kw2.cell (by omega) f1
    replace f2 := Kw2.cell (by omega) f2
    replace q0 : w2.cell? ⟨w.heap.size + 1, 0, none⟩ = some (.int .i64 0) := by subst hW3; go_simp
    replace f_q0 : w2.frozen? ⟨w.heap.size + 1, 0, none⟩ = false := by subst hW3; first | (simp only [World.frozen?_setCell]; with_reducible assumption) | go_simp
    replace q1 : w2.cell? ⟨w.heap.size + 1, 1, none⟩ = some (.slice none 0 0) := by subst hW3; go_simp
    replace f_q1 : w2.frozen? ⟨w.heap.size + 1, 1, none⟩ = false := by subst hW3; first | (simp only [World.frozen?_setCell]; with_reducible assumption) | go_simp
    replace q2 : w2.cell? ⟨w.heap.size + 1, 2, none⟩ = some (.slice none 0 0) := by subst hW3; go_simp
    replace f_q2 : w2.frozen? ⟨w.heap.size + 1, 2, none⟩ = false := by subst hW3; first | (simp only [World.frozen?_setCell]; with_reducible assumption) | go_simp
    clear Kw2
    have z_f : w.heap.size < w2.heap.size := qB f0
    have z_q : w.heap.size + 1 < w2.heap.size := qB q0
    have s_w2 : w.heap.size ≤ w2.heap.size := Xw2.size
    clear hW3
    refine bodyPost_ret (v := .tuple #[.agg #[.int .i64 0, .slice none 0 0, .slice none 0 0], .bool false]) (by simp only [results, Try.results19]; go_simp) rfl ?_
    exact PVX.no (fldB_k (by omega)) Xw2
   ·
    by_cases hm1 : many < 1
    ·
     go_wp2_with fail
     generalize hW4 : (((w1.setCell ⟨w.heap.size + 1, 0, none⟩ (.int .i64 0)).setCell ⟨w.heap.size + 1, 1, none⟩ (.slice none 0 0)).setCell ⟨w.heap.size + 1, 2, none⟩ (.slice none 0 0)) = w2 at *
     have Kw2 : Chg (w.heap.size + 1) (w.heap.size + 1 + 1) w1 w2 := by subst hW4; exact qCh
     have Xw2 : Ext w w2 := by subst hW4; exact qXt
     replace f0 := Kw2.cell (by omega) f0
     replace f1 := Kw2.cell (by omega) f1
     replace f2 := Kw2.cell (by omega) f2
     replace q0 : w2.cell? ⟨w.heap.size + 1, 0, none⟩ = some (.int .i64 0) := by subst hW4; go_simp
     replace f_q0 : w2.frozen? ⟨w.heap.size + 1, 0, none⟩ = false := by subst hW4; first | (simp only [World.frozen?_setCell]; with_reducible assumption) | go_simp
     replace q1 : w2.cell? ⟨w.heap.size + 1, 1, none⟩ = some (.slice none 0 0) := by subst hW4; go_simp
     replace f_q1 : w2.frozen? ⟨w.heap.size + 1, 1, none⟩ = false := by subst hW4; first | (simp only [World.frozen?_setCell]; with_reducible assumption) | go_simp
     replace q2 : w2.cell? ⟨w.heap.size + 1, 2, none⟩ = some (.slice none 0 0) := by subst hW4; go_simp
     replace f_q2 : w2.frozen? ⟨w.heap.size + 1, 2, none⟩ = false := by subst hW4; first | (simp only [World.frozen?_setCell]; with_reducible assumption) | go_simp
     clear Kw2
     have z_f : w.heap.size < w2.heap.size := qB f0
     have z_q : w.heap.size + 1 < w2.heap.size := qB q0
     have s_w2 : w.heap.size ≤ w2.heap.size := Xw2.size
     clear hW4
     refine bodyPost_ret (v := .tuple #[.agg #[.int .i64 0, .slice none 0 0, .slice none 0 0], .bool false]) (by simp only [results, Try.results19]; go_simp) rfl ?_
     exact PVX.no (fldB_m hm1) Xw2
    ·
     have hkk : 0 ≤ k ∧ k < xs.length := by omega
     clear hk0 hkl
     obtain ⟨kn, rfl⟩ : ∃ q : Nat, k = (q : Int) := ⟨k.toNat, by omega⟩
     have hkn : kn < xs.length := by omega
     have hkI : (kn : Int) < (xs.length : Int) := by omega
     have hk0 : ¬ (kn : Int) < 0 := by omega
     have hkl : ¬ (xs.length : Int) ≤ (kn : Int) := by omega
     have hx9 := fmtB_in hf.out
     have hpl := (plcF_bd al hx9.1 xs.length (Nat.le_refl _)).1
     rw [List.take_length] at hpl
     have hpn : (plcF al xs).1 ≠ [] := by intro h; rw [h] at hpl; simp at hpl; omega
     have hkP : kn < ((plcF al xs).1).length := by omega
     have hkPI : (kn : Int) < (((plcF al xs).1).length : Int) := by omega
     have hfi := field_in al hx9.1 hx9.2.2 hkn
     have hsz := hx9.1 _ (getD_mem hkn)
     obtain ⟨v, hv⟩ : ∃ v, xs.getD kn 0 = v := ⟨_, rfl⟩
     obtain ⟨p, hp⟩ : ∃ p, (plcF al xs).1.getD kn 0 = p := ⟨_, rfl⟩
     obtain ⟨N, hN⟩ : ∃ N, sizeF al xs = N := ⟨_, rfl⟩
     rw [hv, hp, hN] at hfi
     rw [hv] at hsz
     replace hv := Lib.hid hv
     replace hp := Lib.hid hp
     replace hN := Lib.hid hN
     clear hx9
     obtain ⟨bl, ol, rfl, e0w⟩ := h1.at kn hkn
     rw [hv.out] at e0w
     have y_e : bl < w.heap.size := qB e0w
     have e0 := Xw1.cell e0w
     have z_e : bl < w1.heap.size := qB e0
     clear e0w
     go_wp2_with fail
     go_cut [8] (fun s8 wx => ∃ (ga gb gc : Nat), s8 = .pointer (some ⟨gc, 0, none⟩) ∧ Ext w1 wx ∧ Row2 w1 wx ga many v ∧ Row2 w1 wx gb N 1 ∧ Box3 w1 wx gc (.int .i64 p) (.slice (some ⟨ga, 0, none⟩) 2 2) (.slice (some ⟨gb, 0, none⟩) 2 2) ∧ ga ≠ gb ∧ ga ≠ gc ∧ gb ≠ gc)
     case first =>
      have XR : Ext w1 w1 := Ext.refl _
      refine wp_region_held_drew (S := fun w' => w'.cell? ⟨w.heap.size, 0, none⟩ = some (.slice (some ⟨bl, ol, none⟩) xs.length cq0) ∧ w'.cell? ⟨w.heap.size, 1, none⟩ = some (.bool big) ∧ w'.cell? ⟨w.heap.size, 2, none⟩ = some (.bool al) ∧ w'.cell? ⟨bl, ol + kn, none⟩ = some (.int .i64 v)) qKr ⟨f0, f1, f2, e0⟩ (fun hHeld => ?_)
      refine qHk (v := ?_) 0 rfl (.inl ⟨by rfl, ?_⟩) ?_
      rotate_left
      ·
       (intro w hSw; (try dsimp only at hSw); go_simp; try with_reducible rfl)
      try simp only [Act.put, qa, qb, qc, qD, qE, qF]
      refine qHk (v := ?_) 2 rfl (.inl ⟨by rfl, ?_⟩) ?_
      rotate_left
      ·
       (intro w hSw; (try dsimp only at hSw); go_simp; try with_reducible rfl)
      try simp only [Act.put, qa, qb, qc, qD, qE, qF]
      refine qHk (v := ?_) 5 rfl (.inl ⟨by rfl, ?_⟩) ?_
      rotate_left
      ·
       (intro w hSw; (try dsimp only at hSw); go_simp; try with_reducible rfl)
      try simp only [Act.put, qa, qb, qc, qD, qE, qF]
      refine qHk (v := ?_) 6 rfl (.inl ⟨by rfl, ?_⟩) ?_
      rotate_left
      ·
       (intro w hSw; (try dsimp only at hSw); go_simp; try with_reducible rfl)
      try simp only [Act.put, qa, qb, qc, qD, qE, qF]
      refine qHk (v := ?_) 7 rfl (.inl ⟨by rfl, ?_⟩) ?_
      rotate_left
      ·
       (intro w hSw; (try dsimp only at hSw); go_simp; try with_reducible rfl)
      try simp only [Act.put, qa, qb, qc, qD, qE, qF]
      refine qHk (v := ?_) 8 rfl (.inl ⟨by rfl, ?_⟩) ?_
      rotate_left
      ·
       (intro w hSw; (try dsimp only at hSw); go_simp; try with_reducible rfl)
      try simp only [Act.put, qa, qb, qc, qD, qE, qF]
      refine qHk (v := ?_) 9 rfl (.inl ⟨by rfl, ?_⟩) ?_
      rotate_left
      ·
       (intro w hSw; (try dsimp only at hSw); go_simp; try with_reducible rfl)
      try simp only [Act.put, qa, qb, qc, qD, qE, qF]
      refine qHk (v := ?_) 10 rfl (.inl ⟨by rfl, ?_⟩) ?_
      rotate_left
      ·
       (intro w hSw; (try dsimp only at hSw); go_simp; try with_reducible rfl)
      try simp only [Act.put, qa, qb, qc, qD, qE, qF]
      refine qHk (v := ?_) 12 rfl (.inl ⟨by rfl, ?_⟩) ?_
      rotate_left
      ·
       (intro w hSw; (try dsimp only at hSw); go_simp; try with_reducible rfl)
      try simp only [Act.put, qa, qb, qc, qD, qE, qF]
      refine wpAnyH_ready (rs := [1, 11, 16]) qKr (by simp) ?_
      refine AllReadyH.cons rfl (fun K hK => ?_) (AllReadyH.cons rfl (fun K hK => ?_) (AllReadyH.cons rfl (fun K hK => ?_) AllReadyH.nil))
      ·
       try simp only [Act.put, qa, qb, qc, qD, qE, qF]
       go_simp
       refine (implPlaces_c xs _ big al _ _ (h1.ext (Xw1.trans (XR.trans qXt))) hf.out).mono ?_
       rintro e va_1 ⟨pv, rfl, iP, -, x9⟩
       obtain ⟨p5, c5, rfl⟩ := iP.form
       obtain ⟨bp, op, rfl, lbp, zbp⟩ := iP.blk hpn
       simp only [World.size_drew] at lbp
       obtain ⟨bp9, op9, h9, pe⟩ := iP.at kn hkP
       cases h9
       rw [hp.out] at pe
       have EA : Ext w1 va_1 := (Ext.drew (Ext.refl _)).trans x9
       clear x9
       replace XR := XR.trans EA
       refine hK.out _ _ ⟨(XR.cell f0), (XR.cell f1), (XR.cell f2), (XR.cell e0)⟩ (fun hHeld => ?_)
       clear hK K EA
       try simp only [Act.put, qa, qb, qc, qD, qE, qF]
       refine qHk (v := ?_) 3 rfl (.inl ⟨by rfl, ?_⟩) ?_
       rotate_left
       ·
        (intro w hSw; (try dsimp only at hSw); go_simp; try with_reducible rfl)
       try simp only [Act.put, qa, qb, qc, qD, qE, qF]
       refine wpAnyH_sub (S' := fun w' => w'.cell? ⟨w.heap.size, 0, none⟩ = some (.slice (some ⟨bl, ol, none⟩) xs.length cq0) ∧ w'.cell? ⟨w.heap.size, 1, none⟩ = some (.bool big) ∧ w'.cell? ⟨w.heap.size, 2, none⟩ = some (.bool al) ∧ w'.cell? ⟨bl, ol + kn, none⟩ = some (.int .i64 v) ∧ w'.cell? ⟨bp, op + kn, none⟩ = some (.int .i64 p)) (fun _ h => ⟨h.1, h.2.1, h.2.2.1, h.2.2.2.1⟩) _ _ _ _ ?_
       replace hHeld : (fun w' : World => w'.cell? ⟨w.heap.size, 0, none⟩ = some (.slice (some ⟨bl, ol, none⟩) xs.length cq0) ∧ w'.cell? ⟨w.heap.size, 1, none⟩ = some (.bool big) ∧ w'.cell? ⟨w.heap.size, 2, none⟩ = some (.bool al) ∧ w'.cell? ⟨bl, ol + kn, none⟩ = some (.int .i64 v) ∧ w'.cell? ⟨bp, op + kn, none⟩ = some (.int .i64 p)) va_1 := ⟨(XR.cell f0), (XR.cell f1), (XR.cell f2), (XR.cell e0), pe⟩
       refine qHk (v := ?_) 4 rfl (.inl ⟨by rfl, ?_⟩) ?_
       rotate_left
       ·
        (intro w hSw; (try dsimp only at hSw); go_simp; try with_reducible rfl)
       try simp only [Act.put, qa, qb, qc, qD, qE, qF]
       refine wpAnyH_ready (rs := [11, 13, 16]) qKr (by simp) ?_
       refine AllReadyH.cons rfl (fun K hK => ?_) (AllReadyH.cons rfl (fun K hK => ?_) (AllReadyH.cons rfl (fun K hK => ?_) AllReadyH.nil))
       ·
        try simp only [Act.put, qa, qb, qc, qD, qE, qF]
        go_simp
        have EA : Ext va_1 (va_1.alloc (.cells #[.int .i64 many, .int .i64 v] 3)) := (Ext.refl _).alloc _
        have o_p_a : bp < va_1.heap.size := qB pe
        have ra := Row2.new XR many v
        replace pe := EA.cell pe
        replace XR := XR.trans EA
        refine hK.out _ (va_1.alloc (.cells #[.int .i64 many, .int .i64 v] 3)) ⟨(XR.cell f0), (XR.cell f1), (XR.cell f2), (XR.cell e0), pe⟩ (fun hHeld => ?_)
        clear hK K EA
        try simp only [Act.put, qa, qb, qc, qD, qE, qF]
        generalize (va_1.alloc (.cells #[.int .i64 many, .int .i64 v] 3)) = vaa_2 at *
        refine wpAnyH_ready (rs := [13, 16]) qKr (by simp) ?_
        refine AllReadyH.cons rfl (fun K hK => ?_) (AllReadyH.cons rfl (fun K hK => ?_) AllReadyH.nil)
        ·
         try simp only [Act.put, qa, qb, qc, qD, qE, qF]
         go_simp
         refine (implSize_e hN.out (h1.ext (Xw1.trans (XR.trans qXt))) hf.out).mono ?_
         rintro e vaaa_3 ⟨rfl, x9⟩
         have EA : Ext vaa_2 vaaa_3 := x9
         clear x9
         replace ra := ra.ext EA
         replace pe := EA.cell pe
         replace XR := XR.trans EA
         refine hK.out _ _ ⟨(XR.cell f0), (XR.cell f1), (XR.cell f2), (XR.cell e0), pe⟩ (fun hHeld => ?_)
         clear hK K EA
         try simp only [Act.put, qa, qb, qc, qD, qE, qF]
         refine wpAnyH_ready (rs := [14, 16]) qKr (by simp) ?_
         refine AllReadyH.cons rfl (fun K hK => ?_) (AllReadyH.cons rfl (fun K hK => ?_) AllReadyH.nil)
         ·
          try simp only [Act.put, qa, qb, qc, qD, qE, qF]
          go_simp
          have EA : Ext vaaa_3 (vaaa_3.alloc (.cells #[.int .i64 N, .int .i64 1] 3)) := (Ext.refl _).alloc _
          have o_a_b := ra.lt
          have o_p_b : bp < vaaa_3.heap.size := qB pe
          have rb := Row2.new XR N 1
          replace ra := ra.ext EA
          replace pe := EA.cell pe
          replace XR := XR.trans EA
          refine hK.out _ (vaaa_3.alloc (.cells #[.int .i64 N, .int .i64 1] 3)) ⟨(XR.cell f0), (XR.cell f1), (XR.cell f2), (XR.cell e0), pe⟩ (fun hHeld => ?_)
          clear hK K EA
          try simp only [Act.put, qa, qb, qc, qD, qE, qF]
          generalize (vaaa_3.alloc (.cells #[.int .i64 N, .int .i64 1] 3)) = vaaaa_4 at *
          refine qHk (v := ?_) 15 rfl (.inl ⟨by rfl, ?_⟩) ?_
          rotate_left
          ·
           (intro w hSw; (try dsimp only at hSw); go_simp; try with_reducible rfl)
          try simp only [Act.put, qa, qb, qc, qD, qE, qF]
          refine qHr 16 rfl (fun K hK => ?_)
          try simp only [Act.put, qa, qb, qc, qD, qE, qF]
          go_simp
          have EA : Ext vaaaa_4 (vaaaa_4.alloc (.cells #[.int .i64 0, .slice none 0 0, .slice none 0 0] 25)) := (Ext.refl _).alloc _
          have o_a_c := ra.lt
          have o_b_c := rb.lt
          have o_p_c : bp < vaaaa_4.heap.size := qB pe
          have rc := Box3.new XR
          replace ra := ra.ext EA
          replace rb := rb.ext EA
          replace pe := EA.cell pe
          replace XR := XR.trans EA
          refine hK.out _ (vaaaa_4.alloc (.cells #[.int .i64 0, .slice none 0 0, .slice none 0 0] 25)) ⟨(XR.cell f0), (XR.cell f1), (XR.cell f2), (XR.cell e0), pe⟩ (fun hHeld => ?_)
          clear hK K EA
          try simp only [Act.put, qa, qb, qc, qD, qE, qF]
          generalize (vaaaa_4.alloc (.cells #[.int .i64 0, .slice none 0 0, .slice none 0 0] 25)) = vaaaa_5 at *
          refine qHr 17 rfl (fun K hK => ?_)
          have KS := Chg.three (lo := vaaaa_4.heap.size) vaaaa_5 (.int .i64 p) (.slice (some ⟨va_1.heap.size, 0, none⟩) 2 2) (.slice (some ⟨vaaa_3.heap.size, 0, none⟩) 2 2)
          have hc := rc
          obtain ⟨-, y0, y1, y2, z0, z1, z2⟩ := rc
          try simp only [Act.put, qa, qb, qc, qD, qE, qF]
          go_simp
          clear y0 y1 y2 z0 z1 z2
          replace ra := ra.chg KS (by omega)
          replace rb := rb.chg KS (by omega)
          have rc := Box3.set hc (.int .i64 p) (.slice (some ⟨va_1.heap.size, 0, none⟩) 2 2) (.slice (some ⟨vaaa_3.heap.size, 0, none⟩) 2 2)
          replace XR := Ext.chg XR KS hc.ge
          replace pe := KS.cell (by omega) pe
          clear hc
          have EA := KS
          clear KS
          refine hK.out _ _ ⟨(XR.cell f0), (XR.cell f1), (XR.cell f2), (XR.cell e0), pe⟩ (fun hHeld => ?_)
          clear hK K EA
          try simp only [Act.put, qa, qb, qc, qD, qE, qF]
          refine wpAnyH_done qKr ?_ _
          clear hHeld
          go_step
          go_step
          go_meet
          case rel => exact ⟨_, _, _, rfl, XR, ra, rb, rc, by omega, by omega, by omega⟩
         ·
          try simp only [Act.put, qa, qb, qc, qD, qE, qF]
          go_simp
          have EA : Ext vaaa_3 (vaaa_3.alloc (.cells #[.int .i64 0, .slice none 0 0, .slice none 0 0] 25)) := (Ext.refl _).alloc _
          have o_a_c := ra.lt
          have o_p_c : bp < vaaa_3.heap.size := qB pe
          have rc := Box3.new XR
          replace ra := ra.ext EA
          replace pe := EA.cell pe
          replace XR := XR.trans EA
          refine hK.out _ (vaaa_3.alloc (.cells #[.int .i64 0, .slice none 0 0, .slice none 0 0] 25)) ⟨(XR.cell f0), (XR.cell f1), (XR.cell f2), (XR.cell e0), pe⟩ (fun hHeld => ?_)
          clear hK K EA
          try simp only [Act.put, qa, qb, qc, qD, qE, qF]
          generalize (vaaa_3.alloc (.cells #[.int .i64 0, .slice none 0 0, .slice none 0 0] 25)) = vaaab_4 at *
          refine qHr 14 rfl (fun K hK => ?_)
          try simp only [Act.put, qa, qb, qc, qD, qE, qF]
          go_simp
          have EA : Ext vaaab_4 (vaaab_4.alloc (.cells #[.int .i64 N, .int .i64 1] 3)) := (Ext.refl _).alloc _
          have o_a_b := ra.lt
          have o_c_b := rc.lt
          have o_p_b : bp < vaaab_4.heap.size := qB pe
          have rb := Row2.new XR N 1
          replace ra := ra.ext EA
          replace rc := rc.ext EA
          replace pe := EA.cell pe
          replace XR := XR.trans EA
          refine hK.out _ (vaaab_4.alloc (.cells #[.int .i64 N, .int .i64 1] 3)) ⟨(XR.cell f0), (XR.cell f1), (XR.cell f2), (XR.cell e0), pe⟩ (fun hHeld => ?_)
          clear hK K EA
          try simp only [Act.put, qa, qb, qc, qD, qE, qF]
          generalize (vaaab_4.alloc (.cells #[.int .i64 N, .int .i64 1] 3)) = vaaab_5 at *
          refine qHk (v := ?_) 15 rfl (.inl ⟨by rfl, ?_⟩) ?_
          rotate_left
          ·
           (intro w hSw; (try dsimp only at hSw); go_simp; try with_reducible rfl)
          try simp only [Act.put, qa, qb, qc, qD, qE, qF]
          refine qHr 17 rfl (fun K hK => ?_)
          have KS := Chg.three (lo := vaaa_3.heap.size) vaaab_5 (.int .i64 p) (.slice (some ⟨va_1.heap.size, 0, none⟩) 2 2) (.slice (some ⟨vaaab_4.heap.size, 0, none⟩) 2 2)
          have hc := rc
          obtain ⟨-, y0, y1, y2, z0, z1, z2⟩ := rc
          try simp only [Act.put, qa, qb, qc, qD, qE, qF]
          go_simp
          clear y0 y1 y2 z0 z1 z2
          replace ra := ra.chg KS (by omega)
          replace rb := rb.chg KS (by omega)
          have rc := Box3.set hc (.int .i64 p) (.slice (some ⟨va_1.heap.size, 0, none⟩) 2 2) (.slice (some ⟨vaaab_4.heap.size, 0, none⟩) 2 2)
          replace XR := Ext.chg XR KS hc.ge
          replace pe := KS.cell (by omega) pe
          clear hc
          have EA := KS
          clear KS
          refine hK.out _ _ ⟨(XR.cell f0), (XR.cell f1), (XR.cell f2), (XR.cell e0), pe⟩ (fun hHeld => ?_)
          clear hK K EA
          try simp only [Act.put, qa, qb, qc, qD, qE, qF]
          refine wpAnyH_done qKr ?_ _
          clear hHeld
          go_step
          go_step
          go_meet
          case rel => exact ⟨_, _, _, rfl, XR, ra, rb, rc, by omega, by omega, by omega⟩
        ·
         try simp only [Act.put, qa, qb, qc, qD, qE, qF]
         go_simp
         have EA : Ext vaa_2 (vaa_2.alloc (.cells #[.int .i64 0, .slice none 0 0, .slice none 0 0] 25)) := (Ext.refl _).alloc _
         have o_a_c := ra.lt
         have o_p_c : bp < vaa_2.heap.size := qB pe
         have rc := Box3.new XR
         replace ra := ra.ext EA
         replace pe := EA.cell pe
         replace XR := XR.trans EA
         refine hK.out _ (vaa_2.alloc (.cells #[.int .i64 0, .slice none 0 0, .slice none 0 0] 25)) ⟨(XR.cell f0), (XR.cell f1), (XR.cell f2), (XR.cell e0), pe⟩ (fun hHeld => ?_)
         clear hK K EA
         try simp only [Act.put, qa, qb, qc, qD, qE, qF]
         generalize (vaa_2.alloc (.cells #[.int .i64 0, .slice none 0 0, .slice none 0 0] 25)) = vaab_3 at *
         refine qHr 13 rfl (fun K hK => ?_)
         try simp only [Act.put, qa, qb, qc, qD, qE, qF]
         go_simp
         refine (implSize_e hN.out (h1.ext (Xw1.trans (XR.trans qXt))) hf.out).mono ?_
         rintro e vaab_4 ⟨rfl, x9⟩
         have EA : Ext vaab_3 vaab_4 := x9
         clear x9
         replace ra := ra.ext EA
         replace rc := rc.ext EA
         replace pe := EA.cell pe
         replace XR := XR.trans EA
         refine hK.out _ _ ⟨(XR.cell f0), (XR.cell f1), (XR.cell f2), (XR.cell e0), pe⟩ (fun hHeld => ?_)
         clear hK K EA
         try simp only [Act.put, qa, qb, qc, qD, qE, qF]
         refine qHr 14 rfl (fun K hK => ?_)
         try simp only [Act.put, qa, qb, qc, qD, qE, qF]
         go_simp
         have EA : Ext vaab_4 (vaab_4.alloc (.cells #[.int .i64 N, .int .i64 1] 3)) := (Ext.refl _).alloc _
         have o_a_b := ra.lt
         have o_c_b := rc.lt
         have o_p_b : bp < vaab_4.heap.size := qB pe
         have rb := Row2.new XR N 1
         replace ra := ra.ext EA
         replace rc := rc.ext EA
         replace pe := EA.cell pe
         replace XR := XR.trans EA
         refine hK.out _ (vaab_4.alloc (.cells #[.int .i64 N, .int .i64 1] 3)) ⟨(XR.cell f0), (XR.cell f1), (XR.cell f2), (XR.cell e0), pe⟩ (fun hHeld => ?_)
         clear hK K EA
         try simp only [Act.put, qa, qb, qc, qD, qE, qF]
         generalize (vaab_4.alloc (.cells #[.int .i64 N, .int .i64 1] 3)) = vaab_5 at *
         refine qHk (v := ?_) 15 rfl (.inl ⟨by rfl, ?_⟩) ?_
         rotate_left
         ·
          (intro w hSw; (try dsimp only at hSw); go_simp; try with_reducible rfl)
         try simp only [Act.put, qa, qb, qc, qD, qE, qF]
         refine qHr 17 rfl (fun K hK => ?_)
         have KS := Chg.three (lo := vaa_2.heap.size) vaab_5 (.int .i64 p) (.slice (some ⟨va_1.heap.size, 0, none⟩) 2 2) (.slice (some ⟨vaab_4.heap.size, 0, none⟩) 2 2)
         have hc := rc
         obtain ⟨-, y0, y1, y2, z0, z1, z2⟩ := rc
         try simp only [Act.put, qa, qb, qc, qD, qE, qF]
         go_simp
         clear y0 y1 y2 z0 z1 z2
         replace ra := ra.chg KS (by omega)
         replace rb := rb.chg KS (by omega)
         have rc := Box3.set hc (.int .i64 p) (.slice (some ⟨va_1.heap.size, 0, none⟩) 2 2) (.slice (some ⟨vaab_4.heap.size, 0, none⟩) 2 2)
         replace XR := Ext.chg XR KS hc.ge
         replace pe := KS.cell (by omega) pe
         clear hc
         have EA := KS
         clear KS
         refine hK.out _ _ ⟨(XR.cell f0), (XR.cell f1), (XR.cell f2), (XR.cell e0), pe⟩ (fun hHeld => ?_)
         clear hK K EA
         try simp only [Act.put, qa, qb, qc, qD, qE, qF]
         refine wpAnyH_done qKr ?_ _
         clear hHeld
         go_step
         go_step
         go_meet
         case rel => exact ⟨_, _, _, rfl, XR, ra, rb, rc, by omega, by omega, by omega⟩
       ·
        try simp only [Act.put, qa, qb, qc, qD, qE, qF]
        go_simp
        refine (implSize_e hN.out (h1.ext (Xw1.trans (XR.trans qXt))) hf.out).mono ?_
        rintro e vab_2 ⟨rfl, x9⟩
        have EA : Ext va_1 vab_2 := x9
        clear x9
        replace pe := EA.cell pe
        replace XR := XR.trans EA
        refine hK.out _ _ ⟨(XR.cell f0), (XR.cell f1), (XR.cell f2), (XR.cell e0), pe⟩ (fun hHeld => ?_)
        clear hK K EA
        try simp only [Act.put, qa, qb, qc, qD, qE, qF]
        refine wpAnyH_ready (rs := [11, 14, 16]) qKr (by simp) ?_
        refine AllReadyH.cons rfl (fun K hK => ?_) (AllReadyH.cons rfl (fun K hK => ?_) (AllReadyH.cons rfl (fun K hK => ?_) AllReadyH.nil))
        ·
         try simp only [Act.put, qa, qb, qc, qD, qE, qF]
         go_simp
         have EA : Ext vab_2 (vab_2.alloc (.cells #[.int .i64 many, .int .i64 v] 3)) := (Ext.refl _).alloc _
         have o_p_a : bp < vab_2.heap.size := qB pe
         have ra := Row2.new XR many v
         replace pe := EA.cell pe
         replace XR := XR.trans EA
         refine hK.out _ (vab_2.alloc (.cells #[.int .i64 many, .int .i64 v] 3)) ⟨(XR.cell f0), (XR.cell f1), (XR.cell f2), (XR.cell e0), pe⟩ (fun hHeld => ?_)
         clear hK K EA
         try simp only [Act.put, qa, qb, qc, qD, qE, qF]
         generalize (vab_2.alloc (.cells #[.int .i64 many, .int .i64 v] 3)) = vaba_3 at *
         refine wpAnyH_ready (rs := [14, 16]) qKr (by simp) ?_
         refine AllReadyH.cons rfl (fun K hK => ?_) (AllReadyH.cons rfl (fun K hK => ?_) AllReadyH.nil)
         ·
          try simp only [Act.put, qa, qb, qc, qD, qE, qF]
          go_simp
          have EA : Ext vaba_3 (vaba_3.alloc (.cells #[.int .i64 N, .int .i64 1] 3)) := (Ext.refl _).alloc _
          have o_a_b := ra.lt
          have o_p_b : bp < vaba_3.heap.size := qB pe
          have rb := Row2.new XR N 1
          replace ra := ra.ext EA
          replace pe := EA.cell pe
          replace XR := XR.trans EA
          refine hK.out _ (vaba_3.alloc (.cells #[.int .i64 N, .int .i64 1] 3)) ⟨(XR.cell f0), (XR.cell f1), (XR.cell f2), (XR.cell e0), pe⟩ (fun hHeld => ?_)
          clear hK K EA
          try simp only [Act.put, qa, qb, qc, qD, qE, qF]
          generalize (vaba_3.alloc (.cells #[.int .i64 N, .int .i64 1] 3)) = vabaa_4 at *
          refine qHk (v := ?_) 15 rfl (.inl ⟨by rfl, ?_⟩) ?_
          rotate_left
          ·
           (intro w hSw; (try dsimp only at hSw); go_simp; try with_reducible rfl)
          try simp only [Act.put, qa, qb, qc, qD, qE, qF]
          refine qHr 16 rfl (fun K hK => ?_)
          try simp only [Act.put, qa, qb, qc, qD, qE, qF]
          go_simp
          have EA : Ext vabaa_4 (vabaa_4.alloc (.cells #[.int .i64 0, .slice none 0 0, .slice none 0 0] 25)) := (Ext.refl _).alloc _
          have o_a_c := ra.lt
          have o_b_c := rb.lt
          have o_p_c : bp < vabaa_4.heap.size := qB pe
          have rc := Box3.new XR
          replace ra := ra.ext EA
          replace rb := rb.ext EA
          replace pe := EA.cell pe
          replace XR := XR.trans EA
          refine hK.out _ (vabaa_4.alloc (.cells #[.int .i64 0, .slice none 0 0, .slice none 0 0] 25)) ⟨(XR.cell f0), (XR.cell f1), (XR.cell f2), (XR.cell e0), pe⟩ (fun hHeld => ?_)
          clear hK K EA
          try simp only [Act.put, qa, qb, qc, qD, qE, qF]
          generalize (vabaa_4.alloc (.cells #[.int .i64 0, .slice none 0 0, .slice none 0 0] 25)) = vabaa_5 at *
          refine qHr 17 rfl (fun K hK => ?_)
          have KS := Chg.three (lo := vabaa_4.heap.size) vabaa_5 (.int .i64 p) (.slice (some ⟨vab_2.heap.size, 0, none⟩) 2 2) (.slice (some ⟨vaba_3.heap.size, 0, none⟩) 2 2)
          have hc := rc
          obtain ⟨-, y0, y1, y2, z0, z1, z2⟩ := rc
          try simp only [Act.put, qa, qb, qc, qD, qE, qF]
          go_simp
          clear y0 y1 y2 z0 z1 z2
          replace ra := ra.chg KS (by omega)
          replace rb := rb.chg KS (by omega)
          have rc := Box3.set hc (.int .i64 p) (.slice (some ⟨vab_2.heap.size, 0, none⟩) 2 2) (.slice (some ⟨vaba_3.heap.size, 0, none⟩) 2 2)
          replace XR := Ext.chg XR KS hc.ge
          replace pe := KS.cell (by omega) pe
          clear hc
          have EA := KS
          clear KS
          refine hK.out _ _ ⟨(XR.cell f0), (XR.cell f1), (XR.cell f2), (XR.cell e0), pe⟩ (fun hHeld => ?_)
          clear hK K EA
          try simp only [Act.put, qa, qb, qc, qD, qE, qF]
          refine wpAnyH_done qKr ?_ _
          clear hHeld
          go_step
          go_step
          go_meet
          case rel => exact ⟨_, _, _, rfl, XR, ra, rb, rc, by omega, by omega, by omega⟩
         ·
          try simp only [Act.put, qa, qb, qc, qD, qE, qF]
          go_simp
          have EA : Ext vaba_3 (vaba_3.alloc (.cells #[.int .i64 0, .slice none 0 0, .slice none 0 0] 25)) := (Ext.refl _).alloc _
          have o_a_c := ra.lt
          have o_p_c : bp < vaba_3.heap.size := qB pe
          have rc := Box3.new XR
          replace ra := ra.ext EA
          replace pe := EA.cell pe
          replace XR := XR.trans EA
          refine hK.out _ (vaba_3.alloc (.cells #[.int .i64 0, .slice none 0 0, .slice none 0 0] 25)) ⟨(XR.cell f0), (XR.cell f1), (XR.cell f2), (XR.cell e0), pe⟩ (fun hHeld => ?_)
          clear hK K EA
          try simp only [Act.put, qa, qb, qc, qD, qE, qF]
          generalize (vaba_3.alloc (.cells #[.int .i64 0, .slice none 0 0, .slice none 0 0] 25)) = vabab_4 at *
          refine qHr 14 rfl (fun K hK => ?_)
          try simp only [Act.put, qa, qb, qc, qD, qE, qF]
          go_simp
          have EA : Ext vabab_4 (vabab_4.alloc (.cells #[.int .i64 N, .int .i64 1] 3)) := (Ext.refl _).alloc _
          have o_a_b := ra.lt
          have o_c_b := rc.lt
          have o_p_b : bp < vabab_4.heap.size := qB pe
          have rb := Row2.new XR N 1
          replace ra := ra.ext EA
          replace rc := rc.ext EA
          replace pe := EA.cell pe
          replace XR := XR.trans EA
          refine hK.out _ (vabab_4.alloc (.cells #[.int .i64 N, .int .i64 1] 3)) ⟨(XR.cell f0), (XR.cell f1), (XR.cell f2), (XR.cell e0), pe⟩ (fun hHeld => ?_)
          clear hK K EA
          try simp only [Act.put, qa, qb, qc, qD, qE, qF]
          generalize (vabab_4.alloc (.cells #[.int .i64 N, .int .i64 1] 3)) = vabab_5 at *
          refine qHk (v := ?_) 15 rfl (.inl ⟨by rfl, ?_⟩) ?_
          rotate_left
          ·
           (intro w hSw; (try dsimp only at hSw); go_simp; try with_reducible rfl)
          try simp only [Act.put, qa, qb, qc, qD, qE, qF]
          refine qHr 17 rfl (fun K hK => ?_)
          have KS := Chg.three (lo := vaba_3.heap.size) vabab_5 (.int .i64 p) (.slice (some ⟨vab_2.heap.size, 0, none⟩) 2 2) (.slice (some ⟨vabab_4.heap.size, 0, none⟩) 2 2)
          have hc := rc
          obtain ⟨-, y0, y1, y2, z0, z1, z2⟩ := rc
          try simp only [Act.put, qa, qb, qc, qD, qE, qF]
          go_simp
          clear y0 y1 y2 z0 z1 z2
          replace ra := ra.chg KS (by omega)
          replace rb := rb.chg KS (by omega)
          have rc := Box3.set hc (.int .i64 p) (.slice (some ⟨vab_2.heap.size, 0, none⟩) 2 2) (.slice (some ⟨vabab_4.heap.size, 0, none⟩) 2 2)
          replace XR := Ext.chg XR KS hc.ge
          replace pe := KS.cell (by omega) pe
          clear hc
          have EA := KS
          clear KS
          refine hK.out _ _ ⟨(XR.cell f0), (XR.cell f1), (XR.cell f2), (XR.cell e0), pe⟩ (fun hHeld => ?_)
          clear hK K EA
          try simp only [Act.put, qa, qb, qc, qD, qE, qF]
          refine wpAnyH_done qKr ?_ _
          clear hHeld
          go_step
          go_step
          go_meet
          case rel => exact ⟨_, _, _, rfl, XR, ra, rb, rc, by omega, by omega, by omega⟩
        ·
         try simp only [Act.put, qa, qb, qc, qD, qE, qF]
         go_simp
         have EA : Ext vab_2 (vab_2.alloc (.cells #[.int .i64 N, .int .i64 1] 3)) := (Ext.refl _).alloc _
         have o_p_b : bp < vab_2.heap.size := qB pe
         have rb := Row2.new XR N 1
         replace pe := EA.cell pe
         replace XR := XR.trans EA
         refine hK.out _ (vab_2.alloc (.cells #[.int .i64 N, .int .i64 1] 3)) ⟨(XR.cell f0), (XR.cell f1), (XR.cell f2), (XR.cell e0), pe⟩ (fun hHeld => ?_)
         clear hK K EA
         try simp only [Act.put, qa, qb, qc, qD, qE, qF]
         generalize (vab_2.alloc (.cells #[.int .i64 N, .int .i64 1] 3)) = vabb_3 at *
         refine wpAnyH_ready (rs := [11, 16]) qKr (by simp) ?_
         refine AllReadyH.cons rfl (fun K hK => ?_) (AllReadyH.cons rfl (fun K hK => ?_) AllReadyH.nil)
         ·
          try simp only [Act.put, qa, qb, qc, qD, qE, qF]
          go_simp
          have EA : Ext vabb_3 (vabb_3.alloc (.cells #[.int .i64 many, .int .i64 v] 3)) := (Ext.refl _).alloc _
          have o_b_a := rb.lt
          have o_p_a : bp < vabb_3.heap.size := qB pe
          have ra := Row2.new XR many v
          replace rb := rb.ext EA
          replace pe := EA.cell pe
          replace XR := XR.trans EA
          refine hK.out _ (vabb_3.alloc (.cells #[.int .i64 many, .int .i64 v] 3)) ⟨(XR.cell f0), (XR.cell f1), (XR.cell f2), (XR.cell e0), pe⟩ (fun hHeld => ?_)
          clear hK K EA
          try simp only [Act.put, qa, qb, qc, qD, qE, qF]
          generalize (vabb_3.alloc (.cells #[.int .i64 many, .int .i64 v] 3)) = vabba_4 at *
          refine qHk (v := ?_) 15 rfl (.inl ⟨by rfl, ?_⟩) ?_
          rotate_left
          ·
           (intro w hSw; (try dsimp only at hSw); go_simp; try with_reducible rfl)
          try simp only [Act.put, qa, qb, qc, qD, qE, qF]
          refine qHr 16 rfl (fun K hK => ?_)
          try simp only [Act.put, qa, qb, qc, qD, qE, qF]
          go_simp
          have EA : Ext vabba_4 (vabba_4.alloc (.cells #[.int .i64 0, .slice none 0 0, .slice none 0 0] 25)) := (Ext.refl _).alloc _
          have o_b_c := rb.lt
          have o_a_c := ra.lt
          have o_p_c : bp < vabba_4.heap.size := qB pe
          have rc := Box3.new XR
          replace rb := rb.ext EA
          replace ra := ra.ext EA
          replace pe := EA.cell pe
          replace XR := XR.trans EA
          refine hK.out _ (vabba_4.alloc (.cells #[.int .i64 0, .slice none 0 0, .slice none 0 0] 25)) ⟨(XR.cell f0), (XR.cell f1), (XR.cell f2), (XR.cell e0), pe⟩ (fun hHeld => ?_)
          clear hK K EA
          try simp only [Act.put, qa, qb, qc, qD, qE, qF]
          generalize (vabba_4.alloc (.cells #[.int .i64 0, .slice none 0 0, .slice none 0 0] 25)) = vabba_5 at *
          refine qHr 17 rfl (fun K hK => ?_)
          have KS := Chg.three (lo := vabba_4.heap.size) vabba_5 (.int .i64 p) (.slice (some ⟨vabb_3.heap.size, 0, none⟩) 2 2) (.slice (some ⟨vab_2.heap.size, 0, none⟩) 2 2)
          have hc := rc
          obtain ⟨-, y0, y1, y2, z0, z1, z2⟩ := rc
          try simp only [Act.put, qa, qb, qc, qD, qE, qF]
          go_simp
          clear y0 y1 y2 z0 z1 z2
          replace ra := ra.chg KS (by omega)
          replace rb := rb.chg KS (by omega)
          have rc := Box3.set hc (.int .i64 p) (.slice (some ⟨vabb_3.heap.size, 0, none⟩) 2 2) (.slice (some ⟨vab_2.heap.size, 0, none⟩) 2 2)
          replace XR := Ext.chg XR KS hc.ge
          replace pe := KS.cell (by omega) pe
          clear hc
          have EA := KS
          clear KS
          refine hK.out _ _ ⟨(XR.cell f0), (XR.cell f1), (XR.cell f2), (XR.cell e0), pe⟩ (fun hHeld => ?_)
          clear hK K EA
          try simp only [Act.put, qa, qb, qc, qD, qE, qF]
          refine wpAnyH_done qKr ?_ _
          clear hHeld
          go_step
          go_step
          go_meet
          case rel => exact ⟨_, _, _, rfl, XR, ra, rb, rc, by omega, by omega, by omega⟩
         ·
          try simp only [Act.put, qa, qb, qc, qD, qE, qF]
          go_simp
          have EA : Ext vabb_3 (vabb_3.alloc (.cells #[.int .i64 0, .slice none 0 0, .slice none 0 0] 25)) := (Ext.refl _).alloc _
          have o_b_c := rb.lt
          have o_p_c : bp < vabb_3.heap.size := qB pe
          have rc := Box3.new XR
          replace rb := rb.ext EA
          replace pe := EA.cell pe
          replace XR := XR.trans EA
          refine hK.out _ (vabb_3.alloc (.cells #[.int .i64 0, .slice none 0 0, .slice none 0 0] 25)) ⟨(XR.cell f0), (XR.cell f1), (XR.cell f2), (XR.cell e0), pe⟩ (fun hHeld => ?_)
          clear hK K EA
          try simp only [Act.put, qa, qb, qc, qD, qE, qF]
          generalize (vabb_3.alloc (.cells #[.int .i64 0, .slice none 0 0, .slice none 0 0] 25)) = vabbb_4 at *
          refine qHr 11 rfl (fun K hK => ?_)
          try simp only [Act.put, qa, qb, qc, qD, qE, qF]
          go_simp
          have EA : Ext vabbb_4 (vabbb_4.alloc (.cells #[.int .i64 many, .int .i64 v] 3)) := (Ext.refl _).alloc _
          have o_b_a := rb.lt
          have o_c_a := rc.lt
          have o_p_a : bp < vabbb_4.heap.size := qB pe
          have ra := Row2.new XR many v
          replace rb := rb.ext EA
          replace rc := rc.ext EA
          replace pe := EA.cell pe
          replace XR := XR.trans EA
          refine hK.out _ (vabbb_4.alloc (.cells #[.int .i64 many, .int .i64 v] 3)) ⟨(XR.cell f0), (XR.cell f1), (XR.cell f2), (XR.cell e0), pe⟩ (fun hHeld => ?_)
          clear hK K EA
          try simp only [Act.put, qa, qb, qc, qD, qE, qF]
          generalize (vabbb_4.alloc (.cells #[.int .i64 many, .int .i64 v] 3)) = vabbb_5 at *
          refine qHk (v := ?_) 15 rfl (.inl ⟨by rfl, ?_⟩) ?_
          rotate_left
          ·
           (intro w hSw; (try dsimp only at hSw); go_simp; try with_reducible rfl)
          try simp only [Act.put, qa, qb, qc, qD, qE, qF]
          refine qHr 17 rfl (fun K hK => ?_)
          have KS := Chg.three (lo := vabb_3.heap.size) vabbb_5 (.int .i64 p) (.slice (some ⟨vabbb_4.heap.size, 0, none⟩) 2 2) (.slice (some ⟨vab_2.heap.size, 0, none⟩) 2 2)
          have hc := rc
          obtain ⟨-, y0, y1, y2, z0, z1, z2⟩ := rc
          try simp only [Act.put, qa, qb, qc, qD, qE, qF]
          go_simp
          clear y0 y1 y2 z0 z1 z2
          replace ra := ra.chg KS (by omega)
          replace rb := rb.chg KS (by omega)
          have rc := Box3.set hc (.int .i64 p) (.slice (some ⟨vabbb_4.heap.size, 0, none⟩) 2 2) (.slice (some ⟨vab_2.heap.size, 0, none⟩) 2 2)
          replace XR := Ext.chg XR KS hc.ge
          replace pe := KS.cell (by omega) pe
          clear hc
          have EA := KS
          clear KS
          refine hK.out _ _ ⟨(XR.cell f0), (XR.cell f1), (XR.cell f2), (XR.cell e0), pe⟩ (fun hHeld => ?_)
          clear hK K EA
          try simp only [Act.put, qa, qb, qc, qD, qE, qF]
          refine wpAnyH_done qKr ?_ _
          clear hHeld
          go_step
          go_step
          go_meet
          case rel => exact ⟨_, _, _, rfl, XR, ra, rb, rc, by omega, by omega, by omega⟩
        ·
         try simp only [Act.put, qa, qb, qc, qD, qE, qF]
         go_simp
         have EA : Ext vab_2 (vab_2.alloc (.cells #[.int .i64 0, .slice none 0 0, .slice none 0 0] 25)) := (Ext.refl _).alloc _
         have o_p_c : bp < vab_2.heap.size := qB pe
         have rc := Box3.new XR
         replace pe := EA.cell pe
         replace XR := XR.trans EA
         refine hK.out _ (vab_2.alloc (.cells #[.int .i64 0, .slice none 0 0, .slice none 0 0] 25)) ⟨(XR.cell f0), (XR.cell f1), (XR.cell f2), (XR.cell e0), pe⟩ (fun hHeld => ?_)
         clear hK K EA
         try simp only [Act.put, qa, qb, qc, qD, qE, qF]
         generalize (vab_2.alloc (.cells #[.int .i64 0, .slice none 0 0, .slice none 0 0] 25)) = vabc_3 at *
         refine wpAnyH_ready (rs := [11, 14]) qKr (by simp) ?_
         refine AllReadyH.cons rfl (fun K hK => ?_) (AllReadyH.cons rfl (fun K hK => ?_) AllReadyH.nil)
         ·
          try simp only [Act.put, qa, qb, qc, qD, qE, qF]
          go_simp
          have EA : Ext vabc_3 (vabc_3.alloc (.cells #[.int .i64 many, .int .i64 v] 3)) := (Ext.refl _).alloc _
          have o_c_a := rc.lt
          have o_p_a : bp < vabc_3.heap.size := qB pe
          have ra := Row2.new XR many v
          replace rc := rc.ext EA
          replace pe := EA.cell pe
          replace XR := XR.trans EA
          refine hK.out _ (vabc_3.alloc (.cells #[.int .i64 many, .int .i64 v] 3)) ⟨(XR.cell f0), (XR.cell f1), (XR.cell f2), (XR.cell e0), pe⟩ (fun hHeld => ?_)
          clear hK K EA
          try simp only [Act.put, qa, qb, qc, qD, qE, qF]
          generalize (vabc_3.alloc (.cells #[.int .i64 many, .int .i64 v] 3)) = vabca_4 at *
          refine qHr 14 rfl (fun K hK => ?_)
          try simp only [Act.put, qa, qb, qc, qD, qE, qF]
          go_simp
          have EA : Ext vabca_4 (vabca_4.alloc (.cells #[.int .i64 N, .int .i64 1] 3)) := (Ext.refl _).alloc _
          have o_c_b := rc.lt
          have o_a_b := ra.lt
          have o_p_b : bp < vabca_4.heap.size := qB pe
          have rb := Row2.new XR N 1
          replace rc := rc.ext EA
          replace ra := ra.ext EA
          replace pe := EA.cell pe
          replace XR := XR.trans EA
          refine hK.out _ (vabca_4.alloc (.cells #[.int .i64 N, .int .i64 1] 3)) ⟨(XR.cell f0), (XR.cell f1), (XR.cell f2), (XR.cell e0), pe⟩ (fun hHeld => ?_)
          clear hK K EA
          try simp only [Act.put, qa, qb, qc, qD, qE, qF]
          generalize (vabca_4.alloc (.cells #[.int .i64 N, .int .i64 1] 3)) = vabca_5 at *
          refine qHk (v := ?_) 15 rfl (.inl ⟨by rfl, ?_⟩) ?_
          rotate_left
          ·
           (intro w hSw; (try dsimp only at hSw); go_simp; try with_reducible rfl)
          try simp only [Act.put, qa, qb, qc, qD, qE, qF]
          refine qHr 17 rfl (fun K hK => ?_)
          have KS := Chg.three (lo := vab_2.heap.size) vabca_5 (.int .i64 p) (.slice (some ⟨vabc_3.heap.size, 0, none⟩) 2 2) (.slice (some ⟨vabca_4.heap.size, 0, none⟩) 2 2)
          have hc := rc
          obtain ⟨-, y0, y1, y2, z0, z1, z2⟩ := rc
          try simp only [Act.put, qa, qb, qc, qD, qE, qF]
          go_simp
          clear y0 y1 y2 z0 z1 z2
          replace ra := ra.chg KS (by omega)
          replace rb := rb.chg KS (by omega)
          have rc := Box3.set hc (.int .i64 p) (.slice (some ⟨vabc_3.heap.size, 0, none⟩) 2 2) (.slice (some ⟨vabca_4.heap.size, 0, none⟩) 2 2)
          replace XR := Ext.chg XR KS hc.ge
          replace pe := KS.cell (by omega) pe
          clear hc
          have EA := KS
          clear KS
          refine hK.out _ _ ⟨(XR.cell f0), (XR.cell f1), (XR.cell f2), (XR.cell e0), pe⟩ (fun hHeld => ?_)
          clear hK K EA
          try simp only [Act.put, qa, qb, qc, qD, qE, qF]
          refine wpAnyH_done qKr ?_ _
          clear hHeld
          go_step
          go_step
          go_meet
          case rel => exact ⟨_, _, _, rfl, XR, ra, rb, rc, by omega, by omega, by omega⟩
         ·
          try simp only [Act.put, qa, qb, qc, qD, qE, qF]
          go_simp
          have EA : Ext vabc_3 (vabc_3.alloc (.cells #[.int .i64 N, .int .i64 1] 3)) := (Ext.refl _).alloc _
          have o_c_b := rc.lt
          have o_p_b : bp < vabc_3.heap.size := qB pe
          have rb := Row2.new XR N 1
          replace rc := rc.ext EA
          replace pe := EA.cell pe
          replace XR := XR.trans EA
          refine hK.out _ (vabc_3.alloc (.cells #[.int .i64 N, .int .i64 1] 3)) ⟨(XR.cell f0), (XR.cell f1), (XR.cell f2), (XR.cell e0), pe⟩ (fun hHeld => ?_)
          clear hK K EA
          try simp only [Act.put, qa, qb, qc, qD, qE, qF]
          generalize (vabc_3.alloc (.cells #[.int .i64 N, .int .i64 1] 3)) = vabcb_4 at *
          refine qHr 11 rfl (fun K hK => ?_)
          try simp only [Act.put, qa, qb, qc, qD, qE, qF]
          go_simp
          have EA : Ext vabcb_4 (vabcb_4.alloc (.cells #[.int .i64 many, .int .i64 v] 3)) := (Ext.refl _).alloc _
          have o_c_a := rc.lt
          have o_b_a := rb.lt
          have o_p_a : bp < vabcb_4.heap.size := qB pe
          have ra := Row2.new XR many v
          replace rc := rc.ext EA
          replace rb := rb.ext EA
          replace pe := EA.cell pe
          replace XR := XR.trans EA
          refine hK.out _ (vabcb_4.alloc (.cells #[.int .i64 many, .int .i64 v] 3)) ⟨(XR.cell f0), (XR.cell f1), (XR.cell f2), (XR.cell e0), pe⟩ (fun hHeld => ?_)
          clear hK K EA
          try simp only [Act.put, qa, qb, qc, qD, qE, qF]
          generalize (vabcb_4.alloc (.cells #[.int .i64 many, .int .i64 v] 3)) = vabcb_5 at *
          refine qHk (v := ?_) 15 rfl (.inl ⟨by rfl, ?_⟩) ?_
          rotate_left
          ·
           (intro w hSw; (try dsimp only at hSw); go_simp; try with_reducible rfl)
          try simp only [Act.put, qa, qb, qc, qD, qE, qF]
          refine qHr 17 rfl (fun K hK => ?_)
          have KS := Chg.three (lo := vab_2.heap.size) vabcb_5 (.int .i64 p) (.slice (some ⟨vabcb_4.heap.size, 0, none⟩) 2 2) (.slice (some ⟨vabc_3.heap.size, 0, none⟩) 2 2)
          have hc := rc
          obtain ⟨-, y0, y1, y2, z0, z1, z2⟩ := rc
          try simp only [Act.put, qa, qb, qc, qD, qE, qF]
          go_simp
          clear y0 y1 y2 z0 z1 z2
          replace ra := ra.chg KS (by omega)
          replace rb := rb.chg KS (by omega)
          have rc := Box3.set hc (.int .i64 p) (.slice (some ⟨vabcb_4.heap.size, 0, none⟩) 2 2) (.slice (some ⟨vabc_3.heap.size, 0, none⟩) 2 2)
          replace XR := Ext.chg XR KS hc.ge
          replace pe := KS.cell (by omega) pe
          clear hc
          have EA := KS
          clear KS
          refine hK.out _ _ ⟨(XR.cell f0), (XR.cell f1), (XR.cell f2), (XR.cell e0), pe⟩ (fun hHeld => ?_)
          clear hK K EA
          try simp only [Act.put, qa, qb, qc, qD, qE, qF]
          refine wpAnyH_done qKr ?_ _
          clear hHeld
          go_step
          go_step
          go_meet
          case rel => exact ⟨_, _, _, rfl, XR, ra, rb, rc, by omega, by omega, by omega⟩
       ·
        try simp only [Act.put, qa, qb, qc, qD, qE, qF]
        go_simp
        have EA : Ext va_1 (va_1.alloc (.cells #[.int .i64 0, .slice none 0 0, .slice none 0 0] 25)) := (Ext.refl _).alloc _
        have o_p_c : bp < va_1.heap.size := qB pe
        have rc := Box3.new XR
        replace pe := EA.cell pe
        replace XR := XR.trans EA
        refine hK.out _ (va_1.alloc (.cells #[.int .i64 0, .slice none 0 0, .slice none 0 0] 25)) ⟨(XR.cell f0), (XR.cell f1), (XR.cell f2), (XR.cell e0), pe⟩ (fun hHeld => ?_)
        clear hK K EA
        try simp only [Act.put, qa, qb, qc, qD, qE, qF]
        generalize (va_1.alloc (.cells #[.int .i64 0, .slice none 0 0, .slice none 0 0] 25)) = vac_2 at *
        refine wpAnyH_ready (rs := [11, 13]) qKr (by simp) ?_
        refine AllReadyH.cons rfl (fun K hK => ?_) (AllReadyH.cons rfl (fun K hK => ?_) AllReadyH.nil)
        ·
         try simp only [Act.put, qa, qb, qc, qD, qE, qF]
         go_simp
         have EA : Ext vac_2 (vac_2.alloc (.cells #[.int .i64 many, .int .i64 v] 3)) := (Ext.refl _).alloc _
         have o_c_a := rc.lt
         have o_p_a : bp < vac_2.heap.size := qB pe
         have ra := Row2.new XR many v
         replace rc := rc.ext EA
         replace pe := EA.cell pe
         replace XR := XR.trans EA
         refine hK.out _ (vac_2.alloc (.cells #[.int .i64 many, .int .i64 v] 3)) ⟨(XR.cell f0), (XR.cell f1), (XR.cell f2), (XR.cell e0), pe⟩ (fun hHeld => ?_)
         clear hK K EA
         try simp only [Act.put, qa, qb, qc, qD, qE, qF]
         generalize (vac_2.alloc (.cells #[.int .i64 many, .int .i64 v] 3)) = vaca_3 at *
         refine qHr 13 rfl (fun K hK => ?_)
         try simp only [Act.put, qa, qb, qc, qD, qE, qF]
         go_simp
         refine (implSize_e hN.out (h1.ext (Xw1.trans (XR.trans qXt))) hf.out).mono ?_
         rintro e vaca_4 ⟨rfl, x9⟩
         have EA : Ext vaca_3 vaca_4 := x9
         clear x9
         replace rc := rc.ext EA
         replace ra := ra.ext EA
         replace pe := EA.cell pe
         replace XR := XR.trans EA
         refine hK.out _ _ ⟨(XR.cell f0), (XR.cell f1), (XR.cell f2), (XR.cell e0), pe⟩ (fun hHeld => ?_)
         clear hK K EA
         try simp only [Act.put, qa, qb, qc, qD, qE, qF]
         refine qHr 14 rfl (fun K hK => ?_)
         try simp only [Act.put, qa, qb, qc, qD, qE, qF]
         go_simp
         have EA : Ext vaca_4 (vaca_4.alloc (.cells #[.int .i64 N, .int .i64 1] 3)) := (Ext.refl _).alloc _
         have o_c_b := rc.lt
         have o_a_b := ra.lt
         have o_p_b : bp < vaca_4.heap.size := qB pe
         have rb := Row2.new XR N 1
         replace rc := rc.ext EA
         replace ra := ra.ext EA
         replace pe := EA.cell pe
         replace XR := XR.trans EA
         refine hK.out _ (vaca_4.alloc (.cells #[.int .i64 N, .int .i64 1] 3)) ⟨(XR.cell f0), (XR.cell f1), (XR.cell f2), (XR.cell e0), pe⟩ (fun hHeld => ?_)
         clear hK K EA
         try simp only [Act.put, qa, qb, qc, qD, qE, qF]
         generalize (vaca_4.alloc (.cells #[.int .i64 N, .int .i64 1] 3)) = vaca_5 at *
         refine qHk (v := ?_) 15 rfl (.inl ⟨by rfl, ?_⟩) ?_
         rotate_left
         ·
          (intro w hSw; (try dsimp only at hSw); go_simp; try with_reducible rfl)
         try simp only [Act.put, qa, qb, qc, qD, qE, qF]
         refine qHr 17 rfl (fun K hK => ?_)
         have KS := Chg.three (lo := va_1.heap.size) vaca_5 (.int .i64 p) (.slice (some ⟨vac_2.heap.size, 0, none⟩) 2 2) (.slice (some ⟨vaca_4.heap.size, 0, none⟩) 2 2)
         have hc := rc
         obtain ⟨-, y0, y1, y2, z0, z1, z2⟩ := rc
         try simp only [Act.put, qa, qb, qc, qD, qE, qF]
         go_simp
         clear y0 y1 y2 z0 z1 z2
         replace ra := ra.chg KS (by omega)
         replace rb := rb.chg KS (by omega)
         have rc := Box3.set hc (.int .i64 p) (.slice (some ⟨vac_2.heap.size, 0, none⟩) 2 2) (.slice (some ⟨vaca_4.heap.size, 0, none⟩) 2 2)
         replace XR := Ext.chg XR KS hc.ge
         replace pe := KS.cell (by omega) pe
         clear hc
         have EA := KS
         clear KS
         refine hK.out _ _ ⟨(XR.cell f0), (XR.cell f1), (XR.cell f2), (XR.cell e0), pe⟩ (fun hHeld => ?_)
         clear hK K EA
         try simp only [Act.put, qa, qb, qc, qD, qE, qF]
         refine wpAnyH_done qKr ?_ _
         clear hHeld
         go_step
         go_step
         go_meet
         case rel => exact ⟨_, _, _, rfl, XR, ra, rb, rc, by omega, by omega, by omega⟩
        ·
         try simp only [Act.put, qa, qb, qc, qD, qE, qF]
         go_simp
         refine (implSize_e hN.out (h1.ext (Xw1.trans (XR.trans qXt))) hf.out).mono ?_
         rintro e vacb_3 ⟨rfl, x9⟩
         have EA : Ext vac_2 vacb_3 := x9
         clear x9
         replace rc := rc.ext EA
         replace pe := EA.cell pe
         replace XR := XR.trans EA
         refine hK.out _ _ ⟨(XR.cell f0), (XR.cell f1), (XR.cell f2), (XR.cell e0), pe⟩ (fun hHeld => ?_)
         clear hK K EA
         try simp only [Act.put, qa, qb, qc, qD, qE, qF]
         refine wpAnyH_ready (rs := [11, 14]) qKr (by simp) ?_
         refine AllReadyH.cons rfl (fun K hK => ?_) (AllReadyH.cons rfl (fun K hK => ?_) AllReadyH.nil)
         ·
          try simp only [Act.put, qa, qb, qc, qD, qE, qF]
          go_simp
          have EA : Ext vacb_3 (vacb_3.alloc (.cells #[.int .i64 many, .int .i64 v] 3)) := (Ext.refl _).alloc _
          have o_c_a := rc.lt
          have o_p_a : bp < vacb_3.heap.size := qB pe
          have ra := Row2.new XR many v
          replace rc := rc.ext EA
          replace pe := EA.cell pe
          replace XR := XR.trans EA
          refine hK.out _ (vacb_3.alloc (.cells #[.int .i64 many, .int .i64 v] 3)) ⟨(XR.cell f0), (XR.cell f1), (XR.cell f2), (XR.cell e0), pe⟩ (fun hHeld => ?_)
          clear hK K EA
          try simp only [Act.put, qa, qb, qc, qD, qE, qF]
          generalize (vacb_3.alloc (.cells #[.int .i64 many, .int .i64 v] 3)) = vacba_4 at *
          refine qHr 14 rfl (fun K hK => ?_)
          try simp only [Act.put, qa, qb, qc, qD, qE, qF]
          go_simp
          have EA : Ext vacba_4 (vacba_4.alloc (.cells #[.int .i64 N, .int .i64 1] 3)) := (Ext.refl _).alloc _
          have o_c_b := rc.lt
          have o_a_b := ra.lt
          have o_p_b : bp < vacba_4.heap.size := qB pe
          have rb := Row2.new XR N 1
          replace rc := rc.ext EA
          replace ra := ra.ext EA
          replace pe := EA.cell pe
          replace XR := XR.trans EA
          refine hK.out _ (vacba_4.alloc (.cells #[.int .i64 N, .int .i64 1] 3)) ⟨(XR.cell f0), (XR.cell f1), (XR.cell f2), (XR.cell e0), pe⟩ (fun hHeld => ?_)
          clear hK K EA
          try simp only [Act.put, qa, qb, qc, qD, qE, qF]
          generalize (vacba_4.alloc (.cells #[.int .i64 N, .int .i64 1] 3)) = vacba_5 at *
          refine qHk (v := ?_) 15 rfl (.inl ⟨by rfl, ?_⟩) ?_
          rotate_left
          ·
           (intro w hSw; (try dsimp only at hSw); go_simp; try with_reducible rfl)
          try simp only [Act.put, qa, qb, qc, qD, qE, qF]
          refine qHr 17 rfl (fun K hK => ?_)
          have KS := Chg.three (lo := va_1.heap.size) vacba_5 (.int .i64 p) (.slice (some ⟨vacb_3.heap.size, 0, none⟩) 2 2) (.slice (some ⟨vacba_4.heap.size, 0, none⟩) 2 2)
          have hc := rc
          obtain ⟨-, y0, y1, y2, z0, z1, z2⟩ := rc
          try simp only [Act.put, qa, qb, qc, qD, qE, qF]
          go_simp
          clear y0 y1 y2 z0 z1 z2
          replace ra := ra.chg KS (by omega)
          replace rb := rb.chg KS (by omega)
          have rc := Box3.set hc (.int .i64 p) (.slice (some ⟨vacb_3.heap.size, 0, none⟩) 2 2) (.slice (some ⟨vacba_4.heap.size, 0, none⟩) 2 2)
          replace XR := Ext.chg XR KS hc.ge
          replace pe := KS.cell (by omega) pe
          clear hc
          have EA := KS
          clear KS
          refine hK.out _ _ ⟨(XR.cell f0), (XR.cell f1), (XR.cell f2), (XR.cell e0), pe⟩ (fun hHeld => ?_)
          clear hK K EA
          try simp only [Act.put, qa, qb, qc, qD, qE, qF]
          refine wpAnyH_done qKr ?_ _
          clear hHeld
          go_step
          go_step
          go_meet
          case rel => exact ⟨_, _, _, rfl, XR, ra, rb, rc, by omega, by omega, by omega⟩
         ·
          try simp only [Act.put, qa, qb, qc, qD, qE, qF]
          go_simp
          have EA : Ext vacb_3 (vacb_3.alloc (.cells #[.int .i64 N, .int .i64 1] 3)) := (Ext.refl _).alloc _
          have o_c_b := rc.lt
          have o_p_b : bp < vacb_3.heap.size := qB pe
          have rb := Row2.new XR N 1
          replace rc := rc.ext EA
          replace pe := EA.cell pe
          replace XR := XR.trans EA
          refine hK.out _ (vacb_3.alloc (.cells #[.int .i64 N, .int .i64 1] 3)) ⟨(XR.cell f0), (XR.cell f1), (XR.cell f2), (XR.cell e0), pe⟩ (fun hHeld => ?_)
          clear hK K EA
          try simp only [Act.put, qa, qb, qc, qD, qE, qF]
          generalize (vacb_3.alloc (.cells #[.int .i64 N, .int .i64 1] 3)) = vacbb_4 at *
          refine qHr 11 rfl (fun K hK => ?_)
          try simp only [Act.put, qa, qb, qc, qD, qE, qF]
          go_simp
          have EA : Ext vacbb_4 (vacbb_4.alloc (.cells #[.int .i64 many, .int .i64 v] 3)) := (Ext.refl _).alloc _
          have o_c_a := rc.lt
          have o_b_a := rb.lt
          have o_p_a : bp < vacbb_4.heap.size := qB pe
          have ra := Row2.new XR many v
          replace rc := rc.ext EA
          replace rb := rb.ext EA
          replace pe := EA.cell pe
          replace XR := XR.trans EA
          refine hK.out _ (vacbb_4.alloc (.cells #[.int .i64 many, .int .i64 v] 3)) ⟨(XR.cell f0), (XR.cell f1), (XR.cell f2), (XR.cell e0), pe⟩ (fun hHeld => ?_)
          clear hK K EA
          try simp only [Act.put, qa, qb, qc, qD, qE, qF]
          generalize (vacbb_4.alloc (.cells #[.int .i64 many, .int .i64 v] 3)) = vacbb_5 at *
          refine qHk (v := ?_) 15 rfl (.inl ⟨by rfl, ?_⟩) ?_
          rotate_left
          ·
           (intro w hSw; (try dsimp only at hSw); go_simp; try with_reducible rfl)
          try simp only [Act.put, qa, qb, qc, qD, qE, qF]
          refine qHr 17 rfl (fun K hK => ?_)
          have KS := Chg.three (lo := va_1.heap.size) vacbb_5 (.int .i64 p) (.slice (some ⟨vacbb_4.heap.size, 0, none⟩) 2 2) (.slice (some ⟨vacb_3.heap.size, 0, none⟩) 2 2)
          have hc := rc
          obtain ⟨-, y0, y1, y2, z0, z1, z2⟩ := rc
          try simp only [Act.put, qa, qb, qc, qD, qE, qF]
          go_simp
          clear y0 y1 y2 z0 z1 z2
          replace ra := ra.chg KS (by omega)
          replace rb := rb.chg KS (by omega)
          have rc := Box3.set hc (.int .i64 p) (.slice (some ⟨vacbb_4.heap.size, 0, none⟩) 2 2) (.slice (some ⟨vacb_3.heap.size, 0, none⟩) 2 2)
          replace XR := Ext.chg XR KS hc.ge
          replace pe := KS.cell (by omega) pe
          clear hc
          have EA := KS
          clear KS
          refine hK.out _ _ ⟨(XR.cell f0), (XR.cell f1), (XR.cell f2), (XR.cell e0), pe⟩ (fun hHeld => ?_)
          clear hK K EA
          try simp only [Act.put, qa, qb, qc, qD, qE, qF]
          refine wpAnyH_done qKr ?_ _
          clear hHeld
          go_step
          go_step
          go_meet
          case rel => exact ⟨_, _, _, rfl, XR, ra, rb, rc, by omega, by omega, by omega⟩
      ·
       try simp only [Act.put, qa, qb, qc, qD, qE, qF]
       go_simp
       have EA : Ext w1 (w1.drew.alloc (.cells #[.int .i64 many, .int .i64 v] 3)) := ((Ext.refl _).drew).alloc _
       have ra := Row2.newD XR many v
       replace XR := XR.trans EA
       refine hK.out _ (w1.drew.alloc (.cells #[.int .i64 many, .int .i64 v] 3)) ⟨(XR.cell f0), (XR.cell f1), (XR.cell f2), (XR.cell e0)⟩ (fun hHeld => ?_)
       clear hK K EA
       try simp only [Act.put, qa, qb, qc, qD, qE, qF]
       generalize (w1.drew.alloc (.cells #[.int .i64 many, .int .i64 v] 3)) = vb_1 at *
       refine wpAnyH_ready (rs := [1, 16]) qKr (by simp) ?_
       refine AllReadyH.cons rfl (fun K hK => ?_) (AllReadyH.cons rfl (fun K hK => ?_) AllReadyH.nil)
       ·
        try simp only [Act.put, qa, qb, qc, qD, qE, qF]
        go_simp
        refine (implPlaces_c xs _ big al _ _ (h1.ext (Xw1.trans (XR.trans qXt))) hf.out).mono ?_
        rintro e vba_2 ⟨pv, rfl, iP, -, x9⟩
        obtain ⟨p5, c5, rfl⟩ := iP.form
        obtain ⟨bp, op, rfl, lbp, zbp⟩ := iP.blk hpn
        obtain ⟨bp9, op9, h9, pe⟩ := iP.at kn hkP
        cases h9
        rw [hp.out] at pe
        have o_a_p := Nat.lt_of_lt_of_le ra.lt lbp
        have EA : Ext vb_1 vba_2 := x9
        clear x9
        replace ra := ra.ext EA
        replace XR := XR.trans EA
        refine hK.out _ _ ⟨(XR.cell f0), (XR.cell f1), (XR.cell f2), (XR.cell e0)⟩ (fun hHeld => ?_)
        clear hK K EA
        try simp only [Act.put, qa, qb, qc, qD, qE, qF]
        refine qHk (v := ?_) 3 rfl (.inl ⟨by rfl, ?_⟩) ?_
        rotate_left
        ·
         (intro w hSw; (try dsimp only at hSw); go_simp; try with_reducible rfl)
        try simp only [Act.put, qa, qb, qc, qD, qE, qF]
        refine wpAnyH_sub (S' := fun w' => w'.cell? ⟨w.heap.size, 0, none⟩ = some (.slice (some ⟨bl, ol, none⟩) xs.length cq0) ∧ w'.cell? ⟨w.heap.size, 1, none⟩ = some (.bool big) ∧ w'.cell? ⟨w.heap.size, 2, none⟩ = some (.bool al) ∧ w'.cell? ⟨bl, ol + kn, none⟩ = some (.int .i64 v) ∧ w'.cell? ⟨bp, op + kn, none⟩ = some (.int .i64 p)) (fun _ h => ⟨h.1, h.2.1, h.2.2.1, h.2.2.2.1⟩) _ _ _ _ ?_
        replace hHeld : (fun w' : World => w'.cell? ⟨w.heap.size, 0, none⟩ = some (.slice (some ⟨bl, ol, none⟩) xs.length cq0) ∧ w'.cell? ⟨w.heap.size, 1, none⟩ = some (.bool big) ∧ w'.cell? ⟨w.heap.size, 2, none⟩ = some (.bool al) ∧ w'.cell? ⟨bl, ol + kn, none⟩ = some (.int .i64 v) ∧ w'.cell? ⟨bp, op + kn, none⟩ = some (.int .i64 p)) vba_2 := ⟨(XR.cell f0), (XR.cell f1), (XR.cell f2), (XR.cell e0), pe⟩
        refine qHk (v := ?_) 4 rfl (.inl ⟨by rfl, ?_⟩) ?_
        rotate_left
        ·
         (intro w hSw; (try dsimp only at hSw); go_simp; try with_reducible rfl)
        try simp only [Act.put, qa, qb, qc, qD, qE, qF]
        refine wpAnyH_ready (rs := [13, 16]) qKr (by simp) ?_
        refine AllReadyH.cons rfl (fun K hK => ?_) (AllReadyH.cons rfl (fun K hK => ?_) AllReadyH.nil)
        ·
         try simp only [Act.put, qa, qb, qc, qD, qE, qF]
         go_simp
         refine (implSize_e hN.out (h1.ext (Xw1.trans (XR.trans qXt))) hf.out).mono ?_
         rintro e vbaa_3 ⟨rfl, x9⟩
         have EA : Ext vba_2 vbaa_3 := x9
         clear x9
         replace ra := ra.ext EA
         replace pe := EA.cell pe
         replace XR := XR.trans EA
         refine hK.out _ _ ⟨(XR.cell f0), (XR.cell f1), (XR.cell f2), (XR.cell e0), pe⟩ (fun hHeld => ?_)
         clear hK K EA
         try simp only [Act.put, qa, qb, qc, qD, qE, qF]
         refine wpAnyH_ready (rs := [14, 16]) qKr (by simp) ?_
         refine AllReadyH.cons rfl (fun K hK => ?_) (AllReadyH.cons rfl (fun K hK => ?_) AllReadyH.nil)
         ·
          try simp only [Act.put, qa, qb, qc, qD, qE, qF]
          go_simp
          have EA : Ext vbaa_3 (vbaa_3.alloc (.cells #[.int .i64 N, .int .i64 1] 3)) := (Ext.refl _).alloc _
          have o_a_b := ra.lt
          have o_p_b : bp < vbaa_3.heap.size := qB pe
          have rb := Row2.new XR N 1
          replace ra := ra.ext EA
          replace pe := EA.cell pe
          replace XR := XR.trans EA
          refine hK.out _ (vbaa_3.alloc (.cells #[.int .i64 N, .int .i64 1] 3)) ⟨(XR.cell f0), (XR.cell f1), (XR.cell f2), (XR.cell e0), pe⟩ (fun hHeld => ?_)
          clear hK K EA
          try simp only [Act.put, qa, qb, qc, qD, qE, qF]
          generalize (vbaa_3.alloc (.cells #[.int .i64 N, .int .i64 1] 3)) = vbaaa_4 at *
          refine qHk (v := ?_) 15 rfl (.inl ⟨by rfl, ?_⟩) ?_
          rotate_left
          ·
           (intro w hSw; (try dsimp only at hSw); go_simp; try with_reducible rfl)
          try simp only [Act.put, qa, qb, qc, qD, qE, qF]
          refine qHr 16 rfl (fun K hK => ?_)
          try simp only [Act.put, qa, qb, qc, qD, qE, qF]
          go_simp
          have EA : Ext vbaaa_4 (vbaaa_4.alloc (.cells #[.int .i64 0, .slice none 0 0, .slice none 0 0] 25)) := (Ext.refl _).alloc _
          have o_a_c := ra.lt
          have o_b_c := rb.lt
          have o_p_c : bp < vbaaa_4.heap.size := qB pe
          have rc := Box3.new XR
          replace ra := ra.ext EA
          replace rb := rb.ext EA
          replace pe := EA.cell pe
          replace XR := XR.trans EA
          refine hK.out _ (vbaaa_4.alloc (.cells #[.int .i64 0, .slice none 0 0, .slice none 0 0] 25)) ⟨(XR.cell f0), (XR.cell f1), (XR.cell f2), (XR.cell e0), pe⟩ (fun hHeld => ?_)
          clear hK K EA
          try simp only [Act.put, qa, qb, qc, qD, qE, qF]
          generalize (vbaaa_4.alloc (.cells #[.int .i64 0, .slice none 0 0, .slice none 0 0] 25)) = vbaaa_5 at *
          refine qHr 17 rfl (fun K hK => ?_)
          have KS := Chg.three (lo := vbaaa_4.heap.size) vbaaa_5 (.int .i64 p) (.slice (some ⟨w1.heap.size, 0, none⟩) 2 2) (.slice (some ⟨vbaa_3.heap.size, 0, none⟩) 2 2)
          have hc := rc
          obtain ⟨-, y0, y1, y2, z0, z1, z2⟩ := rc
          try simp only [Act.put, qa, qb, qc, qD, qE, qF]
          go_simp
          clear y0 y1 y2 z0 z1 z2
          replace ra := ra.chg KS (by omega)
          replace rb := rb.chg KS (by omega)
          have rc := Box3.set hc (.int .i64 p) (.slice (some ⟨w1.heap.size, 0, none⟩) 2 2) (.slice (some ⟨vbaa_3.heap.size, 0, none⟩) 2 2)
          replace XR := Ext.chg XR KS hc.ge
          replace pe := KS.cell (by omega) pe
          clear hc
          have EA := KS
          clear KS
          refine hK.out _ _ ⟨(XR.cell f0), (XR.cell f1), (XR.cell f2), (XR.cell e0), pe⟩ (fun hHeld => ?_)
          clear hK K EA
          try simp only [Act.put, qa, qb, qc, qD, qE, qF]
          refine wpAnyH_done qKr ?_ _
          clear hHeld
          go_step
          go_step
          go_meet
          case rel => exact ⟨_, _, _, rfl, XR, ra, rb, rc, by omega, by omega, by omega⟩
         ·
          try simp only [Act.put, qa, qb, qc, qD, qE, qF]
          go_simp
          have EA : Ext vbaa_3 (vbaa_3.alloc (.cells #[.int .i64 0, .slice none 0 0, .slice none 0 0] 25)) := (Ext.refl _).alloc _
          have o_a_c := ra.lt
          have o_p_c : bp < vbaa_3.heap.size := qB pe
          have rc := Box3.new XR
          replace ra := ra.ext EA
          replace pe := EA.cell pe
          replace XR := XR.trans EA
          refine hK.out _ (vbaa_3.alloc (.cells #[.int .i64 0, .slice none 0 0, .slice none 0 0] 25)) ⟨(XR.cell f0), (XR.cell f1), (XR.cell f2), (XR.cell e0), pe⟩ (fun hHeld => ?_)
          clear hK K EA
          try simp only [Act.put, qa, qb, qc, qD, qE, qF]
          generalize (vbaa_3.alloc (.cells #[.int .i64 0, .slice none 0 0, .slice none 0 0] 25)) = vbaab_4 at *
          refine qHr 14 rfl (fun K hK => ?_)
          try simp only [Act.put, qa, qb, qc, qD, qE, qF]
          go_simp
          have EA : Ext vbaab_4 (vbaab_4.alloc (.cells #[.int .i64 N, .int .i64 1] 3)) := (Ext.refl _).alloc _
          have o_a_b := ra.lt
          have o_c_b := rc.lt
          have o_p_b : bp < vbaab_4.heap.size := qB pe
          have rb := Row2.new XR N 1
          replace ra := ra.ext EA
          replace rc := rc.ext EA
          replace pe := EA.cell pe
          replace XR := XR.trans EA
          refine hK.out _ (vbaab_4.alloc (.cells #[.int .i64 N, .int .i64 1] 3)) ⟨(XR.cell f0), (XR.cell f1), (XR.cell f2), (XR.cell e0), pe⟩ (fun hHeld => ?_)
          clear hK K EA
          try simp only [Act.put, qa, qb, qc, qD, qE, qF]
          generalize (vbaab_4.alloc (.cells #[.int .i64 N, .int .i64 1] 3)) = vbaab_5 at *
          refine qHk (v := ?_) 15 rfl (.inl ⟨by rfl, ?_⟩) ?_
          rotate_left
          ·
           (intro w hSw; (try dsimp only at hSw); go_simp; try with_reducible rfl)
          try simp only [Act.put, qa, qb, qc, qD, qE, qF]
          refine qHr 17 rfl (fun K hK => ?_)
          have KS := Chg.three (lo := vbaa_3.heap.size) vbaab_5 (.int .i64 p) (.slice (some ⟨w1.heap.size, 0, none⟩) 2 2) (.slice (some ⟨vbaab_4.heap.size, 0, none⟩) 2 2)
          have hc := rc
          obtain ⟨-, y0, y1, y2, z0, z1, z2⟩ := rc
          try simp only [Act.put, qa, qb, qc, qD, qE, qF]
          go_simp
          clear y0 y1 y2 z0 z1 z2
          replace ra := ra.chg KS (by omega)
          replace rb := rb.chg KS (by omega)
          have rc := Box3.set hc (.int .i64 p) (.slice (some ⟨w1.heap.size, 0, none⟩) 2 2) (.slice (some ⟨vbaab_4.heap.size, 0, none⟩) 2 2)
          replace XR := Ext.chg XR KS hc.ge
          replace pe := KS.cell (by omega) pe
          clear hc
          have EA := KS
          clear KS
          refine hK.out _ _ ⟨(XR.cell f0), (XR.cell f1), (XR.cell f2), (XR.cell e0), pe⟩ (fun hHeld => ?_)
          clear hK K EA
          try simp only [Act.put, qa, qb, qc, qD, qE, qF]
          refine wpAnyH_done qKr ?_ _
          clear hHeld
          go_step
          go_step
          go_meet
          case rel => exact ⟨_, _, _, rfl, XR, ra, rb, rc, by omega, by omega, by omega⟩
        ·
         try simp only [Act.put, qa, qb, qc, qD, qE, qF]
         go_simp
         have EA : Ext vba_2 (vba_2.alloc (.cells #[.int .i64 0, .slice none 0 0, .slice none 0 0] 25)) := (Ext.refl _).alloc _
         have o_a_c := ra.lt
         have o_p_c : bp < vba_2.heap.size := qB pe
         have rc := Box3.new XR
         replace ra := ra.ext EA
         replace pe := EA.cell pe
         replace XR := XR.trans EA
         refine hK.out _ (vba_2.alloc (.cells #[.int .i64 0, .slice none 0 0, .slice none 0 0] 25)) ⟨(XR.cell f0), (XR.cell f1), (XR.cell f2), (XR.cell e0), pe⟩ (fun hHeld => ?_)
         clear hK K EA
         try simp only [Act.put, qa, qb, qc, qD, qE, qF]
         generalize (vba_2.alloc (.cells #[.int .i64 0, .slice none 0 0, .slice none 0 0] 25)) = vbab_3 at *
         refine qHr 13 rfl (fun K hK => ?_)
         try simp only [Act.put, qa, qb, qc, qD, qE, qF]
         go_simp
         refine (implSize_e hN.out (h1.ext (Xw1.trans (XR.trans qXt))) hf.out).mono ?_
         rintro e vbab_4 ⟨rfl, x9⟩
         have EA : Ext vbab_3 vbab_4 := x9
         clear x9
         replace ra := ra.ext EA
         replace rc := rc.ext EA
         replace pe := EA.cell pe
         replace XR := XR.trans EA
         refine hK.out _ _ ⟨(XR.cell f0), (XR.cell f1), (XR.cell f2), (XR.cell e0), pe⟩ (fun hHeld => ?_)
         clear hK K EA
         try simp only [Act.put, qa, qb, qc, qD, qE, qF]
         refine qHr 14 rfl (fun K hK => ?_)
         try simp only [Act.put, qa, qb, qc, qD, qE, qF]
         go_simp
         have EA : Ext vbab_4 (vbab_4.alloc (.cells #[.int .i64 N, .int .i64 1] 3)) := (Ext.refl _).alloc _
         have o_a_b := ra.lt
         have o_c_b := rc.lt
         have o_p_b : bp < vbab_4.heap.size := qB pe
         have rb := Row2.new XR N 1
         replace ra := ra.ext EA
         replace rc := rc.ext EA
         replace pe := EA.cell pe
         replace XR := XR.trans EA
         refine hK.out _ (vbab_4.alloc (.cells #[.int .i64 N, .int .i64 1] 3)) ⟨(XR.cell f0), (XR.cell f1), (XR.cell f2), (XR.cell e0), pe⟩ (fun hHeld => ?_)
         clear hK K EA
         try simp only [Act.put, qa, qb, qc, qD, qE, qF]
         generalize (vbab_4.alloc (.cells #[.int .i64 N, .int .i64 1] 3)) = vbab_5 at *
         refine qHk (v := ?_) 15 rfl (.inl ⟨by rfl, ?_⟩) ?_
         rotate_left
         ·
          (intro w hSw; (try dsimp only at hSw); go_simp; try with_reducible rfl)
         try simp only [Act.put, qa, qb, qc, qD, qE, qF]
         refine qHr 17 rfl (fun K hK => ?_)
         have KS := Chg.three (lo := vba_2.heap.size) vbab_5 (.int .i64 p) (.slice (some ⟨w1.heap.size, 0, none⟩) 2 2) (.slice (some ⟨vbab_4.heap.size, 0, none⟩) 2 2)
         have hc := rc
         obtain ⟨-, y0, y1, y2, z0, z1, z2⟩ := rc
         try simp only [Act.put, qa, qb, qc, qD, qE, qF]
         go_simp
         clear y0 y1 y2 z0 z1 z2
         replace ra := ra.chg KS (by omega)
         replace rb := rb.chg KS (by omega)
         have rc := Box3.set hc (.int .i64 p) (.slice (some ⟨w1.heap.size, 0, none⟩) 2 2) (.slice (some ⟨vbab_4.heap.size, 0, none⟩) 2 2)
         replace XR := Ext.chg XR KS hc.ge
         replace pe := KS.cell (by omega) pe
         clear hc
         have EA := KS
         clear KS
         refine hK.out _ _ ⟨(XR.cell f0), (XR.cell f1), (XR.cell f2), (XR.cell e0), pe⟩ (fun hHeld => ?_)
         clear hK K EA
         try simp only [Act.put, qa, qb, qc, qD, qE, qF]
         refine wpAnyH_done qKr ?_ _
         clear hHeld
         go_step
         go_step
         go_meet
         case rel => exact ⟨_, _, _, rfl, XR, ra, rb, rc, by omega, by omega, by omega⟩
       ·
        try simp only [Act.put, qa, qb, qc, qD, qE, qF]
        go_simp
        have EA : Ext vb_1 (vb_1.alloc (.cells #[.int .i64 0, .slice none 0 0, .slice none 0 0] 25)) := (Ext.refl _).alloc _
        have o_a_c := ra.lt
        have rc := Box3.new XR
        replace ra := ra.ext EA
        replace XR := XR.trans EA
        refine hK.out _ (vb_1.alloc (.cells #[.int .i64 0, .slice none 0 0, .slice none 0 0] 25)) ⟨(XR.cell f0), (XR.cell f1), (XR.cell f2), (XR.cell e0)⟩ (fun hHeld => ?_)
        clear hK K EA
        try simp only [Act.put, qa, qb, qc, qD, qE, qF]
        generalize (vb_1.alloc (.cells #[.int .i64 0, .slice none 0 0, .slice none 0 0] 25)) = vbb_2 at *
        refine qHr 1 rfl (fun K hK => ?_)
        try simp only [Act.put, qa, qb, qc, qD, qE, qF]
        go_simp
        refine (implPlaces_c xs _ big al _ _ (h1.ext (Xw1.trans (XR.trans qXt))) hf.out).mono ?_
        rintro e vbb_3 ⟨pv, rfl, iP, -, x9⟩
        obtain ⟨p5, c5, rfl⟩ := iP.form
        obtain ⟨bp, op, rfl, lbp, zbp⟩ := iP.blk hpn
        obtain ⟨bp9, op9, h9, pe⟩ := iP.at kn hkP
        cases h9
        rw [hp.out] at pe
        have o_a_p := Nat.lt_of_lt_of_le ra.lt lbp
        have o_c_p := Nat.lt_of_lt_of_le rc.lt lbp
        have EA : Ext vbb_2 vbb_3 := x9
        clear x9
        replace ra := ra.ext EA
        replace rc := rc.ext EA
        replace XR := XR.trans EA
        refine hK.out _ _ ⟨(XR.cell f0), (XR.cell f1), (XR.cell f2), (XR.cell e0)⟩ (fun hHeld => ?_)
        clear hK K EA
        try simp only [Act.put, qa, qb, qc, qD, qE, qF]
        refine qHk (v := ?_) 3 rfl (.inl ⟨by rfl, ?_⟩) ?_
        rotate_left
        ·
         (intro w hSw; (try dsimp only at hSw); go_simp; try with_reducible rfl)
        try simp only [Act.put, qa, qb, qc, qD, qE, qF]
        refine wpAnyH_sub (S' := fun w' => w'.cell? ⟨w.heap.size, 0, none⟩ = some (.slice (some ⟨bl, ol, none⟩) xs.length cq0) ∧ w'.cell? ⟨w.heap.size, 1, none⟩ = some (.bool big) ∧ w'.cell? ⟨w.heap.size, 2, none⟩ = some (.bool al) ∧ w'.cell? ⟨bl, ol + kn, none⟩ = some (.int .i64 v) ∧ w'.cell? ⟨bp, op + kn, none⟩ = some (.int .i64 p)) (fun _ h => ⟨h.1, h.2.1, h.2.2.1, h.2.2.2.1⟩) _ _ _ _ ?_
        replace hHeld : (fun w' : World => w'.cell? ⟨w.heap.size, 0, none⟩ = some (.slice (some ⟨bl, ol, none⟩) xs.length cq0) ∧ w'.cell? ⟨w.heap.size, 1, none⟩ = some (.bool big) ∧ w'.cell? ⟨w.heap.size, 2, none⟩ = some (.bool al) ∧ w'.cell? ⟨bl, ol + kn, none⟩ = some (.int .i64 v) ∧ w'.cell? ⟨bp, op + kn, none⟩ = some (.int .i64 p)) vbb_3 := ⟨(XR.cell f0), (XR.cell f1), (XR.cell f2), (XR.cell e0), pe⟩
        refine qHk (v := ?_) 4 rfl (.inl ⟨by rfl, ?_⟩) ?_
        rotate_left
        ·
         (intro w hSw; (try dsimp only at hSw); go_simp; try with_reducible rfl)
        try simp only [Act.put, qa, qb, qc, qD, qE, qF]
        refine qHr 13 rfl (fun K hK => ?_)
        try simp only [Act.put, qa, qb, qc, qD, qE, qF]
        go_simp
        refine (implSize_e hN.out (h1.ext (Xw1.trans (XR.trans qXt))) hf.out).mono ?_
        rintro e vbb_4 ⟨rfl, x9⟩
        have EA : Ext vbb_3 vbb_4 := x9
        clear x9
        replace ra := ra.ext EA
        replace rc := rc.ext EA
        replace pe := EA.cell pe
        replace XR := XR.trans EA
        refine hK.out _ _ ⟨(XR.cell f0), (XR.cell f1), (XR.cell f2), (XR.cell e0), pe⟩ (fun hHeld => ?_)
        clear hK K EA
        try simp only [Act.put, qa, qb, qc, qD, qE, qF]
        refine qHr 14 rfl (fun K hK => ?_)
        try simp only [Act.put, qa, qb, qc, qD, qE, qF]
        go_simp
        have EA : Ext vbb_4 (vbb_4.alloc (.cells #[.int .i64 N, .int .i64 1] 3)) := (Ext.refl _).alloc _
        have o_a_b := ra.lt
        have o_c_b := rc.lt
        have o_p_b : bp < vbb_4.heap.size := qB pe
        have rb := Row2.new XR N 1
        replace ra := ra.ext EA
        replace rc := rc.ext EA
        replace pe := EA.cell pe
        replace XR := XR.trans EA
        refine hK.out _ (vbb_4.alloc (.cells #[.int .i64 N, .int .i64 1] 3)) ⟨(XR.cell f0), (XR.cell f1), (XR.cell f2), (XR.cell e0), pe⟩ (fun hHeld => ?_)
        clear hK K EA
        try simp only [Act.put, qa, qb, qc, qD, qE, qF]
        generalize (vbb_4.alloc (.cells #[.int .i64 N, .int .i64 1] 3)) = vbb_5 at *
        refine qHk (v := ?_) 15 rfl (.inl ⟨by rfl, ?_⟩) ?_
        rotate_left
        ·
         (intro w hSw; (try dsimp only at hSw); go_simp; try with_reducible rfl)
        try simp only [Act.put, qa, qb, qc, qD, qE, qF]
        refine qHr 17 rfl (fun K hK => ?_)
        have KS := Chg.three (lo := vb_1.heap.size) vbb_5 (.int .i64 p) (.slice (some ⟨w1.heap.size, 0, none⟩) 2 2) (.slice (some ⟨vbb_4.heap.size, 0, none⟩) 2 2)
        have hc := rc
        obtain ⟨-, y0, y1, y2, z0, z1, z2⟩ := rc
        try simp only [Act.put, qa, qb, qc, qD, qE, qF]
        go_simp
        clear y0 y1 y2 z0 z1 z2
        replace ra := ra.chg KS (by omega)
        replace rb := rb.chg KS (by omega)
        have rc := Box3.set hc (.int .i64 p) (.slice (some ⟨w1.heap.size, 0, none⟩) 2 2) (.slice (some ⟨vbb_4.heap.size, 0, none⟩) 2 2)
        replace XR := Ext.chg XR KS hc.ge
        replace pe := KS.cell (by omega) pe
        clear hc
        have EA := KS
        clear KS
        refine hK.out _ _ ⟨(XR.cell f0), (XR.cell f1), (XR.cell f2), (XR.cell e0), pe⟩ (fun hHeld => ?_)
        clear hK K EA
        try simp only [Act.put, qa, qb, qc, qD, qE, qF]
        refine wpAnyH_done qKr ?_ _
        clear hHeld
        go_step
        go_step
        go_meet
        case rel => exact ⟨_, _, _, rfl, XR, ra, rb, rc, by omega, by omega, by omega⟩
      ·
       try simp only [Act.put, qa, qb, qc, qD, qE, qF]
       go_simp
       have EA : Ext w1 (w1.drew.alloc (.cells #[.int .i64 0, .slice none 0 0, .slice none 0 0] 25)) := ((Ext.refl _).drew).alloc _
       have rc := Box3.newD XR
       replace XR := XR.trans EA
       refine hK.out _ (w1.drew.alloc (.cells #[.int .i64 0, .slice none 0 0, .slice none 0 0] 25)) ⟨(XR.cell f0), (XR.cell f1), (XR.cell f2), (XR.cell e0)⟩ (fun hHeld => ?_)
       clear hK K EA
       try simp only [Act.put, qa, qb, qc, qD, qE, qF]
       generalize (w1.drew.alloc (.cells #[.int .i64 0, .slice none 0 0, .slice none 0 0] 25)) = vc_1 at *
       refine wpAnyH_ready (rs := [1, 11]) qKr (by simp) ?_
       refine AllReadyH.cons rfl (fun K hK => ?_) (AllReadyH.cons rfl (fun K hK => ?_) AllReadyH.nil)
       ·
        try simp only [Act.put, qa, qb, qc, qD, qE, qF]
        go_simp
        refine (implPlaces_c xs _ big al _ _ (h1.ext (Xw1.trans (XR.trans qXt))) hf.out).mono ?_
        rintro e vca_2 ⟨pv, rfl, iP, -, x9⟩
        obtain ⟨p5, c5, rfl⟩ := iP.form
        obtain ⟨bp, op, rfl, lbp, zbp⟩ := iP.blk hpn
        obtain ⟨bp9, op9, h9, pe⟩ := iP.at kn hkP
        cases h9
        rw [hp.out] at pe
        have o_c_p := Nat.lt_of_lt_of_le rc.lt lbp
        have EA : Ext vc_1 vca_2 := x9
        clear x9
        replace rc := rc.ext EA
        replace XR := XR.trans EA
        refine hK.out _ _ ⟨(XR.cell f0), (XR.cell f1), (XR.cell f2), (XR.cell e0)⟩ (fun hHeld => ?_)
        clear hK K EA
        try simp only [Act.put, qa, qb, qc, qD, qE, qF]
        refine qHk (v := ?_) 3 rfl (.inl ⟨by rfl, ?_⟩) ?_
        rotate_left
        ·
         (intro w hSw; (try dsimp only at hSw); go_simp; try with_reducible rfl)
        try simp only [Act.put, qa, qb, qc, qD, qE, qF]
        refine wpAnyH_sub (S' := fun w' => w'.cell? ⟨w.heap.size, 0, none⟩ = some (.slice (some ⟨bl, ol, none⟩) xs.length cq0) ∧ w'.cell? ⟨w.heap.size, 1, none⟩ = some (.bool big) ∧ w'.cell? ⟨w.heap.size, 2, none⟩ = some (.bool al) ∧ w'.cell? ⟨bl, ol + kn, none⟩ = some (.int .i64 v) ∧ w'.cell? ⟨bp, op + kn, none⟩ = some (.int .i64 p)) (fun _ h => ⟨h.1, h.2.1, h.2.2.1, h.2.2.2.1⟩) _ _ _ _ ?_
        replace hHeld : (fun w' : World => w'.cell? ⟨w.heap.size, 0, none⟩ = some (.slice (some ⟨bl, ol, none⟩) xs.length cq0) ∧ w'.cell? ⟨w.heap.size, 1, none⟩ = some (.bool big) ∧ w'.cell? ⟨w.heap.size, 2, none⟩ = some (.bool al) ∧ w'.cell? ⟨bl, ol + kn, none⟩ = some (.int .i64 v) ∧ w'.cell? ⟨bp, op + kn, none⟩ = some (.int .i64 p)) vca_2 := ⟨(XR.cell f0), (XR.cell f1), (XR.cell f2), (XR.cell e0), pe⟩
        refine qHk (v := ?_) 4 rfl (.inl ⟨by rfl, ?_⟩) ?_
        rotate_left
        ·
         (intro w hSw; (try dsimp only at hSw); go_simp; try with_reducible rfl)
        try simp only [Act.put, qa, qb, qc, qD, qE, qF]
        refine wpAnyH_ready (rs := [11, 13]) qKr (by simp) ?_
        refine AllReadyH.cons rfl (fun K hK => ?_) (AllReadyH.cons rfl (fun K hK => ?_) AllReadyH.nil)
        ·
         try simp only [Act.put, qa, qb, qc, qD, qE, qF]
         go_simp
         have EA : Ext vca_2 (vca_2.alloc (.cells #[.int .i64 many, .int .i64 v] 3)) := (Ext.refl _).alloc _
         have o_c_a := rc.lt
         have o_p_a : bp < vca_2.heap.size := qB pe
         have ra := Row2.new XR many v
         replace rc := rc.ext EA
         replace pe := EA.cell pe
         replace XR := XR.trans EA
         refine hK.out _ (vca_2.alloc (.cells #[.int .i64 many, .int .i64 v] 3)) ⟨(XR.cell f0), (XR.cell f1), (XR.cell f2), (XR.cell e0), pe⟩ (fun hHeld => ?_)
         clear hK K EA
         try simp only [Act.put, qa, qb, qc, qD, qE, qF]
         generalize (vca_2.alloc (.cells #[.int .i64 many, .int .i64 v] 3)) = vcaa_3 at *
         refine qHr 13 rfl (fun K hK => ?_)
         try simp only [Act.put, qa, qb, qc, qD, qE, qF]
         go_simp
         refine (implSize_e hN.out (h1.ext (Xw1.trans (XR.trans qXt))) hf.out).mono ?_
         rintro e vcaa_4 ⟨rfl, x9⟩
         have EA : Ext vcaa_3 vcaa_4 := x9
         clear x9
         replace rc := rc.ext EA
         replace ra := ra.ext EA
         replace pe := EA.cell pe
         replace XR := XR.trans EA
         refine hK.out _ _ ⟨(XR.cell f0), (XR.cell f1), (XR.cell f2), (XR.cell e0), pe⟩ (fun hHeld => ?_)
         clear hK K EA
         try simp only [Act.put, qa, qb, qc, qD, qE, qF]
         refine qHr 14 rfl (fun K hK => ?_)
         try simp only [Act.put, qa, qb, qc, qD, qE, qF]
         go_simp
         have EA : Ext vcaa_4 (vcaa_4.alloc (.cells #[.int .i64 N, .int .i64 1] 3)) := (Ext.refl _).alloc _
         have o_c_b := rc.lt
         have o_a_b := ra.lt
         have o_p_b : bp < vcaa_4.heap.size := qB pe
         have rb := Row2.new XR N 1
         replace rc := rc.ext EA
         replace ra := ra.ext EA
         replace pe := EA.cell pe
         replace XR := XR.trans EA
         refine hK.out _ (vcaa_4.alloc (.cells #[.int .i64 N, .int .i64 1] 3)) ⟨(XR.cell f0), (XR.cell f1), (XR.cell f2), (XR.cell e0), pe⟩ (fun hHeld => ?_)
         clear hK K EA
         try simp only [Act.put, qa, qb, qc, qD, qE, qF]
         generalize (vcaa_4.alloc (.cells #[.int .i64 N, .int .i64 1] 3)) = vcaa_5 at *
         refine qHk (v := ?_) 15 rfl (.inl ⟨by rfl, ?_⟩) ?_
         rotate_left
         ·
          (intro w hSw; (try dsimp only at hSw); go_simp; try with_reducible rfl)
         try simp only [Act.put, qa, qb, qc, qD, qE, qF]
         refine qHr 17 rfl (fun K hK => ?_)
         have KS := Chg.three (lo := w1.heap.size) vcaa_5 (.int .i64 p) (.slice (some ⟨vca_2.heap.size, 0, none⟩) 2 2) (.slice (some ⟨vcaa_4.heap.size, 0, none⟩) 2 2)
         have hc := rc
         obtain ⟨-, y0, y1, y2, z0, z1, z2⟩ := rc
         try simp only [Act.put, qa, qb, qc, qD, qE, qF]
         go_simp
         clear y0 y1 y2 z0 z1 z2
         replace ra := ra.chg KS (by omega)
         replace rb := rb.chg KS (by omega)
         have rc := Box3.set hc (.int .i64 p) (.slice (some ⟨vca_2.heap.size, 0, none⟩) 2 2) (.slice (some ⟨vcaa_4.heap.size, 0, none⟩) 2 2)
         replace XR := Ext.chg XR KS hc.ge
         replace pe := KS.cell (by omega) pe
         clear hc
         have EA := KS
         clear KS
         refine hK.out _ _ ⟨(XR.cell f0), (XR.cell f1), (XR.cell f2), (XR.cell e0), pe⟩ (fun hHeld => ?_)
         clear hK K EA
         try simp only [Act.put, qa, qb, qc, qD, qE, qF]
         refine wpAnyH_done qKr ?_ _
         clear hHeld
         go_step
         go_step
         go_meet
         case rel => exact ⟨_, _, _, rfl, XR, ra, rb, rc, by omega, by omega, by omega⟩
        ·
         try simp only [Act.put, qa, qb, qc, qD, qE, qF]
         go_simp
         refine (implSize_e hN.out (h1.ext (Xw1.trans (XR.trans qXt))) hf.out).mono ?_
         rintro e vcab_3 ⟨rfl, x9⟩
         have EA : Ext vca_2 vcab_3 := x9
         clear x9
         replace rc := rc.ext EA
         replace pe := EA.cell pe
         replace XR := XR.trans EA
         refine hK.out _ _ ⟨(XR.cell f0), (XR.cell f1), (XR.cell f2), (XR.cell e0), pe⟩ (fun hHeld => ?_)
         clear hK K EA
         try simp only [Act.put, qa, qb, qc, qD, qE, qF]
         refine wpAnyH_ready (rs := [11, 14]) qKr (by simp) ?_
         refine AllReadyH.cons rfl (fun K hK => ?_) (AllReadyH.cons rfl (fun K hK => ?_) AllReadyH.nil)
         ·
          try simp only [Act.put, qa, qb, qc, qD, qE, qF]
          go_simp
          have EA : Ext vcab_3 (vcab_3.alloc (.cells #[.int .i64 many, .int .i64 v] 3)) := (Ext.refl _).alloc _
          have o_c_a := rc.lt
          have o_p_a : bp < vcab_3.heap.size := qB pe
          have ra := Row2.new XR many v
          replace rc := rc.ext EA
          replace pe := EA.cell pe
          replace XR := XR.trans EA
          refine hK.out _ (vcab_3.alloc (.cells #[.int .i64 many, .int .i64 v] 3)) ⟨(XR.cell f0), (XR.cell f1), (XR.cell f2), (XR.cell e0), pe⟩ (fun hHeld => ?_)
          clear hK K EA
          try simp only [Act.put, qa, qb, qc, qD, qE, qF]
          generalize (vcab_3.alloc (.cells #[.int .i64 many, .int .i64 v] 3)) = vcaba_4 at *
          refine qHr 14 rfl (fun K hK => ?_)
          try simp only [Act.put, qa, qb, qc, qD, qE, qF]
          go_simp
          have EA : Ext vcaba_4 (vcaba_4.alloc (.cells #[.int .i64 N, .int .i64 1] 3)) := (Ext.refl _).alloc _
          have o_c_b := rc.lt
          have o_a_b := ra.lt
          have o_p_b : bp < vcaba_4.heap.size := qB pe
          have rb := Row2.new XR N 1
          replace rc := rc.ext EA
          replace ra := ra.ext EA
          replace pe := EA.cell pe
          replace XR := XR.trans EA
          refine hK.out _ (vcaba_4.alloc (.cells #[.int .i64 N, .int .i64 1] 3)) ⟨(XR.cell f0), (XR.cell f1), (XR.cell f2), (XR.cell e0), pe⟩ (fun hHeld => ?_)
          clear hK K EA
          try simp only [Act.put, qa, qb, qc, qD, qE, qF]
          generalize (vcaba_4.alloc (.cells #[.int .i64 N, .int .i64 1] 3)) = vcaba_5 at *
          refine qHk (v := ?_) 15 rfl (.inl ⟨by rfl, ?_⟩) ?_
          rotate_left
          ·
           (intro w hSw; (try dsimp only at hSw); go_simp; try with_reducible rfl)
          try simp only [Act.put, qa, qb, qc, qD, qE, qF]
          refine qHr 17 rfl (fun K hK => ?_)
          have KS := Chg.three (lo := w1.heap.size) vcaba_5 (.int .i64 p) (.slice (some ⟨vcab_3.heap.size, 0, none⟩) 2 2) (.slice (some ⟨vcaba_4.heap.size, 0, none⟩) 2 2)
          have hc := rc
          obtain ⟨-, y0, y1, y2, z0, z1, z2⟩ := rc
          try simp only [Act.put, qa, qb, qc, qD, qE, qF]
          go_simp
          clear y0 y1 y2 z0 z1 z2
          replace ra := ra.chg KS (by omega)
          replace rb := rb.chg KS (by omega)
          have rc := Box3.set hc (.int .i64 p) (.slice (some ⟨vcab_3.heap.size, 0, none⟩) 2 2) (.slice (some ⟨vcaba_4.heap.size, 0, none⟩) 2 2)
          replace XR := Ext.chg XR KS hc.ge
          replace pe := KS.cell (by omega) pe
          clear hc
          have EA := KS
          clear KS
          refine hK.out _ _ ⟨(XR.cell f0), (XR.cell f1), (XR.cell f2), (XR.cell e0), pe⟩ (fun hHeld => ?_)
          clear hK K EA
          try simp only [Act.put, qa, qb, qc, qD, qE, qF]
          refine wpAnyH_done qKr ?_ _
          clear hHeld
          go_step
          go_step
          go_meet
          case rel => exact ⟨_, _, _, rfl, XR, ra, rb, rc, by omega, by omega, by omega⟩
         ·
          try simp only [Act.put, qa, qb, qc, qD, qE, qF]
          go_simp
          have EA : Ext vcab_3 (vcab_3.alloc (.cells #[.int .i64 N, .int .i64 1] 3)) := (Ext.refl _).alloc _
          have o_c_b := rc.lt
          have o_p_b : bp < vcab_3.heap.size := qB pe
          have rb := Row2.new XR N 1
          replace rc := rc.ext EA
          replace pe := EA.cell pe
          replace XR := XR.trans EA
          refine hK.out _ (vcab_3.alloc (.cells #[.int .i64 N, .int .i64 1] 3)) ⟨(XR.cell f0), (XR.cell f1), (XR.cell f2), (XR.cell e0), pe⟩ (fun hHeld => ?_)
          clear hK K EA
          try simp only [Act.put, qa, qb, qc, qD, qE, qF]
          generalize (vcab_3.alloc (.cells #[.int .i64 N, .int .i64 1] 3)) = vcabb_4 at *
          refine qHr 11 rfl (fun K hK => ?_)
          try simp only [Act.put, qa, qb, qc, qD, qE, qF]
          go_simp
          have EA : Ext vcabb_4 (vcabb_4.alloc (.cells #[.int .i64 many, .int .i64 v] 3)) := (Ext.refl _).alloc _
          have o_c_a := rc.lt
          have o_b_a := rb.lt
          have o_p_a : bp < vcabb_4.heap.size := qB pe
          have ra := Row2.new XR many v
          replace rc := rc.ext EA
          replace rb := rb.ext EA
          replace pe := EA.cell pe
          replace XR := XR.trans EA
          refine hK.out _ (vcabb_4.alloc (.cells #[.int .i64 many, .int .i64 v] 3)) ⟨(XR.cell f0), (XR.cell f1), (XR.cell f2), (XR.cell e0), pe⟩ (fun hHeld => ?_)
          clear hK K EA
          try simp only [Act.put, qa, qb, qc, qD, qE, qF]
          generalize (vcabb_4.alloc (.cells #[.int .i64 many, .int .i64 v] 3)) = vcabb_5 at *
          refine qHk (v := ?_) 15 rfl (.inl ⟨by rfl, ?_⟩) ?_
          rotate_left
          ·
           (intro w hSw; (try dsimp only at hSw); go_simp; try with_reducible rfl)
          try simp only [Act.put, qa, qb, qc, qD, qE, qF]
          refine qHr 17 rfl (fun K hK => ?_)
          have KS := Chg.three (lo := w1.heap.size) vcabb_5 (.int .i64 p) (.slice (some ⟨vcabb_4.heap.size, 0, none⟩) 2 2) (.slice (some ⟨vcab_3.heap.size, 0, none⟩) 2 2)
          have hc := rc
          obtain ⟨-, y0, y1, y2, z0, z1, z2⟩ := rc
          try simp only [Act.put, qa, qb, qc, qD, qE, qF]
          go_simp
          clear y0 y1 y2 z0 z1 z2
          replace ra := ra.chg KS (by omega)
          replace rb := rb.chg KS (by omega)
          have rc := Box3.set hc (.int .i64 p) (.slice (some ⟨vcabb_4.heap.size, 0, none⟩) 2 2) (.slice (some ⟨vcab_3.heap.size, 0, none⟩) 2 2)
          replace XR := Ext.chg XR KS hc.ge
          replace pe := KS.cell (by omega) pe
          clear hc
          have EA := KS
          clear KS
          refine hK.out _ _ ⟨(XR.cell f0), (XR.cell f1), (XR.cell f2), (XR.cell e0), pe⟩ (fun hHeld => ?_)
          clear hK K EA
          try simp only [Act.put, qa, qb, qc, qD, qE, qF]
          refine wpAnyH_done qKr ?_ _
          clear hHeld
          go_step
          go_step
          go_meet
          case rel => exact ⟨_, _, _, rfl, XR, ra, rb, rc, by omega, by omega, by omega⟩
       ·
        try simp only [Act.put, qa, qb, qc, qD, qE, qF]
        go_simp
        have EA : Ext vc_1 (vc_1.alloc (.cells #[.int .i64 many, .int .i64 v] 3)) := (Ext.refl _).alloc _
        have o_c_a := rc.lt
        have ra := Row2.new XR many v
        replace rc := rc.ext EA
        replace XR := XR.trans EA
        refine hK.out _ (vc_1.alloc (.cells #[.int .i64 many, .int .i64 v] 3)) ⟨(XR.cell f0), (XR.cell f1), (XR.cell f2), (XR.cell e0)⟩ (fun hHeld => ?_)
        clear hK K EA
        try simp only [Act.put, qa, qb, qc, qD, qE, qF]
        generalize (vc_1.alloc (.cells #[.int .i64 many, .int .i64 v] 3)) = vcb_2 at *
        refine qHr 1 rfl (fun K hK => ?_)
        try simp only [Act.put, qa, qb, qc, qD, qE, qF]
        go_simp
        refine (implPlaces_c xs _ big al _ _ (h1.ext (Xw1.trans (XR.trans qXt))) hf.out).mono ?_
        rintro e vcb_3 ⟨pv, rfl, iP, -, x9⟩
        obtain ⟨p5, c5, rfl⟩ := iP.form
        obtain ⟨bp, op, rfl, lbp, zbp⟩ := iP.blk hpn
        obtain ⟨bp9, op9, h9, pe⟩ := iP.at kn hkP
        cases h9
        rw [hp.out] at pe
        have o_c_p := Nat.lt_of_lt_of_le rc.lt lbp
        have o_a_p := Nat.lt_of_lt_of_le ra.lt lbp
        have EA : Ext vcb_2 vcb_3 := x9
        clear x9
        replace rc := rc.ext EA
        replace ra := ra.ext EA
        replace XR := XR.trans EA
        refine hK.out _ _ ⟨(XR.cell f0), (XR.cell f1), (XR.cell f2), (XR.cell e0)⟩ (fun hHeld => ?_)
        clear hK K EA
        try simp only [Act.put, qa, qb, qc, qD, qE, qF]
        refine qHk (v := ?_) 3 rfl (.inl ⟨by rfl, ?_⟩) ?_
        rotate_left
        ·
         (intro w hSw; (try dsimp only at hSw); go_simp; try with_reducible rfl)
        try simp only [Act.put, qa, qb, qc, qD, qE, qF]
        refine wpAnyH_sub (S' := fun w' => w'.cell? ⟨w.heap.size, 0, none⟩ = some (.slice (some ⟨bl, ol, none⟩) xs.length cq0) ∧ w'.cell? ⟨w.heap.size, 1, none⟩ = some (.bool big) ∧ w'.cell? ⟨w.heap.size, 2, none⟩ = some (.bool al) ∧ w'.cell? ⟨bl, ol + kn, none⟩ = some (.int .i64 v) ∧ w'.cell? ⟨bp, op + kn, none⟩ = some (.int .i64 p)) (fun _ h => ⟨h.1, h.2.1, h.2.2.1, h.2.2.2.1⟩) _ _ _ _ ?_
        replace hHeld : (fun w' : World => w'.cell? ⟨w.heap.size, 0, none⟩ = some (.slice (some ⟨bl, ol, none⟩) xs.length cq0) ∧ w'.cell? ⟨w.heap.size, 1, none⟩ = some (.bool big) ∧ w'.cell? ⟨w.heap.size, 2, none⟩ = some (.bool al) ∧ w'.cell? ⟨bl, ol + kn, none⟩ = some (.int .i64 v) ∧ w'.cell? ⟨bp, op + kn, none⟩ = some (.int .i64 p)) vcb_3 := ⟨(XR.cell f0), (XR.cell f1), (XR.cell f2), (XR.cell e0), pe⟩
        refine qHk (v := ?_) 4 rfl (.inl ⟨by rfl, ?_⟩) ?_
        rotate_left
        ·
         (intro w hSw; (try dsimp only at hSw); go_simp; try with_reducible rfl)
        try simp only [Act.put, qa, qb, qc, qD, qE, qF]
        refine qHr 13 rfl (fun K hK => ?_)
        try simp only [Act.put, qa, qb, qc, qD, qE, qF]
        go_simp
        refine (implSize_e hN.out (h1.ext (Xw1.trans (XR.trans qXt))) hf.out).mono ?_
        rintro e vcb_4 ⟨rfl, x9⟩
        have EA : Ext vcb_3 vcb_4 := x9
        clear x9
        replace rc := rc.ext EA
        replace ra := ra.ext EA
        replace pe := EA.cell pe
        replace XR := XR.trans EA
        refine hK.out _ _ ⟨(XR.cell f0), (XR.cell f1), (XR.cell f2), (XR.cell e0), pe⟩ (fun hHeld => ?_)
        clear hK K EA
        try simp only [Act.put, qa, qb, qc, qD, qE, qF]
        refine qHr 14 rfl (fun K hK => ?_)
        try simp only [Act.put, qa, qb, qc, qD, qE, qF]
        go_simp
        have EA : Ext vcb_4 (vcb_4.alloc (.cells #[.int .i64 N, .int .i64 1] 3)) := (Ext.refl _).alloc _
        have o_c_b := rc.lt
        have o_a_b := ra.lt
        have o_p_b : bp < vcb_4.heap.size := qB pe
        have rb := Row2.new XR N 1
        replace rc := rc.ext EA
        replace ra := ra.ext EA
        replace pe := EA.cell pe
        replace XR := XR.trans EA
        refine hK.out _ (vcb_4.alloc (.cells #[.int .i64 N, .int .i64 1] 3)) ⟨(XR.cell f0), (XR.cell f1), (XR.cell f2), (XR.cell e0), pe⟩ (fun hHeld => ?_)
        clear hK K EA
        try simp only [Act.put, qa, qb, qc, qD, qE, qF]
        generalize (vcb_4.alloc (.cells #[.int .i64 N, .int .i64 1] 3)) = vcb_5 at *
        refine qHk (v := ?_) 15 rfl (.inl ⟨by rfl, ?_⟩) ?_
        rotate_left
        ·
         (intro w hSw; (try dsimp only at hSw); go_simp; try with_reducible rfl)
        try simp only [Act.put, qa, qb, qc, qD, qE, qF]
        refine qHr 17 rfl (fun K hK => ?_)
        have KS := Chg.three (lo := w1.heap.size) vcb_5 (.int .i64 p) (.slice (some ⟨vc_1.heap.size, 0, none⟩) 2 2) (.slice (some ⟨vcb_4.heap.size, 0, none⟩) 2 2)
        have hc := rc
        obtain ⟨-, y0, y1, y2, z0, z1, z2⟩ := rc
        try simp only [Act.put, qa, qb, qc, qD, qE, qF]
        go_simp
        clear y0 y1 y2 z0 z1 z2
        replace ra := ra.chg KS (by omega)
        replace rb := rb.chg KS (by omega)
        have rc := Box3.set hc (.int .i64 p) (.slice (some ⟨vc_1.heap.size, 0, none⟩) 2 2) (.slice (some ⟨vcb_4.heap.size, 0, none⟩) 2 2)
        replace XR := Ext.chg XR KS hc.ge
        replace pe := KS.cell (by omega) pe
        clear hc
        have EA := KS
        clear KS
        refine hK.out _ _ ⟨(XR.cell f0), (XR.cell f1), (XR.cell f2), (XR.cell e0), pe⟩ (fun hHeld => ?_)
        clear hK K EA
        try simp only [Act.put, qa, qb, qc, qD, qE, qF]
        refine wpAnyH_done qKr ?_ _
        clear hHeld
        go_step
        go_step
        go_meet
        case rel => exact ⟨_, _, _, rfl, XR, ra, rb, rc, by omega, by omega, by omega⟩
     case rest =>
      generalize wc = wz at hcut ⊢
      obtain ⟨ga, gb, gc, rfl, xx, ⟨g_a, a0, a1, f_a0, f_a1⟩, ⟨g_b, b0, b1, f_b0, f_b1⟩, ⟨g_c, c0, c1, c2, f_c0, f_c1, f_c2⟩, d_ab, d_ac, d_bc⟩ := hcut
      have Lwz : Ext w1 wz := Ext.trans qXt xx
      have Xwz : Ext w wz := Xw1.trans Lwz
      replace f0 := Lwz.cell f0
      replace f1 := Lwz.cell f1
      replace f2 := Lwz.cell f2
      replace q0 := Lwz.cell q0
      replace q1 := Lwz.cell q1
      replace q2 := Lwz.cell q2
      replace f_q0 := Lwz.frz z_q f_q0
      replace f_q1 := Lwz.frz z_q f_q1
      replace f_q2 := Lwz.frz z_q f_q2
      replace e0 := Lwz.cell e0
      have z_f : w.heap.size < wz.heap.size := qB f0
      have z_q : w.heap.size + 1 < wz.heap.size := qB q0
      have z_e : bl < wz.heap.size := qB e0
      have s_wz : w.heap.size ≤ wz.heap.size := Xwz.size
      clear xx
      have z_a : ga < wz.heap.size := qB a0
      have z_b : gb < wz.heap.size := qB b0
      have z_c : gc < wz.heap.size := qB c0
      cases big
      ·
       go_wp2_with fail
       refine (isView_c p _ _ [many, v] [N, 1] _ _ _ ((Ints.two a0 a1 f_a0 f_a1).ext qXt) ((Ints.two b0 b1 f_b0 f_b1).ext qXt)).mono ?_
       rintro e w2 ⟨rfl, xw2⟩
       have Lw2 : Ext wz w2 := Ext.trans qXt xw2
       have Xw2 : Ext w w2 := Xwz.trans Lw2
       replace f0 := Lw2.cell f0
       replace f1 := Lw2.cell f1
       replace f2 := Lw2.cell f2
       replace q0 := Lw2.cell q0
       replace q1 := Lw2.cell q1
       replace q2 := Lw2.cell q2
       replace f_q0 := Lw2.frz z_q f_q0
       replace f_q1 := Lw2.frz z_q f_q1
       replace f_q2 := Lw2.frz z_q f_q2
       replace e0 := Lw2.cell e0
       replace a0 := Lw2.cell a0
       replace a1 := Lw2.cell a1
       replace f_a0 := Lw2.frz z_a f_a0
       replace f_a1 := Lw2.frz z_a f_a1
       replace b0 := Lw2.cell b0
       replace b1 := Lw2.cell b1
       replace f_b0 := Lw2.frz z_b f_b0
       replace f_b1 := Lw2.frz z_b f_b1
       replace c0 := Lw2.cell c0
       replace c1 := Lw2.cell c1
       replace c2 := Lw2.cell c2
       replace f_c0 := Lw2.frz z_c f_c0
       replace f_c1 := Lw2.frz z_c f_c1
       replace f_c2 := Lw2.frz z_c f_c2
       have z_f : w.heap.size < w2.heap.size := qB f0
       have z_q : w.heap.size + 1 < w2.heap.size := qB q0
       have z_e : bl < w2.heap.size := qB e0
       have z_a : ga < w2.heap.size := qB a0
       have z_b : gb < w2.heap.size := qB b0
       have z_c : gc < w2.heap.size := qB c0
       have s_w2 : w.heap.size ≤ w2.heap.size := Xw2.size
       clear xw2
       have hB : fldBase al false xs kn = p := by unfold fldBase; rw [hp.out, hv.out]; simp
       cases hvw : viewB p [many, v] [N, 1]
       ·
        replace hvw := Lib.hid hvw
        go_wp2_with fail
        generalize hW5 : (((w2.setCell ⟨w.heap.size + 1, 0, none⟩ (.int .i64 0)).setCell ⟨w.heap.size + 1, 1, none⟩ (.slice none 0 0)).setCell ⟨w.heap.size + 1, 2, none⟩ (.slice none 0 0)) = w3 at *
        have Kw3 : Chg (w.heap.size + 1) (w.heap.size + 1 + 1) w2 w3 := by subst hW5; exact qCh
        have Xw3 : Ext w w3 := by subst hW5; exact qXt
        replace f0 := Kw3.cell (by omega) f0
        replace f1 := Kw3.cell (by omega) f1
        replace f2 := Kw3.cell (by omega) f2
        replace q0 : w3.cell? ⟨w.heap.size + 1, 0, none⟩ = some (.int .i64 0) := by subst hW5; go_simp
        replace f_q0 : w3.frozen? ⟨w.heap.size + 1, 0, none⟩ = false := by subst hW5; first | (simp only [World.frozen?_setCell]; with_reducible assumption) | go_simp
        replace q1 : w3.cell? ⟨w.heap.size + 1, 1, none⟩ = some (.slice none 0 0) := by subst hW5; go_simp
        replace f_q1 : w3.frozen? ⟨w.heap.size + 1, 1, none⟩ = false := by subst hW5; first | (simp only [World.frozen?_setCell]; with_reducible assumption) | go_simp
        replace q2 : w3.cell? ⟨w.heap.size + 1, 2, none⟩ = some (.slice none 0 0) := by subst hW5; go_simp
        replace f_q2 : w3.frozen? ⟨w.heap.size + 1, 2, none⟩ = false := by subst hW5; first | (simp only [World.frozen?_setCell]; with_reducible assumption) | go_simp
        replace e0 := Kw3.cell (by omega) e0
        replace a0 := Kw3.cell (by omega) a0
        replace f_a0 := Kw3.frzO (by omega) z_a f_a0
        replace a1 := Kw3.cell (by omega) a1
        replace f_a1 := Kw3.frzO (by omega) z_a f_a1
        replace b0 := Kw3.cell (by omega) b0
        replace f_b0 := Kw3.frzO (by omega) z_b f_b0
        replace b1 := Kw3.cell (by omega) b1
        replace f_b1 := Kw3.frzO (by omega) z_b f_b1
        replace c0 := Kw3.cell (by omega) c0
        replace f_c0 := Kw3.frzO (by omega) z_c f_c0
        replace c1 := Kw3.cell (by omega) c1
        replace f_c1 := Kw3.frzO (by omega) z_c f_c1
        replace c2 := Kw3.cell (by omega) c2
        replace f_c2 := Kw3.frzO (by omega) z_c f_c2
        clear Kw3
        have z_f : w.heap.size < w3.heap.size := qB f0
        have z_q : w.heap.size + 1 < w3.heap.size := qB q0
        have z_e : bl < w3.heap.size := qB e0
        have z_a : ga < w3.heap.size := qB a0
        have z_b : gb < w3.heap.size := qB b0
        have z_c : gc < w3.heap.size := qB c0
        have s_w3 : w.heap.size ≤ w3.heap.size := Xw3.size
        clear hW5
        refine bodyPost_ret (v := .tuple #[.agg #[.int .i64 0, .slice none 0 0, .slice none 0 0], .bool false]) (by simp only [results, Try.results19]; go_simp) rfl ?_
        exact PVX.no (fldB_v (by rw [hB, hv.out, hN.out]; exact hvw.out)) Xw3
       ·
        replace hvw := Lib.hid hvw
        go_wp2_with fail
        generalize hW6 : (((w2.setCell ⟨w.heap.size + 1, 0, none⟩ (.int .i64 p)).setCell ⟨w.heap.size + 1, 1, none⟩ (.slice (some ⟨ga, 0, none⟩) 2 2)).setCell ⟨w.heap.size + 1, 2, none⟩ (.slice (some ⟨gb, 0, none⟩) 2 2)) = w3 at *
        have Kw3 : Chg (w.heap.size + 1) (w.heap.size + 1 + 1) w2 w3 := by subst hW6; exact qCh
        have Xw3 : Ext w w3 := by subst hW6; exact qXt
        replace f0 := Kw3.cell (by omega) f0
        replace f1 := Kw3.cell (by omega) f1
        replace f2 := Kw3.cell (by omega) f2
        replace q0 : w3.cell? ⟨w.heap.size + 1, 0, none⟩ = some (.int .i64 p) := by subst hW6; go_simp
        replace f_q0 : w3.frozen? ⟨w.heap.size + 1, 0, none⟩ = false := by subst hW6; first | (simp only [World.frozen?_setCell]; with_reducible assumption) | go_simp
        replace q1 : w3.cell? ⟨w.heap.size + 1, 1, none⟩ = some (.slice (some ⟨ga, 0, none⟩) 2 2) := by subst hW6; go_simp
        replace f_q1 : w3.frozen? ⟨w.heap.size + 1, 1, none⟩ = false := by subst hW6; first | (simp only [World.frozen?_setCell]; with_reducible assumption) | go_simp
        replace q2 : w3.cell? ⟨w.heap.size + 1, 2, none⟩ = some (.slice (some ⟨gb, 0, none⟩) 2 2) := by subst hW6; go_simp
        replace f_q2 : w3.frozen? ⟨w.heap.size + 1, 2, none⟩ = false := by subst hW6; first | (simp only [World.frozen?_setCell]; with_reducible assumption) | go_simp
        replace e0 := Kw3.cell (by omega) e0
        replace a0 := Kw3.cell (by omega) a0
        replace f_a0 := Kw3.frzO (by omega) z_a f_a0
        replace a1 := Kw3.cell (by omega) a1
        replace f_a1 := Kw3.frzO (by omega) z_a f_a1
        replace b0 := Kw3.cell (by omega) b0
        replace f_b0 := Kw3.frzO (by omega) z_b f_b0
        replace b1 := Kw3.cell (by omega) b1
        replace f_b1 := Kw3.frzO (by omega) z_b f_b1
        replace c0 := Kw3.cell (by omega) c0
        replace f_c0 := Kw3.frzO (by omega) z_c f_c0
        replace c1 := Kw3.cell (by omega) c1
        replace f_c1 := Kw3.frzO (by omega) z_c f_c1
        replace c2 := Kw3.cell (by omega) c2
        replace f_c2 := Kw3.frzO (by omega) z_c f_c2
        clear Kw3
        have z_f : w.heap.size < w3.heap.size := qB f0
        have z_q : w.heap.size + 1 < w3.heap.size := qB q0
        have z_e : bl < w3.heap.size := qB e0
        have z_a : ga < w3.heap.size := qB a0
        have z_b : gb < w3.heap.size := qB b0
        have z_c : gc < w3.heap.size := qB c0
        have s_w3 : w.heap.size ≤ w3.heap.size := Xw3.size
        clear hW6
        refine bodyPost_ret (v := .tuple #[.agg #[.int .i64 p, .slice (some ⟨ga, 0, none⟩) 2 2, .slice (some ⟨gb, 0, none⟩) 2 2], .bool true]) (by simp only [results, Try.results19]; go_simp) rfl ?_
        have hy := fldB_y (al := al) (big := false) hf.out hkn (by omega) (by rw [hB, hv.out, hN.out]; exact hvw.out)
        rw [hB, hv.out, hN.out] at hy
        exact PVX.yes hy ((Ints.two a0 a1 f_a0 f_a1).lower (by omega)) ((Ints.two b0 b1 f_b0 f_b1).lower (by omega)) Xw3
      ·
       go_wp2_with fail
       have hw0 : IntKind.i64.wrap (v - 1) = v - 1 := IntWalk.i64_in _ (by omega)
       have hw1 : IntKind.i64.wrap (p + (v - 1)) = p + (v - 1) := IntWalk.i64_in _ (by omega)
       refine wp_region_tail (S := fun w' => w'.cell? ⟨w.heap.size, 0, none⟩ = some (.slice (some ⟨bl, ol, none⟩) xs.length cq0) ∧ w'.cell? ⟨bl, ol + kn, none⟩ = some (.int .i64 v) ∧ w'.cell? ⟨gc, 0, none⟩ = some (.int .i64 p)) (fun i => decide (10 ≤ i)) qKr ⟨f0, e0, c0⟩ (fun hHeld => ?_)
       refine qTk (v := ?_) 0 rfl (.inl ⟨by rfl, ?_⟩) ?_
       rotate_left
       ·
        (intro w hSw; (try dsimp only at hSw); go_simp; try with_reducible rfl)
       try simp only [Act.put, qa, qb, qc, qD, qE, qF]
       refine qTk (v := ?_) 1 rfl (.inl ⟨by rfl, ?_⟩) ?_
       rotate_left
       ·
        (intro w hSw; (try dsimp only at hSw); go_simp; try with_reducible rfl)
       try simp only [Act.put, qa, qb, qc, qD, qE, qF]
       refine qTk (v := ?_) 2 rfl (.inl ⟨by rfl, ?_⟩) ?_
       rotate_left
       ·
        (intro w hSw; (try dsimp only at hSw); go_simp; try with_reducible rfl)
       try simp only [Act.put, qa, qb, qc, qD, qE, qF]
       refine qTk (v := ?_) 3 rfl (.inl ⟨by rfl, ?_⟩) ?_
       rotate_left
       ·
        (intro w hSw; (try dsimp only at hSw); go_simp; try with_reducible rfl)
       try simp only [Act.put, qa, qb, qc, qD, qE, qF]
       refine qTk (v := ?_) 4 rfl (.inl ⟨by rfl, ?_⟩) ?_
       rotate_left
       ·
        (intro w hSw; (try dsimp only at hSw); go_simp; try with_reducible rfl)
       try simp only [Act.put, qa, qb, qc, qD, qE, qF]
       refine qTk (v := ?_) 5 rfl (.inl ⟨by rfl, ?_⟩) ?_
       rotate_left
       ·
        (intro w hSw; (try dsimp only at hSw); go_simp; try with_reducible rfl)
       try simp only [Act.put, qa, qb, qc, qD, qE, qF]
       refine qTk (v := ?_) 6 rfl (.inl ⟨by rfl, ?_⟩) ?_
       rotate_left
       ·
        (intro w hSw; (try dsimp only at hSw); go_simp; try with_reducible rfl)
       try simp only [Act.put, qa, qb, qc, qD, qE, qF]
       refine qTk (v := ?_) 7 rfl (.inl ⟨by rfl, ?_⟩) ?_
       rotate_left
       ·
        (intro w hSw; (try dsimp only at hSw); go_simp; try with_reducible rfl)
       try simp only [Act.put, qa, qb, qc, qD, qE, qF]
       refine qTk (v := ?_) 8 rfl (.inl ⟨by rfl, ?_⟩) ?_
       rotate_left
       ·
        (intro w hSw; (try dsimp only at hSw); go_simp; try with_reducible rfl)
       try simp only [Act.put, qa, qb, qc, qD, qE, qF]
       refine qTk (v := ?_) 9 rfl (.inl ⟨by rfl, ?_⟩) ?_
       rotate_left
       ·
        (intro w hSw; (try dsimp only at hSw); go_simp; try with_reducible rfl)
       try simp only [Act.put, qa, qb, qc, qD, qE, qF]
       refine wpTail_last (i := 10) qKr rfl rfl (fun K hK => ?_)
       try simp only [Act.put, qa, qb, qc, qD, qE, qF]
       go_simp
       refine hK.out _ _ ?_
       clear hK K
       try simp only [Act.put, qa, qb, qc, qD, qE, qF]
       refine wpTail_done qKr ?_ _
       clear hHeld hw0 hw1
       generalize hW7 : (wz.setCell ⟨gc, 0, none⟩ (.int .i64 (p + (v - 1)))) = w2 at *
       have Kw2 : Chg (gc) (gc + 1) wz w2 := by subst hW7; exact qCh
       have Xw2 : Ext w w2 := by subst hW7; exact qXt
       replace f0 := Kw2.cell (by omega) f0
       replace f1 := Kw2.cell (by omega) f1
       replace f2 := Kw2.cell (by omega) f2
       replace q0 := Kw2.cell (by omega) q0
       replace f_q0 := Kw2.frzO (by omega) z_q f_q0
       replace q1 := Kw2.cell (by omega) q1
       replace f_q1 := Kw2.frzO (by omega) z_q f_q1
       replace q2 := Kw2.cell (by omega) q2
       replace f_q2 := Kw2.frzO (by omega) z_q f_q2
       replace e0 := Kw2.cell (by omega) e0
       replace a0 := Kw2.cell (by omega) a0
       replace f_a0 := Kw2.frzO (by omega) z_a f_a0
       replace a1 := Kw2.cell (by omega) a1
       replace f_a1 := Kw2.frzO (by omega) z_a f_a1
       replace b0 := Kw2.cell (by omega) b0
       replace f_b0 := Kw2.frzO (by omega) z_b f_b0
       replace b1 := Kw2.cell (by omega) b1
       replace f_b1 := Kw2.frzO (by omega) z_b f_b1
       replace c0 : w2.cell? ⟨gc, 0, none⟩ = some (.int .i64 (p + (v - 1))) := by subst hW7; go_simp
       replace f_c0 : w2.frozen? ⟨gc, 0, none⟩ = false := by subst hW7; first | (simp only [World.frozen?_setCell]; with_reducible assumption) | go_simp
       replace c1 : w2.cell? ⟨gc, 1, none⟩ = some (.slice (some ⟨ga, 0, none⟩) 2 2) := by subst hW7; go_simp
       replace f_c1 : w2.frozen? ⟨gc, 1, none⟩ = false := by subst hW7; first | (simp only [World.frozen?_setCell]; with_reducible assumption) | go_simp
       replace c2 : w2.cell? ⟨gc, 2, none⟩ = some (.slice (some ⟨gb, 0, none⟩) 2 2) := by subst hW7; go_simp
       replace f_c2 : w2.frozen? ⟨gc, 2, none⟩ = false := by subst hW7; first | (simp only [World.frozen?_setCell]; with_reducible assumption) | go_simp
       clear Kw2
       have z_f : w.heap.size < w2.heap.size := qB f0
       have z_q : w.heap.size + 1 < w2.heap.size := qB q0
       have z_e : bl < w2.heap.size := qB e0
       have z_a : ga < w2.heap.size := qB a0
       have z_b : gb < w2.heap.size := qB b0
       have z_c : gc < w2.heap.size := qB c0
       have s_w2 : w.heap.size ≤ w2.heap.size := Xw2.size
       clear hW7
       go_wp2_with fail
       generalize hW8 : (w2.setCell ⟨gb, 1, none⟩ (.int .i64 (-1))) = w3 at *
       have Kw3 : Chg (gb) (gb + 1) w2 w3 := by subst hW8; exact qCh
       have Xw3 : Ext w w3 := by subst hW8; exact qXt
       replace f0 := Kw3.cell (by omega) f0
       replace f1 := Kw3.cell (by omega) f1
       replace f2 := Kw3.cell (by omega) f2
       replace q0 := Kw3.cell (by omega) q0
       replace f_q0 := Kw3.frzO (by omega) z_q f_q0
       replace q1 := Kw3.cell (by omega) q1
       replace f_q1 := Kw3.frzO (by omega) z_q f_q1
       replace q2 := Kw3.cell (by omega) q2
       replace f_q2 := Kw3.frzO (by omega) z_q f_q2
       replace e0 := Kw3.cell (by omega) e0
       replace a0 := Kw3.cell (by omega) a0
       replace f_a0 := Kw3.frzO (by omega) z_a f_a0
       replace a1 := Kw3.cell (by omega) a1
       replace f_a1 := Kw3.frzO (by omega) z_a f_a1
       replace b0 : w3.cell? ⟨gb, 0, none⟩ = some (.int .i64 N) := by subst hW8; go_simp
       replace f_b0 : w3.frozen? ⟨gb, 0, none⟩ = false := by subst hW8; first | (simp only [World.frozen?_setCell]; with_reducible assumption) | go_simp
       replace b1 : w3.cell? ⟨gb, 1, none⟩ = some (.int .i64 (-1)) := by subst hW8; go_simp
       replace f_b1 : w3.frozen? ⟨gb, 1, none⟩ = false := by subst hW8; first | (simp only [World.frozen?_setCell]; with_reducible assumption) | go_simp
       replace c0 := Kw3.cell (by omega) c0
       replace f_c0 := Kw3.frzO (by omega) z_c f_c0
       replace c1 := Kw3.cell (by omega) c1
       replace f_c1 := Kw3.frzO (by omega) z_c f_c1
       replace c2 := Kw3.cell (by omega) c2
       replace f_c2 := Kw3.frzO (by omega) z_c f_c2
       clear Kw3
       have z_f : w.heap.size < w3.heap.size := qB f0
       have z_q : w.heap.size + 1 < w3.heap.size := qB q0
       have z_e : bl < w3.heap.size := qB e0
       have z_a : ga < w3.heap.size := qB a0
       have z_b : gb < w3.heap.size := qB b0
       have z_c : gc < w3.heap.size := qB c0
       have s_w3 : w.heap.size ≤ w3.heap.size := Xw3.size
       clear hW8
       go_wp2_with fail
       refine (isView_c (p + (v - 1)) _ _ [many, v] [N, (-1)] _ _ _ ((Ints.two a0 a1 f_a0 f_a1).ext qXt) ((Ints.two b0 b1 f_b0 f_b1).ext qXt)).mono ?_
       rintro e w4 ⟨rfl, xw4⟩
       have Lw4 : Ext w3 w4 := Ext.trans qXt xw4
       have Xw4 : Ext w w4 := Xw3.trans Lw4
       replace f0 := Lw4.cell f0
       replace f1 := Lw4.cell f1
       replace f2 := Lw4.cell f2
       replace q0 := Lw4.cell q0
       replace q1 := Lw4.cell q1
       replace q2 := Lw4.cell q2
       replace f_q0 := Lw4.frz z_q f_q0
       replace f_q1 := Lw4.frz z_q f_q1
       replace f_q2 := Lw4.frz z_q f_q2
       replace e0 := Lw4.cell e0
       replace a0 := Lw4.cell a0
       replace a1 := Lw4.cell a1
       replace f_a0 := Lw4.frz z_a f_a0
       replace f_a1 := Lw4.frz z_a f_a1
       replace b0 := Lw4.cell b0
       replace b1 := Lw4.cell b1
       replace f_b0 := Lw4.frz z_b f_b0
       replace f_b1 := Lw4.frz z_b f_b1
       replace c0 := Lw4.cell c0
       replace c1 := Lw4.cell c1
       replace c2 := Lw4.cell c2
       replace f_c0 := Lw4.frz z_c f_c0
       replace f_c1 := Lw4.frz z_c f_c1
       replace f_c2 := Lw4.frz z_c f_c2
       have z_f : w.heap.size < w4.heap.size := qB f0
       have z_q : w.heap.size + 1 < w4.heap.size := qB q0
       have z_e : bl < w4.heap.size := qB e0
       have z_a : ga < w4.heap.size := qB a0
       have z_b : gb < w4.heap.size := qB b0
       have z_c : gc < w4.heap.size := qB c0
       have s_w4 : w.heap.size ≤ w4.heap.size := Xw4.size
       clear xw4
       have hB : fldBase al true xs kn = (p + (v - 1)) := by unfold fldBase; rw [hp.out, hv.out]; simp
       cases hvw : viewB (p + (v - 1)) [many, v] [N, (-1)]
       ·
        replace hvw := Lib.hid hvw
        go_wp2_with fail
        generalize hW9 : (((w4.setCell ⟨w.heap.size + 1, 0, none⟩ (.int .i64 0)).setCell ⟨w.heap.size + 1, 1, none⟩ (.slice none 0 0)).setCell ⟨w.heap.size + 1, 2, none⟩ (.slice none 0 0)) = w5 at *
        have Kw5 : Chg (w.heap.size + 1) (w.heap.size + 1 + 1) w4 w5 := by subst hW9; exact qCh
        have Xw5 : Ext w w5 := by subst hW9; exact qXt
        replace f0 := Kw5.cell (by omega) f0
        replace f1 := Kw5.cell (by omega) f1
        replace f2 := Kw5.cell (by omega) f2
        replace q0 : w5.cell? ⟨w.heap.size + 1, 0, none⟩ = some (.int .i64 0) := by subst hW9; go_simp
        replace f_q0 : w5.frozen? ⟨w.heap.size + 1, 0, none⟩ = false := by subst hW9; first | (simp only [World.frozen?_setCell]; with_reducible assumption) | go_simp
        replace q1 : w5.cell? ⟨w.heap.size + 1, 1, none⟩ = some (.slice none 0 0) := by subst hW9; go_simp
        replace f_q1 : w5.frozen? ⟨w.heap.size + 1, 1, none⟩ = false := by subst hW9; first | (simp only [World.frozen?_setCell]; with_reducible assumption) | go_simp
        replace q2 : w5.cell? ⟨w.heap.size + 1, 2, none⟩ = some (.slice none 0 0) := by subst hW9; go_simp
        replace f_q2 : w5.frozen? ⟨w.heap.size + 1, 2, none⟩ = false := by subst hW9; first | (simp only [World.frozen?_setCell]; with_reducible assumption) | go_simp
        replace e0 := Kw5.cell (by omega) e0
        replace a0 := Kw5.cell (by omega) a0
        replace f_a0 := Kw5.frzO (by omega) z_a f_a0
        replace a1 := Kw5.cell (by omega) a1
        replace f_a1 := Kw5.frzO (by omega) z_a f_a1
        replace b0 := Kw5.cell (by omega) b0
        replace f_b0 := Kw5.frzO (by omega) z_b f_b0
        replace b1 := Kw5.cell (by omega) b1
        replace f_b1 := Kw5.frzO (by omega) z_b f_b1
        replace c0 := Kw5.cell (by omega) c0
        replace f_c0 := Kw5.frzO (by omega) z_c f_c0
        replace c1 := Kw5.cell (by omega) c1
        replace f_c1 := Kw5.frzO (by omega) z_c f_c1
        replace c2 := Kw5.cell (by omega) c2
        replace f_c2 := Kw5.frzO (by omega) z_c f_c2
        clear Kw5
        have z_f : w.heap.size < w5.heap.size := qB f0
        have z_q : w.heap.size + 1 < w5.heap.size := qB q0
        have z_e : bl < w5.heap.size := qB e0
        have z_a : ga < w5.heap.size := qB a0
        have z_b : gb < w5.heap.size := qB b0
        have z_c : gc < w5.heap.size := qB c0
        have s_w5 : w.heap.size ≤ w5.heap.size := Xw5.size
        clear hW9
        refine bodyPost_ret (v := .tuple #[.agg #[.int .i64 0, .slice none 0 0, .slice none 0 0], .bool false]) (by simp only [results, Try.results19]; go_simp) rfl ?_
        exact PVX.no (fldB_v (by rw [hB, hv.out, hN.out]; exact hvw.out)) Xw5
       ·
        replace hvw := Lib.hid hvw
        go_wp2_with fail
        generalize hW10 : (((w4.setCell ⟨w.heap.size + 1, 0, none⟩ (.int .i64 (p + (v - 1)))).setCell ⟨w.heap.size + 1, 1, none⟩ (.slice (some ⟨ga, 0, none⟩) 2 2)).setCell ⟨w.heap.size + 1, 2, none⟩ (.slice (some ⟨gb, 0, none⟩) 2 2)) = w5 at *
        have Kw5 : Chg (w.heap.size + 1) (w.heap.size + 1 + 1) w4 w5 := by subst hW10; exact qCh
        have Xw5 : Ext w w5 := by subst hW10; exact qXt
        replace f0 := Kw5.cell (by omega) f0
        replace f1 := Kw5.cell (by omega) f1
        replace f2 := Kw5.cell (by omega) f2
        replace q0 : w5.cell? ⟨w.heap.size + 1, 0, none⟩ = some (.int .i64 (p + (v - 1))) := by subst hW10; go_simp
        replace f_q0 : w5.frozen? ⟨w.heap.size + 1, 0, none⟩ = false := by subst hW10; first | (simp only [World.frozen?_setCell]; with_reducible assumption) | go_simp
        replace q1 : w5.cell? ⟨w.heap.size + 1, 1, none⟩ = some (.slice (some ⟨ga, 0, none⟩) 2 2) := by subst hW10; go_simp
        replace f_q1 : w5.frozen? ⟨w.heap.size + 1, 1, none⟩ = false := by subst hW10; first | (simp only [World.frozen?_setCell]; with_reducible assumption) | go_simp
        replace q2 : w5.cell? ⟨w.heap.size + 1, 2, none⟩ = some (.slice (some ⟨gb, 0, none⟩) 2 2) := by subst hW10; go_simp
        replace f_q2 : w5.frozen? ⟨w.heap.size + 1, 2, none⟩ = false := by subst hW10; first | (simp only [World.frozen?_setCell]; with_reducible assumption) | go_simp
        replace e0 := Kw5.cell (by omega) e0
        replace a0 := Kw5.cell (by omega) a0
        replace f_a0 := Kw5.frzO (by omega) z_a f_a0
        replace a1 := Kw5.cell (by omega) a1
        replace f_a1 := Kw5.frzO (by omega) z_a f_a1
        replace b0 := Kw5.cell (by omega) b0
        replace f_b0 := Kw5.frzO (by omega) z_b f_b0
        replace b1 := Kw5.cell (by omega) b1
        replace f_b1 := Kw5.frzO (by omega) z_b f_b1
        replace c0 := Kw5.cell (by omega) c0
        replace f_c0 := Kw5.frzO (by omega) z_c f_c0
        replace c1 := Kw5.cell (by omega) c1
        replace f_c1 := Kw5.frzO (by omega) z_c f_c1
        replace c2 := Kw5.cell (by omega) c2
        replace f_c2 := Kw5.frzO (by omega) z_c f_c2
        clear Kw5
        have z_f : w.heap.size < w5.heap.size := qB f0
        have z_q : w.heap.size + 1 < w5.heap.size := qB q0
        have z_e : bl < w5.heap.size := qB e0
        have z_a : ga < w5.heap.size := qB a0
        have z_b : gb < w5.heap.size := qB b0
        have z_c : gc < w5.heap.size := qB c0
        have s_w5 : w.heap.size ≤ w5.heap.size := Xw5.size
        clear hW10
        refine bodyPost_ret (v := .tuple #[.agg #[.int .i64 (p + (v - 1)), .slice (some ⟨ga, 0, none⟩) 2 2, .slice (some ⟨gb, 0, none⟩) 2 2], .bool true]) (by simp only [results, Try.results19]; go_simp) rfl ?_
        have hy := fldB_y (al := al) (big := true) hf.out hkn (by omega) (by rw [hB, hv.out, hN.out]; exact hvw.out)
        rw [hB, hv.out, hN.out] at hy
        exact PVX.yes hy ((Ints.two a0 a1 f_a0 f_a1).lower (by omega)) ((Ints.two b0 b1 f_b0 f_b1).lower (by omega)) Xw5

end Go.Proofs.Ytpgkhjmboiepcaa
