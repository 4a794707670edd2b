/- Texts of these proofs put together: SvB, SvC, PureV, PureW, PureX, PureY, RngB, RngC, SlA, PureZ, Rg, GenA, RgL, Kit, SvE, SvF. No condition. -/
import Derived.Test.YtpgkhjmboiepcaaM1
import Derived.StillTail
import Derived.Deep.DeepCutAuto
import Derived.Deep.CutBlock
import Derived.Deep.RegionHeld3
import Derived.WalkKit
import Derived.StillTailTactics
set_option linter.unusedVariables false
set_option linter.unusedSimpArgs false
/- Walks: new views of the reference, tidy views. -/
namespace Go.Proofs.Ytpgkhjmboiepcaa
open Go.RowKit
set_option linter.unusedVariables false
set_option maxRecDepth 100000

/-- the strides of a new view -/
def newT (s : List Int) : List Int := if shapeB s then (if countL s = 0 then List.replicate s.length 0 else rowS s) else []
def newS (s : List Int) : List Int := if shapeB s then s else []
theorem PView.no {w w' : World} (h : Ext w w') : PView w 0 [] [] (.returned (.agg #[.int .i64 0, .slice none 0 0, .slice none 0 0])) w' :=
  ⟨_, _, rfl, Ints.nil _ _ _ _ (by simp) (fun _ => rfl), Ints.nil _ _ _ _ (by simp) (fun _ => rfl), .inl ⟨rfl, none, 0, rfl, by simp, fun _ => rfl⟩, .inl ⟨rfl, none, 0, rfl, by simp, fun _ => rfl⟩, fun h => absurd rfl h, h⟩
theorem PView.two {w w' : World} {base : Int} {shape strides : List Int} {v1 v2 : Value} {b1 b2 m : Nat} (o1 : OwnZ w' b1 v1 shape) (o2 : OwnZ w' b2 v2 strides) (h1 : w.heap.size ≤ b1) (h2 : w.heap.size ≤ b2)
    (hd : (shape ≠ [] → ∀ g, v1.ownBlock = some g → g < m) ∧ m ≤ b2 ∨ (strides ≠ [] → ∀ g, v2.ownBlock = some g → g < m) ∧ m ≤ b1) (l1 : shape.length ≤ 4194304) (l2 : strides.length ≤ 4194304) (hx : Ext w w') : PView w base shape strides (.returned (.agg #[.int .i64 base, v1, v2])) w' := by
  refine ⟨v1, v2, rfl, (o1.lower h1).ints l1, (o2.lower h2).ints l2, o1.lower h1, o2.lower h2, fun n1 n2 => ?_, hx⟩
  obtain ⟨g1, e1, t1, _⟩ := o1.lt n1
  obtain ⟨g2, e2, t2, _⟩ := o2.lt n2
  rw [e1, e2]
  rcases hd with ⟨hd, hm⟩ | ⟨hd, hm⟩
  · have := hd n1 g1 e1; simp; omega
  · have := hd n2 g2 e2; simp; omega

theorem Chg.three {lo : Nat} (w : World) (x y z : Value) : Chg lo (lo + 1) w (((w.setCell ⟨lo, 0, none⟩ x).setCell ⟨lo, 1, none⟩ y).setCell ⟨lo, 2, none⟩ z) :=
  (((Chg.refl lo (lo + 1) w).setCell (p := ⟨lo, 0, none⟩) (Nat.le_refl _) (Nat.lt_succ_self _) _).setCell (p := ⟨lo, 1, none⟩) (Nat.le_refl _) (Nat.lt_succ_self _) _).setCell (p := ⟨lo, 2, none⟩) (Nat.le_refl _) (Nat.lt_succ_self _) _

set_option maxHeartbeats 3200000 in
theorem newView_c (xs : List Int) (v : Value) (w : World) (lo : Nat) (hv : Ints w lo v xs) :
    Calls Try.prog 122 #[v] w (PView w 0 (newS xs) (newT xs)) := by
  have hlen := ints_len hv
  cases h1 : shapeB xs
  · have hS := Lib.hid (show newS xs = [] by unfold newS; rw [h1]; rfl)
    have hT := Lib.hid (show newT xs = [] by unfold newT; rw [h1]; rfl)
    go_enter Try.func122, Try.ntmps122
    go_wp2_with fail
    refine (validShape_c xs _ _ lo (hv.ext qXo)).mono ?_
    rintro e w' ⟨rfl, rfl⟩
    rw [h1]
    go_wp2_with fail
    refine bodyPost_ret (v := .agg #[.int .i64 0, .slice none 0 0, .slice none 0 0]) (by simp only [results, Try.results122]; go_simp) rfl ?_
    rw [hS.out, hT.out]
    exact PView.no qXt
  · have hsm := Lib.hid (Small.of h1)
    have hS := Lib.hid (show newS xs = xs by unfold newS; rw [h1]; rfl)
    by_cases h2 : countL xs = 0
    · have hT := Lib.hid (show newT xs = List.replicate xs.length 0 by unfold newT; rw [h1, if_pos rfl, if_pos h2])
      have h1' := Lib.hid h1
      have h2' := Lib.hid h2
      have hmk := mk_ints xs.length hlen
      clear h1 h2
      obtain ⟨a, c, rfl⟩ := hv.form
      go_enter Try.func122, Try.ntmps122
      go_wp2_with fail
      refine (validShape_c xs _ _ lo (hv.ext qXo)).mono ?_
      rintro e w' ⟨rfl, rfl⟩
      rw [h1'.out]
      go_wp2_with fail
      refine (count_c xs _ _ lo (hv.ext qXo)).mono ?_
      rintro e w' ⟨rfl, rfl⟩
      rw [h2'.out]
      go_wp2_with fail
      have hx0 : Ext w (w.alloc (.cells #[.int .i64 0, .slice none 0 0, .slice none 0 0] 25)) := (Ext.refl _).alloc _
      have k0 : (w.alloc (.cells #[.int .i64 0, .slice none 0 0, .slice none 0 0] 25)).cell? ⟨w.heap.size, 0, none⟩ = some (.int .i64 0) := by simp
      have k1 : (w.alloc (.cells #[.int .i64 0, .slice none 0 0, .slice none 0 0] 25)).cell? ⟨w.heap.size, 1, none⟩ = some (.slice none 0 0) := by simp
      have k2 : (w.alloc (.cells #[.int .i64 0, .slice none 0 0, .slice none 0 0] 25)).cell? ⟨w.heap.size, 2, none⟩ = some (.slice none 0 0) := by simp
      have f0 : (w.alloc (.cells #[.int .i64 0, .slice none 0 0, .slice none 0 0] 25)).frozen? ⟨w.heap.size, 0, none⟩ = false := by simp
      have f1 : (w.alloc (.cells #[.int .i64 0, .slice none 0 0, .slice none 0 0] 25)).frozen? ⟨w.heap.size, 1, none⟩ = false := by simp
      have f2 : (w.alloc (.cells #[.int .i64 0, .slice none 0 0, .slice none 0 0] 25)).frozen? ⟨w.heap.size, 2, none⟩ = false := by simp
      have z0 : w.heap.size < (w.alloc (.cells #[.int .i64 0, .slice none 0 0, .slice none 0 0] 25)).heap.size := by simp
      revert hx0 k0 k1 k2 f0 f1 f2 z0
      generalize w.alloc (.cells #[.int .i64 0, .slice none 0 0, .slice none 0 0] 25) = w0
      intro hx0 k0 k1 k2 f0 f1 f2 z0
      go_region_held3 (fun _ => True) (trivial)
        (first | (go_at_call 42; refine (copyInts_c xs _ _ lo (hv.ext (hx0.trans qXo))).mono ?_; rintro e w1 ⟨v1, rfl, hi1, ho1, hx1⟩; obtain ⟨p1, q1, s1, rfl⟩ := ho1.form; have X1 : Ext w0 w1 := Ext.trans qXo hx1; have R1 := X1.rule; have F1 := X1.frule; have Z1 := Nat.lt_of_lt_of_le z0 X1.size; have l0 := X1.cell k0; have l1 := X1.cell k1; have l2 := X1.cell k2; have g0 := X1.frz z0 f0; have g1 := X1.frz z0 f1; have g2 := X1.frz z0 f2))
      · go_wp2_with fail
        refine bodyPost_ret (v := .agg #[.int .i64 0, .slice p1 q1 s1, .slice (some ⟨w1.heap.size, 0, none⟩) xs.length xs.length]) (by simp only [results, Try.results122]; go_simp) rfl ?_
        rw [hS.out, hT.out]
        have XX : Ext w w1 := hx0.trans X1
        obtain ⟨n1, rfl⟩ : ∃ n, q1 = n := ⟨_, rfl⟩
        have hb1 := ho1.bound
        have ho2 := fun x y z => (OwnI.made (((w1.setCell ⟨w.heap.size, 0, none⟩ x).setCell ⟨w.heap.size, 1, none⟩ y).setCell ⟨w.heap.size, 2, none⟩ z) w1.heap.size xs.length (by simp) hlen).z
        simp only [World.size_setCell] at ho2
        exact PView.two (b1 := w.heap.size + 1) (b2 := w1.heap.size) (m := w1.heap.size) (((ho1.lower (by simp <;> omega)).chg (Chg.three _ _ _ _) (Nat.le_refl _)).ext ((Ext.refl _).alloc _)) (ho2 _ _ _) (by omega) (by omega) (.inl ⟨hb1, Nat.le_refl _⟩) hlen (by simp; exact hlen) qXt
      · go_wp2_with fail
        refine bodyPost_ret (v := .agg #[.int .i64 0, .slice p1 q1 s1, .slice (some ⟨w0.heap.size, 0, none⟩) xs.length xs.length]) (by simp only [results, Try.results122]; go_simp) rfl ?_
        rw [hS.out, hT.out]
        have XX : Ext w w1 := hx0.trans X1
        have ho2 := ((OwnI.made w0 w0.heap.size xs.length (Nat.le_refl _) hlen).z).ext (show Ext _ w1 from Ext.trans qXo hx1)
        exact PView.two (b1 := w0.heap.size + 1) (b2 := w0.heap.size) (m := w0.heap.size + 1) ((ho1.lower (by simp)).chg (Chg.three _ _ _ _) (by omega)) (ho2.chg (Chg.three _ _ _ _) z0) (by omega) (by omega) (.inr ⟨fun _ g hg => by simp [Value.ownBlock] at hg; omega, Nat.le_refl _⟩) hlen (by simp; exact hlen) qXt
    · have hT := Lib.hid (show newT xs = rowS xs by unfold newT; rw [h1, if_pos rfl, if_neg h2])
      have h1' := Lib.hid h1
      have h2' : (countL xs == 0) = false := by simpa using h2
      clear h1 h2
      obtain ⟨a, c, rfl⟩ := hv.form
      go_enter Try.func122, Try.ntmps122
      go_wp2_with fail
      refine (validShape_c xs _ _ lo (hv.ext qXo)).mono ?_
      rintro e w' ⟨rfl, rfl⟩
      rw [h1'.out]
      go_wp2_with fail
      refine (count_c xs _ _ lo (hv.ext qXo)).mono ?_
      rintro e w' ⟨rfl, rfl⟩
      go_wp2_with fail
      refine (copyInts_c xs _ _ lo (hv.ext qXo)).mono ?_
      rintro e w1 ⟨v1, rfl, i1, o1, x1⟩
      have X1 : Ext w w1 := Ext.trans qXo x1
      obtain ⟨a1, c1, rfl⟩ := i1.form
      have k0 := x1.cell (p := ⟨w.heap.size, 0, none⟩) (v := .int .i64 0) (by simp)
      have k1 := x1.cell (p := ⟨w.heap.size, 1, none⟩) (v := .slice none 0 0) (by simp)
      have k2 := x1.cell (p := ⟨w.heap.size, 2, none⟩) (v := .slice none 0 0) (by simp)
      have f0 : w1.frozen? ⟨w.heap.size, 0, none⟩ = false := x1.frz (by simp) (by simp)
      have f1 : w1.frozen? ⟨w.heap.size, 1, none⟩ = false := x1.frz (by simp) (by simp)
      have f2 : w1.frozen? ⟨w.heap.size, 2, none⟩ = false := x1.frz (by simp) (by simp)
      have z1 : w.heap.size < w1.heap.size := qB k0
      go_wp2_with fail
      refine (srowStrides_c xs _ _ lo (hv.ext X1) hsm.out).mono ?_
      rintro e w2 ⟨v2, rfl, i2, o2, x2⟩
      obtain ⟨a2, c2, rfl⟩ := i2.form
      replace k0 := x2.cell k0
      replace k1 := x2.cell k1
      replace k2 := x2.cell k2
      replace f0 := x2.frz z1 f0
      replace f1 := x2.frz z1 f1
      replace f2 := x2.frz z1 f2
      have hb1 := o1.bound
      have o1' := o1.ext x2
      have z2 : w.heap.size < w2.heap.size := by have := x2.size; omega
      clear i1 i2
      go_wp2_with fail
      refine bodyPost_ret (v := .agg #[.int .i64 0, .slice a1 xs.length c1, .slice a2 (rowS xs).length c2]) (by simp only [results, Try.results122]; go_simp) rfl ?_
      rw [hS.out, hT.out]
      have X2 : Ext w w2 := X1.trans x2
      have K : Chg w.heap.size (w.heap.size + 1) w2 (((w2.setCell ⟨w.heap.size, 0, none⟩ (.int .i64 0)).setCell ⟨w.heap.size, 1, none⟩ (.slice a1 xs.length c1)).setCell ⟨w.heap.size, 2, none⟩ (.slice a2 (rowS xs).length c2)) :=
        (((Chg.refl _ _ _).setCell (p := ⟨w.heap.size, 0, none⟩) (Nat.le_refl _) (Nat.lt_succ_self _) _).setCell (p := ⟨w.heap.size, 1, none⟩) (Nat.le_refl _) (Nat.lt_succ_self _) _).setCell (p := ⟨w.heap.size, 2, none⟩) (Nat.le_refl _) (Nat.lt_succ_self _) _
      exact PView.two (b1 := w.heap.size + 1) (b2 := w1.heap.size) (m := w1.heap.size) ((o1'.lower (by simp)).chg K (Nat.le_refl _)) (o2.chg K z1) (by omega) (by omega) (.inl ⟨hb1, Nat.le_refl _⟩) hlen (by rw [rowS_len]; exact hlen) qXt

end Go.Proofs.Ytpgkhjmboiepcaa

/- Walks: tidy views, a number put into a list (of the reference). -/
namespace Go.Proofs.Ytpgkhjmboiepcaa
open Go.RowKit
set_option linter.unusedVariables false
set_option maxRecDepth 100000

/-- base and strides of a tidy view -/
def tidyB (b : Int) (s : List Int) : Int := if countL s = 0 then 0 else b
def tidyT (s t : List Int) : List Int := if countL s = 0 then List.replicate s.length 0 else t

set_option maxHeartbeats 1600000 in
theorem tidy_0 (b1 : Int) (u1 v1 : Value) (s1 : List Int) (w : World) (l1 : Nat) (h1 : Ints w l1 u1 s1) (hc : countL s1 = 0) :
    Calls Try.prog 158 #[.agg #[.int .i64 b1, u1, v1]] w (fun e w' => ∃ st, e = .returned (.agg #[.int .i64 0, u1, st]) ∧ OwnI w' w.heap.size st (List.replicate s1.length 0) ∧ Ext w w') := by
  obtain ⟨a1, c1, rfl⟩ := h1.form
  have hlen : s1.length ≤ 4194304 := by obtain ⟨_, _, _, _, _, ⟨h, _⟩, _⟩ := h1; exact h
  have hmk := mk_ints s1.length hlen
  go_enter Try.func158, Try.ntmps158
  go_wp2_with (go_at_call 111; refine (count_c s1 _ _ l1 (h1.ext qXo)).mono ?_; rintro e w' ⟨rfl, rfl⟩)
  have hx0 : Ext w ((w.alloc (.cells #[.int .i64 b1, .slice a1 s1.length c1, v1] 25)).alloc (.cells #[.int .i64 0, .slice none 0 0, .slice none 0 0] 25)) := ((Ext.refl _).alloc _).alloc _
  have c11 : ((w.alloc (.cells #[.int .i64 b1, .slice a1 s1.length c1, v1] 25)).alloc (.cells #[.int .i64 0, .slice none 0 0, .slice none 0 0] 25)).cell? ⟨w.heap.size, 1, none⟩ = some (.slice a1 s1.length c1) := by rw [World.cell?_alloc_lt _ _ _ (by simp)]; simp
  have k0 : ((w.alloc (.cells #[.int .i64 b1, .slice a1 s1.length c1, v1] 25)).alloc (.cells #[.int .i64 0, .slice none 0 0, .slice none 0 0] 25)).cell? ⟨w.heap.size + 1, 0, none⟩ = some (.int .i64 0) := by go_simp
  have k1 : ((w.alloc (.cells #[.int .i64 b1, .slice a1 s1.length c1, v1] 25)).alloc (.cells #[.int .i64 0, .slice none 0 0, .slice none 0 0] 25)).cell? ⟨w.heap.size + 1, 1, none⟩ = some (.slice none 0 0) := by go_simp
  have k2 : ((w.alloc (.cells #[.int .i64 b1, .slice a1 s1.length c1, v1] 25)).alloc (.cells #[.int .i64 0, .slice none 0 0, .slice none 0 0] 25)).cell? ⟨w.heap.size + 1, 2, none⟩ = some (.slice none 0 0) := by go_simp
  have f0 : ((w.alloc (.cells #[.int .i64 b1, .slice a1 s1.length c1, v1] 25)).alloc (.cells #[.int .i64 0, .slice none 0 0, .slice none 0 0] 25)).frozen? ⟨w.heap.size + 1, 0, none⟩ = false := by go_simp
  have f1 : ((w.alloc (.cells #[.int .i64 b1, .slice a1 s1.length c1, v1] 25)).alloc (.cells #[.int .i64 0, .slice none 0 0, .slice none 0 0] 25)).frozen? ⟨w.heap.size + 1, 1, none⟩ = false := by go_simp
  have f2 : ((w.alloc (.cells #[.int .i64 b1, .slice a1 s1.length c1, v1] 25)).alloc (.cells #[.int .i64 0, .slice none 0 0, .slice none 0 0] 25)).frozen? ⟨w.heap.size + 1, 2, none⟩ = false := by go_simp
  have z0 : w.heap.size + 1 < ((w.alloc (.cells #[.int .i64 b1, .slice a1 s1.length c1, v1] 25)).alloc (.cells #[.int .i64 0, .slice none 0 0, .slice none 0 0] 25)).heap.size := by simp
  revert hx0 c11 k0 k1 k2 f0 f1 f2 z0
  generalize (w.alloc (.cells #[.int .i64 b1, .slice a1 s1.length c1, v1] 25)).alloc (.cells #[.int .i64 0, .slice none 0 0, .slice none 0 0] 25) = w0
  intro hx0 c11 k0 k1 k2 f0 f1 f2 z0
  go_region_held3 (fun w' => w'.cell? ⟨w.heap.size, 1, none⟩ = some (.slice a1 s1.length c1)) (go_keep) (fail)
  go_wp2_with fail
  refine bodyPost_ret (v := .agg #[.int .i64 0, .slice a1 s1.length c1, .slice (some ⟨w0.heap.size, 0, none⟩) s1.length s1.length]) (by simp only [results, Try.results158]; go_simp) rfl ?_
  refine ⟨_, rfl, ?_, ?_⟩
  · have ho2 := fun x y z => (OwnI.made (((w0.setCell ⟨w.heap.size + 1, 0, none⟩ x).setCell ⟨w.heap.size + 1, 1, none⟩ y).setCell ⟨w.heap.size + 1, 2, none⟩ z) w.heap.size s1.length (by simp; omega) hlen)
    simp only [World.size_setCell] at ho2
    first | exact ho2 _ _ _ | exact (ho2 _ _ _).ext (Ext.drew (Ext.refl _))
  · exact qXt

/-- the number of indices of a view with cells stays -/
theorem tidy_1 (b1 : Int) (u1 v1 : Value) (s1 t1 : List Int) (w : World) (l1 m1 : Nat) (h1 : Ints w l1 u1 s1) (k1 : Ints w m1 v1 t1) (hc : countL s1 ≠ 0) :
    Calls Try.prog 158 #[.agg #[.int .i64 b1, u1, v1]] w (fun e w' => e = .returned (.agg #[.int .i64 b1, u1, v1]) ∧ Ext w w') := by
  obtain ⟨a1, c1, rfl⟩ := h1.form
  obtain ⟨a2, c2, rfl⟩ := k1.form
  have hc1 : (countL s1 == 0) = false := by simpa using hc
  have hc2 : decide (countL s1 = 0) = false := by simpa using hc
  go_enter Try.func158, Try.ntmps158
  go_wp2_with (go_at_call 111; refine (count_c s1 _ _ l1 (h1.ext qXo)).mono ?_; rintro e w' ⟨rfl, rfl⟩)
  refine bodyPost_ret (v := .agg #[.int .i64 b1, .slice a1 s1.length c1, .slice a2 t1.length c2]) (by simp only [results, Try.results158]; go_simp) rfl ?_
  exact ⟨rfl, qXo⟩

end Go.Proofs.Ytpgkhjmboiepcaa

/- Plain laws on views: indices in order, the cells of indices, ranks. -/
namespace Go.Proofs.Ytpgkhjmboiepcaa
open Go.RowKit
set_option linter.unusedVariables false
set_option maxRecDepth 100000

/-- the cell of an index, unbounded -/
def dotC (b : Int) : List Int → List Int → Int
  | x :: xs, t :: ts => x * t + dotC b xs ts
  | _, _ => b
theorem dotC_add : ∀ (b c : Int) (xs ts : List Int), dotC (b + c) xs ts = dotC b xs ts + c
  | b, c, [], ts => by cases ts <;> rfl
  | b, c, x :: xs, [] => rfl
  | b, c, x :: xs, t :: ts => by simp only [dotC]; rw [dotC_add b c xs ts]; omega
theorem mul_bd {x t M : Int} (h0 : 0 ≤ x) (h1 : x ≤ 60) (hM : 0 ≤ M) (h2 : -M ≤ t) (h3 : t ≤ M) : -(60 * M) ≤ x * t ∧ x * t ≤ 60 * M := by
  have a1 := Int.mul_le_mul_of_nonneg_left h3 h0
  have a2 := Int.mul_le_mul_of_nonneg_left h2 h0
  have a3 := Int.mul_le_mul_of_nonneg_right h1 hM
  rw [Int.mul_neg] at a2
  omega
theorem dot_eq (xs : List Int) : ∀ (ts : List Int) (a : Int), (∀ x ∈ xs, 0 ≤ x ∧ x ≤ 60) → (∀ t ∈ ts, -1000000 ≤ t ∧ t ≤ 1000000) → -(1000000000 - 60000000 * (xs.length : Int)) ≤ a → a ≤ 1000000000 - 60000000 * (xs.length : Int) →
    (xs.zip ts).foldl (fun a p => wrap64 (a + wrap64 (p.1 * p.2))) a = dotC a xs ts := by
  induction xs with
  | nil => intro ts a _ _ _ _; cases ts <;> rfl
  | cons x xs ih =>
    intro ts a hx ht h1 h2
    cases ts with
    | nil => rfl
    | cons t ts =>
      obtain ⟨x0, x1⟩ := hx x (List.mem_cons_self ..)
      obtain ⟨t0, t1⟩ := ht t (List.mem_cons_self ..)
      have hb := mul_bd x0 x1 (show (0 : Int) ≤ 1000000 by omega) t0 t1
      rw [List.length_cons] at h1 h2
      have hl : ((xs.length + 1 : Nat) : Int) = (xs.length : Int) + 1 := by omega
      rw [hl] at h1 h2
      have h0 : (0 : Int) ≤ (xs.length : Int) := by omega
      generalize (xs.length : Int) = L at *
      have w1 : wrap64 (x * t) = x * t := IntWalk.wrap64_in _ ⟨by omega, by omega⟩
      have w2 : wrap64 (a + x * t) = a + x * t := IntWalk.wrap64_in _ ⟨by omega, by omega⟩
      rw [List.zip_cons_cons, List.foldl_cons]
      simp only [w1, w2]
      rw [ih ts (a + x * t) (fun q hq => hx q (List.mem_cons_of_mem _ hq)) (fun q hq => ht q (List.mem_cons_of_mem _ hq)) (by omega) (by omega), dotC_add, dotC]
      omega
/-- strides and a base that are not great -/
def Mild (b : Int) (ts : List Int) : Prop := (-700000000 ≤ b ∧ b ≤ 700000000) ∧ ∀ t ∈ ts, -1000000 ≤ t ∧ t ≤ 1000000
theorem dotL_eq {b : Int} {xs ts : List Int} (hl : xs.length ≤ 4) (hx : ∀ x ∈ xs, 0 ≤ x ∧ x ≤ 60) (hm : Mild b ts) : dotL b xs ts = dotC b xs ts :=
  dot_eq xs ts b hx hm.2 (by have := hm.1; omega) (by have := hm.1; omega)

theorem unrL_cons (e : Int) (s : List Int) (k : Int) : unrL (e :: s) k = ((unrL s k).2 % e :: (unrL s k).1, (unrL s k).2 / e) := rfl
theorem unr_split : ∀ (s : List Int), (∀ e ∈ s, 1 ≤ e) → ∀ i j : Int, 0 ≤ j → j < prodL s → unrL s (i * prodL s + j) = ((unrL s j).1, i)
  | [], _, i, j, h0, h1 => by
    simp [prodL] at h1
    have : j = 0 := by omega
    subst this
    simp [unrL, prodL]
  | e :: s, hp, i, j, h0, h1 => by
    have he := hp e (List.mem_cons_self ..)
    have hs := fun q hq => hp q (List.mem_cons_of_mem e hq)
    have hP := prodL_pos hs
    rw [prodL_cons] at h1 ⊢
    have d1 := Int.mul_ediv_add_emod j (prodL s)
    have d2 := Int.emod_nonneg j (show prodL s ≠ 0 by omega)
    have d3 := Int.emod_lt_of_pos j (show 0 < prodL s by omega)
    have d4 : 0 ≤ j / prodL s := Int.ediv_nonneg h0 (by omega)
    have d5 : j / prodL s < e := Int.ediv_lt_of_lt_mul (by omega) (by rw [Int.mul_comm] at h1; rwa [Int.mul_comm])
    have k1 : i * (e * prodL s) + j = (i * e + j / prodL s) * prodL s + j % prodL s := by
      rw [Int.add_mul, Int.mul_assoc]
      rw [Int.mul_comm (prodL s)] at d1
      omega
    have k2 : j = (j / prodL s) * prodL s + j % prodL s := by rw [Int.mul_comm]; omega
    rw [unrL_cons, unrL_cons, k1, unr_split s hs _ _ d2 d3]
    have k3 := unr_split s hs (j / prodL s) (j % prodL s) d2 d3
    rw [← k2] at k3
    rw [k3]
    have m1 : (i * e + j / prodL s) % e = j / prodL s := by rw [Int.add_comm, Int.add_mul_emod_self_right, Int.emod_eq_of_lt d4 d5]
    have m2 : (i * e + j / prodL s) / e = i := by rw [Int.add_comm, Int.add_mul_ediv_right _ _ (by omega), Int.ediv_eq_zero_of_lt d4 d5]; omega
    have m3 : (j / prodL s) % e = j / prodL s := Int.emod_eq_of_lt d4 d5
    rw [m1, m2, m3]

/-- is it an index of a shape? -/
def IxOf : List Int → List Int → Prop
  | [], [] => True
  | e :: s, x :: r => (0 ≤ x ∧ x < e) ∧ IxOf s r
  | _, _ => False
theorem IxOf.len : ∀ {s r : List Int}, IxOf s r → r.length = s.length
  | [], [], _ => rfl
  | e :: s, x :: r, h => by simp [IxOf.len h.2]
  | [], x :: r, h => h.elim
  | e :: s, [], h => h.elim
theorem IxOf.pos : ∀ {s r : List Int}, IxOf s r → ∀ e ∈ s, 1 ≤ e
  | [], _, _ => by simp
  | e :: s, x :: r, h => by
    intro q hq
    rcases List.mem_cons.1 hq with rfl | hq
    · have := h.1; omega
    · exact IxOf.pos h.2 q hq
  | e :: s, [], h => h.elim
theorem IxOf.small : ∀ {s r : List Int}, IxOf s r → (∀ e ∈ s, e ≤ 60) → ∀ x ∈ r, 0 ≤ x ∧ x ≤ 60
  | [], [], _, _ => by simp
  | e :: s, x :: r, h, hs => by
    intro q hq
    rcases List.mem_cons.1 hq with rfl | hq
    · have := h.1; have := hs e (List.mem_cons_self ..); omega
    · exact IxOf.small h.2 (fun q hq => hs q (List.mem_cons_of_mem _ hq)) q hq
  | [], x :: r, h, _ => h.elim
  | e :: s, [], h, _ => h.elim
/-- the index of a rank -/
theorem ix_unr : ∀ (s : List Int), (∀ e ∈ s, 1 ≤ e) → ∀ k : Int, IxOf s (unrL s k).1
  | [], _, k => trivial
  | e :: s, hp, k => by
    rw [unrL_cons]
    have he := hp e (List.mem_cons_self ..)
    exact ⟨⟨Int.emod_nonneg _ (by omega), Int.emod_lt_of_pos _ (by omega)⟩, ix_unr s (fun q hq => hp q (List.mem_cons_of_mem _ hq)) k⟩
/-- the rank of an index, and the index of that rank -/
theorem unr_rank : ∀ (s r : List Int), IxOf s r → (0 ≤ rankC s r ∧ rankC s r < prodL s) ∧ (unrL s (rankC s r)).1 = r
  | [], [], _ => by simp [rankC, prodL, unrL]
  | e :: s, x :: r, h => by
    obtain ⟨⟨h1, h2⟩, h3⟩ := unr_rank s r h.2
    have hP := prodL_pos h.2.pos
    have b1 : (x + 1) * prodL s ≤ e * prodL s := Int.mul_le_mul_of_nonneg_right (by have := h.1; omega) (by omega)
    have b2 : 0 ≤ x * prodL s := Int.mul_nonneg h.1.1 (by omega)
    rw [Int.add_mul] at b1
    simp only [rankC, prodL_cons]
    refine ⟨⟨by omega, by omega⟩, ?_⟩
    rw [unrL_cons, unr_split s h.2.pos x (rankC s r) h1 h2, h3]
    simp only
    rw [Int.emod_eq_of_lt h.1.1 h.1.2]
  | [], x :: r, h => h.elim
  | e :: s, [], h => h.elim
theorem rank_unr : ∀ (s : List Int), (∀ e ∈ s, 1 ≤ e) → ∀ k : Int, 0 ≤ k → k < prodL s → rankC s (unrL s k).1 = k
  | [], _, k, h0, h1 => by simp [prodL] at h1; simp [rankC, unrL]; omega
  | e :: s, hp, k, h0, h1 => by
    have hs := fun q hq => hp q (List.mem_cons_of_mem e hq)
    have hP := prodL_pos hs
    have he := hp e (List.mem_cons_self ..)
    rw [prodL_cons] at h1
    have d1 := Int.mul_ediv_add_emod k (prodL s)
    have d2 := Int.emod_nonneg k (show prodL s ≠ 0 by omega)
    have d3 := Int.emod_lt_of_pos k (show 0 < prodL s by omega)
    have d4 : 0 ≤ k / prodL s := Int.ediv_nonneg h0 (by omega)
    have d5 : k / prodL s < e := Int.ediv_lt_of_lt_mul (by omega) (by rw [Int.mul_comm] at h1; rwa [Int.mul_comm])
    have k2 : k = (k / prodL s) * prodL s + k % prodL s := by rw [Int.mul_comm]; omega
    have k3 := unr_split s hs (k / prodL s) (k % prodL s) d2 d3
    rw [← k2] at k3
    have k4 := rank_unr s hs (k % prodL s) d2 d3
    rw [unrL_cons, k3]
    simp only [rankC]
    rw [k4, Int.emod_eq_of_lt d4 d5]
    omega

/-- all indices of a shape, in order -/
def idxR : List Int → List (List Int)
  | [] => [[]]
  | e :: s => (List.range e.toNat).flatMap fun i : Nat => (idxR s).map fun r => (i : Int) :: r
theorem range_mul (n p : Nat) : List.range (n * p) = (List.range n).flatMap fun i => (List.range p).map fun j => i * p + j := by
  induction n with
  | zero => simp
  | succ n ih =>
    rw [Nat.succ_mul, List.range_add, ih, List.range_succ, List.flatMap_append]
    simp
theorem flatMap_same {β : Type} {l : List Nat} {f g : Nat → List β} (h : ∀ i ∈ l, f i = g i) : l.flatMap f = l.flatMap g := by
  induction l with
  | nil => rfl
  | cons i l ih => rw [List.flatMap_cons, List.flatMap_cons, h i (List.mem_cons_self ..), ih fun j hj => h j (List.mem_cons_of_mem _ hj)]
theorem idx_eq : ∀ (s : List Int), (∀ e ∈ s, 1 ≤ e) → (List.range (prodL s).toNat).map (fun k : Nat => (unrL s k).1) = idxR s
  | [], _ => by simp [prodL, idxR, unrL, List.range_succ]
  | e :: s, hp => by
    have hs := fun q hq => hp q (List.mem_cons_of_mem e hq)
    have he := hp e (List.mem_cons_self ..)
    have hP := prodL_pos hs
    have ih := idx_eq s hs
    have hn : (prodL (e :: s)).toNat = e.toNat * (prodL s).toNat := by
      rw [prodL_cons, Int.toNat_mul (by omega) (by omega)]
    rw [hn, range_mul, List.map_flatMap, idxR]
    refine flatMap_same fun i hi => ?_
    rw [List.mem_range] at hi
    rw [← ih, List.map_map, List.map_map]
    refine List.map_congr_left fun j hj => ?_
    rw [List.mem_range] at hj
    simp only [Function.comp]
    have hc : ((i * (prodL s).toNat + j : Nat) : Int) = (i : Int) * prodL s + (j : Int) := by
      rw [Int.natCast_add, Int.natCast_mul, Int.toNat_of_nonneg (by omega)]
    rw [hc, unrL_cons, unr_split s hs _ _ (by omega) (by omega)]
    simp only
    rw [Int.emod_eq_of_lt (by omega) (by omega)]
theorem mem_idxR : ∀ (s r : List Int), r ∈ idxR s ↔ IxOf s r
  | [], r => by cases r <;> simp [idxR, IxOf]
  | e :: s, [] => by simp [idxR, IxOf]
  | e :: s, x :: r => by
    simp only [idxR, List.mem_flatMap, List.mem_range, List.mem_map, List.cons.injEq, IxOf]
    constructor
    · rintro ⟨i, hi, r', hr, rfl, rfl⟩
      exact ⟨by omega, (mem_idxR s r').1 hr⟩
    · rintro ⟨h1, h2⟩
      exact ⟨x.toNat, by omega, r, (mem_idxR s r).2 h2, by omega, rfl⟩
end Go.Proofs.Ytpgkhjmboiepcaa

/- Plain laws on views: the cells of all indices, views that are drawn out of views. -/
namespace Go.Proofs.Ytpgkhjmboiepcaa
open Go.RowKit
set_option linter.unusedVariables false
set_option maxRecDepth 100000

/-- the cells of all indices, unbounded -/
def offC (b : Int) (s t : List Int) : List Int := (idxR s).map fun r => dotC b r t

theorem idxR_none {s : List Int} (h : ¬ ∀ e ∈ s, 1 ≤ e) : idxR s = [] := by
  rw [List.eq_nil_iff_forall_not_mem]
  intro r hr
  exact h ((mem_idxR s r).1 hr).pos
theorem idxR_len (s : List Int) (h : ∀ e ∈ s, 0 ≤ e) : ((idxR s).length : Int) = prodL s := by
  by_cases hp : ∀ e ∈ s, 1 ≤ e
  · rw [← idx_eq s hp, List.length_map, List.length_range, Int.toNat_of_nonneg (by have := prodL_pos hp; omega)]
  · rw [idxR_none hp]
    have : ∃ e ∈ s, e = 0 := by
      apply Classical.byContradiction
      intro hn
      refine hp fun e he => ?_
      have := h e he
      have : e ≠ 0 := fun h0 => hn ⟨e, he, h0⟩
      omega
    obtain ⟨e, he, rfl⟩ := this
    have hz : ∀ s : List Int, (0 : Int) ∈ s → prodL s = 0 := by
      intro s
      induction s with
      | nil => intro h; cases h
      | cons x s ih =>
        intro h
        rw [prodL_cons]
        rcases List.mem_cons.1 h with h | h
        · rw [← h, Int.zero_mul]
        · rw [ih h, Int.mul_zero]
    rw [hz s he]; rfl

theorem offs_C {b : Int} {s t : List Int} (hs : Small s) (hm : Mild b t) : offsL b s t = offC b s t := by
  obtain ⟨h1, h2, h3, h4⟩ := hs.count
  unfold offC
  by_cases hp : ∀ e ∈ s, 1 ≤ e
  · rw [← idx_eq s hp]
    unfold offsL
    rw [h1, List.map_map]
    refine List.map_congr_left fun k hk => ?_
    have hi := ix_unr s hp k
    exact dotL_eq (by rw [unrL_len]; exact hs.1) (hi.small fun e he => (hs.2 e he).2) hm
  · rw [idxR_none hp]
    refine offsL_zero ?_
    apply Classical.byContradiction
    intro hn
    exact hp (h4 (by omega))
theorem view_small {b : Int} {s t : List Int} (h : viewB b s t = true) : Small s := Small.of (viewB_in h).1
theorem view_mild {b : Int} {s t : List Int} (h : viewB b s t = true) : Mild b t := by
  obtain ⟨_, _, h1, h2, _⟩ := viewB_in h
  exact ⟨by omega, fun x hx => by have := h2 x hx; omega⟩
theorem view_C {b : Int} {s t : List Int} (h : viewB b s t = true) : offsL b s t = offC b s t := offs_C (view_small h) (view_mild h)

theorem offC_nil (b : Int) : offC b [] [] = [b] := rfl
theorem offC_cons (b e : Int) (s : List Int) (x : Int) (t : List Int) : offC b (e :: s) (x :: t) = (List.range e.toNat).flatMap fun i : Nat => (offC b s t).map (· + (i : Int) * x) := by
  unfold offC
  rw [idxR, List.map_flatMap]
  refine flatMap_same fun i _ => ?_
  rw [List.map_map, List.map_map]
  refine List.map_congr_left fun r _ => ?_
  simp only [Function.comp, dotC]; omega
theorem offC_add (b c : Int) (s t : List Int) : offC (b + c) s t = (offC b s t).map (· + c) := by
  unfold offC
  rw [List.map_map]
  refine List.map_congr_left fun r _ => ?_
  simp only [Function.comp]; exact dotC_add _ _ _ _

/-- what makes a view one -/
theorem viewB_mk {b : Int} {s t : List Int} (h1 : shapeB s = true) (h2 : t.length = s.length) (h3 : 0 ≤ b ∧ b ≤ 60) (h4 : ∀ x ∈ t, -60 ≤ x ∧ x ≤ 60) (h5 : ∀ x ∈ offsL b s t, 0 ≤ x ∧ x ≤ 59) : viewB b s t = true := by
  rw [viewB_end (by rw [h1, decide_eq_true h2]; simp [inB]; omega) (by rw [List.all_eq_true]; intro x hx; have := h4 x hx; simp [inB]; omega), any_out, List.all_eq_true]
  intro x hx; have := h5 x hx; simp [inB]; omega

/-- the numbers in order from the base on: the cells of a view that is dense by rows -/
theorem dot_row : ∀ (s r : List Int) (b : Int), r.length = s.length → dotC b r (rowS s) = b + rankC s r
  | [], [], b, _ => by simp [dotC, rowS, rankC]
  | e :: s, x :: r, b, h => by
    simp only [dotC, rowS, rankC]
    rw [dot_row s r b (by simpa using h)]; omega
  | [], _ :: _, _, h => by cases h
  | _ :: _, [], _, h => by cases h
theorem rowS_bd : ∀ (s : List Int), Small s → ∀ x ∈ rowS s, 0 ≤ x ∧ x ≤ 12960000
  | [], _, x, h => by simp [rowS] at h
  | e :: s, hs, x, h => by
    have hd : Small s := by have := hs.drop 1; simpa using this
    rw [rowS] at h
    rcases List.mem_cons.1 h with rfl | h
    · have := hd.count; rw [← this.1]; omega
    · exact rowS_bd s hd x h
theorem rowS_le {s : List Int} (hs : Small s) (hp : ∀ e ∈ s, 1 ≤ e) : ∀ x ∈ rowS s, 1 ≤ x ∧ x ≤ prodL s := by
  induction s with
  | nil => intro x h; simp [rowS] at h
  | cons e s ih =>
    intro x h
    have hd : Small s := by have := hs.drop 1; simpa using this
    have hp' := fun q hq => hp q (List.mem_cons_of_mem e hq)
    have he := hp e (List.mem_cons_self ..)
    have h1 := prodL_pos hp'
    have h2 : 1 * prodL s ≤ e * prodL s := Int.mul_le_mul_of_nonneg_right he (by omega)
    rw [prodL_cons]
    rw [rowS] at h
    rcases List.mem_cons.1 h with rfl | h
    · omega
    · have := ih hd hp' x h; omega
theorem offs_row {b : Int} {s : List Int} (h : shapeB s = true) (hb : 0 ≤ b ∧ b ≤ 60) : offsL b s (rowS s) = (List.range (countL s).toNat).map fun k : Nat => b + (k : Int) := by
  have hs := Small.of h
  obtain ⟨h1, h2, h3, h4⟩ := hs.count
  by_cases hc : countL s = 0
  · rw [offsL_zero hc, hc]; rfl
  · have hp := h4 (by omega)
    have hc60 : countL s ≤ 60 := (shapeB_in h).2.2.2.1
    rw [offs_C hs ⟨by omega, fun x hx => by have := rowS_le hs hp x hx; rw [← h1] at this; omega⟩]
    unfold offC
    rw [← idx_eq s hp, List.map_map, h1]
    refine List.map_congr_left fun k hk => ?_
    rw [List.mem_range] at hk
    have hpp := prodL_pos hp
    simp only [Function.comp]
    rw [dot_row s _ b (by rw [unrL_len]), rank_unr s hp k (by omega) (by omega)]

/-- the least and the greatest cell of a view with cells -/
def loC (b : Int) : List Int → List Int → Int
  | e :: s, x :: t => loC b s t + min 0 ((e - 1) * x)
  | _, _ => b
def hiC (b : Int) : List Int → List Int → Int
  | e :: s, x :: t => hiC b s t + max 0 ((e - 1) * x)
  | _, _ => b
theorem loC_snoc : ∀ (s t : List Int) (b e x : Int), t.length = s.length → loC b (s ++ [e]) (t ++ [x]) = loC b s t + min 0 ((e - 1) * x)
  | [], [], b, e, x, _ => by simp [loC]
  | q :: s, y :: t, b, e, x, h => by
    simp only [List.cons_append, loC]
    rw [loC_snoc s t b e x (by simpa using h)]; omega
  | [], _ :: _, _, _, _, h => by cases h
  | _ :: _, [], _, _, _, h => by cases h
theorem hiC_snoc : ∀ (s t : List Int) (b e x : Int), t.length = s.length → hiC b (s ++ [e]) (t ++ [x]) = hiC b s t + max 0 ((e - 1) * x)
  | [], [], b, e, x, _ => by simp [hiC]
  | q :: s, y :: t, b, e, x, h => by
    simp only [List.cons_append, hiC]
    rw [hiC_snoc s t b e x (by simpa using h)]; omega
  | [], _ :: _, _, _, _, h => by cases h
  | _ :: _, [], _, _, _, h => by cases h
theorem step_min {e x i : Int} (h0 : 0 ≤ i) (h1 : i < e) : min 0 ((e - 1) * x) ≤ i * x ∧ i * x ≤ max 0 ((e - 1) * x) := by
  rcases Int.le_total 0 x with hx | hx
  · have a1 := Int.mul_nonneg h0 hx
    have a2 := Int.mul_le_mul_of_nonneg_right (show i ≤ e - 1 by omega) hx
    omega
  · have a1 := Int.mul_le_mul_of_nonpos_right (show i ≤ e - 1 by omega) hx
    have a2 := Int.mul_nonpos_of_nonneg_of_nonpos h0 hx
    omega
theorem lo_hi_le : ∀ (s t : List Int) (b : Int), t.length = s.length → ∀ y ∈ offC b s t, loC b s t ≤ y ∧ y ≤ hiC b s t
  | [], [], b, _, y, h => by rw [offC_nil] at h; simp at h; subst h; simp [loC, hiC]
  | e :: s, x :: t, b, hl, y, h => by
    rw [offC_cons, List.mem_flatMap] at h
    obtain ⟨i, hi, h⟩ := h
    rw [List.mem_map] at h
    obtain ⟨y', hy, rfl⟩ := h
    rw [List.mem_range] at hi
    have := lo_hi_le s t b (by simpa using hl) y' hy
    have := step_min (e := e) (x := x) (i := (i : Int)) (by omega) (by omega)
    simp only [loC, hiC]; omega
  | [], _ :: _, _, h, _, _ => by cases h
  | _ :: _, [], _, h, _, _ => by cases h
theorem lo_hi_mem : ∀ (s t : List Int) (b : Int), t.length = s.length → (∀ e ∈ s, 1 ≤ e) → loC b s t ∈ offC b s t ∧ hiC b s t ∈ offC b s t
  | [], [], b, _, _ => by rw [offC_nil]; simp [loC, hiC]
  | e :: s, x :: t, b, hl, hp => by
    obtain ⟨h1, h2⟩ := lo_hi_mem s t b (by simpa using hl) (fun q hq => hp q (List.mem_cons_of_mem _ hq))
    have he := hp e (List.mem_cons_self ..)
    have key : ∀ (y : Int), y ∈ offC b s t → ∀ i : Int, 0 ≤ i → i < e → y + i * x ∈ offC b (e :: s) (x :: t) := by
      intro y hy i h0 h1
      rw [offC_cons, List.mem_flatMap]
      refine ⟨i.toNat, by rw [List.mem_range]; omega, ?_⟩
      rw [List.mem_map]
      exact ⟨y, hy, by rw [Int.toNat_of_nonneg h0]⟩
    simp only [loC, hiC]
    rcases Int.le_total 0 x with hx | hx
    · have a2 := Int.mul_nonneg (show 0 ≤ e - 1 by omega) hx
      rw [show min 0 ((e - 1) * x) = 0 * x by omega, show max 0 ((e - 1) * x) = (e - 1) * x by omega]
      exact ⟨key _ h1 0 (by omega) (by omega), key _ h2 (e - 1) (by omega) (by omega)⟩
    · have a2 := Int.mul_nonpos_of_nonneg_of_nonpos (show 0 ≤ e - 1 by omega) hx
      rw [show max 0 ((e - 1) * x) = 0 * x by omega, show min 0 ((e - 1) * x) = (e - 1) * x by omega]
      exact ⟨key _ h1 (e - 1) (by omega) (by omega), key _ h2 0 (by omega) (by omega)⟩
  | [], _ :: _, _, h, _ => by cases h
  | _ :: _, [], _, h, _ => by cases h

/-- the least and the greatest number of a list -/
def minL (l : List Int) : Int := l.foldl min (l.getD 0 0)
def maxL (l : List Int) : Int := l.foldl max (l.getD 0 0)
theorem foldl_min_le : ∀ (l : List Int) (a : Int), l.foldl min a ≤ a ∧ (∀ y ∈ l, l.foldl min a ≤ y) ∧ (l.foldl min a = a ∨ l.foldl min a ∈ l)
  | [], a => by simp
  | x :: l, a => by
    obtain ⟨h1, h2, h3⟩ := foldl_min_le l (min a x)
    rw [List.foldl_cons]
    refine ⟨by omega, ?_, ?_⟩
    · intro y hy
      rcases List.mem_cons.1 hy with rfl | hy
      · omega
      · exact h2 y hy
    · rcases h3 with h3 | h3
      · rcases Int.le_total a x with h | h
        · left; omega
        · right; rw [h3, Int.min_eq_right h]; exact List.mem_cons_self ..
      · right; exact List.mem_cons_of_mem _ h3
theorem foldl_max_le : ∀ (l : List Int) (a : Int), a ≤ l.foldl max a ∧ (∀ y ∈ l, y ≤ l.foldl max a) ∧ (l.foldl max a = a ∨ l.foldl max a ∈ l)
  | [], a => by simp
  | x :: l, a => by
    obtain ⟨h1, h2, h3⟩ := foldl_max_le l (max a x)
    rw [List.foldl_cons]
    refine ⟨by omega, ?_, ?_⟩
    · intro y hy
      rcases List.mem_cons.1 hy with rfl | hy
      · omega
      · exact h2 y hy
    · rcases h3 with h3 | h3
      · rcases Int.le_total x a with h | h
        · left; omega
        · right; rw [h3, Int.max_eq_right h]; exact List.mem_cons_self ..
      · right; exact List.mem_cons_of_mem _ h3
theorem minL_spec {l : List Int} (h : l ≠ []) : minL l ∈ l ∧ ∀ y ∈ l, minL l ≤ y := by
  obtain ⟨h1, h2, h3⟩ := foldl_min_le l (l.getD 0 0)
  refine ⟨?_, h2⟩
  rcases h3 with h3 | h3
  · unfold minL; rw [h3]; cases l with
    | nil => exact absurd rfl h
    | cons a l => simp
  · exact h3
theorem maxL_spec {l : List Int} (h : l ≠ []) : maxL l ∈ l ∧ ∀ y ∈ l, y ≤ maxL l := by
  obtain ⟨h1, h2, h3⟩ := foldl_max_le l (l.getD 0 0)
  refine ⟨?_, h2⟩
  rcases h3 with h3 | h3
  · unfold maxL; rw [h3]; cases l with
    | nil => exact absurd rfl h
    | cons a l => simp
  · exact h3
theorem min_lo {b : Int} {s t : List Int} (h : viewB b s t = true) (hc : countL s ≠ 0) : minL (offsL b s t) = loC b s t ∧ maxL (offsL b s t) = hiC b s t ∧ offsL b s t ≠ [] := by
  have hs := view_small h
  obtain ⟨_, hl, _⟩ := viewB_in h
  obtain ⟨h1, h2, h3, h4⟩ := hs.count
  have hp := h4 (by omega)
  obtain ⟨m1, m2⟩ := lo_hi_mem s t b hl hp
  have hle := lo_hi_le s t b hl
  rw [view_C h]
  have hne : offC b s t ≠ [] := fun h0 => by rw [h0] at m1; cases m1
  obtain ⟨a1, a2⟩ := minL_spec hne
  obtain ⟨b1, b2⟩ := maxL_spec hne
  have := hle _ a1
  have := hle _ b1
  have := a2 _ m1
  have := b2 _ m2
  exact ⟨by omega, by omega, hne⟩

end Go.Proofs.Ytpgkhjmboiepcaa

/- Plain laws on views: the cell at a rank, indices one step apart. -/
namespace Go.Proofs.Ytpgkhjmboiepcaa
open Go.RowKit
set_option linter.unusedVariables false
set_option maxRecDepth 100000

theorem offs_get {b : Int} {s t : List Int} (h : viewB b s t = true) (k : Nat) (hk : (k : Int) < countL s) : (offsL b s t).getD k 0 = dotC b (unrL s k).1 t := by
  have hs := view_small h
  obtain ⟨h1, h2, h3, h4⟩ := hs.count
  have hp := h4 (by omega)
  unfold offsL
  simp only [List.getD_eq_getElem?_getD, List.getElem?_map, List.getElem?_range (show k < (countL s).toNat by omega), Option.map_some, Option.getD_some]
  exact dotL_eq (by rw [unrL_len]; exact hs.1) ((ix_unr s hp k).small fun e he => (hs.2 e he).2) (view_mild h)
theorem offs_count {b : Int} {s t : List Int} : (offsL b s t).length = (countL s).toNat := by unfold offsL; simp

theorem dotC_set : ∀ (r t : List Int) (d : Nat) (x b : Int), d < r.length → r.length = t.length → dotC b (r.set d x) t = dotC b r t + (x - r.getD d 0) * t.getD d 0
  | [], _, d, _, _, h, _ => by simp at h
  | y :: r, [], _, _, _, _, h => by cases h
  | y :: r, q :: t, 0, x, b, _, _ => by simp [dotC, Int.sub_mul]; omega
  | y :: r, q :: t, d+1, x, b, h, hl => by
    simp only [List.set_cons_succ, dotC, List.getD_cons_succ]
    rw [dotC_set r t d x b (by simpa using h) (by simpa using hl)]; omega
theorem ix_set : ∀ (s r : List Int) (d : Nat) (x : Int), IxOf s r → d < s.length → 0 ≤ x → x < s.getD d 0 → IxOf s (r.set d x)
  | [], _, d, _, _, h, _, _ => by simp at h
  | e :: s, [], _, _, h, _, _, _ => h.elim
  | e :: s, y :: r, 0, x, h, _, h0, h1 => by simp at h1; exact ⟨⟨h0, h1⟩, h.2⟩
  | e :: s, y :: r, d+1, x, h, hd, h0, h1 => ⟨h.1, ix_set s r d x h.2 (by simpa using hd) h0 (by simpa using h1)⟩
theorem ix_get : ∀ (s r : List Int) (d : Nat), IxOf s r → d < s.length → 0 ≤ r.getD d 0 ∧ r.getD d 0 < s.getD d 0
  | [], _, d, _, h => by simp at h
  | e :: s, [], _, h, _ => h.elim
  | e :: s, y :: r, 0, h, _ => by simpa using h.1
  | e :: s, y :: r, d+1, h, hd => by simpa using ix_get s r d h.2 (by simpa using hd)

/-- the cell at the rank of an index -/
theorem offs_rank {b : Int} {s t r : List Int} (h : viewB b s t = true) (hr : IxOf s r) : (0 ≤ rankL s r ∧ rankL s r < countL s) ∧ (offsL b s t).getD (rankL s r).toNat 0 = dotC b r t := by
  have hs := view_small h
  obtain ⟨h1, h2, h3, h4⟩ := hs.count
  have hsm := hr.small fun e he => (hs.2 e he).2
  have e := rankL_eq (shape := s) (ix := r) hr.len.symm hs hsm
  obtain ⟨⟨a1, a2⟩, a3⟩ := unr_rank s r hr
  rw [e]
  rw [← h1] at a2
  refine ⟨⟨a1, a2⟩, ?_⟩
  rw [offs_get h _ (by omega), Int.toNat_of_nonneg a1, a3]
theorem dot_ix {b : Int} {s t r : List Int} (h : viewB b s t = true) (hr : IxOf s r) : dotL b r t = dotC b r t := by
  have hs := view_small h
  exact dotL_eq (by rw [hr.len]; exact hs.1) (hr.small fun e he => (hs.2 e he).2) (view_mild h)

/-- the cells of two indices that are one step apart -/
theorem offs_step {b : Int} {s t : List Int} (h : viewB b s t = true) (k : Nat) (hk : (k : Int) < countL s) (d : Nat) (hd : d < s.length) (hn : (unrL s k).1.getD d 0 ≠ 0) :
    IxOf s ((unrL s k).1.set d ((unrL s k).1.getD d 0 - 1)) ∧ (offsL b s t).getD k 0 - (offsL b s t).getD (rankL s ((unrL s k).1.set d ((unrL s k).1.getD d 0 - 1))).toNat 0 = t.getD d 0 := by
  have hs := view_small h
  obtain ⟨h1, h2, h3, h4⟩ := hs.count
  have hp := h4 (by omega)
  have hix := ix_unr s hp k
  obtain ⟨g1, g2⟩ := ix_get s _ d hix hd
  have hr := ix_set s _ d ((unrL s k).1.getD d 0 - 1) hix hd (by omega) (by omega)
  refine ⟨hr, ?_⟩
  rw [offs_get h k hk, (offs_rank h hr).2, dotC_set _ _ _ _ _ (by rw [unrL_len]; exact hd) (by rw [unrL_len]; exact (viewB_in h).2.1.symm)]
  rw [show (unrL s ↑k).1.getD d 0 - 1 - (unrL s ↑k).1.getD d 0 = -1 by omega]; omega

/-- is the list an index of the shape? -/
def ixB (s r : List Int) : Bool := decide (r.length = s.length) && (s.zip r).all fun p => decide (0 ≤ p.2) && decide (p.2 < p.1)
theorem ixB_iff : ∀ (s r : List Int), ixB s r = true ↔ IxOf s r
  | [], [] => by simp [ixB, IxOf]
  | [], x :: r => by simp [ixB, IxOf]
  | e :: s, [] => by simp [ixB, IxOf]
  | e :: s, x :: r => by
    have := ixB_iff s r
    simp only [ixB, IxOf, List.length_cons, List.zip_cons_cons, List.all_cons, Bool.and_eq_true, decide_eq_true_eq, Nat.add_right_cancel_iff] at this ⊢
    rw [← this]
    constructor
    · rintro ⟨a, b, c⟩; exact ⟨b, a, c⟩
    · rintro ⟨b, a, c⟩; exact ⟨a, b, c⟩
theorem ixB_small {s r : List Int} (h : ixB s r = true) (hs : Small s) : ∀ x ∈ r, 0 ≤ x ∧ x ≤ 60 := ((ixB_iff s r).1 h).small fun e he => (hs.2 e he).2

end Go.Proofs.Ytpgkhjmboiepcaa

/- Plain laws on views: dimensions as pairs, in any order; what makes a view one, by its least and greatest cell. -/
namespace Go.Proofs.Ytpgkhjmboiepcaa
open Go.RowKit
set_option linter.unusedVariables false
set_option maxRecDepth 100000

/-- the cells of dimensions (extent, stride) -/
def offP (b : Int) : List (Int × Int) → List Int
  | [] => [b]
  | p :: P => (List.range p.1.toNat).flatMap fun i : Nat => (offP b P).map (· + (i : Int) * p.2)
theorem offC_P : ∀ (s t : List Int) (b : Int), t.length = s.length → offC b s t = offP b (s.zip t)
  | [], [], b, _ => rfl
  | e :: s, x :: t, b, h => by rw [offC_cons, List.zip_cons_cons, offP, offC_P s t b (by simpa using h)]
  | [], _ :: _, _, h => by cases h
  | _ :: _, [], _, h => by cases h
theorem flatMap_perm {β : Type} {l : List Nat} {f g : Nat → List β} (h : ∀ i ∈ l, (f i).Perm (g i)) : (l.flatMap f).Perm (l.flatMap g) := by
  induction l with
  | nil => exact .nil
  | cons i l ih => rw [List.flatMap_cons, List.flatMap_cons]; exact (h i (List.mem_cons_self ..)).append (ih fun j hj => h j (List.mem_cons_of_mem _ hj))
theorem append_swap {β : Type} (a b c d : List β) : ((a ++ b) ++ (c ++ d)).Perm ((a ++ c) ++ (b ++ d)) := by
  rw [List.append_assoc, List.append_assoc]
  refine List.Perm.append_left a ?_
  rw [← List.append_assoc, ← List.append_assoc]
  exact List.Perm.append_right d List.perm_append_comm
theorem flatMap_append_perm {β : Type} (l : List Nat) (f g : Nat → List β) : (l.flatMap fun i => f i ++ g i).Perm (l.flatMap f ++ l.flatMap g) := by
  induction l with
  | nil => exact .nil
  | cons i l ih =>
    rw [List.flatMap_cons, List.flatMap_cons, List.flatMap_cons]
    exact (List.Perm.append_left _ ih).trans (append_swap _ _ _ _)
theorem flatMap_swap {β : Type} (l m : List Nat) (f : Nat → Nat → List β) : (l.flatMap fun i => m.flatMap fun j => f i j).Perm (m.flatMap fun j => l.flatMap fun i => f i j) := by
  induction l with
  | nil => simp
  | cons i l ih =>
    rw [List.flatMap_cons]
    refine (List.Perm.append_left _ ih).trans ?_
    simp only [List.flatMap_cons]
    exact (flatMap_append_perm m _ _).symm
theorem offP_perm {P Q : List (Int × Int)} (b : Int) (h : P.Perm Q) : (offP b P).Perm (offP b Q) := by
  induction h with
  | nil => exact .refl _
  | cons p h ih => rw [offP, offP]; exact flatMap_perm fun i _ => ih.map _
  | swap p q P =>
    simp only [offP, List.map_flatMap, List.map_map]
    refine (flatMap_swap _ _ _).trans (flatMap_perm fun i _ => flatMap_perm fun j _ => ?_)
    rw [show ((fun x => x + (j : Int) * q.2) ∘ fun x => x + (i : Int) * p.2) = ((fun x => x + (i : Int) * p.2) ∘ fun x => x + (j : Int) * q.2) by funext x; simp only [Function.comp]; omega]
  | trans _ _ ih1 ih2 => exact ih1.trans ih2

theorem perm_sum {a b : List Int} (h : a.Perm b) : a.sum = b.sum := by
  induction h with
  | nil => rfl
  | cons x h ih => simp [ih]
  | swap x y l => simp only [List.sum_cons]; omega
  | trans _ _ h1 h2 => exact h1.trans h2
/-- the least and the greatest cell, by dimensions -/
def loP (b : Int) (P : List (Int × Int)) : Int := b + (P.map fun p => min 0 ((p.1 - 1) * p.2)).sum
def hiP (b : Int) (P : List (Int × Int)) : Int := b + (P.map fun p => max 0 ((p.1 - 1) * p.2)).sum
theorem loC_P : ∀ (s t : List Int) (b : Int), t.length = s.length → loC b s t = loP b (s.zip t)
  | [], [], b, _ => by simp [loC, loP]
  | e :: s, x :: t, b, h => by
    rw [loC, loC_P s t b (by simpa using h)]
    simp only [loP, List.zip_cons_cons, List.map_cons, List.sum_cons]; omega
  | [], _ :: _, _, h => by cases h
  | _ :: _, [], _, h => by cases h
theorem hiC_P : ∀ (s t : List Int) (b : Int), t.length = s.length → hiC b s t = hiP b (s.zip t)
  | [], [], b, _ => by simp [hiC, hiP]
  | e :: s, x :: t, b, h => by
    rw [hiC, hiC_P s t b (by simpa using h)]
    simp only [hiP, List.zip_cons_cons, List.map_cons, List.sum_cons]; omega
  | [], _ :: _, _, h => by cases h
  | _ :: _, [], _, h => by cases h
theorem loP_perm {P Q : List (Int × Int)} (b : Int) (h : P.Perm Q) : loP b P = loP b Q := by unfold loP; rw [perm_sum (h.map _)]
theorem hiP_perm {P Q : List (Int × Int)} (b : Int) (h : P.Perm Q) : hiP b P = hiP b Q := by unfold hiP; rw [perm_sum (h.map _)]

/-- a view is one if its shape, strides and base are, and its least and greatest cells are cells -/
theorem viewB_lo {b : Int} {s t : List Int} (hc : countL s ≠ 0) : viewB b s t = true ↔ (shapeB s = true ∧ t.length = s.length ∧ (0 ≤ b ∧ b ≤ 60) ∧ (∀ x ∈ t, -60 ≤ x ∧ x ≤ 60)) ∧ 0 ≤ loC b s t ∧ hiC b s t ≤ 59 := by
  constructor
  · intro h
    obtain ⟨h1, h2, h3, h4, h5⟩ := viewB_in h
    refine ⟨⟨h1, h2, h3, h4⟩, ?_⟩
    have hs := Small.of h1
    obtain ⟨k1, k2, k3, k4⟩ := hs.count
    have hp := k4 (by omega)
    obtain ⟨m1, m2⟩ := lo_hi_mem s t b h2 hp
    rw [← view_C h] at m1 m2
    have := h5 _ m1
    have := h5 _ m2
    omega
  · rintro ⟨⟨h1, h2, h3, h4⟩, h5, h6⟩
    refine viewB_mk h1 h2 h3 h4 ?_
    rw [offs_C (Small.of h1) ⟨by omega, fun x hx => by have := h4 x hx; omega⟩]
    intro x hx
    have := lo_hi_le s t b h2 x hx
    omega
theorem viewB_zero {b : Int} {s t : List Int} (hc : countL s = 0) : viewB b s t = true ↔ (shapeB s = true ∧ t.length = s.length ∧ (0 ≤ b ∧ b ≤ 60) ∧ (∀ x ∈ t, -60 ≤ x ∧ x ≤ 60)) := by
  constructor
  · intro h
    obtain ⟨h1, h2, h3, h4, h5⟩ := viewB_in h
    exact ⟨h1, h2, h3, h4⟩
  · rintro ⟨h1, h2, h3, h4⟩
    exact viewB_mk h1 h2 h3 h4 (by rw [offsL_zero hc]; intro x hx; cases hx)

/-- a view whose ones are dropped -/
def dropS : List Int → List Int
  | [] => []
  | e :: s => if e = 1 then dropS s else e :: dropS s
def dropT : List Int → List Int → List Int
  | e :: s, x :: t => if e = 1 then dropT s t else x :: dropT s t
  | _, _ => []
theorem dropT_len : ∀ (s t : List Int), t.length = s.length → (dropT s t).length = (dropS s).length
  | [], [], _ => rfl
  | e :: s, x :: t, h => by
    have := dropT_len s t (by simpa using h)
    by_cases he : e = 1 <;> simp [dropS, dropT, he, this]
  | [], _ :: _, h => by cases h
  | _ :: _, [], h => by cases h
theorem dropS_len (s : List Int) : (dropS s).length ≤ s.length := by
  induction s with
  | nil => simp [dropS]
  | cons e s ih => rw [dropS]; split <;> simp <;> omega
theorem dropS_mem {s : List Int} {e : Int} (h : e ∈ dropS s) : e ∈ s ∧ e ≠ 1 := by
  induction s with
  | nil => simp [dropS] at h
  | cons x s ih =>
    rw [dropS] at h
    by_cases hx : x = 1
    · rw [if_pos hx] at h; exact ⟨List.mem_cons_of_mem _ (ih h).1, (ih h).2⟩
    · rw [if_neg hx] at h
      rcases List.mem_cons.1 h with rfl | h
      · exact ⟨List.mem_cons_self .., hx⟩
      · exact ⟨List.mem_cons_of_mem _ (ih h).1, (ih h).2⟩
theorem dropT_mem : ∀ {s t : List Int} {x : Int}, x ∈ dropT s t → x ∈ t
  | [], t, x, h => by cases t <;> simp [dropT] at h
  | e :: s, [], x, h => by simp [dropT] at h
  | e :: s, y :: t, x, h => by
    rw [dropT] at h
    by_cases he : e = 1
    · rw [if_pos he] at h; exact List.mem_cons_of_mem _ (dropT_mem h)
    · rw [if_neg he] at h
      rcases List.mem_cons.1 h with rfl | h
      · exact List.mem_cons_self ..
      · exact List.mem_cons_of_mem _ (dropT_mem h)
theorem drop_prod (s : List Int) : prodL (dropS s) = prodL s := by
  induction s with
  | nil => rfl
  | cons e s ih =>
    rw [dropS, prodL_cons]
    by_cases he : e = 1
    · rw [if_pos he, ih, he]; omega
    · rw [if_neg he, prodL_cons, ih]
theorem drop_off : ∀ (s t : List Int) (b : Int), t.length = s.length → offC b (dropS s) (dropT s t) = offC b s t
  | [], [], b, _ => rfl
  | e :: s, x :: t, b, h => by
    have ih := drop_off s t b (by simpa using h)
    by_cases he : e = 1
    · rw [dropS, dropT, if_pos he, if_pos he, ih, offC_cons, he]
      simp [List.range_succ]
    · rw [dropS, dropT, if_neg he, if_neg he, offC_cons, offC_cons, ih]
  | [], _ :: _, _, h => by cases h
  | _ :: _, [], _, h => by cases h
theorem drop_none : ∀ (s t : List Int), (∀ e ∈ s, e ≠ 1) → t.length = s.length → dropS s = s ∧ dropT s t = t
  | [], [], _, _ => ⟨rfl, rfl⟩
  | e :: s, x :: t, h, hl => by
    obtain ⟨h1, h2⟩ := drop_none s t (fun q hq => h q (List.mem_cons_of_mem _ hq)) (by simpa using hl)
    have he := h e (List.mem_cons_self ..)
    rw [dropS, dropT, if_neg he, if_neg he, h1, h2]; exact ⟨rfl, rfl⟩
  | [], _ :: _, _, h => by cases h
  | _ :: _, [], _, h => by cases h
theorem drop_small {s : List Int} (h : Small s) : Small (dropS s) := ⟨Nat.le_trans (dropS_len s) h.1, fun e he => h.2 e (dropS_mem he).1⟩
theorem shapeB_mk {s : List Int} (h : Small s) (hc : countL s ≤ 60) : shapeB s = true := by
  unfold shapeB
  rw [decide_eq_true h.1, decide_eq_true hc]
  simp only [Bool.true_and, Bool.and_true, List.all_eq_true]
  intro e he; have := h.2 e he; simp [inB]; omega
theorem drop_view {b : Int} {s t : List Int} (h : viewB b s t = true) : viewB b (dropS s) (dropT s t) = true ∧ offsL b (dropS s) (dropT s t) = offsL b s t := by
  obtain ⟨h1, h2, h3, h4, h5⟩ := viewB_in h
  have hs := Small.of h1
  have hd := drop_small hs
  have hm : Mild b (dropT s t) := ⟨(view_mild h).1, fun x hx => (view_mild h).2 x (dropT_mem hx)⟩
  have ho : offsL b (dropS s) (dropT s t) = offsL b s t := by rw [offs_C hd hm, view_C h, drop_off s t b h2]
  refine ⟨viewB_mk (shapeB_mk hd ?_) (dropT_len s t h2) h3 (fun x hx => h4 x (dropT_mem hx)) (by rw [ho]; exact h5), ho⟩
  rw [hd.count.1, drop_prod, ← hs.count.1]; exact (shapeB_in h1).2.2.2.1

end Go.Proofs.Ytpgkhjmboiepcaa

/- Walks: MeetRanges of the program and of the reference. -/
namespace Go.Proofs.Ytpgkhjmboiepcaa
open Go.RowKit
set_option linter.unusedVariables false
set_option maxRecDepth 100000

def meetR (a1 e1 d1 a2 e2 d2 : Int) : List Int := meetL (ascL (numL a1 e1 d1)) (numL a2 e2 d2)
def meetT (a1 e1 d1 a2 e2 d2 : Int) : Int × Int × Int := if rangeB a1 e1 d1 && rangeB a2 e2 d2 then normL (meetR a1 e1 d1 a2 e2 d2) else (0, 0, 0)
theorem meetR_in {a1 e1 d1 a2 e2 d2 : Int} (h : rangeB a1 e1 d1 = true) : ∀ x ∈ meetR a1 e1 d1 a2 e2 d2, -1000000 ≤ x ∧ x ≤ 1000000 := by
  intro x hx
  obtain ⟨h1, h2, h3, h4⟩ := rangeB_in h
  have hm := ((ascL_num (a := a1) (b := e1) h4).2 x).1 (List.mem_filter.1 hx).1
  have := numL_in h4 hm
  omega

end Go.Proofs.Ytpgkhjmboiepcaa

/- Walks: what is asked of ranges: lengths, numbers, places, covers. -/
namespace Go.Proofs.Ytpgkhjmboiepcaa
open Go.RowKit
set_option linter.unusedVariables false
set_option maxRecDepth 100000

def rlenA (a e d : Int) : Int := if rangeB a e d then (cntL a e d : Int) else -1
def rnumA (a e d : Int) : List Int := if rangeB a e d then numL a e d else []
def rplaceA (a e d x : Int) : Int := if rangeB a e d then Lib.idxOf (numL a e d) x else -1
def rcovB (a1 e1 d1 a2 e2 d2 : Int) : Bool := rangeB a1 e1 d1 && (rangeB a2 e2 d2 && (numL a2 e2 d2).all fun x => (numL a1 e1 d1).contains x)

theorem any_all (ys : List Int) (xs : List Int) : (!ys.any fun x => !hasB xs x) = ys.all fun x => xs.contains x := by
  rw [List.not_any_eq_all_not]; simp [hasB]

theorem common_all (ys xs : List Int) : ((meetL ys xs).length == ys.length) = ys.all fun x => xs.contains x := by
  unfold meetL
  rw [Bool.eq_iff_iff, beq_iff_eq, List.length_filter_eq_length_iff]
  simp

end Go.Proofs.Ytpgkhjmboiepcaa

/- Walks: slices of the reference: valid ones, ends, indices, and what a slice takes of a range. -/
namespace Go.Proofs.Ytpgkhjmboiepcaa
open Go.RowKit
set_option linter.unusedVariables false
set_option maxRecDepth 100000

def sliceB (F T B : Int) (hf ht : Bool) : Bool := inB (-100) 100 F && (inB (-100) 100 T && (inB (-200) 200 B && (!(B == 0) && ((hf || F == 0) && (ht || T == 0)))))
theorem sliceB_in {F T B : Int} {hf ht : Bool} (h : sliceB F T B hf ht = true) : (-100 ≤ F ∧ F ≤ 100) ∧ (-100 ≤ T ∧ T ≤ 100) ∧ (-200 ≤ B ∧ B ≤ 200) ∧ B ≠ 0 := by
  simp only [sliceB, inB, Bool.and_eq_true, decide_eq_true_eq, Bool.not_eq_true', beq_eq_false_iff_ne] at h
  exact ⟨h.1, h.2.1, h.2.2.1, h.2.2.2.1⟩
/-- an end of a slice that is given -/
def boundI (n x b : Int) : Int := min (if b < 0 then n - 1 else n) (max (if b < 0 then -1 else 0) (if x < 0 then x + n else x))
def fromI (n F B : Int) (hf : Bool) : Int := if hf then boundI n F B else if B < 0 then n - 1 else 0
def toI (n T B : Int) (ht : Bool) : Int := if ht then boundI n T B else if B < 0 then -1 else n
/-- the indices that a slice takes of n -/
def idxS (n F T B : Int) (hf ht : Bool) : List Int := numL (fromI n F B hf) (toI n T B ht) B
theorem boundI_in {n x b : Int} (hn : 0 ≤ n) : (-1 ≤ boundI n x b ∧ boundI n x b ≤ n) ∧ (b < 0 → boundI n x b ≤ n - 1) ∧ (0 ≤ b → 0 ≤ boundI n x b) := by unfold boundI; split <;> split <;> omega
theorem fromI_in {n F B : Int} {hf : Bool} (hn : 0 ≤ n) : (-1 ≤ fromI n F B hf ∧ fromI n F B hf ≤ n) ∧ (B < 0 → fromI n F B hf ≤ n - 1) ∧ (0 ≤ B → 0 ≤ fromI n F B hf) := by
  have := boundI_in (n := n) (x := F) (b := B) hn
  unfold fromI; split
  · exact this
  · split <;> omega
theorem toI_in {n T B : Int} {ht : Bool} (hn : 0 ≤ n) : (-1 ≤ toI n T B ht ∧ toI n T B ht ≤ n) := by
  have := boundI_in (n := n) (x := T) (b := B) hn
  unfold toI; split
  · exact this.1
  · split <;> omega
theorem idxS_in {n F T B : Int} {hf ht : Bool} (hn : 0 ≤ n) (hB : B ≠ 0) : ∀ i ∈ idxS n F T B hf ht, 0 ≤ i ∧ i < n := by
  intro i hi
  have h1 := fromI_in (n := n) (F := F) (B := B) (hf := hf) hn
  have h2 := toI_in (n := n) (T := T) (B := B) (ht := ht) hn
  have h3 := numL_in hB hi
  omega
theorem ret_i {x y : Int} (h : x = y) : Ending.returned (.int .i64 x) = .returned (.int .i64 y) := by rw [h]

set_option maxHeartbeats 1600000 in
theorem bound_c (n x b : Int) (w : World) (hn : 0 ≤ n ∧ n ≤ 1000) (hx : -1000 ≤ x ∧ x ≤ 1000) :
    Calls Try.prog 161 #[.int .i64 n, .int .i64 x, .int .i64 b] w fun e w' => e = .returned (.int .i64 (boundI n x b)) ∧ w = w' := by
  obtain ⟨n0, n1⟩ := hn
  obtain ⟨x0, x1⟩ := hx
  by_cases hb : b < 0
  · by_cases hx0 : x < 0
    all_goals
      go_enter Try.func161, Try.ntmps161
      go_wp2_with fail
      go_ret
      exact ⟨ret_i (by unfold boundI; (repeat' split) <;> omega), rfl⟩
  · by_cases hx0 : x < 0
    all_goals
      go_enter Try.func161, Try.ntmps161
      go_wp2_with fail
      go_ret
      exact ⟨ret_i (by unfold boundI; (repeat' split) <;> omega), rfl⟩

set_option maxHeartbeats 3200000 in
theorem validSlice_c (F T B : Int) (hf ht : Bool) (w : World) :
    Calls Try.prog 145 #[.agg #[.int .i64 F, .int .i64 T, .int .i64 B, .bool hf, .bool ht]] w fun e w' => e = .returned (.bool (sliceB F T B hf ht)) ∧ Ext w w' := by
  unfold sliceB
  cases h1 : inB (-100) 100 F
  · go_enter Try.func145, Try.ntmps145
    go_wp2_with (go_at_call 57; refine (inRange_c _ _ _ _).mono ?_; rintro e w' ⟨rfl, rfl⟩)
    go_ret
    exact ⟨rfl, qXo⟩
  · cases h2 : inB (-100) 100 T
    · go_enter Try.func145, Try.ntmps145
      go_wp2_with (go_at_call 57; refine (inRange_c _ _ _ _).mono ?_; rintro e w' ⟨rfl, rfl⟩)
      go_ret
      exact ⟨rfl, qXo⟩
    · cases h3 : inB (-200) 200 B
      · go_enter Try.func145, Try.ntmps145
        go_wp2_with (go_at_call 57; refine (inRange_c _ _ _ _).mono ?_; rintro e w' ⟨rfl, rfl⟩)
        go_ret
        exact ⟨rfl, qXo⟩
      · cases h4 : (B == 0)
        · have h5 : (B != 0) = true := by simpa using h4
          cases hf
          · cases h6 : (F == 0)
            · cases ht
              all_goals
                go_enter Try.func145, Try.ntmps145
                go_wp2_with (go_at_call 57; refine (inRange_c _ _ _ _).mono ?_; rintro e w' ⟨rfl, rfl⟩)
                go_ret
                exact ⟨rfl, qXo⟩
            · cases ht
              · cases h7 : (T == 0)
                all_goals
                  go_enter Try.func145, Try.ntmps145
                  go_wp2_with (go_at_call 57; refine (inRange_c _ _ _ _).mono ?_; rintro e w' ⟨rfl, rfl⟩)
                  go_ret
                  exact ⟨rfl, qXo⟩
              · go_enter Try.func145, Try.ntmps145
                go_wp2_with (go_at_call 57; refine (inRange_c _ _ _ _).mono ?_; rintro e w' ⟨rfl, rfl⟩)
                go_ret
                exact ⟨rfl, qXo⟩
          · cases ht
            · cases h7 : (T == 0)
              all_goals
                go_enter Try.func145, Try.ntmps145
                go_wp2_with (go_at_call 57; refine (inRange_c _ _ _ _).mono ?_; rintro e w' ⟨rfl, rfl⟩)
                go_ret
                exact ⟨rfl, qXo⟩
            · go_enter Try.func145, Try.ntmps145
              go_wp2_with (go_at_call 57; refine (inRange_c _ _ _ _).mono ?_; rintro e w' ⟨rfl, rfl⟩)
              go_ret
              exact ⟨rfl, qXo⟩
        · have h5 : (B != 0) = false := by simpa using h4
          go_enter Try.func145, Try.ntmps145
          go_wp2_with (go_at_call 57; refine (inRange_c _ _ _ _).mono ?_; rintro e w' ⟨rfl, rfl⟩)
          go_ret
          exact ⟨rfl, qXo⟩

set_option maxHeartbeats 3200000 in
theorem indices_c (n F T B : Int) (hf ht : Bool) (w : World) (hn : 0 ≤ n ∧ n ≤ 200) (hs : sliceB F T B hf ht = true) :
    Calls Try.prog 156 #[.int .i64 n, .agg #[.int .i64 F, .int .i64 T, .int .i64 B, .bool hf, .bool ht]] w (PInts w (idxS n F T B hf ht)) := by
  have hi := sliceB_in hs
  have hF := fromI_in (n := n) (F := F) (B := B) (hf := hf) hn.1
  have hT := toI_in (n := n) (T := T) (B := B) (ht := ht) hn.1
  have hB0 := hi.2.2.2
  have hnum := Lib.hid (fun W => numbers_c (fromI n F B hf) (toI n T B ht) B W (by omega) (by omega) (by omega) hB0)
  obtain ⟨⟨F0, F1⟩, ⟨T0, T1⟩, ⟨B0, B1⟩, -⟩ := hi
  obtain ⟨n0, n1⟩ := hn
  unfold idxS
  clear hs hF hT hB0
  unfold fromI toI at hnum ⊢
  cases hf <;> cases ht <;> by_cases hb : B < 0
  all_goals
    simp only [hb, if_true, if_false, Bool.false_eq_true] at hnum ⊢
    go_enter Try.func156, Try.ntmps156
    go_wp2_with (go_at_call 161; refine (bound_c _ _ _ _ (by omega) (by omega)).mono ?_; rintro e w' ⟨rfl, rfl⟩)
    refine (hnum.out _).mono ?_
    rintro e w1 ⟨v1, rfl, i1, o1, x1⟩
    go_wp2_with fail
    go_ret
    exact PInts.of o1 i1 (Ext.size (show Ext w _ from qXo)) (Ext.trans qXo x1)

end Go.Proofs.Ytpgkhjmboiepcaa

/- Plain laws: numbers in a row and their normal range; a view of some indices of a dimension. -/
namespace Go.Proofs.Ytpgkhjmboiepcaa
open Go.RowKit
set_option linter.unusedVariables false
set_option maxRecDepth 100000

theorem cnt_of {a b s : Int} (hs : s ≠ 0) {n : Nat} (h : ∀ k : Nat, (0 < s ∧ a + k * s < b ∨ s < 0 ∧ b < a + k * s) ↔ k < n) : cntL a b s = n := by
  have h1 := fun k => (num_step (a := a) (b := b) hs k).symm.trans (h k)
  rcases Nat.lt_trichotomy (cntL a b s) n with h2 | h2 | h2
  · have := (h1 (cntL a b s)).2 h2; omega
  · exact h2
  · have := (h1 n).1 h2; omega
theorem numL_two {a b s : Int} {m : Nat} (hn : cntL a b s = m + 2) : numL a b s = a :: (a + s) :: (List.range m).map fun k : Nat => a + ((k + 2 : Nat) : Int) * s := by
  unfold numL
  rw [hn, show m + 2 = 2 + m by omega, List.range_add, List.map_append, List.map_map]
  simp only [List.range_succ, List.range_zero, List.nil_append, List.cons_append, List.map_cons, List.map_nil]
  refine congr (congrArg _ (by simp)) (congr (congrArg _ (by simp)) ?_)
  refine List.map_congr_left fun k _ => ?_
  simp only [Function.comp]; rw [Nat.add_comm 2 k]
/-- the normal range of numbers in a row has these numbers -/
theorem norm_numL {a b s : Int} (hs : s ≠ 0) : numL (normL (numL a b s)).1 (normL (numL a b s)).2.1 (normL (numL a b s)).2.2 = numL a b s := by
  generalize hn : cntL a b s = n
  match n, hn with
  | 0, hn =>
    have : numL a b s = [] := by unfold numL; rw [hn]; rfl
    rw [this]; rfl
  | 1, hn =>
    have : numL a b s = [a] := by unfold numL; rw [hn]; simp [List.range_succ]
    rw [this]
    show numL a (a + 1) 1 = [a]
    have h2 : cntL a (a + 1) 1 = 1 := cnt_of (by omega) fun k => by omega
    unfold numL; rw [h2]; simp [List.range_succ]
  | m + 2, hn =>
    have e := numL_two hn
    have hl : ((a + s) :: (List.range m).map fun k : Nat => a + ((k + 2 : Nat) : Int) * s).getLast (by simp) = a + ((m + 1 : Nat) : Int) * s := by
      cases m with
      | zero => simp
      | succ m => rw [List.getLast_cons (by simp)]; simp [List.range_succ]; rw [show (m : Int) + 2 = m + 1 + 1 by omega]
    have hst : normL (numL a b s) = (a, if s < 0 then a + ((m + 1 : Nat) : Int) * s - 1 else a + ((m + 1 : Nat) : Int) * s + 1, s) := by
      rw [e, normL, hl, show a + s - a = s by omega]
    rw [hst]
    simp only
    have hc : cntL a (if s < 0 then a + ((m + 1 : Nat) : Int) * s - 1 else a + ((m + 1 : Nat) : Int) * s + 1) s = m + 2 := by
      refine cnt_of hs fun k => ?_
      have hd : ((m + 1 : Nat) : Int) * s - (k : Int) * s = (((m + 1 : Nat) : Int) - k) * s := by rw [Int.sub_mul]
      by_cases hk : k < m + 2
      · have : 0 ≤ ((m + 1 : Nat) : Int) - k := by omega
        rcases Int.lt_or_gt_of_ne hs with h | h
        · have := Int.mul_nonpos_of_nonneg_of_nonpos this (show s ≤ 0 by omega)
          rw [if_pos h]; constructor
          · intro _; exact hk
          · intro _; right; omega
        · have := Int.mul_nonneg this (show 0 ≤ s by omega)
          rw [if_neg (by omega)]; constructor
          · intro _; exact hk
          · intro _; left; omega
      · have h1 : ((m + 1 : Nat) : Int) - k ≤ -1 := by omega
        rcases Int.lt_or_gt_of_ne hs with h | h
        · have := Int.mul_le_mul_of_nonpos_right h1 (show s ≤ 0 by omega)
          rw [if_pos h]; constructor
          · intro h; omega
          · intro h; omega
        · have := Int.mul_le_mul_of_nonneg_right h1 (show 0 ≤ s by omega)
          rw [if_neg (by omega)]; constructor
          · intro h; omega
          · intro h; omega
    have hn2 : numL a b s = (List.range (m + 2)).map fun k : Nat => a + k * s := by unfold numL; rw [hn]
    rw [hn2]
    unfold numL; rw [hc]

/-- the facts of a row of numbers that cutDim asks -/
theorem norm_two {a b s : Int} (hs : s ≠ 0) : ((numL a b s).length ≠ 0 → (normL (numL a b s)).1 = a) ∧ ((numL a b s).length = 0 → (normL (numL a b s)).1 = 0) ∧ (2 ≤ (numL a b s).length → (normL (numL a b s)).2.2 = s) := by
  rw [numL_len]
  generalize hn : cntL a b s = n
  match n, hn with
  | 0, hn =>
    have : numL a b s = [] := by unfold numL; rw [hn]; rfl
    rw [this]; exact ⟨fun h => absurd rfl h, fun _ => rfl, fun h => by omega⟩
  | 1, hn =>
    have : numL a b s = [a] := by unfold numL; rw [hn]; simp [List.range_succ]
    rw [this]; exact ⟨fun _ => rfl, fun h => by omega, fun h => by omega⟩
  | m + 2, hn =>
    have e := numL_two hn
    rw [e]; exact ⟨fun _ => rfl, fun h => by omega, fun _ => by show a + s - a = s; omega⟩

theorem prodL_set (s : List Int) (d : Nat) (x : Int) (hd : d < s.length) : prodL (s.set d x) = prodL (s.take d) * (x * prodL (s.drop (d+1))) := by
  have := prodL_split (s.set d x) d (by simpa using hd)
  rw [this, List.getElem_set_self, List.take_set_of_le (Nat.le_refl d), List.drop_set_of_lt (Nat.lt_succ_self d)]

/-- indices of a view whose dimension d has other indices: the cell is the cell of that index -/
theorem ix_at : ∀ (s r : List Int) (d : Nat) (n : Int), IxOf (s.set d n) r → d < s.length → ∀ x, 0 ≤ x → x < s.getD d 0 → IxOf s (r.set d x)
  | [], _, d, _, _, h, _, _, _ => by simp at h
  | e :: s, [], 0, n, h, _, _, _, _ => h.elim
  | e :: s, [], d+1, n, h, _, _, _, _ => h.elim
  | e :: s, y :: r, 0, n, h, _, x, h0, h1 => ⟨⟨h0, by simpa using h1⟩, h.2⟩
  | e :: s, y :: r, d+1, n, h, hd, x, h0, h1 => ⟨h.1, ix_at s r d n h.2 (by simpa using hd) x h0 (by simpa using h1)⟩
theorem dotC_cut : ∀ (r t : List Int) (d : Nat) (b c x y : Int), d < r.length → r.length = t.length → c + r.getD d 0 * x = y * t.getD d 0 → dotC (b + c) r (t.set d x) = dotC b (r.set d y) t
  | [], _, d, _, _, _, _, h, _, _ => by simp at h
  | q :: r, [], _, _, _, _, _, _, h, _ => by cases h
  | q :: r, u :: t, 0, b, c, x, y, _, _, h => by
    simp only [List.getD_cons_zero, List.set_cons_zero, dotC] at h ⊢
    rw [dotC_add]; omega
  | q :: r, u :: t, d+1, b, c, x, y, hd, hl, h => by
    simp only [List.getD_cons_succ, List.set_cons_succ, dotC] at h ⊢
    rw [dotC_cut r t d b c x y (by simpa using hd) (by simpa using hl) h]
/-- a view of some indices of dimension d (numbers L0, L0 + q, .. of them n): its cells are cells of the view -/
theorem cut_mem {b : Int} {s t : List Int} {d : Nat} {L0 q : Int} {n : Nat} (hl : t.length = s.length) (hd : d < s.length) (hn : ∀ i : Nat, i < n → 0 ≤ L0 + i * q ∧ L0 + i * q < s.getD d 0) :
    ∀ y ∈ offC (b + L0 * t.getD d 0) (s.set d n) (t.set d (q * t.getD d 0)), y ∈ offC b s t := by
  intro y hy
  unfold offC at hy ⊢
  rw [List.mem_map] at hy ⊢
  obtain ⟨r, hr, rfl⟩ := hy
  have hix := (mem_idxR _ _).1 hr
  have hrl : r.length = s.length := by have := hix.len; simpa using this
  obtain ⟨g0, g1⟩ := ix_get _ _ d hix (by simpa using hd)
  have hset : (s.set d (n : Int)).getD d 0 = n := by simp [hd]
  rw [hset] at g1
  obtain ⟨i, hi⟩ : ∃ i : Nat, r.getD d 0 = i := ⟨(r.getD d 0).toNat, by omega⟩
  have hin := hn i (by omega)
  refine ⟨r.set d (L0 + i * q), (mem_idxR _ _).2 (ix_at s r d n hix hd _ hin.1 hin.2), ?_⟩
  refine (dotC_cut r t d b _ _ _ (by omega) (by omega) ?_).symm
  rw [hi, Int.add_mul, Int.mul_assoc]

theorem dotC_zero : ∀ (n : Nat) (t : List Int) (b : Int), dotC b (List.replicate n 0) t = b
  | 0, t, b => by cases t <;> rfl
  | n+1, [], b => rfl
  | n+1, x :: t, b => by rw [List.replicate_succ, dotC, dotC_zero n t b]; omega
theorem ix_zero : ∀ (s : List Int), (∀ e ∈ s, 1 ≤ e) → IxOf s (List.replicate s.length 0)
  | [], _ => trivial
  | e :: s, h => ⟨by have := h e (List.mem_cons_self ..); omega, ix_zero s fun q hq => h q (List.mem_cons_of_mem _ hq)⟩
theorem off_zero {s t : List Int} (b : Int) (h : ∀ e ∈ s, 1 ≤ e) : b ∈ offC b s t := by
  unfold offC; rw [List.mem_map]
  exact ⟨_, (mem_idxR _ _).2 (ix_zero s h), dotC_zero _ _ _⟩
theorem off_unit {s t : List Int} (b : Int) (h : ∀ e ∈ s, 1 ≤ e) (hl : t.length = s.length) (d : Nat) (hd : d < s.length) (h2 : 2 ≤ s.getD d 0) : b + t.getD d 0 ∈ offC b s t := by
  unfold offC; rw [List.mem_map]
  refine ⟨(List.replicate s.length 0).set d 1, (mem_idxR _ _).2 (ix_set s _ d 1 (ix_zero s h) hd (by omega) (by omega)), ?_⟩
  rw [dotC_set _ _ _ _ _ (by simpa using hd) (by simp [hl]), dotC_zero]
  simp [hd]

theorem small_set {s : List Int} (h : Small s) (d : Nat) {x : Int} (hx : 0 ≤ x ∧ x ≤ 60) : Small (s.set d x) :=
  ⟨by rw [List.length_set]; exact h.1, fun e he => by
    rcases List.mem_or_eq_of_mem_set he with h' | h'
    · exact h.2 e h'
    · rw [h']; exact hx⟩
theorem count_set_le {s : List Int} (h : Small s) (d : Nat) (hd : d < s.length) {x : Int} (hx : 0 ≤ x ∧ x ≤ s.getD d 0) : countL (s.set d x) ≤ countL s := by
  have he := h.2 (s.getD d 0) (by simp [hd])
  have hs' := small_set h d (x := x) (by omega)
  rw [hs'.count.1, h.count.1, prodL_set s d x hd, prodL_split s d hd]
  have a1 : 0 ≤ prodL (s.take d) := prodL_nonneg fun e he => (h.2 e (List.mem_of_mem_take he)).1
  have a2 : 0 ≤ prodL (s.drop (d+1)) := prodL_nonneg fun e he => (h.2 e (List.mem_of_mem_drop he)).1
  refine Int.mul_le_mul_of_nonneg_left (Int.mul_le_mul_of_nonneg_right ?_ a2) a1
  have : s.getD d 0 = s[d] := by simp [hd]
  omega
theorem getD_mem {s : List Int} {d : Nat} (hd : d < s.length) : s.getD d 0 ∈ s := by
  have : s.getD d 0 = s[d] := by simp [hd]
  rw [this]; exact List.getElem_mem hd

/-- what cutDim gives: base, shape, strides -/
def cutB (b : Int) (s t : List Int) (d : Nat) (L : List Int) : Int := tidyB (b + (normL L).1 * t.getD d 0) (s.set d L.length)
def cutS (s : List Int) (d : Nat) (L : List Int) : List Int := s.set d L.length
def cutT (s t : List Int) (d : Nat) (L : List Int) : List Int := tidyT (s.set d L.length) (t.set d (if L.length ≤ 1 then 0 else (normL L).2.2 * t.getD d 0))

/-- some numbers in a row within n: no more than n of them -/
theorem num_len_le {a e q n : Int} (hq : q ≠ 0) (h : ∀ i ∈ numL a e q, 0 ≤ i ∧ i < n) : ((numL a e q).length : Int) ≤ n ∨ (numL a e q).length = 0 := by
  rw [numL_len]
  generalize hc : cntL a e q = m
  match m, hc with
  | 0, _ => right; rfl
  | m+1, hc =>
    left
    have g0 := h a (by unfold numL; rw [hc, List.mem_map]; exact ⟨0, by simp, by simp⟩)
    have g1 := h (a + (m : Int) * q) (by unfold numL; rw [hc, List.mem_map]; exact ⟨m, by simp, rfl⟩)
    rcases Int.lt_or_gt_of_ne hq with h' | h'
    · have := Int.mul_le_mul_of_nonneg_left (show q ≤ -1 by omega) (show (0 : Int) ≤ (m : Int) by omega)
      omega
    · have := Int.mul_le_mul_of_nonneg_left (show 1 ≤ q by omega) (show (0 : Int) ≤ (m : Int) by omega)
      omega

theorem cut_view {b : Int} {s t : List Int} {d : Nat} {a e q : Int} (h : viewB b s t = true) (hd : d < s.length) (hq : q ≠ 0) (hL : ∀ i ∈ numL a e q, 0 ≤ i ∧ i < s.getD d 0) :
    viewB (cutB b s t d (numL a e q)) (cutS s d (numL a e q)) (cutT s t d (numL a e q)) = true ∧ ((numL a e q).length : Int) ≤ 60 := by
  obtain ⟨h1, h2, h3, h4, h5⟩ := viewB_in h
  have hs := Small.of h1
  have he := hs.2 _ (getD_mem hd)
  have hlen : 0 ≤ ((numL a e q).length : Int) ∧ ((numL a e q).length : Int) ≤ s.getD d 0 := by
    rcases num_len_le hq hL with h' | h' <;> omega
  obtain ⟨n1, n2, n3⟩ := norm_two (a := a) (b := e) hq
  have hsm := small_set hs d (x := ((numL a e q).length : Int)) (by omega)
  have hcle := count_set_le hs d hd hlen
  have hc60 := (shapeB_in h1).2.2.2.1
  have hsh := shapeB_mk hsm (by omega)
  refine ⟨?_, by omega⟩
  unfold cutB cutS cutT tidyB tidyT
  by_cases hc : countL (s.set d ((numL a e q).length : Int)) = 0
  · rw [if_pos hc, if_pos hc]
    refine (viewB_zero hc).2 ⟨hsh, by simp, by omega, fun x hx => ?_⟩
    have := List.eq_of_mem_replicate hx; omega
  · rw [if_neg hc, if_neg hc]
    obtain ⟨k1, k2, k3, k4⟩ := hsm.count
    have hp := k4 (by omega)
    have hn0 : (numL a e q).length ≠ 0 := by
      intro h0
      have := hp ((numL a e q).length : Int) (by rw [List.mem_iff_getElem]; exact ⟨d, by simpa using hd, by simp⟩)
      omega
    rw [n1 hn0]
    -- the cells are cells of the view
    have key : ∀ y ∈ offC (b + a * t.getD d 0) (s.set d ((numL a e q).length : Int)) (t.set d (if (numL a e q).length ≤ 1 then 0 else (normL (numL a e q)).2.2 * t.getD d 0)), 0 ≤ y ∧ y ≤ 59 := by
      intro y hy
      have hget : ∀ i : Nat, i < (numL a e q).length → 0 ≤ a + i * q ∧ a + i * q < s.getD d 0 := fun i hi => by
        have := hL ((numL a e q)[i]) (List.getElem_mem hi)
        rwa [numL_get] at this
      have hy' : y ∈ offC b s t := by
        by_cases hle : (numL a e q).length ≤ 1
        · rw [if_pos hle] at hy
          refine cut_mem (L0 := a) (q := 0) (n := (numL a e q).length) h2 hd (fun i hi => ?_) y (by rw [Int.zero_mul]; exact hy)
          have := hget i hi
          obtain rfl : i = 0 := by omega
          omega
        · rw [if_neg hle, n3 (by omega)] at hy
          exact cut_mem (L0 := a) (q := q) (n := (numL a e q).length) h2 hd hget y hy
      rw [← view_C h] at hy'
      exact h5 y hy'
    have hb := key _ (off_zero _ hp)
    refine viewB_mk hsh (by simp [h2]) (by omega) (fun x hx => ?_) ?_
    · rcases List.mem_or_eq_of_mem_set hx with h' | h'
      · exact h4 x h'
      · by_cases hle : (numL a e q).length ≤ 1
        · rw [if_pos hle] at h'; omega
        · have hu := key _ (off_unit _ hp (by simp [h2]) d (by simpa using hd) (by simp [hd]; omega))
          simp only [List.getD_eq_getElem?_getD, List.getElem?_set_self (show d < t.length by omega), Option.getD_some] at hu
          simp only [List.getD_eq_getElem?_getD] at h' hb hu
          omega
    · rw [offs_C hsm ⟨by omega, fun x hx => ?_⟩]
      · exact key
      · rcases List.mem_or_eq_of_mem_set hx with h' | h'
        · have := h4 x h'; omega
        · by_cases hle : (numL a e q).length ≤ 1
          · rw [if_pos hle] at h'; omega
          · have hu := key _ (off_unit _ hp (by simp [h2]) d (by simpa using hd) (by simp [hd]; omega))
            simp only [List.getD_eq_getElem?_getD, List.getElem?_set_self (show d < t.length by omega), Option.getD_some] at hu
            simp only [List.getD_eq_getElem?_getD] at h' hb hu
            omega

/-- where an element lies -/
theorem Ints.at {w : World} {lo : Nat} {a : Option Addr} {n c : Nat} {xs : List Int} (h : Ints w lo (.slice a n c) xs) (i : Nat) (hi : i < xs.length) : ∃ b off, a = some ⟨b, off, none⟩ ∧ w.cell? ⟨b, off + i, none⟩ = some (.int .i64 (xs.getD i 0)) := by
  obtain ⟨a', cap, hv, h1, h2, h3, h4⟩ := h
  cases hv
  obtain ⟨b, off, ha, hb, hc, hf⟩ := h4 i hi
  exact ⟨b, off, ha, hc⟩

end Go.Proofs.Ytpgkhjmboiepcaa

/- A region that draws its order, shown once for every order: each operation is shown at whatever world may stand when it comes up, from what those told that it waits for; what each tells must last. No condition. -/
namespace Go.Proofs.Ytpgkhjmboiepcaa.RG
open Go
set_option linter.unusedVariables false
section
variable {P : Program} {ops : Array Oper} {md : Region.Mode}

def dst (ops : Array Oper) (i : Nat) : Option Tmp := (ops[i]?).bind (·.dst)
/-- the operations that i waits for -/
def direct (md : Region.Mode) (ops : Array Oper) (i : Nat) : List Nat := match ops[i]? with | some o => (o.after.toList.filter (Region.binds md)).map (·.on) | none => []
def addTo (l : List Nat) : List Nat → List Nat
 | [] => l
 | x :: r => addTo (if l.contains x then l else l ++ [x]) r
/-- all that i waits for, through others too -/
def closures (md : Region.Mode) (ops : Array Oper) : Nat → List (List Nat)
 | 0 => []
 | n + 1 => let c := closures md ops n; c ++ [(direct md ops n).foldl (fun l d => addTo (addTo l [d]) (c.getD d [])) []]
def owner (ops : Array Oper) (n : Nat) (t : Tmp) : Option Nat := (List.range n).find? fun j => dst ops j == some t

/-- the operations from n on come up in their own order, behind all others -/
def tailB (md : Region.Mode) (ops : Array Oper) (n : Nat) : Bool :=
 decide (n < ops.size) && Region.sinkB md ops n && Region.chainB md ops n && Region.seqB md ops (ops.size - n) n ((List.range ops.size).map fun i => decide (i < n)).toArray
def okB (md : Region.Mode) (ops : Array Oper) (n : Nat) (C : List (List Nat)) : Bool :=
 Region.noSelect ops && decide (n ≤ ops.size) && ((List.range ops.size).all fun i => (direct md ops i).all fun d => decide (d < i)) &&
 ((List.range n).all fun i => (match dst ops i with | some t => owner ops n t == some i | none => true) &&
  ((C.getD i []).all fun j => decide (j < i) && ((direct md ops i).contains j || (direct md ops i).any fun d => (C.getD d []).contains j)) &&
  (match ops[i]? with | some o => (o.looksAt ops).all fun t => (match owner ops n t with | some j => (C.getD i []).contains j | none => true) | none => true))

def putAll (ops : Array Oper) (v : Nat → Value) : List Nat → Act → Act
 | [], a => a
 | i :: r, a => putAll ops v r (a.put (dst ops i) (v i))

theorem owner_some {n : Nat} {t : Tmp} {j : Nat} (h : owner ops n t = some j) : j < n ∧ dst ops j = some t := by
 have h1 := List.mem_of_find?_eq_some h
 have h2 := List.find?_some h
 exact ⟨List.mem_range.1 h1, by simpa using h2⟩

/-- where the frame stands when the listed ones have come up -/
structure At (ops : Array Oper) (n : Nat) (listed : Array Bool) (v : Nat → Value) (a0 a : Act) : Prop where
 defers : a.defers = a0.defers
 size : a.tmps.size = a0.tmps.size
 get : ∀ t, a.tmps[t]? = match owner ops n t with | some j => if listed.getD j false = true then (a0.tmps[t]?).map (fun _ => v j) else a0.tmps[t]? | none => a0.tmps[t]?

theorem put_defers (a : Act) (d : Option Tmp) (v : Value) : (a.put d v).defers = a.defers := by cases d <;> rfl
theorem put_size (a : Act) (d : Option Tmp) (v : Value) : (a.put d v).tmps.size = a.tmps.size := by cases d <;> simp [Act.put]
theorem put_get (a : Act) (d : Option Tmp) (v : Value) (t : Tmp) : (a.put d v).tmps[t]? = if d = some t then (a.tmps[t]?).map (fun _ => v) else a.tmps[t]? := by
 cases d with
 | none => simp [Act.put]
 | some e =>
  simp only [Act.put, Array.getElem?_setIfInBounds, Option.some.injEq]
  by_cases he : e = t
  ·
   subst he
   rw [if_pos rfl, if_pos rfl]
   by_cases hl : e < a.tmps.size
   ·
    rw [if_pos hl]; simp [hl]
   ·
    rw [if_neg hl]; simp [Array.getElem?_eq_none (Nat.le_of_not_lt hl)]
  ·
   rw [if_neg he, if_neg he]
theorem putAll_defers (v : Nat → Value) : ∀ (l : List Nat) (a : Act), (putAll ops v l a).defers = a.defers
 | [], _ => rfl
 | i :: r, a => by rw [putAll, putAll_defers v r, put_defers]
theorem putAll_size (v : Nat → Value) : ∀ (l : List Nat) (a : Act), (putAll ops v l a).tmps.size = a.tmps.size
 | [], _ => rfl
 | i :: r, a => by rw [putAll, putAll_size v r, put_size]
theorem putAll_get {n : Nat} (hd : ∀ i, i < n → ∀ t, dst ops i = some t → owner ops n t = some i) (v : Nat → Value) : ∀ (l : List Nat) (a : Act), (∀ i ∈ l, i < n) → ∀ t,
  (putAll ops v l a).tmps[t]? = match owner ops n t with | some j => if j ∈ l then (a.tmps[t]?).map (fun _ => v j) else a.tmps[t]? | none => a.tmps[t]?
 | [], a, _, t => by cases owner ops n t <;> simp [putAll]
 | i :: r, a, hl, t => by
  rw [putAll, putAll_get hd v r _ (fun j hj => hl j (List.mem_cons_of_mem _ hj)) t, put_get]
  have hi := hl i (List.mem_cons_self ..)
  cases ho : owner ops n t with
  | none =>
   simp only
   rw [if_neg]
   intro h
   rw [hd i hi t h] at ho; cases ho
  | some j =>
   obtain ⟨hj, hjd⟩ := owner_some ho
   simp only
   by_cases hij : i = j
   ·
    subst hij
    rw [if_pos hjd, if_pos (List.mem_cons_self ..)]
    split <;> simp [Option.map_map, Function.comp_def]
   ·
    have : dst ops i ≠ some t := fun h => hij (by have := hd i hi t h; rw [ho] at this; cases this; rfl)
    rw [if_neg this]
    by_cases hm : j ∈ r
    ·
     rw [if_pos hm, if_pos (List.mem_cons_of_mem _ hm)]
    ·
     rw [if_neg hm, if_neg (by simp [hm]; exact fun h => hij h.symm)]

theorem act_ext {a b : Act} (h1 : a.defers = b.defers) (h2 : ∀ t : Nat, a.tmps[t]? = b.tmps[t]?) : a = b := by
 obtain ⟨ta, da⟩ := a
 obtain ⟨tb, db⟩ := b
 have : ta = tb := Array.ext_getElem? h2
 subst this
 simp only at h1
 subst h1; rfl

def upd (v : Nat → Value) (i : Nat) (x : Value) : Nat → Value := fun j => if j = i then x else v j
theorem upd_self (v : Nat → Value) (i : Nat) (x : Value) : upd v i x i = x := by simp [upd]
theorem upd_ne (v : Nat → Value) {i j : Nat} (x : Value) (h : j ≠ i) : upd v i x j = v j := by simp [upd, h]

theorem put_same {a b : Act} {d : Option Tmp} {u x : Value} (hs : a.tmps.size = b.tmps.size) (h : a.put d u = a.put d x) : b.put d u = b.put d x := by
 refine act_ext (by rw [put_defers, put_defers]) fun t => ?_
 have h1 := congrArg (fun c : Act => c.tmps[t]?) h
 simp only [put_get] at h1 ⊢
 by_cases hd : d = some t
 ·
  rw [if_pos hd, if_pos hd] at *
  by_cases hl : t < a.tmps.size
  ·
   have hl' : t < b.tmps.size := by omega
   simp [hl] at h1
   simp [hl', h1]
  ·
   have hl' : ¬ t < b.tmps.size := by omega
   simp [Array.getElem?_eq_none (Nat.le_of_not_lt hl')]
 ·
  rw [if_neg hd, if_neg hd]

/-- an operation in a frame that differs only in what it does not look at -/
theorem wp_move {o : Oper} {a b : Act} {w : World} {R : Value → World → Prop} {Q : Exit → Act → World → Prop} (he : execOp b.eval o = execOp a.eval o) (hs : a.tmps.size = b.tmps.size)
  (h : o.wp P a w (fun a' w' => ∃ x, a' = a.put o.dst x ∧ R x w') (fun _ _ _ => False)) : o.wp P b w (fun b' w' => ∃ x, b' = b.put o.dst x ∧ R x w') Q := by
 unfold Oper.wp at *
 rw [he]
 generalize (execOp a.eval o).run P w = r at *
 cases r with
 | ok m w' =>
  cases m <;> simp only [Oper.upon] at h ⊢
  case value u => obtain ⟨x, hx, hr⟩ := h; exact ⟨x, put_same hs hx, hr⟩
  case skip => obtain ⟨x, hx, hr⟩ := h; exact ⟨x, put_same hs hx, hr⟩
  case defer d =>
   obtain ⟨x, hx, hr⟩ := h
   have := congrArg (fun c : Act => c.defers.length) hx
   simp only [put_defers] at this
   simp at this
  case enter f args =>
   refine Calls.mono h fun e w'' he => ?_
   cases e with
   | returned u => obtain ⟨x, hx, hr⟩ := he; exact ⟨x, put_same hs hx, hr⟩
   | panicked c => exact (he : False).elim
   | outgrown => exact absurd he (by unfold LetsOut; simp)
  case row row args => exact Rows.mono h fun u w'' he => by obtain ⟨x, hx, hr⟩ := he; exact ⟨x, put_same hs hx, hr⟩
 | halt x w' => cases x <;> simp only [Oper.upon] at h

theorem eval_same {a b : Act} {o : Oper} (h : ∀ t ∈ o.looksAt ops, a.tmps[t]? = b.tmps[t]?) (hs : ∀ cs q, o.op ≠ .select cs q) : execOp a.eval o = execOp b.eval o := by
 refine execOp_congr o hs fun x hx => ?_
 cases x with
 | tmp t =>
  have ht := h t (List.mem_append_left _ (List.mem_filterMap.2 ⟨.tmp t, by simpa using hx, rfl⟩))
  show a.tmps.getD t undef = b.tmps.getD t undef
  rw [Array.getD_eq_getD_getElem?, Array.getD_eq_getD_getElem?, ht]
 | const u => rfl
 | global g => rfl
 | func f => rfl
theorem wanted_same {a b : Act} {o : Oper} (h : ∀ t ∈ o.looksAt ops, a.tmps[t]? = b.tmps[t]?) : Region.wanted o (yielded ops a.tmps) = Region.wanted o (yielded ops b.tmps) := by
 unfold Region.wanted
 cases hg : o.guard with
 | none => rfl
 | some gw =>
  obtain ⟨g, want⟩ := gw
  have hy : yielded ops a.tmps g = yielded ops b.tmps g := by
   unfold yielded
   cases ht : (ops[g]?).bind (·.dst) with
   | none => rfl
   | some t =>
    have := h t (by simp [Oper.looksAt, hg, ht])
    simp [this]
  simp only [hy]

def cnt (n : Nat) (listed : Array Bool) : Nat := (List.range n).countP fun i => listed.getD i false
theorem cnt_le (n : Nat) (listed : Array Bool) : cnt n listed ≤ n := by
 have := List.countP_le_length (p := fun i => listed.getD i false) (l := List.range n)
 simpa [cnt] using this
theorem cnt_succ (n : Nat) (listed : Array Bool) : cnt (n+1) listed = cnt n listed + if listed.getD n false = true then 1 else 0 := by
 unfold cnt
 rw [List.range_succ, List.countP_append]
 simp [List.countP_cons]
theorem cnt_set (n : Nat) {listed : Array Bool} {i : Nat} (hi : i < listed.size) (hf : listed.getD i false = false) : cnt n (listed.setIfInBounds i true) = cnt n listed + if i < n then 1 else 0 := by
 induction n with
 | zero => rfl
 | succ n ih =>
  rw [cnt_succ, cnt_succ, ih]
  by_cases hin : i = n
  ·
   subst hin
   have e : (listed.setIfInBounds i true).getD i false = true := by simp [hi]
   rw [e, hf]; simp
  ·
   rw [getD_set_ne false hin]
   by_cases h1 : i < n
   ·
    have h2 : i < n + 1 := by omega
    simp only [h1, h2, if_true]; omega
   ·
    have h2 : ¬ i < n + 1 := by omega
    simp only [h1, h2, if_false]; omega
theorem cnt_all {n : Nat} {listed : Array Bool} (h : cnt n listed = n) : ∀ i, i < n → listed.getD i false = true := by
 induction n with
 | zero => intro i hi; omega
 | succ n ih =>
  rw [cnt_succ] at h
  have := cnt_le n listed
  intro i hi
  by_cases hl : listed.getD n false = true
  ·
   rw [if_pos hl] at h
   by_cases hin : i = n
   ·
    subst hin; exact hl
   ·
    exact ih (by omega) i (by omega)
  ·
   rw [if_neg hl] at h; omega
theorem cnt_not {n : Nat} {listed : Array Bool} (h : cnt n listed < n) : ∃ i, i < n ∧ listed.getD i false = false := by
 induction n with
 | zero => omega
 | succ n ih =>
  rw [cnt_succ] at h
  by_cases hl : listed.getD n false = true
  ·
   rw [if_pos hl] at h
   obtain ⟨i, hi, hf⟩ := ih (by omega)
   exact ⟨i, by omega, hf⟩
  ·
   exact ⟨n, by omega, by simpa using hl⟩

/-- what is known while a region comes up -/
structure Inv (ops : Array Oper) (n : Nat) (a0 : Act) (w0 : World) (T : World → World → Prop) (J : Nat → World → Prop) (Pr : Nat → (Nat → Value) → World → Prop) (listed : Array Bool) (v : Nat → Value) (a : Act) (w : World) : Prop where
 at_ : At ops n listed v a0 a
 old : T w0 w
 j : J (cnt n listed) w
 pr : ∀ i, i < n → listed.getD i false = true → Pr i v w

/-- the frame with the temporaries of some operations, told by a list of their places -/
def putAt (ds : List (Option Tmp)) (v : Nat → Value) : List Nat → Act → Act
 | [], a => a
 | i :: r, a => putAt ds v r (a.put (ds.getD i none) (v i))
theorem putAt_eq {ds : List (Option Tmp)} {v : Nat → Value} : ∀ (l : List Nat) (a : Act), (∀ i ∈ l, ds.getD i none = dst ops i) → putAt ds v l a = putAll ops v l a
 | [], _, _ => rfl
 | i :: r, a, h => by rw [putAt, putAll, h i (List.mem_cons_self ..), putAt_eq r _ fun j hj => h j (List.mem_cons_of_mem _ hj)]

/-- what is to be shown of one operation, in the words of the walk -/
def Step (P : Program) (ops : Array Oper) (n : Nat) (C : List (List Nat)) (ds : List (Option Tmp)) (a0 : Act) (w0 : World) (T : World → World → Prop) (J : Nat → World → Prop) (Pr : List ((Nat → Value) → World → Prop)) (i : Nat) (o : Oper) : Prop :=
 ∀ (v : Nat → Value) (w : World) (k : Nat), k < n → T w0 w → J k w → (∀ j ∈ C.getD i [], Pr.getD j (fun _ _ => True) v w) → ∀ K : Act → World → Prop,
  (∀ x w', T w w' → J (k+1) w' → Pr.getD i (fun _ _ => True) (upd v i x) w' → K ((putAt ds v (C.getD i []) a0).put o.dst x) w') →
  match o.guard with
  | none => o.wp P (putAt ds v (C.getD i []) a0) w K (fun _ _ _ => False)
  | some _ => if Region.wanted o (yielded ops (putAt ds v (C.getD i []) a0).tmps) = true then o.wp P (putAt ds v (C.getD i []) a0) w K (fun _ _ _ => False) else K ((putAt ds v (C.getD i []) a0).put o.dst undef) w

/-- what is to be shown of one operation -/
def Prem (P : Program) (ops : Array Oper) (n : Nat) (C : List (List Nat)) (a0 : Act) (w0 : World) (T : World → World → Prop) (J : Nat → World → Prop) (Pr : Nat → (Nat → Value) → World → Prop) (i : Nat) (o : Oper) : Prop :=
 ∀ (v : Nat → Value) (w : World) (k : Nat), k < n → T w0 w → J k w → (∀ j ∈ C.getD i [], Pr j v w) → ∀ K : Act → World → Prop,
  (∀ x w', T w w' → J (k+1) w' → Pr i (upd v i x) w' → K ((putAll ops v (C.getD i []) a0).put o.dst x) w') →
  if Region.wanted o (yielded ops (putAll ops v (C.getD i []) a0).tmps) = true then o.wp P (putAll ops v (C.getD i []) a0) w K (fun _ _ _ => False) else K ((putAll ops v (C.getD i []) a0).put o.dst undef) w

theorem wpAny_rg {n : Nat} {C : List (List Nat)} {a0 : Act} {w0 : World} {T : World → World → Prop} {J : Nat → World → Prop} {Pr : Nat → (Nat → Value) → World → Prop} {Q : Exit → Act → World → Prop} {g : Nat}
  (hok : okB md ops n C = true) (hready : ∀ listed, HeadInv md ops n listed → (∃ i, i < n ∧ listed.getD i false = false) → ∀ t ∈ Region.ready md ops listed, t < n)
  (Trefl : ∀ w, T w w) (Ttr : ∀ a b c, T a b → T b c → T a c)
  (hst : ∀ i, i < n → ∀ v w w', Pr i v w → T w w' → Pr i v w') (hloc : ∀ i, i < n → ∀ v v' w, (∀ q ∈ i :: C.getD i [], v q = v' q) → Pr i v w → Pr i v' w)
  (hop : ∀ i o, i < n → ops[i]? = some o → Prem P ops n C a0 w0 T J Pr i o)
  (hend : ∀ listed, HeadInv md ops n listed → (∀ i, i < n → listed.getD i false = true) → ∀ v w, T w0 w → J n w → (∀ i, i < n → Pr i v w) → wpAny P md ops Q g listed (putAll ops v (List.range n) a0) w) :
  ∀ (f : Nat) (listed : Array Bool) (v : Nat → Value) (a : Act) (w : World), f + cnt n listed = n → HeadInv md ops n listed → Inv ops n a0 w0 T J Pr listed v a w → wpAny P md ops Q (f + g) listed a w := by
 simp only [okB, Bool.and_eq_true, decide_eq_true_eq, List.all_eq_true, List.mem_range] at hok
 obtain ⟨⟨⟨hsel, hnle⟩, hdown⟩, hall⟩ := hok
 have hdist : ∀ i, i < n → ∀ t, dst ops i = some t → owner ops n t = some i := by
  intro i hi t ht
  have := (hall i hi).1.1
  rw [ht] at this; simpa using this
 have hCn : ∀ i, i < n → ∀ j ∈ C.getD i [], j < i := fun i hi j hj => by
  have := (hall i hi).1.2
  try simp only [List.all_eq_true] at this
  have := this j hj
  try simp only [Bool.and_eq_true, decide_eq_true_eq] at this
  exact this.1
 have hCd : ∀ i, i < n → ∀ j ∈ C.getD i [], j ∈ direct md ops i ∨ ∃ d ∈ direct md ops i, j ∈ C.getD d [] := fun i hi j hj => by
  have := (hall i hi).1.2
  try simp only [List.all_eq_true] at this
  have := (this j hj)
  simp only [Bool.or_eq_true, List.any_eq_true, List.contains_iff_mem] at this
  exact this.2
 have hlook : ∀ i o, i < n → ops[i]? = some o → ∀ t ∈ o.looksAt ops, ∀ j, owner ops n t = some j → j ∈ C.getD i [] := fun i o hi ho t ht j hj => by
  have := (hall i hi).2
  rw [ho] at this
  try simp only [List.all_eq_true] at this
  have := this t ht
  rw [hj] at this
  simpa using this
 have hdirect : ∀ i o, ops[i]? = some o → ∀ d, d ∈ direct md ops i ↔ ∃ e ∈ o.after, Region.binds md e = true ∧ e.on = d := fun i o ho d => by
  unfold direct
  rw [ho]
  simp [and_assoc]
 -- what an operation waits for through others has come up too
 have hclosed : ∀ (listed : Array Bool), HeadInv md ops n listed → ∀ m i, i ≤ m → i < n → (∀ d ∈ direct md ops i, listed.getD d false = true) → ∀ j ∈ C.getD i [], listed.getD j false = true := by
  intro listed inv m
  induction m with
  | zero => intro i him hi hd j hj; have := hCn i hi j hj; omega
  | succ m ih =>
   intro i him hi hd j hj
   rcases hCd i hi j hj with h | ⟨d, h1, h2⟩
   ·
    exact hd j h
   ·
    have hdi : d < i := hdown i (by omega) |> fun h => by
     have := h d h1; simpa using this
    have hds : d < ops.size := by omega
    obtain ⟨od, hod⟩ : ∃ od, ops[d]? = some od := ⟨_, Array.getElem?_eq_getElem hds⟩
    refine ih d (by omega) (by omega) (fun q hq => ?_) j h2
    obtain ⟨e, he, hb, rfl⟩ := (hdirect d od hod q).1 hq
    exact inv.closed d od hod (hd d h1) e he hb
 intro f
 induction f with
 | zero =>
  intro listed v a w hf inv I
  have hl := cnt_all (n := n) (listed := listed) (by omega)
  rw [Nat.zero_add]
  have hj := I.j
  rw [show cnt n listed = n by omega] at hj
  have e : a = putAll ops v (List.range n) a0 := by
   refine act_ext (by rw [I.at_.defers, putAll_defers]) fun t => ?_
   rw [I.at_.get, putAll_get hdist v _ _ (fun i hi => List.mem_range.1 hi)]
   cases ho : owner ops n t with
   | none => rfl
   | some j =>
    have hj := (owner_some ho).1
    simp only
    rw [if_pos (hl j hj), if_pos (List.mem_range.2 hj)]
  rw [e]
  exact hend listed inv hl v w I.old hj fun i hi => I.pr i hi (hl i hi)
 | succ f ih =>
  intro listed v a w hf inv I
  have hun := cnt_not (n := n) (listed := listed) (by omega)
  rw [show f + 1 + g = (f + g) + 1 by omega]
  constructor
  ·
   intro h0
   exfalso
   obtain ⟨i, hi, hif⟩ := hun
   have : ∀ m i, i ≤ m → i < n → listed.getD i false = false → ∃ j, j ∈ Region.ready md ops listed := by
    intro m
    induction m with
    | zero =>
     intro i him hi hif
     have his : i < ops.size := by omega
     obtain ⟨o, ho⟩ : ∃ o, ops[i]? = some o := ⟨_, Array.getElem?_eq_getElem his⟩
     refine ⟨i, mem_ready.2 ⟨getD_in (by rw [inv.size]; exact his) hif, o, ho, fun e he hb => ?_⟩⟩
     have := hdown i his e.on ((hdirect i o ho _).2 ⟨e, he, hb, rfl⟩)
     try simp at this
     omega
    | succ m ihm =>
     intro i him hi hif
     have his : i < ops.size := by omega
     obtain ⟨o, ho⟩ : ∃ o, ops[i]? = some o := ⟨_, Array.getElem?_eq_getElem his⟩
     by_cases hd : ∀ e ∈ o.after, Region.binds md e = true → listed.getD e.on false = true
     ·
      exact ⟨i, mem_ready.2 ⟨getD_in (by rw [inv.size]; exact his) hif, o, ho, hd⟩⟩
     ·
      have hd' : ∃ e, e ∈ o.after ∧ Region.binds md e = true ∧ listed.getD e.on false = false := by
       refine Classical.byContradiction fun hno => hd fun e he hb => ?_
       cases hl : listed.getD e.on false with
       | true => rfl
       | false => exact absurd ⟨e, he, hb, hl⟩ hno
      obtain ⟨e, he, hb, hl⟩ := hd'
      have := hdown i his e.on ((hdirect i o ho _).2 ⟨e, he, hb, rfl⟩)
      try simp at this
      exact ihm e.on (by omega) (by omega) hl
   obtain ⟨j, hj⟩ := this i i (Nat.le_refl _) hi hif
   rw [h0] at hj; cases hj
  ·
   intro i hir
   have hin := hready listed inv hun i hir
   obtain ⟨hiun, o, ho, hdeps⟩ := mem_ready.1 hir
   have his : i < ops.size := by omega
   have hisl : i < listed.size := by rw [inv.size]; exact his
   have hif := getD_both hiun
   have hdir : ∀ d ∈ direct md ops i, listed.getD d false = true := fun d hd => by
    obtain ⟨e, he, hb, rfl⟩ := (hdirect i o ho d).1 hd
    exact hdeps e he hb
   have hCl := hclosed listed inv i i (Nat.le_refl _) hin hdir
   have hodst : dst ops i = o.dst := by unfold dst; rw [ho]; rfl
   have hCi : ∀ q ∈ C.getD i [], q < n := fun q hq => by have := hCn i hin q hq; omega
   have hsame : ∀ t ∈ o.looksAt ops, a.tmps[t]? = (putAll ops v (C.getD i []) a0).tmps[t]? := fun t ht => by
    rw [I.at_.get, putAll_get hdist v _ _ hCi]
    cases hw : owner ops n t with
    | none => rfl
    | some j =>
     have hjC := hlook i o hin ho t ht j hw
     simp only
     rw [if_pos (hCl j hjC), if_pos hjC]
   have hprem := hop i o hin ho v w (cnt n listed) (by omega) I.old I.j (fun j hj => I.pr j (hCi j hj) (hCl j hj))
    (fun a' w' => ∃ x, a' = (putAll ops v (C.getD i []) a0).put o.dst x ∧ T w w' ∧ J (cnt n listed + 1) w' ∧ Pr i (upd v i x) w') (fun x w' h1 h2 h3 => ⟨x, rfl, h1, h2, h3⟩)
   have hcnt : cnt n (listed.setIfInBounds i true) = cnt n listed + 1 := by rw [cnt_set n hisl hif, if_pos hin]
   -- behind it all goes on
   have hgo : ∀ (x : Value) (w' : World), T w w' → J (cnt n listed + 1) w' → Pr i (upd v i x) w' → wpAny P md ops Q (f + g) (listed.setIfInBounds i true) (a.put o.dst x) w' := by
    intro x w' h1 h2 h3
    refine ih _ (upd v i x) _ w' (by omega) (inv.set hir hin) ⟨⟨?_, ?_, ?_⟩, Ttr _ _ _ I.old h1, by rw [hcnt]; exact h2, ?_⟩
    ·
     rw [put_defers, I.at_.defers]
    ·
     rw [put_size, I.at_.size]
    ·
     intro t
     rw [put_get]
     by_cases ht : o.dst = some t
     ·
      rw [if_pos ht, hdist i hin t (by rw [hodst]; exact ht)]
      have e1 : (listed.setIfInBounds i true).getD i false = true := by simp [hisl]
      simp only
      rw [if_pos e1, upd_self]
      by_cases hts : t < a.tmps.size
      ·
       have hts0 : t < a0.tmps.size := by rw [← I.at_.size]; exact hts
       simp [hts, hts0]
      ·
       have hts0 : ¬ t < a0.tmps.size := by rw [← I.at_.size]; exact hts
       simp [Array.getElem?_eq_none (Nat.le_of_not_lt hts), Array.getElem?_eq_none (Nat.le_of_not_lt hts0)]
     ·
      rw [if_neg ht, I.at_.get]
      cases hw : owner ops n t with
      | none => rfl
      | some j =>
       have hji : i ≠ j := fun h => ht (by rw [← hodst, h]; exact (owner_some hw).2)
       simp only
       rw [getD_set_ne false hji, upd_ne v x (Ne.symm hji)]
    ·
     intro j hj hjl
     by_cases hji : j = i
     ·
      subst hji; exact h3
     ·
      rw [getD_set_ne false (Ne.symm hji)] at hjl
      have hp := hst j hj v w w' (I.pr j hj hjl) h1
      refine hloc j hj v _ w' (fun q hq => ?_) hp
      have hqi : q ≠ i := by
       rcases List.mem_cons.1 hq with h | h
       ·
        subst h; exact hji
       ·
        obtain ⟨oj, hoj⟩ : ∃ oj, ops[j]? = some oj := ⟨_, Array.getElem?_eq_getElem (by omega : j < ops.size)⟩
        have := hclosed listed inv j j (Nat.le_refl _) hj (fun d hd => by
         obtain ⟨e, he, hb, rfl⟩ := (hdirect j oj hoj d).1 hd
         exact inv.closed j oj hoj hjl e he hb) q h
        intro h'; subst h'; rw [hif] at this; cases this
      rw [upd_ne v x hqi]
   unfold wpOp
   rw [ho]
   simp only
   rw [wanted_same hsame]
   split
   ·
    rename_i hw
    rw [if_pos hw] at hprem
    have hmv := wp_move (Q := Q) (b := a) (eval_same hsame (Region.noSelect_spec hsel i o · · ho)) (by rw [putAll_size, I.at_.size]) hprem
    exact .inl (Oper.wp_mono (fun a' w' ⟨x, hx, h1, h2, h3⟩ => by rw [hx]; exact hgo x w' h1 h2 h3) hmv)
   ·
    rename_i hw
    rw [if_neg hw] at hprem
    obtain ⟨x, hx, h1, h2, h3⟩ := hprem
    have : a.put o.dst undef = a.put o.dst x := put_same (by rw [putAll_size, I.at_.size]) hx
    rw [this]
    exact hgo x w h1 h2 h3

/-- the operations from number k on, one behind the other -/
def Prems (F : Nat → Oper → Prop) : Nat → List Oper → Prop
 | _, [] => True
 | k, o :: r => F k o ∧ Prems F (k+1) r
theorem Prems.get {F : Nat → Oper → Prop} : ∀ {k : Nat} {l : List Oper}, Prems F k l → ∀ i o, l[i]? = some o → F (k + i) o
 | k, [], _, i, o, h => by simp at h
 | k, o' :: r, hp, 0, o, h => by simp at h; subst h; exact hp.1
 | k, o' :: r, hp, i+1, o, h => by
  have := Prems.get hp.2 i o (by simpa using h)
  rwa [show k + 1 + i = k + (i + 1) by omega] at this
/-- facts told one by one -/
def Alls (F : Nat → Prop) : Nat → Nat → Prop
 | _, 0 => True
 | k, m+1 => F k ∧ Alls F (k+1) m
theorem Alls.get {F : Nat → Prop} : ∀ {k m : Nat}, Alls F k m → ∀ i, i < m → F (k + i)
 | k, 0, _, i, h => by omega
 | k, m+1, hp, 0, h => hp.1
 | k, m+1, hp, i+1, h => by
  have := Alls.get hp.2 i (by omega)
  rwa [show k + 1 + i = k + (i + 1) by omega] at this
theorem Alls.mk {F : Nat → Prop} : ∀ (m k : Nat), (∀ i, i < m → F (k + i)) → Alls F k m
 | 0, k, _ => trivial
 | m+1, k, h => ⟨h 0 (by omega), Alls.mk m (k+1) fun i hi => by have := h (i+1) (by omega); rwa [show k + (i + 1) = k + 1 + i by omega] at this⟩

/-- THE LAW: the first n operations of the region in whatever order, the others behind them. -/
theorem wp_region {id : Nat} {Q : Exit → Act → World → Prop} {a0 : Act} {w : World} {l : List Oper} (n : Nat) (ns : List Nat) (C : List (List Nat)) (ds : List (Option Tmp)) (T : World → World → Prop) (J : Nat → World → Prop) (Pr : List ((Nat → Value) → World → Prop))
  (hm : P.follows .mixedOrders = true) (hok : okB .any l.toArray n C = true) (hns : ns = List.range n) (hds : ((List.range n).all fun i => ds.getD i none == dst l.toArray i) = true)
  (htl : (decide (n = l.length) || (Region.sinkB .any l.toArray n && Region.chainB .any l.toArray n && decide (n < l.length))) = true)
  (hsq : Region.seqB .any l.toArray (l.length - n) n ((List.range l.length).map fun i => decide (i < n)).toArray = true)
  (Trefl : ∀ w, T w w) (Ttr : ∀ a b c, T a b → T b c → T a c) (hJ : J 0 { w with drawn := w.drawn + 1 })
  (hst : Alls (fun i => ∀ v w w', (Pr.getD i (fun _ _ => True)) v w → T w w' → (Pr.getD i (fun _ _ => True)) v w') 0 n)
  (hloc : Alls (fun i => ∀ v v' w, (∀ q ∈ i :: C.getD i [], v q = v' q) → (Pr.getD i (fun _ _ => True)) v w → (Pr.getD i (fun _ _ => True)) v' w) 0 n)
  (hop : Prems (Step P l.toArray n C ds a0 { w with drawn := w.drawn + 1 } T J Pr) 0 (l.take n))
  (hend : ∀ v w', T { w with drawn := w.drawn + 1 } w' → J n w' → Alls (fun i => (Pr.getD i (fun _ _ => True)) v w') 0 n → wpList P l.toArray Q (l.drop n) (putAt ds v ns a0) w') :
  (Code.region id l.toArray true).wp P Q a0 w := by
 subst hns
 have hdd : ∀ i, i < n → ds.getD i none = dst l.toArray i := fun i hi => by
  simp only [List.all_eq_true, List.mem_range] at hds
  simpa using hds i hi
 have hnle : n ≤ l.length := by
  simp only [okB, Bool.and_eq_true, decide_eq_true_eq] at hok
  simpa using hok.1.1.2
 have inv0 : HeadInv .any l.toArray n (Array.replicate l.toArray.size false) :=
  ⟨by simp, fun j oj _ hl => (by rw [getD_replicate_false] at hl; cases hl), fun t _ ht => getD_in (by simpa using ht) (getD_replicate_false _ _)⟩
 have c0 : cnt n (Array.replicate l.toArray.size false) = 0 := by
  unfold cnt
  rw [List.countP_eq_zero]
  intro i _
  rw [getD_replicate_false]; simp
 refine wp_region_any hm ?_
 have H := wpAny_rg (P := P) (md := .any) (ops := l.toArray) (n := n) (C := C) (a0 := a0) (w0 := { w with drawn := w.drawn + 1 }) (T := T) (J := J) (Pr := fun i => Pr.getD i (fun _ _ => True)) (Q := Q) (g := l.length - n)
  hok ?_ Trefl Ttr (fun i hi => by have := hst.get i hi; rwa [Nat.zero_add] at this) (fun i hi => by have := hloc.get i hi; rwa [Nat.zero_add] at this) (fun i o hi ho => ?_) ?_ n _ (fun _ => undef) a0 { w with drawn := w.drawn + 1 } (by rw [c0]; rfl) inv0 ?_
 ·
  rwa [show n + (l.length - n) = l.toArray.size by simp; omega] at H
 ·
  intro listed inv hun t ht
  simp only [Bool.or_eq_true, Bool.and_eq_true, decide_eq_true_eq] at htl
  rcases htl with h | ⟨⟨h1, h2⟩, h3⟩
  ·
   obtain ⟨_, o, ho, _⟩ := mem_ready.1 ht
   have := (Array.getElem?_eq_some_iff.1 ho).1
   simp at this; omega
  ·
   obtain ⟨i, hi, hif⟩ := hun
   rcases Nat.lt_or_ge t n with h | h
   ·
    exact h
   ·
    exact absurd ht (tail_waits h1 h2 (by simpa using h3) inv _ i rfl hi (getD_in (by rw [inv.size]; simp; omega) hif) t h)
 ·
  have hs := hop.get i o (by rw [List.getElem?_take, if_pos hi]; simpa using ho)
  rw [Nat.zero_add] at hs
  intro v w k hk h1 h2 h3 K hK
  have hCi : ∀ j ∈ C.getD i [], ds.getD j none = dst l.toArray j := fun j hj => by
   simp only [okB, Bool.and_eq_true, decide_eq_true_eq, List.all_eq_true, List.mem_range] at hok
   have := (hok.2 i hi).1.2
   try simp only [List.all_eq_true] at this
   have := this j hj
   try simp only [Bool.and_eq_true, decide_eq_true_eq] at this
   exact hdd j (by omega)
  have := hs v w k hk h1 h2 h3 K (fun x w' g1 g2 g3 => by rw [putAt_eq _ _ hCi]; exact hK x w' g1 g2 g3)
  rw [putAt_eq _ _ hCi] at this
  cases hg : o.guard with
  | none =>
   rw [hg] at this
   rw [if_pos (by unfold Region.wanted; rw [hg])]
   exact this
  | some q => rw [hg] at this; exact this
 ·
  intro listed inv hl v w' h1 h2 h3
  have e : listed = ((List.range l.length).map fun i => decide (i < n)).toArray := by
   have hs := inv.size
   simp at hs
   apply Array.ext
   ·
    simp [hs]
   ·
    intro i hi1 hi2
    by_cases hin : i < n
    ·
     have := hl i hin
     simp [hi1] at this
     simp [this, hin]
    ·
     have := inv.tail i (by omega) (by simp; omega)
     simp [hi1] at this
     simp [this, hin]
  have hw := hend v w' h1 h2 (Alls.mk n 0 fun i hi => by rw [Nat.zero_add]; exact h3 i hi)
  rw [putAt_eq _ _ fun i hi => hdd i (List.mem_range.1 hi)] at hw
  have := wpAny_of_seq (P := P) (md := .any) (ops := l.toArray) (Q' := Q) (l.drop n) n listed _ w' (fun j => by simp [List.getElem?_drop]) (by rw [List.length_drop, e]; exact hsq) hw
  rwa [List.length_drop] at this
 ·
  refine ⟨⟨rfl, rfl, fun t => ?_⟩, Trefl _, by rw [c0]; exact hJ, fun i _ h => by rw [getD_replicate_false] at h; cases h⟩
  cases owner l.toArray n t with
  | none => rfl
  | some j => simp only; rw [getD_replicate_false]; rfl
end
end Go.Proofs.Ytpgkhjmboiepcaa.RG

/- Walks: the reader of the drawn arguments: its numbers. -/
namespace Go.Proofs.Ytpgkhjmboiepcaa
open Go.RowKit
set_option linter.unusedVariables false
set_option maxRecDepth 100000

/-- a slice of a few bytes, in blocks below hi -/
def Bys (w : World) (hi : Nat) (a : Option Addr) (n cap : Nat) : Prop :=
 n ≤ cap ∧ cap ≤ maxLen ∧ n ≤ 2000 ∧ ∀ i, i < n → ∃ b off x, a = some ⟨b, off, none⟩ ∧ b < hi ∧ w.cell? ⟨b, off + i, none⟩ = some (.int .u8 x) ∧ 0 ≤ x ∧ x < 256
/-- the reader at block rb, of which at most k numbers were asked -/
structure Rd (w : World) (rb k : Nat) : Prop where
 ex : ∃ a n cap p, (0 ≤ p ∧ p ≤ (k : Int)) ∧ w.cell? ⟨rb, 0, none⟩ = some (.slice a n cap) ∧ w.cell? ⟨rb, 1, none⟩ = some (.int .i64 p) ∧ w.frozen? ⟨rb, 1, none⟩ = false ∧ Bys w rb a n cap
theorem Bys.chg {w w' : World} {hi lo h2 : Nat} {a : Option Addr} {n cap : Nat} (h : Bys w hi a n cap) (k : Chg lo h2 w w') (hl : hi ≤ lo) : Bys w' hi a n cap := by
 obtain ⟨h1, h2, h3, h4⟩ := h
 refine ⟨h1, h2, h3, fun i hi => ?_⟩
 obtain ⟨b, off, x, ha, hb, hc, hx⟩ := h4 i hi
 exact ⟨b, off, x, ha, hb, k.cell (.inl (by omega)) hc, hx⟩
theorem Rd.ext {w w' : World} {rb k : Nat} (h : Rd w rb k) (hx : Ext w w') : Rd w' rb k := by
 obtain ⟨a, n, cap, p, hp, h0, h1, h2, hb⟩ := h.ex
 refine ⟨a, n, cap, p, hp, hx.cell h0, hx.cell h1, (hx.frule rb 1 (qB h1)).trans h2, ?_⟩
 obtain ⟨g1, g2, g3, g4⟩ := hb
 refine ⟨g1, g2, g3, fun i hi => ?_⟩
 obtain ⟨b, off, x, ha, hbb, hc, hxx⟩ := g4 i hi
 exact ⟨b, off, x, ha, hbb, hx.cell hc, hxx⟩
theorem Rd.mono {w : World} {rb k k' : Nat} (h : Rd w rb k) (hk : k ≤ k') : Rd w rb k' := by
 obtain ⟨a, n, cap, p, hp, r⟩ := h.ex
 exact ⟨a, n, cap, p, by omega, r⟩
theorem Rd.lt {w : World} {rb k : Nat} (h : Rd w rb k) : rb < w.heap.size := by
 obtain ⟨a, n, cap, p, hp, h0, _⟩ := h.ex
 exact qB h0
/-- cells of other blocks than the reader's -/
theorem Rd.chgO {w w' : World} {rb k lo hi : Nat} (h : Rd w rb k) (c : Chg lo hi w w') (hl : rb < lo) : Rd w' rb k := by
 obtain ⟨a, n, cap, p, hp, h0, h1, h2, hb⟩ := h.ex
 refine ⟨a, n, cap, p, hp, c.cell (.inl hl) h0, c.cell (.inl hl) h1, ?_, hb.chg c (by omega)⟩
 exact (World.frozen?_of_block (a := ⟨rb, 1, none⟩) (c.block rb (qB h1) (.inl hl))).trans h2

/-- a number comes back -/
def PNum (rb k : Nat) (p : Int → Prop) (w : World) (e : Ending) (w' : World) : Prop := ∃ x, e = .returned (.int .i64 x) ∧ p x ∧ Rd w' rb k ∧ Chg rb (rb + 1) w w'

theorem rd_put {w : World} {rb k : Nat} {a : Option Addr} {n cap : Nat} {p : Int} (hp : 0 ≤ p ∧ p ≤ (k : Int)) (h0 : w.cell? ⟨rb, 0, none⟩ = some (.slice a n cap)) (h1 : w.cell? ⟨rb, 1, none⟩ = some (.int .i64 p)) (h2 : w.frozen? ⟨rb, 1, none⟩ = false) (hb : Bys w rb a n cap) :
  Rd (w.setCell ⟨rb, 1, none⟩ (.int .i64 (p + 1))) rb (k + 1) ∧ Chg rb (rb + 1) w (w.setCell ⟨rb, 1, none⟩ (.int .i64 (p + 1))) := by
 have hc : Chg rb (rb + 1) w (w.setCell ⟨rb, 1, none⟩ (.int .i64 (p + 1))) := (Chg.refl _ _ _).setCell (p := ⟨rb, 1, none⟩) (Nat.le_refl rb) (Nat.lt_succ_self rb) _
 refine ⟨⟨a, n, cap, p + 1, by omega, ?_, ?_, ?_, hb.chg hc (Nat.le_refl _)⟩, hc⟩
 ·
  refine (World.cell?_setCell_other _ _ _ _ ?_).trans h0
  simp
 ·
  exact World.cell?_setCell_same _ _ _ h1
 ·
  simpa using h2

theorem xor_bd (a b : Nat) (ha : a < 4611686018427387904) (hb : b < 4611686018427387904) : 0 ≤ bits .xor .i64 (a : Int) (b : Int) := by
 have h := Nat.xor_lt_two_pow (n := 62) (x := a) (y := b) (by omega) (by omega)
 have h1 : (BitVec.ofInt 64 (a : Int)).toNat = a := by
  rw [BitVec.ofInt_natCast, BitVec.toNat_ofNat]; exact Nat.mod_eq_of_lt (by omega)
 have h2 : (BitVec.ofInt 64 (b : Int)).toNat = b := by
  rw [BitVec.ofInt_natCast, BitVec.toNat_ofNat]; exact Nat.mod_eq_of_lt (by omega)
 show 0 ≤ IntKind.i64.wrap ((BitVec.ofInt 64 (a : Int) ^^^ BitVec.ofInt 64 (b : Int)).toNat : Int)
 rw [BitVec.toNat_xor, h1, h2, IntWalk.i64_in _ (by omega)]
 omega
theorem xor_num (x : Int) (h : 0 ≤ x) (h2 : x < 4611686018427387904) : 0 ≤ bits .xor .i64 x (x / 64) := by
 obtain ⟨n, rfl⟩ : ∃ n : Nat, x = n := ⟨x.toNat, by omega⟩
 have := xor_bd n (n / 64) (by omega) (by omega)
 simpa using this
theorem xor_mod (x n : Int) (h : 0 ≤ x) (h2 : x < 4611686018427387904) (hn : 1 ≤ n) : 0 ≤ (bits .xor .i64 x (x / 64)).tmod n ∧ (bits .xor .i64 x (x / 64)).tmod n < n := by
 have h1 := xor_num x h h2
 rw [Int.tmod_eq_emod_of_nonneg h1]
 exact ⟨Int.emod_nonneg _ (by omega), Int.emod_lt_of_pos _ (by omega)⟩

set_option maxHeartbeats 1600000 in
theorem pick_c (n : Int) (rb k : Nat) (w : World) (hr : Rd w rb k) (hk : k ≤ 1000000) :
  Calls Try.prog 52 #[.pointer (some ⟨rb, 0, none⟩), .int .i64 n] w (PNum rb (k + 1) (fun x => 0 ≤ x ∧ (x < n ∨ x = 0)) w) := by
 obtain ⟨a, m, cap, p, hp, h0, h1, h2, hb⟩ := hr.ex
 obtain ⟨hR, hC⟩ := rd_put hp h0 h1 h2 hb
 replace hR := Lib.hid hR
 replace hC := Lib.hid hC
 obtain ⟨b1, b2, b3, b4⟩ := hb
 obtain ⟨hp0, hp1⟩ := hp
 unfold maxLen at b2
 by_cases hn : n < 1
 ·
  go_enter Try.func52, Try.ntmps52
  go_wp2_with fail
  go_ret
  exact ⟨0, rfl, ⟨by omega, .inr rfl⟩, hR.out, hC.out⟩
 ·
  by_cases hm : m = 0
  ·
   subst hm
   go_enter Try.func52, Try.ntmps52
   go_wp2_with fail
   go_ret
   exact ⟨0, rfl, ⟨by omega, .inr rfl⟩, hR.out, hC.out⟩
  ·
   have hm0 : ((m : Int) == 0) = false := by simpa using hm
   obtain ⟨q, hq⟩ : ∃ q : Nat, p = q := ⟨p.toNat, by omega⟩
   subst hq
   by_cases hlt : q < m
   ·
    obtain ⟨b, off, x, rfl, hbl, hcell, hx0, hx1⟩ := b4 q hlt
    have hne : b ≠ rb := by omega
    have hne2 : rb ≠ b := by omega
    have hI : (q : Int) < m := by omega
    have g1 := Int.emod_nonneg x (show n ≠ 0 by omega)
    have g2 := Int.emod_lt_of_pos x (show 0 < n by omega)
    go_enter Try.func52, Try.ntmps52
    go_wp2_with fail
    go_ret
    exact ⟨x % n, rfl, ⟨g1, .inl g2⟩, hR.out, hC.out⟩
   ·
    have m0 : 0 < m := by omega
    have r1 := Nat.mod_lt q m0
    have r2 := Nat.mod_lt (q * 7 + 3) m0
    have r3 := Nat.div_le_self q m
    have e1 : ((q : Int)) % (m : Int) = ((q % m : Nat) : Int) := rfl
    have e2 : ((q : Int) * 7 + 3) % (m : Int) = (((q * 7 + 3) % m : Nat) : Int) := by simp
    have e3 : ((q : Int)) / (m : Int) = ((q / m : Nat) : Int) := rfl
    have t1 : ((q : Int)).tmod (m : Int) = ((q % m : Nat) : Int) := rfl
    have t2 : ((q : Int) * 7 + 3).tmod (m : Int) = (((q * 7 + 3) % m : Nat) : Int) := by rw [Int.tmod_eq_emod_of_nonneg (by omega)]; exact e2
    have t3 : ((q : Int)).tdiv (m : Int) = ((q / m : Nat) : Int) := rfl
    generalize q % m = i1 at *
    generalize (q * 7 + 3) % m = i2 at *
    generalize q / m = i3 at *
    obtain ⟨b, off, x, rfl, hbl, hcell, hx0, hx1⟩ := b4 i1 r1
    obtain ⟨_, _, y, he, hbl', hcell', hy0, hy1⟩ := b4 i2 r2
    cases he
    have hne : b ≠ rb := by omega
    have hne2 : rb ≠ b := by omega
    have hI : ¬ (q : Int) < m := by omega
    have hI1 : (i1 : Int) < m := by omega
    have hI2 : (i2 : Int) < m := by omega
    clear hI b4
    go_enter Try.func52, Try.ntmps52
    go_wp2_with fail
    go_quiet (fail)
    go_wp2_with fail
    go_ret
    have hf := xor_mod (x * 131 + y * 1117 + (q : Int) * 29 + (i3 : Int) * 53) n (by omega) (by omega) (by omega)
    exact ⟨_, rfl, ⟨hf.1, .inl hf.2⟩, hR.out.ext qXo, hC.out.ext qXo⟩

/-- one of the numbers of a list -/
theorem one_c (xs : List Int) (v : Value) (lo rb k : Nat) (w : World) (hr : Rd w rb k) (hk : k ≤ 1000000) (hv : Ints w lo v xs) (hlo : rb < lo) (hn : xs ≠ []) :
  Calls Try.prog 51 #[.pointer (some ⟨rb, 0, none⟩), v] w (PNum rb (k + 1) (fun x => x ∈ xs) w) := by
 obtain ⟨a, c, rfl⟩ := hv.form
 have hpos : 0 < xs.length := List.length_pos_iff.2 hn
 go_enter Try.func51, Try.ntmps51
 go_wp2_with fail
 refine (pick_c _ rb k _ hr hk).mono ?_
 rintro e w' ⟨x, rfl, ⟨hx0, hx1⟩, hR, hC⟩
 obtain ⟨j, rfl⟩ : ∃ j : Nat, x = j := ⟨x.toNat, by omega⟩
 have hj : j < xs.length := by omega
 obtain ⟨_, _, hv', _, _, _, hc⟩ := hv.chg hC hlo
 cases hv'
 obtain ⟨b, off, rfl, _, hcell, _⟩ := hc j hj
 have g : xs.getD j 0 = xs[j] := by simp [hj]
 rw [g] at hcell
 have hm : xs[j] ∈ xs := List.getElem_mem hj
 clear hc g hx1
 replace hR := Lib.hid hR
 replace hC := Lib.hid hC
 go_wp2_with fail
 go_ret
 exact ⟨_, rfl, hm, hR.out, hC.out⟩


theorem Ints.lit (w : World) (xs : List Int) (cs : Array Value) (n : Nat) (h : cs.toList = xs.map (Value.int .i64)) (hn : n = xs.length) (hs : xs.length ≤ 100) : Ints (w.alloc (.cells cs 3)) w.heap.size (.slice (some ⟨w.heap.size, 0, none⟩) n n) xs := by
 subst hn
 have hsz : cs.size = xs.length := by rw [← Array.length_toList, h, List.length_map]
 have := World.ownsRow_lit (base := w.heap.size) (e := 3) (size := 1) w cs xs.length (Nat.le_refl _) (by unfold maxLen; omega) (by omega)
 rw [h] at this
 exact Ints.of_own this (by omega)

/-- the bytes that the law was called with -/
def BysIn (w : World) (a : Option Addr) (n cap : Nat) : Prop :=
 n ≤ cap ∧ cap ≤ maxLen ∧ ∀ i, i < n → ∃ b off x, a = some ⟨b, off, none⟩ ∧ w.cell? ⟨b, off + i, none⟩ = some (.int .u8 x) ∧ 0 ≤ x ∧ x < 256
theorem BysIn.bys {w : World} {a : Option Addr} {n cap m : Nat} (h : BysIn w a n cap) (hm : m ≤ n) (h2 : m ≤ 2000) : Bys w w.heap.size a m cap := by
 obtain ⟨h3, h4, h5⟩ := h
 refine ⟨by omega, h4, h2, fun i hi => ?_⟩
 obtain ⟨b, off, x, ha, hc, hx⟩ := h5 i (by omega)
 exact ⟨b, off, x, ha, qB hc, hc, hx⟩

set_option maxHeartbeats 1600000 in
theorem newReader_c (a : Option Addr) (n cap : Nat) (w : World) (hb : BysIn w a n cap) :
  Calls Try.prog 38 #[.slice a n cap] w (fun e w' => e = .returned (.pointer (some ⟨w.heap.size, 0, none⟩)) ∧ Rd w' w.heap.size 0 ∧ Ext w w') := by
 have hb0 := hb
 obtain ⟨h1, h2, _⟩ := hb
 by_cases h : n ≤ 2000
 ·
  have hB := Lib.hid (hb0.bys (Nat.le_refl _) h)
  have hI : ¬ (2000 : Int) < n := by omega
  go_enter Try.func38, Try.ntmps38
  go_wp2_with fail
  go_ret
  refine ⟨rfl, ⟨a, n, cap, 0, by omega, by simp, by simp, by simp, ?_⟩, qXo⟩
  obtain ⟨g1, g2, g3, g4⟩ := hB.out
  refine ⟨g1, g2, g3, fun i hi => ?_⟩
  obtain ⟨b, off, x, ha, hbb, hc, hx⟩ := g4 i hi
  exact ⟨b, off, x, ha, hbb, ((Ext.refl w).alloc _).cell hc, hx⟩
 ·
  have hB := Lib.hid (hb0.bys (m := 2000) (by omega) (Nat.le_refl _))
  have hI : (2000 : Int) < n := by omega
  have hc1 : (2000 : Int) ≤ cap := by omega
  go_enter Try.func38, Try.ntmps38
  go_wp2_with fail
  go_ret
  refine ⟨rfl, ⟨a, 2000, cap, 0, by omega, by simp, by simp, by simp, ?_⟩, qXo⟩
  obtain ⟨g1, g2, g3, g4⟩ := hB.out
  refine ⟨g1, g2, g3, fun i hi => ?_⟩
  obtain ⟨b, off, x, ha, hbb, hc, hx⟩ := g4 i hi
  exact ⟨b, off, x, ha, hbb, ((Ext.refl w).alloc _).cell hc, hx⟩

theorem Rd.alloc {w : World} {rb k : Nat} (h : Rd w rb k) (o : Obj) : Rd (w.alloc o) rb k := h.ext ((Ext.refl _).alloc _)
theorem Rd.drew {w : World} {rb k : Nat} (h : Rd w rb k) : Rd w.drew rb k := h.ext ((Ext.refl _).drew)
theorem Rd.drewN {w : World} {rb k : Nat} (h : Rd w rb k) (n : Nat) : Rd (w.drewN n) rb k := h.ext ((Ext.refl _).drewN n)
theorem Rd.set {w : World} {rb k : Nat} {a : Addr} (h : Rd w rb k) (ha : rb < a.block) (u : Value) : Rd (w.setCell a u) rb k :=
 h.chgO ((Chg.refl a.block (a.block + 1) w).setCell (p := a) (Nat.le_refl _) (Nat.lt_succ_self _) u) ha
theorem Rd.set2 {w : World} {rb k : Nat} {a : Addr} {u : Value} (ha : rb < a.block) (h : Rd w rb k) : Rd (w.setCell a u) rb k := h.set ha u
/-- what was there before, but the reader, is as it was -/
def Rch (rb : Nat) (w w' : World) : Prop := Chg rb (rb + 1) w w'
theorem Rch.refl (rb : Nat) (w : World) : Rch rb w w := Chg.refl _ _ _
theorem Rch.step {rb : Nat} {w a b : World} (h : Rch rb w a) (k : Chg rb (rb + 1) a b) : Rch rb w b := Chg.trans h k
theorem Rch.alloc {rb : Nat} {w w' : World} (h : Rch rb w w') (o : Obj) : Rch rb w (w'.alloc o) := Chg.ext h ((Ext.refl _).alloc _)
theorem Rch.drew {rb : Nat} {w w' : World} (h : Rch rb w w') : Rch rb w w'.drew := Chg.ext h ((Ext.refl _).drew)
theorem Rch.drewN {rb : Nat} {w w' : World} (h : Rch rb w w') (n : Nat) : Rch rb w (w'.drewN n) := Chg.ext h ((Ext.refl _).drewN n)
theorem Rch.ext {rb : Nat} {w w' w'' : World} (h : Rch rb w w') (k : Ext w' w'') : Rch rb w w'' := Chg.ext h k
theorem Rch.set {rb : Nat} {w w' : World} (h : Rch rb w w') {a : Addr} (ha : w.heap.size ≤ a.block) (u : Value) : Rch rb w (w'.setCell a u) :=
 ⟨h.os, h.tape, h.output, by simpa using h.size, fun k hk hd => (Below.heap_setCell _ _ _ _ (by omega)).trans (h.block k hk hd)⟩
theorem Rch.size {rb : Nat} {w w' : World} (h : Rch rb w w') : w.heap.size ≤ w'.heap.size := Chg.size h
theorem Rch.rule {rb : Nat} {w w' : World} (h : Chg rb (rb + 1) w w') : ∀ b o, rb < b → b < w.heap.size → w'.cell? ⟨b, o, none⟩ = w.cell? ⟨b, o, none⟩ := fun b o h1 h2 => World.cell?_of_block (a := ⟨b, o, none⟩) (h.block b h2 (.inr h1))
theorem Rch.frule {rb : Nat} {w w' : World} (h : Chg rb (rb + 1) w w') : ∀ b o, rb < b → b < w.heap.size → w'.frozen? ⟨b, o, none⟩ = w.frozen? ⟨b, o, none⟩ := fun b o h1 h2 => World.frozen?_of_block (a := ⟨b, o, none⟩) (h.block b h2 (.inr h1))

/-- the ints of a literal -/
def litL (cs : Array Value) : List Int := cs.toList.filterMap fun | .int .i64 x => some x | _ => none
def litB (cs : Array Value) : Bool := cs.toList.all fun | .int .i64 _ => true | _ => false
theorem litL_map {l : List Value} (h : (l.all fun | .int .i64 _ => true | _ => false) = true) : l = (l.filterMap fun | .int .i64 x => some x | _ => none).map (Value.int .i64) := by
 induction l with
 | nil => rfl
 | cons c l ih =>
  rw [List.all_cons, Bool.and_eq_true] at h
  have h2 := ih h.2
  have h1 := h.1
  split at h1
  ·
   rw [List.filterMap_cons, List.map_cons, ← h2]
  ·
   cases h1
theorem Ints.litB {w : World} {cs : Array Value} {n b : Nat} (h : litB cs = true) (hn : n = cs.size) (hs : cs.size ≤ 100) (hb : b = w.heap.size) : Ints (w.alloc (.cells cs 3)) w.heap.size (.slice (some ⟨b, 0, none⟩) n n) (litL cs) := by
 subst hb
 have e := litL_map h
 have hl : (litL cs).length = cs.size := by
  have := congrArg List.length e
  rw [List.length_map] at this
  rw [litL, ← this]; simp
 exact Ints.lit w (litL cs) cs n e (by omega) (by omega)

theorem oneLit_c (cs : Array Value) (n b rb k : Nat) (w : World) (hr : Rd w rb k) (hk : k ≤ 1000000) (h : litB cs = true) (hn : n = cs.size) (hs : 0 < cs.size ∧ cs.size ≤ 100) (hb : b = w.heap.size) :
  Calls Try.prog 51 #[.pointer (some ⟨rb, 0, none⟩), .slice (some ⟨b, 0, none⟩) n n] (w.alloc (.cells cs 3)) (PNum rb (k + 1) (fun x => x ∈ litL cs) (w.alloc (.cells cs 3))) := by
 have hi := Ints.litB (w := w) h hn hs.2 hb
 refine one_c (litL cs) _ w.heap.size rb k _ (hr.alloc _) hk hi hr.lt fun h0 => ?_
 have e := litL_map h
 have : cs.toList.length = 0 := by rw [e]; unfold litL at h0; rw [h0]; rfl
 simp at this
 have := hs.1
 simp_all

theorem pick1_c (n : Int) (rb k : Nat) (w : World) (hr : Rd w rb k) (hk : k ≤ 1000000) (hn : 1 ≤ n) :
  Calls Try.prog 52 #[.pointer (some ⟨rb, 0, none⟩), .int .i64 n] w (PNum rb (k + 1) (fun x => 0 ≤ x ∧ x < n) w) :=
 (pick_c n rb k w hr hk).mono fun _ _ ⟨x, h1, ⟨h2, h3⟩, h4⟩ => ⟨x, h1, ⟨h2, by omega⟩, h4⟩

/-- three numbers at a block -/
def RgAt (w : World) (g : Nat) : Prop := ∃ x y z : Int, w.cell? ⟨g, 0, none⟩ = some (.int .i64 x) ∧ w.cell? ⟨g, 1, none⟩ = some (.int .i64 y) ∧ w.cell? ⟨g, 2, none⟩ = some (.int .i64 z) ∧ w.frozen? ⟨g, 0, none⟩ = false ∧ w.frozen? ⟨g, 1, none⟩ = false ∧ w.frozen? ⟨g, 2, none⟩ = false
theorem RgAt.lt {w : World} {g : Nat} (h : RgAt w g) : g < w.heap.size := by obtain ⟨x, y, z, h, _⟩ := h; exact qB h

theorem Chg.frz0 {w w' : World} {lo hi : Nat} (h : Chg lo hi w w') {b o : Nat} (h1 : b < lo) (h2 : b < w.heap.size) : w'.frozen? ⟨b, o, none⟩ = w.frozen? ⟨b, o, none⟩ := World.frozen?_of_block (a := ⟨b, o, none⟩) (h.block b h2 (.inl h1))
theorem BysIn.ext {w w' : World} {a : Option Addr} {n cap : Nat} (h : BysIn w a n cap) (hx : Ext w w') : BysIn w' a n cap := by
 obtain ⟨h1, h2, h3⟩ := h
 refine ⟨h1, h2, fun i hi => ?_⟩
 obtain ⟨b, off, x, ha, hc, hx2⟩ := h3 i hi
 exact ⟨b, off, x, ha, hx.cell hc, hx2⟩

theorem Rch.toExt' {rb : Nat} {w0 w w' : World} (h : Chg rb (rb + 1) w w') (hb : w0.heap.size ≤ rb) (hx : Ext w0 w) : Ext w0 w' := hx.chg h hb

theorem qRt {p : Prop} (h : p := by repeat (first | (with_reducible assumption) | (with_reducible exact Rch.refl _ _) | (with_reducible apply Rch.drewN) | (with_reducible apply Rch.drew) | (with_reducible apply Rch.alloc) | (with_reducible refine Rch.set ?_ qSo _))) : p := h
end Go.Proofs.Ytpgkhjmboiepcaa

/- A region that draws its order, some reads taken first under a condition on the world, which need not last behind the operations that wait for all those reads (a store to a cell that is read). No condition. -/
namespace Go.Proofs.Ytpgkhjmboiepcaa
open Go
set_option linter.unusedVariables false
section
variable {P : Program} {ops : Array Oper} {Q : Exit → Act → World → Prop} {md : Region.Mode} {S : World → Prop} {tl : Nat → Bool}

/-- whatever order is picked; the condition holds behind each operation but those of tl -/
def wpTail (P : Program) (md : Region.Mode) (ops : Array Oper) (Q : Exit → Act → World → Prop) (S : World → Prop) (tl : Nat → Bool) : Nat → Array Bool → Act → World → Prop
  | 0, listed, a, w => Region.ready md ops listed = [] ∧ Q .normal a w
  | n + 1, listed, a, w =>
    (Region.ready md ops listed = [] → Q .normal a w) ∧
    ∀ i ∈ Region.ready md ops listed, wpOp P ops Q i (fun a' w' => (tl i = false → S w') ∧ wpTail P md ops Q S tl n (listed.setIfInBounds i true) a' w') a w

theorem wpTail.any : ∀ (n : Nat) (listed : Array Bool) (a : Act) (w : World), wpTail P md ops Q S tl n listed a w → wpAny P md ops Q n listed a w
  | 0, _, _, _, h => h
  | n + 1, _, _, _, h => ⟨h.1, fun i hi => wpOp_mono (fun a' w' h' => wpTail.any n _ a' w' h'.2) (h.2 i hi)⟩

/-- what waits for i -/
def waitsB (md : Region.Mode) (ops : Array Oper) (tl : Nat → Bool) (i : Nat) : Bool :=
  (List.range ops.size).all fun j => !tl j || (match ops[j]? with | some o => o.after.toList.any fun e => Region.binds md e && e.on == i | none => true)

theorem wpTail.first {i : Nat} {oi : Oper} {v : Value} (hi : ops[i]? = some oi) (hsel : ∀ (j : Nat) (o : Oper) cs b, ops[j]? = some o → o.op ≠ .select cs b)
    (hQ : ∀ c a w, Q (.panic c) (a.put oi.dst v) w → Q (.panic c) a w) (hti : tl i = false) (hwt : waitsB md ops tl i = true) :
    ∀ (n : Nat) (listed : Array Bool) (a : Act) (w : World),
      (∀ j oj, ops[j]? = some oj → j ≠ i → listed.getD j true = false → (∀ e ∈ oj.after, Region.binds md e = true → e.on ≠ i) → oi.apart ops oj = true) →
      i ∈ Region.ready md ops listed → YieldsIf P ops S oi v a → S w →
      wpTail P md ops Q S tl n (listed.setIfInBounds i true) (a.put oi.dst v) w → wpTail P md ops Q S tl (n + 1) listed a w := by
  intro n
  induction n with
  | zero =>
    intro listed a w _ hr hy hS H
    refine ⟨fun h => (by rw [h] at hr; cases hr), fun j hj => ?_⟩
    by_cases hji : j = i
    · subst hji; exact hy.wpOp hi hS ⟨fun _ => hS, H⟩
    · have h0 := ready_mono hj hji
      rw [H.1] at h0
      cases h0
  | succ n ih =>
    intro listed a w hfree hr hy hS H
    refine ⟨fun h => (by rw [h] at hr; cases hr), fun j hj => ?_⟩
    by_cases hji : j = i
    · subst hji; exact hy.wpOp hi hS ⟨fun _ => hS, H⟩
    · have h1 := H.2 j (ready_mono hj hji)
      obtain ⟨hjun, oj, hoj, hall⟩ := mem_ready.1 hj
      have hnot : ∀ e ∈ oj.after, Region.binds md e = true → e.on ≠ i := fun e he hb heq => by
        have h3 := hall e he hb
        have h4 := (mem_ready.1 hr).1
        rw [heq] at h3
        rcases Nat.lt_or_ge i listed.size with h' | h'
        · simp [h'] at h3 h4; rw [h4] at h3; cases h3
        · simp [Array.getElem?_eq_none h'] at h3
      have htj : tl j = false := by
        cases ht : tl j with
        | false => rfl
        | true =>
          have hlt := (Array.getElem?_eq_some_iff.1 hoj).1
          unfold waitsB at hwt
          rw [List.all_eq_true] at hwt
          have h5 := hwt j (List.mem_range.2 hlt)
          rw [ht, hoj] at h5
          simp only [Bool.not_true, Bool.false_or, List.any_eq_true, Bool.and_eq_true, beq_iff_eq] at h5
          obtain ⟨e, he, hb, hon⟩ := h5
          exact absurd hon (hnot e (by simpa using he) hb)
      have h2 := wpOp_putIf hoj (hfree j oj hoj hji hjun hnot) (fun cs b => hsel i oi cs b hi) (fun cs b => hsel j oj cs b hoj) hQ hy h1
      have hfree' : ∀ k ok, ops[k]? = some ok → k ≠ i → (listed.setIfInBounds j true).getD k true = false →
          (∀ e ∈ ok.after, Region.binds md e = true → e.on ≠ i) → oi.apart ops ok = true := fun k ok hk hki hun hno => by
        refine hfree k ok hk hki ?_ hno
        by_cases hjk : j = k
        · subst hjk; exact hjun
        · rw [getD_set_ne true hjk] at hun; exact hun
      refine wpOp_mono (fun a' w' h3 => ⟨h3.2.1, ih (listed.setIfInBounds j true) a' w' hfree' (ready_mono hr (Ne.symm hji)) h3.1 (h3.2.1 htj) ?_⟩) h2
      rw [Array.setIfInBounds_comm _ _ hji]
      exact h3.2.2

theorem wpTail_take {i : Nat} {oi : Oper} {v : Value} {n : Nat} {listed : Array Bool} {a : Act} {w : World} (hi : ops[i]? = some oi)
    (hs : Region.noSelect ops = true) (hf : Region.free md ops listed i = true) (hr : (Region.ready md ops listed).contains i = true) (hti : tl i = false) (hwt : waitsB md ops tl i = true)
    (hQ : ∀ c a w, Q (.panic c) (a.put oi.dst v) w → Q (.panic c) a w) (hy : YieldsIf P ops S oi v a) (hS : S w)
    (h : wpTail P md ops Q S tl n (listed.setIfInBounds i true) (a.put oi.dst v) w) : wpTail P md ops Q S tl (n + 1) listed a w :=
  wpTail.first hi (Region.noSelect_spec hs) hQ hti hwt n listed a w (Region.free_spec hi hf) (by simpa using hr) hy hS h

theorem qTk {oi : Oper} {v : Value} {n : Nat} {listed : Array Bool} {a : Act} {w : World} (i : Nat) (hi : ops[i]? = some oi) (hy : YieldsIf P ops S oi v a)
    (h : wpTail P md ops Q S tl n (listed.setIfInBounds i true) (a.put oi.dst v) w)
    (hs : Region.noSelect ops = true := by kernel_rfl) (hf : Region.free md ops listed i = true := by kernel_rfl) (hr : (Region.ready md ops listed).contains i = true := by kernel_rfl) (hti : tl i = false := by rfl) (hwt : waitsB md ops tl i = true := by kernel_rfl)
    (hQ : ∀ c a w, Q (.panic c) (a.put oi.dst v) w → Q (.panic c) a w := by exact fun _ _ _ h => h) (hS : S w := by assumption) :
    wpTail P md ops Q S tl (n + 1) listed a w := wpTail_take hi hs hf hr hti hwt hQ hy hS h
theorem qTs {oi : Oper} {n : Nat} {listed : Array Bool} {a : Act} {w : World} (i : Nat) (hi : ops[i]? = some oi) (hy : YieldsIf P ops S oi undef a)
    (h : wpTail P md ops Q S tl n (listed.setIfInBounds i true) (a.put oi.dst undef) w)
    (hs : Region.noSelect ops = true := by kernel_rfl) (hf : Region.free md ops listed i = true := by kernel_rfl) (hr : (Region.ready md ops listed).contains i = true := by kernel_rfl) (hti : tl i = false := by rfl) (hwt : waitsB md ops tl i = true := by kernel_rfl)
    (hQ : ∀ c a w, Q (.panic c) (a.put oi.dst undef) w → Q (.panic c) a w := by exact fun _ _ _ h => h) (hS : S w := by assumption) :
    wpTail P md ops Q S tl (n + 1) listed a w := wpTail_take hi hs hf hr hti hwt hQ hy hS h

/-- one operation comes up, and no other can -/
theorem wpTail_one {i : Nat} {o : Oper} {n : Nat} {listed : Array Bool} {a : Act} {w : World} (hr : Region.ready md ops listed = [i]) (ho : ops[i]? = some o) (ht : tl i = false)
    (h : ∀ K' : Act → World → Prop, Shut (∀ a w, S w → (S w → wpTail P md ops Q S tl n (listed.setIfInBounds i true) a w) → K' a w) → if Region.wanted o (yielded ops a.tmps) = true then Oper.wp P o a w K' Q else K' (a.put o.dst undef) w) :
    wpTail P md ops Q S tl (n + 1) listed a w := by
  refine ⟨fun h0 => (by rw [h0] at hr; cases hr), ?_⟩
  rw [hr]
  intro j hj
  obtain rfl : j = i := by simpa using hj
  exact wpOp_step ho (fun K' hK => h K' (fun a w hS hW => hK a w ⟨fun _ => hS, hW hS⟩))
/-- an operation that the condition need not outlast comes up, and no other can -/
theorem wpTail_last {i : Nat} {o : Oper} {n : Nat} {listed : Array Bool} {a : Act} {w : World} (hr : Region.ready md ops listed = [i]) (ho : ops[i]? = some o) (ht : tl i = true)
    (h : ∀ K' : Act → World → Prop, Shut (∀ a w, wpTail P md ops Q S tl n (listed.setIfInBounds i true) a w → K' a w) → if Region.wanted o (yielded ops a.tmps) = true then Oper.wp P o a w K' Q else K' (a.put o.dst undef) w) :
    wpTail P md ops Q S tl (n + 1) listed a w := by
  refine ⟨fun h0 => (by rw [h0] at hr; cases hr), ?_⟩
  rw [hr]
  intro j hj
  obtain rfl : j = i := by simpa using hj
  exact wpOp_step ho (fun K' hK => h K' (fun a w hW => hK a w ⟨(fun h => (by rw [ht] at h; cases h)), hW⟩))
theorem wpTail_done {listed : Array Bool} {a : Act} {w : World} (hr : Region.ready md ops listed = []) (h : Q .normal a w) : ∀ n, wpTail P md ops Q S tl n listed a w
  | 0 => ⟨hr, h⟩
  | _ + 1 => ⟨fun _ => h, by rw [hr]; simp⟩
theorem wp_region_tail {id : Nat} {a : Act} {w : World} (tl : Nat → Bool) (hm : P.follows .mixedOrders = true) (hS : S w.drew)
    (h : S w.drew → wpTail P .any ops Q S tl ops.size (Array.replicate ops.size false) a w.drew) : (Code.region id ops true).wp P Q a w :=
  wp_region_any hm (wpTail.any _ _ _ _ (h hS))
end
end Go.Proofs.Ytpgkhjmboiepcaa

/- Words for walks: rows beside changed blocks, where elements lie, normal ranges. No condition. -/
namespace Go.Proofs.Ytpgkhjmboiepcaa
open Go.RowKit
set_option linter.unusedVariables false
set_option maxRecDepth 100000

theorem Chg.frzO {lo hi : Nat} {w w' : World} (k : Chg lo hi w w') {b o : Nat} {f : Bool} (hd : b < lo ∨ hi ≤ b) (hb : b < w.heap.size) (hf : w.frozen? ⟨b, o, none⟩ = f) : w'.frozen? ⟨b, o, none⟩ = f :=
  (World.frozen?_of_block (a := ⟨b, o, none⟩) (k.block b hb hd)).trans hf
theorem OwnI.chgN {lo hi base g n c : Nat} {w w' : World} {xs : List Int} (h : OwnI w base (.slice (some ⟨g, 0, none⟩) n c) xs) (k : Chg lo hi w w') (hd : g < lo ∨ hi ≤ g) : OwnI w' base (.slice (some ⟨g, 0, none⟩) n c) xs := by
  refine ⟨h.1, ?_⟩
  rcases h.2 with ⟨h2, _⟩ | ⟨g', cap, cur, hv, hg, hh, r⟩
  · cases h2
  · cases hv
    exact .inr ⟨g, _, cur, rfl, hg, (k.block g (Array.getElem?_eq_some_iff.1 hh).1 hd).trans hh, r⟩
theorem OwnI.set {base g n c : Nat} {w : World} {xs : List Int} (h : OwnI w base (.slice (some ⟨g, 0, none⟩) n c) xs) (i : Nat) (x : Int) (hi : i < xs.length) : OwnI (w.setCell ⟨g, i, none⟩ (.int .i64 x)) base (.slice (some ⟨g, 0, none⟩) n c) (xs.set i x) := by
  have hn : n = xs.length := by
    rcases h.2 with ⟨h2, _⟩ | ⟨g', cap, cur, hv, _⟩
    · cases h2
    · cases hv; rfl
  subst hn
  unfold OwnI
  rw [List.length_set]
  exact own_set h i x hi
theorem OwnI.setD {base g n c : Nat} {w : World} {xs : List Int} (h : OwnI w base (.slice (some ⟨g, 0, none⟩) n c) xs) (i : Nat) (x : Int) (hi : i < xs.length) : OwnI (w.setCell ⟨g, i, none⟩ (.int .i64 x)).drew base (.slice (some ⟨g, 0, none⟩) n c) (xs.set i x) :=
  (OwnI.set h i x hi).ext (Ext.drew (Ext.refl _))
theorem OwnI.cell {base g n c : Nat} {w : World} {xs : List Int} (h : OwnI w base (.slice (some ⟨g, 0, none⟩) n c) xs) (i : Nat) (hi : i < xs.length) : w.cell? ⟨g, i, none⟩ = some (.int .i64 (xs.getD i 0)) ∧ w.frozen? ⟨g, i, none⟩ = false := by
  have hn : n = xs.length := by
    rcases h.2 with ⟨h2, _⟩ | ⟨g', cap, cur, hv, _⟩
    · cases h2
    · cases hv; rfl
  subst hn
  exact own_cell h i hi
theorem OwnI.len {base g n c : Nat} {w : World} {xs : List Int} (h : OwnI w base (.slice (some ⟨g, 0, none⟩) n c) xs) (hn : n ≤ 4194304 := by omega) : xs.length ≤ 4194304 := by
  rcases h.2 with ⟨h2, _⟩ | ⟨g', cap, cur, hv, _⟩
  · cases h2
  · cases hv; exact hn
theorem OwnI.any {base : Nat} {w : World} {v : Value} {xs : List Int} (h : OwnI w base v xs) : ∃ a n c, v = .slice a n c := by
  rcases h.2 with ⟨rfl, _⟩ | ⟨g', cap, cur, rfl, _⟩
  · exact ⟨_, _, _, rfl⟩
  · exact ⟨_, _, _, rfl⟩
theorem Ints.any {lo : Nat} {w : World} {v : Value} {xs : List Int} (h : Ints w lo v xs) : ∃ a n c, v = .slice a n c := by
  obtain ⟨a, c, rfl, _⟩ := h
  exact ⟨_, _, _, rfl⟩
theorem OwnI.drw {base : Nat} {w : World} {v : Value} {xs : List Int} (h : OwnI w base v xs) : OwnI w.drew base v xs := h.ext (Ext.drew (Ext.refl _))

theorem chg_grown {w w' : World} {o : Obj} {g : Nat} (hg : (w.alloc o).grownBy w' (some g)) : Chg g (g + 1) w w' :=
  ⟨hg.os, hg.tape, hg.output, by have := hg.size; simp at this; omega, fun k hk hd => by
    have h1 := hg.block k (by simp; omega) (by simp; omega)
    rw [h1]
    have := ((Ext.refl w).alloc o).block k hk
    exact this⟩
theorem below_frz {B : Nat} {w w' : World} (h : Below B w w') {b o : Nat} {f : Bool} (hb : b < B) (hc : w.frozen? ⟨b, o, none⟩ = f) : w'.frozen? ⟨b, o, none⟩ = f :=
  (Below.frozen (p := ⟨b, o, none⟩) h hb).trans hc
/-- two rows of ints side by side -/
structure Two (B : Nat) (wr : World) (v1 v2 : Value) (xs ys : List Int) : Prop where
  o1 : OwnI wr B v1 xs
  o2 : OwnI wr B v2 ys
  sep : ∀ g, v1.ownBlock = some g → v2.ownBlock ≠ some g
  size : B ≤ wr.heap.size
theorem Two.nil {B : Nat} {w : World} (h : B ≤ w.heap.size) : Two B w (.slice none 0 0) (.slice none 0 0) [] [] := ⟨OwnI.nil _ _, OwnI.nil _ _, (fun g h => (by cases h)), h⟩
theorem Two.ext {B : Nat} {w w' : World} {v1 v2 : Value} {xs ys : List Int} (h : Two B w v1 v2 xs ys) (hx : Ext w w') : Two B w' v1 v2 xs ys := ⟨h.o1.ext hx, h.o2.ext hx, h.sep, Nat.le_trans h.size hx.size⟩
theorem Two.chg {B lo hi : Nat} {w w' : World} {v1 v2 : Value} {xs ys : List Int} (h : Two B w v1 v2 xs ys) (k : Chg lo hi w w') (hb : hi ≤ B) : Two B w' v1 v2 xs ys := ⟨h.o1.chg k hb, h.o2.chg k hb, h.sep, Nat.le_trans h.size k.size⟩
theorem own_lt {B : Nat} {w : World} {v : Value} {xs : List Int} (h : OwnI w B v xs) {g : Nat} (hg : v.ownBlock = some g) : B ≤ g ∧ g < w.heap.size := by
  rcases h.2 with ⟨rfl, _⟩ | ⟨g', cap, cur, rfl, hb, hh, _⟩
  · cases hg
  · cases hg; exact ⟨hb, (Array.getElem?_eq_some_iff.1 hh).1⟩
theorem Two.app1 {B : Nat} {w w' : World} {v1 v2 v' : Value} {xs ys zs : List Int} (h : Two B w v1 v2 xs ys) (ho : OwnI w' B v' zs) (hg : w.grownBy w' v1.ownBlock) (hv : v'.ownBlock = v1.ownBlock ∨ v'.ownBlock = some w.heap.size) : Two B w' v' v2 zs ys := by
  have hs2 : ∀ g, v2.ownBlock = some g → B ≤ g ∧ g < w.heap.size := fun g h2 => own_lt h.o2 h2
  refine ⟨ho, h.o2.kept hg ?_, fun g hg' h2 => ?_, Nat.le_trans h.size hg.size⟩
  · cases h2 : v2.ownBlock with
    | none => exact .inl rfl
    | some g => exact .inr fun h3 => h.sep g h3.symm h2
  · rcases hv with hv | hv
    · exact h.sep g (hv ▸ hg') h2
    · rw [hv] at hg'; cases hg'; have := (hs2 _ h2).2; omega
theorem Two.swap {B : Nat} {w : World} {v1 v2 : Value} {xs ys : List Int} (h : Two B w v1 v2 xs ys) : Two B w v2 v1 ys xs := ⟨h.o2, h.o1, fun g h2 h1 => h.sep g h1 h2, h.size⟩
theorem Two.app2 {B : Nat} {w w' : World} {v1 v2 v' : Value} {xs ys zs : List Int} (h : Two B w v1 v2 xs ys) (ho : OwnI w' B v' zs) (hg : w.grownBy w' v2.ownBlock) (hv : v'.ownBlock = v2.ownBlock ∨ v'.ownBlock = some w.heap.size) : Two B w' v1 v' xs zs := (h.swap.app1 ho hg hv).swap

/-- the normal range of a few numbers is small -/
theorem normL_bd {L : List Int} (h : ∀ x ∈ L, -500 ≤ x ∧ x ≤ 500) : (-1000 ≤ (normL L).1 ∧ (normL L).1 ≤ 1000) ∧ (-1000 ≤ (normL L).2.1 ∧ (normL L).2.1 ≤ 1000) ∧ (-1000 ≤ (normL L).2.2 ∧ (normL L).2.2 ≤ 1000) ∧ (L.Nodup → (normL L).2.2 ≠ 0) := by
  match L, h with
  | [], _ => simp [normL]
  | [x], h => have := h x (by simp); simp [normL]; omega
  | x :: y :: r, h =>
    have h1 := h x (by simp)
    have h2 := h y (by simp)
    have h3 := h ((y :: r).getLast (by simp)) (List.mem_cons_of_mem _ (List.getLast_mem _))
    simp only [normL]
    refine ⟨by omega, by split <;> omega, by omega, fun hn => ?_⟩
    have : x ≠ y := by
      intro he; subst he
      have := (List.nodup_cons.1 hn).1
      exact this (List.mem_cons_self ..)
    omega

theorem mul_bdS {x t : Int} (h : -1000 ≤ x ∧ x ≤ 1000) (k : -60 ≤ t ∧ t ≤ 60) : -60000 ≤ x * t ∧ x * t ≤ 60000 := by
  rcases Int.le_total 0 t with ht | ht
  · have a1 := Int.mul_le_mul_of_nonneg_right h.2 ht
    have a2 := Int.mul_le_mul_of_nonneg_right h.1 ht
    omega
  · have a1 := Int.mul_le_mul_of_nonpos_right h.2 ht
    have a2 := Int.mul_le_mul_of_nonpos_right h.1 ht
    omega

end Go.Proofs.Ytpgkhjmboiepcaa

/- Walks: cutDim of the reference. -/
namespace Go.Proofs.Ytpgkhjmboiepcaa
open Go.RowKit
set_option linter.unusedVariables false
set_option maxRecDepth 100000


theorem PView.own {w w' : World} {base : Int} {shape strides : List Int} {v1 v2 : Value} (o1 : OwnZ w' w.heap.size v1 shape) (o2 : OwnZ w' w.heap.size v2 strides) (hd : shape ≠ [] → strides ≠ [] → v1.ownBlock ≠ v2.ownBlock) (l1 : shape.length ≤ 4194304) (l2 : strides.length ≤ 4194304) (hx : Ext w w') :
  PView w base shape strides (.returned (.agg #[.int .i64 base, v1, v2])) w' := ⟨v1, v2, rfl, o1.ints l1, o2.ints l2, o1, o2, hd, hx⟩

set_option maxHeartbeats 6400000 in
theorem cutDim_c (b1 : Int) (u1 v1 : Value) (s1 t1 : List Int) (d : Nat) (F T B : Int) (hf ht : Bool) (L : List Int) (w : World) (l1 m1 : Nat) (h1 : Ints w l1 u1 s1) (k1 : Ints w m1 v1 t1) (ha : viewB b1 s1 t1 = true) (hd : d < s1.length) (hs : sliceB F T B hf ht = true) (hL : idxS (s1.getD d 0) F T B hf ht = L) :
  Calls Try.prog 146 #[.agg #[.int .i64 b1, u1, v1], .int .i64 (d : Int), .agg #[.int .i64 F, .int .i64 T, .int .i64 B, .bool hf, .bool ht]] w (PView w (cutB b1 s1 t1 d L) (cutS s1 d L) (cutT s1 t1 d L)) := by
 have hlen1 := ints_len h1
 have hlen2 := ints_len k1
 obtain ⟨j1, j2, j3, j4, -⟩ := viewB_in ha
 have hd2 : d < t1.length := by omega
 have hin := Lib.hid j1
 have hst := Lib.hid j4
 have hsl := Lib.hid hs
 have hj2 := Lib.hid j2
 have hdI : (d : Int) < s1.length := by omega
 have hdI2 : (d : Int) < t1.length := by omega
 have hd0 : (0 : Int) ≤ d := by omega
 have hn60 : 0 ≤ s1.getD d 0 ∧ s1.getD d 0 ≤ 60 := (shapeB_in j1).2.1 _ (getD_mem hd)
 have hx60 : -60 ≤ t1.getD d 0 ∧ t1.getD d 0 ≤ 60 := j4 _ (getD_mem hd2)
 have hLI := Lib.hid hL
 have hLm : ∀ x ∈ L, 0 ≤ x ∧ x ≤ 60 := fun x hx => by rw [← hL] at hx; have := idxS_in hn60.1 (sliceB_in hs).2.2.2 x hx; omega
 have hLb : Hid (∀ x ∈ L, -1000000 ≤ x ∧ x ≤ 1000000) := Lib.hid (fun x hx => by have := hLm x hx; omega)
 obtain ⟨q1, q2, q3, q4⟩ := normL_bd (L := L) (fun x hx => by have := hLm x hx; omega)
 have q5 := q4 (by rw [← hL]; exact numL_nodup (sliceB_in hs).2.2.2)
 have hN : Hid (numL (normL L).1 (normL L).2.1 (normL L).2.2 = L) := Lib.hid (by rw [← hL]; exact norm_numL (sliceB_in hs).2.2.2)
 have hnum : Hid (∀ W, Calls Try.prog 157 #[.agg #[.int .i64 (normL L).1, .int .i64 (normL L).2.1, .int .i64 (normL L).2.2]] W (PInts W L)) := Lib.hid (fun W => by have := numbers_c (normL L).1 (normL L).2.1 (normL L).2.2 W q1 q2 q3 q5; rwa [hN.out] at this)
 have hAx : -60000 ≤ (normL L).1 * t1.getD d 0 ∧ (normL L).1 * t1.getD d 0 ≤ 60000 := mul_bdS q1 hx60
 have hCx : -60000 ≤ (normL L).2.2 * t1.getD d 0 ∧ (normL L).2.2 * t1.getD d 0 ≤ 60000 := mul_bdS q3 hx60
 have hne1 : s1 ≠ [] := fun h => by rw [h] at hd; simp at hd
 have hne2 : t1 ≠ [] := fun h => by rw [h] at hd2; simp at hd2
 have hLl : L.length ≤ 60 := by
  rcases num_len_le (sliceB_in hs).2.2.2 (idxS_in hn60.1 (sliceB_in hs).2.2.2) with h | h <;> (rw [← idxS, hL] at h; omega)
 clear ha j1 j2 j4 hs hL hLm q4 q5 hN
 obtain ⟨a1, cp1, rfl⟩ := h1.form
 obtain ⟨a2, cp2, rfl⟩ := k1.form
 obtain ⟨b1s, o1s, rfl, hc1⟩ := h1.at d hd
 obtain ⟨b2s, o2s, rfl, hc2⟩ := k1.at d hd2
 generalize hg : s1.getD d 0 = n at *
 replace hg := Lib.hid hg
 generalize hg2 : t1.getD d 0 = x at *
 replace hg2 := Lib.hid hg2
 have hnorm : ∀ (v : Value) (W : World) (lo : Nat), Ints W lo v L → Calls Try.prog 155 #[v] W (fun e w' => e = .returned (.agg #[.int .i64 (normL L).1, .int .i64 (normL L).2.1, .int .i64 (normL L).2.2]) ∧ Ext W w') := fun v W lo h => normal_c L v W lo h hLb.out
 generalize hN1 : (normL L).1 = A at *
 generalize hN2 : (normL L).2.1 = A2 at *
 generalize hN3 : (normL L).2.2 = A3 at *
 replace hnorm := Lib.hid hnorm
 replace hN1 := Lib.hid hN1
 replace hN2 := Lib.hid hN2
 replace hN3 := Lib.hid hN3
 have z_ea : b1s < w.heap.size := qB hc1
 have ea0 := hc1
 have y_ea := z_ea
 have z_eb : b2s < w.heap.size := qB hc2
 have eb0 := hc2
 have y_eb := z_eb
 clear hc1 hc2
 go_enter Try.func146, Try.ntmps146
 go_wp2_with fail
 refine (scopyView_c b1 _ _ s1 t1 _ l1 m1 (h1.ext qXo) (k1.ext qXo)).mono ?_
 rintro e w1 ⟨x1, x2, rfl, -, -, o1, o2, od, xw1⟩
 have Lw1 : Ext w w1 := Ext.trans qXt xw1
 have Xw1 : Ext w w1 := Lw1
 replace ea0 := Lw1.cell ea0
 replace eb0 := Lw1.cell eb0
 have va0 : w1.cell? ⟨w.heap.size, 0, none⟩ = some (.int .i64 b1) := xw1.cell qCl
 have va1 : w1.cell? ⟨w.heap.size, 1, none⟩ = some (.slice (some ⟨b1s, o1s, none⟩) s1.length cp1) := xw1.cell qCl
 have va2 : w1.cell? ⟨w.heap.size, 2, none⟩ = some (.slice (some ⟨b2s, o2s, none⟩) t1.length cp2) := xw1.cell qCl
 have sl0 : w1.cell? ⟨w.heap.size + 1, 0, none⟩ = some (.int .i64 F) := xw1.cell qCl
 have sl1 : w1.cell? ⟨w.heap.size + 1, 1, none⟩ = some (.int .i64 T) := xw1.cell qCl
 have sl2 : w1.cell? ⟨w.heap.size + 1, 2, none⟩ = some (.int .i64 B) := xw1.cell qCl
 have sl3 : w1.cell? ⟨w.heap.size + 1, 3, none⟩ = some (.bool hf) := xw1.cell qCl
 have sl4 : w1.cell? ⟨w.heap.size + 1, 4, none⟩ = some (.bool ht) := xw1.cell qCl
 have q0 : w1.cell? ⟨w.heap.size + 1 + 1, 0, none⟩ = some (.int .i64 0) := xw1.cell qCl
 have q1 : w1.cell? ⟨w.heap.size + 1 + 1, 1, none⟩ = some (.slice none 0 0) := xw1.cell qCl
 have q2 : w1.cell? ⟨w.heap.size + 1 + 1, 2, none⟩ = some (.slice none 0 0) := xw1.cell qCl
 have f_q0 : w1.frozen? ⟨w.heap.size + 1 + 1, 0, none⟩ = false := xw1.frz (by simp <;> omega) qFz
 have f_q1 : w1.frozen? ⟨w.heap.size + 1 + 1, 1, none⟩ = false := xw1.frz (by simp <;> omega) qFz
 have f_q2 : w1.frozen? ⟨w.heap.size + 1 + 1, 2, none⟩ = false := xw1.frz (by simp <;> omega) qFz
 have z_ea : b1s < w1.heap.size := qB ea0
 have z_eb : b2s < w1.heap.size := qB eb0
 have z_va : w.heap.size < w1.heap.size := qB va0
 have z_sl : w.heap.size + 1 < w1.heap.size := qB sl0
 have z_q : w.heap.size + 1 + 1 < w1.heap.size := qB q0
 have s_w1 : w.heap.size ≤ w1.heap.size := Xw1.size
 clear xw1
 have O1 := (o1.ofNe hne1).lower (show w.heap.size + 3 ≤ _ by simp)
 have O2 := (o2.ofNe hne2).lower (show w.heap.size + 3 ≤ _ by simp)
 clear o1 o2
 obtain ⟨g1, r1, rfl, G1, G1'⟩ := O1.row hne1
 obtain ⟨g2, r2, rfl, G2, G2'⟩ := O2.row hne2
 have hgg : g1 ≠ g2 := fun h => od hne1 hne2 (by rw [h]; rfl)
 clear od
 go_wp2_with fail
 generalize hW1 : w1.alloc (.cells #[.int .i64 b1, .slice (some ⟨g1, 0, none⟩) s1.length r1, .slice (some ⟨g2, 0, none⟩) t1.length r2] 25) = w2 at *
 have Lw2 : Ext w1 w2 := by subst hW1; exact qXt
 have Xw2 : Ext w w2 := Xw1.trans Lw2
 replace ea0 := Lw2.cell ea0
 replace eb0 := Lw2.cell eb0
 replace va0 := Lw2.cell va0
 replace va1 := Lw2.cell va1
 replace va2 := Lw2.cell va2
 replace sl0 := Lw2.cell sl0
 replace sl1 := Lw2.cell sl1
 replace sl2 := Lw2.cell sl2
 replace sl3 := Lw2.cell sl3
 replace sl4 := Lw2.cell sl4
 replace q0 := Lw2.cell q0
 replace q1 := Lw2.cell q1
 replace q2 := Lw2.cell q2
 replace f_q0 := Lw2.frz z_q f_q0
 replace f_q1 := Lw2.frz z_q f_q1
 replace f_q2 := Lw2.frz z_q f_q2
 have y0 : w2.cell? ⟨w1.heap.size, 0, none⟩ = some (.int .i64 b1) := by subst hW1; exact qCl
 have y1 : w2.cell? ⟨w1.heap.size, 1, none⟩ = some (.slice (some ⟨g1, 0, none⟩) s1.length r1) := by subst hW1; exact qCl
 have y2 : w2.cell? ⟨w1.heap.size, 2, none⟩ = some (.slice (some ⟨g2, 0, none⟩) t1.length r2) := by subst hW1; exact qCl
 have f_y0 : w2.frozen? ⟨w1.heap.size, 0, none⟩ = false := by subst hW1; exact qFz
 have f_y1 : w2.frozen? ⟨w1.heap.size, 1, none⟩ = false := by subst hW1; exact qFz
 have f_y2 : w2.frozen? ⟨w1.heap.size, 2, none⟩ = false := by subst hW1; exact qFz
 have z_ea : b1s < w2.heap.size := qB ea0
 have z_eb : b2s < w2.heap.size := qB eb0
 have z_va : w.heap.size < w2.heap.size := qB va0
 have z_sl : w.heap.size + 1 < w2.heap.size := qB sl0
 have z_q : w.heap.size + 1 + 1 < w2.heap.size := qB q0
 have z_y : w1.heap.size < w2.heap.size := qB y0
 replace O1 := O1.ext Lw2
 replace O2 := O2.ext Lw2
 have s_w2 : w.heap.size ≤ w2.heap.size := Xw2.size
 clear hW1
 go_cut [8] (fun s8 wx => ∃ g : Nat, s8 = .pointer (some ⟨g, 0, none⟩) ∧ Ext w2 wx ∧ w2.heap.size ≤ g ∧ wx.cell? ⟨g, 0, none⟩ = some (.int .i64 A) ∧ wx.cell? ⟨g, 1, none⟩ = some (.int .i64 A2) ∧ wx.cell? ⟨g, 2, none⟩ = some (.int .i64 A3))
 case first =>
  refine wp_region_held_drew (S := fun w' => w'.cell? ⟨b1s, o1s + d, none⟩ = some (.int .i64 n) ∧ w'.cell? ⟨w.heap.size, 1, none⟩ = some (.slice (some ⟨b1s, o1s, none⟩) s1.length cp1) ∧ w'.cell? ⟨w.heap.size + 1, 0, none⟩ = some (.int .i64 F) ∧ w'.cell? ⟨w.heap.size + 1, 1, none⟩ = some (.int .i64 T) ∧ w'.cell? ⟨w.heap.size + 1, 2, none⟩ = some (.int .i64 B) ∧ w'.cell? ⟨w.heap.size + 1, 3, none⟩ = some (.bool hf) ∧ w'.cell? ⟨w.heap.size + 1, 4, none⟩ = some (.bool ht)) qKr ⟨ea0, va1, sl0, sl1, sl2, sl3, sl4⟩ (fun hHeld => ?_)
  refine qHk (v := ?_) 0 rfl (.inl ⟨by rfl, ?_⟩) ?_
  rotate_left
  ·
   (intro w hSw; (try dsimp only at hSw); go_simp; try with_reducible rfl)
  try simp only [Act.put, qa, qb, qc, qD, qE, qF]
  refine qHk (v := ?_) 1 rfl (.inl ⟨by rfl, ?_⟩) ?_
  rotate_left
  ·
   (intro w hSw; (try dsimp only at hSw); go_simp; try with_reducible rfl)
  try simp only [Act.put, qa, qb, qc, qD, qE, qF]
  refine qHk (v := ?_) 2 rfl (.inl ⟨by rfl, ?_⟩) ?_
  rotate_left
  ·
   (intro w hSw; (try dsimp only at hSw); go_simp; try with_reducible rfl)
  try simp only [Act.put, qa, qb, qc, qD, qE, qF]
  refine qHk (v := ?_) 3 rfl (.inl ⟨by rfl, ?_⟩) ?_
  rotate_left
  ·
   (intro w hSw; (try dsimp only at hSw); go_simp; try with_reducible rfl)
  try simp only [Act.put, qa, qb, qc, qD, qE, qF]
  refine qHk (v := ?_) 4 rfl (.inl ⟨by rfl, ?_⟩) ?_
  rotate_left
  ·
   (intro w hSw; (try dsimp only at hSw); go_simp; try with_reducible rfl)
  try simp only [Act.put, qa, qb, qc, qD, qE, qF]
  refine qHk (v := ?_) 5 rfl (.inl ⟨by rfl, ?_⟩) ?_
  rotate_left
  ·
   (intro w hSw; (try dsimp only at hSw); go_simp; try with_reducible rfl)
  try simp only [Act.put, qa, qb, qc, qD, qE, qF]
  refine wpAnyH_ready (rs := [6, 8]) qKr (by simp) ?_
  refine AllReadyH.cons rfl (fun K hK => ?_) (AllReadyH.cons rfl (fun K hK => ?_) AllReadyH.nil)
  rotate_left
  try simp only [Act.put, qa, qb, qc, qD, qE, qF]
  go_simp
  refine hK.out _ _ ⟨(show Ext w2 _ from qXt).cell ea0, (show Ext w2 _ from qXt).cell va1, (show Ext w2 _ from qXt).cell sl0, (show Ext w2 _ from qXt).cell sl1, (show Ext w2 _ from qXt).cell sl2, (show Ext w2 _ from qXt).cell sl3, (show Ext w2 _ from qXt).cell sl4⟩ (fun hHeld => ?_)
  clear hK K
  try simp only [Act.put, qa, qb, qc, qD, qE, qF]
  have qa0 : (w2.drew.alloc (.cells #[.int .i64 0, .int .i64 0, .int .i64 0] 139)).cell? ⟨w2.heap.size, 0, none⟩ = some (.int .i64 0) := qCl
  have qf0 : (w2.drew.alloc (.cells #[.int .i64 0, .int .i64 0, .int .i64 0] 139)).frozen? ⟨w2.heap.size, 0, none⟩ = false := qFz
  have qa1 : (w2.drew.alloc (.cells #[.int .i64 0, .int .i64 0, .int .i64 0] 139)).cell? ⟨w2.heap.size, 1, none⟩ = some (.int .i64 0) := qCl
  have qf1 : (w2.drew.alloc (.cells #[.int .i64 0, .int .i64 0, .int .i64 0] 139)).frozen? ⟨w2.heap.size, 1, none⟩ = false := qFz
  have qa2 : (w2.drew.alloc (.cells #[.int .i64 0, .int .i64 0, .int .i64 0] 139)).cell? ⟨w2.heap.size, 2, none⟩ = some (.int .i64 0) := qCl
  have qf2 : (w2.drew.alloc (.cells #[.int .i64 0, .int .i64 0, .int .i64 0] 139)).frozen? ⟨w2.heap.size, 2, none⟩ = false := qFz
  have zg : w2.heap.size < (w2.drew.alloc (.cells #[.int .i64 0, .int .i64 0, .int .i64 0] 139)).heap.size := qB qa0
  have hg : w2.heap.size ≤ w2.heap.size := Nat.le_refl _
  refine qHr 6 rfl (fun K hK => ?_)
  try simp only [Act.put, qa, qb, qc, qD, qE, qF]
  go_simp
  refine (indices_c n F T B hf ht _ (by omega) hsl.out).mono ?_
  rintro e w3 ⟨r3, rfl, i3, -, xw3⟩
  have Lw3 : Ext w2 w3 := Ext.trans qXt xw3
  replace ea0 := Lw3.cell ea0
  replace va1 := Lw3.cell va1
  replace sl0 := Lw3.cell sl0
  replace sl1 := Lw3.cell sl1
  replace sl2 := Lw3.cell sl2
  replace sl3 := Lw3.cell sl3
  replace sl4 := Lw3.cell sl4
  rw [hLI.out] at i3
  replace qa0 := xw3.cell qa0
  replace qf0 := xw3.frz zg qf0
  replace qa1 := xw3.cell qa1
  replace qf1 := xw3.frz zg qf1
  replace qa2 := xw3.cell qa2
  replace qf2 := xw3.frz zg qf2
  replace zg := Nat.lt_of_lt_of_le zg xw3.size
  refine hK.out _ _ ⟨ea0, va1, sl0, sl1, sl2, sl3, sl4⟩ (fun hHeld => ?_)
  clear hK K
  try simp only [Act.put, qa, qb, qc, qD, qE, qF]
  refine qHr 7 rfl (fun K hK => ?_)
  try simp only [Act.put, qa, qb, qc, qD, qE, qF]
  go_simp
  refine (hnorm.out _ _ _ (i3.ext qXt)).mono ?_
  rintro e w4 ⟨rfl, xw4⟩
  have Lw4 : Ext w3 w4 := Ext.trans qXt xw4
  replace ea0 := Lw4.cell ea0
  replace va1 := Lw4.cell va1
  replace sl0 := Lw4.cell sl0
  replace sl1 := Lw4.cell sl1
  replace sl2 := Lw4.cell sl2
  replace sl3 := Lw4.cell sl3
  replace sl4 := Lw4.cell sl4
  replace qa0 := xw4.cell qa0
  replace qf0 := xw4.frz zg qf0
  replace qa1 := xw4.cell qa1
  replace qf1 := xw4.frz zg qf1
  replace qa2 := xw4.cell qa2
  replace qf2 := xw4.frz zg qf2
  replace zg := Nat.lt_of_lt_of_le zg xw4.size
  refine hK.out _ _ ⟨ea0, va1, sl0, sl1, sl2, sl3, sl4⟩ (fun hHeld => ?_)
  clear hK K
  try simp only [Act.put, qa, qb, qc, qD, qE, qF]
  refine qHr 9 rfl (fun K hK => ?_)
  try simp only [Act.put, qa, qb, qc, qD, qE, qF]
  go_simp
  have XE : Ext w2 (((w4.setCell ⟨w2.heap.size, 0, none⟩ (.int .i64 A)).setCell ⟨w2.heap.size, 1, none⟩ (.int .i64 A2)).setCell ⟨w2.heap.size, 2, none⟩ (.int .i64 A3)) := (Ext.setCell (Ext.setCell (Ext.setCell (Lw3.trans Lw4) hg _) hg _) hg _)
  have nr0 : (((w4.setCell ⟨w2.heap.size, 0, none⟩ (.int .i64 A)).setCell ⟨w2.heap.size, 1, none⟩ (.int .i64 A2)).setCell ⟨w2.heap.size, 2, none⟩ (.int .i64 A3)).cell? ⟨w2.heap.size, 0, none⟩ = some (.int .i64 A) := qCl
  have f_nr0 : (((w4.setCell ⟨w2.heap.size, 0, none⟩ (.int .i64 A)).setCell ⟨w2.heap.size, 1, none⟩ (.int .i64 A2)).setCell ⟨w2.heap.size, 2, none⟩ (.int .i64 A3)).frozen? ⟨w2.heap.size, 0, none⟩ = false := qFz
  have nr1 : (((w4.setCell ⟨w2.heap.size, 0, none⟩ (.int .i64 A)).setCell ⟨w2.heap.size, 1, none⟩ (.int .i64 A2)).setCell ⟨w2.heap.size, 2, none⟩ (.int .i64 A3)).cell? ⟨w2.heap.size, 1, none⟩ = some (.int .i64 A2) := qCl
  have f_nr1 : (((w4.setCell ⟨w2.heap.size, 0, none⟩ (.int .i64 A)).setCell ⟨w2.heap.size, 1, none⟩ (.int .i64 A2)).setCell ⟨w2.heap.size, 2, none⟩ (.int .i64 A3)).frozen? ⟨w2.heap.size, 1, none⟩ = false := qFz
  have nr2 : (((w4.setCell ⟨w2.heap.size, 0, none⟩ (.int .i64 A)).setCell ⟨w2.heap.size, 1, none⟩ (.int .i64 A2)).setCell ⟨w2.heap.size, 2, none⟩ (.int .i64 A3)).cell? ⟨w2.heap.size, 2, none⟩ = some (.int .i64 A3) := qCl
  have f_nr2 : (((w4.setCell ⟨w2.heap.size, 0, none⟩ (.int .i64 A)).setCell ⟨w2.heap.size, 1, none⟩ (.int .i64 A2)).setCell ⟨w2.heap.size, 2, none⟩ (.int .i64 A3)).frozen? ⟨w2.heap.size, 2, none⟩ = false := qFz
  have hg1 : w2.heap.size ≤ w2.heap.size := hg
  have KE : Chg w2.heap.size (w2.heap.size + 1) w4 (((w4.setCell ⟨w2.heap.size, 0, none⟩ (.int .i64 A)).setCell ⟨w2.heap.size, 1, none⟩ (.int .i64 A2)).setCell ⟨w2.heap.size, 2, none⟩ (.int .i64 A3)) := (by repeat (first | (with_reducible exact Chg.refl _ _ _) | (with_reducible refine Chg.setCell ?_ qSo qSo _) | (with_reducible refine Chg.ext ?_ (Ext.alloc (Ext.refl _) _)) | (with_reducible refine Chg.ext ?_ (Ext.drew (Ext.refl _)))))
  replace ea0 := KE.cell (by omega) ea0
  replace va1 := KE.cell (by omega) va1
  replace sl0 := KE.cell (by omega) sl0
  replace sl1 := KE.cell (by omega) sl1
  replace sl2 := KE.cell (by omega) sl2
  replace sl3 := KE.cell (by omega) sl3
  replace sl4 := KE.cell (by omega) sl4
  refine hK.out _ _ ⟨ea0, va1, sl0, sl1, sl2, sl3, sl4⟩ (fun hHeld => ?_)
  clear hK K KE
  try simp only [Act.put, qa, qb, qc, qD, qE, qF]
  refine wpAnyH_done qKr ?_ _
  clear hHeld
  generalize (((w4.setCell ⟨w2.heap.size, 0, none⟩ (.int .i64 A)).setCell ⟨w2.heap.size, 1, none⟩ (.int .i64 A2)).setCell ⟨w2.heap.size, 2, none⟩ (.int .i64 A3)) = WE at *
  go_step
  go_step
  go_meet
  case rel => exact ⟨_, rfl, XE, hg1, nr0, nr1, nr2⟩
  try simp only [Act.put, qa, qb, qc, qD, qE, qF]
  go_simp
  refine (indices_c n F T B hf ht _ (by omega) hsl.out).mono ?_
  rintro e w3 ⟨r3, rfl, i3, -, xw3⟩
  have Lw3 : Ext w2 w3 := Ext.trans qXt xw3
  replace ea0 := Lw3.cell ea0
  replace va1 := Lw3.cell va1
  replace sl0 := Lw3.cell sl0
  replace sl1 := Lw3.cell sl1
  replace sl2 := Lw3.cell sl2
  replace sl3 := Lw3.cell sl3
  replace sl4 := Lw3.cell sl4
  rw [hLI.out] at i3
  refine hK.out _ _ ⟨ea0, va1, sl0, sl1, sl2, sl3, sl4⟩ (fun hHeld => ?_)
  clear hK K
  try simp only [Act.put, qa, qb, qc, qD, qE, qF]
  refine wpAnyH_ready (rs := [7, 8]) qKr (by simp) ?_
  refine AllReadyH.cons rfl (fun K hK => ?_) (AllReadyH.cons rfl (fun K hK => ?_) AllReadyH.nil)
  rotate_left
  try simp only [Act.put, qa, qb, qc, qD, qE, qF]
  go_simp
  refine hK.out _ _ ⟨(show Ext w3 _ from qXt).cell ea0, (show Ext w3 _ from qXt).cell va1, (show Ext w3 _ from qXt).cell sl0, (show Ext w3 _ from qXt).cell sl1, (show Ext w3 _ from qXt).cell sl2, (show Ext w3 _ from qXt).cell sl3, (show Ext w3 _ from qXt).cell sl4⟩ (fun hHeld => ?_)
  clear hK K
  try simp only [Act.put, qa, qb, qc, qD, qE, qF]
  have qa0 : (w3.alloc (.cells #[.int .i64 0, .int .i64 0, .int .i64 0] 139)).cell? ⟨w3.heap.size, 0, none⟩ = some (.int .i64 0) := qCl
  have qf0 : (w3.alloc (.cells #[.int .i64 0, .int .i64 0, .int .i64 0] 139)).frozen? ⟨w3.heap.size, 0, none⟩ = false := qFz
  have qa1 : (w3.alloc (.cells #[.int .i64 0, .int .i64 0, .int .i64 0] 139)).cell? ⟨w3.heap.size, 1, none⟩ = some (.int .i64 0) := qCl
  have qf1 : (w3.alloc (.cells #[.int .i64 0, .int .i64 0, .int .i64 0] 139)).frozen? ⟨w3.heap.size, 1, none⟩ = false := qFz
  have qa2 : (w3.alloc (.cells #[.int .i64 0, .int .i64 0, .int .i64 0] 139)).cell? ⟨w3.heap.size, 2, none⟩ = some (.int .i64 0) := qCl
  have qf2 : (w3.alloc (.cells #[.int .i64 0, .int .i64 0, .int .i64 0] 139)).frozen? ⟨w3.heap.size, 2, none⟩ = false := qFz
  have zg : w3.heap.size < (w3.alloc (.cells #[.int .i64 0, .int .i64 0, .int .i64 0] 139)).heap.size := qB qa0
  have hg : w2.heap.size ≤ w3.heap.size := (Lw3).size
  refine qHr 7 rfl (fun K hK => ?_)
  try simp only [Act.put, qa, qb, qc, qD, qE, qF]
  go_simp
  refine (hnorm.out _ _ _ (i3.ext qXt)).mono ?_
  rintro e w4 ⟨rfl, xw4⟩
  have Lw4 : Ext w3 w4 := Ext.trans qXt xw4
  replace ea0 := Lw4.cell ea0
  replace va1 := Lw4.cell va1
  replace sl0 := Lw4.cell sl0
  replace sl1 := Lw4.cell sl1
  replace sl2 := Lw4.cell sl2
  replace sl3 := Lw4.cell sl3
  replace sl4 := Lw4.cell sl4
  replace qa0 := xw4.cell qa0
  replace qf0 := xw4.frz zg qf0
  replace qa1 := xw4.cell qa1
  replace qf1 := xw4.frz zg qf1
  replace qa2 := xw4.cell qa2
  replace qf2 := xw4.frz zg qf2
  replace zg := Nat.lt_of_lt_of_le zg xw4.size
  refine hK.out _ _ ⟨ea0, va1, sl0, sl1, sl2, sl3, sl4⟩ (fun hHeld => ?_)
  clear hK K
  try simp only [Act.put, qa, qb, qc, qD, qE, qF]
  refine qHr 9 rfl (fun K hK => ?_)
  try simp only [Act.put, qa, qb, qc, qD, qE, qF]
  go_simp
  have XE : Ext w2 (((w4.setCell ⟨w3.heap.size, 0, none⟩ (.int .i64 A)).setCell ⟨w3.heap.size, 1, none⟩ (.int .i64 A2)).setCell ⟨w3.heap.size, 2, none⟩ (.int .i64 A3)) := (Ext.setCell (Ext.setCell (Ext.setCell (Lw3.trans Lw4) hg _) hg _) hg _)
  have nr0 : (((w4.setCell ⟨w3.heap.size, 0, none⟩ (.int .i64 A)).setCell ⟨w3.heap.size, 1, none⟩ (.int .i64 A2)).setCell ⟨w3.heap.size, 2, none⟩ (.int .i64 A3)).cell? ⟨w3.heap.size, 0, none⟩ = some (.int .i64 A) := qCl
  have f_nr0 : (((w4.setCell ⟨w3.heap.size, 0, none⟩ (.int .i64 A)).setCell ⟨w3.heap.size, 1, none⟩ (.int .i64 A2)).setCell ⟨w3.heap.size, 2, none⟩ (.int .i64 A3)).frozen? ⟨w3.heap.size, 0, none⟩ = false := qFz
  have nr1 : (((w4.setCell ⟨w3.heap.size, 0, none⟩ (.int .i64 A)).setCell ⟨w3.heap.size, 1, none⟩ (.int .i64 A2)).setCell ⟨w3.heap.size, 2, none⟩ (.int .i64 A3)).cell? ⟨w3.heap.size, 1, none⟩ = some (.int .i64 A2) := qCl
  have f_nr1 : (((w4.setCell ⟨w3.heap.size, 0, none⟩ (.int .i64 A)).setCell ⟨w3.heap.size, 1, none⟩ (.int .i64 A2)).setCell ⟨w3.heap.size, 2, none⟩ (.int .i64 A3)).frozen? ⟨w3.heap.size, 1, none⟩ = false := qFz
  have nr2 : (((w4.setCell ⟨w3.heap.size, 0, none⟩ (.int .i64 A)).setCell ⟨w3.heap.size, 1, none⟩ (.int .i64 A2)).setCell ⟨w3.heap.size, 2, none⟩ (.int .i64 A3)).cell? ⟨w3.heap.size, 2, none⟩ = some (.int .i64 A3) := qCl
  have f_nr2 : (((w4.setCell ⟨w3.heap.size, 0, none⟩ (.int .i64 A)).setCell ⟨w3.heap.size, 1, none⟩ (.int .i64 A2)).setCell ⟨w3.heap.size, 2, none⟩ (.int .i64 A3)).frozen? ⟨w3.heap.size, 2, none⟩ = false := qFz
  have hg1 : w2.heap.size ≤ w3.heap.size := hg
  have KE : Chg w3.heap.size (w3.heap.size + 1) w4 (((w4.setCell ⟨w3.heap.size, 0, none⟩ (.int .i64 A)).setCell ⟨w3.heap.size, 1, none⟩ (.int .i64 A2)).setCell ⟨w3.heap.size, 2, none⟩ (.int .i64 A3)) := (by repeat (first | (with_reducible exact Chg.refl _ _ _) | (with_reducible refine Chg.setCell ?_ qSo qSo _) | (with_reducible refine Chg.ext ?_ (Ext.alloc (Ext.refl _) _)) | (with_reducible refine Chg.ext ?_ (Ext.drew (Ext.refl _)))))
  replace ea0 := KE.cell (by omega) ea0
  replace va1 := KE.cell (by omega) va1
  replace sl0 := KE.cell (by omega) sl0
  replace sl1 := KE.cell (by omega) sl1
  replace sl2 := KE.cell (by omega) sl2
  replace sl3 := KE.cell (by omega) sl3
  replace sl4 := KE.cell (by omega) sl4
  refine hK.out _ _ ⟨ea0, va1, sl0, sl1, sl2, sl3, sl4⟩ (fun hHeld => ?_)
  clear hK K KE
  try simp only [Act.put, qa, qb, qc, qD, qE, qF]
  refine wpAnyH_done qKr ?_ _
  clear hHeld
  generalize (((w4.setCell ⟨w3.heap.size, 0, none⟩ (.int .i64 A)).setCell ⟨w3.heap.size, 1, none⟩ (.int .i64 A2)).setCell ⟨w3.heap.size, 2, none⟩ (.int .i64 A3)) = WE at *
  go_step
  go_step
  go_meet
  case rel => exact ⟨_, rfl, XE, hg1, nr0, nr1, nr2⟩
  try simp only [Act.put, qa, qb, qc, qD, qE, qF]
  go_simp
  refine (hnorm.out _ _ _ (i3.ext qXt)).mono ?_
  rintro e w4 ⟨rfl, xw4⟩
  have Lw4 : Ext w3 w4 := Ext.trans qXt xw4
  replace ea0 := Lw4.cell ea0
  replace va1 := Lw4.cell va1
  replace sl0 := Lw4.cell sl0
  replace sl1 := Lw4.cell sl1
  replace sl2 := Lw4.cell sl2
  replace sl3 := Lw4.cell sl3
  replace sl4 := Lw4.cell sl4
  refine hK.out _ _ ⟨ea0, va1, sl0, sl1, sl2, sl3, sl4⟩ (fun hHeld => ?_)
  clear hK K
  try simp only [Act.put, qa, qb, qc, qD, qE, qF]
  refine qHr 8 rfl (fun K hK => ?_)
  try simp only [Act.put, qa, qb, qc, qD, qE, qF]
  go_simp
  refine hK.out _ _ ⟨(show Ext w4 _ from qXt).cell ea0, (show Ext w4 _ from qXt).cell va1, (show Ext w4 _ from qXt).cell sl0, (show Ext w4 _ from qXt).cell sl1, (show Ext w4 _ from qXt).cell sl2, (show Ext w4 _ from qXt).cell sl3, (show Ext w4 _ from qXt).cell sl4⟩ (fun hHeld => ?_)
  clear hK K
  try simp only [Act.put, qa, qb, qc, qD, qE, qF]
  refine qHr 9 rfl (fun K hK => ?_)
  try simp only [Act.put, qa, qb, qc, qD, qE, qF]
  go_simp
  have XE : Ext w2 (w4.alloc (.cells #[.int .i64 A, .int .i64 A2, .int .i64 A3] 139)) := (Lw3.trans Lw4).trans qXo
  have nr0 : (w4.alloc (.cells #[.int .i64 A, .int .i64 A2, .int .i64 A3] 139)).cell? ⟨w4.heap.size, 0, none⟩ = some (.int .i64 A) := qCl
  have f_nr0 : (w4.alloc (.cells #[.int .i64 A, .int .i64 A2, .int .i64 A3] 139)).frozen? ⟨w4.heap.size, 0, none⟩ = false := qFz
  have nr1 : (w4.alloc (.cells #[.int .i64 A, .int .i64 A2, .int .i64 A3] 139)).cell? ⟨w4.heap.size, 1, none⟩ = some (.int .i64 A2) := qCl
  have f_nr1 : (w4.alloc (.cells #[.int .i64 A, .int .i64 A2, .int .i64 A3] 139)).frozen? ⟨w4.heap.size, 1, none⟩ = false := qFz
  have nr2 : (w4.alloc (.cells #[.int .i64 A, .int .i64 A2, .int .i64 A3] 139)).cell? ⟨w4.heap.size, 2, none⟩ = some (.int .i64 A3) := qCl
  have f_nr2 : (w4.alloc (.cells #[.int .i64 A, .int .i64 A2, .int .i64 A3] 139)).frozen? ⟨w4.heap.size, 2, none⟩ = false := qFz
  have hg1 : w2.heap.size ≤ w4.heap.size := (Lw3.trans Lw4).size
  have KE : Ext w4 (w4.alloc (.cells #[.int .i64 A, .int .i64 A2, .int .i64 A3] 139)) := qXo
  replace ea0 := KE.cell ea0
  replace va1 := KE.cell va1
  replace sl0 := KE.cell sl0
  replace sl1 := KE.cell sl1
  replace sl2 := KE.cell sl2
  replace sl3 := KE.cell sl3
  replace sl4 := KE.cell sl4
  refine hK.out _ _ ⟨ea0, va1, sl0, sl1, sl2, sl3, sl4⟩ (fun hHeld => ?_)
  clear hK K KE
  try simp only [Act.put, qa, qb, qc, qD, qE, qF]
  refine wpAnyH_done qKr ?_ _
  clear hHeld
  generalize (w4.alloc (.cells #[.int .i64 A, .int .i64 A2, .int .i64 A3] 139)) = WE at *
  go_step
  go_step
  go_meet
  case rel => exact ⟨_, rfl, XE, hg1, nr0, nr1, nr2⟩
 case rest =>
  obtain ⟨g, rfl, xx, hgs, e0, e1, e2⟩ := hcut
  have hge : w1.heap.size < g := by omega
  have Lwc : Ext w2 wc := Ext.trans qXt xx
  have Xwc : Ext w wc := Xw2.trans Lwc
  replace ea0 := Lwc.cell ea0
  replace eb0 := Lwc.cell eb0
  replace va0 := Lwc.cell va0
  replace va1 := Lwc.cell va1
  replace va2 := Lwc.cell va2
  replace sl0 := Lwc.cell sl0
  replace sl1 := Lwc.cell sl1
  replace sl2 := Lwc.cell sl2
  replace sl3 := Lwc.cell sl3
  replace sl4 := Lwc.cell sl4
  replace q0 := Lwc.cell q0
  replace q1 := Lwc.cell q1
  replace q2 := Lwc.cell q2
  replace f_q0 := Lwc.frz z_q f_q0
  replace f_q1 := Lwc.frz z_q f_q1
  replace f_q2 := Lwc.frz z_q f_q2
  replace y0 := Lwc.cell y0
  replace y1 := Lwc.cell y1
  replace y2 := Lwc.cell y2
  replace f_y0 := Lwc.frz z_y f_y0
  replace f_y1 := Lwc.frz z_y f_y1
  replace f_y2 := Lwc.frz z_y f_y2
  have z_ea : b1s < wc.heap.size := qB ea0
  have z_eb : b2s < wc.heap.size := qB eb0
  have z_va : w.heap.size < wc.heap.size := qB va0
  have z_sl : w.heap.size + 1 < wc.heap.size := qB sl0
  have z_q : w.heap.size + 1 + 1 < wc.heap.size := qB q0
  have z_y : w1.heap.size < wc.heap.size := qB y0
  replace O1 := O1.ext Lwc
  replace O2 := O2.ext Lwc
  have s_wc : w.heap.size ≤ wc.heap.size := Xwc.size
  have z_e : g < wc.heap.size := qB e0
  clear xx hnorm
  go_wp2_with fail
  refine (hnum.out _).mono ?_
  rintro e w6 ⟨v9, rfl, i9, -, xw6⟩
  have Lw6 : Ext wc w6 := Ext.trans qXt xw6
  have Xw6 : Ext w w6 := Xwc.trans Lw6
  replace ea0 := Lw6.cell ea0
  replace eb0 := Lw6.cell eb0
  replace va0 := Lw6.cell va0
  replace va1 := Lw6.cell va1
  replace va2 := Lw6.cell va2
  replace sl0 := Lw6.cell sl0
  replace sl1 := Lw6.cell sl1
  replace sl2 := Lw6.cell sl2
  replace sl3 := Lw6.cell sl3
  replace sl4 := Lw6.cell sl4
  replace q0 := Lw6.cell q0
  replace q1 := Lw6.cell q1
  replace q2 := Lw6.cell q2
  replace f_q0 := Lw6.frz z_q f_q0
  replace f_q1 := Lw6.frz z_q f_q1
  replace f_q2 := Lw6.frz z_q f_q2
  replace y0 := Lw6.cell y0
  replace y1 := Lw6.cell y1
  replace y2 := Lw6.cell y2
  replace f_y0 := Lw6.frz z_y f_y0
  replace f_y1 := Lw6.frz z_y f_y1
  replace f_y2 := Lw6.frz z_y f_y2
  replace e0 := Lw6.cell e0
  replace e1 := Lw6.cell e1
  replace e2 := Lw6.cell e2
  have z_ea : b1s < w6.heap.size := qB ea0
  have z_eb : b2s < w6.heap.size := qB eb0
  have z_va : w.heap.size < w6.heap.size := qB va0
  have z_sl : w.heap.size + 1 < w6.heap.size := qB sl0
  have z_q : w.heap.size + 1 + 1 < w6.heap.size := qB q0
  have z_y : w1.heap.size < w6.heap.size := qB y0
  have z_e : g < w6.heap.size := qB e0
  replace O1 := O1.ext Lw6
  replace O2 := O2.ext Lw6
  have s_w6 : w.heap.size ≤ w6.heap.size := Xw6.size
  clear xw6
  obtain ⟨p9, n9, rfl⟩ := i9.form
  have A1 := O1.cell d hd
  obtain ⟨A1a, A1b⟩ := A1
  go_wp2_with fail
  generalize hW2 : (w6.setCell ⟨g1, d, none⟩ (.int .i64 (L.length : Int))) = w7 at *
  have Kw7 : Chg (g1) (g1 + 1) w6 w7 := by subst hW2; exact qCh
  have Xw7 : Ext w w7 := by subst hW2; exact qXt
  replace ea0 := Kw7.cell (by omega) ea0
  replace eb0 := Kw7.cell (by omega) eb0
  replace va0 := Kw7.cell (by omega) va0
  replace va1 := Kw7.cell (by omega) va1
  replace va2 := Kw7.cell (by omega) va2
  replace sl0 := Kw7.cell (by omega) sl0
  replace sl1 := Kw7.cell (by omega) sl1
  replace sl2 := Kw7.cell (by omega) sl2
  replace sl3 := Kw7.cell (by omega) sl3
  replace sl4 := Kw7.cell (by omega) sl4
  replace q0 := Kw7.cell (by omega) q0
  replace f_q0 := Kw7.frzO (by omega) z_q f_q0
  replace q1 := Kw7.cell (by omega) q1
  replace f_q1 := Kw7.frzO (by omega) z_q f_q1
  replace q2 := Kw7.cell (by omega) q2
  replace f_q2 := Kw7.frzO (by omega) z_q f_q2
  replace y0 := Kw7.cell (by omega) y0
  replace f_y0 := Kw7.frzO (by omega) z_y f_y0
  replace y1 := Kw7.cell (by omega) y1
  replace f_y1 := Kw7.frzO (by omega) z_y f_y1
  replace y2 := Kw7.cell (by omega) y2
  replace f_y2 := Kw7.frzO (by omega) z_y f_y2
  replace e0 := Kw7.cell (by omega) e0
  replace e1 := Kw7.cell (by omega) e1
  replace e2 := Kw7.cell (by omega) e2
  have n_O1 := O1.set d (L.length) (by first | omega | (simp; omega))
  rw [hW2] at n_O1
  replace O1 := n_O1
  clear n_O1
  replace O2 := O2.chgN Kw7 (by omega)
  clear Kw7
  have z_ea : b1s < w7.heap.size := qB ea0
  have z_eb : b2s < w7.heap.size := qB eb0
  have z_va : w.heap.size < w7.heap.size := qB va0
  have z_sl : w.heap.size + 1 < w7.heap.size := qB sl0
  have z_q : w.heap.size + 1 + 1 < w7.heap.size := qB q0
  have z_y : w1.heap.size < w7.heap.size := qB y0
  have z_e : g < w7.heap.size := qB e0
  have s_w7 : w.heap.size ≤ w7.heap.size := Xw7.size
  clear hW2
  go_wp2_with fail
  have hw0 : IntKind.i64.wrap (A * x) = A * x := IntWalk.i64_in _ (by omega)
  have hw1 : IntKind.i64.wrap (b1 + A * x) = b1 + A * x := IntWalk.i64_in _ (by omega)
  refine wp_region_tail (S := fun w' => w'.cell? ⟨b2s, o2s + d, none⟩ = some (.int .i64 x) ∧ w'.cell? ⟨w.heap.size, 0, none⟩ = some (.int .i64 b1) ∧ w'.cell? ⟨w.heap.size, 2, none⟩ = some (.slice (some ⟨b2s, o2s, none⟩) t1.length cp2) ∧ w'.cell? ⟨g, 0, none⟩ = some (.int .i64 A)) (fun i => decide (12 ≤ i)) qKr ⟨eb0, va0, va2, e0⟩ (fun hHeld => ?_)
  refine qTk (v := ?_) 0 rfl (.inl ⟨by rfl, ?_⟩) ?_
  rotate_left
  ·
   (intro w hSw; (try dsimp only at hSw); go_simp; try with_reducible rfl)
  try simp only [Act.put, qa, qb, qc, qD, qE, qF]
  refine qTk (v := ?_) 1 rfl (.inl ⟨by rfl, ?_⟩) ?_
  rotate_left
  ·
   (intro w hSw; (try dsimp only at hSw); go_simp; try with_reducible rfl)
  try simp only [Act.put, qa, qb, qc, qD, qE, qF]
  refine qTk (v := ?_) 2 rfl (.inl ⟨by rfl, ?_⟩) ?_
  rotate_left
  ·
   (intro w hSw; (try dsimp only at hSw); go_simp; try with_reducible rfl)
  try simp only [Act.put, qa, qb, qc, qD, qE, qF]
  refine qTk (v := ?_) 3 rfl (.inl ⟨by rfl, ?_⟩) ?_
  rotate_left
  ·
   (intro w hSw; (try dsimp only at hSw); go_simp; try with_reducible rfl)
  try simp only [Act.put, qa, qb, qc, qD, qE, qF]
  refine qTk (v := ?_) 4 rfl (.inl ⟨by rfl, ?_⟩) ?_
  rotate_left
  ·
   (intro w hSw; (try dsimp only at hSw); go_simp; try with_reducible rfl)
  try simp only [Act.put, qa, qb, qc, qD, qE, qF]
  refine qTk (v := ?_) 5 rfl (.inl ⟨by rfl, ?_⟩) ?_
  rotate_left
  ·
   (intro w hSw; (try dsimp only at hSw); go_simp; try with_reducible rfl)
  try simp only [Act.put, qa, qb, qc, qD, qE, qF]
  refine qTk (v := ?_) 6 rfl (.inl ⟨by rfl, ?_⟩) ?_
  rotate_left
  ·
   (intro w hSw; (try dsimp only at hSw); go_simp; try with_reducible rfl)
  try simp only [Act.put, qa, qb, qc, qD, qE, qF]
  refine qTk (v := ?_) 7 rfl (.inl ⟨by rfl, ?_⟩) ?_
  rotate_left
  ·
   (intro w hSw; (try dsimp only at hSw); go_simp; try with_reducible rfl)
  try simp only [Act.put, qa, qb, qc, qD, qE, qF]
  refine qTk (v := ?_) 8 rfl (.inl ⟨by rfl, ?_⟩) ?_
  rotate_left
  ·
   (intro w hSw; (try dsimp only at hSw); go_simp; try with_reducible rfl)
  try simp only [Act.put, qa, qb, qc, qD, qE, qF]
  refine qTk (v := ?_) 9 rfl (.inl ⟨by rfl, ?_⟩) ?_
  rotate_left
  ·
   (intro w hSw; (try dsimp only at hSw); go_simp; try with_reducible rfl)
  try simp only [Act.put, qa, qb, qc, qD, qE, qF]
  refine qTk (v := ?_) 10 rfl (.inl ⟨by rfl, ?_⟩) ?_
  rotate_left
  ·
   (intro w hSw; (try dsimp only at hSw); go_simp; try with_reducible rfl)
  try simp only [Act.put, qa, qb, qc, qD, qE, qF]
  refine qTk (v := ?_) 11 rfl (.inl ⟨by rfl, ?_⟩) ?_
  rotate_left
  ·
   (intro w hSw; (try dsimp only at hSw); go_simp; try with_reducible rfl)
  try simp only [Act.put, qa, qb, qc, qD, qE, qF]
  refine wpTail_last (i := 12) qKr rfl rfl (fun K hK => ?_)
  try simp only [Act.put, qa, qb, qc, qD, qE, qF]
  go_simp
  refine hK.out _ _ ?_
  clear hK K
  try simp only [Act.put, qa, qb, qc, qD, qE, qF]
  refine wpTail_done qKr ?_ _
  clear hHeld hw0 hw1
  generalize hW3 : ((w7.setCell ⟨w1.heap.size, 0, none⟩ (.int .i64 (b1 + A * x))).drew) = w8 at *
  have Kw8 : Chg (w1.heap.size) (w1.heap.size + 1) w7 w8 := by subst hW3; exact qCh
  have Xw8 : Ext w w8 := by subst hW3; exact qXt
  replace ea0 := Kw8.cell (by omega) ea0
  replace eb0 := Kw8.cell (by omega) eb0
  replace va0 := Kw8.cell (by omega) va0
  replace va1 := Kw8.cell (by omega) va1
  replace va2 := Kw8.cell (by omega) va2
  replace sl0 := Kw8.cell (by omega) sl0
  replace sl1 := Kw8.cell (by omega) sl1
  replace sl2 := Kw8.cell (by omega) sl2
  replace sl3 := Kw8.cell (by omega) sl3
  replace sl4 := Kw8.cell (by omega) sl4
  replace q0 := Kw8.cell (by omega) q0
  replace f_q0 := Kw8.frzO (by omega) z_q f_q0
  replace q1 := Kw8.cell (by omega) q1
  replace f_q1 := Kw8.frzO (by omega) z_q f_q1
  replace q2 := Kw8.cell (by omega) q2
  replace f_q2 := Kw8.frzO (by omega) z_q f_q2
  replace y0 : w8.cell? ⟨w1.heap.size, 0, none⟩ = some (.int .i64 (b1 + A * x)) := by subst hW3; go_simp
  replace f_y0 : w8.frozen? ⟨w1.heap.size, 0, none⟩ = false := by subst hW3; go_simp
  replace y1 : w8.cell? ⟨w1.heap.size, 1, none⟩ = some (.slice (some ⟨g1, 0, none⟩) s1.length r1) := by subst hW3; go_simp
  replace f_y1 : w8.frozen? ⟨w1.heap.size, 1, none⟩ = false := by subst hW3; go_simp
  replace y2 : w8.cell? ⟨w1.heap.size, 2, none⟩ = some (.slice (some ⟨g2, 0, none⟩) t1.length r2) := by subst hW3; go_simp
  replace f_y2 : w8.frozen? ⟨w1.heap.size, 2, none⟩ = false := by subst hW3; go_simp
  replace e0 := Kw8.cell (by omega) e0
  replace e1 := Kw8.cell (by omega) e1
  replace e2 := Kw8.cell (by omega) e2
  replace O1 := O1.chgN Kw8 (by omega)
  replace O2 := O2.chgN Kw8 (by omega)
  clear Kw8
  have z_ea : b1s < w8.heap.size := qB ea0
  have z_eb : b2s < w8.heap.size := qB eb0
  have z_va : w.heap.size < w8.heap.size := qB va0
  have z_sl : w.heap.size + 1 < w8.heap.size := qB sl0
  have z_q : w.heap.size + 1 + 1 < w8.heap.size := qB q0
  have z_y : w1.heap.size < w8.heap.size := qB y0
  have z_e : g < w8.heap.size := qB e0
  have s_w8 : w.heap.size ≤ w8.heap.size := Xw8.size
  clear hW3
  have B1 := O2.cell d hd2
  obtain ⟨B1a, B1b⟩ := B1
  go_wp2_with fail
  have hw0 : IntKind.i64.wrap (A3 * x) = A3 * x := IntWalk.i64_in _ (by omega)
  refine wp_region_tail (S := fun w' => w'.cell? ⟨b2s, o2s + d, none⟩ = some (.int .i64 x) ∧ w'.cell? ⟨w.heap.size, 2, none⟩ = some (.slice (some ⟨b2s, o2s, none⟩) t1.length cp2) ∧ w'.cell? ⟨w1.heap.size, 2, none⟩ = some (.slice (some ⟨g2, 0, none⟩) t1.length r2) ∧ w'.cell? ⟨g, 2, none⟩ = some (.int .i64 A3)) (fun i => decide (12 ≤ i)) qKr ⟨eb0, va2, y2, e2⟩ (fun hHeld => ?_)
  refine qTk (v := ?_) 0 rfl (.inl ⟨by rfl, ?_⟩) ?_
  rotate_left
  ·
   (intro w hSw; (try dsimp only at hSw); go_simp; try with_reducible rfl)
  try simp only [Act.put, qa, qb, qc, qD, qE, qF]
  refine qTk (v := ?_) 1 rfl (.inl ⟨by rfl, ?_⟩) ?_
  rotate_left
  ·
   (intro w hSw; (try dsimp only at hSw); go_simp; try with_reducible rfl)
  try simp only [Act.put, qa, qb, qc, qD, qE, qF]
  refine qTk (v := ?_) 2 rfl (.inl ⟨by rfl, ?_⟩) ?_
  rotate_left
  ·
   (intro w hSw; (try dsimp only at hSw); go_simp; try with_reducible rfl)
  try simp only [Act.put, qa, qb, qc, qD, qE, qF]
  refine qTk (v := ?_) 3 rfl (.inl ⟨by rfl, ?_⟩) ?_
  rotate_left
  ·
   (intro w hSw; (try dsimp only at hSw); go_simp; try with_reducible rfl)
  try simp only [Act.put, qa, qb, qc, qD, qE, qF]
  refine qTk (v := ?_) 4 rfl (.inl ⟨by rfl, ?_⟩) ?_
  rotate_left
  ·
   (intro w hSw; (try dsimp only at hSw); go_simp; try with_reducible rfl)
  try simp only [Act.put, qa, qb, qc, qD, qE, qF]
  refine qTk (v := ?_) 5 rfl (.inl ⟨by rfl, ?_⟩) ?_
  rotate_left
  ·
   (intro w hSw; (try dsimp only at hSw); go_simp; try with_reducible rfl)
  try simp only [Act.put, qa, qb, qc, qD, qE, qF]
  refine qTk (v := ?_) 6 rfl (.inl ⟨by rfl, ?_⟩) ?_
  rotate_left
  ·
   (intro w hSw; (try dsimp only at hSw); go_simp; try with_reducible rfl)
  try simp only [Act.put, qa, qb, qc, qD, qE, qF]
  refine qTk (v := ?_) 7 rfl (.inl ⟨by rfl, ?_⟩) ?_
  rotate_left
  ·
   (intro w hSw; (try dsimp only at hSw); go_simp; try with_reducible rfl)
  try simp only [Act.put, qa, qb, qc, qD, qE, qF]
  refine qTk (v := ?_) 8 rfl (.inl ⟨by rfl, ?_⟩) ?_
  rotate_left
  ·
   (intro w hSw; (try dsimp only at hSw); go_simp; try with_reducible rfl)
  try simp only [Act.put, qa, qb, qc, qD, qE, qF]
  refine qTk (v := ?_) 9 rfl (.inl ⟨by rfl, ?_⟩) ?_
  rotate_left
  ·
   (intro w hSw; (try dsimp only at hSw); go_simp; try with_reducible rfl)
  try simp only [Act.put, qa, qb, qc, qD, qE, qF]
  refine qTk (v := ?_) 10 rfl (.inl ⟨by rfl, ?_⟩) ?_
  rotate_left
  ·
   (intro w hSw; (try dsimp only at hSw); go_simp; try with_reducible rfl)
  try simp only [Act.put, qa, qb, qc, qD, qE, qF]
  refine qTk (v := ?_) 11 rfl (.inl ⟨by rfl, ?_⟩) ?_
  rotate_left
  ·
   (intro w hSw; (try dsimp only at hSw); go_simp; try with_reducible rfl)
  try simp only [Act.put, qa, qb, qc, qD, qE, qF]
  refine wpTail_last (i := 12) qKr rfl rfl (fun K hK => ?_)
  try simp only [Act.put, qa, qb, qc, qD, qE, qF]
  go_simp
  refine hK.out _ _ ?_
  clear hK K
  try simp only [Act.put, qa, qb, qc, qD, qE, qF]
  refine wpTail_done qKr ?_ _
  clear hHeld hw0
  generalize hW4 : ((w8.setCell ⟨g2, d, none⟩ (.int .i64 (A3 * x))).drew) = w9 at *
  have Kw9 : Chg (g2) (g2 + 1) w8 w9 := by subst hW4; exact qCh
  have Xw9 : Ext w w9 := by subst hW4; exact qXt
  replace ea0 := Kw9.cell (by omega) ea0
  replace eb0 := Kw9.cell (by omega) eb0
  replace va0 := Kw9.cell (by omega) va0
  replace va1 := Kw9.cell (by omega) va1
  replace va2 := Kw9.cell (by omega) va2
  replace sl0 := Kw9.cell (by omega) sl0
  replace sl1 := Kw9.cell (by omega) sl1
  replace sl2 := Kw9.cell (by omega) sl2
  replace sl3 := Kw9.cell (by omega) sl3
  replace sl4 := Kw9.cell (by omega) sl4
  replace q0 := Kw9.cell (by omega) q0
  replace f_q0 := Kw9.frzO (by omega) z_q f_q0
  replace q1 := Kw9.cell (by omega) q1
  replace f_q1 := Kw9.frzO (by omega) z_q f_q1
  replace q2 := Kw9.cell (by omega) q2
  replace f_q2 := Kw9.frzO (by omega) z_q f_q2
  replace y0 := Kw9.cell (by omega) y0
  replace f_y0 := Kw9.frzO (by omega) z_y f_y0
  replace y1 := Kw9.cell (by omega) y1
  replace f_y1 := Kw9.frzO (by omega) z_y f_y1
  replace y2 := Kw9.cell (by omega) y2
  replace f_y2 := Kw9.frzO (by omega) z_y f_y2
  replace e0 := Kw9.cell (by omega) e0
  replace e1 := Kw9.cell (by omega) e1
  replace e2 := Kw9.cell (by omega) e2
  replace O1 := O1.chgN Kw9 (by omega)
  have n_O2 := O2.setD d (A3 * x) (by first | omega | (simp; omega))
  rw [hW4] at n_O2
  replace O2 := n_O2
  clear n_O2
  clear Kw9
  have z_ea : b1s < w9.heap.size := qB ea0
  have z_eb : b2s < w9.heap.size := qB eb0
  have z_va : w.heap.size < w9.heap.size := qB va0
  have z_sl : w.heap.size + 1 < w9.heap.size := qB sl0
  have z_q : w.heap.size + 1 + 1 < w9.heap.size := qB q0
  have z_y : w1.heap.size < w9.heap.size := qB y0
  have z_e : g < w9.heap.size := qB e0
  have s_w9 : w.heap.size ≤ w9.heap.size := Xw9.size
  clear hW4
  clear ea0
  clear eb0
  clear e0 e1 e2
  clear sl0 sl1 sl2 sl3 sl4
  clear va0 va1 va2
  clear hLb hnum hsl hst hin hAx hCx
  have hz1 := O1.len
  have hz2 := O2.len
  by_cases hle : L.length ≤ 1
  ·
   have hleI : (L.length : Int) ≤ 1 := by omega
   have B1 := O2.cell d (by simpa using hd2)
   obtain ⟨B1a, B1b⟩ := B1
   go_wp2_with fail
   generalize hW5 : (w9.setCell ⟨g2, d, none⟩ (.int .i64 0)) = w10 at *
   have Kw10 : Chg (g2) (g2 + 1) w9 w10 := by subst hW5; exact qCh
   have Xw10 : Ext w w10 := by subst hW5; exact qXt
   replace q0 := Kw10.cell (by omega) q0
   replace f_q0 := Kw10.frzO (by omega) z_q f_q0
   replace q1 := Kw10.cell (by omega) q1
   replace f_q1 := Kw10.frzO (by omega) z_q f_q1
   replace q2 := Kw10.cell (by omega) q2
   replace f_q2 := Kw10.frzO (by omega) z_q f_q2
   replace y0 := Kw10.cell (by omega) y0
   replace f_y0 := Kw10.frzO (by omega) z_y f_y0
   replace y1 := Kw10.cell (by omega) y1
   replace f_y1 := Kw10.frzO (by omega) z_y f_y1
   replace y2 := Kw10.cell (by omega) y2
   replace f_y2 := Kw10.frzO (by omega) z_y f_y2
   replace O1 := O1.chgN Kw10 (by omega)
   have n_O2 := O2.set d (0) (by first | omega | (simp; omega))
   rw [hW5] at n_O2
   replace O2 := n_O2
   clear n_O2
   clear Kw10
   have z_q : w.heap.size + 1 + 1 < w10.heap.size := qB q0
   have z_y : w1.heap.size < w10.heap.size := qB y0
   have s_w10 : w.heap.size ≤ w10.heap.size := Xw10.size
   clear hW5
   rw [List.set_set] at O2
   by_cases hz : countL (s1.set d (L.length : Int)) = 0
   ·
    have hT : Hid (cutT s1 t1 d L = List.replicate s1.length 0) := Lib.hid (by unfold cutT tidyT; rw [if_pos hz, List.length_set])
    have hB : Hid (cutB b1 s1 t1 d L = 0) := Lib.hid (by unfold cutB tidyB; rw [if_pos hz])
    have hi1 := O1.ints hz1
    have hi2 := O2.ints (by simpa using hz2)
    have hzH := Lib.hid hz
    clear hz hle
    have zq0 := z_q
    have zy0 := z_y
    go_wp2_with fail
    refine (tidy_0 (b1 + A * x) _ _ (s1.set d (L.length : Int)) _ _ (hi1.ext qXt) hzH.out).mono ?_
    rintro e w11 ⟨st, rfl, O3, xw11⟩
    have Lw11 : Ext w10 w11 := Ext.trans qXt xw11
    have Xw11 : Ext w w11 := Xw10.trans Lw11
    replace q0 := Lw11.cell q0
    replace q1 := Lw11.cell q1
    replace q2 := Lw11.cell q2
    replace f_q0 := Lw11.frz z_q f_q0
    replace f_q1 := Lw11.frz z_q f_q1
    replace f_q2 := Lw11.frz z_q f_q2
    replace y0 := Lw11.cell y0
    replace y1 := Lw11.cell y1
    replace y2 := Lw11.cell y2
    replace f_y0 := Lw11.frz z_y f_y0
    replace f_y1 := Lw11.frz z_y f_y1
    replace f_y2 := Lw11.frz z_y f_y2
    have z_q : w.heap.size + 1 + 1 < w11.heap.size := qB q0
    have z_y : w1.heap.size < w11.heap.size := qB y0
    replace O1 := O1.ext Lw11
    replace O2 := O2.ext Lw11
    have s_w11 : w.heap.size ≤ w11.heap.size := Xw11.size
    clear xw11
    have hne3 : List.replicate (s1.set d (L.length : Int)).length (0 : Int) ≠ [] := by simp; exact hne1
    obtain ⟨g3, r3, rfl, G3, G3'⟩ := O3.row hne3
    simp only [List.length_replicate, List.length_set] at O3 ⊢
    have G3b : w.heap.size + 3 ≤ g3 := by omega
    clear hi1 hi2

    go_wp2_with fail
    generalize hW6 : (((w11.setCell ⟨w.heap.size + 1 + 1, 0, none⟩ (.int .i64 0)).setCell ⟨w.heap.size + 1 + 1, 1, none⟩ (.slice (some ⟨g1, 0, none⟩) s1.length r1)).setCell ⟨w.heap.size + 1 + 1, 2, none⟩ (.slice (some ⟨g3, 0, none⟩) s1.length r3)) = w12 at *
    have Kw12 : Chg (w.heap.size + 1 + 1) (w.heap.size + 1 + 1 + 1) w11 w12 := by subst hW6; exact qCh
    have Xw12 : Ext w w12 := by subst hW6; exact qXt
    replace q0 : w12.cell? ⟨w.heap.size + 1 + 1, 0, none⟩ = some (.int .i64 0) := by subst hW6; go_simp
    replace f_q0 : w12.frozen? ⟨w.heap.size + 1 + 1, 0, none⟩ = false := by subst hW6; go_simp
    replace q1 : w12.cell? ⟨w.heap.size + 1 + 1, 1, none⟩ = some (.slice (some ⟨g1, 0, none⟩) s1.length r1) := by subst hW6; go_simp
    replace f_q1 : w12.frozen? ⟨w.heap.size + 1 + 1, 1, none⟩ = false := by subst hW6; go_simp
    replace q2 : w12.cell? ⟨w.heap.size + 1 + 1, 2, none⟩ = some (.slice (some ⟨g3, 0, none⟩) s1.length r3) := by subst hW6; go_simp
    replace f_q2 : w12.frozen? ⟨w.heap.size + 1 + 1, 2, none⟩ = false := by subst hW6; go_simp
    replace y0 := Kw12.cell (by omega) y0
    replace f_y0 := Kw12.frzO (by omega) z_y f_y0
    replace y1 := Kw12.cell (by omega) y1
    replace f_y1 := Kw12.frzO (by omega) z_y f_y1
    replace y2 := Kw12.cell (by omega) y2
    replace f_y2 := Kw12.frzO (by omega) z_y f_y2
    replace O1 := O1.chgN Kw12 (by omega)
    replace O2 := O2.chgN Kw12 (by omega)
    replace O3 := O3.chgN Kw12 (by omega)
    clear Kw12
    have z_q : w.heap.size + 1 + 1 < w12.heap.size := qB q0
    have z_y : w1.heap.size < w12.heap.size := qB y0
    have s_w12 : w.heap.size ≤ w12.heap.size := Xw12.size
    clear hW6
    refine bodyPost_ret (v := .agg #[.int .i64 0, .slice (some ⟨g1, 0, none⟩) s1.length r1, .slice (some ⟨g3, 0, none⟩) s1.length r3]) (by simp only [results, Try.results146]; go_simp) rfl ?_
    rw [hT.out, hB.out]
    exact PView.own (O1.lower (by omega)).z (O3.lower (by omega)).z (fun _ _ => by simp [Value.ownBlock]; omega) (by unfold cutS; simpa using hlen1) (by simp <;> omega) Xw12
   ·
    have hT : Hid (cutT s1 t1 d L = t1.set d 0) := Lib.hid (by unfold cutT tidyT; rw [if_neg hz, if_pos hle])
    have hB : Hid (cutB b1 s1 t1 d L = b1 + A * x) := Lib.hid (by unfold cutB tidyB; rw [if_neg hz, hN1.out, hg2.out])
    have hi1 := O1.ints hz1
    have hi2 := O2.ints (by simpa using hz2)
    have hzH := Lib.hid hz
    clear hz hle
    have zq0 := z_q
    have zy0 := z_y
    go_wp2_with fail
    refine (tidy_1 (b1 + A * x) _ _ (s1.set d (L.length : Int)) (t1.set d 0) _ _ _ (hi1.ext qXt) (hi2.ext qXt) hzH.out).mono ?_
    rintro e w11 ⟨rfl, xw11⟩
    have Lw11 : Ext w10 w11 := Ext.trans qXt xw11
    have Xw11 : Ext w w11 := Xw10.trans Lw11
    replace q0 := Lw11.cell q0
    replace q1 := Lw11.cell q1
    replace q2 := Lw11.cell q2
    replace f_q0 := Lw11.frz z_q f_q0
    replace f_q1 := Lw11.frz z_q f_q1
    replace f_q2 := Lw11.frz z_q f_q2
    replace y0 := Lw11.cell y0
    replace y1 := Lw11.cell y1
    replace y2 := Lw11.cell y2
    replace f_y0 := Lw11.frz z_y f_y0
    replace f_y1 := Lw11.frz z_y f_y1
    replace f_y2 := Lw11.frz z_y f_y2
    have z_q : w.heap.size + 1 + 1 < w11.heap.size := qB q0
    have z_y : w1.heap.size < w11.heap.size := qB y0
    replace O1 := O1.ext Lw11
    replace O2 := O2.ext Lw11
    have s_w11 : w.heap.size ≤ w11.heap.size := Xw11.size
    clear xw11
    clear hi1 hi2

    go_wp2_with fail
    generalize hW7 : (((w11.setCell ⟨w.heap.size + 1 + 1, 0, none⟩ (.int .i64 (b1 + A * x))).setCell ⟨w.heap.size + 1 + 1, 1, none⟩ (.slice (some ⟨g1, 0, none⟩) s1.length r1)).setCell ⟨w.heap.size + 1 + 1, 2, none⟩ (.slice (some ⟨g2, 0, none⟩) t1.length r2)) = w12 at *
    have Kw12 : Chg (w.heap.size + 1 + 1) (w.heap.size + 1 + 1 + 1) w11 w12 := by subst hW7; exact qCh
    have Xw12 : Ext w w12 := by subst hW7; exact qXt
    replace q0 : w12.cell? ⟨w.heap.size + 1 + 1, 0, none⟩ = some (.int .i64 (b1 + A * x)) := by subst hW7; go_simp
    replace f_q0 : w12.frozen? ⟨w.heap.size + 1 + 1, 0, none⟩ = false := by subst hW7; go_simp
    replace q1 : w12.cell? ⟨w.heap.size + 1 + 1, 1, none⟩ = some (.slice (some ⟨g1, 0, none⟩) s1.length r1) := by subst hW7; go_simp
    replace f_q1 : w12.frozen? ⟨w.heap.size + 1 + 1, 1, none⟩ = false := by subst hW7; go_simp
    replace q2 : w12.cell? ⟨w.heap.size + 1 + 1, 2, none⟩ = some (.slice (some ⟨g2, 0, none⟩) t1.length r2) := by subst hW7; go_simp
    replace f_q2 : w12.frozen? ⟨w.heap.size + 1 + 1, 2, none⟩ = false := by subst hW7; go_simp
    replace y0 := Kw12.cell (by omega) y0
    replace f_y0 := Kw12.frzO (by omega) z_y f_y0
    replace y1 := Kw12.cell (by omega) y1
    replace f_y1 := Kw12.frzO (by omega) z_y f_y1
    replace y2 := Kw12.cell (by omega) y2
    replace f_y2 := Kw12.frzO (by omega) z_y f_y2
    replace O1 := O1.chgN Kw12 (by omega)
    replace O2 := O2.chgN Kw12 (by omega)
    clear Kw12
    have z_q : w.heap.size + 1 + 1 < w12.heap.size := qB q0
    have z_y : w1.heap.size < w12.heap.size := qB y0
    have s_w12 : w.heap.size ≤ w12.heap.size := Xw12.size
    clear hW7
    refine bodyPost_ret (v := .agg #[.int .i64 (b1 + A * x), .slice (some ⟨g1, 0, none⟩) s1.length r1, .slice (some ⟨g2, 0, none⟩) t1.length r2]) (by simp only [results, Try.results146]; go_simp) rfl ?_
    rw [hT.out, hB.out]
    exact PView.own (O1.lower (by omega)).z (O2.lower (by omega)).z (fun _ _ => by simp [Value.ownBlock]; omega) (by unfold cutS; simpa using hlen1) (by simp <;> omega) Xw12
  ·
   have hleI : ¬ (L.length : Int) ≤ 1 := by omega
   by_cases hz : countL (s1.set d (L.length : Int)) = 0
   ·
    have hT : Hid (cutT s1 t1 d L = List.replicate s1.length 0) := Lib.hid (by unfold cutT tidyT; rw [if_pos hz, List.length_set])
    have hB : Hid (cutB b1 s1 t1 d L = 0) := Lib.hid (by unfold cutB tidyB; rw [if_pos hz])
    have hi1 := O1.ints hz1
    have hi2 := O2.ints (by simpa using hz2)
    have hzH := Lib.hid hz
    clear hz hle
    have zq0 := z_q
    have zy0 := z_y
    go_wp2_with fail
    refine (tidy_0 (b1 + A * x) _ _ (s1.set d (L.length : Int)) _ _ (hi1.ext qXt) hzH.out).mono ?_
    rintro e w10 ⟨st, rfl, O3, xw10⟩
    have Lw10 : Ext w9 w10 := Ext.trans qXt xw10
    have Xw10 : Ext w w10 := Xw9.trans Lw10
    replace q0 := Lw10.cell q0
    replace q1 := Lw10.cell q1
    replace q2 := Lw10.cell q2
    replace f_q0 := Lw10.frz z_q f_q0
    replace f_q1 := Lw10.frz z_q f_q1
    replace f_q2 := Lw10.frz z_q f_q2
    replace y0 := Lw10.cell y0
    replace y1 := Lw10.cell y1
    replace y2 := Lw10.cell y2
    replace f_y0 := Lw10.frz z_y f_y0
    replace f_y1 := Lw10.frz z_y f_y1
    replace f_y2 := Lw10.frz z_y f_y2
    have z_q : w.heap.size + 1 + 1 < w10.heap.size := qB q0
    have z_y : w1.heap.size < w10.heap.size := qB y0
    replace O1 := O1.ext Lw10
    replace O2 := O2.ext Lw10
    have s_w10 : w.heap.size ≤ w10.heap.size := Xw10.size
    clear xw10
    have hne3 : List.replicate (s1.set d (L.length : Int)).length (0 : Int) ≠ [] := by simp; exact hne1
    obtain ⟨g3, r3, rfl, G3, G3'⟩ := O3.row hne3
    simp only [List.length_replicate, List.length_set] at O3 ⊢
    have G3b : w.heap.size + 3 ≤ g3 := by omega
    clear hi1 hi2

    go_wp2_with fail
    generalize hW8 : (((w10.setCell ⟨w.heap.size + 1 + 1, 0, none⟩ (.int .i64 0)).setCell ⟨w.heap.size + 1 + 1, 1, none⟩ (.slice (some ⟨g1, 0, none⟩) s1.length r1)).setCell ⟨w.heap.size + 1 + 1, 2, none⟩ (.slice (some ⟨g3, 0, none⟩) s1.length r3)) = w11 at *
    have Kw11 : Chg (w.heap.size + 1 + 1) (w.heap.size + 1 + 1 + 1) w10 w11 := by subst hW8; exact qCh
    have Xw11 : Ext w w11 := by subst hW8; exact qXt
    replace q0 : w11.cell? ⟨w.heap.size + 1 + 1, 0, none⟩ = some (.int .i64 0) := by subst hW8; go_simp
    replace f_q0 : w11.frozen? ⟨w.heap.size + 1 + 1, 0, none⟩ = false := by subst hW8; go_simp
    replace q1 : w11.cell? ⟨w.heap.size + 1 + 1, 1, none⟩ = some (.slice (some ⟨g1, 0, none⟩) s1.length r1) := by subst hW8; go_simp
    replace f_q1 : w11.frozen? ⟨w.heap.size + 1 + 1, 1, none⟩ = false := by subst hW8; go_simp
    replace q2 : w11.cell? ⟨w.heap.size + 1 + 1, 2, none⟩ = some (.slice (some ⟨g3, 0, none⟩) s1.length r3) := by subst hW8; go_simp
    replace f_q2 : w11.frozen? ⟨w.heap.size + 1 + 1, 2, none⟩ = false := by subst hW8; go_simp
    replace y0 := Kw11.cell (by omega) y0
    replace f_y0 := Kw11.frzO (by omega) z_y f_y0
    replace y1 := Kw11.cell (by omega) y1
    replace f_y1 := Kw11.frzO (by omega) z_y f_y1
    replace y2 := Kw11.cell (by omega) y2
    replace f_y2 := Kw11.frzO (by omega) z_y f_y2
    replace O1 := O1.chgN Kw11 (by omega)
    replace O2 := O2.chgN Kw11 (by omega)
    replace O3 := O3.chgN Kw11 (by omega)
    clear Kw11
    have z_q : w.heap.size + 1 + 1 < w11.heap.size := qB q0
    have z_y : w1.heap.size < w11.heap.size := qB y0
    have s_w11 : w.heap.size ≤ w11.heap.size := Xw11.size
    clear hW8
    refine bodyPost_ret (v := .agg #[.int .i64 0, .slice (some ⟨g1, 0, none⟩) s1.length r1, .slice (some ⟨g3, 0, none⟩) s1.length r3]) (by simp only [results, Try.results146]; go_simp) rfl ?_
    rw [hT.out, hB.out]
    exact PView.own (O1.lower (by omega)).z (O3.lower (by omega)).z (fun _ _ => by simp [Value.ownBlock]; omega) (by unfold cutS; simpa using hlen1) (by simp <;> omega) Xw11
   ·
    have hT : Hid (cutT s1 t1 d L = t1.set d (A3 * x)) := Lib.hid (by unfold cutT tidyT; rw [if_neg hz, if_neg hle, hN3.out, hg2.out])
    have hB : Hid (cutB b1 s1 t1 d L = b1 + A * x) := Lib.hid (by unfold cutB tidyB; rw [if_neg hz, hN1.out, hg2.out])
    have hi1 := O1.ints hz1
    have hi2 := O2.ints (by simpa using hz2)
    have hzH := Lib.hid hz
    clear hz hle
    have zq0 := z_q
    have zy0 := z_y
    go_wp2_with fail
    refine (tidy_1 (b1 + A * x) _ _ (s1.set d (L.length : Int)) (t1.set d (A3 * x)) _ _ _ (hi1.ext qXt) (hi2.ext qXt) hzH.out).mono ?_
    rintro e w10 ⟨rfl, xw10⟩
    have Lw10 : Ext w9 w10 := Ext.trans qXt xw10
    have Xw10 : Ext w w10 := Xw9.trans Lw10
    replace q0 := Lw10.cell q0
    replace q1 := Lw10.cell q1
    replace q2 := Lw10.cell q2
    replace f_q0 := Lw10.frz z_q f_q0
    replace f_q1 := Lw10.frz z_q f_q1
    replace f_q2 := Lw10.frz z_q f_q2
    replace y0 := Lw10.cell y0
    replace y1 := Lw10.cell y1
    replace y2 := Lw10.cell y2
    replace f_y0 := Lw10.frz z_y f_y0
    replace f_y1 := Lw10.frz z_y f_y1
    replace f_y2 := Lw10.frz z_y f_y2
    have z_q : w.heap.size + 1 + 1 < w10.heap.size := qB q0
    have z_y : w1.heap.size < w10.heap.size := qB y0
    replace O1 := O1.ext Lw10
    replace O2 := O2.ext Lw10
    have s_w10 : w.heap.size ≤ w10.heap.size := Xw10.size
    clear xw10
    clear hi1 hi2

    go_wp2_with fail
    generalize hW9 : (((w10.setCell ⟨w.heap.size + 1 + 1, 0, none⟩ (.int .i64 (b1 + A * x))).setCell ⟨w.heap.size + 1 + 1, 1, none⟩ (.slice (some ⟨g1, 0, none⟩) s1.length r1)).setCell ⟨w.heap.size + 1 + 1, 2, none⟩ (.slice (some ⟨g2, 0, none⟩) t1.length r2)) = w11 at *
    have Kw11 : Chg (w.heap.size + 1 + 1) (w.heap.size + 1 + 1 + 1) w10 w11 := by subst hW9; exact qCh
    have Xw11 : Ext w w11 := by subst hW9; exact qXt
    replace q0 : w11.cell? ⟨w.heap.size + 1 + 1, 0, none⟩ = some (.int .i64 (b1 + A * x)) := by subst hW9; go_simp
    replace f_q0 : w11.frozen? ⟨w.heap.size + 1 + 1, 0, none⟩ = false := by subst hW9; go_simp
    replace q1 : w11.cell? ⟨w.heap.size + 1 + 1, 1, none⟩ = some (.slice (some ⟨g1, 0, none⟩) s1.length r1) := by subst hW9; go_simp
    replace f_q1 : w11.frozen? ⟨w.heap.size + 1 + 1, 1, none⟩ = false := by subst hW9; go_simp
    replace q2 : w11.cell? ⟨w.heap.size + 1 + 1, 2, none⟩ = some (.slice (some ⟨g2, 0, none⟩) t1.length r2) := by subst hW9; go_simp
    replace f_q2 : w11.frozen? ⟨w.heap.size + 1 + 1, 2, none⟩ = false := by subst hW9; go_simp
    replace y0 := Kw11.cell (by omega) y0
    replace f_y0 := Kw11.frzO (by omega) z_y f_y0
    replace y1 := Kw11.cell (by omega) y1
    replace f_y1 := Kw11.frzO (by omega) z_y f_y1
    replace y2 := Kw11.cell (by omega) y2
    replace f_y2 := Kw11.frzO (by omega) z_y f_y2
    replace O1 := O1.chgN Kw11 (by omega)
    replace O2 := O2.chgN Kw11 (by omega)
    clear Kw11
    have z_q : w.heap.size + 1 + 1 < w11.heap.size := qB q0
    have z_y : w1.heap.size < w11.heap.size := qB y0
    have s_w11 : w.heap.size ≤ w11.heap.size := Xw11.size
    clear hW9
    refine bodyPost_ret (v := .agg #[.int .i64 (b1 + A * x), .slice (some ⟨g1, 0, none⟩) s1.length r1, .slice (some ⟨g2, 0, none⟩) t1.length r2]) (by simp only [results, Try.results146]; go_simp) rfl ?_
    rw [hT.out, hB.out]
    exact PView.own (O1.lower (by omega)).z (O2.lower (by omega)).z (fun _ _ => by simp [Value.ownBlock]; omega) (by unfold cutS; simpa using hlen1) (by simp <;> omega) Xw11

end Go.Proofs.Ytpgkhjmboiepcaa

/- Walks: SliceDim and FlipDim of the reference. -/
namespace Go.Proofs.Ytpgkhjmboiepcaa
open Go.RowKit
set_option linter.unusedVariables false
set_option maxRecDepth 100000


/-- a view with a bool -/
abbrev VBool := Int × List Int × List Int × Bool
def PVB (w : World) (x : VBool) : Ending → World → Prop := PViewB w x.1 x.2.1 x.2.2.1 x.2.2.2
def noV : VBool := (0, [], [], false)
theorem PVB.no {w w' : World} {x : VBool} (h : x = noV) (hx : Ext w w') : PVB w x (.returned (.tuple #[.agg #[.int .i64 0, .slice none 0 0, .slice none 0 0], .bool false])) w' := by
 subst h; exact PViewB.no hx
theorem PVB.yes {w w' : World} {x : VBool} {b : Int} {s t : List Int} {v1 v2 : Value} (h : x = (b, s, t, true)) (o1 : OwnZ w' w.heap.size v1 s) (o2 : OwnZ w' w.heap.size v2 t) (hd : s ≠ [] → t ≠ [] → v1.ownBlock ≠ v2.ownBlock) (l1 : s.length ≤ 4194304) (l2 : t.length ≤ 4194304) (hx : Ext w w') :
  PVB w x (.returned (.tuple #[.agg #[.int .i64 b, v1, v2], .bool true])) w' := by
 subst h; exact ⟨v1, v2, rfl, o1.ints l1, o2.ints l2, o1, o2, hd, hx⟩

def sliceV (b : Int) (s t : List Int) (d F T B : Int) (hf ht : Bool) : VBool :=
 if viewB b s t && (inB 0 ((s.length : Int) - 1) d && sliceB F T B hf ht) then
  (cutB b s t d.toNat (idxS (s.getD d.toNat 0) F T B hf ht), cutS s d.toNat (idxS (s.getD d.toNat 0) F T B hf ht), cutT s t d.toNat (idxS (s.getD d.toNat 0) F T B hf ht), true)
 else noV
theorem sliceV_view {b : Int} {s t : List Int} {d F T B : Int} {hf ht : Bool} (h : viewB b s t = true) (hd : 0 ≤ d ∧ d < s.length) (hs : sliceB F T B hf ht = true) :
  viewB (cutB b s t d.toNat (idxS (s.getD d.toNat 0) F T B hf ht)) (cutS s d.toNat (idxS (s.getD d.toNat 0) F T B hf ht)) (cutT s t d.toNat (idxS (s.getD d.toNat 0) F T B hf ht)) = true := by
 have hn := (shapeB_in (viewB_in h).1).2.1 _ (getD_mem (s := s) (d := d.toNat) (by omega))
 exact (cut_view h (by omega) (sliceB_in hs).2.2.2 (idxS_in hn.1 (sliceB_in hs).2.2.2)).1
theorem sliceV_yes {b : Int} {s t : List Int} {d F T B : Int} {hf ht : Bool} {L : List Int} (h : viewB b s t = true) (hb : inB 0 ((s.length : Int) - 1) d = true) (hs : sliceB F T B hf ht = true) (hL : idxS (s.getD d.toNat 0) F T B hf ht = L) :
  sliceV b s t d F T B hf ht = (cutB b s t d.toNat L, cutS s d.toNat L, cutT s t d.toNat L, true) := by
 unfold sliceV; rw [h, hb, hs, ← hL]; rfl

set_option maxHeartbeats 3200000 in
theorem specSliceDim_c (b1 : Int) (u1 v1 : Value) (s1 t1 : List Int) (d F T B : Int) (hf ht : Bool) (w : World) (l1 m1 : Nat) (h1 : Ints w l1 u1 s1) (k1 : Ints w m1 v1 t1) :
  Calls Try.prog 124 #[.agg #[.int .i64 b1, u1, v1], .int .i64 d, .agg #[.int .i64 F, .int .i64 T, .int .i64 B, .bool hf, .bool ht]] w (PVB w (sliceV b1 s1 t1 d F T B hf ht)) := by
 have hlen1 := ints_len h1
 have hlen2 := ints_len k1
 obtain ⟨a1, cp1, rfl⟩ := h1.form
 obtain ⟨a2, cp2, rfl⟩ := k1.form
 cases ha : viewB b1 s1 t1
 ·
  have hr : Hid (sliceV b1 s1 t1 d F T B hf ht = noV) := Lib.hid (by unfold sliceV; rw [ha]; rfl)
  replace ha := Lib.hid ha
  go_enter Try.func124, Try.ntmps124
  go_wp2_with fail
  refine (validView_c b1 _ _ s1 t1 _ l1 m1 (h1.ext qXt) (k1.ext qXt)).mono ?_
  rintro e w1 ⟨rfl, xw1⟩
  have Lw1 : Ext w w1 := Ext.trans qXt xw1
  have Xw1 : Ext w w1 := Lw1
  have va0 : w1.cell? ⟨w.heap.size, 0, none⟩ = some (.int .i64 b1) := xw1.cell qCl
  have va1 : w1.cell? ⟨w.heap.size, 1, none⟩ = some (.slice a1 s1.length cp1) := xw1.cell qCl
  have va2 : w1.cell? ⟨w.heap.size, 2, none⟩ = some (.slice a2 t1.length cp2) := xw1.cell qCl
  have sl0 : w1.cell? ⟨w.heap.size + 1, 0, none⟩ = some (.int .i64 F) := xw1.cell qCl
  have sl1 : w1.cell? ⟨w.heap.size + 1, 1, none⟩ = some (.int .i64 T) := xw1.cell qCl
  have sl2 : w1.cell? ⟨w.heap.size + 1, 2, none⟩ = some (.int .i64 B) := xw1.cell qCl
  have sl3 : w1.cell? ⟨w.heap.size + 1, 3, none⟩ = some (.bool hf) := xw1.cell qCl
  have sl4 : w1.cell? ⟨w.heap.size + 1, 4, none⟩ = some (.bool ht) := xw1.cell qCl
  have q0 : w1.cell? ⟨w.heap.size + 1 + 1, 0, none⟩ = some (.int .i64 0) := xw1.cell qCl
  have q1 : w1.cell? ⟨w.heap.size + 1 + 1, 1, none⟩ = some (.slice none 0 0) := xw1.cell qCl
  have q2 : w1.cell? ⟨w.heap.size + 1 + 1, 2, none⟩ = some (.slice none 0 0) := xw1.cell qCl
  have f_q0 : w1.frozen? ⟨w.heap.size + 1 + 1, 0, none⟩ = false := xw1.frz (by simp <;> omega) qFz
  have f_q1 : w1.frozen? ⟨w.heap.size + 1 + 1, 1, none⟩ = false := xw1.frz (by simp <;> omega) qFz
  have f_q2 : w1.frozen? ⟨w.heap.size + 1 + 1, 2, none⟩ = false := xw1.frz (by simp <;> omega) qFz
  have z_va : w.heap.size < w1.heap.size := qB va0
  have z_sl : w.heap.size + 1 < w1.heap.size := qB sl0
  have z_q : w.heap.size + 1 + 1 < w1.heap.size := qB q0
  have s_w1 : w.heap.size ≤ w1.heap.size := Xw1.size
  clear xw1
  rw [ha.out]
  go_wp2_with fail
  refine bodyPost_ret (v := .tuple #[.agg #[.int .i64 0, .slice none 0 0, .slice none 0 0], .bool false]) (by simp only [results, Try.results124]; go_simp) rfl ?_
  exact PVB.no hr.out qXt
 ·
  cases hb : inB 0 ((s1.length : Int) - 1) d
  ·
   have hr : Hid (sliceV b1 s1 t1 d F T B hf ht = noV) := Lib.hid (by unfold sliceV; rw [ha, hb]; rfl)
   obtain ⟨j1, -⟩ := viewB_in ha
   have j4 := (shapeB_in j1).1
   replace ha := Lib.hid ha
   replace hb := Lib.hid hb
   clear j1
   go_enter Try.func124, Try.ntmps124
   go_wp2_with fail
   refine (validView_c b1 _ _ s1 t1 _ l1 m1 (h1.ext qXt) (k1.ext qXt)).mono ?_
   rintro e w1 ⟨rfl, xw1⟩
   have Lw1 : Ext w w1 := Ext.trans qXt xw1
   have Xw1 : Ext w w1 := Lw1
   have va0 : w1.cell? ⟨w.heap.size, 0, none⟩ = some (.int .i64 b1) := xw1.cell qCl
   have va1 : w1.cell? ⟨w.heap.size, 1, none⟩ = some (.slice a1 s1.length cp1) := xw1.cell qCl
   have va2 : w1.cell? ⟨w.heap.size, 2, none⟩ = some (.slice a2 t1.length cp2) := xw1.cell qCl
   have sl0 : w1.cell? ⟨w.heap.size + 1, 0, none⟩ = some (.int .i64 F) := xw1.cell qCl
   have sl1 : w1.cell? ⟨w.heap.size + 1, 1, none⟩ = some (.int .i64 T) := xw1.cell qCl
   have sl2 : w1.cell? ⟨w.heap.size + 1, 2, none⟩ = some (.int .i64 B) := xw1.cell qCl
   have sl3 : w1.cell? ⟨w.heap.size + 1, 3, none⟩ = some (.bool hf) := xw1.cell qCl
   have sl4 : w1.cell? ⟨w.heap.size + 1, 4, none⟩ = some (.bool ht) := xw1.cell qCl
   have q0 : w1.cell? ⟨w.heap.size + 1 + 1, 0, none⟩ = some (.int .i64 0) := xw1.cell qCl
   have q1 : w1.cell? ⟨w.heap.size + 1 + 1, 1, none⟩ = some (.slice none 0 0) := xw1.cell qCl
   have q2 : w1.cell? ⟨w.heap.size + 1 + 1, 2, none⟩ = some (.slice none 0 0) := xw1.cell qCl
   have f_q0 : w1.frozen? ⟨w.heap.size + 1 + 1, 0, none⟩ = false := xw1.frz (by simp <;> omega) qFz
   have f_q1 : w1.frozen? ⟨w.heap.size + 1 + 1, 1, none⟩ = false := xw1.frz (by simp <;> omega) qFz
   have f_q2 : w1.frozen? ⟨w.heap.size + 1 + 1, 2, none⟩ = false := xw1.frz (by simp <;> omega) qFz
   have z_va : w.heap.size < w1.heap.size := qB va0
   have z_sl : w.heap.size + 1 < w1.heap.size := qB sl0
   have z_q : w.heap.size + 1 + 1 < w1.heap.size := qB q0
   have s_w1 : w.heap.size ≤ w1.heap.size := Xw1.size
   clear xw1
   rw [ha.out]
   go_wp2_with fail
   refine (isDim_c b1 _ _ s1 t1 d _ l1 m1 (h1.ext (Xw1.trans qXt)) (k1.ext (Xw1.trans qXt)) (by omega)).mono ?_
   rintro e w2 ⟨rfl, xw2⟩
   have Lw2 : Ext w1 w2 := Ext.trans qXt xw2
   have Xw2 : Ext w w2 := Xw1.trans Lw2
   replace va0 := Lw2.cell va0
   replace va1 := Lw2.cell va1
   replace va2 := Lw2.cell va2
   replace sl0 := Lw2.cell sl0
   replace sl1 := Lw2.cell sl1
   replace sl2 := Lw2.cell sl2
   replace sl3 := Lw2.cell sl3
   replace sl4 := Lw2.cell sl4
   replace q0 := Lw2.cell q0
   replace q1 := Lw2.cell q1
   replace q2 := Lw2.cell q2
   replace f_q0 := Lw2.frz z_q f_q0
   replace f_q1 := Lw2.frz z_q f_q1
   replace f_q2 := Lw2.frz z_q f_q2
   have z_va : w.heap.size < w2.heap.size := qB va0
   have z_sl : w.heap.size + 1 < w2.heap.size := qB sl0
   have z_q : w.heap.size + 1 + 1 < w2.heap.size := qB q0
   have s_w2 : w.heap.size ≤ w2.heap.size := Xw2.size
   clear xw2
   rw [hb.out]
   go_wp2_with fail
   refine bodyPost_ret (v := .tuple #[.agg #[.int .i64 0, .slice none 0 0, .slice none 0 0], .bool false]) (by simp only [results, Try.results124]; go_simp) rfl ?_
   exact PVB.no hr.out qXt
  ·
   obtain ⟨j1, -⟩ := viewB_in ha
   have j4 := (shapeB_in j1).1
   clear j1
   cases hc : sliceB F T B hf ht
   ·
    have hr : Hid (sliceV b1 s1 t1 d F T B hf ht = noV) := Lib.hid (by unfold sliceV; rw [ha, hb, hc]; rfl)
    replace ha := Lib.hid ha
    replace hb := Lib.hid hb
    replace hc := Lib.hid hc
    go_enter Try.func124, Try.ntmps124
    go_wp2_with fail
    refine (validView_c b1 _ _ s1 t1 _ l1 m1 (h1.ext qXt) (k1.ext qXt)).mono ?_
    rintro e w1 ⟨rfl, xw1⟩
    have Lw1 : Ext w w1 := Ext.trans qXt xw1
    have Xw1 : Ext w w1 := Lw1
    have va0 : w1.cell? ⟨w.heap.size, 0, none⟩ = some (.int .i64 b1) := xw1.cell qCl
    have va1 : w1.cell? ⟨w.heap.size, 1, none⟩ = some (.slice a1 s1.length cp1) := xw1.cell qCl
    have va2 : w1.cell? ⟨w.heap.size, 2, none⟩ = some (.slice a2 t1.length cp2) := xw1.cell qCl
    have sl0 : w1.cell? ⟨w.heap.size + 1, 0, none⟩ = some (.int .i64 F) := xw1.cell qCl
    have sl1 : w1.cell? ⟨w.heap.size + 1, 1, none⟩ = some (.int .i64 T) := xw1.cell qCl
    have sl2 : w1.cell? ⟨w.heap.size + 1, 2, none⟩ = some (.int .i64 B) := xw1.cell qCl
    have sl3 : w1.cell? ⟨w.heap.size + 1, 3, none⟩ = some (.bool hf) := xw1.cell qCl
    have sl4 : w1.cell? ⟨w.heap.size + 1, 4, none⟩ = some (.bool ht) := xw1.cell qCl
    have q0 : w1.cell? ⟨w.heap.size + 1 + 1, 0, none⟩ = some (.int .i64 0) := xw1.cell qCl
    have q1 : w1.cell? ⟨w.heap.size + 1 + 1, 1, none⟩ = some (.slice none 0 0) := xw1.cell qCl
    have q2 : w1.cell? ⟨w.heap.size + 1 + 1, 2, none⟩ = some (.slice none 0 0) := xw1.cell qCl
    have f_q0 : w1.frozen? ⟨w.heap.size + 1 + 1, 0, none⟩ = false := xw1.frz (by simp <;> omega) qFz
    have f_q1 : w1.frozen? ⟨w.heap.size + 1 + 1, 1, none⟩ = false := xw1.frz (by simp <;> omega) qFz
    have f_q2 : w1.frozen? ⟨w.heap.size + 1 + 1, 2, none⟩ = false := xw1.frz (by simp <;> omega) qFz
    have z_va : w.heap.size < w1.heap.size := qB va0
    have z_sl : w.heap.size + 1 < w1.heap.size := qB sl0
    have z_q : w.heap.size + 1 + 1 < w1.heap.size := qB q0
    have s_w1 : w.heap.size ≤ w1.heap.size := Xw1.size
    clear xw1
    rw [ha.out]
    go_wp2_with fail
    refine (isDim_c b1 _ _ s1 t1 d _ l1 m1 (h1.ext (Xw1.trans qXt)) (k1.ext (Xw1.trans qXt)) (by omega)).mono ?_
    rintro e w2 ⟨rfl, xw2⟩
    have Lw2 : Ext w1 w2 := Ext.trans qXt xw2
    have Xw2 : Ext w w2 := Xw1.trans Lw2
    replace va0 := Lw2.cell va0
    replace va1 := Lw2.cell va1
    replace va2 := Lw2.cell va2
    replace sl0 := Lw2.cell sl0
    replace sl1 := Lw2.cell sl1
    replace sl2 := Lw2.cell sl2
    replace sl3 := Lw2.cell sl3
    replace sl4 := Lw2.cell sl4
    replace q0 := Lw2.cell q0
    replace q1 := Lw2.cell q1
    replace q2 := Lw2.cell q2
    replace f_q0 := Lw2.frz z_q f_q0
    replace f_q1 := Lw2.frz z_q f_q1
    replace f_q2 := Lw2.frz z_q f_q2
    have z_va : w.heap.size < w2.heap.size := qB va0
    have z_sl : w.heap.size + 1 < w2.heap.size := qB sl0
    have z_q : w.heap.size + 1 + 1 < w2.heap.size := qB q0
    have s_w2 : w.heap.size ≤ w2.heap.size := Xw2.size
    clear xw2
    rw [hb.out]
    go_wp2_with fail
    refine (validSlice_c F T B hf ht _).mono ?_
    rintro e w3 ⟨rfl, xw3⟩
    have Lw3 : Ext w2 w3 := Ext.trans qXt xw3
    have Xw3 : Ext w w3 := Xw2.trans Lw3
    replace va0 := Lw3.cell va0
    replace va1 := Lw3.cell va1
    replace va2 := Lw3.cell va2
    replace sl0 := Lw3.cell sl0
    replace sl1 := Lw3.cell sl1
    replace sl2 := Lw3.cell sl2
    replace sl3 := Lw3.cell sl3
    replace sl4 := Lw3.cell sl4
    replace q0 := Lw3.cell q0
    replace q1 := Lw3.cell q1
    replace q2 := Lw3.cell q2
    replace f_q0 := Lw3.frz z_q f_q0
    replace f_q1 := Lw3.frz z_q f_q1
    replace f_q2 := Lw3.frz z_q f_q2
    have z_va : w.heap.size < w3.heap.size := qB va0
    have z_sl : w.heap.size + 1 < w3.heap.size := qB sl0
    have z_q : w.heap.size + 1 + 1 < w3.heap.size := qB q0
    have s_w3 : w.heap.size ≤ w3.heap.size := Xw3.size
    clear xw3
    rw [hc.out]
    go_wp2_with fail
    refine bodyPost_ret (v := .tuple #[.agg #[.int .i64 0, .slice none 0 0, .slice none 0 0], .bool false]) (by simp only [results, Try.results124]; go_simp) rfl ?_
    exact PVB.no hr.out qXt
   ·
    have hd : 0 ≤ d ∧ d < s1.length := by simp [inB] at hb; omega
    obtain ⟨L, hL⟩ : ∃ L, Hid (idxS (s1.getD d.toNat 0) F T B hf ht = L) := ⟨_, Lib.hid rfl⟩
    have hv := sliceV_view ha hd hc
    have hr := sliceV_yes ha hb hc hL.out
    rw [hL.out] at hv
    have hcut : ∀ W, Ext w W → Calls Try.prog 146 #[.agg #[.int .i64 b1, .slice a1 s1.length cp1, .slice a2 t1.length cp2], .int .i64 (d.toNat : Int), .agg #[.int .i64 F, .int .i64 T, .int .i64 B, .bool hf, .bool ht]] W (PView W (cutB b1 s1 t1 d.toNat L) (cutS s1 d.toNat L) (cutT s1 t1 d.toNat L)) :=
     fun W hW => cutDim_c b1 _ _ s1 t1 d.toNat F T B hf ht L W l1 m1 (h1.ext hW) (k1.ext hW) ha (by omega) hc hL.out
    rw [Int.toNat_of_nonneg hd.1] at hcut
    replace hv := Lib.hid hv
    generalize cutB b1 s1 t1 d.toNat L = cb at *
    generalize cutS s1 d.toNat L = cs at *
    generalize cutT s1 t1 d.toNat L = ct at *
    replace hcut := Lib.hid hcut
    replace hr := Lib.hid hr
    replace ha := Lib.hid ha
    replace hb := Lib.hid hb
    replace hc := Lib.hid hc
    go_enter Try.func124, Try.ntmps124
    go_wp2_with fail
    refine (validView_c b1 _ _ s1 t1 _ l1 m1 (h1.ext qXt) (k1.ext qXt)).mono ?_
    rintro e w1 ⟨rfl, xw1⟩
    have Lw1 : Ext w w1 := Ext.trans qXt xw1
    have Xw1 : Ext w w1 := Lw1
    have va0 : w1.cell? ⟨w.heap.size, 0, none⟩ = some (.int .i64 b1) := xw1.cell qCl
    have va1 : w1.cell? ⟨w.heap.size, 1, none⟩ = some (.slice a1 s1.length cp1) := xw1.cell qCl
    have va2 : w1.cell? ⟨w.heap.size, 2, none⟩ = some (.slice a2 t1.length cp2) := xw1.cell qCl
    have sl0 : w1.cell? ⟨w.heap.size + 1, 0, none⟩ = some (.int .i64 F) := xw1.cell qCl
    have sl1 : w1.cell? ⟨w.heap.size + 1, 1, none⟩ = some (.int .i64 T) := xw1.cell qCl
    have sl2 : w1.cell? ⟨w.heap.size + 1, 2, none⟩ = some (.int .i64 B) := xw1.cell qCl
    have sl3 : w1.cell? ⟨w.heap.size + 1, 3, none⟩ = some (.bool hf) := xw1.cell qCl
    have sl4 : w1.cell? ⟨w.heap.size + 1, 4, none⟩ = some (.bool ht) := xw1.cell qCl
    have q0 : w1.cell? ⟨w.heap.size + 1 + 1, 0, none⟩ = some (.int .i64 0) := xw1.cell qCl
    have q1 : w1.cell? ⟨w.heap.size + 1 + 1, 1, none⟩ = some (.slice none 0 0) := xw1.cell qCl
    have q2 : w1.cell? ⟨w.heap.size + 1 + 1, 2, none⟩ = some (.slice none 0 0) := xw1.cell qCl
    have f_q0 : w1.frozen? ⟨w.heap.size + 1 + 1, 0, none⟩ = false := xw1.frz (by simp <;> omega) qFz
    have f_q1 : w1.frozen? ⟨w.heap.size + 1 + 1, 1, none⟩ = false := xw1.frz (by simp <;> omega) qFz
    have f_q2 : w1.frozen? ⟨w.heap.size + 1 + 1, 2, none⟩ = false := xw1.frz (by simp <;> omega) qFz
    have z_va : w.heap.size < w1.heap.size := qB va0
    have z_sl : w.heap.size + 1 < w1.heap.size := qB sl0
    have z_q : w.heap.size + 1 + 1 < w1.heap.size := qB q0
    have s_w1 : w.heap.size ≤ w1.heap.size := Xw1.size
    clear xw1
    rw [ha.out]
    go_wp2_with fail
    refine (isDim_c b1 _ _ s1 t1 d _ l1 m1 (h1.ext (Xw1.trans qXt)) (k1.ext (Xw1.trans qXt)) (by omega)).mono ?_
    rintro e w2 ⟨rfl, xw2⟩
    have Lw2 : Ext w1 w2 := Ext.trans qXt xw2
    have Xw2 : Ext w w2 := Xw1.trans Lw2
    replace va0 := Lw2.cell va0
    replace va1 := Lw2.cell va1
    replace va2 := Lw2.cell va2
    replace sl0 := Lw2.cell sl0
    replace sl1 := Lw2.cell sl1
    replace sl2 := Lw2.cell sl2
    replace sl3 := Lw2.cell sl3
    replace sl4 := Lw2.cell sl4
    replace q0 := Lw2.cell q0
    replace q1 := Lw2.cell q1
    replace q2 := Lw2.cell q2
    replace f_q0 := Lw2.frz z_q f_q0
    replace f_q1 := Lw2.frz z_q f_q1
    replace f_q2 := Lw2.frz z_q f_q2
    have z_va : w.heap.size < w2.heap.size := qB va0
    have z_sl : w.heap.size + 1 < w2.heap.size := qB sl0
    have z_q : w.heap.size + 1 + 1 < w2.heap.size := qB q0
    have s_w2 : w.heap.size ≤ w2.heap.size := Xw2.size
    clear xw2
    rw [hb.out]
    go_wp2_with fail
    refine (validSlice_c F T B hf ht _).mono ?_
    rintro e w3 ⟨rfl, xw3⟩
    have Lw3 : Ext w2 w3 := Ext.trans qXt xw3
    have Xw3 : Ext w w3 := Xw2.trans Lw3
    replace va0 := Lw3.cell va0
    replace va1 := Lw3.cell va1
    replace va2 := Lw3.cell va2
    replace sl0 := Lw3.cell sl0
    replace sl1 := Lw3.cell sl1
    replace sl2 := Lw3.cell sl2
    replace sl3 := Lw3.cell sl3
    replace sl4 := Lw3.cell sl4
    replace q0 := Lw3.cell q0
    replace q1 := Lw3.cell q1
    replace q2 := Lw3.cell q2
    replace f_q0 := Lw3.frz z_q f_q0
    replace f_q1 := Lw3.frz z_q f_q1
    replace f_q2 := Lw3.frz z_q f_q2
    have z_va : w.heap.size < w3.heap.size := qB va0
    have z_sl : w.heap.size + 1 < w3.heap.size := qB sl0
    have z_q : w.heap.size + 1 + 1 < w3.heap.size := qB q0
    have s_w3 : w.heap.size ≤ w3.heap.size := Xw3.size
    clear xw3
    rw [hc.out]
    go_wp2_with fail
    refine (hcut.out _ (Xw3.trans qXt)).mono ?_
    rintro e w4 ⟨x1, x2, rfl, i1, i2, -, -, -, xw4⟩
    have Lw4 : Ext w3 w4 := Ext.trans qXt xw4
    have Xw4 : Ext w w4 := Xw3.trans Lw4
    replace va0 := Lw4.cell va0
    replace va1 := Lw4.cell va1
    replace va2 := Lw4.cell va2
    replace sl0 := Lw4.cell sl0
    replace sl1 := Lw4.cell sl1
    replace sl2 := Lw4.cell sl2
    replace sl3 := Lw4.cell sl3
    replace sl4 := Lw4.cell sl4
    replace q0 := Lw4.cell q0
    replace q1 := Lw4.cell q1
    replace q2 := Lw4.cell q2
    replace f_q0 := Lw4.frz z_q f_q0
    replace f_q1 := Lw4.frz z_q f_q1
    replace f_q2 := Lw4.frz z_q f_q2
    have z_va : w.heap.size < w4.heap.size := qB va0
    have z_sl : w.heap.size + 1 < w4.heap.size := qB sl0
    have z_q : w.heap.size + 1 + 1 < w4.heap.size := qB q0
    have s_w4 : w.heap.size ≤ w4.heap.size := Xw4.size
    clear xw4
    go_wp2_with fail
    refine (made_1 _ _ _ _ _ _ _ _ (i1.ext qXt) (i2.ext qXt) hv.out).mono ?_
    rintro e w5 ⟨y1, y2, rfl, j1, j2, o1, o2, od, xw5⟩
    have Lw5 : Ext w4 w5 := Ext.trans qXt xw5
    have Xw5 : Ext w w5 := Xw4.trans Lw5
    replace va0 := Lw5.cell va0
    replace va1 := Lw5.cell va1
    replace va2 := Lw5.cell va2
    replace sl0 := Lw5.cell sl0
    replace sl1 := Lw5.cell sl1
    replace sl2 := Lw5.cell sl2
    replace sl3 := Lw5.cell sl3
    replace sl4 := Lw5.cell sl4
    replace q0 := Lw5.cell q0
    replace q1 := Lw5.cell q1
    replace q2 := Lw5.cell q2
    replace f_q0 := Lw5.frz z_q f_q0
    replace f_q1 := Lw5.frz z_q f_q1
    replace f_q2 := Lw5.frz z_q f_q2
    have z_va : w.heap.size < w5.heap.size := qB va0
    have z_sl : w.heap.size + 1 < w5.heap.size := qB sl0
    have z_q : w.heap.size + 1 + 1 < w5.heap.size := qB q0
    replace i1 := i1.ext Lw5
    replace i2 := i2.ext Lw5
    have s_w5 : w.heap.size ≤ w5.heap.size := Xw5.size
    clear xw5
    have hl1 := ints_len j1
    have hl2 := ints_len j2
    clear i1 i2
    obtain ⟨p1, n1, r1, rfl⟩ := o1.form
    obtain ⟨p2, n2, r2, rfl⟩ := o2.form
    go_wp2_with fail
    generalize hW1 : (((w5.setCell ⟨w.heap.size + 1 + 1, 0, none⟩ (.int .i64 cb)).setCell ⟨w.heap.size + 1 + 1, 1, none⟩ (.slice p1 n1 r1)).setCell ⟨w.heap.size + 1 + 1, 2, none⟩ (.slice p2 n2 r2)) = w6 at *
    have Kw6 : Chg (w.heap.size + 1 + 1) (w.heap.size + 1 + 1 + 1) w5 w6 := by subst hW1; exact qCh
    have Xw6 : Ext w w6 := by subst hW1; exact qXt
    replace va0 := Kw6.cell (by omega) va0
    replace va1 := Kw6.cell (by omega) va1
    replace va2 := Kw6.cell (by omega) va2
    replace sl0 := Kw6.cell (by omega) sl0
    replace sl1 := Kw6.cell (by omega) sl1
    replace sl2 := Kw6.cell (by omega) sl2
    replace sl3 := Kw6.cell (by omega) sl3
    replace sl4 := Kw6.cell (by omega) sl4
    replace q0 : w6.cell? ⟨w.heap.size + 1 + 1, 0, none⟩ = some (.int .i64 cb) := by subst hW1; go_simp
    replace f_q0 : w6.frozen? ⟨w.heap.size + 1 + 1, 0, none⟩ = false := by subst hW1; go_simp
    replace q1 : w6.cell? ⟨w.heap.size + 1 + 1, 1, none⟩ = some (.slice p1 n1 r1) := by subst hW1; go_simp
    replace f_q1 : w6.frozen? ⟨w.heap.size + 1 + 1, 1, none⟩ = false := by subst hW1; go_simp
    replace q2 : w6.cell? ⟨w.heap.size + 1 + 1, 2, none⟩ = some (.slice p2 n2 r2) := by subst hW1; go_simp
    replace f_q2 : w6.frozen? ⟨w.heap.size + 1 + 1, 2, none⟩ = false := by subst hW1; go_simp
    replace o1 := o1.chg Kw6 (by omega)
    replace o2 := o2.chg Kw6 (by omega)
    clear Kw6
    have z_va : w.heap.size < w6.heap.size := qB va0
    have z_sl : w.heap.size + 1 < w6.heap.size := qB sl0
    have z_q : w.heap.size + 1 + 1 < w6.heap.size := qB q0
    have s_w6 : w.heap.size ≤ w6.heap.size := Xw6.size
    clear hW1
    refine bodyPost_ret (v := .tuple #[.agg #[.int .i64 cb, .slice p1 n1 r1, .slice p2 n2 r2], .bool true]) (by simp only [results, Try.results124]; go_simp) rfl ?_
    clear hL hcut hv
    exact PVB.yes hr.out (o1.lower (by omega)) (o2.lower (by omega)) od hl1 hl2 Xw6

end Go.Proofs.Ytpgkhjmboiepcaa
