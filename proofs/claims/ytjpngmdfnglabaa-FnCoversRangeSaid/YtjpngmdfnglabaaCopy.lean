/- Walks: memories, fits, copies of lists and views. -/
import Derived.Test.YtjpngmdfnglabaaSpB
import Derived.Test.YtjpngmdfnglabaaLwA
namespace Go.Proofs.Ytjpngmdfnglabaa
open Go.RowKit
set_option linter.unusedVariables false
set_option maxRecDepth 100000

def memB (xs : List Int) : Bool := decide (xs.length ≤ 60) && xs.all (inB 0 255)

theorem isValue_c (x : Int) (w : World) : Calls Try.prog 117 #[.int .i64 x] w fun e w' => e = .returned (.bool (inB 0 255 x)) ∧ w = w' := by
  by_cases h : 0 ≤ x
  · go_enter Try.func117, Try.ntmps117
    go_wp2_with fail
    go_ret
    exact ⟨by simp [inB, h], rfl⟩
  · have h' : x < 0 := by omega
    go_enter Try.func117, Try.ntmps117
    go_wp2_with fail
    go_ret
    exact ⟨by simp [inB]; intro; omega, rfl⟩

theorem isMemoryF_c (w : World) : Asks 161 #[] w (fun x => !inB 0 255 x) := by
  refine ⟨⟨Try.f161, Try.func161, rfl, by decide +kernel⟩, fun x => ?_⟩
  rw [show (#[Value.int .i64 x] ++ #[]) = #[.int .i64 x] by simp]
  go_enter Try.func161, Try.ntmps161
  go_wp2_with (go_at_call 117; refine (isValue_c _ _).mono ?_; rintro e w' ⟨rfl, rfl⟩)
  go_ret
  exact ⟨rfl, rfl⟩

set_option maxHeartbeats 400000 in
theorem isMemory_c (xs : List Int) (v : Value) (w : World) (lo : Nat) (hv : Ints w lo v xs) :
    Calls Try.prog 146 #[v] w fun e w' => e = .returned (.bool (memB xs)) ∧ w = w' := by
  have hv0 := Lib.hid hv
  obtain ⟨a, cap, rfl, hlc, hcm, ⟨hlen, _⟩, hc⟩ := hv
  clear hc
  by_cases h4 : xs.length ≤ 60
  · have h4' : (xs.length : Int) ≤ 60 := by omega
    go_enter Try.func146, Try.ntmps146
    go_wp2_with (go_at_call 59; refine (containsFunc_c _ _ (fun x => !inB 0 255 x) _ _ _ _ hv0.out (isMemoryF_c _)).mono ?_; rintro e w' ⟨rfl, rfl⟩)
    go_ret
    exact ⟨by simp [memB, h4, List.any_eq_not_all_not], rfl⟩
  · have h4' : ¬ (xs.length : Int) ≤ 60 := by omega
    go_enter Try.func146, Try.ntmps146
    go_wp2_with fail
    go_ret
    exact ⟨by simp [memB, h4], rfl⟩

set_option maxHeartbeats 400000 in
theorem validMemory_c (xs : List Int) (v : Value) (w : World) (lo : Nat) (hv : Ints w lo v xs) :
    Calls Try.prog 118 #[v] w fun e w' => e = .returned (.bool (memB xs)) ∧ w = w' := by
  have hv0 := Lib.hid hv
  obtain ⟨a, cap, rfl, hlc, hcm, ⟨hlen, _⟩, hc⟩ := hv
  clear hc
  by_cases h4 : xs.length ≤ 60
  · have h4' : (xs.length : Int) ≤ 60 := by omega
    go_enter Try.func118, Try.ntmps118
    go_wp2_with (go_at_call 80; refine (allIn_c xs _ _ _ _ lo hv0.out).mono ?_; rintro e w' ⟨rfl, rfl⟩)
    go_ret
    exact ⟨by simp [memB, h4], rfl⟩
  · have h4' : ¬ (xs.length : Int) ≤ 60 := by omega
    go_enter Try.func118, Try.ntmps118
    go_wp2_with fail
    go_ret
    exact ⟨by simp [memB, h4], rfl⟩

/-- the view is one, and its cells are all less than n -/
def fitB (base : Int) (shape strides : List Int) (n : Int) : Bool := (offsL base shape strides).all (fun x => decide (x < n))

theorem fitsInF_c (w : World) (b : Nat) (n : Int) (hc : w.cell? ⟨b, 0, none⟩ = some (.int .i64 n)) : Asks 109 #[.pointer (some ⟨b, 0, none⟩)] w (fun x => decide (n ≤ x)) := by
  refine ⟨⟨Try.f109, Try.func109, rfl, by decide +kernel⟩, fun x => ?_⟩
  rw [show (#[Value.int .i64 x] ++ #[.pointer (some ⟨b, 0, none⟩)]) = #[.int .i64 x, .pointer (some ⟨b, 0, none⟩)] by simp]
  go_enter Try.func109, Try.ntmps109
  go_wp2_with fail
  go_ret
  exact ⟨rfl, rfl⟩

theorem fit_any (l : List Int) (n : Int) : (!l.any fun x => decide (n ≤ x)) = l.all fun x => decide (x < n) := by
  rw [List.not_any_eq_all_not]; congr 1; funext x; rw [Bool.eq_iff_iff]; simp

set_option maxHeartbeats 400000 in
theorem fitsIn_c (base : Int) (sh st : Value) (shape strides : List Int) (n : Int) (w : World) (lo lo' : Nat) (hsh : Ints w lo sh shape) (hst : Ints w lo' st strides) (hvb : viewB base shape strides = true) :
    Calls Try.prog 68 #[.agg #[.int .i64 base, sh, st], .int .i64 n] w fun e w' => e = .returned (.bool (fitB base shape strides n)) ∧ Ext w w' := by
  obtain ⟨h1, h2, _⟩ := viewB_in hvb
  have hin := Lib.hid (shapeB_in h1)
  clear hvb h1
  have h2 := Lib.hid h2
  go_enter Try.func68, Try.ntmps68
  go_wp2_with fail
  refine (offsetsOf_c base _ _ shape strides _ lo lo' (hsh.ext ((Ext.refl _).alloc _ |>.alloc _)) (hst.ext ((Ext.refl _).alloc _ |>.alloc _)) (by have := h2.out; omega) hin.out.2.2.2.2 (by have := hin.out; omega)).mono ?_
  rintro e w1 ⟨v1, rfl, hi1, _, hx1⟩
  have hcl : w1.cell? ⟨w.heap.size + 1, 0, none⟩ = some (.int .i64 n) := hx1.cell (by simp)
  go_wp2_with (go_at_call 59; refine (containsFunc_c _ _ _ _ _ _ _ hi1 (fitsInF_c _ _ n hcl)).mono ?_; rintro e w' ⟨rfl, rfl⟩)
  go_ret
  exact ⟨by unfold fitB; rw [← fit_any]; rfl, Ext.trans ((Ext.refl _).alloc _ |>.alloc _) hx1⟩

theorem fit_all {base : Int} {shape strides : List Int} (n : Int) (h : viewB base shape strides = true) : (offsL base shape strides).all (inB 0 (n - 1)) = fitB base shape strides n := by
  obtain ⟨_, _, _, _, h5⟩ := viewB_in h
  unfold fitB
  rw [Bool.eq_iff_iff]; simp only [List.all_eq_true, inB, decide_eq_true_eq]
  exact ⟨fun H x hx => by have := H x hx; omega, fun H x hx => by have := H x hx; have := h5 x hx; omega⟩

set_option maxHeartbeats 400000 in
theorem fits_c (base : Int) (sh st : Value) (shape strides : List Int) (n : Int) (w : World) (lo lo' : Nat) (hsh : Ints w lo sh shape) (hst : Ints w lo' st strides) (hvb : viewB base shape strides = true) (hn : 0 ≤ n) (hn2 : n ≤ 4194304) :
    Calls Try.prog 71 #[.agg #[.int .i64 base, sh, st], .int .i64 n] w fun e w' => e = .returned (.bool (fitB base shape strides n)) ∧ Ext w w' := by
  have hfa := Lib.hid (fit_all n hvb)
  obtain ⟨h1, h2, _⟩ := viewB_in hvb
  have hin := Lib.hid (shapeB_in h1)
  clear hvb h1
  have h2 := Lib.hid h2
  go_enter Try.func71, Try.ntmps71
  go_wp2_with fail
  refine (offsets_c base _ _ shape strides _ lo lo' (hsh.ext ((Ext.refl _).alloc _)) (hst.ext ((Ext.refl _).alloc _)) (by have := h2.out; omega) hin.out.2.2.2.2 (by have := hin.out; omega)).mono ?_
  rintro e w1 ⟨v1, rfl, hi1, _, hx1⟩
  go_wp2_with (go_at_call 80; refine (allIn_c _ _ _ _ _ _ hi1).mono ?_; rintro e w' ⟨rfl, rfl⟩)
  go_ret
  exact ⟨by rw [← hfa.out]; rfl, Ext.trans ((Ext.refl _).alloc _) hx1⟩

set_option maxHeartbeats 400000 in
theorem copyInts_c (xs : List Int) (v : Value) (w : World) (lo : Nat) (hv : Ints w lo v xs) :
    Calls Try.prog 81 #[v] w (PInts w xs) := by
  have hlen : xs.length ≤ 4194304 := by obtain ⟨_, _, _, _, _, ⟨h, _⟩, _⟩ := hv; exact h
  go_enter Try.func81, Try.ntmps81
  go_wp2_with (at_builtin; refine wpList_app rfl (.tmp 3) (.tmp 4) rfl rfl rfl (OwnI.lit0 w w.heap.size (Nat.le_refl _)) (hv.ext ((Ext.refl _).alloc _)) (by simpa using hlen) (by simp) ?_)
  intro v' w1 ho hg hb _
  have hx : Ext w w1 := ((Ext.refl w).alloc _).below hb (Nat.le_refl _)
  clear hg hb
  have ho := Lib.hid ho
  go_wp2
  go_ret
  exact PInts.mk ho.out (Nat.le_refl _) hlen hx

/-- a call hands back a new view -/
def PView (w : World) (base : Int) (shape strides : List Int) (e : Ending) (w' : World) : Prop :=
  ∃ sh st, e = .returned (.agg #[.int .i64 base, sh, st]) ∧ Ints w' w.heap.size sh shape ∧ Ints w' w.heap.size st strides ∧ OwnZ w' w.heap.size sh shape ∧ OwnZ w' w.heap.size st strides ∧
    (shape ≠ [] → strides ≠ [] → sh.ownBlock ≠ st.ownBlock) ∧ Ext w w'

theorem PView.mk {w w' : World} {base : Int} {shape strides : List Int} {v1 v2 : Value} {b1 b2 : Nat} (o1 : OwnZ w' b1 v1 shape) (o2 : OwnZ w' b2 v2 strides) (h1 : w.heap.size ≤ b1) (h2 : w.heap.size ≤ b2)
    (hd : shape ≠ [] → ∃ g, v1.ownBlock = some g ∧ g < b2) (l1 : shape.length ≤ 4194304) (l2 : strides.length ≤ 4194304) (hx : Ext w w') : PView w base shape strides (.returned (.agg #[.int .i64 base, v1, v2])) w' := by
  refine ⟨v1, v2, rfl, (o1.lower h1).ints l1, (o2.lower h2).ints l2, o1.lower h1, o2.lower h2, fun n1 n2 => ?_, hx⟩
  obtain ⟨g1, e1, t1⟩ := hd n1
  obtain ⟨g2, e2, t2, _⟩ := o2.lt n2
  rw [e1, e2]; simp; omega

theorem OwnZ.setCell_below {w : World} {base : Nat} {v : Value} {xs : List Int} (h : OwnZ w base v xs) {a : Addr} (ha : a.block < base) (u : Value) : OwnZ (w.setCell a u) base v xs :=
  h.imp id fun h => ownsRow_setCell_below h ha u

theorem copy_close {w w0 w1 w2 : World} {base : Int} {v1 v2 : Value} {shape strides : List Int} (hx0 : Ext w w0) (h1 : Ext w0 w1) (o1 : OwnZ w1 w0.heap.size v1 shape) (h2 : Ext w1 w2) (o2 : OwnZ w2 w1.heap.size v2 strides)
    (hz : w.heap.size + 1 < w0.heap.size) (l1 : shape.length ≤ 4194304) (l2 : strides.length ≤ 4194304) (a b c : Addr) (ha : a.block = w.heap.size + 1) (hb : b.block = w.heap.size + 1) (hc : c.block = w.heap.size + 1) (u v x : Value) :
    PView w base shape strides (.returned (.agg #[.int .i64 base, v1, v2])) (((w2.setCell a u).setCell b v).setCell c x) := by
  have z0 := hx0.size
  have z1 := h1.size
  have o1' := (((o1.ext h2).setCell_below (a := a) (by omega) u).setCell_below (a := b) (by omega) v).setCell_below (a := c) (by omega) x
  have o2' := ((o2.setCell_below (a := a) (by omega) u).setCell_below (a := b) (by omega) v).setCell_below (a := c) (by omega) x
  refine ⟨v1, v2, rfl, (o1'.lower (by omega)).ints l1, (o2'.lower (by omega)).ints l2, o1'.lower (by omega), o2'.lower (by omega), fun n1 n2 => ?_, ?_⟩
  · obtain ⟨g1, e1, _, t1⟩ := o1.lt n1
    obtain ⟨g2, e2, b2, _⟩ := o2.lt n2
    rw [e1, e2]; simp; omega
  · exact (((hx0.trans (h1.trans h2)).setCell (by omega) _).setCell (by omega) _).setCell (by omega) _

set_option maxHeartbeats 1000000 in
theorem copyView_c (base : Int) (sh st : Value) (shape strides : List Int) (w : World) (lo lo' : Nat) (hsh : Ints w lo sh shape) (hst : Ints w lo' st strides) :
    Calls Try.prog 85 #[.agg #[.int .i64 base, sh, st]] w (PView w base shape strides) := by
  have hl1 : shape.length ≤ 4194304 := by obtain ⟨_, _, _, _, _, ⟨h, _⟩, _⟩ := hsh; exact h
  have hl2 : strides.length ≤ 4194304 := by obtain ⟨_, _, _, _, _, ⟨h, _⟩, _⟩ := hst; exact h
  go_enter Try.func85, Try.ntmps85
  go_wp2_with fail
  have c0 : ((w.alloc (.cells #[.int .i64 base, sh, st] 37)).alloc (.cells #[.int .i64 0, .slice none 0 0, .slice none 0 0] 37)).cell? ⟨w.heap.size, 0, none⟩ = some (.int .i64 base) := by rw [World.cell?_alloc_lt _ _ _ (by simp)]; simp
  have c1 : ((w.alloc (.cells #[.int .i64 base, sh, st] 37)).alloc (.cells #[.int .i64 0, .slice none 0 0, .slice none 0 0] 37)).cell? ⟨w.heap.size, 1, none⟩ = some sh := by rw [World.cell?_alloc_lt _ _ _ (by simp)]; simp
  have c2 : ((w.alloc (.cells #[.int .i64 base, sh, st] 37)).alloc (.cells #[.int .i64 0, .slice none 0 0, .slice none 0 0] 37)).cell? ⟨w.heap.size, 2, none⟩ = some st := by rw [World.cell?_alloc_lt _ _ _ (by simp)]; simp
  have r0 : ∀ j : Nat, j < 3 → (∃ u, ((w.alloc (.cells #[.int .i64 base, sh, st] 37)).alloc (.cells #[.int .i64 0, .slice none 0 0, .slice none 0 0] 37)).cell? ⟨w.heap.size + 1, j, none⟩ = some u) ∧ ((w.alloc (.cells #[.int .i64 base, sh, st] 37)).alloc (.cells #[.int .i64 0, .slice none 0 0, .slice none 0 0] 37)).frozen? ⟨w.heap.size + 1, j, none⟩ = false := by
    intro j hj
    have e : w.heap.size + 1 = (w.alloc (.cells #[.int .i64 base, sh, st] 37)).heap.size := by simp
    rw [e]
    refine ⟨?_, by simp⟩
    rw [World.cell?_alloc_new]
    match j, hj with
    | 0, _ => exact ⟨_, rfl⟩
    | 1, _ => exact ⟨_, rfl⟩
    | 2, _ => exact ⟨_, rfl⟩
  have hx0 : Ext w ((w.alloc (.cells #[.int .i64 base, sh, st] 37)).alloc (.cells #[.int .i64 0, .slice none 0 0, .slice none 0 0] 37)) := ((Ext.refl _).alloc _).alloc _
  have hz0 : w.heap.size + 2 ≤ ((w.alloc (.cells #[.int .i64 base, sh, st] 37)).alloc (.cells #[.int .i64 0, .slice none 0 0, .slice none 0 0] 37)).heap.size := by simp
  revert c0 c1 c2 r0 hx0 hz0
  generalize (w.alloc (.cells #[.int .i64 base, sh, st] 37)).alloc (.cells #[.int .i64 0, .slice none 0 0, .slice none 0 0] 37) = w0
  intro c0 c1 c2 r0 hx0 hz0
  obtain ⟨⟨ua, ra⟩, fa⟩ := r0 0 (by omega)
  obtain ⟨⟨ub, rb⟩, fb⟩ := r0 1 (by omega)
  obtain ⟨⟨uc, rc⟩, fc⟩ := r0 2 (by omega)
  clear r0
  have hz1 : w.heap.size + 1 < w0.heap.size := by omega
  have hz2 : w.heap.size < w0.heap.size := by omega
  go_region_held3 (fun w' => w'.cell? ⟨w.heap.size, 0, none⟩ = some (.int .i64 base) ∧ w'.cell? ⟨w.heap.size, 1, none⟩ = some sh ∧ w'.cell? ⟨w.heap.size, 2, none⟩ = some st)
    (first
      | go_keep
      | exact ⟨X1.cell c0, X1.cell c1, X1.cell c2⟩
      | exact ⟨X2.cell c0, X2.cell c1, X2.cell c2⟩)
    (first
      | (refine step_app0 rfl (.tmp 5) (.tmp 7) _ rfl rfl rfl (hsh.ext (hx0.trans (by repeat (first | exact Ext.refl _ | assumption | apply Ext.drew | apply Ext.alloc)))) ?_; intro v1 w1 ho1 hx1 hb1; obtain ⟨p1, q1, s1, rfl⟩ := ho1.form; have X1 : Ext w0 w1 := Ext.trans (by repeat (first | exact Ext.refl _ | assumption | apply Ext.drew | apply Ext.alloc)) hx1; have R1 := X1.rule; have F1 := X1.frule)
      | (refine step_app0 rfl (.tmp 9) (.tmp 11) _ rfl rfl rfl (hst.ext (hx0.trans (by repeat (first | exact Ext.refl _ | assumption | apply Ext.drew | apply Ext.alloc)))) ?_; intro v2 w2 ho2 hx2 hb2; obtain ⟨p2, q2, s2, rfl⟩ := ho2.form; have X2 : Ext w0 w2 := Ext.trans (by repeat (first | exact Ext.refl _ | assumption | apply Ext.drew | apply Ext.alloc)) hx2; have R2 := X2.rule; have F2 := X2.frule))
  all_goals
    go_wp2_with fail
    refine bodyPost_ret (v := .agg #[.int .i64 base, .slice p1 q1 s1, .slice p2 q2 s2]) (by simp only [results, Try.results85]; go_simp) rfl ?_
    refine copy_close hx0 X1 (ho1.lower (by simp <;> omega)) (Ext.trans (by repeat (first | exact Ext.refl _ | apply Ext.drew | apply Ext.alloc)) hx2) (ho2.lower (by simp <;> omega)) hz1 hl1 hl2 _ _ _ rfl rfl rfl _ _ _

end Go.Proofs.Ytjpngmdfnglabaa
