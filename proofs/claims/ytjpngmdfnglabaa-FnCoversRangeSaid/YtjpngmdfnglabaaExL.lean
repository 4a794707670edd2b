/- A copy of a view by the reference. -/
import Derived.Test.YtjpngmdfnglabaaExK
namespace Go.Proofs.Ytjpngmdfnglabaa
open Go.RowKit
set_option linter.unusedVariables false
set_option maxRecDepth 100000

set_option maxHeartbeats 1000000 in
theorem scopyView_c (base : Int) (sh st : Value) (shape strides : List Int) (w : World) (lo lo' : Nat) (hsh : Ints w lo sh shape) (hst : Ints w lo' st strides) :
    Calls Try.prog 87 #[.agg #[.int .i64 base, sh, st]] w (PView w base shape strides) := by
  have hl1 : shape.length ≤ 4194304 := by obtain ⟨_, _, _, _, _, ⟨h, _⟩, _⟩ := hsh; exact h
  have hl2 : strides.length ≤ 4194304 := by obtain ⟨_, _, _, _, _, ⟨h, _⟩, _⟩ := hst; exact h
  go_enter Try.func87, Try.ntmps87
  go_wp2_with fail
  have c0 : ((w.alloc (.cells #[.int .i64 base, sh, st] 37)).alloc (.cells #[.int .i64 0, .slice none 0 0, .slice none 0 0] 37)).cell? ⟨w.heap.size, 0, none⟩ = some (.int .i64 base) := by rw [World.cell?_alloc_lt _ _ _ (by simp)]; simp
  have c1 : ((w.alloc (.cells #[.int .i64 base, sh, st] 37)).alloc (.cells #[.int .i64 0, .slice none 0 0, .slice none 0 0] 37)).cell? ⟨w.heap.size, 1, none⟩ = some sh := by rw [World.cell?_alloc_lt _ _ _ (by simp)]; simp
  have c2 : ((w.alloc (.cells #[.int .i64 base, sh, st] 37)).alloc (.cells #[.int .i64 0, .slice none 0 0, .slice none 0 0] 37)).cell? ⟨w.heap.size, 2, none⟩ = some st := by rw [World.cell?_alloc_lt _ _ _ (by simp)]; simp
  have r0 : ∀ j : Nat, j < 3 → (∃ u, ((w.alloc (.cells #[.int .i64 base, sh, st] 37)).alloc (.cells #[.int .i64 0, .slice none 0 0, .slice none 0 0] 37)).cell? ⟨w.heap.size + 1, j, none⟩ = some u) ∧ ((w.alloc (.cells #[.int .i64 base, sh, st] 37)).alloc (.cells #[.int .i64 0, .slice none 0 0, .slice none 0 0] 37)).frozen? ⟨w.heap.size + 1, j, none⟩ = false := by
    intro j hj
    have e : w.heap.size + 1 = (w.alloc (.cells #[.int .i64 base, sh, st] 37)).heap.size := by simp
    rw [e]
    refine ⟨?_, by simp⟩
    rw [World.cell?_alloc_new]
    match j, hj with
    | 0, _ => exact ⟨_, rfl⟩
    | 1, _ => exact ⟨_, rfl⟩
    | 2, _ => exact ⟨_, rfl⟩
  have hx0 : Ext w ((w.alloc (.cells #[.int .i64 base, sh, st] 37)).alloc (.cells #[.int .i64 0, .slice none 0 0, .slice none 0 0] 37)) := ((Ext.refl _).alloc _).alloc _
  have hz0 : w.heap.size + 2 ≤ ((w.alloc (.cells #[.int .i64 base, sh, st] 37)).alloc (.cells #[.int .i64 0, .slice none 0 0, .slice none 0 0] 37)).heap.size := by simp
  revert c0 c1 c2 r0 hx0 hz0
  generalize (w.alloc (.cells #[.int .i64 base, sh, st] 37)).alloc (.cells #[.int .i64 0, .slice none 0 0, .slice none 0 0] 37) = w0
  intro c0 c1 c2 r0 hx0 hz0
  obtain ⟨⟨ua, ra⟩, fa⟩ := r0 0 (by omega)
  obtain ⟨⟨ub, rb⟩, fb⟩ := r0 1 (by omega)
  obtain ⟨⟨uc, rc⟩, fc⟩ := r0 2 (by omega)
  clear r0
  have hz1 : w.heap.size + 1 < w0.heap.size := by omega
  have hz2 : w.heap.size < w0.heap.size := by omega
  go_region_held3 (fun w' => w'.cell? ⟨w.heap.size, 0, none⟩ = some (.int .i64 base) ∧ w'.cell? ⟨w.heap.size, 1, none⟩ = some sh ∧ w'.cell? ⟨w.heap.size, 2, none⟩ = some st)
    (first
      | go_keep
      | exact ⟨X1.cell c0, X1.cell c1, X1.cell c2⟩
      | exact ⟨X2.cell c0, X2.cell c1, X2.cell c2⟩)
    (first
      | (go_at_call 81; refine (copyInts_c shape _ _ lo (hsh.ext (hx0.trans (by repeat (first | exact Ext.refl _ | assumption | apply Ext.drewN | apply Ext.drew | apply Ext.alloc))))).mono ?_; rintro e w1 ⟨v1, rfl, hi1, ho1, hx1⟩; obtain ⟨p1, q1, s1, rfl⟩ := ho1.form; have X1 : Ext w0 w1 := Ext.trans (by repeat (first | exact Ext.refl _ | assumption | apply Ext.drewN | apply Ext.drew | apply Ext.alloc)) hx1; have R1 := X1.rule; have F1 := X1.frule)
      | (go_at_call 81; refine (copyInts_c strides _ _ lo' (hst.ext (hx0.trans (by repeat (first | exact Ext.refl _ | assumption | apply Ext.drewN | apply Ext.drew | apply Ext.alloc))))).mono ?_; rintro e w2 ⟨v2, rfl, hi2, ho2, hx2⟩; obtain ⟨p2, q2, s2, rfl⟩ := ho2.form; have X2 : Ext w0 w2 := Ext.trans (by repeat (first | exact Ext.refl _ | assumption | apply Ext.drewN | apply Ext.drew | apply Ext.alloc)) hx2; have R2 := X2.rule; have F2 := X2.frule))
  all_goals
    go_wp2_with fail
    refine bodyPost_ret (v := .agg #[.int .i64 base, .slice p1 q1 s1, .slice p2 q2 s2]) (by simp only [results, Try.results87]; go_simp) rfl ?_
    refine copy_close hx0 X1 (ho1.lower (by simp <;> omega)) (Ext.trans (by repeat (first | exact Ext.refl _ | apply Ext.drew | apply Ext.alloc)) hx2) (ho2.lower (by simp <;> omega)) hz1 hl1 hl2 _ _ _ rfl rfl rfl _ _ _

end Go.Proofs.Ytjpngmdfnglabaa
