/- Walks of the laws' helpers on views: copies and comparisons. -/
import Derived.Test.YtfdpoepidlmbaaaCopy
namespace Go.Proofs.Ytfdpoepidlmbaaa
open Go.RowKit
set_option linter.unusedVariables false
set_option maxRecDepth 100000

set_option maxHeartbeats 1000000 in
theorem toView_c (base : Int) (sh st : Value) (shape strides : List Int) (w : World) (hsh : Raw w sh shape) (hst : Raw w st strides) (hl1 : shape.length ≤ 4194304) (hl2 : strides.length ≤ 4194304) :
    Calls Try.prog 29 #[.agg #[.int .i64 base, sh, st]] w (PView w base shape strides) := by
  go_enter Try.func29, Try.ntmps29
  go_wp2_with fail
  refine (toIntS_c shape _ _ (hsh.ext (by repeat (first | exact Ext.refl _ | assumption | apply Ext.drewN | apply Ext.drew | apply Ext.alloc))) hl1).mono ?_
  rintro e w1 ⟨v1, rfl, hi1, ho1, hx1⟩
  have R1 := hx1.rule
  have F1 := hx1.frule
  have X1 : Ext w w1 := Ext.trans (by repeat (first | exact Ext.refl _ | assumption | apply Ext.drewN | apply Ext.drew | apply Ext.alloc)) hx1
  have hz1 := hx1.size
  simp at hz1
  have hz1a : w.heap.size < w1.heap.size := by omega
  have hz1b : w.heap.size + 1 < w1.heap.size := by omega
  have hz1c : w.heap.size + 1 + 1 < w1.heap.size := by omega
  obtain ⟨a1, c1, rfl⟩ := hi1.form
  go_wp2_with fail
  refine (toIntS_c strides _ _ (hst.ext (X1.setCell (by simp; omega) _)) hl2).mono ?_
  rintro e w2 ⟨v2, rfl, hi2, ho2, hx2⟩
  have R2 := hx2.rule
  have F2 := hx2.frule
  have X2 : Ext w w2 := Ext.trans (X1.setCell (by simp; omega) _) hx2
  have hz2 := hx2.size
  simp at hz2
  have hz2a : w.heap.size < w2.heap.size := by omega
  have hz2b : w.heap.size + 1 < w2.heap.size := by omega
  have hz2c : w.heap.size + 1 + 1 < w2.heap.size := by omega
  obtain ⟨a2, c2, rfl⟩ := hi2.form
  go_wp2_with fail
  refine bodyPost_ret (v := .agg #[.int .i64 base, .slice a1 shape.length c1, .slice a2 strides.length c2]) (by simp only [results, Try.results29]; go_simp) rfl ?_
  have K1 : Chg w.heap.size (w.heap.size + 3) w1 (w1.setCell ⟨w.heap.size + 1 + 1, 1, none⟩ (.slice a1 shape.length c1)) := (Chg.refl _ _ _).setCell (by simp; omega) (by simp) _
  have o1 := ((ho1.lower (base' := w.heap.size + 3) (by simp)).chg K1 (Nat.le_refl _)).ext hx2
  have o2 := ho2.lower (base' := w1.heap.size) (by simp)
  have K2 : Chg w.heap.size (w.heap.size + 3) w2 ((((w2.setCell { block := w.heap.size + 1 + 1, off := 2 } (Value.slice a2 strides.length c2)).setCell { block := w.heap.size + 1, off := 0 } (Value.int IntKind.i64 base)).setCell { block := w.heap.size + 1, off := 1 } (Value.slice a1 shape.length c1)).setCell { block := w.heap.size + 1, off := 2 } (Value.slice a2 strides.length c2)) :=
    ((((Chg.refl _ _ _).setCell (by simp; omega) (by simp) _).setCell (by simp) (by simp) _).setCell (by simp) (by simp) _).setCell (by simp) (by simp) _
  refine PView.mk (o1.chg K2 (Nat.le_refl _)) (o2.chg K2 (by omega)) (by omega) (by omega) (fun hn => ?_) hl1 hl2 (X2.chg K2 (Nat.le_refl _))
  obtain ⟨g, e, _, hg⟩ := ho1.lt hn
  exact ⟨g, e, hg⟩

set_option maxHeartbeats 400000 in
theorem eqView_c (base : Int) (sh st sh2 st2 : Value) (shape strides : List Int) (w : World) (la lb lc ld : Nat) (hsh : Ints w la sh shape) (hst : Ints w lb st strides) (hsh2 : Ints w lc sh2 shape) (hst2 : Ints w ld st2 strides) :
    Calls Try.prog 32 #[.agg #[.int .i64 base, sh, st], .agg #[.int .i64 base, sh2, st2]] w fun e w' => e = .returned (.bool true) ∧ Ext w w' := by
  go_enter Try.func32, Try.ntmps32
  go_wp2_with fail
  refine (eqIntS_c shape _ _ _ la lc (hsh.ext (by repeat (first | exact Ext.refl _ | assumption | apply Ext.drewN | apply Ext.drew | apply Ext.alloc))) (hsh2.ext (by repeat (first | exact Ext.refl _ | assumption | apply Ext.drewN | apply Ext.drew | apply Ext.alloc)))).mono ?_
  rintro e w1 ⟨rfl, n1, rfl⟩
  go_wp2_with fail
  refine (eqIntS_c strides _ _ _ lb ld (hst.ext (by repeat (first | exact Ext.refl _ | assumption | apply Ext.drewN | apply Ext.drew | apply Ext.alloc))) (hst2.ext (by repeat (first | exact Ext.refl _ | assumption | apply Ext.drewN | apply Ext.drew | apply Ext.alloc)))).mono ?_
  rintro e w1 ⟨rfl, n2, rfl⟩
  go_wp2_with fail
  go_ret
  exact ⟨rfl, (by repeat (first | exact Ext.refl _ | assumption | apply Ext.drewN | apply Ext.drew | apply Ext.alloc))⟩

end Go.Proofs.Ytfdpoepidlmbaaa
