/- Walks of the laws' marks on lists and on views. -/
import Derived.Test.YtfdpoepidlmbaaaLwB
namespace Go.Proofs.Ytfdpoepidlmbaaa
open Go.RowKit
set_option linter.unusedVariables false
set_option maxRecDepth 100000

theorem OwnZ.nilOf {w : World} {w' : World} {lo lo' : Nat} {v : Value} (h : Ints w lo v []) : OwnZ w' lo' v [] := by
  obtain ⟨a, cap, rfl, h1, h2, h3, _⟩ := h
  exact .inl ⟨rfl, a, cap, rfl, h2, h3.2⟩

theorem OwnZ.keptG {w w' : World} {lo : Nat} {v : Value} {xs : List Int} {row : Option Nat} (h : OwnZ w lo v xs) (hl : xs.length ≤ 4194304) (hg : w.grownBy w' row) (hne : xs ≠ [] → v.ownBlock ≠ row) : OwnZ w' lo v xs := by
  by_cases hx : xs = []
  · subst hx; exact OwnZ.nilOf (h.ints hl)
  · rcases h with ⟨h, _⟩ | h
    · exact absurd h hx
    · exact .inr (h.kept hg (.inr (hne hx)))

set_option maxHeartbeats 400000 in
theorem markZ_c (xs : List Int) (v : Value) (k : Int) (w : World) (lo hi : Nat) (hv : OwnZ w lo v xs) (hb : xs ≠ [] → ∀ g, v.ownBlock = some g → g < hi) (hn : xs.length ≤ 4194304) (hk : 0 ≤ k) (hk2 : k ≤ 100000000) :
    Calls Try.prog 49 #[v, .int .i64 k] w fun e w' => e = .returned (.int .i64 (k + xs.length)) ∧ OwnZ w' lo v (ksL k xs.length) ∧ Chg lo hi w w' ∧ w.grownBy w' v.ownBlock ∧ (xs = [] → w = w') := by
  by_cases hx : xs = []
  · subst hx
    obtain ⟨a, c, rfl⟩ := (hv.ints hn).form
    go_enter Try.func49, Try.ntmps49
    go_wp2
    go_loop [1, 5] (fun kk i => i = .int .i64 0 ∧ kk = .int .i64 k) (fun _ _ => 0)
    case atStart => exact ⟨rfl, rfl⟩
    case round =>
      obtain ⟨rfl, rfl⟩ := hrel
      go_wp2
      go_ret
      exact ⟨by simp, hv, Chg.refl _ _ _, World.grownBy.refl _ _, rfl⟩
  · obtain ⟨g, hg0, hlo, hlt⟩ := hv.lt hx
    rcases hv with ⟨h, _⟩ | ho
    · exact absurd h hx
    · refine (markIntS_c xs v k w lo ho hn hk hk2).mono ?_
      rintro e w' ⟨rfl, ho', hg⟩
      have hgh := hb hx g hg0
      exact ⟨rfl, .inr ho', ⟨hg.os, hg.tape, hg.output, hg.size, fun b hb hd => hg.block b hb (by rw [hg0]; intro h; cases h; omega)⟩, hg, fun h => absurd h hx⟩

set_option maxHeartbeats 400000 in
theorem markView_c (b : Int) (u v : Value) (s t : List Int) (k : Int) (w : World) (lo hi : Nat) (hu : OwnZ w lo u s) (hv : OwnZ w lo v t) (hd : s ≠ [] → t ≠ [] → u.ownBlock ≠ v.ownBlock)
    (bu : s ≠ [] → ∀ g, u.ownBlock = some g → g < hi) (bv : t ≠ [] → ∀ g, v.ownBlock = some g → g < hi) (hw : hi ≤ w.heap.size) (n1 : s.length ≤ 4194304) (n2 : t.length ≤ 4194304) (hk : 0 ≤ k) (hk2 : k ≤ 10000000) :
    Calls Try.prog 34 #[.agg #[.int .i64 b, u, v], .int .i64 k] w fun e w' => e = .returned (.int .i64 (k + s.length + t.length)) ∧ OwnZ w' lo u (ksL k s.length) ∧ OwnZ w' lo v (ksL (k + s.length) t.length) ∧ Chg lo hi w w' := by
  have i2 := hv.ints n2
  have X0 : Ext w (w.alloc (.cells #[.int .i64 b, u, v] 36)) := (by repeat (first | exact Ext.refl _ | assumption | apply Ext.drewN | apply Ext.drew | apply Ext.alloc))
  go_enter Try.func34, Try.ntmps34
  go_wp2_with fail
  refine (markZ_c s u k _ lo hi (hu.ext (by repeat (first | exact Ext.refl _ | assumption | apply Ext.drewN | apply Ext.drew | apply Ext.alloc))) bu n1 hk (by omega)).mono ?_
  rintro e w1 ⟨rfl, o1, c1, g1, e1⟩
  have hv1 : OwnZ w1 lo v t := by
    by_cases hs : s = []
    · rw [← e1 hs]; exact hv.ext X0
    · exact (hv.ext X0).keptG n2 g1 (fun ht hE => hd hs ht hE.symm)
  have d0 : w1.cell? ⟨w.heap.size, 0, none⟩ = some (.int .i64 b) := c1.cell (.inr hw) (by simp)
  have d1 : w1.cell? ⟨w.heap.size, 1, none⟩ = some u := c1.cell (.inr hw) (by simp)
  have d2 : w1.cell? ⟨w.heap.size, 2, none⟩ = some v := c1.cell (.inr hw) (by simp)
  go_wp2_with fail
  refine (markZ_c t v _ _ lo hi hv1 bv n2 (by omega) (by omega)).mono ?_
  rintro e w2 ⟨rfl, o2, c2, g2, e2⟩
  have hu2 : OwnZ w2 lo u (ksL k s.length) := by
    by_cases ht : t = []
    · rw [← e2 ht]; exact o1
    · refine o1.keptG (by rw [ksL_len]; exact n1) g2 (fun hs hE => hd ?_ ht hE)
      rintro rfl; exact hs rfl
  clear d0 d1 d2 g1 g2
  go_wp2_with fail
  go_ret
  exact ⟨rfl, hu2, o2, ((Chg.refl _ _ _).ext X0).trans (c1.trans c2)⟩

set_option maxHeartbeats 400000 in
theorem heldView_c (b : Int) (u v : Value) (n m : Nat) (k : Int) (w : World) (lo lo' : Nat) (hu : Ints w lo u (ksL k n)) (hv : Ints w lo' v (ksL (k + n) m)) (n1 : n ≤ 4194304) (n2 : m ≤ 4194304) (hk : 0 ≤ k) (hk2 : k ≤ 10000000) :
    Calls Try.prog 38 #[.agg #[.int .i64 b, u, v], .int .i64 k] w fun e w' => e = .returned (.int .i64 (k + n + m)) ∧ Ext w w' := by
  go_enter Try.func38, Try.ntmps38
  go_wp2_with fail
  refine (heldIntS_c n u k _ lo (hu.ext (by repeat (first | exact Ext.refl _ | assumption | apply Ext.drewN | apply Ext.drew | apply Ext.alloc))) hk (by omega)).mono ?_
  rintro e w' ⟨rfl, rfl⟩
  go_wp2_with fail
  refine (heldIntS_c m v (k + n) _ lo' (hv.ext (by repeat (first | exact Ext.refl _ | assumption | apply Ext.drewN | apply Ext.drew | apply Ext.alloc))) (by omega) (by omega)).mono ?_
  rintro e w' ⟨rfl, rfl⟩
  go_wp2_with fail
  go_ret
  exact ⟨rfl, (by repeat (first | exact Ext.refl _ | assumption | apply Ext.drewN | apply Ext.drew | apply Ext.alloc))⟩

end Go.Proofs.Ytfdpoepidlmbaaa
