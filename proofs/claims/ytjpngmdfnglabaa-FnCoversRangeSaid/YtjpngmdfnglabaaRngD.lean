/- Walks: drawn pairs of ranges; ascending lists; plain laws on what two ranges have in common. -/
import Derived.Test.YtjpngmdfnglabaaRngC
import Derived.Test.YtjpngmdfnglabaaGenB
namespace Go.Proofs.Ytjpngmdfnglabaa
open Go.RowKit
set_option linter.unusedVariables false
set_option maxRecDepth 100000

/-- two ranges come back -/
def PRange2 (w : World) (e : Ending) (w' : World) : Prop := ∃ x y z x2 y2 z2, e = .returned (.tuple #[.agg #[.int .i64 x, .int .i64 y, .int .i64 z], .agg #[.int .i64 x2, .int .i64 y2, .int .i64 z2]]) ∧ Ext w w'

theorem Rch.toExt {rb : Nat} {w0 w w' : World} (h : Chg rb (rb + 1) w w') (hb : rb = w0.heap.size) (hx : Ext w0 w) : Ext w0 w' := by
  subst hb
  exact hx.chg h (Nat.le_refl _)

set_option maxHeartbeats 1600000 in
theorem drawMeetRanges_c (a : Option Addr) (n cap : Nat) (w : World) (hb : BysIn w a n cap) :
    Calls Try.prog 10 #[.slice a n cap] w (PRange2 w) := by
  have c0 : ((w.alloc (.cells #[.int .i64 0, .int .i64 0, .int .i64 0] 24)).alloc (.cells #[.int .i64 0, .int .i64 0, .int .i64 0] 24)).cell? ⟨w.heap.size, 0, none⟩ = some (.int .i64 0) := by first | (simp; done) | (rw [World.cell?_alloc_lt _ _ _ (by simp)]; simp)
  have f0 : ((w.alloc (.cells #[.int .i64 0, .int .i64 0, .int .i64 0] 24)).alloc (.cells #[.int .i64 0, .int .i64 0, .int .i64 0] 24)).frozen? ⟨w.heap.size, 0, none⟩ = false := by first | (simp; done) | (go_simp; done)
  have c1 : ((w.alloc (.cells #[.int .i64 0, .int .i64 0, .int .i64 0] 24)).alloc (.cells #[.int .i64 0, .int .i64 0, .int .i64 0] 24)).cell? ⟨w.heap.size, 1, none⟩ = some (.int .i64 0) := by first | (simp; done) | (rw [World.cell?_alloc_lt _ _ _ (by simp)]; simp)
  have f1 : ((w.alloc (.cells #[.int .i64 0, .int .i64 0, .int .i64 0] 24)).alloc (.cells #[.int .i64 0, .int .i64 0, .int .i64 0] 24)).frozen? ⟨w.heap.size, 1, none⟩ = false := by first | (simp; done) | (go_simp; done)
  have c2 : ((w.alloc (.cells #[.int .i64 0, .int .i64 0, .int .i64 0] 24)).alloc (.cells #[.int .i64 0, .int .i64 0, .int .i64 0] 24)).cell? ⟨w.heap.size, 2, none⟩ = some (.int .i64 0) := by first | (simp; done) | (rw [World.cell?_alloc_lt _ _ _ (by simp)]; simp)
  have f2 : ((w.alloc (.cells #[.int .i64 0, .int .i64 0, .int .i64 0] 24)).alloc (.cells #[.int .i64 0, .int .i64 0, .int .i64 0] 24)).frozen? ⟨w.heap.size, 2, none⟩ = false := by first | (simp; done) | (go_simp; done)
  have c3 : ((w.alloc (.cells #[.int .i64 0, .int .i64 0, .int .i64 0] 24)).alloc (.cells #[.int .i64 0, .int .i64 0, .int .i64 0] 24)).cell? ⟨w.heap.size + 1, 0, none⟩ = some (.int .i64 0) := by first | (simp; done) | (rw [World.cell?_alloc_lt _ _ _ (by simp)]; simp)
  have f3 : ((w.alloc (.cells #[.int .i64 0, .int .i64 0, .int .i64 0] 24)).alloc (.cells #[.int .i64 0, .int .i64 0, .int .i64 0] 24)).frozen? ⟨w.heap.size + 1, 0, none⟩ = false := by first | (simp; done) | (go_simp; done)
  have c4 : ((w.alloc (.cells #[.int .i64 0, .int .i64 0, .int .i64 0] 24)).alloc (.cells #[.int .i64 0, .int .i64 0, .int .i64 0] 24)).cell? ⟨w.heap.size + 1, 1, none⟩ = some (.int .i64 0) := by first | (simp; done) | (rw [World.cell?_alloc_lt _ _ _ (by simp)]; simp)
  have f4 : ((w.alloc (.cells #[.int .i64 0, .int .i64 0, .int .i64 0] 24)).alloc (.cells #[.int .i64 0, .int .i64 0, .int .i64 0] 24)).frozen? ⟨w.heap.size + 1, 1, none⟩ = false := by first | (simp; done) | (go_simp; done)
  have c5 : ((w.alloc (.cells #[.int .i64 0, .int .i64 0, .int .i64 0] 24)).alloc (.cells #[.int .i64 0, .int .i64 0, .int .i64 0] 24)).cell? ⟨w.heap.size + 1, 2, none⟩ = some (.int .i64 0) := by first | (simp; done) | (rw [World.cell?_alloc_lt _ _ _ (by simp)]; simp)
  have f5 : ((w.alloc (.cells #[.int .i64 0, .int .i64 0, .int .i64 0] 24)).alloc (.cells #[.int .i64 0, .int .i64 0, .int .i64 0] 24)).frozen? ⟨w.heap.size + 1, 2, none⟩ = false := by first | (simp; done) | (go_simp; done)
  have X0 : Ext w ((w.alloc (.cells #[.int .i64 0, .int .i64 0, .int .i64 0] 24)).alloc (.cells #[.int .i64 0, .int .i64 0, .int .i64 0] 24)) := (by repeat (first | exact Ext.refl _ | assumption | apply Ext.drewN | apply Ext.drew | apply Ext.alloc))
  have z0 : w.heap.size + 1 < ((w.alloc (.cells #[.int .i64 0, .int .i64 0, .int .i64 0] 24)).alloc (.cells #[.int .i64 0, .int .i64 0, .int .i64 0] 24)).heap.size := by simp
  go_enter Try.func10, Try.ntmps10
  go_wp2_with fail
  revert c0 f0 c1 f1 c2 f2 c3 f3 c4 f4 c5 f5 X0 z0
  generalize ((w.alloc (.cells #[.int .i64 0, .int .i64 0, .int .i64 0] 24)).alloc (.cells #[.int .i64 0, .int .i64 0, .int .i64 0] 24)) = w0
  intro c0 f0 c1 f1 c2 f2 c3 f3 c4 f4 c5 f5 X0 z0
  replace hb := hb.ext X0
  have z1 : w.heap.size < w0.heap.size := by omega
  refine (newReader_c a n cap _ hb).mono ?_
  rintro e w1 ⟨rfl, hr, x1⟩
  have X1 : Ext w0 w1 := x1
  have hlt := hr.lt
  replace c0 := x1.cell c0
  replace f0 := x1.frz (by omega) f0
  replace c1 := x1.cell c1
  replace f1 := x1.frz (by omega) f1
  replace c2 := x1.cell c2
  replace f2 := x1.frz (by omega) f2
  replace c3 := x1.cell c3
  replace f3 := x1.frz (by omega) f3
  replace c4 := x1.cell c4
  replace f4 := x1.frz (by omega) f4
  replace c5 := x1.cell c5
  replace f5 := x1.frz (by omega) f5
  go_wp2_with fail
  refine (someRange_c w0.heap.size 0 _ hr (by omega)).mono ?_
  rintro e w2 ⟨x, y, z, rfl, hr2, hC2⟩
  have hs2 := hC2.size
  replace c0 := hC2.cell (.inl (by omega)) c0
  replace f0 := (hC2.frz0 (by omega) (by omega)).trans f0
  replace c1 := hC2.cell (.inl (by omega)) c1
  replace f1 := (hC2.frz0 (by omega) (by omega)).trans f1
  replace c2 := hC2.cell (.inl (by omega)) c2
  replace f2 := (hC2.frz0 (by omega) (by omega)).trans f2
  replace c3 := hC2.cell (.inl (by omega)) c3
  replace f3 := (hC2.frz0 (by omega) (by omega)).trans f3
  replace c4 := hC2.cell (.inl (by omega)) c4
  replace f4 := (hC2.frz0 (by omega) (by omega)).trans f4
  replace c5 := hC2.cell (.inl (by omega)) c5
  replace f5 := (hC2.frz0 (by omega) (by omega)).trans f5
  go_wp2_with fail
  refine (someRange_c w0.heap.size _ _ hr2 (by omega)).mono ?_
  rintro e w3 ⟨x', y', z', rfl, hr3, hC3⟩
  have hs3 := hC3.size
  replace c0 := hC3.cell (.inl (by omega)) c0
  replace f0 := (hC3.frz0 (by omega) (by omega)).trans f0
  replace c1 := hC3.cell (.inl (by omega)) c1
  replace f1 := (hC3.frz0 (by omega) (by omega)).trans f1
  replace c2 := hC3.cell (.inl (by omega)) c2
  replace f2 := (hC3.frz0 (by omega) (by omega)).trans f2
  replace c3 := hC3.cell (.inl (by omega)) c3
  replace f3 := (hC3.frz0 (by omega) (by omega)).trans f3
  replace c4 := hC3.cell (.inl (by omega)) c4
  replace f4 := (hC3.frz0 (by omega) (by omega)).trans f4
  replace c5 := hC3.cell (.inl (by omega)) c5
  replace f5 := (hC3.frz0 (by omega) (by omega)).trans f5
  have X3 : Ext w w3 := X0.trans (Rch.toExt hC3 rfl (Rch.toExt hC2 rfl X1))
  go_wp2_with fail
  refine bodyPost_ret (v := .tuple #[.agg #[.int .i64 x, .int .i64 y, .int .i64 z], .agg #[.int .i64 x', .int .i64 y', .int .i64 z']]) ?_ ?_ ?_
  · simp only [results, Try.results10]; go_simp
  · rfl
  · refine ⟨x, y, z, x', y', z', rfl, ?_⟩
    trace_state
    exact (by repeat (first | (with_reducible assumption) | (with_reducible refine Ext.setCell ?_ (by first | (simp; done) | (simp; omega) | omega) _) | (with_reducible apply Ext.alloc) | (with_reducible apply Ext.drew) | (with_reducible apply Ext.drewN) | (with_reducible exact Ext.refl _)))

set_option maxHeartbeats 800000 in
theorem ascends_c (xs : List Int) (v : Value) (w : World) (lo : Nat) (hv : Ints w lo v xs) (hp : xs.Pairwise (· < ·)) :
    Calls Try.prog 17 #[v] w fun e w' => e = .returned (.bool true) ∧ Ext w w' := by
  obtain ⟨a, cap, rfl, _, _, ⟨hlen, _⟩, hc⟩ := hv
  go_enter Try.func17, Try.ntmps17
  go_wp2_with fail
  go_loopw [3] (fun i wr => ∃ k m : Nat, 1 ≤ k ∧ i = .int .i64 k ∧ wr = w.drewN m) (fun i _ => xs.length - (intOf i).toNat)
  case atStart => exact ⟨1, 0, Nat.le_refl _, rfl, rfl⟩
  case round =>
    obtain ⟨k, m, hk, rfl, rfl⟩ := hrel
    by_cases hlt : k < xs.length
    · obtain ⟨q, rfl⟩ : ∃ q, k = q + 1 := ⟨k - 1, by omega⟩
      obtain ⟨b1, off1, rfl, _, hcell1, _⟩ := hc (q+1) hlt
      obtain ⟨b2, off2, hE, _, hcell2, _⟩ := hc q (by omega)
      cases hE
      have g1 : xs.getD (q+1) 0 = xs[q+1] := by simp [hlt]
      have g2 : xs.getD q 0 = xs[q] := by simp [show q < xs.length by omega]
      have hl := List.pairwise_iff_getElem.1 hp q (q+1) (by omega) hlt (by omega)
      rw [g1] at hcell1
      rw [g2] at hcell2
      have hI : ((q + 1 : Nat) : Int) < xs.length := by omega
      have hI2 : ((q + 1 : Nat) : Int) - 1 = (q : Int) := by omega
      have hI3 : (q : Int) < xs.length := by omega
      have hN : ¬ (xs[q+1] ≤ xs[q]) := by omega
      have hD : decide (xs[q+1] ≤ xs[q]) = false := by simpa using hN
      clear hc g1 g2 hl
      generalize xs[q+1] = y1 at *
      generalize xs[q] = y2 at *
      go_wp2_with fail
      go_quiet (fail)
      go_wp2_with fail
      go_roundw
      case rel => exact ⟨q+2, _, by omega, by go_num, rfl⟩
      case measure => simp [intOf]; omega
    · have hI : ¬ (k : Int) < xs.length := by omega
      go_wp2_with fail
      go_ret
      exact ⟨rfl, (by repeat (first | exact Ext.refl _ | assumption | apply Ext.drewN | apply Ext.drew | apply Ext.alloc))⟩

set_option maxHeartbeats 400000 in
theorem equalRange_c (x y z : Int) (w : World) :
    Calls Try.prog 12 #[.agg #[.int .i64 x, .int .i64 y, .int .i64 z], .agg #[.int .i64 x, .int .i64 y, .int .i64 z]] w fun e w' => e = .returned (.bool true) ∧ Ext w w' := by
  go_enter Try.func12, Try.ntmps12
  go_wp2_with fail
  go_ret
  exact ⟨by first | rfl | simp, (by repeat (first | exact Ext.refl _ | assumption | apply Ext.drewN | apply Ext.drew | apply Ext.alloc))⟩

end Go.Proofs.Ytjpngmdfnglabaa
