/- Walks: what a slice takes of a range, and the drawn arguments of CoversRange. -/
import Derived.Test.YtjpngmdfnglabaaRngD
import Derived.Test.YtjpngmdfnglabaaSlA
import Derived.Test.YtjpngmdfnglabaaGenC
namespace Go.Proofs.Ytjpngmdfnglabaa
open Go.RowKit
set_option linter.unusedVariables false
set_option maxRecDepth 100000

/-- the numbers of a list at indices -/
def tkL (xs ix : List Int) : List Int := ix.map fun i => xs.getD i.toNat 0
theorem tkL_take (xs ix : List Int) (k : Nat) (h : k < ix.length) : tkL xs (ix.take (k+1)) = tkL xs (ix.take k) ++ [xs.getD (ix[k]).toNat 0] := by
  unfold tkL; rw [List.take_succ_eq_append_getElem h, List.map_append]; rfl
theorem tkL_len (xs ix : List Int) : (tkL xs ix).length = ix.length := by simp [tkL]
theorem tkL_in {xs ix : List Int} {lo hi : Int} (h : ∀ x ∈ xs, lo ≤ x ∧ x ≤ hi) (h0 : lo ≤ 0 ∧ 0 ≤ hi) : ∀ x ∈ tkL xs ix, lo ≤ x ∧ x ≤ hi := by
  intro x hx
  simp only [tkL, List.mem_map] at hx
  obtain ⟨i, _, rfl⟩ := hx
  by_cases hi' : i.toNat < xs.length
  · have : xs.getD i.toNat 0 = xs[i.toNat] := by simp [hi']
    rw [this]; exact h _ (List.getElem_mem hi')
  · have : xs.getD i.toNat 0 = 0 := by simp [Nat.le_of_not_lt hi']
    rw [this]; exact h0
/-- some range comes back -/
def PRange1 (w : World) (e : Ending) (w' : World) : Prop := ∃ x y z : Int, e = .returned (.agg #[.int .i64 x, .int .i64 y, .int .i64 z]) ∧ Ext w w'

theorem num_in' {a b s x : Int} (h : rangeB a b s = true) (hx : x ∈ numL a b s) : -100 ≤ x ∧ x ≤ 100 := by
  obtain ⟨h1, h2, h3, h4⟩ := rangeB_in h
  have := numL_in h4 hx
  omega
theorem validSlice_t {F T B : Int} {hf ht : Bool} (h : sliceB F T B hf ht = true) (w : World) :
    Calls Try.prog 104 #[.agg #[.int .i64 F, .int .i64 T, .int .i64 B, .bool hf, .bool ht]] w fun e w' => e = .returned (.bool true) ∧ Ext w w' := by
  have := validSlice_c F T B hf ht w; rwa [h] at this
theorem validSlice_f {F T B : Int} {hf ht : Bool} (h : sliceB F T B hf ht = false) (w : World) :
    Calls Try.prog 104 #[.agg #[.int .i64 F, .int .i64 T, .int .i64 B, .bool hf, .bool ht]] w fun e w' => e = .returned (.bool false) ∧ Ext w w' := by
  have := validSlice_c F T B hf ht w; rwa [h] at this

set_option maxHeartbeats 6400000 in
theorem specSliceRange_s (a e d F T B : Int) (hf ht : Bool) (w : World) :
    Calls Try.prog 62 #[.agg #[.int .i64 a, .int .i64 e, .int .i64 d], .agg #[.int .i64 F, .int .i64 T, .int .i64 B, .bool hf, .bool ht]] w (PRange1 w) := by
  have c0 : (((w.alloc (.cells #[.int .i64 a, .int .i64 e, .int .i64 d] 24)).alloc (.cells #[.int .i64 F, .int .i64 T, .int .i64 B, .bool hf, .bool ht] 57)).alloc (.cells #[.int .i64 0, .int .i64 0, .int .i64 0] 24)).cell? ⟨w.heap.size, 0, none⟩ = some (.int .i64 a) := (by first | (simp; done) | ((repeat rw [World.cell?_alloc_lt _ _ _ (by simp <;> omega)]); simp; done) | (go_simp; done))
  have c1 : (((w.alloc (.cells #[.int .i64 a, .int .i64 e, .int .i64 d] 24)).alloc (.cells #[.int .i64 F, .int .i64 T, .int .i64 B, .bool hf, .bool ht] 57)).alloc (.cells #[.int .i64 0, .int .i64 0, .int .i64 0] 24)).cell? ⟨w.heap.size, 1, none⟩ = some (.int .i64 e) := (by first | (simp; done) | ((repeat rw [World.cell?_alloc_lt _ _ _ (by simp <;> omega)]); simp; done) | (go_simp; done))
  have c2 : (((w.alloc (.cells #[.int .i64 a, .int .i64 e, .int .i64 d] 24)).alloc (.cells #[.int .i64 F, .int .i64 T, .int .i64 B, .bool hf, .bool ht] 57)).alloc (.cells #[.int .i64 0, .int .i64 0, .int .i64 0] 24)).cell? ⟨w.heap.size, 2, none⟩ = some (.int .i64 d) := (by first | (simp; done) | ((repeat rw [World.cell?_alloc_lt _ _ _ (by simp <;> omega)]); simp; done) | (go_simp; done))
  have s0 : (((w.alloc (.cells #[.int .i64 a, .int .i64 e, .int .i64 d] 24)).alloc (.cells #[.int .i64 F, .int .i64 T, .int .i64 B, .bool hf, .bool ht] 57)).alloc (.cells #[.int .i64 0, .int .i64 0, .int .i64 0] 24)).cell? ⟨w.heap.size + 1, 0, none⟩ = some (.int .i64 F) := (by first | (simp; done) | ((repeat rw [World.cell?_alloc_lt _ _ _ (by simp <;> omega)]); simp; done) | (go_simp; done))
  have s1 : (((w.alloc (.cells #[.int .i64 a, .int .i64 e, .int .i64 d] 24)).alloc (.cells #[.int .i64 F, .int .i64 T, .int .i64 B, .bool hf, .bool ht] 57)).alloc (.cells #[.int .i64 0, .int .i64 0, .int .i64 0] 24)).cell? ⟨w.heap.size + 1, 1, none⟩ = some (.int .i64 T) := (by first | (simp; done) | ((repeat rw [World.cell?_alloc_lt _ _ _ (by simp <;> omega)]); simp; done) | (go_simp; done))
  have s2 : (((w.alloc (.cells #[.int .i64 a, .int .i64 e, .int .i64 d] 24)).alloc (.cells #[.int .i64 F, .int .i64 T, .int .i64 B, .bool hf, .bool ht] 57)).alloc (.cells #[.int .i64 0, .int .i64 0, .int .i64 0] 24)).cell? ⟨w.heap.size + 1, 2, none⟩ = some (.int .i64 B) := (by first | (simp; done) | ((repeat rw [World.cell?_alloc_lt _ _ _ (by simp <;> omega)]); simp; done) | (go_simp; done))
  have s3 : (((w.alloc (.cells #[.int .i64 a, .int .i64 e, .int .i64 d] 24)).alloc (.cells #[.int .i64 F, .int .i64 T, .int .i64 B, .bool hf, .bool ht] 57)).alloc (.cells #[.int .i64 0, .int .i64 0, .int .i64 0] 24)).cell? ⟨w.heap.size + 1, 3, none⟩ = some (.bool hf) := (by first | (simp; done) | ((repeat rw [World.cell?_alloc_lt _ _ _ (by simp <;> omega)]); simp; done) | (go_simp; done))
  have s4 : (((w.alloc (.cells #[.int .i64 a, .int .i64 e, .int .i64 d] 24)).alloc (.cells #[.int .i64 F, .int .i64 T, .int .i64 B, .bool hf, .bool ht] 57)).alloc (.cells #[.int .i64 0, .int .i64 0, .int .i64 0] 24)).cell? ⟨w.heap.size + 1, 4, none⟩ = some (.bool ht) := (by first | (simp; done) | ((repeat rw [World.cell?_alloc_lt _ _ _ (by simp <;> omega)]); simp; done) | (go_simp; done))
  have r0 : (((w.alloc (.cells #[.int .i64 a, .int .i64 e, .int .i64 d] 24)).alloc (.cells #[.int .i64 F, .int .i64 T, .int .i64 B, .bool hf, .bool ht] 57)).alloc (.cells #[.int .i64 0, .int .i64 0, .int .i64 0] 24)).cell? ⟨w.heap.size + 2, 0, none⟩ = some (.int .i64 0) := (by first | (simp; done) | ((repeat rw [World.cell?_alloc_lt _ _ _ (by simp <;> omega)]); simp; done) | (go_simp; done))
  have r1 : (((w.alloc (.cells #[.int .i64 a, .int .i64 e, .int .i64 d] 24)).alloc (.cells #[.int .i64 F, .int .i64 T, .int .i64 B, .bool hf, .bool ht] 57)).alloc (.cells #[.int .i64 0, .int .i64 0, .int .i64 0] 24)).cell? ⟨w.heap.size + 2, 1, none⟩ = some (.int .i64 0) := (by first | (simp; done) | ((repeat rw [World.cell?_alloc_lt _ _ _ (by simp <;> omega)]); simp; done) | (go_simp; done))
  have r2 : (((w.alloc (.cells #[.int .i64 a, .int .i64 e, .int .i64 d] 24)).alloc (.cells #[.int .i64 F, .int .i64 T, .int .i64 B, .bool hf, .bool ht] 57)).alloc (.cells #[.int .i64 0, .int .i64 0, .int .i64 0] 24)).cell? ⟨w.heap.size + 2, 2, none⟩ = some (.int .i64 0) := (by first | (simp; done) | ((repeat rw [World.cell?_alloc_lt _ _ _ (by simp <;> omega)]); simp; done) | (go_simp; done))
  have f0 : (((w.alloc (.cells #[.int .i64 a, .int .i64 e, .int .i64 d] 24)).alloc (.cells #[.int .i64 F, .int .i64 T, .int .i64 B, .bool hf, .bool ht] 57)).alloc (.cells #[.int .i64 0, .int .i64 0, .int .i64 0] 24)).frozen? ⟨w.heap.size + 2, 0, none⟩ = false := by first | (simp; done) | (go_simp; done)
  have f1 : (((w.alloc (.cells #[.int .i64 a, .int .i64 e, .int .i64 d] 24)).alloc (.cells #[.int .i64 F, .int .i64 T, .int .i64 B, .bool hf, .bool ht] 57)).alloc (.cells #[.int .i64 0, .int .i64 0, .int .i64 0] 24)).frozen? ⟨w.heap.size + 2, 1, none⟩ = false := by first | (simp; done) | (go_simp; done)
  have f2 : (((w.alloc (.cells #[.int .i64 a, .int .i64 e, .int .i64 d] 24)).alloc (.cells #[.int .i64 F, .int .i64 T, .int .i64 B, .bool hf, .bool ht] 57)).alloc (.cells #[.int .i64 0, .int .i64 0, .int .i64 0] 24)).frozen? ⟨w.heap.size + 2, 2, none⟩ = false := by first | (simp; done) | (go_simp; done)
  have X0 : Ext w (((w.alloc (.cells #[.int .i64 a, .int .i64 e, .int .i64 d] 24)).alloc (.cells #[.int .i64 F, .int .i64 T, .int .i64 B, .bool hf, .bool ht] 57)).alloc (.cells #[.int .i64 0, .int .i64 0, .int .i64 0] 24)) := (by repeat (first | exact Ext.refl _ | assumption | apply Ext.drewN | apply Ext.drew | apply Ext.alloc))
  have z0 : w.heap.size + 2 < (((w.alloc (.cells #[.int .i64 a, .int .i64 e, .int .i64 d] 24)).alloc (.cells #[.int .i64 F, .int .i64 T, .int .i64 B, .bool hf, .bool ht] 57)).alloc (.cells #[.int .i64 0, .int .i64 0, .int .i64 0] 24)).heap.size := by simp
  cases h1 : rangeB a e d
  · have h1' := Lib.hid h1
    clear h1
    go_enter Try.func62, Try.ntmps62
    go_wp2_with fail
    revert c0 c1 c2 s0 s1 s2 s3 s4 r0 r1 r2 f0 f1 f2 X0 z0
    generalize (((w.alloc (.cells #[.int .i64 a, .int .i64 e, .int .i64 d] 24)).alloc (.cells #[.int .i64 F, .int .i64 T, .int .i64 B, .bool hf, .bool ht] 57)).alloc (.cells #[.int .i64 0, .int .i64 0, .int .i64 0] 24)) = w0
    intro c0 c1 c2 s0 s1 s2 s3 s4 r0 r1 r2 f0 f1 f2 X0 z0
    have z1 : w.heap.size + 1 < w0.heap.size := by omega
    have z2 : w.heap.size < w0.heap.size := by omega
    refine (validRange_f h1'.out _).mono ?_
    rintro e w1 ⟨rfl, xw1⟩
    replace c0 := xw1.cell c0
    replace c1 := xw1.cell c1
    replace c2 := xw1.cell c2
    replace s0 := xw1.cell s0
    replace s1 := xw1.cell s1
    replace s2 := xw1.cell s2
    replace s3 := xw1.cell s3
    replace s4 := xw1.cell s4
    replace r0 := xw1.cell r0
    replace r1 := xw1.cell r1
    replace r2 := xw1.cell r2
    replace f0 := xw1.frz (by omega) f0
    replace f1 := xw1.frz (by omega) f1
    replace f2 := xw1.frz (by omega) f2
    have zzw1 := Ext.size (show Ext w0 w1 from xw1)
    have y0 : w.heap.size + 2 < w1.heap.size := by omega
    have y1 : w.heap.size + 1 < w1.heap.size := by omega
    have y2 : w.heap.size < w1.heap.size := by omega
    have Xw1 : Ext w w1 := X0.trans xw1
    go_wp2_with fail
    refine bodyPost_ret (v := .agg #[.int .i64 0, .int .i64 0, .int .i64 0]) (by simp only [results, Try.results62]; go_simp) rfl ⟨_, _, _, rfl, (by repeat (first | (with_reducible assumption) | (with_reducible refine Ext.setCell ?_ (by first | (simp; done) | (simp; omega) | omega) _) | (with_reducible apply Ext.alloc) | (with_reducible apply Ext.drew) | (with_reducible apply Ext.drewN) | (with_reducible exact Ext.refl _)))⟩
  · cases h2 : sliceB F T B hf ht
    · have h1' := Lib.hid h1
      have h2' := Lib.hid h2
      clear h1 h2
      go_enter Try.func62, Try.ntmps62
      go_wp2_with fail
      revert c0 c1 c2 s0 s1 s2 s3 s4 r0 r1 r2 f0 f1 f2 X0 z0
      generalize (((w.alloc (.cells #[.int .i64 a, .int .i64 e, .int .i64 d] 24)).alloc (.cells #[.int .i64 F, .int .i64 T, .int .i64 B, .bool hf, .bool ht] 57)).alloc (.cells #[.int .i64 0, .int .i64 0, .int .i64 0] 24)) = w0
      intro c0 c1 c2 s0 s1 s2 s3 s4 r0 r1 r2 f0 f1 f2 X0 z0
      have z1 : w.heap.size + 1 < w0.heap.size := by omega
      have z2 : w.heap.size < w0.heap.size := by omega
      refine (validRange_t h1'.out _).mono ?_
      rintro e w1 ⟨rfl, xw1⟩
      replace c0 := xw1.cell c0
      replace c1 := xw1.cell c1
      replace c2 := xw1.cell c2
      replace s0 := xw1.cell s0
      replace s1 := xw1.cell s1
      replace s2 := xw1.cell s2
      replace s3 := xw1.cell s3
      replace s4 := xw1.cell s4
      replace r0 := xw1.cell r0
      replace r1 := xw1.cell r1
      replace r2 := xw1.cell r2
      replace f0 := xw1.frz (by omega) f0
      replace f1 := xw1.frz (by omega) f1
      replace f2 := xw1.frz (by omega) f2
      have zzw1 := Ext.size (show Ext w0 w1 from xw1)
      have y0 : w.heap.size + 2 < w1.heap.size := by omega
      have y1 : w.heap.size + 1 < w1.heap.size := by omega
      have y2 : w.heap.size < w1.heap.size := by omega
      have Xw1 : Ext w w1 := X0.trans xw1
      go_wp2_with fail
      refine (validSlice_f h2'.out _).mono ?_
      rintro e w2 ⟨rfl, xw2⟩
      replace c0 := xw2.cell c0
      replace c1 := xw2.cell c1
      replace c2 := xw2.cell c2
      replace s0 := xw2.cell s0
      replace s1 := xw2.cell s1
      replace s2 := xw2.cell s2
      replace s3 := xw2.cell s3
      replace s4 := xw2.cell s4
      replace r0 := xw2.cell r0
      replace r1 := xw2.cell r1
      replace r2 := xw2.cell r2
      replace f0 := xw2.frz (by omega) f0
      replace f1 := xw2.frz (by omega) f1
      replace f2 := xw2.frz (by omega) f2
      have zzw2 := Ext.size (show Ext w1 w2 from xw2)
      have y0 : w.heap.size + 2 < w2.heap.size := by omega
      have y1 : w.heap.size + 1 < w2.heap.size := by omega
      have y2 : w.heap.size < w2.heap.size := by omega
      have Xw2 : Ext w w2 := Xw1.trans xw2
      go_wp2_with fail
      refine bodyPost_ret (v := .agg #[.int .i64 0, .int .i64 0, .int .i64 0]) (by simp only [results, Try.results62]; go_simp) rfl ⟨_, _, _, rfl, (by repeat (first | (with_reducible assumption) | (with_reducible refine Ext.setCell ?_ (by first | (simp; done) | (simp; omega) | omega) _) | (with_reducible apply Ext.alloc) | (with_reducible apply Ext.drew) | (with_reducible apply Ext.drewN) | (with_reducible exact Ext.refl _)))⟩
    · have hi := Lib.hid (rangeB_in h1)
      have hs := Lib.hid (sliceB_in h2)
      have hl := Lib.hid (numL_len a e d)
      have hb := Lib.hid (fun x hx => num_in' h1 hx : ∀ x ∈ numL a e d, -100 ≤ x ∧ x ≤ 100)
      have h1' := Lib.hid h1
      have h2' := Lib.hid h2
      clear h1 h2
      by_cases h3 : 60 < (numL a e d).length
      · have h3I : (60 : Int) < (numL a e d).length := by omega
        go_enter Try.func62, Try.ntmps62
        go_wp2_with fail
        revert c0 c1 c2 s0 s1 s2 s3 s4 r0 r1 r2 f0 f1 f2 X0 z0
        generalize (((w.alloc (.cells #[.int .i64 a, .int .i64 e, .int .i64 d] 24)).alloc (.cells #[.int .i64 F, .int .i64 T, .int .i64 B, .bool hf, .bool ht] 57)).alloc (.cells #[.int .i64 0, .int .i64 0, .int .i64 0] 24)) = w0
        intro c0 c1 c2 s0 s1 s2 s3 s4 r0 r1 r2 f0 f1 f2 X0 z0
        have z1 : w.heap.size + 1 < w0.heap.size := by omega
        have z2 : w.heap.size < w0.heap.size := by omega
        refine (validRange_t h1'.out _).mono ?_
        rintro e w1 ⟨rfl, xw1⟩
        replace c0 := xw1.cell c0
        replace c1 := xw1.cell c1
        replace c2 := xw1.cell c2
        replace s0 := xw1.cell s0
        replace s1 := xw1.cell s1
        replace s2 := xw1.cell s2
        replace s3 := xw1.cell s3
        replace s4 := xw1.cell s4
        replace r0 := xw1.cell r0
        replace r1 := xw1.cell r1
        replace r2 := xw1.cell r2
        replace f0 := xw1.frz (by omega) f0
        replace f1 := xw1.frz (by omega) f1
        replace f2 := xw1.frz (by omega) f2
        have zzw1 := Ext.size (show Ext w0 w1 from xw1)
        have y0 : w.heap.size + 2 < w1.heap.size := by omega
        have y1 : w.heap.size + 1 < w1.heap.size := by omega
        have y2 : w.heap.size < w1.heap.size := by omega
        have Xw1 : Ext w w1 := X0.trans xw1
        go_wp2_with fail
        refine (validSlice_t h2'.out _).mono ?_
        rintro e w2 ⟨rfl, xw2⟩
        replace c0 := xw2.cell c0
        replace c1 := xw2.cell c1
        replace c2 := xw2.cell c2
        replace s0 := xw2.cell s0
        replace s1 := xw2.cell s1
        replace s2 := xw2.cell s2
        replace s3 := xw2.cell s3
        replace s4 := xw2.cell s4
        replace r0 := xw2.cell r0
        replace r1 := xw2.cell r1
        replace r2 := xw2.cell r2
        replace f0 := xw2.frz (by omega) f0
        replace f1 := xw2.frz (by omega) f1
        replace f2 := xw2.frz (by omega) f2
        have zzw2 := Ext.size (show Ext w1 w2 from xw2)
        have y0 : w.heap.size + 2 < w2.heap.size := by omega
        have y1 : w.heap.size + 1 < w2.heap.size := by omega
        have y2 : w.heap.size < w2.heap.size := by omega
        have Xw2 : Ext w w2 := Xw1.trans xw2
        go_wp2_with fail
        refine (numbers_c a e d _ (by have := hi.out; omega) (by have := hi.out; omega) (by have := hi.out; omega) hi.out.2.2.2).mono ?_
        rintro e w3 ⟨v3, rfl, i3, -, xw3⟩
        replace c0 := xw3.cell c0
        replace c1 := xw3.cell c1
        replace c2 := xw3.cell c2
        replace s0 := xw3.cell s0
        replace s1 := xw3.cell s1
        replace s2 := xw3.cell s2
        replace s3 := xw3.cell s3
        replace s4 := xw3.cell s4
        replace r0 := xw3.cell r0
        replace r1 := xw3.cell r1
        replace r2 := xw3.cell r2
        replace f0 := xw3.frz (by omega) f0
        replace f1 := xw3.frz (by omega) f1
        replace f2 := xw3.frz (by omega) f2
        have zzw3 := Ext.size (show Ext w2 w3 from xw3)
        have y0 : w.heap.size + 2 < w3.heap.size := by omega
        have y1 : w.heap.size + 1 < w3.heap.size := by omega
        have y2 : w.heap.size < w3.heap.size := by omega
        have Xw3 : Ext w w3 := Xw2.trans xw3
        obtain ⟨p3, q3, rfl⟩ := i3.form
        go_wp2_with fail
        refine bodyPost_ret (v := .agg #[.int .i64 0, .int .i64 0, .int .i64 0]) (by simp only [results, Try.results62]; go_simp) rfl ⟨_, _, _, rfl, (by repeat (first | (with_reducible assumption) | (with_reducible refine Ext.setCell ?_ (by first | (simp; done) | (simp; omega) | omega) _) | (with_reducible apply Ext.alloc) | (with_reducible apply Ext.drew) | (with_reducible apply Ext.drewN) | (with_reducible exact Ext.refl _)))⟩
      · have h3I : ¬ (60 : Int) < (numL a e d).length := by omega
        go_enter Try.func62, Try.ntmps62
        go_wp2_with fail
        revert c0 c1 c2 s0 s1 s2 s3 s4 r0 r1 r2 f0 f1 f2 X0 z0
        generalize (((w.alloc (.cells #[.int .i64 a, .int .i64 e, .int .i64 d] 24)).alloc (.cells #[.int .i64 F, .int .i64 T, .int .i64 B, .bool hf, .bool ht] 57)).alloc (.cells #[.int .i64 0, .int .i64 0, .int .i64 0] 24)) = w0
        intro c0 c1 c2 s0 s1 s2 s3 s4 r0 r1 r2 f0 f1 f2 X0 z0
        have z1 : w.heap.size + 1 < w0.heap.size := by omega
        have z2 : w.heap.size < w0.heap.size := by omega
        refine (validRange_t h1'.out _).mono ?_
        rintro e w1 ⟨rfl, xw1⟩
        replace c0 := xw1.cell c0
        replace c1 := xw1.cell c1
        replace c2 := xw1.cell c2
        replace s0 := xw1.cell s0
        replace s1 := xw1.cell s1
        replace s2 := xw1.cell s2
        replace s3 := xw1.cell s3
        replace s4 := xw1.cell s4
        replace r0 := xw1.cell r0
        replace r1 := xw1.cell r1
        replace r2 := xw1.cell r2
        replace f0 := xw1.frz (by omega) f0
        replace f1 := xw1.frz (by omega) f1
        replace f2 := xw1.frz (by omega) f2
        have zzw1 := Ext.size (show Ext w0 w1 from xw1)
        have y0 : w.heap.size + 2 < w1.heap.size := by omega
        have y1 : w.heap.size + 1 < w1.heap.size := by omega
        have y2 : w.heap.size < w1.heap.size := by omega
        have Xw1 : Ext w w1 := X0.trans xw1
        go_wp2_with fail
        refine (validSlice_t h2'.out _).mono ?_
        rintro e w2 ⟨rfl, xw2⟩
        replace c0 := xw2.cell c0
        replace c1 := xw2.cell c1
        replace c2 := xw2.cell c2
        replace s0 := xw2.cell s0
        replace s1 := xw2.cell s1
        replace s2 := xw2.cell s2
        replace s3 := xw2.cell s3
        replace s4 := xw2.cell s4
        replace r0 := xw2.cell r0
        replace r1 := xw2.cell r1
        replace r2 := xw2.cell r2
        replace f0 := xw2.frz (by omega) f0
        replace f1 := xw2.frz (by omega) f1
        replace f2 := xw2.frz (by omega) f2
        have zzw2 := Ext.size (show Ext w1 w2 from xw2)
        have y0 : w.heap.size + 2 < w2.heap.size := by omega
        have y1 : w.heap.size + 1 < w2.heap.size := by omega
        have y2 : w.heap.size < w2.heap.size := by omega
        have Xw2 : Ext w w2 := Xw1.trans xw2
        go_wp2_with fail
        refine (numbers_c a e d _ (by have := hi.out; omega) (by have := hi.out; omega) (by have := hi.out; omega) hi.out.2.2.2).mono ?_
        rintro e w3 ⟨v3, rfl, i3, -, xw3⟩
        replace c0 := xw3.cell c0
        replace c1 := xw3.cell c1
        replace c2 := xw3.cell c2
        replace s0 := xw3.cell s0
        replace s1 := xw3.cell s1
        replace s2 := xw3.cell s2
        replace s3 := xw3.cell s3
        replace s4 := xw3.cell s4
        replace r0 := xw3.cell r0
        replace r1 := xw3.cell r1
        replace r2 := xw3.cell r2
        replace f0 := xw3.frz (by omega) f0
        replace f1 := xw3.frz (by omega) f1
        replace f2 := xw3.frz (by omega) f2
        have zzw3 := Ext.size (show Ext w2 w3 from xw3)
        have y0 : w.heap.size + 2 < w3.heap.size := by omega
        have y1 : w.heap.size + 1 < w3.heap.size := by omega
        have y2 : w.heap.size < w3.heap.size := by omega
        have Xw3 : Ext w w3 := Xw2.trans xw3
        obtain ⟨p3, q3, rfl⟩ := i3.form
        go_wp2_with fail
        refine (numbers_c a e d _ (by have := hi.out; omega) (by have := hi.out; omega) (by have := hi.out; omega) hi.out.2.2.2).mono ?_
        rintro e w4 ⟨v4, rfl, i4, -, xw4⟩
        replace c0 := xw4.cell c0
        replace c1 := xw4.cell c1
        replace c2 := xw4.cell c2
        replace s0 := xw4.cell s0
        replace s1 := xw4.cell s1
        replace s2 := xw4.cell s2
        replace s3 := xw4.cell s3
        replace s4 := xw4.cell s4
        replace r0 := xw4.cell r0
        replace r1 := xw4.cell r1
        replace r2 := xw4.cell r2
        replace f0 := xw4.frz (by omega) f0
        replace f1 := xw4.frz (by omega) f1
        replace f2 := xw4.frz (by omega) f2
        have zzw4 := Ext.size (show Ext w3 w4 from xw4)
        have y0 : w.heap.size + 2 < w4.heap.size := by omega
        have y1 : w.heap.size + 1 < w4.heap.size := by omega
        have y2 : w.heap.size < w4.heap.size := by omega
        have Xw4 : Ext w w4 := Xw3.trans xw4
        obtain ⟨p4, q4, rfl⟩ := i4.form
        go_wp2_with fail
        refine (indices_c ((numL a e d).length : Int) F T B hf ht _ (by omega) h2'.out).mono ?_
        rintro e w5 ⟨v5, rfl, i5, -, xw5⟩
        replace c0 := xw5.cell c0
        replace c1 := xw5.cell c1
        replace c2 := xw5.cell c2
        replace s0 := xw5.cell s0
        replace s1 := xw5.cell s1
        replace s2 := xw5.cell s2
        replace s3 := xw5.cell s3
        replace s4 := xw5.cell s4
        replace r0 := xw5.cell r0
        replace r1 := xw5.cell r1
        replace r2 := xw5.cell r2
        replace f0 := xw5.frz (by omega) f0
        replace f1 := xw5.frz (by omega) f1
        replace f2 := xw5.frz (by omega) f2
        have zzw5 := Ext.size (show Ext w4 w5 from xw5)
        have y0 : w.heap.size + 2 < w5.heap.size := by omega
        have y1 : w.heap.size + 1 < w5.heap.size := by omega
        have y2 : w.heap.size < w5.heap.size := by omega
        have Xw5 : Ext w w5 := Xw4.trans xw5
        replace i4 := i4.ext xw5
        have hin := Lib.hid (idxS_in (n := ((numL a e d).length : Int)) (F := F) (T := T) (B := B) (hf := hf) (ht := ht) (by omega) hs.out.2.2.2)
        have hkl := ints_len i5
        generalize idxS ((numL a e d).length : Int) F T B hf ht = ix at *
        generalize numL a e d = xs at *
        obtain ⟨p5, q5, rfl⟩ := i5.form
        clear i3
        go_wp2_with fail
        go_loopw [7, 8] (fun v i wr => ∃ k : Nat, k ≤ ix.length ∧ i = .int .i64 k ∧ OwnI wr w5.heap.size v (tkL xs (ix.take k)) ∧ Ext w5 wr) (fun _ i _ => ix.length - (intOf i).toNat)
        case atStart => exact ⟨0, Nat.zero_le _, rfl, OwnI.lit0 w5 w5.heap.size (Nat.le_refl _), (by repeat (first | exact Ext.refl _ | assumption | apply Ext.drewN | apply Ext.drew | apply Ext.alloc))⟩
        case round =>
          obtain ⟨k, hk, rfl, ho, hx⟩ := hrel
          have hz := hx.size
          have htl := Lib.hid (tkL_len xs (ix.take k))
          by_cases hlt : k < ix.length
          · obtain ⟨_, _, hv, _, _, _, hc⟩ := i5.ext hx
            cases hv
            obtain ⟨b1, off1, rfl, _, hcell, _⟩ := hc k hlt
            have g : ix.getD k 0 = ix[k] := by simp [hlt]
            have hst := tkL_take xs ix k hlt
            obtain ⟨j0, j1⟩ := hin.out _ (List.getElem_mem hlt)
            obtain ⟨j, hj⟩ : ∃ j : Nat, ix[k] = j := ⟨_, (Int.toNat_of_nonneg j0).symm⟩
            rw [g, hj] at hcell
            rw [hj] at hst j1
            have hjl : j < xs.length := by omega
            obtain ⟨_, _, hv, _, _, _, hc'⟩ := i4.ext hx
            cases hv
            obtain ⟨b2, off2, rfl, _, hcell2, _⟩ := hc' j hjl
            have g2 : xs.getD j 0 = xs[j] := by simp [hjl]
            rw [g2] at hcell2
            have hs' := Lib.hid (show tkL xs (ix.take (k+1)) = tkL xs (ix.take k) ++ [xs[j]] by rw [hst]; simp [hjl])
            clear hc hc' g g2 hj hst j0
            go_wp2_with (at_builtin; refine wpList_app rfl (.tmp 37) (.tmp 45) rfl rfl rfl (ho.ext ((Ext.refl _).alloc _)) (Ints.one _ 0 _ (Nat.zero_le _)) (by have := htl.out; simp only [List.length_cons, List.length_nil, List.length_take] at this ⊢; omega) (by simp; omega) ?_)
            intro v' w6 ho3 _ hb3 _
            have hx3 := (hx.alloc (.cells #[.int .i64 xs[j]] 3)).below hb3 (by omega)
            clear hb3 ho
            replace ho3 := Lib.hid ho3
            go_wp2_with fail
            go_roundw
            case rel => exact ⟨k+1, by omega, by go_num, by rw [hs'.out]; exact ho3.out, hx3⟩
            case measure => simp [intOf]; omega
          · obtain rfl : k = ix.length := by omega
            rw [List.take_length] at ho htl
            have io := ho.ints (by have := htl.out; omega)
            clear ho
            replace c0 := hx.cell c0
            replace c1 := hx.cell c1
            replace c2 := hx.cell c2
            replace s0 := hx.cell s0
            replace s1 := hx.cell s1
            replace s2 := hx.cell s2
            replace s3 := hx.cell s3
            replace s4 := hx.cell s4
            replace r0 := hx.cell r0
            replace r1 := hx.cell r1
            replace r2 := hx.cell r2
            replace f0 := hx.frz (by omega) f0
            replace f1 := hx.frz (by omega) f1
            replace f2 := hx.frz (by omega) f2
            have Xr : Ext w wr := Xw5.trans hx
            go_wp2_with fail
            refine (normal_c _ _ _ _ io (fun x hx => by have := tkL_in hb.out (by omega) x hx; omega)).mono ?_
            rintro e w7 ⟨rfl, x7⟩
            replace c0 := x7.cell c0
            replace c1 := x7.cell c1
            replace c2 := x7.cell c2
            replace s0 := x7.cell s0
            replace s1 := x7.cell s1
            replace s2 := x7.cell s2
            replace s3 := x7.cell s3
            replace s4 := x7.cell s4
            replace r0 := x7.cell r0
            replace r1 := x7.cell r1
            replace r2 := x7.cell r2
            replace f0 := x7.frz (by omega) f0
            replace f1 := x7.frz (by omega) f1
            replace f2 := x7.frz (by omega) f2
            have X7 := Xr.trans x7
            go_wp2_with fail
            refine bodyPost_ret (v := .agg #[.int .i64 (normL (tkL xs ix)).1, .int .i64 (normL (tkL xs ix)).2.1, .int .i64 (normL (tkL xs ix)).2.2]) (by simp only [results, Try.results62]; go_simp) rfl ⟨_, _, _, rfl, (by repeat (first | (with_reducible assumption) | (with_reducible refine Ext.setCell ?_ (by first | (simp; done) | (simp; omega) | omega) _) | (with_reducible apply Ext.alloc) | (with_reducible apply Ext.drew) | (with_reducible apply Ext.drewN) | (with_reducible exact Ext.refl _)))⟩

end Go.Proofs.Ytjpngmdfnglabaa
