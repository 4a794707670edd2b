/- Texts of these proofs put together: LvV, PvA, LawFnReleaseExport, RowFnReleaseExport. No condition. -/
import Derived.Test.YtgklaobfikbiiaaM3
import Derived.Test.YtgklaobfikbiiaaM5
import Derived.Test.YtgklaobfikbiiaaM7
import Derived.Test.YtgklaobfikbiiaaM4
import Derived.Test.YtgklaobfikbiiaaM6
set_option linter.unusedVariables false
set_option linter.unusedSimpArgs false
/- Helpers of the laws: equal buffers. -/
namespace Go.Proofs.Ytgklaobfikbiiaa
open Go.RowKit
set_option linter.unusedVariables false
set_option maxRecDepth 100000


set_option maxHeartbeats 3200000 in
theorem leqBuf_c (cells : List Int) (es : List Exp) (cv1 ev1 cv2 ev2 : Value) (w : World) (l1 l2 l3 l4 : Nat) (h1 : Ints w l1 cv1 cells) (h2 : Exps w l2 ev1 es) (h3 : Ints w l3 cv2 cells) (h4 : Exps w l4 ev2 es) :
    Calls Try.prog 16 #[.agg #[cv1, ev1], .agg #[cv2, ev2]] w fun e w' => e = .returned (.bool true) ∧ Ext w w' := by
  obtain ⟨a1, c1, rfl⟩ := h1.form
  obtain ⟨a2, c2, rfl⟩ := h2.form
  obtain ⟨a3, c3, rfl⟩ := h3.form
  obtain ⟨a4, c4, rfl⟩ := h4.form
  have hl := h2.len
  go_enter Try.func16, Try.ntmps16
  go_wp2_with fail
  refine (leqInts_c cells _ _ _ _ _ (h1.ext qXt) (h3.ext qXt)).mono ?_
  rintro e w1 ⟨rfl, xw1⟩
  have Lw1 : Ext w w1 := Ext.trans qXt xw1
  have Xw1 : Ext w w1 := Lw1
  have va0 : w1.cell? ⟨w.heap.size, 0, none⟩ = some (.slice a1 cells.length c1) := xw1.cell qCl
  have va1 : w1.cell? ⟨w.heap.size, 1, none⟩ = some (.slice a2 es.length c2) := xw1.cell qCl
  have vb0 : w1.cell? ⟨w.heap.size + 1, 0, none⟩ = some (.slice a3 cells.length c3) := xw1.cell qCl
  have vb1 : w1.cell? ⟨w.heap.size + 1, 1, none⟩ = some (.slice a4 es.length c4) := xw1.cell qCl
  have z_va : w.heap.size < w1.heap.size := qB va0
  have z_vb : w.heap.size + 1 < w1.heap.size := qB vb0
  have s_w1 : w.heap.size ≤ w1.heap.size := Xw1.size
  clear xw1
  replace h2 := h2.ext Xw1
  replace h4 := h4.ext Xw1
  clear h1 h3
  go_wp2_with fail
  go_loopw [5] (fun i wr => ∃ (k : Nat), k ≤ es.length ∧ i = .int .i64 k ∧ Ext w1 wr) (fun i _ => es.length - (intOf i).toNat)
  case atStart => exact ⟨0, Nat.zero_le _, rfl, qXt⟩
  case round =>
    obtain ⟨k, hk, rfl, Lr⟩ := hrel
    have Xr : Ext w wr := Xw1.trans Lr
    replace va0 := Lr.cell va0
    replace va1 := Lr.cell va1
    replace vb0 := Lr.cell vb0
    replace vb1 := Lr.cell vb1
    have z_va : w.heap.size < wr.heap.size := qB va0
    have z_vb : w.heap.size + 1 < wr.heap.size := qB vb0
    have s_wr := Xr.size
    by_cases hlt : k < es.length
    · have hkI : (k : Int) < es.length := by omega
      obtain ⟨b1, o1, u1, d1, u2, d2, rfl, x0, x1, x2, x3, x4, i1, i2⟩ := (h2.ext Lr).at k hlt
      obtain ⟨b2, o2, u3, d3, u4, d4, rfl, y0, y1, y2, y3, y4, i3, i4⟩ := (h4.ext Lr).at k hlt
      clear h2 h4
      obtain ⟨X18, hX18⟩ : ∃ x, expAt es k = x := ⟨_, rfl⟩
      rw [hX18] at x0 x1 x2 x3 x4 i1 i2 y0 y1 y2 y3 y4 i3 i4
      obtain ⟨P13, B14, S15, T16, O17⟩ := X18
      dsimp only at x0 x1 x2 x3 x4 i1 i2 y0 y1 y2 y3 y4 i3 i4
      clear hX18
      have hP : (P13 != P13) = false := by simp
      cases O17
      · have z_x : b1 < wr.heap.size := qB x0
        have z_y : b2 < wr.heap.size := qB y0
        go_upto_region 7 with fail
        generalize hW1 : wr.alloc (.cells #[.int .i64 P13, .int .i64 B14, .slice u1 S15.length d1, .slice u2 T16.length d2, .bool false] TEXPORT) = w3 at *
        have Lw3 : Ext wr w3 := by subst hW1; exact qXt
        have Xw3 : Ext w w3 := Xr.trans Lw3
        replace va0 := Lw3.cell va0
        replace va1 := Lw3.cell va1
        replace vb0 := Lw3.cell vb0
        replace vb1 := Lw3.cell vb1
        replace x0 := Lw3.cell x0
        replace x1 := Lw3.cell x1
        replace x2 := Lw3.cell x2
        replace x3 := Lw3.cell x3
        replace x4 := Lw3.cell x4
        replace y0 := Lw3.cell y0
        replace y1 := Lw3.cell y1
        replace y2 := Lw3.cell y2
        replace y3 := Lw3.cell y3
        replace y4 := Lw3.cell y4
        have p0 : w3.cell? ⟨wr.heap.size, 0, none⟩ = some (.int .i64 P13) := by subst hW1; exact qCl
        have p1 : w3.cell? ⟨wr.heap.size, 1, none⟩ = some (.int .i64 B14) := by subst hW1; exact qCl
        have p2 : w3.cell? ⟨wr.heap.size, 2, none⟩ = some (.slice u1 S15.length d1) := by subst hW1; exact qCl
        have p3 : w3.cell? ⟨wr.heap.size, 3, none⟩ = some (.slice u2 T16.length d2) := by subst hW1; exact qCl
        have p4 : w3.cell? ⟨wr.heap.size, 4, none⟩ = some (.bool false) := by subst hW1; exact qCl
        have z_va : w.heap.size < w3.heap.size := qB va0
        have z_vb : w.heap.size + 1 < w3.heap.size := qB vb0
        have z_x : b1 < w3.heap.size := qB x0
        have z_y : b2 < w3.heap.size := qB y0
        have z_p : wr.heap.size < w3.heap.size := qB p0
        replace i1 := i1.ext Lw3
        replace i2 := i2.ext Lw3
        replace i3 := i3.ext Lw3
        replace i4 := i4.ext Lw3
        have s_w3 : w.heap.size ≤ w3.heap.size := Xw3.size
        have Lr_w3 : Ext w1 w3 := Lr.trans Lw3
        clear hW1
        clear x0 x1 x2 x3 x4
        go_upto_region 8 with fail
        generalize hW2 : w3.alloc (.cells #[.int .i64 P13, .int .i64 B14, .slice u3 S15.length d3, .slice u4 T16.length d4, .bool false] TEXPORT) = w4 at *
        have Lw4 : Ext w3 w4 := by subst hW2; exact qXt
        have Xw4 : Ext w w4 := Xw3.trans Lw4
        replace va0 := Lw4.cell va0
        replace va1 := Lw4.cell va1
        replace vb0 := Lw4.cell vb0
        replace vb1 := Lw4.cell vb1
        replace y0 := Lw4.cell y0
        replace y1 := Lw4.cell y1
        replace y2 := Lw4.cell y2
        replace y3 := Lw4.cell y3
        replace y4 := Lw4.cell y4
        replace p0 := Lw4.cell p0
        replace p1 := Lw4.cell p1
        replace p2 := Lw4.cell p2
        replace p3 := Lw4.cell p3
        replace p4 := Lw4.cell p4
        have q0 : w4.cell? ⟨w3.heap.size, 0, none⟩ = some (.int .i64 P13) := by subst hW2; exact qCl
        have q1 : w4.cell? ⟨w3.heap.size, 1, none⟩ = some (.int .i64 B14) := by subst hW2; exact qCl
        have q2 : w4.cell? ⟨w3.heap.size, 2, none⟩ = some (.slice u3 S15.length d3) := by subst hW2; exact qCl
        have q3 : w4.cell? ⟨w3.heap.size, 3, none⟩ = some (.slice u4 T16.length d4) := by subst hW2; exact qCl
        have q4 : w4.cell? ⟨w3.heap.size, 4, none⟩ = some (.bool false) := by subst hW2; exact qCl
        have z_va : w.heap.size < w4.heap.size := qB va0
        have z_vb : w.heap.size + 1 < w4.heap.size := qB vb0
        have z_y : b2 < w4.heap.size := qB y0
        have z_p : wr.heap.size < w4.heap.size := qB p0
        have z_q : w3.heap.size < w4.heap.size := qB q0
        replace i1 := i1.ext Lw4
        replace i2 := i2.ext Lw4
        replace i3 := i3.ext Lw4
        replace i4 := i4.ext Lw4
        have s_w4 : w.heap.size ≤ w4.heap.size := Xw4.size
        have Lr_w4 : Ext w1 w4 := Lr_w3.trans Lw4
        clear hW2
        clear y0 y1 y2 y3 y4
        go_wp2_with fail
        refine (leqView_c B14 _ _ _ _ S15 T16 _ _ _ _ _ (i1.ext qXt) (i2.ext qXt) (i3.ext qXt) (i4.ext qXt)).mono ?_
        rintro e w5 ⟨rfl, xw5⟩
        have Lw5 : Ext w4 w5 := Ext.trans qXt xw5
        have Xw5 : Ext w w5 := Xw4.trans Lw5
        replace va0 := Lw5.cell va0
        replace va1 := Lw5.cell va1
        replace vb0 := Lw5.cell vb0
        replace vb1 := Lw5.cell vb1
        replace p0 := Lw5.cell p0
        replace p1 := Lw5.cell p1
        replace p2 := Lw5.cell p2
        replace p3 := Lw5.cell p3
        replace p4 := Lw5.cell p4
        replace q0 := Lw5.cell q0
        replace q1 := Lw5.cell q1
        replace q2 := Lw5.cell q2
        replace q3 := Lw5.cell q3
        replace q4 := Lw5.cell q4
        have z_va : w.heap.size < w5.heap.size := qB va0
        have z_vb : w.heap.size + 1 < w5.heap.size := qB vb0
        have z_p : wr.heap.size < w5.heap.size := qB p0
        have z_q : w3.heap.size < w5.heap.size := qB q0
        replace i1 := i1.ext Lw5
        replace i2 := i2.ext Lw5
        replace i3 := i3.ext Lw5
        replace i4 := i4.ext Lw5
        have s_w5 : w.heap.size ≤ w5.heap.size := Xw5.size
        have Lr_w5 : Ext w1 w5 := Lr_w4.trans Lw5
        clear xw5
        go_wp2_with fail
        go_roundw
        case rel => exact ⟨k + 1, by omega, by go_num, (Lr_w5.trans qXt)⟩
        case measure => simp [intOf]; omega
      · have z_x : b1 < wr.heap.size := qB x0
        have z_y : b2 < wr.heap.size := qB y0
        go_upto_region 7 with fail
        generalize hW3 : wr.alloc (.cells #[.int .i64 P13, .int .i64 B14, .slice u1 S15.length d1, .slice u2 T16.length d2, .bool true] TEXPORT) = w3 at *
        have Lw3 : Ext wr w3 := by subst hW3; exact qXt
        have Xw3 : Ext w w3 := Xr.trans Lw3
        replace va0 := Lw3.cell va0
        replace va1 := Lw3.cell va1
        replace vb0 := Lw3.cell vb0
        replace vb1 := Lw3.cell vb1
        replace x0 := Lw3.cell x0
        replace x1 := Lw3.cell x1
        replace x2 := Lw3.cell x2
        replace x3 := Lw3.cell x3
        replace x4 := Lw3.cell x4
        replace y0 := Lw3.cell y0
        replace y1 := Lw3.cell y1
        replace y2 := Lw3.cell y2
        replace y3 := Lw3.cell y3
        replace y4 := Lw3.cell y4
        have p0 : w3.cell? ⟨wr.heap.size, 0, none⟩ = some (.int .i64 P13) := by subst hW3; exact qCl
        have p1 : w3.cell? ⟨wr.heap.size, 1, none⟩ = some (.int .i64 B14) := by subst hW3; exact qCl
        have p2 : w3.cell? ⟨wr.heap.size, 2, none⟩ = some (.slice u1 S15.length d1) := by subst hW3; exact qCl
        have p3 : w3.cell? ⟨wr.heap.size, 3, none⟩ = some (.slice u2 T16.length d2) := by subst hW3; exact qCl
        have p4 : w3.cell? ⟨wr.heap.size, 4, none⟩ = some (.bool true) := by subst hW3; exact qCl
        have z_va : w.heap.size < w3.heap.size := qB va0
        have z_vb : w.heap.size + 1 < w3.heap.size := qB vb0
        have z_x : b1 < w3.heap.size := qB x0
        have z_y : b2 < w3.heap.size := qB y0
        have z_p : wr.heap.size < w3.heap.size := qB p0
        replace i1 := i1.ext Lw3
        replace i2 := i2.ext Lw3
        replace i3 := i3.ext Lw3
        replace i4 := i4.ext Lw3
        have s_w3 : w.heap.size ≤ w3.heap.size := Xw3.size
        have Lr_w3 : Ext w1 w3 := Lr.trans Lw3
        clear hW3
        clear x0 x1 x2 x3 x4
        go_upto_region 8 with fail
        generalize hW4 : w3.alloc (.cells #[.int .i64 P13, .int .i64 B14, .slice u3 S15.length d3, .slice u4 T16.length d4, .bool true] TEXPORT) = w4 at *
        have Lw4 : Ext w3 w4 := by subst hW4; exact qXt
        have Xw4 : Ext w w4 := Xw3.trans Lw4
        replace va0 := Lw4.cell va0
        replace va1 := Lw4.cell va1
        replace vb0 := Lw4.cell vb0
        replace vb1 := Lw4.cell vb1
        replace y0 := Lw4.cell y0
        replace y1 := Lw4.cell y1
        replace y2 := Lw4.cell y2
        replace y3 := Lw4.cell y3
        replace y4 := Lw4.cell y4
        replace p0 := Lw4.cell p0
        replace p1 := Lw4.cell p1
        replace p2 := Lw4.cell p2
        replace p3 := Lw4.cell p3
        replace p4 := Lw4.cell p4
        have q0 : w4.cell? ⟨w3.heap.size, 0, none⟩ = some (.int .i64 P13) := by subst hW4; exact qCl
        have q1 : w4.cell? ⟨w3.heap.size, 1, none⟩ = some (.int .i64 B14) := by subst hW4; exact qCl
        have q2 : w4.cell? ⟨w3.heap.size, 2, none⟩ = some (.slice u3 S15.length d3) := by subst hW4; exact qCl
        have q3 : w4.cell? ⟨w3.heap.size, 3, none⟩ = some (.slice u4 T16.length d4) := by subst hW4; exact qCl
        have q4 : w4.cell? ⟨w3.heap.size, 4, none⟩ = some (.bool true) := by subst hW4; exact qCl
        have z_va : w.heap.size < w4.heap.size := qB va0
        have z_vb : w.heap.size + 1 < w4.heap.size := qB vb0
        have z_y : b2 < w4.heap.size := qB y0
        have z_p : wr.heap.size < w4.heap.size := qB p0
        have z_q : w3.heap.size < w4.heap.size := qB q0
        replace i1 := i1.ext Lw4
        replace i2 := i2.ext Lw4
        replace i3 := i3.ext Lw4
        replace i4 := i4.ext Lw4
        have s_w4 : w.heap.size ≤ w4.heap.size := Xw4.size
        have Lr_w4 : Ext w1 w4 := Lr_w3.trans Lw4
        clear hW4
        clear y0 y1 y2 y3 y4
        go_wp2_with fail
        refine (leqView_c B14 _ _ _ _ S15 T16 _ _ _ _ _ (i1.ext qXt) (i2.ext qXt) (i3.ext qXt) (i4.ext qXt)).mono ?_
        rintro e w5 ⟨rfl, xw5⟩
        have Lw5 : Ext w4 w5 := Ext.trans qXt xw5
        have Xw5 : Ext w w5 := Xw4.trans Lw5
        replace va0 := Lw5.cell va0
        replace va1 := Lw5.cell va1
        replace vb0 := Lw5.cell vb0
        replace vb1 := Lw5.cell vb1
        replace p0 := Lw5.cell p0
        replace p1 := Lw5.cell p1
        replace p2 := Lw5.cell p2
        replace p3 := Lw5.cell p3
        replace p4 := Lw5.cell p4
        replace q0 := Lw5.cell q0
        replace q1 := Lw5.cell q1
        replace q2 := Lw5.cell q2
        replace q3 := Lw5.cell q3
        replace q4 := Lw5.cell q4
        have z_va : w.heap.size < w5.heap.size := qB va0
        have z_vb : w.heap.size + 1 < w5.heap.size := qB vb0
        have z_p : wr.heap.size < w5.heap.size := qB p0
        have z_q : w3.heap.size < w5.heap.size := qB q0
        replace i1 := i1.ext Lw5
        replace i2 := i2.ext Lw5
        replace i3 := i3.ext Lw5
        replace i4 := i4.ext Lw5
        have s_w5 : w.heap.size ≤ w5.heap.size := Xw5.size
        have Lr_w5 : Ext w1 w5 := Lr_w4.trans Lw5
        clear xw5
        go_wp2_with fail
        go_roundw
        case rel => exact ⟨k + 1, by omega, by go_num, (Lr_w5.trans qXt)⟩
        case measure => simp [intOf]; omega
    · obtain rfl : k = es.length := by omega
      have hkI : ¬ (es.length : Int) < (es.length : Int) := by omega
      go_wp2_with fail
      go_ret
      exact ⟨rfl, Xr.trans qXt⟩

end Go.Proofs.Ytgklaobfikbiiaa

/- Plain laws on buffers: open exports, kids, closed exports. No condition. -/
namespace Go.Proofs.Ytgklaobfikbiiaa
open Go.RowKit
set_option linter.unusedVariables false
set_option maxRecDepth 100000

theorem mem_selL {p : Exp → Bool} {es : List Exp} {n : Nat} {x : Int} : x ∈ selL p es n ↔ ∃ k : Nat, k < n ∧ p (expAt es k) = true ∧ x = k := by
  unfold selL
  simp only [List.mem_map, List.mem_filter, List.mem_range]
  constructor
  · rintro ⟨k, ⟨h1, h2⟩, rfl⟩; exact ⟨k, h1, h2, rfl⟩
  · rintro ⟨k, h1, h2, rfl⟩; exact ⟨k, ⟨h1, h2⟩, rfl⟩
theorem openA_of {cells : List Int} {es : List Exp} (h : bufB cells es = true) : openA cells es = selL opP es es.length := by unfold openA; rw [h]; rfl
theorem opB_iff {es : List Exp} {x : Int} : opB es x = true ↔ x ∈ selL opP es es.length := by
  constructor
  · intro h
    obtain ⟨h0, h1, h2⟩ := opB_in h
    exact mem_selL.2 ⟨x.toNat, h1, h2, by omega⟩
  · intro h
    obtain ⟨k, hk, hp, rfl⟩ := mem_selL.1 h
    rw [opB_nat hk]; exact hp
theorem selL_lenS (p : Exp → Bool) (es : List Exp) (n : Nat) : (selL p es (n+1)).length = (selL p es n).length + (if p (expAt es n) = true then 1 else 0) := by
  cases h : p (expAt es n)
  · rw [selL_no h]; rfl
  · rw [selL_yes h]; simp
/-- the export, closed -/
def offE (e : Exp) : Exp := ⟨e.par, e.b, e.s, e.t, false⟩
theorem openA_len (cells : List Int) (es : List Exp) : (openA cells es).length ≤ es.length := by
  unfold openA
  split
  · exact selL_len _ _ _
  · simp
/-- a released export -/
theorem rel_law {cells : List Int} {es : List Exp} {i : Int} {B : List Int} {E : List Exp} (h : relA cells es i = (B, E, true)) :
    cells = B ∧ bufB cells es = true ∧ bufB B E = true ∧ relA B E i = noBuf ∧ decide (i ∈ openA B E) = false ∧ (((openA B E).length : Nat) : Int) = ((openA cells es).length : Int) - 1 ∧ loadX B E i = [] := by
  have hv := relA_valid (show (relA cells es i).2.2 = true by rw [h])
  rw [h] at hv
  dsimp only at hv
  unfold relA at h
  split at h
  · rename_i hc
    simp only [Bool.and_eq_true, decide_eq_true_eq] at hc
    obtain ⟨⟨hb, ho⟩, hk⟩ := hc
    obtain ⟨h0, h1, h2⟩ := opB_in ho
    simp only [Prod.mk.injEq, and_true] at h
    obtain ⟨rfl, hE⟩ := h
    replace hE : E = es.set i.toNat (offE (expAt es i.toNat)) := hE.symm
    subst hE
    have hoff : opB (es.set i.toNat (offE (expAt es i.toNat))) i = false := by
      obtain ⟨k, rfl⟩ : ∃ k : Nat, i = k := ⟨i.toNat, by omega⟩
      rw [Int.toNat_natCast] at h1 ⊢
      rw [opB_nat (by rw [List.length_set]; exact h1), expAt_set es k _ k h1, if_pos rfl]; rfl
    have hcnt : ∀ n, n ≤ es.length → (selL opP (es.set i.toNat (offE (expAt es i.toNat))) n).length + (if i.toNat < n then 1 else 0) = (selL opP es n).length := by
      intro n
      induction n with
      | zero => intro; rfl
      | succ n ih =>
        intro hn
        rw [selL_lenS, selL_lenS, ← ih (by omega), expAt_set es _ _ n h1]
        by_cases hq : n = i.toNat
        · subst hq
          rw [if_pos rfl, if_neg (show ¬ opP (offE (expAt es i.toNat)) = true by unfold opP offE; simp), if_pos (show i.toNat < i.toNat + 1 by omega), if_neg (Nat.lt_irrefl _), if_pos (show opP (expAt es i.toNat) = true from h2)]
        · rw [if_neg hq]
          by_cases h9 : i.toNat < n
          · have h8 : i.toNat < n + 1 := by omega
            simp only [if_pos h9, if_pos h8]; omega
          · have h8 : ¬ i.toNat < n + 1 := by omega
            simp only [if_neg h9, if_neg h8]; omega
    refine ⟨rfl, hb, hv, ?_, ?_, ?_, ?_⟩
    · unfold relA; rw [hoff, Bool.and_false, Bool.false_and]; rfl
    · rw [openA_of hv]
      refine decide_eq_false fun hm => ?_
      rw [opB_iff.2 hm] at hoff; cases hoff
    · rw [openA_of hv, openA_of hb]
      have h7 := hcnt es.length (Nat.le_refl _)
      rw [if_pos h1] at h7
      rw [List.length_set, ← h7]; omega
    · unfold loadX; rw [hoff, Bool.and_false]; rfl
  · cases h
end Go.Proofs.Ytgklaobfikbiiaa

/- FnReleaseExport returns true for all bytes: no condition. -/
namespace Go.Proofs.Ytgklaobfikbiiaa
open Go.RowKit
set_option linter.unusedVariables false
set_option maxRecDepth 100000

set_option maxHeartbeats 6400000 in
theorem lawFnReleaseExport_c (a : Option Addr) (n cap : Nat) (w : World) (hb : BysIn w a n cap) :
  Calls Try.prog 8 #[.slice a n cap] w fun e w' => e = .returned (.bool true) ∧ Ext w w' := by
 have hcm := hb.1
 have hcm2 := hb.2.1
 unfold maxLen at hcm2
 go_enter Try.func8, Try.ntmps8
 by_cases hc1 : (1048576 : Int) < (n : Int)
 ·
  go_wp2_with fail
  go_ret
  exact ⟨rfl, qXo⟩
 ·
  go_wp2_with fail
  refine (drawReleaseExport_c a n cap _ hb).mono ?_
  rintro e w1 ⟨cells, es, p0, p1, c0, c1, x, rfl, i1, i2, hs, hx5, xw1⟩
  have Lw1 : Ext w w1 := Ext.trans qXt xw1
  have Xw1 : Ext w w1 := Lw1
  have s_w1 : w.heap.size ≤ w1.heap.size := Xw1.size
  clear xw1
  clear hb
  have hc61 := hs.out.1
  have he9 := hs.out.2.1
  obtain ⟨RB, RE, RO, hR⟩ : ∃ RB RE RO, relA cells es x = (RB, RE, RO) := ⟨_, _, _, rfl⟩
  cases RO
  ·
   replace hR := Lib.hid hR
   go_wp2_with fail
   refine (pbx_eq hR.out (implReleaseExport_c cells es (.slice p0 cells.length c0) (.slice p1 es.length c1) x _ _ _ (i1.ext qXt) (i2.ext qXt))).mono ?_
   rintro e w2 ⟨cvfb4, evfb4, R5, rfl, bf3, xw2⟩
   have Lw2 : Ext w1 w2 := Ext.trans qXt xw2
   have Xw2 : Ext w w2 := Xw1.trans Lw2
   have b20 : w2.cell? ⟨w1.heap.size, 0, none⟩ = some (.slice p0 cells.length c0) := xw2.cell qCl
   have b21 : w2.cell? ⟨w1.heap.size, 1, none⟩ = some (.slice p1 es.length c1) := xw2.cell qCl
   have z_b2 : w1.heap.size < w2.heap.size := qB b20
   replace i1 := i1.ext Lw2
   replace i2 := i2.ext Lw2
   have s_w2 : w.heap.size ≤ w2.heap.size := Xw2.size
   clear xw2
   replace bf3 := bf3.lower (lo' := w1.heap.size + 1) qSo
   obtain ⟨afb4, cfb4, rfl⟩ := bf3.ints.form
   obtain ⟨efb4, dfb4, rfl⟩ := bf3.exps.form
   have q_bf3 := Lib.hid bf3.at
   go_wp2_with fail
   refine (pbx_eq hR.out (specReleaseExport_c cells es (.slice p0 cells.length c0) (.slice p1 es.length c1) x _ _ _ (i1.ext qXt) (i2.ext qXt))).mono ?_
   rintro e w3 ⟨cvfb8, evfb8, R9, rfl, bf7, xw3⟩
   have Lw3 : Ext w2 w3 := Ext.trans qXt xw3
   have Xw3 : Ext w w3 := Xw2.trans Lw3
   replace b20 := Lw3.cell b20
   replace b21 := Lw3.cell b21
   have b60 : w3.cell? ⟨w2.heap.size, 0, none⟩ = some (.slice afb4 RB.length cfb4) := xw3.cell qCl
   have b61 : w3.cell? ⟨w2.heap.size, 1, none⟩ = some (.slice efb4 RE.length dfb4) := xw3.cell qCl
   have z_b2 : w1.heap.size < w3.heap.size := qB b20
   have z_b6 : w2.heap.size < w3.heap.size := qB b60
   replace i1 := i1.ext Lw3
   replace i2 := i2.ext Lw3
   replace bf3 := bf3.ext Lw3
   have s_w3 : w.heap.size ≤ w3.heap.size := Xw3.size
   clear xw3
   replace bf7 := bf7.lower (lo' := w2.heap.size + 1) qSo
   obtain ⟨afb8, cfb8, rfl⟩ := bf7.ints.form
   obtain ⟨efb8, dfb8, rfl⟩ := bf7.exps.form
   have q_bf7 := Lib.hid bf7.at
   go_wp2_with fail
   refine (leqBuf_c RB RE (.slice afb4 RB.length cfb4) (.slice efb4 RE.length dfb4) (.slice afb8 RB.length cfb8) (.slice efb8 RE.length dfb8) _ _ _ _ _ (bf3.ints.ext qXt) (bf3.exps.ext qXt) (bf7.ints.ext qXt) (bf7.exps.ext qXt)).mono ?_
   rintro e w4 ⟨rfl, xw4⟩
   have Lw4 : Ext w3 w4 := Ext.trans qXt xw4
   have Xw4 : Ext w w4 := Xw3.trans Lw4
   replace b20 := Lw4.cell b20
   replace b21 := Lw4.cell b21
   replace b60 := Lw4.cell b60
   replace b61 := Lw4.cell b61
   have b100 : w4.cell? ⟨w3.heap.size, 0, none⟩ = some (.slice afb8 RB.length cfb8) := xw4.cell qCl
   have b101 : w4.cell? ⟨w3.heap.size, 1, none⟩ = some (.slice efb8 RE.length dfb8) := xw4.cell qCl
   have z_b2 : w1.heap.size < w4.heap.size := qB b20
   have z_b6 : w2.heap.size < w4.heap.size := qB b60
   have z_b10 : w3.heap.size < w4.heap.size := qB b100
   replace i1 := i1.ext Lw4
   replace i2 := i2.ext Lw4
   replace bf3 := bf3.ext Lw4
   replace bf7 := bf7.ext Lw4
   have s_w4 : w.heap.size ≤ w4.heap.size := Xw4.size
   clear xw4
   go_wp2_with fail
   refine (leqBuf_c RB RE (.slice afb4 RB.length cfb4) (.slice efb4 RE.length dfb4) (.slice afb8 RB.length cfb8) (.slice efb8 RE.length dfb8) _ _ _ _ _ (bf3.ints.ext qXt) (bf3.exps.ext qXt) (bf7.ints.ext qXt) (bf7.exps.ext qXt)).mono ?_
   rintro e w5 ⟨rfl, xw5⟩
   have Lw5 : Ext w4 w5 := Ext.trans qXt xw5
   have Xw5 : Ext w w5 := Xw4.trans Lw5
   replace b20 := Lw5.cell b20
   replace b21 := Lw5.cell b21
   replace b60 := Lw5.cell b60
   replace b61 := Lw5.cell b61
   replace b100 := Lw5.cell b100
   replace b101 := Lw5.cell b101
   have z_b2 : w1.heap.size < w5.heap.size := qB b20
   have z_b6 : w2.heap.size < w5.heap.size := qB b60
   have z_b10 : w3.heap.size < w5.heap.size := qB b100
   replace i1 := i1.ext Lw5
   replace i2 := i2.ext Lw5
   replace bf3 := bf3.ext Lw5
   replace bf7 := bf7.ext Lw5
   have s_w5 : w.heap.size ≤ w5.heap.size := Xw5.size
   clear xw5
   go_wp2_with fail
   go_ret
   exact ⟨rfl, (Xw5.trans qXt)⟩
  ·
   obtain ⟨rfl, hbb, hbv, hQ, hnin, hlen1, hld⟩ := rel_law hR
   obtain ⟨QB, QE, hQ2⟩ : ∃ QB QE, relA cells RE x = (QB, QE, false) := ⟨_, _, hQ⟩
   replace hQ2 := Lib.hid hQ2
   replace hbb := Lib.hid hbb
   replace hbv := Lib.hid hbv
   replace hnin := Lib.hid hnin
   replace hlen1 := Lib.hid hlen1
   replace hld := Lib.hid hld
   clear hQ
   have hoLe := openA_len cells es
   replace hR := Lib.hid hR
   go_wp2_with fail
   refine (pbx_eq hR.out (implReleaseExport_c cells es (.slice p0 cells.length c0) (.slice p1 es.length c1) x _ _ _ (i1.ext qXt) (i2.ext qXt))).mono ?_
   rintro e w2 ⟨cvfb13, evfb13, R14, rfl, bf12, xw2⟩
   have Lw2 : Ext w1 w2 := Ext.trans qXt xw2
   have Xw2 : Ext w w2 := Xw1.trans Lw2
   have b110 : w2.cell? ⟨w1.heap.size, 0, none⟩ = some (.slice p0 cells.length c0) := xw2.cell qCl
   have b111 : w2.cell? ⟨w1.heap.size, 1, none⟩ = some (.slice p1 es.length c1) := xw2.cell qCl
   have z_b11 : w1.heap.size < w2.heap.size := qB b110
   replace i1 := i1.ext Lw2
   replace i2 := i2.ext Lw2
   have s_w2 : w.heap.size ≤ w2.heap.size := Xw2.size
   clear xw2
   replace bf12 := bf12.lower (lo' := w1.heap.size + 1) qSo
   obtain ⟨afb13, cfb13, rfl⟩ := bf12.ints.form
   obtain ⟨efb13, dfb13, rfl⟩ := bf12.exps.form
   have q_bf12 := Lib.hid bf12.at
   go_wp2_with fail
   refine (pbx_eq hR.out (specReleaseExport_c cells es (.slice p0 cells.length c0) (.slice p1 es.length c1) x _ _ _ (i1.ext qXt) (i2.ext qXt))).mono ?_
   rintro e w3 ⟨cvfb17, evfb17, R18, rfl, bf16, xw3⟩
   have Lw3 : Ext w2 w3 := Ext.trans qXt xw3
   have Xw3 : Ext w w3 := Xw2.trans Lw3
   replace b110 := Lw3.cell b110
   replace b111 := Lw3.cell b111
   have b150 : w3.cell? ⟨w2.heap.size, 0, none⟩ = some (.slice afb13 cells.length cfb13) := xw3.cell qCl
   have b151 : w3.cell? ⟨w2.heap.size, 1, none⟩ = some (.slice efb13 RE.length dfb13) := xw3.cell qCl
   have z_b11 : w1.heap.size < w3.heap.size := qB b110
   have z_b15 : w2.heap.size < w3.heap.size := qB b150
   replace i1 := i1.ext Lw3
   replace i2 := i2.ext Lw3
   replace bf12 := bf12.ext Lw3
   have s_w3 : w.heap.size ≤ w3.heap.size := Xw3.size
   clear xw3
   replace bf16 := bf16.lower (lo' := w2.heap.size + 1) qSo
   obtain ⟨afb17, cfb17, rfl⟩ := bf16.ints.form
   obtain ⟨efb17, dfb17, rfl⟩ := bf16.exps.form
   have q_bf16 := Lib.hid bf16.at
   go_wp2_with fail
   refine (leqBuf_c cells RE (.slice afb13 cells.length cfb13) (.slice efb13 RE.length dfb13) (.slice afb17 cells.length cfb17) (.slice efb17 RE.length dfb17) _ _ _ _ _ (bf12.ints.ext qXt) (bf12.exps.ext qXt) (bf16.ints.ext qXt) (bf16.exps.ext qXt)).mono ?_
   rintro e w4 ⟨rfl, xw4⟩
   have Lw4 : Ext w3 w4 := Ext.trans qXt xw4
   have Xw4 : Ext w w4 := Xw3.trans Lw4
   replace b110 := Lw4.cell b110
   replace b111 := Lw4.cell b111
   replace b150 := Lw4.cell b150
   replace b151 := Lw4.cell b151
   have b190 : w4.cell? ⟨w3.heap.size, 0, none⟩ = some (.slice afb17 cells.length cfb17) := xw4.cell qCl
   have b191 : w4.cell? ⟨w3.heap.size, 1, none⟩ = some (.slice efb17 RE.length dfb17) := xw4.cell qCl
   have z_b11 : w1.heap.size < w4.heap.size := qB b110
   have z_b15 : w2.heap.size < w4.heap.size := qB b150
   have z_b19 : w3.heap.size < w4.heap.size := qB b190
   replace i1 := i1.ext Lw4
   replace i2 := i2.ext Lw4
   replace bf12 := bf12.ext Lw4
   replace bf16 := bf16.ext Lw4
   have s_w4 : w.heap.size ≤ w4.heap.size := Xw4.size
   clear xw4
   go_wp2_with fail
   have Q23_b110 := Lib.hid b110
   have Q23_b111 := Lib.hid b111
   have Q23_zb11 := z_b11
   have Q23_b150 := Lib.hid b150
   have Q23_b151 := Lib.hid b151
   have Q23_zb15 := z_b15
   have Q23_b190 := Lib.hid b190
   have Q23_b191 := Lib.hid b191
   have Q23_zb19 := z_b19
   have Q23_i1 := Lib.hid i1
   have Q23_i2 := Lib.hid i2
   have Q23_bf12 := Lib.hid bf12
   have Q23_bf16 := Lib.hid bf16
   have BL24 : Ext w4 w4 := Ext.refl _
   refine (pbx_eq hQ2.out (implReleaseExport_c cells RE (.slice afb13 cells.length cfb13) (.slice efb13 RE.length dfb13) x _ _ _ (bf12.ints.ext qXt) (bf12.exps.ext qXt))).mono ?_
   rintro e w5 ⟨cvfb21, evfb21, R22, rfl, bf20, xw5⟩
   have Lw5 : Ext w4 w5 := Ext.trans qXt xw5
   have Xw5 : Ext w w5 := Xw4.trans Lw5
   replace b110 := Lw5.cell b110
   replace b111 := Lw5.cell b111
   replace b150 := Lw5.cell b150
   replace b151 := Lw5.cell b151
   replace b190 := Lw5.cell b190
   replace b191 := Lw5.cell b191
   have z_b11 : w1.heap.size < w5.heap.size := qB b110
   have z_b15 : w2.heap.size < w5.heap.size := qB b150
   have z_b19 : w3.heap.size < w5.heap.size := qB b190
   replace i1 := i1.ext Lw5
   replace i2 := i2.ext Lw5
   replace bf12 := bf12.ext Lw5
   replace bf16 := bf16.ext Lw5
   have s_w5 : w.heap.size ≤ w5.heap.size := Xw5.size
   have BL24_w5 : Ext w4 w5 := BL24.trans Lw5
   clear xw5
   replace bf20 := bf20.lower (lo' := w4.heap.size) qSo
   obtain ⟨afb21, cfb21, rfl⟩ := bf20.ints.form
   obtain ⟨efb21, dfb21, rfl⟩ := bf20.exps.form
   have q_bf20 := Lib.hid bf20.at
   go_wp2_with fail
   generalize hW1 : w5.alloc (.cells #[.slice afb21 QB.length cfb21, .slice efb21 QE.length dfb21] 26) = w6 at *
   have Lw6 : Ext w5 w6 := by subst hW1; exact qXt
   have Xw6 : Ext w w6 := Xw5.trans Lw6
   replace b110 := Lw6.cell b110
   replace b111 := Lw6.cell b111
   replace b150 := Lw6.cell b150
   replace b151 := Lw6.cell b151
   replace b190 := Lw6.cell b190
   replace b191 := Lw6.cell b191
   have b250 : w6.cell? ⟨w5.heap.size, 0, none⟩ = some (.slice afb21 QB.length cfb21) := by subst hW1; exact qCl
   have b251 : w6.cell? ⟨w5.heap.size, 1, none⟩ = some (.slice efb21 QE.length dfb21) := by subst hW1; exact qCl
   have z_b11 : w1.heap.size < w6.heap.size := qB b110
   have z_b15 : w2.heap.size < w6.heap.size := qB b150
   have z_b19 : w3.heap.size < w6.heap.size := qB b190
   have z_b25 : w5.heap.size < w6.heap.size := qB b250
   replace i1 := i1.ext Lw6
   replace i2 := i2.ext Lw6
   replace bf12 := bf12.ext Lw6
   replace bf16 := bf16.ext Lw6
   replace bf20 := bf20.ext Lw6
   have s_w6 : w.heap.size ≤ w6.heap.size := Xw6.size
   have BL24_w6 : Ext w4 w6 := BL24_w5.trans Lw6
   clear hW1
   refine wp_region_tail (S := fun w' => w'.cell? ⟨w1.heap.size, 0, none⟩ = some (.slice p0 cells.length c0) ∧ w'.cell? ⟨w1.heap.size, 1, none⟩ = some (.slice p1 es.length c1) ∧ w'.cell? ⟨w2.heap.size, 0, none⟩ = some (.slice afb13 cells.length cfb13) ∧ w'.cell? ⟨w2.heap.size, 1, none⟩ = some (.slice efb13 RE.length dfb13)) (fun i => decide (34 ≤ i)) qKr ⟨b110, b111, b150, b151⟩ (fun hHeld => ?_)
   refine qTk (v := ?_) 0 rfl (.inl ⟨by rfl, ?_⟩) ?_
   rotate_left
   ·
    (intro w hSw; (try dsimp only at hSw); go_simp; try with_reducible rfl)
   try simp only [Act.put, qa, qb, qc, qD, qE, qF]
   refine qTk (v := ?_) 1 rfl (.inl ⟨by rfl, ?_⟩) ?_
   rotate_left
   ·
    (intro w hSw; (try dsimp only at hSw); go_simp; try with_reducible rfl)
   try simp only [Act.put, qa, qb, qc, qD, qE, qF]
   refine qTk (v := ?_) 2 rfl (.inl ⟨by rfl, ?_⟩) ?_
   rotate_left
   ·
    (intro w hSw; (try dsimp only at hSw); go_simp; try with_reducible rfl)
   try simp only [Act.put, qa, qb, qc, qD, qE, qF]
   refine qTk (v := ?_) 3 rfl (.inl ⟨by rfl, ?_⟩) ?_
   rotate_left
   ·
    (intro w hSw; (try dsimp only at hSw); go_simp; try with_reducible rfl)
   try simp only [Act.put, qa, qb, qc, qD, qE, qF]
   refine qTk (v := ?_) 5 rfl (.inl ⟨by rfl, ?_⟩) ?_
   rotate_left
   ·
    (intro w hSw; (try dsimp only at hSw); go_simp; try with_reducible rfl)
   try simp only [Act.put, qa, qb, qc, qD, qE, qF]
   refine wpTail_one (i := 4) qKr rfl rfl (fun K hK => ?_)
   try simp only [Act.put, qa, qb, qc, qD, qE, qF]
   go_simp
   refine (implOpenOf_c cells RE (.slice afb13 cells.length cfb13) (.slice efb13 RE.length dfb13) _ _ _ (bf12.ints.ext qXt) (bf12.exps.ext qXt)).mono ?_
   rintro e w7 ⟨fv26, rfl, i27, -, xw7⟩
   have Lw7 : Ext w6 w7 := Ext.trans qXt xw7
   have Xw7 : Ext w w7 := Xw6.trans Lw7
   replace b110 := Lw7.cell b110
   replace b111 := Lw7.cell b111
   replace b150 := Lw7.cell b150
   replace b151 := Lw7.cell b151
   replace b190 := Lw7.cell b190
   replace b191 := Lw7.cell b191
   replace b250 := Lw7.cell b250
   replace b251 := Lw7.cell b251
   have z_b11 : w1.heap.size < w7.heap.size := qB b110
   have z_b15 : w2.heap.size < w7.heap.size := qB b150
   have z_b19 : w3.heap.size < w7.heap.size := qB b190
   have z_b25 : w5.heap.size < w7.heap.size := qB b250
   replace i1 := i1.ext Lw7
   replace i2 := i2.ext Lw7
   replace bf12 := bf12.ext Lw7
   replace bf16 := bf16.ext Lw7
   replace bf20 := bf20.ext Lw7
   have s_w7 : w.heap.size ≤ w7.heap.size := Xw7.size
   have BL24_w7 : Ext w4 w7 := BL24_w6.trans Lw7
   clear xw7
   try simp only [World.size_alloc, World.size_drew] at i27
   obtain ⟨afv26, cfv26, rfl⟩ := i27.form
   refine hK.out _ _ ⟨b110, b111, b150, b151⟩ (fun hHeld => ?_)
   clear hK K
   try simp only [Act.put, qa, qb, qc, qD, qE, qF]
   refine wpTail_one (i := 6) qKr rfl rfl (fun K hK => ?_)
   try simp only [Act.put, qa, qb, qc, qD, qE, qF]
   go_simp
   refine (isIn_c (openA cells RE) x (.slice afv26 ((openA cells RE).length) cfv26) _ _ (i27.ext qXt)).mono ?_
   rintro e w8 ⟨rfl, xw8⟩
   have Lw8 : Ext w7 w8 := Ext.trans qXt xw8
   have Xw8 : Ext w w8 := Xw7.trans Lw8
   replace b110 := Lw8.cell b110
   replace b111 := Lw8.cell b111
   replace b150 := Lw8.cell b150
   replace b151 := Lw8.cell b151
   replace b190 := Lw8.cell b190
   replace b191 := Lw8.cell b191
   replace b250 := Lw8.cell b250
   replace b251 := Lw8.cell b251
   have z_b11 : w1.heap.size < w8.heap.size := qB b110
   have z_b15 : w2.heap.size < w8.heap.size := qB b150
   have z_b19 : w3.heap.size < w8.heap.size := qB b190
   have z_b25 : w5.heap.size < w8.heap.size := qB b250
   replace i1 := i1.ext Lw8
   replace i2 := i2.ext Lw8
   replace bf12 := bf12.ext Lw8
   replace bf16 := bf16.ext Lw8
   replace bf20 := bf20.ext Lw8
   replace i27 := i27.ext Lw8
   have s_w8 : w.heap.size ≤ w8.heap.size := Xw8.size
   have BL24_w8 : Ext w4 w8 := BL24_w7.trans Lw8
   clear xw8
   rw [hnin.out]
   refine hK.out _ _ ⟨b110, b111, b150, b151⟩ (fun hHeld => ?_)
   clear hK K
   try simp only [Act.put, qa, qb, qc, qD, qE, qF]
   refine qTk (v := ?_) 7 rfl (.inl ⟨by rfl, ?_⟩) ?_
   rotate_left
   ·
    (intro w hSw; (try dsimp only at hSw); go_simp; try with_reducible rfl)
   try simp only [Act.put, qa, qb, qc, qD, qE, qF]
   refine qTk (v := ?_) 8 rfl (.inl ⟨by rfl, ?_⟩) ?_
   rotate_left
   ·
    (intro w hSw; (try dsimp only at hSw); go_simp; try with_reducible rfl)
   try simp only [Act.put, qa, qb, qc, qD, qE, qF]
   refine qTk (v := ?_) 9 rfl (.inl ⟨by rfl, ?_⟩) ?_
   rotate_left
   ·
    (intro w hSw; (try dsimp only at hSw); go_simp; try with_reducible rfl)
   try simp only [Act.put, qa, qb, qc, qD, qE, qF]
   refine qTk (v := ?_) 10 rfl (.inl ⟨by rfl, ?_⟩) ?_
   rotate_left
   ·
    (intro w hSw; (try dsimp only at hSw); go_simp; try with_reducible rfl)
   try simp only [Act.put, qa, qb, qc, qD, qE, qF]
   refine qTk (v := ?_) 13 rfl (.inl ⟨by rfl, ?_⟩) ?_
   rotate_left
   ·
    (intro w hSw; (try dsimp only at hSw); go_simp; try with_reducible rfl)
   try simp only [Act.put, qa, qb, qc, qD, qE, qF]
   refine wpTail_one (i := 11) qKr rfl rfl (fun K hK => ?_)
   try simp only [Act.put, qa, qb, qc, qD, qE, qF]
   go_simp
   refine (implOpenOf_c cells RE (.slice afb13 cells.length cfb13) (.slice efb13 RE.length dfb13) _ _ _ (bf12.ints.ext qXt) (bf12.exps.ext qXt)).mono ?_
   rintro e w9 ⟨fv28, rfl, i29, -, xw9⟩
   have Lw9 : Ext w8 w9 := Ext.trans qXt xw9
   have Xw9 : Ext w w9 := Xw8.trans Lw9
   replace b110 := Lw9.cell b110
   replace b111 := Lw9.cell b111
   replace b150 := Lw9.cell b150
   replace b151 := Lw9.cell b151
   replace b190 := Lw9.cell b190
   replace b191 := Lw9.cell b191
   replace b250 := Lw9.cell b250
   replace b251 := Lw9.cell b251
   have z_b11 : w1.heap.size < w9.heap.size := qB b110
   have z_b15 : w2.heap.size < w9.heap.size := qB b150
   have z_b19 : w3.heap.size < w9.heap.size := qB b190
   have z_b25 : w5.heap.size < w9.heap.size := qB b250
   replace i1 := i1.ext Lw9
   replace i2 := i2.ext Lw9
   replace bf12 := bf12.ext Lw9
   replace bf16 := bf16.ext Lw9
   replace bf20 := bf20.ext Lw9
   replace i27 := i27.ext Lw9
   have s_w9 : w.heap.size ≤ w9.heap.size := Xw9.size
   have BL24_w9 : Ext w4 w9 := BL24_w8.trans Lw9
   clear xw9
   try simp only [World.size_alloc, World.size_drew] at i29
   obtain ⟨afv28, cfv28, rfl⟩ := i29.form
   refine hK.out _ _ ⟨b110, b111, b150, b151⟩ (fun hHeld => ?_)
   clear hK K
   try simp only [Act.put, qa, qb, qc, qD, qE, qF]
   refine qTk (v := ?_) 12 rfl (.inl ⟨by rfl, ?_⟩) ?_
   rotate_left
   ·
    (intro w hSw; (try dsimp only at hSw); go_simp; try with_reducible rfl)
   try simp only [Act.put, qa, qb, qc, qD, qE, qF]
   refine wpTail_one (i := 14) qKr rfl rfl (fun K hK => ?_)
   try simp only [Act.put, qa, qb, qc, qD, qE, qF]
   go_simp
   refine (implOpenOf_c cells es (.slice p0 cells.length c0) (.slice p1 es.length c1) _ _ _ (i1.ext qXt) (i2.ext qXt)).mono ?_
   rintro e w10 ⟨fv30, rfl, i31, -, xw10⟩
   have Lw10 : Ext w9 w10 := Ext.trans qXt xw10
   have Xw10 : Ext w w10 := Xw9.trans Lw10
   replace b110 := Lw10.cell b110
   replace b111 := Lw10.cell b111
   replace b150 := Lw10.cell b150
   replace b151 := Lw10.cell b151
   replace b190 := Lw10.cell b190
   replace b191 := Lw10.cell b191
   replace b250 := Lw10.cell b250
   replace b251 := Lw10.cell b251
   have z_b11 : w1.heap.size < w10.heap.size := qB b110
   have z_b15 : w2.heap.size < w10.heap.size := qB b150
   have z_b19 : w3.heap.size < w10.heap.size := qB b190
   have z_b25 : w5.heap.size < w10.heap.size := qB b250
   replace i1 := i1.ext Lw10
   replace i2 := i2.ext Lw10
   replace bf12 := bf12.ext Lw10
   replace bf16 := bf16.ext Lw10
   replace bf20 := bf20.ext Lw10
   replace i27 := i27.ext Lw10
   replace i29 := i29.ext Lw10
   have s_w10 : w.heap.size ≤ w10.heap.size := Xw10.size
   have BL24_w10 : Ext w4 w10 := BL24_w9.trans Lw10
   clear xw10
   try simp only [World.size_alloc, World.size_drew] at i31
   obtain ⟨afv30, cfv30, rfl⟩ := i31.form
   refine hK.out _ _ ⟨b110, b111, b150, b151⟩ (fun hHeld => ?_)
   clear hK K
   try simp only [Act.put, qa, qb, qc, qD, qE, qF]
   refine qTk (v := ?_) 15 rfl (.inl ⟨by rfl, ?_⟩) ?_
   rotate_left
   ·
    (intro w hSw; (try dsimp only at hSw); go_simp; try with_reducible rfl)
   try simp only [Act.put, qa, qb, qc, qD, qE, qF]
   have hw32 : IntKind.i64.wrap (((openA cells es).length : Int) - 1) = ((openA cells es).length : Int) - 1 := IntWalk.i64_in _ (by omega)
   refine qTk (v := ?_) 16 rfl (.inl ⟨by rfl, ?_⟩) ?_
   rotate_left
   ·
    (intro w hSw; (try dsimp only at hSw); go_simp; try with_reducible rfl)
   try simp only [Act.put, qa, qb, qc, qD, qE, qF]
   have hq33e : (((openA cells RE).length : Int) == (((openA cells es).length : Int) - 1 : Int)) = true := by have h7 : ((openA cells RE).length : Int) = (((openA cells es).length : Int) - 1 : Int) := hlen1.out; simpa using h7
   have hq33n : (((openA cells RE).length : Int) != (((openA cells es).length : Int) - 1 : Int)) = false := by have h7 : ((openA cells RE).length : Int) = (((openA cells es).length : Int) - 1 : Int) := hlen1.out; simpa using h7
   refine qTk (v := ?_) 17 rfl (.inl ⟨by rfl, ?_⟩) ?_
   rotate_left
   ·
    (intro w hSw; (try dsimp only at hSw); go_simp; try with_reducible rfl)
   try simp only [Act.put, qa, qb, qc, qD, qE, qF]
   refine qTk (v := ?_) 18 rfl (.inl ⟨by rfl, ?_⟩) ?_
   rotate_left
   ·
    (intro w hSw; (try dsimp only at hSw); go_simp; try with_reducible rfl)
   try simp only [Act.put, qa, qb, qc, qD, qE, qF]
   refine qTk (v := ?_) 19 rfl (.inl ⟨by rfl, ?_⟩) ?_
   rotate_left
   ·
    (intro w hSw; (try dsimp only at hSw); go_simp; try with_reducible rfl)
   try simp only [Act.put, qa, qb, qc, qD, qE, qF]
   refine qTk (v := ?_) 20 rfl (.inl ⟨by rfl, ?_⟩) ?_
   rotate_left
   ·
    (intro w hSw; (try dsimp only at hSw); go_simp; try with_reducible rfl)
   try simp only [Act.put, qa, qb, qc, qD, qE, qF]
   refine qTk (v := ?_) 21 rfl (.inl ⟨by rfl, ?_⟩) ?_
   rotate_left
   ·
    (intro w hSw; (try dsimp only at hSw); go_simp; try with_reducible rfl)
   try simp only [Act.put, qa, qb, qc, qD, qE, qF]
   refine qTk (v := ?_) 22 rfl (.inl ⟨by rfl, ?_⟩) ?_
   rotate_left
   ·
    (intro w hSw; (try dsimp only at hSw); go_simp; try with_reducible rfl)
   try simp only [Act.put, qa, qb, qc, qD, qE, qF]
   refine qTk (v := ?_) 23 rfl (.inl ⟨by rfl, ?_⟩) ?_
   rotate_left
   ·
    (intro w hSw; (try dsimp only at hSw); go_simp; try with_reducible rfl)
   try simp only [Act.put, qa, qb, qc, qD, qE, qF]
   refine wpTail_one (i := 24) qKr rfl rfl (fun K hK => ?_)
   try simp only [Act.put, qa, qb, qc, qD, qE, qF]
   go_simp
   refine (leqInts_c cells (.slice afb13 cells.length cfb13) (.slice p0 cells.length c0) _ _ _ (bf12.ints.ext qXt) (i1.ext qXt)).mono ?_
   rintro e w11 ⟨rfl, xw11⟩
   have Lw11 : Ext w10 w11 := Ext.trans qXt xw11
   have Xw11 : Ext w w11 := Xw10.trans Lw11
   replace b110 := Lw11.cell b110
   replace b111 := Lw11.cell b111
   replace b150 := Lw11.cell b150
   replace b151 := Lw11.cell b151
   replace b190 := Lw11.cell b190
   replace b191 := Lw11.cell b191
   replace b250 := Lw11.cell b250
   replace b251 := Lw11.cell b251
   have z_b11 : w1.heap.size < w11.heap.size := qB b110
   have z_b15 : w2.heap.size < w11.heap.size := qB b150
   have z_b19 : w3.heap.size < w11.heap.size := qB b190
   have z_b25 : w5.heap.size < w11.heap.size := qB b250
   replace i1 := i1.ext Lw11
   replace i2 := i2.ext Lw11
   replace bf12 := bf12.ext Lw11
   replace bf16 := bf16.ext Lw11
   replace bf20 := bf20.ext Lw11
   replace i27 := i27.ext Lw11
   replace i29 := i29.ext Lw11
   replace i31 := i31.ext Lw11
   have s_w11 : w.heap.size ≤ w11.heap.size := Xw11.size
   have BL24_w11 : Ext w4 w11 := BL24_w10.trans Lw11
   clear xw11
   refine hK.out _ _ ⟨b110, b111, b150, b151⟩ (fun hHeld => ?_)
   clear hK K
   try simp only [Act.put, qa, qb, qc, qD, qE, qF]
   refine qTk (v := ?_) 25 rfl (.inl ⟨by rfl, ?_⟩) ?_
   rotate_left
   ·
    (intro w hSw; (try dsimp only at hSw); go_simp; try with_reducible rfl)
   try simp only [Act.put, qa, qb, qc, qD, qE, qF]
   refine qTk (v := ?_) 26 rfl (.inl ⟨by rfl, ?_⟩) ?_
   rotate_left
   ·
    (intro w hSw; (try dsimp only at hSw); go_simp; try with_reducible rfl)
   try simp only [Act.put, qa, qb, qc, qD, qE, qF]
   refine qTk (v := ?_) 27 rfl (.inl ⟨by rfl, ?_⟩) ?_
   rotate_left
   ·
    (intro w hSw; (try dsimp only at hSw); go_simp; try with_reducible rfl)
   try simp only [Act.put, qa, qb, qc, qD, qE, qF]
   refine qTk (v := ?_) 28 rfl (.inl ⟨by rfl, ?_⟩) ?_
   rotate_left
   ·
    (intro w hSw; (try dsimp only at hSw); go_simp; try with_reducible rfl)
   try simp only [Act.put, qa, qb, qc, qD, qE, qF]
   refine wpTail_one (i := 29) qKr rfl rfl (fun K hK => ?_)
   try simp only [Act.put, qa, qb, qc, qD, qE, qF]
   go_simp
   refine (implLoadExport_c cells RE (.slice afb13 cells.length cfb13) (.slice efb13 RE.length dfb13) x _ _ _ (bf12.ints.ext qXt) (bf12.exps.ext qXt)).mono ?_
   rintro e w12 ⟨fv34, rfl, i35, -, xw12⟩
   have Lw12 : Ext w11 w12 := Ext.trans qXt xw12
   have Xw12 : Ext w w12 := Xw11.trans Lw12
   replace b110 := Lw12.cell b110
   replace b111 := Lw12.cell b111
   replace b150 := Lw12.cell b150
   replace b151 := Lw12.cell b151
   replace b190 := Lw12.cell b190
   replace b191 := Lw12.cell b191
   replace b250 := Lw12.cell b250
   replace b251 := Lw12.cell b251
   have z_b11 : w1.heap.size < w12.heap.size := qB b110
   have z_b15 : w2.heap.size < w12.heap.size := qB b150
   have z_b19 : w3.heap.size < w12.heap.size := qB b190
   have z_b25 : w5.heap.size < w12.heap.size := qB b250
   replace i1 := i1.ext Lw12
   replace i2 := i2.ext Lw12
   replace bf12 := bf12.ext Lw12
   replace bf16 := bf16.ext Lw12
   replace bf20 := bf20.ext Lw12
   replace i27 := i27.ext Lw12
   replace i29 := i29.ext Lw12
   replace i31 := i31.ext Lw12
   have s_w12 : w.heap.size ≤ w12.heap.size := Xw12.size
   have BL24_w12 : Ext w4 w12 := BL24_w11.trans Lw12
   clear xw12
   try simp only [World.size_alloc, World.size_drew] at i35
   obtain ⟨afv34, cfv34, rfl⟩ := i35.form
   refine hK.out _ _ ⟨b110, b111, b150, b151⟩ (fun hHeld => ?_)
   clear hK K
   try simp only [Act.put, qa, qb, qc, qD, qE, qF]
   refine qTk (v := ?_) 30 rfl (.inl ⟨by rfl, ?_⟩) ?_
   rotate_left
   ·
    (intro w hSw; (try dsimp only at hSw); go_simp; try with_reducible rfl)
   try simp only [Act.put, qa, qb, qc, qD, qE, qF]
   have hq36e : (((loadX cells RE x).length : Int) == (0 : Int)) = true := by have h7 : ((loadX cells RE x).length : Int) = (0 : Int) := (by rw [hld.out]; rfl); simpa using h7
   have hq36n : (((loadX cells RE x).length : Int) != (0 : Int)) = false := by have h7 : ((loadX cells RE x).length : Int) = (0 : Int) := (by rw [hld.out]; rfl); simpa using h7
   refine qTk (v := ?_) 31 rfl (.inl ⟨by rfl, ?_⟩) ?_
   rotate_left
   ·
    (intro w hSw; (try dsimp only at hSw); go_simp; try with_reducible rfl)
   try simp only [Act.put, qa, qb, qc, qD, qE, qF]
   refine qTk (v := ?_) 32 rfl (.inl ⟨by rfl, ?_⟩) ?_
   rotate_left
   ·
    (intro w hSw; (try dsimp only at hSw); go_simp; try with_reducible rfl)
   try simp only [Act.put, qa, qb, qc, qD, qE, qF]
   refine qTk (v := ?_) 33 rfl (.inl ⟨by rfl, ?_⟩) ?_
   rotate_left
   ·
    (intro w hSw; (try dsimp only at hSw); go_simp; try with_reducible rfl)
   try simp only [Act.put, qa, qb, qc, qD, qE, qF]
   refine wpTail_done qKr ?_ _
   clear hHeld hw32
   go_wp2_with fail
   go_ret
   exact ⟨rfl, (Xw12.trans qXt)⟩


end Go.Proofs.Ytgklaobfikbiiaa

/- The law FnReleaseExport holds for all bytes: the call returns true, and its argument reads as it did. No condition. -/
namespace Go.Proofs.Ytgklaobfikbiiaa.rowFnReleaseExport
open Go.ChangeShapes Go.WideShapes Go.ChangeAt Go.RowKit
set_option linter.unusedVariables false

set_option maxHeartbeats 1000000 in
set_option maxRecDepth 100000 in
theorem lifted (os : Os) (started : os.Started) (H : Type) (enc : TypeId × Value → H) :
    ReturnsInHanded {} Try.checked os 8 .any (Rows.fnReleaseExportSpec.pre6 enc Try.prog Try.f8 Rows.fnReleaseExportRow.domain false) (Rows.fnReleaseExportSpec.post enc Try.prog Try.f8 false true false false) := by
  refine returnsInHanded_of_change (C := Try.checked) own started qKr Try.func8
    (ChangeSpec.witness6 (enc := enc) (C := Try.checked) false ⟨#[], #[.slice none 0 0], []⟩ 8 qKr qKr qKr qKr) ?_
  intro W base args ds gs before hval0 hW hcnd _
  have hval : ∀ (j : Nat) t v, Try.f8.params[j]? = some t → args[j]? = some v → Value.okWide Try.prog W .any base t v := hval0
  have hW' := hW
  obtain ⟨p, q, hA0, hV, rfl, hfz, hnd⟩ := hW
  have hA : DataW.TrodAll enc Try.prog W 0 (fun _ => true) true Try.f8.params.toList args.toList ds p := hA0
  rw [Try.params8] at hA hval
  obtain ⟨v0, vs0, d0, ds0, p0, q0, hargs0, rfl, rfl, h0, r0⟩ := trodAll_cons hA
  obtain ⟨rfl, rfl, rfl⟩ := trodAll_nil r0
  obtain rfl : args = #[v0] := by cases args; simp_all
  obtain ⟨rfl, rfl⟩ := trodVars_none hV
  obtain ⟨a0, len0, cap0, rfl⟩ := okWide_slice Try.underlying22 (hval 0 22 v0 rfl rfl)
  have k0 := h0
  have lt0 : ∀ x ∈ p0, x.block < W.heap.size := by obtain ⟨m, hm⟩ := k0; exact DataW.trod_lt m _ _ _ hm
  have w0 : BysIn W a0 len0 cap0 := by
    obtain ⟨fuel, hf⟩ := h0
    rcases open_ints Try.underlying22 Try.underlying5 qKr hf with ⟨hcs, _⟩ | ⟨x, l, c, zs, hcs, _, hl, hm, hz, _, hcell, hwz⟩
    · simp [Value.cells] at hcs
      obtain ⟨rfl, rfl, rfl⟩ := hcs
      exact ⟨Nat.le_refl _, by simp, fun i hi => absurd hi (by simp)⟩
    · simp [Value.cells] at hcs
      obtain ⟨rfl, rfl, rfl⟩ := hcs
      have hzl : zs.length = cap0 := by simpa using hz
      exact bys_of_cells hl hm hzl hcell hwz
  clear hA0 hval0
  refine (lawFnReleaseExport_c a0 len0 cap0 W w0).mono fun e W' ⟨he, bel⟩ => ?_
  subst he
  exact ⟨_, rfl, _, _, _, [], _, [], hW', trodAll_mk1 (shut_bool Try.underlying4 _), (trodAll_cons_mk (Below.trod laidOut qKr (of_decide_eq_true qKr) k0 bel lt0) trodAll_mk0), rfl, Below.frame bel _, fun h => by cases h⟩

set_option maxHeartbeats 2000000 in
theorem closed : joinedFacts Try.checked.prog 8 Try.f8 Rows.fnReleaseExportSpec Rows.fnReleaseExportRow = true :=
  facts.all qKr qKr qKr qKr qKr (by as_aux_lemma => kernel_rfl) (by as_aux_lemma => kernel_rfl) (by as_aux_lemma => kernel_rfl) (by as_aux_lemma => kernel_rfl)
    (by as_aux_lemma => kernel_rfl) (by as_aux_lemma => kernel_rfl) rfl rfl rfl rfl qKr qKr (by as_aux_lemma => kernel_rfl) (by as_aux_lemma => kernel_rfl)

theorem named : Try.pinned.checked.prog.funcNamed Rows.fnReleaseExportRow.func = some 8 := by kernel_rfl

theorem over : Rows.fnReleaseExportRow.holds Try.pinned (OpenSpec.ofChange Rows.fnReleaseExportSpec) :=
  OpenClaim.holds_of_wide 8 Try.f8 rfl rfl rfl rfl rfl rfl rfl ⟨rfl, rfl, rfl, rfl, rfl⟩ rfl rfl rfl rfl rfl named Try.func8 closed
    (of_decide_eq_true qKr) (by unfold Func.isWrapper; exact ⟨rfl, rfl⟩)
    (fun os started H enc _ => lifted os started H enc)

theorem proved : Rows.FnReleaseExportSaid := over

end Go.Proofs.Ytgklaobfikbiiaa.rowFnReleaseExport
