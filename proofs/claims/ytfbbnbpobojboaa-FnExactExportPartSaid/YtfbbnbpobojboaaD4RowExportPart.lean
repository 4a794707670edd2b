/- Texts of these proofs put together: BufZ, LwE, BufT. No condition. -/
import Derived.Test.YtfbbnbpobojboaaD2RowExportPart
import Derived.Test.YtfbbnbpobojboaaD3RowExportPart
import Derived.Test.YtfbbnbpobojboaaM1
import Derived.Test.YtfbbnbpobojboaaD1RowExportPart
set_option linter.unusedVariables false
set_option linter.unusedSimpArgs false
/- Walks: ExportPart of both. -/
namespace Go.Proofs.Ytfbbnbpobojboaa
open Go.RowKit
set_option linter.unusedVariables false
set_option maxRecDepth 100000

set_option maxHeartbeats 6400000 in
theorem specExportPart_c (cells : List Int) (es : List Exp) (cv ev : Value) (i d F T B : Int) (hf ht : Bool) (w : World) (l1 l2 : Nat) (h1 : Ints w l1 cv cells) (h2 : Exps w l2 ev es) :
  Calls Try.prog 49 #[.agg #[cv, ev], .int .i64 i, .int .i64 d, .agg #[.int .i64 F, .int .i64 T, .int .i64 B, .bool hf, .bool ht]] w (PBX w (parA cells es i d F T B hf ht)) := by
 obtain ⟨p0, c0, rfl⟩ := h1.form
 obtain ⟨p1, c1, rfl⟩ := h2.form
 have he1 := h2.len
 have hc1 := h1.len
 go_enter Try.func49, Try.ntmps49
 go_wp2_with fail
 refine (validBuffer_c cells es (.slice p0 cells.length c0) (.slice p1 es.length c1) _ _ _ (h1.ext qXt) (h2.ext qXt)).mono ?_
 rintro e w1 ⟨rfl, xw1⟩
 have Lw1 : Ext w w1 := Ext.trans qXt xw1
 have Xw1 : Ext w w1 := Lw1
 have b10 : w1.cell? ⟨w.heap.size, 0, none⟩ = some (.slice p0 cells.length c0) := xw1.cell qCl
 have b11 : w1.cell? ⟨w.heap.size, 1, none⟩ = some (.slice p1 es.length c1) := xw1.cell qCl
 have b20 : w1.cell? ⟨w.heap.size + 1, 0, none⟩ = some (.int .i64 F) := xw1.cell qCl
 have b21 : w1.cell? ⟨w.heap.size + 1, 1, none⟩ = some (.int .i64 T) := xw1.cell qCl
 have b22 : w1.cell? ⟨w.heap.size + 1, 2, none⟩ = some (.int .i64 B) := xw1.cell qCl
 have b23 : w1.cell? ⟨w.heap.size + 1, 3, none⟩ = some (.bool hf) := xw1.cell qCl
 have b24 : w1.cell? ⟨w.heap.size + 1, 4, none⟩ = some (.bool ht) := xw1.cell qCl
 have b30 : w1.cell? ⟨w.heap.size + 1 + 1, 0, none⟩ = some (.slice none 0 0) := xw1.cell qCl
 have b31 : w1.cell? ⟨w.heap.size + 1 + 1, 1, none⟩ = some (.slice none 0 0) := xw1.cell qCl
 have f_b30 : w1.frozen? ⟨w.heap.size + 1 + 1, 0, none⟩ = false := xw1.frz (by simp <;> omega) qFz
 have f_b31 : w1.frozen? ⟨w.heap.size + 1 + 1, 1, none⟩ = false := xw1.frz (by simp <;> omega) qFz
 have z_b1 : w.heap.size < w1.heap.size := qB b10
 have z_b2 : w.heap.size + 1 < w1.heap.size := qB b20
 have z_b3 : w.heap.size + 1 + 1 < w1.heap.size := qB b30
 have s_w1 : w.heap.size ≤ w1.heap.size := Xw1.size
 clear xw1
 cases hB4 : bufB cells es
 ·
  replace hB4 := Lib.hid hB4
  go_wp2_with fail
  generalize hW1 : ((w1.setCell ⟨w.heap.size + 1 + 1, 0, none⟩ (.slice none 0 0)).setCell ⟨w.heap.size + 1 + 1, 1, none⟩ (.slice none 0 0)) = w2 at *
  have Kw2 : Chg (w.heap.size + 1 + 1) (w.heap.size + 1 + 1 + 1) w1 w2 := by subst hW1; exact qCh
  have Xw2 : Ext w w2 := by subst hW1; exact qXt
  replace b10 := Kw2.cell (by omega) b10
  replace b11 := Kw2.cell (by omega) b11
  replace b20 := Kw2.cell (by omega) b20
  replace b21 := Kw2.cell (by omega) b21
  replace b22 := Kw2.cell (by omega) b22
  replace b23 := Kw2.cell (by omega) b23
  replace b24 := Kw2.cell (by omega) b24
  replace b30 : w2.cell? ⟨w.heap.size + 1 + 1, 0, none⟩ = some (.slice none 0 0) := by subst hW1; go_simp
  replace f_b30 : w2.frozen? ⟨w.heap.size + 1 + 1, 0, none⟩ = false := by subst hW1; first | (simp only [World.frozen?_setCell]; with_reducible assumption) | go_simp
  replace b31 : w2.cell? ⟨w.heap.size + 1 + 1, 1, none⟩ = some (.slice none 0 0) := by subst hW1; go_simp
  replace f_b31 : w2.frozen? ⟨w.heap.size + 1 + 1, 1, none⟩ = false := by subst hW1; first | (simp only [World.frozen?_setCell]; with_reducible assumption) | go_simp
  clear Kw2
  have z_b1 : w.heap.size < w2.heap.size := qB b10
  have z_b2 : w.heap.size + 1 < w2.heap.size := qB b20
  have z_b3 : w.heap.size + 1 + 1 < w2.heap.size := qB b30
  have s_w2 : w.heap.size ≤ w2.heap.size := Xw2.size
  clear hW1
  refine bodyPost_ret (v := .tuple #[.agg #[.slice none 0 0, .slice none 0 0], .bool false]) (by simp only [results, Try.results49]; go_simp) rfl ?_
  exact PBX.no (by unfold parA; rw [(show (bufB cells es && opB es i) = false by rw [hB4.out]; rfl), Bool.false_and, Bool.false_and]; rfl) (Xw2.trans qXt)
 ·
  replace hB4 := Lib.hid hB4
  have hbb : Hid (bufB cells es = true) := Lib.hid hB4.out
  go_wp2_with fail
  refine (specIsOpen_c cells es (.slice p0 cells.length c0) (.slice p1 es.length c1) i _ _ _ (h1.ext (Xw1.trans qXt)) (h2.ext (Xw1.trans qXt))).mono ?_
  rintro e w2 ⟨rfl, xw2⟩
  have Lw2 : Ext w1 w2 := Ext.trans qXt xw2
  have Xw2 : Ext w w2 := Xw1.trans Lw2
  replace b10 := Lw2.cell b10
  replace b11 := Lw2.cell b11
  replace b20 := Lw2.cell b20
  replace b21 := Lw2.cell b21
  replace b22 := Lw2.cell b22
  replace b23 := Lw2.cell b23
  replace b24 := Lw2.cell b24
  replace b30 := Lw2.cell b30
  replace b31 := Lw2.cell b31
  replace f_b30 := Lw2.frz z_b3 f_b30
  replace f_b31 := Lw2.frz z_b3 f_b31
  have z_b1 : w.heap.size < w2.heap.size := qB b10
  have z_b2 : w.heap.size + 1 < w2.heap.size := qB b20
  have z_b3 : w.heap.size + 1 + 1 < w2.heap.size := qB b30
  have s_w2 : w.heap.size ≤ w2.heap.size := Xw2.size
  clear xw2
  cases hB5 : opB es i
  ·
   replace hB5 := Lib.hid hB5
   go_wp2_with fail
   generalize hW2 : ((w2.setCell ⟨w.heap.size + 1 + 1, 0, none⟩ (.slice none 0 0)).setCell ⟨w.heap.size + 1 + 1, 1, none⟩ (.slice none 0 0)) = w3 at *
   have Kw3 : Chg (w.heap.size + 1 + 1) (w.heap.size + 1 + 1 + 1) w2 w3 := by subst hW2; exact qCh
   have Xw3 : Ext w w3 := by subst hW2; exact qXt
   replace b10 := Kw3.cell (by omega) b10
   replace b11 := Kw3.cell (by omega) b11
   replace b20 := Kw3.cell (by omega) b20
   replace b21 := Kw3.cell (by omega) b21
   replace b22 := Kw3.cell (by omega) b22
   replace b23 := Kw3.cell (by omega) b23
   replace b24 := Kw3.cell (by omega) b24
   replace b30 : w3.cell? ⟨w.heap.size + 1 + 1, 0, none⟩ = some (.slice none 0 0) := by subst hW2; go_simp
   replace f_b30 : w3.frozen? ⟨w.heap.size + 1 + 1, 0, none⟩ = false := by subst hW2; first | (simp only [World.frozen?_setCell]; with_reducible assumption) | go_simp
   replace b31 : w3.cell? ⟨w.heap.size + 1 + 1, 1, none⟩ = some (.slice none 0 0) := by subst hW2; go_simp
   replace f_b31 : w3.frozen? ⟨w.heap.size + 1 + 1, 1, none⟩ = false := by subst hW2; first | (simp only [World.frozen?_setCell]; with_reducible assumption) | go_simp
   clear Kw3
   have z_b1 : w.heap.size < w3.heap.size := qB b10
   have z_b2 : w.heap.size + 1 < w3.heap.size := qB b20
   have z_b3 : w.heap.size + 1 + 1 < w3.heap.size := qB b30
   have s_w3 : w.heap.size ≤ w3.heap.size := Xw3.size
   clear hW2
   refine bodyPost_ret (v := .tuple #[.agg #[.slice none 0 0, .slice none 0 0], .bool false]) (by simp only [results, Try.results49]; go_simp) rfl ?_
   exact PBX.no (by unfold parA; rw [(show (bufB cells es && opB es i) = false by rw [hB5.out, Bool.and_false]), Bool.false_and, Bool.false_and]; rfl) (Xw3.trans qXt)
  ·
   replace hB5 := Lib.hid hB5
   have hop : Hid (opB es i = true) := Lib.hid hB5.out
   obtain ⟨hi0, hi1, hi2⟩ := opB_in hop.out
   obtain ⟨k, rfl⟩ : ∃ k : Nat, i = k := ⟨i.toNat, by omega⟩
   have hlt : k < es.length := by omega
   have hesne : Hid (es ≠ []) := Lib.hid (fun h => by rw [h] at hlt; exact absurd hlt (by simp))
   replace hi2 := Lib.hid hi2
   by_cases hc6 : (es.length : Int) = (8 : Int)
   ·
    have hc6e : ((es.length : Int) == (8 : Int)) = true := by simpa using hc6
    have hc6n : ((es.length : Int) != (8 : Int)) = false := by simpa using hc6
    replace hc6 := Lib.hid hc6
    go_wp2_with fail
    generalize hW3 : ((w2.setCell ⟨w.heap.size + 1 + 1, 0, none⟩ (.slice none 0 0)).setCell ⟨w.heap.size + 1 + 1, 1, none⟩ (.slice none 0 0)) = w3 at *
    have Kw3 : Chg (w.heap.size + 1 + 1) (w.heap.size + 1 + 1 + 1) w2 w3 := by subst hW3; exact qCh
    have Xw3 : Ext w w3 := by subst hW3; exact qXt
    replace b10 := Kw3.cell (by omega) b10
    replace b11 := Kw3.cell (by omega) b11
    replace b20 := Kw3.cell (by omega) b20
    replace b21 := Kw3.cell (by omega) b21
    replace b22 := Kw3.cell (by omega) b22
    replace b23 := Kw3.cell (by omega) b23
    replace b24 := Kw3.cell (by omega) b24
    replace b30 : w3.cell? ⟨w.heap.size + 1 + 1, 0, none⟩ = some (.slice none 0 0) := by subst hW3; go_simp
    replace f_b30 : w3.frozen? ⟨w.heap.size + 1 + 1, 0, none⟩ = false := by subst hW3; first | (simp only [World.frozen?_setCell]; with_reducible assumption) | go_simp
    replace b31 : w3.cell? ⟨w.heap.size + 1 + 1, 1, none⟩ = some (.slice none 0 0) := by subst hW3; go_simp
    replace f_b31 : w3.frozen? ⟨w.heap.size + 1 + 1, 1, none⟩ = false := by subst hW3; first | (simp only [World.frozen?_setCell]; with_reducible assumption) | go_simp
    clear Kw3
    have z_b1 : w.heap.size < w3.heap.size := qB b10
    have z_b2 : w.heap.size + 1 < w3.heap.size := qB b20
    have z_b3 : w.heap.size + 1 + 1 < w3.heap.size := qB b30
    have s_w3 : w.heap.size ≤ w3.heap.size := Xw3.size
    clear hW3
    refine bodyPost_ret (v := .tuple #[.agg #[.slice none 0 0, .slice none 0 0], .bool false]) (by simp only [results, Try.results49]; go_simp) rfl ?_
    exact PBX.no (by unfold parA; rw [decide_eq_false (show ¬ es.length < 8 from (by have h7 := hc6.out; omega)), Bool.and_false, Bool.false_and]; rfl) (Xw3.trans qXt)
   ·
    have hc6e : ((es.length : Int) == (8 : Int)) = false := by simpa using hc6
    have hc6n : ((es.length : Int) != (8 : Int)) = true := by simpa using hc6
    replace hc6 := Lib.hid hc6
    go_wp2_with fail
    have hN_x7 : k < es.length := hlt
    have hI_x7 : (k : Int) < (es.length : Int) := by omega
    obtain ⟨bl20, ol21, u14, c15, u16, c17, rfl, x70, x71, x72, x73, x74, i18, i19⟩ := h2.at k hN_x7
    obtain ⟨X13, hX13⟩ : ∃ x, expAt es k = x := ⟨_, rfl⟩
    rw [hX13] at x70 x71 x72 x73 x74 i18 i19
    obtain ⟨P8, B9, S10, T11, O12⟩ := X13
    dsimp only at x70 x71 x72 x73 x74 i18 i19
    replace hX13 := Lib.hid hX13
    have hLS10 := i18.len
    have hLT11 := i19.len
    have y_x7 : bl20 < w.heap.size := qB x70
    replace x70 := Xw2.cell x70
    replace x71 := Xw2.cell x71
    replace x72 := Xw2.cell x72
    replace x73 := Xw2.cell x73
    replace x74 := Xw2.cell x74
    have z_x7 : bl20 < w2.heap.size := qB x70
    have h88 := (bufB_in hbb.out).2.2.1
    obtain ⟨PB, PS, PT, PO, hP⟩ : ∃ PB PS PT PO, sliceV B9 S10 T11 d F T B hf ht = (PB, PS, PT, PO) := ⟨_, _, _, _, rfl⟩
    have hpl : PS.length ≤ 4 ∧ PT.length ≤ 4 := by have h7 := sliceV_fit B9 S10 T11 d F T B hf ht; rw [hP] at h7; exact ⟨h7.2, by have h8 := h7.1; have h9 := h7.2; dsimp only at h8 h9; omega⟩
    obtain ⟨hpl1, hpl2⟩ := hpl
    replace hP := Lib.hid hP
    cases PO
    ·
     go_wp2_with fail
     go_cut [10, 11] (fun s10 s11 wx => ∃ (g : Nat) (afv22u : Option Addr) (cfv22u : Nat) (afv22v : Option Addr) (cfv22v : Nat), s10 = .pointer (some ⟨g, 0, none⟩) ∧ s11 = .bool false ∧ Ext w2 wx ∧ w2.heap.size ≤ g ∧ wx.cell? ⟨g, 0, none⟩ = some (.int .i64 PB) ∧ wx.cell? ⟨g, 1, none⟩ = some (.slice afv22u PS.length cfv22u) ∧ wx.cell? ⟨g, 2, none⟩ = some (.slice afv22v PT.length cfv22v) ∧ wx.frozen? ⟨g, 0, none⟩ = false ∧ wx.frozen? ⟨g, 1, none⟩ = false ∧ wx.frozen? ⟨g, 2, none⟩ = false ∧ Ints wx w2.heap.size (.slice afv22u PS.length cfv22u) PS ∧ Ints wx w2.heap.size (.slice afv22v PT.length cfv22v) PT)
     case first =>
      have BD3 : Ext w2 w2 := Ext.refl _
      refine wp_region_held_drew (S := fun w' => w'.cell? ⟨w.heap.size, 0, none⟩ = some (.slice p0 cells.length c0) ∧ w'.cell? ⟨w.heap.size, 1, none⟩ = some (.slice (some ⟨bl20, ol21, none⟩) es.length c1) ∧ w'.cell? ⟨w.heap.size + 1, 0, none⟩ = some (.int .i64 F) ∧ w'.cell? ⟨w.heap.size + 1, 1, none⟩ = some (.int .i64 T) ∧ w'.cell? ⟨w.heap.size + 1, 2, none⟩ = some (.int .i64 B) ∧ w'.cell? ⟨w.heap.size + 1, 3, none⟩ = some (.bool hf) ∧ w'.cell? ⟨w.heap.size + 1, 4, none⟩ = some (.bool ht) ∧ w'.cell? ⟨w.heap.size + 1 + 1, 0, none⟩ = some (.slice none 0 0) ∧ w'.cell? ⟨w.heap.size + 1 + 1, 1, none⟩ = some (.slice none 0 0) ∧ w'.cell? ⟨bl20, ol21 + k * 5, none⟩ = some (.int .i64 P8) ∧ w'.cell? ⟨bl20, ol21 + k * 5 + 1, none⟩ = some (.int .i64 B9) ∧ w'.cell? ⟨bl20, ol21 + k * 5 + 2, none⟩ = some (.slice u14 S10.length c15) ∧ w'.cell? ⟨bl20, ol21 + k * 5 + 3, none⟩ = some (.slice u16 T11.length c17) ∧ w'.cell? ⟨bl20, ol21 + k * 5 + 4, none⟩ = some (.bool O12)) qKr ⟨b10, b11, b20, b21, b22, b23, b24, b30, b31, x70, x71, x72, x73, x74⟩ (fun hHeld => ?_)
      refine qHk (v := ?_) 0 rfl (.inl ⟨by rfl, ?_⟩) ?_
      rotate_left
      ·
       (intro w hSw; (try dsimp only at hSw); go_simp; try with_reducible rfl)
      try simp only [Act.put, qa, qb, qc, qD, qE, qF]
      refine qHk (v := ?_) 1 rfl (.inl ⟨by rfl, ?_⟩) ?_
      rotate_left
      ·
       (intro w hSw; (try dsimp only at hSw); go_simp; try with_reducible rfl)
      try simp only [Act.put, qa, qb, qc, qD, qE, qF]
      refine qHk (v := ?_) 2 rfl (.inl ⟨by rfl, ?_⟩) ?_
      rotate_left
      ·
       (intro w hSw; (try dsimp only at hSw); go_simp; try with_reducible rfl)
      try simp only [Act.put, qa, qb, qc, qD, qE, qF]
      refine qHk (v := ?_) 3 rfl (.inl ⟨by rfl, ?_⟩) ?_
      rotate_left
      ·
       (intro w hSw; (try dsimp only at hSw); go_simp; try with_reducible rfl)
      try simp only [Act.put, qa, qb, qc, qD, qE, qF]
      refine qHk (v := ?_) 4 rfl (.inl ⟨by rfl, ?_⟩) ?_
      rotate_left
      ·
       (intro w hSw; (try dsimp only at hSw); go_simp; try with_reducible rfl)
      try simp only [Act.put, qa, qb, qc, qD, qE, qF]
      refine qHk (v := ?_) 5 rfl (.inl ⟨by rfl, ?_⟩) ?_
      rotate_left
      ·
       (intro w hSw; (try dsimp only at hSw); go_simp; try with_reducible rfl)
      try simp only [Act.put, qa, qb, qc, qD, qE, qF]
      refine qHk (v := ?_) 6 rfl (.inl ⟨by rfl, ?_⟩) ?_
      rotate_left
      ·
       (intro w hSw; (try dsimp only at hSw); go_simp; try with_reducible rfl)
      try simp only [Act.put, qa, qb, qc, qD, qE, qF]
      refine qHk (v := ?_) 7 rfl (.inl ⟨by rfl, ?_⟩) ?_
      rotate_left
      ·
       (intro w hSw; (try dsimp only at hSw); go_simp; try with_reducible rfl)
      try simp only [Act.put, qa, qb, qc, qD, qE, qF]
      refine wpAnyH_ready (rs := [8, 12]) qKr (by simp) ?_
      refine AllReadyH.cons rfl (fun K hK => ?_) (AllReadyH.cons rfl (fun K hK => ?_) AllReadyH.nil)
      ·
       try simp only [Act.put, qa, qb, qc, qD, qE, qF]
       go_simp
       refine (pv_eq hP.out (specSliceDim_c B9 (.slice u14 S10.length c15) (.slice u16 T11.length c17) S10 T11 d F T B hf ht _ _ _ (i18.ext (Xw2.trans qXt)) (i19.ext (Xw2.trans qXt)))).mono ?_
       rintro e w3 ⟨fv22u, fv22v, rfl, i23u, i23v, -, -, -, xw3⟩
       have Lw3 : Ext w2 w3 := Ext.trans qXt xw3
       have Xw3 : Ext w w3 := Xw2.trans Lw3
       replace b10 := Lw3.cell b10
       replace b11 := Lw3.cell b11
       replace b20 := Lw3.cell b20
       replace b21 := Lw3.cell b21
       replace b22 := Lw3.cell b22
       replace b23 := Lw3.cell b23
       replace b24 := Lw3.cell b24
       replace b30 := Lw3.cell b30
       replace b31 := Lw3.cell b31
       replace f_b30 := Lw3.frz z_b3 f_b30
       replace f_b31 := Lw3.frz z_b3 f_b31
       replace x70 := Lw3.cell x70
       replace x71 := Lw3.cell x71
       replace x72 := Lw3.cell x72
       replace x73 := Lw3.cell x73
       replace x74 := Lw3.cell x74
       have z_b1 : w.heap.size < w3.heap.size := qB b10
       have z_b2 : w.heap.size + 1 < w3.heap.size := qB b20
       have z_b3 : w.heap.size + 1 + 1 < w3.heap.size := qB b30
       have z_x7 : bl20 < w3.heap.size := qB x70
       have s_w3 : w.heap.size ≤ w3.heap.size := Xw3.size
       have BD3_w3 : Ext w2 w3 := BD3.trans Lw3
       clear xw3
       try simp only [World.size_alloc, World.size_drew] at i23u
       try simp only [World.size_alloc, World.size_drew] at i23v
       obtain ⟨afv22u, cfv22u, rfl⟩ := i23u.form
       obtain ⟨afv22v, cfv22v, rfl⟩ := i23v.form
       have zD_w3 := (BD3_w3).size
       refine hK.out _ _ ⟨b10, b11, b20, b21, b22, b23, b24, b30, b31, x70, x71, x72, x73, x74⟩ (fun hHeld => ?_)
       clear hK K
       try simp only [Act.put, qa, qb, qc, qD, qE, qF]
       refine qHk (v := ?_) 9 rfl (.inl ⟨by rfl, ?_⟩) ?_
       rotate_left
       ·
        (intro w hSw; (try dsimp only at hSw); go_simp; try with_reducible rfl)
       try simp only [Act.put, qa, qb, qc, qD, qE, qF]
       refine qHk (v := ?_) 10 rfl (.inl ⟨by rfl, ?_⟩) ?_
       rotate_left
       ·
        (intro w hSw; (try dsimp only at hSw); go_simp; try with_reducible rfl)
       try simp only [Act.put, qa, qb, qc, qD, qE, qF]
       refine qHk (v := ?_) 11 rfl (.inl ⟨by rfl, ?_⟩) ?_
       rotate_left
       ·
        (intro w hSw; (try dsimp only at hSw); go_simp; try with_reducible rfl)
       try simp only [Act.put, qa, qb, qc, qD, qE, qF]
       refine qHr 12 rfl (fun K hK => ?_)
       try simp only [Act.put, qa, qb, qc, qD, qE, qF]
       go_simp
       have Q24_b10 := Lib.hid b10
       have Q24_b11 := Lib.hid b11
       have Q24_zb1 := z_b1
       have Q24_b20 := Lib.hid b20
       have Q24_b21 := Lib.hid b21
       have Q24_b22 := Lib.hid b22
       have Q24_b23 := Lib.hid b23
       have Q24_b24 := Lib.hid b24
       have Q24_zb2 := z_b2
       have Q24_b30 := Lib.hid b30
       have Q24_f_b30 := Lib.hid f_b30
       have Q24_b31 := Lib.hid b31
       have Q24_f_b31 := Lib.hid f_b31
       have Q24_zb3 := z_b3
       have Q24_x70 := Lib.hid x70
       have Q24_x71 := Lib.hid x71
       have Q24_x72 := Lib.hid x72
       have Q24_x73 := Lib.hid x73
       have Q24_x74 := Lib.hid x74
       have Q24_zx7 := z_x7
       have Q24_i23u := Lib.hid i23u
       have Q24_i23v := Lib.hid i23v
       have BL25 : Ext w3 w3 := Ext.refl _
       have Q26_b10 := Lib.hid b10
       have Q26_b11 := Lib.hid b11
       have Q26_zb1 := z_b1
       have Q26_b20 := Lib.hid b20
       have Q26_b21 := Lib.hid b21
       have Q26_b22 := Lib.hid b22
       have Q26_b23 := Lib.hid b23
       have Q26_b24 := Lib.hid b24
       have Q26_zb2 := z_b2
       have Q26_b30 := Lib.hid b30
       have Q26_f_b30 := Lib.hid f_b30
       have Q26_b31 := Lib.hid b31
       have Q26_f_b31 := Lib.hid f_b31
       have Q26_zb3 := z_b3
       have Q26_x70 := Lib.hid x70
       have Q26_x71 := Lib.hid x71
       have Q26_x72 := Lib.hid x72
       have Q26_x73 := Lib.hid x73
       have Q26_x74 := Lib.hid x74
       have Q26_zx7 := z_x7
       have Q26_i23u := Lib.hid i23u
       have Q26_i23v := Lib.hid i23v
       have BL27 : Ext w3 w3 := Ext.refl _
       refine hK.out _ _ ⟨(show Ext w3 _ from qXt).cell b10, (show Ext w3 _ from qXt).cell b11, (show Ext w3 _ from qXt).cell b20, (show Ext w3 _ from qXt).cell b21, (show Ext w3 _ from qXt).cell b22, (show Ext w3 _ from qXt).cell b23, (show Ext w3 _ from qXt).cell b24, (show Ext w3 _ from qXt).cell b30, (show Ext w3 _ from qXt).cell b31, (show Ext w3 _ from qXt).cell x70, (show Ext w3 _ from qXt).cell x71, (show Ext w3 _ from qXt).cell x72, (show Ext w3 _ from qXt).cell x73, (show Ext w3 _ from qXt).cell x74⟩ (fun hHeld => ?_)
       clear hK K
       try simp only [Act.put, qa, qb, qc, qD, qE, qF]
       refine qHr 13 rfl (fun K hK => ?_)
       try simp only [Act.put, qa, qb, qc, qD, qE, qF]
       go_simp
       have zn_BD3_w4 := (BD3_w3).size
       have zn_BL25_w4 := (BL25).size
       have zn_BL27_w4 := (BL27).size
       generalize hW4 : w3.alloc (.cells #[.int .i64 PB, .slice afv22u PS.length cfv22u, .slice afv22v PT.length cfv22v] 36) = w4 at *
       have Lw4 : Ext w3 w4 := by subst hW4; exact qXt
       have Xw4 : Ext w w4 := Xw3.trans Lw4
       replace b10 := Lw4.cell b10
       replace b11 := Lw4.cell b11
       replace b20 := Lw4.cell b20
       replace b21 := Lw4.cell b21
       replace b22 := Lw4.cell b22
       replace b23 := Lw4.cell b23
       replace b24 := Lw4.cell b24
       replace b30 := Lw4.cell b30
       replace b31 := Lw4.cell b31
       replace f_b30 := Lw4.frz z_b3 f_b30
       replace f_b31 := Lw4.frz z_b3 f_b31
       replace x70 := Lw4.cell x70
       replace x71 := Lw4.cell x71
       replace x72 := Lw4.cell x72
       replace x73 := Lw4.cell x73
       replace x74 := Lw4.cell x74
       have b280 : w4.cell? ⟨w3.heap.size, 0, none⟩ = some (.int .i64 PB) := by subst hW4; exact qCl
       have b281 : w4.cell? ⟨w3.heap.size, 1, none⟩ = some (.slice afv22u PS.length cfv22u) := by subst hW4; exact qCl
       have b282 : w4.cell? ⟨w3.heap.size, 2, none⟩ = some (.slice afv22v PT.length cfv22v) := by subst hW4; exact qCl
       have f_b280 : w4.frozen? ⟨w3.heap.size, 0, none⟩ = false := by subst hW4; exact qFz
       have f_b281 : w4.frozen? ⟨w3.heap.size, 1, none⟩ = false := by subst hW4; exact qFz
       have f_b282 : w4.frozen? ⟨w3.heap.size, 2, none⟩ = false := by subst hW4; exact qFz
       have z_b1 : w.heap.size < w4.heap.size := qB b10
       have z_b2 : w.heap.size + 1 < w4.heap.size := qB b20
       have z_b3 : w.heap.size + 1 + 1 < w4.heap.size := qB b30
       have z_x7 : bl20 < w4.heap.size := qB x70
       have z_b28 : w3.heap.size < w4.heap.size := qB b280
       replace i23u := i23u.ext Lw4
       replace i23v := i23v.ext Lw4
       have s_w4 : w.heap.size ≤ w4.heap.size := Xw4.size
       have BD3_w4 : Ext w2 w4 := BD3_w3.trans Lw4
       have BL25_w4 : Ext w3 w4 := BL25.trans Lw4
       have BL27_w4 : Ext w3 w4 := BL27.trans Lw4
       clear hW4
       refine hK.out _ _ ⟨b10, b11, b20, b21, b22, b23, b24, b30, b31, x70, x71, x72, x73, x74⟩ (fun hHeld => ?_)
       clear hK K
       try simp only [Act.put, qa, qb, qc, qD, qE, qF]
       refine qHk (v := ?_) 14 rfl (.inl ⟨by rfl, ?_⟩) ?_
       rotate_left
       ·
        (intro w hSw; (try dsimp only at hSw); go_simp; try with_reducible rfl)
       try simp only [Act.put, qa, qb, qc, qD, qE, qF]
       refine wpAnyH_done qKr ?_ _
       clear hHeld
       go_step
       go_step
       go_meet
       case rel => exact ⟨_, _, _, _, _, rfl, rfl, BD3_w4, (by omega), b280, b281, b282, f_b280, f_b281, f_b282, i23u.lower (by omega), i23v.lower (by omega)⟩
      ·
       try simp only [Act.put, qa, qb, qc, qD, qE, qF]
       go_simp
       have Q29_b10 := Lib.hid b10
       have Q29_b11 := Lib.hid b11
       have Q29_zb1 := z_b1
       have Q29_b20 := Lib.hid b20
       have Q29_b21 := Lib.hid b21
       have Q29_b22 := Lib.hid b22
       have Q29_b23 := Lib.hid b23
       have Q29_b24 := Lib.hid b24
       have Q29_zb2 := z_b2
       have Q29_b30 := Lib.hid b30
       have Q29_f_b30 := Lib.hid f_b30
       have Q29_b31 := Lib.hid b31
       have Q29_f_b31 := Lib.hid f_b31
       have Q29_zb3 := z_b3
       have Q29_x70 := Lib.hid x70
       have Q29_x71 := Lib.hid x71
       have Q29_x72 := Lib.hid x72
       have Q29_x73 := Lib.hid x73
       have Q29_x74 := Lib.hid x74
       have Q29_zx7 := z_x7
       have BL30 : Ext w2 w2 := Ext.refl _
       refine hK.out _ _ ⟨(show Ext w2 _ from qXt).cell b10, (show Ext w2 _ from qXt).cell b11, (show Ext w2 _ from qXt).cell b20, (show Ext w2 _ from qXt).cell b21, (show Ext w2 _ from qXt).cell b22, (show Ext w2 _ from qXt).cell b23, (show Ext w2 _ from qXt).cell b24, (show Ext w2 _ from qXt).cell b30, (show Ext w2 _ from qXt).cell b31, (show Ext w2 _ from qXt).cell x70, (show Ext w2 _ from qXt).cell x71, (show Ext w2 _ from qXt).cell x72, (show Ext w2 _ from qXt).cell x73, (show Ext w2 _ from qXt).cell x74⟩ (fun hHeld => ?_)
       clear hK K
       try simp only [Act.put, qa, qb, qc, qD, qE, qF]
       refine qHr 8 rfl (fun K hK => ?_)
       try simp only [Act.put, qa, qb, qc, qD, qE, qF]
       go_simp
       refine (pv_eq hP.out (specSliceDim_c B9 (.slice u14 S10.length c15) (.slice u16 T11.length c17) S10 T11 d F T B hf ht _ _ _ (i18.ext (Xw2.trans qXt)) (i19.ext (Xw2.trans qXt)))).mono ?_
       rintro e w3 ⟨fv32u, fv32v, rfl, i33u, i33v, -, -, -, xw3⟩
       have Lw3 : Ext w2 w3 := Ext.trans qXt xw3
       have Xw3 : Ext w w3 := Xw2.trans Lw3
       replace b10 := Lw3.cell b10
       replace b11 := Lw3.cell b11
       replace b20 := Lw3.cell b20
       replace b21 := Lw3.cell b21
       replace b22 := Lw3.cell b22
       replace b23 := Lw3.cell b23
       replace b24 := Lw3.cell b24
       replace b30 := Lw3.cell b30
       replace b31 := Lw3.cell b31
       replace f_b30 := Lw3.frz z_b3 f_b30
       replace f_b31 := Lw3.frz z_b3 f_b31
       replace x70 := Lw3.cell x70
       replace x71 := Lw3.cell x71
       replace x72 := Lw3.cell x72
       replace x73 := Lw3.cell x73
       replace x74 := Lw3.cell x74
       have b310 : w3.cell? ⟨w2.heap.size, 0, none⟩ = some (.int .i64 0) := xw3.cell qCl
       have b311 : w3.cell? ⟨w2.heap.size, 1, none⟩ = some (.slice none 0 0) := xw3.cell qCl
       have b312 : w3.cell? ⟨w2.heap.size, 2, none⟩ = some (.slice none 0 0) := xw3.cell qCl
       have f_b310 : w3.frozen? ⟨w2.heap.size, 0, none⟩ = false := xw3.frz (by simp <;> omega) qFz
       have f_b311 : w3.frozen? ⟨w2.heap.size, 1, none⟩ = false := xw3.frz (by simp <;> omega) qFz
       have f_b312 : w3.frozen? ⟨w2.heap.size, 2, none⟩ = false := xw3.frz (by simp <;> omega) qFz
       have z_b1 : w.heap.size < w3.heap.size := qB b10
       have z_b2 : w.heap.size + 1 < w3.heap.size := qB b20
       have z_b3 : w.heap.size + 1 + 1 < w3.heap.size := qB b30
       have z_x7 : bl20 < w3.heap.size := qB x70
       have z_b31 : w2.heap.size < w3.heap.size := qB b310
       have s_w3 : w.heap.size ≤ w3.heap.size := Xw3.size
       have BD3_w3 : Ext w2 w3 := BD3.trans Lw3
       have BL30_w3 : Ext w2 w3 := BL30.trans Lw3
       clear xw3
       try simp only [World.size_alloc, World.size_drew] at i33u
       try simp only [World.size_alloc, World.size_drew] at i33v
       obtain ⟨afv32u, cfv32u, rfl⟩ := i33u.form
       obtain ⟨afv32v, cfv32v, rfl⟩ := i33v.form
       have zD_w3 := (BD3_w3).size
       refine hK.out _ _ ⟨b10, b11, b20, b21, b22, b23, b24, b30, b31, x70, x71, x72, x73, x74⟩ (fun hHeld => ?_)
       clear hK K
       try simp only [Act.put, qa, qb, qc, qD, qE, qF]
       refine qHk (v := ?_) 9 rfl (.inl ⟨by rfl, ?_⟩) ?_
       rotate_left
       ·
        (intro w hSw; (try dsimp only at hSw); go_simp; try with_reducible rfl)
       try simp only [Act.put, qa, qb, qc, qD, qE, qF]
       refine qHk (v := ?_) 10 rfl (.inl ⟨by rfl, ?_⟩) ?_
       rotate_left
       ·
        (intro w hSw; (try dsimp only at hSw); go_simp; try with_reducible rfl)
       try simp only [Act.put, qa, qb, qc, qD, qE, qF]
       refine qHk (v := ?_) 11 rfl (.inl ⟨by rfl, ?_⟩) ?_
       rotate_left
       ·
        (intro w hSw; (try dsimp only at hSw); go_simp; try with_reducible rfl)
       try simp only [Act.put, qa, qb, qc, qD, qE, qF]
       refine qHr 13 rfl (fun K hK => ?_)
       try simp only [Act.put, qa, qb, qc, qD, qE, qF]
       go_simp
       generalize hW5 : (((w3.setCell ⟨w2.heap.size, 0, none⟩ (.int .i64 PB)).setCell ⟨w2.heap.size, 1, none⟩ (.slice afv32u PS.length cfv32u)).setCell ⟨w2.heap.size, 2, none⟩ (.slice afv32v PT.length cfv32v)) = w4 at *
       have Kw4 : Chg (w2.heap.size) (w2.heap.size + 1) w3 w4 := by subst hW5; exact qCh
       have Xw4 : Ext w w4 := by subst hW5; exact qXt
       have BD3_w4 : Ext w2 w4 := by subst hW5; exact qXt
       have BL30_w4 : Ext w2 w4 := by subst hW5; exact qXt
       replace b10 := BL30_w4.cell Q29_b10.out
       replace b11 := BL30_w4.cell Q29_b11.out
       replace b20 := BL30_w4.cell Q29_b20.out
       replace b21 := BL30_w4.cell Q29_b21.out
       replace b22 := BL30_w4.cell Q29_b22.out
       replace b23 := BL30_w4.cell Q29_b23.out
       replace b24 := BL30_w4.cell Q29_b24.out
       replace b30 := BL30_w4.cell Q29_b30.out
       replace f_b30 := BL30_w4.frz Q29_zb3 Q29_f_b30.out
       replace b31 := BL30_w4.cell Q29_b31.out
       replace f_b31 := BL30_w4.frz Q29_zb3 Q29_f_b31.out
       replace x70 := BL30_w4.cell Q29_x70.out
       replace x71 := BL30_w4.cell Q29_x71.out
       replace x72 := BL30_w4.cell Q29_x72.out
       replace x73 := BL30_w4.cell Q29_x73.out
       replace x74 := BL30_w4.cell Q29_x74.out
       replace b310 : w4.cell? ⟨w2.heap.size, 0, none⟩ = some (.int .i64 PB) := by subst hW5; go_simp
       replace f_b310 : w4.frozen? ⟨w2.heap.size, 0, none⟩ = false := by subst hW5; first | (simp only [World.frozen?_setCell]; with_reducible assumption) | go_simp
       replace b311 : w4.cell? ⟨w2.heap.size, 1, none⟩ = some (.slice afv32u PS.length cfv32u) := by subst hW5; go_simp
       replace f_b311 : w4.frozen? ⟨w2.heap.size, 1, none⟩ = false := by subst hW5; first | (simp only [World.frozen?_setCell]; with_reducible assumption) | go_simp
       replace b312 : w4.cell? ⟨w2.heap.size, 2, none⟩ = some (.slice afv32v PT.length cfv32v) := by subst hW5; go_simp
       replace f_b312 : w4.frozen? ⟨w2.heap.size, 2, none⟩ = false := by subst hW5; first | (simp only [World.frozen?_setCell]; with_reducible assumption) | go_simp
       replace i33u := i33u.chg Kw4 (by omega)
       replace i33v := i33v.chg Kw4 (by omega)
       clear Kw4
       have z_b1 : w.heap.size < w4.heap.size := qB b10
       have z_b2 : w.heap.size + 1 < w4.heap.size := qB b20
       have z_b3 : w.heap.size + 1 + 1 < w4.heap.size := qB b30
       have z_x7 : bl20 < w4.heap.size := qB x70
       have z_b31 : w2.heap.size < w4.heap.size := qB b310
       have s_w4 : w.heap.size ≤ w4.heap.size := Xw4.size
       clear hW5
       refine hK.out _ _ ⟨b10, b11, b20, b21, b22, b23, b24, b30, b31, x70, x71, x72, x73, x74⟩ (fun hHeld => ?_)
       clear hK K
       try simp only [Act.put, qa, qb, qc, qD, qE, qF]
       refine qHk (v := ?_) 14 rfl (.inl ⟨by rfl, ?_⟩) ?_
       rotate_left
       ·
        (intro w hSw; (try dsimp only at hSw); go_simp; try with_reducible rfl)
       try simp only [Act.put, qa, qb, qc, qD, qE, qF]
       refine wpAnyH_done qKr ?_ _
       clear hHeld
       go_step
       go_step
       go_meet
       case rel => exact ⟨_, _, _, _, _, rfl, rfl, BD3_w4, (by omega), b310, b311, b312, f_b310, f_b311, f_b312, i33u.lower (by omega), i33v.lower (by omega)⟩
     case rest =>
      generalize wc = wc35 at hcut ⊢
      obtain ⟨g36, af40, cf41, af42, cf43, rfl, rfl, xx37, hg_b34, b340, b341, b342, f_b340, f_b341, f_b342, i38, i39⟩ := hcut
      have Lwc35 : Ext w2 wc35 := Ext.trans qXt xx37
      have Xwc35 : Ext w wc35 := Xw2.trans Lwc35
      replace b10 := Lwc35.cell b10
      replace b11 := Lwc35.cell b11
      replace b20 := Lwc35.cell b20
      replace b21 := Lwc35.cell b21
      replace b22 := Lwc35.cell b22
      replace b23 := Lwc35.cell b23
      replace b24 := Lwc35.cell b24
      replace b30 := Lwc35.cell b30
      replace b31 := Lwc35.cell b31
      replace f_b30 := Lwc35.frz z_b3 f_b30
      replace f_b31 := Lwc35.frz z_b3 f_b31
      replace x70 := Lwc35.cell x70
      replace x71 := Lwc35.cell x71
      replace x72 := Lwc35.cell x72
      replace x73 := Lwc35.cell x73
      replace x74 := Lwc35.cell x74
      have z_b1 : w.heap.size < wc35.heap.size := qB b10
      have z_b2 : w.heap.size + 1 < wc35.heap.size := qB b20
      have z_b3 : w.heap.size + 1 + 1 < wc35.heap.size := qB b30
      have z_x7 : bl20 < wc35.heap.size := qB x70
      have s_wc35 : w.heap.size ≤ wc35.heap.size := Xwc35.size
      clear xx37
      have z_b34 : g36 < wc35.heap.size := qB b340
      go_wp2_with fail
      generalize hW6 : ((wc35.setCell ⟨w.heap.size + 1 + 1, 0, none⟩ (.slice none 0 0)).setCell ⟨w.heap.size + 1 + 1, 1, none⟩ (.slice none 0 0)) = w3 at *
      have Kw3 : Chg (w.heap.size + 1 + 1) (w.heap.size + 1 + 1 + 1) wc35 w3 := by subst hW6; exact qCh
      have Xw3 : Ext w w3 := by subst hW6; exact qXt
      replace b10 := Kw3.cell (by omega) b10
      replace b11 := Kw3.cell (by omega) b11
      replace b20 := Kw3.cell (by omega) b20
      replace b21 := Kw3.cell (by omega) b21
      replace b22 := Kw3.cell (by omega) b22
      replace b23 := Kw3.cell (by omega) b23
      replace b24 := Kw3.cell (by omega) b24
      replace b30 : w3.cell? ⟨w.heap.size + 1 + 1, 0, none⟩ = some (.slice none 0 0) := by subst hW6; go_simp
      replace f_b30 : w3.frozen? ⟨w.heap.size + 1 + 1, 0, none⟩ = false := by subst hW6; first | (simp only [World.frozen?_setCell]; with_reducible assumption) | go_simp
      replace b31 : w3.cell? ⟨w.heap.size + 1 + 1, 1, none⟩ = some (.slice none 0 0) := by subst hW6; go_simp
      replace f_b31 : w3.frozen? ⟨w.heap.size + 1 + 1, 1, none⟩ = false := by subst hW6; first | (simp only [World.frozen?_setCell]; with_reducible assumption) | go_simp
      replace x70 := Kw3.cell (by omega) x70
      replace x71 := Kw3.cell (by omega) x71
      replace x72 := Kw3.cell (by omega) x72
      replace x73 := Kw3.cell (by omega) x73
      replace x74 := Kw3.cell (by omega) x74
      replace b340 := Kw3.cell (by omega) b340
      replace f_b340 := Kw3.frzO (by omega) z_b34 f_b340
      replace b341 := Kw3.cell (by omega) b341
      replace f_b341 := Kw3.frzO (by omega) z_b34 f_b341
      replace b342 := Kw3.cell (by omega) b342
      replace f_b342 := Kw3.frzO (by omega) z_b34 f_b342
      replace i38 := i38.chg Kw3 (by omega)
      replace i39 := i39.chg Kw3 (by omega)
      clear Kw3
      have z_b1 : w.heap.size < w3.heap.size := qB b10
      have z_b2 : w.heap.size + 1 < w3.heap.size := qB b20
      have z_b3 : w.heap.size + 1 + 1 < w3.heap.size := qB b30
      have z_x7 : bl20 < w3.heap.size := qB x70
      have z_b34 : g36 < w3.heap.size := qB b340
      have s_w3 : w.heap.size ≤ w3.heap.size := Xw3.size
      clear hW6
      refine bodyPost_ret (v := .tuple #[.agg #[.slice none 0 0, .slice none 0 0], .bool false]) (by simp only [results, Try.results49]; go_simp) rfl ?_
      exact PBX.no (by unfold parA; simp only [Int.toNat_natCast]; rw [hX13.out]; dsimp only; rw [hP.out, Bool.and_false]; rfl) (Xw3.trans qXt)
    ·
     go_wp2_with fail
     go_cut [10, 11] (fun s10 s11 wx => ∃ (g : Nat) (afv44u : Option Addr) (cfv44u : Nat) (afv44v : Option Addr) (cfv44v : Nat), s10 = .pointer (some ⟨g, 0, none⟩) ∧ s11 = .bool true ∧ Ext w2 wx ∧ w2.heap.size ≤ g ∧ wx.cell? ⟨g, 0, none⟩ = some (.int .i64 PB) ∧ wx.cell? ⟨g, 1, none⟩ = some (.slice afv44u PS.length cfv44u) ∧ wx.cell? ⟨g, 2, none⟩ = some (.slice afv44v PT.length cfv44v) ∧ wx.frozen? ⟨g, 0, none⟩ = false ∧ wx.frozen? ⟨g, 1, none⟩ = false ∧ wx.frozen? ⟨g, 2, none⟩ = false ∧ Ints wx w2.heap.size (.slice afv44u PS.length cfv44u) PS ∧ Ints wx w2.heap.size (.slice afv44v PT.length cfv44v) PT)
     case first =>
      have BD3 : Ext w2 w2 := Ext.refl _
      refine wp_region_held_drew (S := fun w' => w'.cell? ⟨w.heap.size, 0, none⟩ = some (.slice p0 cells.length c0) ∧ w'.cell? ⟨w.heap.size, 1, none⟩ = some (.slice (some ⟨bl20, ol21, none⟩) es.length c1) ∧ w'.cell? ⟨w.heap.size + 1, 0, none⟩ = some (.int .i64 F) ∧ w'.cell? ⟨w.heap.size + 1, 1, none⟩ = some (.int .i64 T) ∧ w'.cell? ⟨w.heap.size + 1, 2, none⟩ = some (.int .i64 B) ∧ w'.cell? ⟨w.heap.size + 1, 3, none⟩ = some (.bool hf) ∧ w'.cell? ⟨w.heap.size + 1, 4, none⟩ = some (.bool ht) ∧ w'.cell? ⟨w.heap.size + 1 + 1, 0, none⟩ = some (.slice none 0 0) ∧ w'.cell? ⟨w.heap.size + 1 + 1, 1, none⟩ = some (.slice none 0 0) ∧ w'.cell? ⟨bl20, ol21 + k * 5, none⟩ = some (.int .i64 P8) ∧ w'.cell? ⟨bl20, ol21 + k * 5 + 1, none⟩ = some (.int .i64 B9) ∧ w'.cell? ⟨bl20, ol21 + k * 5 + 2, none⟩ = some (.slice u14 S10.length c15) ∧ w'.cell? ⟨bl20, ol21 + k * 5 + 3, none⟩ = some (.slice u16 T11.length c17) ∧ w'.cell? ⟨bl20, ol21 + k * 5 + 4, none⟩ = some (.bool O12)) qKr ⟨b10, b11, b20, b21, b22, b23, b24, b30, b31, x70, x71, x72, x73, x74⟩ (fun hHeld => ?_)
      refine qHk (v := ?_) 0 rfl (.inl ⟨by rfl, ?_⟩) ?_
      rotate_left
      ·
       (intro w hSw; (try dsimp only at hSw); go_simp; try with_reducible rfl)
      try simp only [Act.put, qa, qb, qc, qD, qE, qF]
      refine qHk (v := ?_) 1 rfl (.inl ⟨by rfl, ?_⟩) ?_
      rotate_left
      ·
       (intro w hSw; (try dsimp only at hSw); go_simp; try with_reducible rfl)
      try simp only [Act.put, qa, qb, qc, qD, qE, qF]
      refine qHk (v := ?_) 2 rfl (.inl ⟨by rfl, ?_⟩) ?_
      rotate_left
      ·
       (intro w hSw; (try dsimp only at hSw); go_simp; try with_reducible rfl)
      try simp only [Act.put, qa, qb, qc, qD, qE, qF]
      refine qHk (v := ?_) 3 rfl (.inl ⟨by rfl, ?_⟩) ?_
      rotate_left
      ·
       (intro w hSw; (try dsimp only at hSw); go_simp; try with_reducible rfl)
      try simp only [Act.put, qa, qb, qc, qD, qE, qF]
      refine qHk (v := ?_) 4 rfl (.inl ⟨by rfl, ?_⟩) ?_
      rotate_left
      ·
       (intro w hSw; (try dsimp only at hSw); go_simp; try with_reducible rfl)
      try simp only [Act.put, qa, qb, qc, qD, qE, qF]
      refine qHk (v := ?_) 5 rfl (.inl ⟨by rfl, ?_⟩) ?_
      rotate_left
      ·
       (intro w hSw; (try dsimp only at hSw); go_simp; try with_reducible rfl)
      try simp only [Act.put, qa, qb, qc, qD, qE, qF]
      refine qHk (v := ?_) 6 rfl (.inl ⟨by rfl, ?_⟩) ?_
      rotate_left
      ·
       (intro w hSw; (try dsimp only at hSw); go_simp; try with_reducible rfl)
      try simp only [Act.put, qa, qb, qc, qD, qE, qF]
      refine qHk (v := ?_) 7 rfl (.inl ⟨by rfl, ?_⟩) ?_
      rotate_left
      ·
       (intro w hSw; (try dsimp only at hSw); go_simp; try with_reducible rfl)
      try simp only [Act.put, qa, qb, qc, qD, qE, qF]
      refine wpAnyH_ready (rs := [8, 12]) qKr (by simp) ?_
      refine AllReadyH.cons rfl (fun K hK => ?_) (AllReadyH.cons rfl (fun K hK => ?_) AllReadyH.nil)
      ·
       try simp only [Act.put, qa, qb, qc, qD, qE, qF]
       go_simp
       refine (pv_eq hP.out (specSliceDim_c B9 (.slice u14 S10.length c15) (.slice u16 T11.length c17) S10 T11 d F T B hf ht _ _ _ (i18.ext (Xw2.trans qXt)) (i19.ext (Xw2.trans qXt)))).mono ?_
       rintro e w3 ⟨fv44u, fv44v, rfl, i45u, i45v, -, -, -, xw3⟩
       have Lw3 : Ext w2 w3 := Ext.trans qXt xw3
       have Xw3 : Ext w w3 := Xw2.trans Lw3
       replace b10 := Lw3.cell b10
       replace b11 := Lw3.cell b11
       replace b20 := Lw3.cell b20
       replace b21 := Lw3.cell b21
       replace b22 := Lw3.cell b22
       replace b23 := Lw3.cell b23
       replace b24 := Lw3.cell b24
       replace b30 := Lw3.cell b30
       replace b31 := Lw3.cell b31
       replace f_b30 := Lw3.frz z_b3 f_b30
       replace f_b31 := Lw3.frz z_b3 f_b31
       replace x70 := Lw3.cell x70
       replace x71 := Lw3.cell x71
       replace x72 := Lw3.cell x72
       replace x73 := Lw3.cell x73
       replace x74 := Lw3.cell x74
       have z_b1 : w.heap.size < w3.heap.size := qB b10
       have z_b2 : w.heap.size + 1 < w3.heap.size := qB b20
       have z_b3 : w.heap.size + 1 + 1 < w3.heap.size := qB b30
       have z_x7 : bl20 < w3.heap.size := qB x70
       have s_w3 : w.heap.size ≤ w3.heap.size := Xw3.size
       have BD3_w3 : Ext w2 w3 := BD3.trans Lw3
       clear xw3
       try simp only [World.size_alloc, World.size_drew] at i45u
       try simp only [World.size_alloc, World.size_drew] at i45v
       obtain ⟨afv44u, cfv44u, rfl⟩ := i45u.form
       obtain ⟨afv44v, cfv44v, rfl⟩ := i45v.form
       have zD_w3 := (BD3_w3).size
       refine hK.out _ _ ⟨b10, b11, b20, b21, b22, b23, b24, b30, b31, x70, x71, x72, x73, x74⟩ (fun hHeld => ?_)
       clear hK K
       try simp only [Act.put, qa, qb, qc, qD, qE, qF]
       refine qHk (v := ?_) 9 rfl (.inl ⟨by rfl, ?_⟩) ?_
       rotate_left
       ·
        (intro w hSw; (try dsimp only at hSw); go_simp; try with_reducible rfl)
       try simp only [Act.put, qa, qb, qc, qD, qE, qF]
       refine qHk (v := ?_) 10 rfl (.inl ⟨by rfl, ?_⟩) ?_
       rotate_left
       ·
        (intro w hSw; (try dsimp only at hSw); go_simp; try with_reducible rfl)
       try simp only [Act.put, qa, qb, qc, qD, qE, qF]
       refine qHk (v := ?_) 11 rfl (.inl ⟨by rfl, ?_⟩) ?_
       rotate_left
       ·
        (intro w hSw; (try dsimp only at hSw); go_simp; try with_reducible rfl)
       try simp only [Act.put, qa, qb, qc, qD, qE, qF]
       refine qHr 12 rfl (fun K hK => ?_)
       try simp only [Act.put, qa, qb, qc, qD, qE, qF]
       go_simp
       have Q46_b10 := Lib.hid b10
       have Q46_b11 := Lib.hid b11
       have Q46_zb1 := z_b1
       have Q46_b20 := Lib.hid b20
       have Q46_b21 := Lib.hid b21
       have Q46_b22 := Lib.hid b22
       have Q46_b23 := Lib.hid b23
       have Q46_b24 := Lib.hid b24
       have Q46_zb2 := z_b2
       have Q46_b30 := Lib.hid b30
       have Q46_f_b30 := Lib.hid f_b30
       have Q46_b31 := Lib.hid b31
       have Q46_f_b31 := Lib.hid f_b31
       have Q46_zb3 := z_b3
       have Q46_x70 := Lib.hid x70
       have Q46_x71 := Lib.hid x71
       have Q46_x72 := Lib.hid x72
       have Q46_x73 := Lib.hid x73
       have Q46_x74 := Lib.hid x74
       have Q46_zx7 := z_x7
       have Q46_i45u := Lib.hid i45u
       have Q46_i45v := Lib.hid i45v
       have BL47 : Ext w3 w3 := Ext.refl _
       have Q48_b10 := Lib.hid b10
       have Q48_b11 := Lib.hid b11
       have Q48_zb1 := z_b1
       have Q48_b20 := Lib.hid b20
       have Q48_b21 := Lib.hid b21
       have Q48_b22 := Lib.hid b22
       have Q48_b23 := Lib.hid b23
       have Q48_b24 := Lib.hid b24
       have Q48_zb2 := z_b2
       have Q48_b30 := Lib.hid b30
       have Q48_f_b30 := Lib.hid f_b30
       have Q48_b31 := Lib.hid b31
       have Q48_f_b31 := Lib.hid f_b31
       have Q48_zb3 := z_b3
       have Q48_x70 := Lib.hid x70
       have Q48_x71 := Lib.hid x71
       have Q48_x72 := Lib.hid x72
       have Q48_x73 := Lib.hid x73
       have Q48_x74 := Lib.hid x74
       have Q48_zx7 := z_x7
       have Q48_i45u := Lib.hid i45u
       have Q48_i45v := Lib.hid i45v
       have BL49 : Ext w3 w3 := Ext.refl _
       refine hK.out _ _ ⟨(show Ext w3 _ from qXt).cell b10, (show Ext w3 _ from qXt).cell b11, (show Ext w3 _ from qXt).cell b20, (show Ext w3 _ from qXt).cell b21, (show Ext w3 _ from qXt).cell b22, (show Ext w3 _ from qXt).cell b23, (show Ext w3 _ from qXt).cell b24, (show Ext w3 _ from qXt).cell b30, (show Ext w3 _ from qXt).cell b31, (show Ext w3 _ from qXt).cell x70, (show Ext w3 _ from qXt).cell x71, (show Ext w3 _ from qXt).cell x72, (show Ext w3 _ from qXt).cell x73, (show Ext w3 _ from qXt).cell x74⟩ (fun hHeld => ?_)
       clear hK K
       try simp only [Act.put, qa, qb, qc, qD, qE, qF]
       refine qHr 13 rfl (fun K hK => ?_)
       try simp only [Act.put, qa, qb, qc, qD, qE, qF]
       go_simp
       have zn_BD3_w4 := (BD3_w3).size
       have zn_BL47_w4 := (BL47).size
       have zn_BL49_w4 := (BL49).size
       generalize hW7 : w3.alloc (.cells #[.int .i64 PB, .slice afv44u PS.length cfv44u, .slice afv44v PT.length cfv44v] 36) = w4 at *
       have Lw4 : Ext w3 w4 := by subst hW7; exact qXt
       have Xw4 : Ext w w4 := Xw3.trans Lw4
       replace b10 := Lw4.cell b10
       replace b11 := Lw4.cell b11
       replace b20 := Lw4.cell b20
       replace b21 := Lw4.cell b21
       replace b22 := Lw4.cell b22
       replace b23 := Lw4.cell b23
       replace b24 := Lw4.cell b24
       replace b30 := Lw4.cell b30
       replace b31 := Lw4.cell b31
       replace f_b30 := Lw4.frz z_b3 f_b30
       replace f_b31 := Lw4.frz z_b3 f_b31
       replace x70 := Lw4.cell x70
       replace x71 := Lw4.cell x71
       replace x72 := Lw4.cell x72
       replace x73 := Lw4.cell x73
       replace x74 := Lw4.cell x74
       have b500 : w4.cell? ⟨w3.heap.size, 0, none⟩ = some (.int .i64 PB) := by subst hW7; exact qCl
       have b501 : w4.cell? ⟨w3.heap.size, 1, none⟩ = some (.slice afv44u PS.length cfv44u) := by subst hW7; exact qCl
       have b502 : w4.cell? ⟨w3.heap.size, 2, none⟩ = some (.slice afv44v PT.length cfv44v) := by subst hW7; exact qCl
       have f_b500 : w4.frozen? ⟨w3.heap.size, 0, none⟩ = false := by subst hW7; exact qFz
       have f_b501 : w4.frozen? ⟨w3.heap.size, 1, none⟩ = false := by subst hW7; exact qFz
       have f_b502 : w4.frozen? ⟨w3.heap.size, 2, none⟩ = false := by subst hW7; exact qFz
       have z_b1 : w.heap.size < w4.heap.size := qB b10
       have z_b2 : w.heap.size + 1 < w4.heap.size := qB b20
       have z_b3 : w.heap.size + 1 + 1 < w4.heap.size := qB b30
       have z_x7 : bl20 < w4.heap.size := qB x70
       have z_b50 : w3.heap.size < w4.heap.size := qB b500
       replace i45u := i45u.ext Lw4
       replace i45v := i45v.ext Lw4
       have s_w4 : w.heap.size ≤ w4.heap.size := Xw4.size
       have BD3_w4 : Ext w2 w4 := BD3_w3.trans Lw4
       have BL47_w4 : Ext w3 w4 := BL47.trans Lw4
       have BL49_w4 : Ext w3 w4 := BL49.trans Lw4
       clear hW7
       refine hK.out _ _ ⟨b10, b11, b20, b21, b22, b23, b24, b30, b31, x70, x71, x72, x73, x74⟩ (fun hHeld => ?_)
       clear hK K
       try simp only [Act.put, qa, qb, qc, qD, qE, qF]
       refine qHk (v := ?_) 14 rfl (.inl ⟨by rfl, ?_⟩) ?_
       rotate_left
       ·
        (intro w hSw; (try dsimp only at hSw); go_simp; try with_reducible rfl)
       try simp only [Act.put, qa, qb, qc, qD, qE, qF]
       refine wpAnyH_done qKr ?_ _
       clear hHeld
       go_step
       go_step
       go_meet
       case rel => exact ⟨_, _, _, _, _, rfl, rfl, BD3_w4, (by omega), b500, b501, b502, f_b500, f_b501, f_b502, i45u.lower (by omega), i45v.lower (by omega)⟩
      ·
       try simp only [Act.put, qa, qb, qc, qD, qE, qF]
       go_simp
       have Q51_b10 := Lib.hid b10
       have Q51_b11 := Lib.hid b11
       have Q51_zb1 := z_b1
       have Q51_b20 := Lib.hid b20
       have Q51_b21 := Lib.hid b21
       have Q51_b22 := Lib.hid b22
       have Q51_b23 := Lib.hid b23
       have Q51_b24 := Lib.hid b24
       have Q51_zb2 := z_b2
       have Q51_b30 := Lib.hid b30
       have Q51_f_b30 := Lib.hid f_b30
       have Q51_b31 := Lib.hid b31
       have Q51_f_b31 := Lib.hid f_b31
       have Q51_zb3 := z_b3
       have Q51_x70 := Lib.hid x70
       have Q51_x71 := Lib.hid x71
       have Q51_x72 := Lib.hid x72
       have Q51_x73 := Lib.hid x73
       have Q51_x74 := Lib.hid x74
       have Q51_zx7 := z_x7
       have BL52 : Ext w2 w2 := Ext.refl _
       refine hK.out _ _ ⟨(show Ext w2 _ from qXt).cell b10, (show Ext w2 _ from qXt).cell b11, (show Ext w2 _ from qXt).cell b20, (show Ext w2 _ from qXt).cell b21, (show Ext w2 _ from qXt).cell b22, (show Ext w2 _ from qXt).cell b23, (show Ext w2 _ from qXt).cell b24, (show Ext w2 _ from qXt).cell b30, (show Ext w2 _ from qXt).cell b31, (show Ext w2 _ from qXt).cell x70, (show Ext w2 _ from qXt).cell x71, (show Ext w2 _ from qXt).cell x72, (show Ext w2 _ from qXt).cell x73, (show Ext w2 _ from qXt).cell x74⟩ (fun hHeld => ?_)
       clear hK K
       try simp only [Act.put, qa, qb, qc, qD, qE, qF]
       refine qHr 8 rfl (fun K hK => ?_)
       try simp only [Act.put, qa, qb, qc, qD, qE, qF]
       go_simp
       refine (pv_eq hP.out (specSliceDim_c B9 (.slice u14 S10.length c15) (.slice u16 T11.length c17) S10 T11 d F T B hf ht _ _ _ (i18.ext (Xw2.trans qXt)) (i19.ext (Xw2.trans qXt)))).mono ?_
       rintro e w3 ⟨fv54u, fv54v, rfl, i55u, i55v, -, -, -, xw3⟩
       have Lw3 : Ext w2 w3 := Ext.trans qXt xw3
       have Xw3 : Ext w w3 := Xw2.trans Lw3
       replace b10 := Lw3.cell b10
       replace b11 := Lw3.cell b11
       replace b20 := Lw3.cell b20
       replace b21 := Lw3.cell b21
       replace b22 := Lw3.cell b22
       replace b23 := Lw3.cell b23
       replace b24 := Lw3.cell b24
       replace b30 := Lw3.cell b30
       replace b31 := Lw3.cell b31
       replace f_b30 := Lw3.frz z_b3 f_b30
       replace f_b31 := Lw3.frz z_b3 f_b31
       replace x70 := Lw3.cell x70
       replace x71 := Lw3.cell x71
       replace x72 := Lw3.cell x72
       replace x73 := Lw3.cell x73
       replace x74 := Lw3.cell x74
       have b530 : w3.cell? ⟨w2.heap.size, 0, none⟩ = some (.int .i64 0) := xw3.cell qCl
       have b531 : w3.cell? ⟨w2.heap.size, 1, none⟩ = some (.slice none 0 0) := xw3.cell qCl
       have b532 : w3.cell? ⟨w2.heap.size, 2, none⟩ = some (.slice none 0 0) := xw3.cell qCl
       have f_b530 : w3.frozen? ⟨w2.heap.size, 0, none⟩ = false := xw3.frz (by simp <;> omega) qFz
       have f_b531 : w3.frozen? ⟨w2.heap.size, 1, none⟩ = false := xw3.frz (by simp <;> omega) qFz
       have f_b532 : w3.frozen? ⟨w2.heap.size, 2, none⟩ = false := xw3.frz (by simp <;> omega) qFz
       have z_b1 : w.heap.size < w3.heap.size := qB b10
       have z_b2 : w.heap.size + 1 < w3.heap.size := qB b20
       have z_b3 : w.heap.size + 1 + 1 < w3.heap.size := qB b30
       have z_x7 : bl20 < w3.heap.size := qB x70
       have z_b53 : w2.heap.size < w3.heap.size := qB b530
       have s_w3 : w.heap.size ≤ w3.heap.size := Xw3.size
       have BD3_w3 : Ext w2 w3 := BD3.trans Lw3
       have BL52_w3 : Ext w2 w3 := BL52.trans Lw3
       clear xw3
       try simp only [World.size_alloc, World.size_drew] at i55u
       try simp only [World.size_alloc, World.size_drew] at i55v
       obtain ⟨afv54u, cfv54u, rfl⟩ := i55u.form
       obtain ⟨afv54v, cfv54v, rfl⟩ := i55v.form
       have zD_w3 := (BD3_w3).size
       refine hK.out _ _ ⟨b10, b11, b20, b21, b22, b23, b24, b30, b31, x70, x71, x72, x73, x74⟩ (fun hHeld => ?_)
       clear hK K
       try simp only [Act.put, qa, qb, qc, qD, qE, qF]
       refine qHk (v := ?_) 9 rfl (.inl ⟨by rfl, ?_⟩) ?_
       rotate_left
       ·
        (intro w hSw; (try dsimp only at hSw); go_simp; try with_reducible rfl)
       try simp only [Act.put, qa, qb, qc, qD, qE, qF]
       refine qHk (v := ?_) 10 rfl (.inl ⟨by rfl, ?_⟩) ?_
       rotate_left
       ·
        (intro w hSw; (try dsimp only at hSw); go_simp; try with_reducible rfl)
       try simp only [Act.put, qa, qb, qc, qD, qE, qF]
       refine qHk (v := ?_) 11 rfl (.inl ⟨by rfl, ?_⟩) ?_
       rotate_left
       ·
        (intro w hSw; (try dsimp only at hSw); go_simp; try with_reducible rfl)
       try simp only [Act.put, qa, qb, qc, qD, qE, qF]
       refine qHr 13 rfl (fun K hK => ?_)
       try simp only [Act.put, qa, qb, qc, qD, qE, qF]
       go_simp
       generalize hW8 : (((w3.setCell ⟨w2.heap.size, 0, none⟩ (.int .i64 PB)).setCell ⟨w2.heap.size, 1, none⟩ (.slice afv54u PS.length cfv54u)).setCell ⟨w2.heap.size, 2, none⟩ (.slice afv54v PT.length cfv54v)) = w4 at *
       have Kw4 : Chg (w2.heap.size) (w2.heap.size + 1) w3 w4 := by subst hW8; exact qCh
       have Xw4 : Ext w w4 := by subst hW8; exact qXt
       have BD3_w4 : Ext w2 w4 := by subst hW8; exact qXt
       have BL52_w4 : Ext w2 w4 := by subst hW8; exact qXt
       replace b10 := BL52_w4.cell Q51_b10.out
       replace b11 := BL52_w4.cell Q51_b11.out
       replace b20 := BL52_w4.cell Q51_b20.out
       replace b21 := BL52_w4.cell Q51_b21.out
       replace b22 := BL52_w4.cell Q51_b22.out
       replace b23 := BL52_w4.cell Q51_b23.out
       replace b24 := BL52_w4.cell Q51_b24.out
       replace b30 := BL52_w4.cell Q51_b30.out
       replace f_b30 := BL52_w4.frz Q51_zb3 Q51_f_b30.out
       replace b31 := BL52_w4.cell Q51_b31.out
       replace f_b31 := BL52_w4.frz Q51_zb3 Q51_f_b31.out
       replace x70 := BL52_w4.cell Q51_x70.out
       replace x71 := BL52_w4.cell Q51_x71.out
       replace x72 := BL52_w4.cell Q51_x72.out
       replace x73 := BL52_w4.cell Q51_x73.out
       replace x74 := BL52_w4.cell Q51_x74.out
       replace b530 : w4.cell? ⟨w2.heap.size, 0, none⟩ = some (.int .i64 PB) := by subst hW8; go_simp
       replace f_b530 : w4.frozen? ⟨w2.heap.size, 0, none⟩ = false := by subst hW8; first | (simp only [World.frozen?_setCell]; with_reducible assumption) | go_simp
       replace b531 : w4.cell? ⟨w2.heap.size, 1, none⟩ = some (.slice afv54u PS.length cfv54u) := by subst hW8; go_simp
       replace f_b531 : w4.frozen? ⟨w2.heap.size, 1, none⟩ = false := by subst hW8; first | (simp only [World.frozen?_setCell]; with_reducible assumption) | go_simp
       replace b532 : w4.cell? ⟨w2.heap.size, 2, none⟩ = some (.slice afv54v PT.length cfv54v) := by subst hW8; go_simp
       replace f_b532 : w4.frozen? ⟨w2.heap.size, 2, none⟩ = false := by subst hW8; first | (simp only [World.frozen?_setCell]; with_reducible assumption) | go_simp
       replace i55u := i55u.chg Kw4 (by omega)
       replace i55v := i55v.chg Kw4 (by omega)
       clear Kw4
       have z_b1 : w.heap.size < w4.heap.size := qB b10
       have z_b2 : w.heap.size + 1 < w4.heap.size := qB b20
       have z_b3 : w.heap.size + 1 + 1 < w4.heap.size := qB b30
       have z_x7 : bl20 < w4.heap.size := qB x70
       have z_b53 : w2.heap.size < w4.heap.size := qB b530
       have s_w4 : w.heap.size ≤ w4.heap.size := Xw4.size
       clear hW8
       refine hK.out _ _ ⟨b10, b11, b20, b21, b22, b23, b24, b30, b31, x70, x71, x72, x73, x74⟩ (fun hHeld => ?_)
       clear hK K
       try simp only [Act.put, qa, qb, qc, qD, qE, qF]
       refine qHk (v := ?_) 14 rfl (.inl ⟨by rfl, ?_⟩) ?_
       rotate_left
       ·
        (intro w hSw; (try dsimp only at hSw); go_simp; try with_reducible rfl)
       try simp only [Act.put, qa, qb, qc, qD, qE, qF]
       refine wpAnyH_done qKr ?_ _
       clear hHeld
       go_step
       go_step
       go_meet
       case rel => exact ⟨_, _, _, _, _, rfl, rfl, BD3_w4, (by omega), b530, b531, b532, f_b530, f_b531, f_b532, i55u.lower (by omega), i55v.lower (by omega)⟩
     case rest =>
      generalize wc = wc57 at hcut ⊢
      obtain ⟨g58, af62, cf63, af64, cf65, rfl, rfl, xx59, hg_b56, b560, b561, b562, f_b560, f_b561, f_b562, i60, i61⟩ := hcut
      have Lwc57 : Ext w2 wc57 := Ext.trans qXt xx59
      have Xwc57 : Ext w wc57 := Xw2.trans Lwc57
      replace b10 := Lwc57.cell b10
      replace b11 := Lwc57.cell b11
      replace b20 := Lwc57.cell b20
      replace b21 := Lwc57.cell b21
      replace b22 := Lwc57.cell b22
      replace b23 := Lwc57.cell b23
      replace b24 := Lwc57.cell b24
      replace b30 := Lwc57.cell b30
      replace b31 := Lwc57.cell b31
      replace f_b30 := Lwc57.frz z_b3 f_b30
      replace f_b31 := Lwc57.frz z_b3 f_b31
      replace x70 := Lwc57.cell x70
      replace x71 := Lwc57.cell x71
      replace x72 := Lwc57.cell x72
      replace x73 := Lwc57.cell x73
      replace x74 := Lwc57.cell x74
      have z_b1 : w.heap.size < wc57.heap.size := qB b10
      have z_b2 : w.heap.size + 1 < wc57.heap.size := qB b20
      have z_b3 : w.heap.size + 1 + 1 < wc57.heap.size := qB b30
      have z_x7 : bl20 < wc57.heap.size := qB x70
      have s_wc57 : w.heap.size ≤ wc57.heap.size := Xwc57.size
      clear xx59
      have z_b56 : g58 < wc57.heap.size := qB b560
      go_wp2_with fail
      have Q69_b10 := Lib.hid b10
      have Q69_b11 := Lib.hid b11
      have Q69_zb1 := z_b1
      have Q69_b20 := Lib.hid b20
      have Q69_b21 := Lib.hid b21
      have Q69_b22 := Lib.hid b22
      have Q69_b23 := Lib.hid b23
      have Q69_b24 := Lib.hid b24
      have Q69_zb2 := z_b2
      have Q69_b30 := Lib.hid b30
      have Q69_f_b30 := Lib.hid f_b30
      have Q69_b31 := Lib.hid b31
      have Q69_f_b31 := Lib.hid f_b31
      have Q69_zb3 := z_b3
      have Q69_x70 := Lib.hid x70
      have Q69_x71 := Lib.hid x71
      have Q69_x72 := Lib.hid x72
      have Q69_x73 := Lib.hid x73
      have Q69_x74 := Lib.hid x74
      have Q69_zx7 := z_x7
      have Q69_b560 := Lib.hid b560
      have Q69_f_b560 := Lib.hid f_b560
      have Q69_b561 := Lib.hid b561
      have Q69_f_b561 := Lib.hid f_b561
      have Q69_b562 := Lib.hid b562
      have Q69_f_b562 := Lib.hid f_b562
      have Q69_zb56 := z_b56
      have Q69_i60 := Lib.hid i60
      have Q69_i61 := Lib.hid i61
      have BL70 : Ext wc57 wc57 := Ext.refl _
      refine (added_c cells es (.slice p0 cells.length c0) (.slice (some ⟨bl20, ol21, none⟩) es.length c1) (k : Int) PB (.slice af62 PS.length cf63) (.slice af64 PT.length cf65) PS PT _ _ _ (h1.ext (Xwc57.trans qXt)) (h2.ext (Xwc57.trans qXt)) _ _ (i60.ext qXt) (i61.ext qXt) (by have h7 := hc6.out; omega)).mono ?_
      rintro e w3 ⟨cvfb67, evfb67, R68, rfl, bf66, xw3⟩
      have Lw3 : Ext wc57 w3 := Ext.trans qXt xw3
      have Xw3 : Ext w w3 := Xwc57.trans Lw3
      replace b10 := Lw3.cell b10
      replace b11 := Lw3.cell b11
      replace b20 := Lw3.cell b20
      replace b21 := Lw3.cell b21
      replace b22 := Lw3.cell b22
      replace b23 := Lw3.cell b23
      replace b24 := Lw3.cell b24
      replace b30 := Lw3.cell b30
      replace b31 := Lw3.cell b31
      replace f_b30 := Lw3.frz z_b3 f_b30
      replace f_b31 := Lw3.frz z_b3 f_b31
      replace x70 := Lw3.cell x70
      replace x71 := Lw3.cell x71
      replace x72 := Lw3.cell x72
      replace x73 := Lw3.cell x73
      replace x74 := Lw3.cell x74
      replace b560 := Lw3.cell b560
      replace b561 := Lw3.cell b561
      replace b562 := Lw3.cell b562
      replace f_b560 := Lw3.frz z_b56 f_b560
      replace f_b561 := Lw3.frz z_b56 f_b561
      replace f_b562 := Lw3.frz z_b56 f_b562
      have z_b1 : w.heap.size < w3.heap.size := qB b10
      have z_b2 : w.heap.size + 1 < w3.heap.size := qB b20
      have z_b3 : w.heap.size + 1 + 1 < w3.heap.size := qB b30
      have z_x7 : bl20 < w3.heap.size := qB x70
      have z_b56 : g58 < w3.heap.size := qB b560
      replace i60 := i60.ext Lw3
      replace i61 := i61.ext Lw3
      have s_w3 : w.heap.size ≤ w3.heap.size := Xw3.size
      have BL70_w3 : Ext wc57 w3 := BL70.trans Lw3
      clear xw3
      replace bf66 := bf66.lower (lo' := wc57.heap.size) qSo
      obtain ⟨afb67, cfb67, rfl⟩ := bf66.ints.form
      obtain ⟨efb67, dfb67, hEfb67⟩ := bf66.exps.form
      rw [List.length_append, List.length_singleton] at hEfb67
      subst hEfb67
      have q_bf66 := Lib.hid bf66.at
      go_wp2_with fail
      generalize hW9 : ((w3.setCell ⟨w.heap.size + 1 + 1, 0, none⟩ (.slice afb67 cells.length cfb67)).setCell ⟨w.heap.size + 1 + 1, 1, none⟩ (.slice efb67 (es.length + 1) dfb67)) = w4 at *
      have Kw4 : Chg (w.heap.size + 1 + 1) (w.heap.size + 1 + 1 + 1) w3 w4 := by subst hW9; exact qCh
      have Xw4 : Ext w w4 := by subst hW9; exact qXt
      replace b10 := Kw4.cell (by omega) b10
      replace b11 := Kw4.cell (by omega) b11
      replace b20 := Kw4.cell (by omega) b20
      replace b21 := Kw4.cell (by omega) b21
      replace b22 := Kw4.cell (by omega) b22
      replace b23 := Kw4.cell (by omega) b23
      replace b24 := Kw4.cell (by omega) b24
      replace b30 : w4.cell? ⟨w.heap.size + 1 + 1, 0, none⟩ = some (.slice afb67 cells.length cfb67) := by subst hW9; go_simp
      replace f_b30 : w4.frozen? ⟨w.heap.size + 1 + 1, 0, none⟩ = false := by subst hW9; first | (simp only [World.frozen?_setCell]; with_reducible assumption) | go_simp
      replace b31 : w4.cell? ⟨w.heap.size + 1 + 1, 1, none⟩ = some (.slice efb67 (es.length + 1) dfb67) := by subst hW9; go_simp
      replace f_b31 : w4.frozen? ⟨w.heap.size + 1 + 1, 1, none⟩ = false := by subst hW9; first | (simp only [World.frozen?_setCell]; with_reducible assumption) | go_simp
      replace x70 := Kw4.cell (by omega) x70
      replace x71 := Kw4.cell (by omega) x71
      replace x72 := Kw4.cell (by omega) x72
      replace x73 := Kw4.cell (by omega) x73
      replace x74 := Kw4.cell (by omega) x74
      replace b560 := Kw4.cell (by omega) b560
      replace f_b560 := Kw4.frzO (by omega) z_b56 f_b560
      replace b561 := Kw4.cell (by omega) b561
      replace f_b561 := Kw4.frzO (by omega) z_b56 f_b561
      replace b562 := Kw4.cell (by omega) b562
      replace f_b562 := Kw4.frzO (by omega) z_b56 f_b562
      replace i60 := i60.chg Kw4 (by omega)
      replace i61 := i61.chg Kw4 (by omega)
      replace bf66 := bf66.chg Kw4 (by omega)
      clear Kw4
      have z_b1 : w.heap.size < w4.heap.size := qB b10
      have z_b2 : w.heap.size + 1 < w4.heap.size := qB b20
      have z_b3 : w.heap.size + 1 + 1 < w4.heap.size := qB b30
      have z_x7 : bl20 < w4.heap.size := qB x70
      have z_b56 : g58 < w4.heap.size := qB b560
      have s_w4 : w.heap.size ≤ w4.heap.size := Xw4.size
      clear hW9
      refine bodyPost_ret (v := .tuple #[.agg #[.slice afb67 cells.length cfb67, .slice efb67 (es.length + 1) dfb67], .bool true]) (by simp only [results, Try.results49]; go_simp) rfl ?_
      have eqA : parA cells es (k : Int) d F T B hf ht = (cells, es ++ [⟨(k : Int), PB, PS, PT, true⟩], true) := by unfold parA; simp only [Int.toNat_natCast]; rw [hX13.out]; dsimp only; rw [hP.out, hbb.out, hop.out, decide_eq_true (show es.length < 8 from (by have h7 := hc6.out; omega))]; rfl
      exact PBX.yes eqA ((bf66.ext qXt).lower (by omega)) (Xw4.trans qXt)

set_option maxHeartbeats 6400000 in
theorem implExportPart_0 (cells : List Int) (es : List Exp) (cv ev : Value) (i d F T B : Int) (hf ht : Bool) (w : World) (l1 l2 : Nat) (h1 : Ints w l1 cv cells) (h2 : Exps w l2 ev es) (h8 : ¬ es.length < 8) :
  Calls Try.prog 51 #[.agg #[cv, ev], .int .i64 i, .int .i64 d, .agg #[.int .i64 F, .int .i64 T, .int .i64 B, .bool hf, .bool ht]] w (PBX w (parA cells es i d F T B hf ht)) := by
 obtain ⟨p0, c0, rfl⟩ := h1.form
 obtain ⟨p1, c1, rfl⟩ := h2.form
 have he1 := h2.len
 have hc1 := h1.len
 go_enter Try.func51, Try.ntmps51
 go_wp2_with fail
 refine (implIsOpen_c cells es (.slice p0 cells.length c0) (.slice p1 es.length c1) i _ _ _ (h1.ext qXt) (h2.ext qXt)).mono ?_
 rintro e w1 ⟨rfl, xw1⟩
 have Lw1 : Ext w w1 := Ext.trans qXt xw1
 have Xw1 : Ext w w1 := Lw1
 have b10 : w1.cell? ⟨w.heap.size, 0, none⟩ = some (.slice p0 cells.length c0) := xw1.cell qCl
 have b11 : w1.cell? ⟨w.heap.size, 1, none⟩ = some (.slice p1 es.length c1) := xw1.cell qCl
 have b20 : w1.cell? ⟨w.heap.size + 1, 0, none⟩ = some (.int .i64 F) := xw1.cell qCl
 have b21 : w1.cell? ⟨w.heap.size + 1, 1, none⟩ = some (.int .i64 T) := xw1.cell qCl
 have b22 : w1.cell? ⟨w.heap.size + 1, 2, none⟩ = some (.int .i64 B) := xw1.cell qCl
 have b23 : w1.cell? ⟨w.heap.size + 1, 3, none⟩ = some (.bool hf) := xw1.cell qCl
 have b24 : w1.cell? ⟨w.heap.size + 1, 4, none⟩ = some (.bool ht) := xw1.cell qCl
 have b30 : w1.cell? ⟨w.heap.size + 1 + 1, 0, none⟩ = some (.slice none 0 0) := xw1.cell qCl
 have b31 : w1.cell? ⟨w.heap.size + 1 + 1, 1, none⟩ = some (.slice none 0 0) := xw1.cell qCl
 have f_b30 : w1.frozen? ⟨w.heap.size + 1 + 1, 0, none⟩ = false := xw1.frz (by simp <;> omega) qFz
 have f_b31 : w1.frozen? ⟨w.heap.size + 1 + 1, 1, none⟩ = false := xw1.frz (by simp <;> omega) qFz
 have z_b1 : w.heap.size < w1.heap.size := qB b10
 have z_b2 : w.heap.size + 1 < w1.heap.size := qB b20
 have z_b3 : w.heap.size + 1 + 1 < w1.heap.size := qB b30
 have s_w1 : w.heap.size ≤ w1.heap.size := Xw1.size
 clear xw1
 cases hB4 : bufB cells es && opB es i
 ·
  replace hB4 := Lib.hid hB4
  go_wp2_with fail
  generalize hW10 : ((w1.setCell ⟨w.heap.size + 1 + 1, 0, none⟩ (.slice none 0 0)).setCell ⟨w.heap.size + 1 + 1, 1, none⟩ (.slice none 0 0)) = w2 at *
  have Kw2 : Chg (w.heap.size + 1 + 1) (w.heap.size + 1 + 1 + 1) w1 w2 := by subst hW10; exact qCh
  have Xw2 : Ext w w2 := by subst hW10; exact qXt
  replace b10 := Kw2.cell (by omega) b10
  replace b11 := Kw2.cell (by omega) b11
  replace b20 := Kw2.cell (by omega) b20
  replace b21 := Kw2.cell (by omega) b21
  replace b22 := Kw2.cell (by omega) b22
  replace b23 := Kw2.cell (by omega) b23
  replace b24 := Kw2.cell (by omega) b24
  replace b30 : w2.cell? ⟨w.heap.size + 1 + 1, 0, none⟩ = some (.slice none 0 0) := by subst hW10; go_simp
  replace f_b30 : w2.frozen? ⟨w.heap.size + 1 + 1, 0, none⟩ = false := by subst hW10; first | (simp only [World.frozen?_setCell]; with_reducible assumption) | go_simp
  replace b31 : w2.cell? ⟨w.heap.size + 1 + 1, 1, none⟩ = some (.slice none 0 0) := by subst hW10; go_simp
  replace f_b31 : w2.frozen? ⟨w.heap.size + 1 + 1, 1, none⟩ = false := by subst hW10; first | (simp only [World.frozen?_setCell]; with_reducible assumption) | go_simp
  clear Kw2
  have z_b1 : w.heap.size < w2.heap.size := qB b10
  have z_b2 : w.heap.size + 1 < w2.heap.size := qB b20
  have z_b3 : w.heap.size + 1 + 1 < w2.heap.size := qB b30
  have s_w2 : w.heap.size ≤ w2.heap.size := Xw2.size
  clear hW10
  refine bodyPost_ret (v := .tuple #[.agg #[.slice none 0 0, .slice none 0 0], .bool false]) (by simp only [results, Try.results51]; go_simp) rfl ?_
  exact PBX.no (by unfold parA; rw [(show (bufB cells es && opB es i) = false from hB4.out), Bool.false_and, Bool.false_and]; rfl) (Xw2.trans qXt)
 ·
  replace hB4 := Lib.hid hB4
  have hbb : Hid (bufB cells es = true) := Lib.hid (by have h7 := hB4.out; rw [Bool.and_eq_true] at h7; exact h7.1)
  have hop : Hid (opB es i = true) := Lib.hid (by have h7 := hB4.out; rw [Bool.and_eq_true] at h7; exact h7.2)
  obtain ⟨hi0, hi1, hi2⟩ := opB_in hop.out
  obtain ⟨k, rfl⟩ : ∃ k : Nat, i = k := ⟨i.toNat, by omega⟩
  have hlt : k < es.length := by omega
  have hesne : Hid (es ≠ []) := Lib.hid (fun h => by rw [h] at hlt; exact absurd hlt (by simp))
  replace hi2 := Lib.hid hi2
  go_wp2_with fail
  have hN_x5 : k < es.length := hlt
  have hI_x5 : (k : Int) < (es.length : Int) := by omega
  obtain ⟨bl18, ol19, u12, c13, u14, c15, rfl, x50, x51, x52, x53, x54, i16, i17⟩ := h2.at k hN_x5
  obtain ⟨X11, hX11⟩ : ∃ x, expAt es k = x := ⟨_, rfl⟩
  rw [hX11] at x50 x51 x52 x53 x54 i16 i17
  obtain ⟨P6, B7, S8, T9, O10⟩ := X11
  dsimp only at x50 x51 x52 x53 x54 i16 i17
  replace hX11 := Lib.hid hX11
  have hLS8 := i16.len
  have hLT9 := i17.len
  have y_x5 : bl18 < w.heap.size := qB x50
  replace x50 := Xw1.cell x50
  replace x51 := Xw1.cell x51
  replace x52 := Xw1.cell x52
  replace x53 := Xw1.cell x53
  replace x54 := Xw1.cell x54
  have z_x5 : bl18 < w1.heap.size := qB x50
  have h88 := (bufB_in hbb.out).2.2.1
  obtain ⟨PB, PS, PT, PO, hP⟩ : ∃ PB PS PT PO, sliceV B7 S8 T9 d F T B hf ht = (PB, PS, PT, PO) := ⟨_, _, _, _, rfl⟩
  have hpl : PS.length ≤ 4 ∧ PT.length ≤ 4 := by have h7 := sliceV_fit B7 S8 T9 d F T B hf ht; rw [hP] at h7; exact ⟨h7.2, by have h8 := h7.1; have h9 := h7.2; dsimp only at h8 h9; omega⟩
  obtain ⟨hpl1, hpl2⟩ := hpl
  replace hP := Lib.hid hP
  cases PO
  ·
   go_wp2_with fail
   go_cut [10, 11] (fun s10 s11 wx => ∃ (g : Nat) (afv20u : Option Addr) (cfv20u : Nat) (afv20v : Option Addr) (cfv20v : Nat), s10 = .pointer (some ⟨g, 0, none⟩) ∧ s11 = .bool false ∧ Ext w1 wx ∧ w1.heap.size ≤ g ∧ wx.cell? ⟨g, 0, none⟩ = some (.int .i64 PB) ∧ wx.cell? ⟨g, 1, none⟩ = some (.slice afv20u PS.length cfv20u) ∧ wx.cell? ⟨g, 2, none⟩ = some (.slice afv20v PT.length cfv20v) ∧ wx.frozen? ⟨g, 0, none⟩ = false ∧ wx.frozen? ⟨g, 1, none⟩ = false ∧ wx.frozen? ⟨g, 2, none⟩ = false ∧ Ints wx w1.heap.size (.slice afv20u PS.length cfv20u) PS ∧ Ints wx w1.heap.size (.slice afv20v PT.length cfv20v) PT ∧ OwnZ wx w1.heap.size (.slice afv20u PS.length cfv20u) PS ∧ OwnZ wx w1.heap.size (.slice afv20v PT.length cfv20v) PT ∧ (PS ≠ [] → PT ≠ [] → (Value.slice afv20u PS.length cfv20u).ownBlock ≠ (Value.slice afv20v PT.length cfv20v).ownBlock))
   case first =>
    have BD3 : Ext w1 w1 := Ext.refl _
    refine wp_region_held_drew (S := fun w' => w'.cell? ⟨w.heap.size, 0, none⟩ = some (.slice p0 cells.length c0) ∧ w'.cell? ⟨w.heap.size, 1, none⟩ = some (.slice (some ⟨bl18, ol19, none⟩) es.length c1) ∧ w'.cell? ⟨w.heap.size + 1, 0, none⟩ = some (.int .i64 F) ∧ w'.cell? ⟨w.heap.size + 1, 1, none⟩ = some (.int .i64 T) ∧ w'.cell? ⟨w.heap.size + 1, 2, none⟩ = some (.int .i64 B) ∧ w'.cell? ⟨w.heap.size + 1, 3, none⟩ = some (.bool hf) ∧ w'.cell? ⟨w.heap.size + 1, 4, none⟩ = some (.bool ht) ∧ w'.cell? ⟨w.heap.size + 1 + 1, 0, none⟩ = some (.slice none 0 0) ∧ w'.cell? ⟨w.heap.size + 1 + 1, 1, none⟩ = some (.slice none 0 0) ∧ w'.cell? ⟨bl18, ol19 + k * 5, none⟩ = some (.int .i64 P6) ∧ w'.cell? ⟨bl18, ol19 + k * 5 + 1, none⟩ = some (.int .i64 B7) ∧ w'.cell? ⟨bl18, ol19 + k * 5 + 2, none⟩ = some (.slice u12 S8.length c13) ∧ w'.cell? ⟨bl18, ol19 + k * 5 + 3, none⟩ = some (.slice u14 T9.length c15) ∧ w'.cell? ⟨bl18, ol19 + k * 5 + 4, none⟩ = some (.bool O10)) qKr ⟨b10, b11, b20, b21, b22, b23, b24, b30, b31, x50, x51, x52, x53, x54⟩ (fun hHeld => ?_)
    refine qHk (v := ?_) 0 rfl (.inl ⟨by rfl, ?_⟩) ?_
    rotate_left
    ·
     (intro w hSw; (try dsimp only at hSw); go_simp; try with_reducible rfl)
    try simp only [Act.put, qa, qb, qc, qD, qE, qF]
    refine qHk (v := ?_) 1 rfl (.inl ⟨by rfl, ?_⟩) ?_
    rotate_left
    ·
     (intro w hSw; (try dsimp only at hSw); go_simp; try with_reducible rfl)
    try simp only [Act.put, qa, qb, qc, qD, qE, qF]
    refine qHk (v := ?_) 2 rfl (.inl ⟨by rfl, ?_⟩) ?_
    rotate_left
    ·
     (intro w hSw; (try dsimp only at hSw); go_simp; try with_reducible rfl)
    try simp only [Act.put, qa, qb, qc, qD, qE, qF]
    refine qHk (v := ?_) 3 rfl (.inl ⟨by rfl, ?_⟩) ?_
    rotate_left
    ·
     (intro w hSw; (try dsimp only at hSw); go_simp; try with_reducible rfl)
    try simp only [Act.put, qa, qb, qc, qD, qE, qF]
    refine qHk (v := ?_) 4 rfl (.inl ⟨by rfl, ?_⟩) ?_
    rotate_left
    ·
     (intro w hSw; (try dsimp only at hSw); go_simp; try with_reducible rfl)
    try simp only [Act.put, qa, qb, qc, qD, qE, qF]
    refine qHk (v := ?_) 5 rfl (.inl ⟨by rfl, ?_⟩) ?_
    rotate_left
    ·
     (intro w hSw; (try dsimp only at hSw); go_simp; try with_reducible rfl)
    try simp only [Act.put, qa, qb, qc, qD, qE, qF]
    refine qHk (v := ?_) 6 rfl (.inl ⟨by rfl, ?_⟩) ?_
    rotate_left
    ·
     (intro w hSw; (try dsimp only at hSw); go_simp; try with_reducible rfl)
    try simp only [Act.put, qa, qb, qc, qD, qE, qF]
    refine qHk (v := ?_) 7 rfl (.inl ⟨by rfl, ?_⟩) ?_
    rotate_left
    ·
     (intro w hSw; (try dsimp only at hSw); go_simp; try with_reducible rfl)
    try simp only [Act.put, qa, qb, qc, qD, qE, qF]
    refine wpAnyH_ready (rs := [8, 12]) qKr (by simp) ?_
    refine AllReadyH.cons rfl (fun K hK => ?_) (AllReadyH.cons rfl (fun K hK => ?_) AllReadyH.nil)
    ·
     try simp only [Act.put, qa, qb, qc, qD, qE, qF]
     go_simp
     refine (pv_eq hP.out (implSliceDim_s B7 (.slice u12 S8.length c13) (.slice u14 T9.length c15) S8 T9 d F T B hf ht _ _ _ (i16.ext (Xw1.trans qXt)) (i17.ext (Xw1.trans qXt)))).mono ?_
     rintro e w2 ⟨fv20u, fv20v, rfl, i21u, i21v, i21uz, i21vz, i21s, xw2⟩
     have Lw2 : Ext w1 w2 := Ext.trans qXt xw2
     have Xw2 : Ext w w2 := Xw1.trans Lw2
     replace b10 := Lw2.cell b10
     replace b11 := Lw2.cell b11
     replace b20 := Lw2.cell b20
     replace b21 := Lw2.cell b21
     replace b22 := Lw2.cell b22
     replace b23 := Lw2.cell b23
     replace b24 := Lw2.cell b24
     replace b30 := Lw2.cell b30
     replace b31 := Lw2.cell b31
     replace f_b30 := Lw2.frz z_b3 f_b30
     replace f_b31 := Lw2.frz z_b3 f_b31
     replace x50 := Lw2.cell x50
     replace x51 := Lw2.cell x51
     replace x52 := Lw2.cell x52
     replace x53 := Lw2.cell x53
     replace x54 := Lw2.cell x54
     have z_b1 : w.heap.size < w2.heap.size := qB b10
     have z_b2 : w.heap.size + 1 < w2.heap.size := qB b20
     have z_b3 : w.heap.size + 1 + 1 < w2.heap.size := qB b30
     have z_x5 : bl18 < w2.heap.size := qB x50
     have s_w2 : w.heap.size ≤ w2.heap.size := Xw2.size
     have BD3_w2 : Ext w1 w2 := BD3.trans Lw2
     clear xw2
     try simp only [World.size_alloc, World.size_drew] at i21u
     try simp only [World.size_alloc, World.size_drew] at i21v
     try simp only [World.size_alloc, World.size_drew] at i21uz
     try simp only [World.size_alloc, World.size_drew] at i21vz
     obtain ⟨afv20u, cfv20u, rfl⟩ := i21u.form
     obtain ⟨afv20v, cfv20v, rfl⟩ := i21v.form
     replace i21s := Lib.hid i21s
     have zD_w2 := (BD3_w2).size
     refine hK.out _ _ ⟨b10, b11, b20, b21, b22, b23, b24, b30, b31, x50, x51, x52, x53, x54⟩ (fun hHeld => ?_)
     clear hK K
     try simp only [Act.put, qa, qb, qc, qD, qE, qF]
     refine qHk (v := ?_) 9 rfl (.inl ⟨by rfl, ?_⟩) ?_
     rotate_left
     ·
      (intro w hSw; (try dsimp only at hSw); go_simp; try with_reducible rfl)
     try simp only [Act.put, qa, qb, qc, qD, qE, qF]
     refine qHk (v := ?_) 10 rfl (.inl ⟨by rfl, ?_⟩) ?_
     rotate_left
     ·
      (intro w hSw; (try dsimp only at hSw); go_simp; try with_reducible rfl)
     try simp only [Act.put, qa, qb, qc, qD, qE, qF]
     refine qHk (v := ?_) 11 rfl (.inl ⟨by rfl, ?_⟩) ?_
     rotate_left
     ·
      (intro w hSw; (try dsimp only at hSw); go_simp; try with_reducible rfl)
     try simp only [Act.put, qa, qb, qc, qD, qE, qF]
     refine qHr 12 rfl (fun K hK => ?_)
     try simp only [Act.put, qa, qb, qc, qD, qE, qF]
     go_simp
     have Q22_b10 := Lib.hid b10
     have Q22_b11 := Lib.hid b11
     have Q22_zb1 := z_b1
     have Q22_b20 := Lib.hid b20
     have Q22_b21 := Lib.hid b21
     have Q22_b22 := Lib.hid b22
     have Q22_b23 := Lib.hid b23
     have Q22_b24 := Lib.hid b24
     have Q22_zb2 := z_b2
     have Q22_b30 := Lib.hid b30
     have Q22_f_b30 := Lib.hid f_b30
     have Q22_b31 := Lib.hid b31
     have Q22_f_b31 := Lib.hid f_b31
     have Q22_zb3 := z_b3
     have Q22_x50 := Lib.hid x50
     have Q22_x51 := Lib.hid x51
     have Q22_x52 := Lib.hid x52
     have Q22_x53 := Lib.hid x53
     have Q22_x54 := Lib.hid x54
     have Q22_zx5 := z_x5
     have Q22_i21u := Lib.hid i21u
     have Q22_i21v := Lib.hid i21v
     have Q22_i21uz := Lib.hid i21uz
     have Q22_i21vz := Lib.hid i21vz
     have BL23 : Ext w2 w2 := Ext.refl _
     have Q24_b10 := Lib.hid b10
     have Q24_b11 := Lib.hid b11
     have Q24_zb1 := z_b1
     have Q24_b20 := Lib.hid b20
     have Q24_b21 := Lib.hid b21
     have Q24_b22 := Lib.hid b22
     have Q24_b23 := Lib.hid b23
     have Q24_b24 := Lib.hid b24
     have Q24_zb2 := z_b2
     have Q24_b30 := Lib.hid b30
     have Q24_f_b30 := Lib.hid f_b30
     have Q24_b31 := Lib.hid b31
     have Q24_f_b31 := Lib.hid f_b31
     have Q24_zb3 := z_b3
     have Q24_x50 := Lib.hid x50
     have Q24_x51 := Lib.hid x51
     have Q24_x52 := Lib.hid x52
     have Q24_x53 := Lib.hid x53
     have Q24_x54 := Lib.hid x54
     have Q24_zx5 := z_x5
     have Q24_i21u := Lib.hid i21u
     have Q24_i21v := Lib.hid i21v
     have Q24_i21uz := Lib.hid i21uz
     have Q24_i21vz := Lib.hid i21vz
     have BL25 : Ext w2 w2 := Ext.refl _
     refine hK.out _ _ ⟨(show Ext w2 _ from qXt).cell b10, (show Ext w2 _ from qXt).cell b11, (show Ext w2 _ from qXt).cell b20, (show Ext w2 _ from qXt).cell b21, (show Ext w2 _ from qXt).cell b22, (show Ext w2 _ from qXt).cell b23, (show Ext w2 _ from qXt).cell b24, (show Ext w2 _ from qXt).cell b30, (show Ext w2 _ from qXt).cell b31, (show Ext w2 _ from qXt).cell x50, (show Ext w2 _ from qXt).cell x51, (show Ext w2 _ from qXt).cell x52, (show Ext w2 _ from qXt).cell x53, (show Ext w2 _ from qXt).cell x54⟩ (fun hHeld => ?_)
     clear hK K
     try simp only [Act.put, qa, qb, qc, qD, qE, qF]
     refine qHr 13 rfl (fun K hK => ?_)
     try simp only [Act.put, qa, qb, qc, qD, qE, qF]
     go_simp
     have zn_BD3_w3 := (BD3_w2).size
     have zn_BL23_w3 := (BL23).size
     have zn_BL25_w3 := (BL25).size
     generalize hW11 : w2.alloc (.cells #[.int .i64 PB, .slice afv20u PS.length cfv20u, .slice afv20v PT.length cfv20v] 36) = w3 at *
     have Lw3 : Ext w2 w3 := by subst hW11; exact qXt
     have Xw3 : Ext w w3 := Xw2.trans Lw3
     replace b10 := Lw3.cell b10
     replace b11 := Lw3.cell b11
     replace b20 := Lw3.cell b20
     replace b21 := Lw3.cell b21
     replace b22 := Lw3.cell b22
     replace b23 := Lw3.cell b23
     replace b24 := Lw3.cell b24
     replace b30 := Lw3.cell b30
     replace b31 := Lw3.cell b31
     replace f_b30 := Lw3.frz z_b3 f_b30
     replace f_b31 := Lw3.frz z_b3 f_b31
     replace x50 := Lw3.cell x50
     replace x51 := Lw3.cell x51
     replace x52 := Lw3.cell x52
     replace x53 := Lw3.cell x53
     replace x54 := Lw3.cell x54
     have b260 : w3.cell? ⟨w2.heap.size, 0, none⟩ = some (.int .i64 PB) := by subst hW11; exact qCl
     have b261 : w3.cell? ⟨w2.heap.size, 1, none⟩ = some (.slice afv20u PS.length cfv20u) := by subst hW11; exact qCl
     have b262 : w3.cell? ⟨w2.heap.size, 2, none⟩ = some (.slice afv20v PT.length cfv20v) := by subst hW11; exact qCl
     have f_b260 : w3.frozen? ⟨w2.heap.size, 0, none⟩ = false := by subst hW11; exact qFz
     have f_b261 : w3.frozen? ⟨w2.heap.size, 1, none⟩ = false := by subst hW11; exact qFz
     have f_b262 : w3.frozen? ⟨w2.heap.size, 2, none⟩ = false := by subst hW11; exact qFz
     have z_b1 : w.heap.size < w3.heap.size := qB b10
     have z_b2 : w.heap.size + 1 < w3.heap.size := qB b20
     have z_b3 : w.heap.size + 1 + 1 < w3.heap.size := qB b30
     have z_x5 : bl18 < w3.heap.size := qB x50
     have z_b26 : w2.heap.size < w3.heap.size := qB b260
     replace i21u := i21u.ext Lw3
     replace i21v := i21v.ext Lw3
     replace i21uz := i21uz.ext Lw3
     replace i21vz := i21vz.ext Lw3
     have s_w3 : w.heap.size ≤ w3.heap.size := Xw3.size
     have BD3_w3 : Ext w1 w3 := BD3_w2.trans Lw3
     have BL23_w3 : Ext w2 w3 := BL23.trans Lw3
     have BL25_w3 : Ext w2 w3 := BL25.trans Lw3
     clear hW11
     refine hK.out _ _ ⟨b10, b11, b20, b21, b22, b23, b24, b30, b31, x50, x51, x52, x53, x54⟩ (fun hHeld => ?_)
     clear hK K
     try simp only [Act.put, qa, qb, qc, qD, qE, qF]
     refine qHk (v := ?_) 14 rfl (.inl ⟨by rfl, ?_⟩) ?_
     rotate_left
     ·
      (intro w hSw; (try dsimp only at hSw); go_simp; try with_reducible rfl)
     try simp only [Act.put, qa, qb, qc, qD, qE, qF]
     refine wpAnyH_done qKr ?_ _
     clear hHeld
     go_step
     go_step
     go_meet
     case rel => exact ⟨_, _, _, _, _, rfl, rfl, BD3_w3, (by omega), b260, b261, b262, f_b260, f_b261, f_b262, i21u.lower (by omega), i21v.lower (by omega), i21uz.lower (by omega), i21vz.lower (by omega), i21s.out⟩
    ·
     try simp only [Act.put, qa, qb, qc, qD, qE, qF]
     go_simp
     have Q27_b10 := Lib.hid b10
     have Q27_b11 := Lib.hid b11
     have Q27_zb1 := z_b1
     have Q27_b20 := Lib.hid b20
     have Q27_b21 := Lib.hid b21
     have Q27_b22 := Lib.hid b22
     have Q27_b23 := Lib.hid b23
     have Q27_b24 := Lib.hid b24
     have Q27_zb2 := z_b2
     have Q27_b30 := Lib.hid b30
     have Q27_f_b30 := Lib.hid f_b30
     have Q27_b31 := Lib.hid b31
     have Q27_f_b31 := Lib.hid f_b31
     have Q27_zb3 := z_b3
     have Q27_x50 := Lib.hid x50
     have Q27_x51 := Lib.hid x51
     have Q27_x52 := Lib.hid x52
     have Q27_x53 := Lib.hid x53
     have Q27_x54 := Lib.hid x54
     have Q27_zx5 := z_x5
     have BL28 : Ext w1 w1 := Ext.refl _
     refine hK.out _ _ ⟨(show Ext w1 _ from qXt).cell b10, (show Ext w1 _ from qXt).cell b11, (show Ext w1 _ from qXt).cell b20, (show Ext w1 _ from qXt).cell b21, (show Ext w1 _ from qXt).cell b22, (show Ext w1 _ from qXt).cell b23, (show Ext w1 _ from qXt).cell b24, (show Ext w1 _ from qXt).cell b30, (show Ext w1 _ from qXt).cell b31, (show Ext w1 _ from qXt).cell x50, (show Ext w1 _ from qXt).cell x51, (show Ext w1 _ from qXt).cell x52, (show Ext w1 _ from qXt).cell x53, (show Ext w1 _ from qXt).cell x54⟩ (fun hHeld => ?_)
     clear hK K
     try simp only [Act.put, qa, qb, qc, qD, qE, qF]
     refine qHr 8 rfl (fun K hK => ?_)
     try simp only [Act.put, qa, qb, qc, qD, qE, qF]
     go_simp
     refine (pv_eq hP.out (implSliceDim_s B7 (.slice u12 S8.length c13) (.slice u14 T9.length c15) S8 T9 d F T B hf ht _ _ _ (i16.ext (Xw1.trans qXt)) (i17.ext (Xw1.trans qXt)))).mono ?_
     rintro e w2 ⟨fv30u, fv30v, rfl, i31u, i31v, i31uz, i31vz, i31s, xw2⟩
     have Lw2 : Ext w1 w2 := Ext.trans qXt xw2
     have Xw2 : Ext w w2 := Xw1.trans Lw2
     replace b10 := Lw2.cell b10
     replace b11 := Lw2.cell b11
     replace b20 := Lw2.cell b20
     replace b21 := Lw2.cell b21
     replace b22 := Lw2.cell b22
     replace b23 := Lw2.cell b23
     replace b24 := Lw2.cell b24
     replace b30 := Lw2.cell b30
     replace b31 := Lw2.cell b31
     replace f_b30 := Lw2.frz z_b3 f_b30
     replace f_b31 := Lw2.frz z_b3 f_b31
     replace x50 := Lw2.cell x50
     replace x51 := Lw2.cell x51
     replace x52 := Lw2.cell x52
     replace x53 := Lw2.cell x53
     replace x54 := Lw2.cell x54
     have b290 : w2.cell? ⟨w1.heap.size, 0, none⟩ = some (.int .i64 0) := xw2.cell qCl
     have b291 : w2.cell? ⟨w1.heap.size, 1, none⟩ = some (.slice none 0 0) := xw2.cell qCl
     have b292 : w2.cell? ⟨w1.heap.size, 2, none⟩ = some (.slice none 0 0) := xw2.cell qCl
     have f_b290 : w2.frozen? ⟨w1.heap.size, 0, none⟩ = false := xw2.frz (by simp <;> omega) qFz
     have f_b291 : w2.frozen? ⟨w1.heap.size, 1, none⟩ = false := xw2.frz (by simp <;> omega) qFz
     have f_b292 : w2.frozen? ⟨w1.heap.size, 2, none⟩ = false := xw2.frz (by simp <;> omega) qFz
     have z_b1 : w.heap.size < w2.heap.size := qB b10
     have z_b2 : w.heap.size + 1 < w2.heap.size := qB b20
     have z_b3 : w.heap.size + 1 + 1 < w2.heap.size := qB b30
     have z_x5 : bl18 < w2.heap.size := qB x50
     have z_b29 : w1.heap.size < w2.heap.size := qB b290
     have s_w2 : w.heap.size ≤ w2.heap.size := Xw2.size
     have BD3_w2 : Ext w1 w2 := BD3.trans Lw2
     have BL28_w2 : Ext w1 w2 := BL28.trans Lw2
     clear xw2
     try simp only [World.size_alloc, World.size_drew] at i31u
     try simp only [World.size_alloc, World.size_drew] at i31v
     try simp only [World.size_alloc, World.size_drew] at i31uz
     try simp only [World.size_alloc, World.size_drew] at i31vz
     obtain ⟨afv30u, cfv30u, rfl⟩ := i31u.form
     obtain ⟨afv30v, cfv30v, rfl⟩ := i31v.form
     replace i31s := Lib.hid i31s
     have zD_w2 := (BD3_w2).size
     refine hK.out _ _ ⟨b10, b11, b20, b21, b22, b23, b24, b30, b31, x50, x51, x52, x53, x54⟩ (fun hHeld => ?_)
     clear hK K
     try simp only [Act.put, qa, qb, qc, qD, qE, qF]
     refine qHk (v := ?_) 9 rfl (.inl ⟨by rfl, ?_⟩) ?_
     rotate_left
     ·
      (intro w hSw; (try dsimp only at hSw); go_simp; try with_reducible rfl)
     try simp only [Act.put, qa, qb, qc, qD, qE, qF]
     refine qHk (v := ?_) 10 rfl (.inl ⟨by rfl, ?_⟩) ?_
     rotate_left
     ·
      (intro w hSw; (try dsimp only at hSw); go_simp; try with_reducible rfl)
     try simp only [Act.put, qa, qb, qc, qD, qE, qF]
     refine qHk (v := ?_) 11 rfl (.inl ⟨by rfl, ?_⟩) ?_
     rotate_left
     ·
      (intro w hSw; (try dsimp only at hSw); go_simp; try with_reducible rfl)
     try simp only [Act.put, qa, qb, qc, qD, qE, qF]
     refine qHr 13 rfl (fun K hK => ?_)
     try simp only [Act.put, qa, qb, qc, qD, qE, qF]
     go_simp
     generalize hW12 : (((w2.setCell ⟨w1.heap.size, 0, none⟩ (.int .i64 PB)).setCell ⟨w1.heap.size, 1, none⟩ (.slice afv30u PS.length cfv30u)).setCell ⟨w1.heap.size, 2, none⟩ (.slice afv30v PT.length cfv30v)) = w3 at *
     have Kw3 : Chg (w1.heap.size) (w1.heap.size + 1) w2 w3 := by subst hW12; exact qCh
     have Xw3 : Ext w w3 := by subst hW12; exact qXt
     have BD3_w3 : Ext w1 w3 := by subst hW12; exact qXt
     have BL28_w3 : Ext w1 w3 := by subst hW12; exact qXt
     replace b10 := BL28_w3.cell Q27_b10.out
     replace b11 := BL28_w3.cell Q27_b11.out
     replace b20 := BL28_w3.cell Q27_b20.out
     replace b21 := BL28_w3.cell Q27_b21.out
     replace b22 := BL28_w3.cell Q27_b22.out
     replace b23 := BL28_w3.cell Q27_b23.out
     replace b24 := BL28_w3.cell Q27_b24.out
     replace b30 := BL28_w3.cell Q27_b30.out
     replace f_b30 := BL28_w3.frz Q27_zb3 Q27_f_b30.out
     replace b31 := BL28_w3.cell Q27_b31.out
     replace f_b31 := BL28_w3.frz Q27_zb3 Q27_f_b31.out
     replace x50 := BL28_w3.cell Q27_x50.out
     replace x51 := BL28_w3.cell Q27_x51.out
     replace x52 := BL28_w3.cell Q27_x52.out
     replace x53 := BL28_w3.cell Q27_x53.out
     replace x54 := BL28_w3.cell Q27_x54.out
     replace b290 : w3.cell? ⟨w1.heap.size, 0, none⟩ = some (.int .i64 PB) := by subst hW12; go_simp
     replace f_b290 : w3.frozen? ⟨w1.heap.size, 0, none⟩ = false := by subst hW12; first | (simp only [World.frozen?_setCell]; with_reducible assumption) | go_simp
     replace b291 : w3.cell? ⟨w1.heap.size, 1, none⟩ = some (.slice afv30u PS.length cfv30u) := by subst hW12; go_simp
     replace f_b291 : w3.frozen? ⟨w1.heap.size, 1, none⟩ = false := by subst hW12; first | (simp only [World.frozen?_setCell]; with_reducible assumption) | go_simp
     replace b292 : w3.cell? ⟨w1.heap.size, 2, none⟩ = some (.slice afv30v PT.length cfv30v) := by subst hW12; go_simp
     replace f_b292 : w3.frozen? ⟨w1.heap.size, 2, none⟩ = false := by subst hW12; first | (simp only [World.frozen?_setCell]; with_reducible assumption) | go_simp
     replace i31u := i31u.chg Kw3 (by omega)
     replace i31v := i31v.chg Kw3 (by omega)
     replace i31uz := i31uz.chg Kw3 (by omega)
     replace i31vz := i31vz.chg Kw3 (by omega)
     clear Kw3
     have z_b1 : w.heap.size < w3.heap.size := qB b10
     have z_b2 : w.heap.size + 1 < w3.heap.size := qB b20
     have z_b3 : w.heap.size + 1 + 1 < w3.heap.size := qB b30
     have z_x5 : bl18 < w3.heap.size := qB x50
     have z_b29 : w1.heap.size < w3.heap.size := qB b290
     have s_w3 : w.heap.size ≤ w3.heap.size := Xw3.size
     clear hW12
     refine hK.out _ _ ⟨b10, b11, b20, b21, b22, b23, b24, b30, b31, x50, x51, x52, x53, x54⟩ (fun hHeld => ?_)
     clear hK K
     try simp only [Act.put, qa, qb, qc, qD, qE, qF]
     refine qHk (v := ?_) 14 rfl (.inl ⟨by rfl, ?_⟩) ?_
     rotate_left
     ·
      (intro w hSw; (try dsimp only at hSw); go_simp; try with_reducible rfl)
     try simp only [Act.put, qa, qb, qc, qD, qE, qF]
     refine wpAnyH_done qKr ?_ _
     clear hHeld
     go_step
     go_step
     go_meet
     case rel => exact ⟨_, _, _, _, _, rfl, rfl, BD3_w3, (by omega), b290, b291, b292, f_b290, f_b291, f_b292, i31u.lower (by omega), i31v.lower (by omega), i31uz.lower (by omega), i31vz.lower (by omega), i31s.out⟩
   case rest =>
    generalize wc = wc33 at hcut ⊢
    obtain ⟨g34, af39, cf40, af41, cf42, rfl, rfl, xx35, hg_b32, b320, b321, b322, f_b320, f_b321, f_b322, i38u, i38v, i38uz, i38vz, i38s⟩ := hcut
    replace i38s := Lib.hid i38s
    have Lwc33 : Ext w1 wc33 := Ext.trans qXt xx35
    have Xwc33 : Ext w wc33 := Xw1.trans Lwc33
    replace b10 := Lwc33.cell b10
    replace b11 := Lwc33.cell b11
    replace b20 := Lwc33.cell b20
    replace b21 := Lwc33.cell b21
    replace b22 := Lwc33.cell b22
    replace b23 := Lwc33.cell b23
    replace b24 := Lwc33.cell b24
    replace b30 := Lwc33.cell b30
    replace b31 := Lwc33.cell b31
    replace f_b30 := Lwc33.frz z_b3 f_b30
    replace f_b31 := Lwc33.frz z_b3 f_b31
    replace x50 := Lwc33.cell x50
    replace x51 := Lwc33.cell x51
    replace x52 := Lwc33.cell x52
    replace x53 := Lwc33.cell x53
    replace x54 := Lwc33.cell x54
    have z_b1 : w.heap.size < wc33.heap.size := qB b10
    have z_b2 : w.heap.size + 1 < wc33.heap.size := qB b20
    have z_b3 : w.heap.size + 1 + 1 < wc33.heap.size := qB b30
    have z_x5 : bl18 < wc33.heap.size := qB x50
    have s_wc33 : w.heap.size ≤ wc33.heap.size := Xwc33.size
    clear xx35
    have z_b32 : g34 < wc33.heap.size := qB b320
    go_wp2_with fail
    generalize hW13 : ((wc33.setCell ⟨w.heap.size + 1 + 1, 0, none⟩ (.slice none 0 0)).setCell ⟨w.heap.size + 1 + 1, 1, none⟩ (.slice none 0 0)) = w2 at *
    have Kw2 : Chg (w.heap.size + 1 + 1) (w.heap.size + 1 + 1 + 1) wc33 w2 := by subst hW13; exact qCh
    have Xw2 : Ext w w2 := by subst hW13; exact qXt
    replace b10 := Kw2.cell (by omega) b10
    replace b11 := Kw2.cell (by omega) b11
    replace b20 := Kw2.cell (by omega) b20
    replace b21 := Kw2.cell (by omega) b21
    replace b22 := Kw2.cell (by omega) b22
    replace b23 := Kw2.cell (by omega) b23
    replace b24 := Kw2.cell (by omega) b24
    replace b30 : w2.cell? ⟨w.heap.size + 1 + 1, 0, none⟩ = some (.slice none 0 0) := by subst hW13; go_simp
    replace f_b30 : w2.frozen? ⟨w.heap.size + 1 + 1, 0, none⟩ = false := by subst hW13; first | (simp only [World.frozen?_setCell]; with_reducible assumption) | go_simp
    replace b31 : w2.cell? ⟨w.heap.size + 1 + 1, 1, none⟩ = some (.slice none 0 0) := by subst hW13; go_simp
    replace f_b31 : w2.frozen? ⟨w.heap.size + 1 + 1, 1, none⟩ = false := by subst hW13; first | (simp only [World.frozen?_setCell]; with_reducible assumption) | go_simp
    replace x50 := Kw2.cell (by omega) x50
    replace x51 := Kw2.cell (by omega) x51
    replace x52 := Kw2.cell (by omega) x52
    replace x53 := Kw2.cell (by omega) x53
    replace x54 := Kw2.cell (by omega) x54
    replace b320 := Kw2.cell (by omega) b320
    replace f_b320 := Kw2.frzO (by omega) z_b32 f_b320
    replace b321 := Kw2.cell (by omega) b321
    replace f_b321 := Kw2.frzO (by omega) z_b32 f_b321
    replace b322 := Kw2.cell (by omega) b322
    replace f_b322 := Kw2.frzO (by omega) z_b32 f_b322
    replace i38u := i38u.chg Kw2 (by omega)
    replace i38v := i38v.chg Kw2 (by omega)
    replace i38uz := i38uz.chg Kw2 (by omega)
    replace i38vz := i38vz.chg Kw2 (by omega)
    clear Kw2
    have z_b1 : w.heap.size < w2.heap.size := qB b10
    have z_b2 : w.heap.size + 1 < w2.heap.size := qB b20
    have z_b3 : w.heap.size + 1 + 1 < w2.heap.size := qB b30
    have z_x5 : bl18 < w2.heap.size := qB x50
    have z_b32 : g34 < w2.heap.size := qB b320
    have s_w2 : w.heap.size ≤ w2.heap.size := Xw2.size
    clear hW13
    refine bodyPost_ret (v := .tuple #[.agg #[.slice none 0 0, .slice none 0 0], .bool false]) (by simp only [results, Try.results51]; go_simp) rfl ?_
    exact PBX.no (by unfold parA; simp only [Int.toNat_natCast]; rw [hX11.out]; dsimp only; rw [hP.out, Bool.and_false]; rfl) (Xw2.trans qXt)
  ·
   go_wp2_with fail
   go_cut [10, 11] (fun s10 s11 wx => ∃ (g : Nat) (afv43u : Option Addr) (cfv43u : Nat) (afv43v : Option Addr) (cfv43v : Nat), s10 = .pointer (some ⟨g, 0, none⟩) ∧ s11 = .bool true ∧ Ext w1 wx ∧ w1.heap.size ≤ g ∧ wx.cell? ⟨g, 0, none⟩ = some (.int .i64 PB) ∧ wx.cell? ⟨g, 1, none⟩ = some (.slice afv43u PS.length cfv43u) ∧ wx.cell? ⟨g, 2, none⟩ = some (.slice afv43v PT.length cfv43v) ∧ wx.frozen? ⟨g, 0, none⟩ = false ∧ wx.frozen? ⟨g, 1, none⟩ = false ∧ wx.frozen? ⟨g, 2, none⟩ = false ∧ Ints wx w1.heap.size (.slice afv43u PS.length cfv43u) PS ∧ Ints wx w1.heap.size (.slice afv43v PT.length cfv43v) PT ∧ OwnZ wx w1.heap.size (.slice afv43u PS.length cfv43u) PS ∧ OwnZ wx w1.heap.size (.slice afv43v PT.length cfv43v) PT ∧ (PS ≠ [] → PT ≠ [] → (Value.slice afv43u PS.length cfv43u).ownBlock ≠ (Value.slice afv43v PT.length cfv43v).ownBlock))
   case first =>
    have BD3 : Ext w1 w1 := Ext.refl _
    refine wp_region_held_drew (S := fun w' => w'.cell? ⟨w.heap.size, 0, none⟩ = some (.slice p0 cells.length c0) ∧ w'.cell? ⟨w.heap.size, 1, none⟩ = some (.slice (some ⟨bl18, ol19, none⟩) es.length c1) ∧ w'.cell? ⟨w.heap.size + 1, 0, none⟩ = some (.int .i64 F) ∧ w'.cell? ⟨w.heap.size + 1, 1, none⟩ = some (.int .i64 T) ∧ w'.cell? ⟨w.heap.size + 1, 2, none⟩ = some (.int .i64 B) ∧ w'.cell? ⟨w.heap.size + 1, 3, none⟩ = some (.bool hf) ∧ w'.cell? ⟨w.heap.size + 1, 4, none⟩ = some (.bool ht) ∧ w'.cell? ⟨w.heap.size + 1 + 1, 0, none⟩ = some (.slice none 0 0) ∧ w'.cell? ⟨w.heap.size + 1 + 1, 1, none⟩ = some (.slice none 0 0) ∧ w'.cell? ⟨bl18, ol19 + k * 5, none⟩ = some (.int .i64 P6) ∧ w'.cell? ⟨bl18, ol19 + k * 5 + 1, none⟩ = some (.int .i64 B7) ∧ w'.cell? ⟨bl18, ol19 + k * 5 + 2, none⟩ = some (.slice u12 S8.length c13) ∧ w'.cell? ⟨bl18, ol19 + k * 5 + 3, none⟩ = some (.slice u14 T9.length c15) ∧ w'.cell? ⟨bl18, ol19 + k * 5 + 4, none⟩ = some (.bool O10)) qKr ⟨b10, b11, b20, b21, b22, b23, b24, b30, b31, x50, x51, x52, x53, x54⟩ (fun hHeld => ?_)
    refine qHk (v := ?_) 0 rfl (.inl ⟨by rfl, ?_⟩) ?_
    rotate_left
    ·
     (intro w hSw; (try dsimp only at hSw); go_simp; try with_reducible rfl)
    try simp only [Act.put, qa, qb, qc, qD, qE, qF]
    refine qHk (v := ?_) 1 rfl (.inl ⟨by rfl, ?_⟩) ?_
    rotate_left
    ·
     (intro w hSw; (try dsimp only at hSw); go_simp; try with_reducible rfl)
    try simp only [Act.put, qa, qb, qc, qD, qE, qF]
    refine qHk (v := ?_) 2 rfl (.inl ⟨by rfl, ?_⟩) ?_
    rotate_left
    ·
     (intro w hSw; (try dsimp only at hSw); go_simp; try with_reducible rfl)
    try simp only [Act.put, qa, qb, qc, qD, qE, qF]
    refine qHk (v := ?_) 3 rfl (.inl ⟨by rfl, ?_⟩) ?_
    rotate_left
    ·
     (intro w hSw; (try dsimp only at hSw); go_simp; try with_reducible rfl)
    try simp only [Act.put, qa, qb, qc, qD, qE, qF]
    refine qHk (v := ?_) 4 rfl (.inl ⟨by rfl, ?_⟩) ?_
    rotate_left
    ·
     (intro w hSw; (try dsimp only at hSw); go_simp; try with_reducible rfl)
    try simp only [Act.put, qa, qb, qc, qD, qE, qF]
    refine qHk (v := ?_) 5 rfl (.inl ⟨by rfl, ?_⟩) ?_
    rotate_left
    ·
     (intro w hSw; (try dsimp only at hSw); go_simp; try with_reducible rfl)
    try simp only [Act.put, qa, qb, qc, qD, qE, qF]
    refine qHk (v := ?_) 6 rfl (.inl ⟨by rfl, ?_⟩) ?_
    rotate_left
    ·
     (intro w hSw; (try dsimp only at hSw); go_simp; try with_reducible rfl)
    try simp only [Act.put, qa, qb, qc, qD, qE, qF]
    refine qHk (v := ?_) 7 rfl (.inl ⟨by rfl, ?_⟩) ?_
    rotate_left
    ·
     (intro w hSw; (try dsimp only at hSw); go_simp; try with_reducible rfl)
    try simp only [Act.put, qa, qb, qc, qD, qE, qF]
    refine wpAnyH_ready (rs := [8, 12]) qKr (by simp) ?_
    refine AllReadyH.cons rfl (fun K hK => ?_) (AllReadyH.cons rfl (fun K hK => ?_) AllReadyH.nil)
    ·
     try simp only [Act.put, qa, qb, qc, qD, qE, qF]
     go_simp
     refine (pv_eq hP.out (implSliceDim_s B7 (.slice u12 S8.length c13) (.slice u14 T9.length c15) S8 T9 d F T B hf ht _ _ _ (i16.ext (Xw1.trans qXt)) (i17.ext (Xw1.trans qXt)))).mono ?_
     rintro e w2 ⟨fv43u, fv43v, rfl, i44u, i44v, i44uz, i44vz, i44s, xw2⟩
     have Lw2 : Ext w1 w2 := Ext.trans qXt xw2
     have Xw2 : Ext w w2 := Xw1.trans Lw2
     replace b10 := Lw2.cell b10
     replace b11 := Lw2.cell b11
     replace b20 := Lw2.cell b20
     replace b21 := Lw2.cell b21
     replace b22 := Lw2.cell b22
     replace b23 := Lw2.cell b23
     replace b24 := Lw2.cell b24
     replace b30 := Lw2.cell b30
     replace b31 := Lw2.cell b31
     replace f_b30 := Lw2.frz z_b3 f_b30
     replace f_b31 := Lw2.frz z_b3 f_b31
     replace x50 := Lw2.cell x50
     replace x51 := Lw2.cell x51
     replace x52 := Lw2.cell x52
     replace x53 := Lw2.cell x53
     replace x54 := Lw2.cell x54
     have z_b1 : w.heap.size < w2.heap.size := qB b10
     have z_b2 : w.heap.size + 1 < w2.heap.size := qB b20
     have z_b3 : w.heap.size + 1 + 1 < w2.heap.size := qB b30
     have z_x5 : bl18 < w2.heap.size := qB x50
     have s_w2 : w.heap.size ≤ w2.heap.size := Xw2.size
     have BD3_w2 : Ext w1 w2 := BD3.trans Lw2
     clear xw2
     try simp only [World.size_alloc, World.size_drew] at i44u
     try simp only [World.size_alloc, World.size_drew] at i44v
     try simp only [World.size_alloc, World.size_drew] at i44uz
     try simp only [World.size_alloc, World.size_drew] at i44vz
     obtain ⟨afv43u, cfv43u, rfl⟩ := i44u.form
     obtain ⟨afv43v, cfv43v, rfl⟩ := i44v.form
     replace i44s := Lib.hid i44s
     have zD_w2 := (BD3_w2).size
     refine hK.out _ _ ⟨b10, b11, b20, b21, b22, b23, b24, b30, b31, x50, x51, x52, x53, x54⟩ (fun hHeld => ?_)
     clear hK K
     try simp only [Act.put, qa, qb, qc, qD, qE, qF]
     refine qHk (v := ?_) 9 rfl (.inl ⟨by rfl, ?_⟩) ?_
     rotate_left
     ·
      (intro w hSw; (try dsimp only at hSw); go_simp; try with_reducible rfl)
     try simp only [Act.put, qa, qb, qc, qD, qE, qF]
     refine qHk (v := ?_) 10 rfl (.inl ⟨by rfl, ?_⟩) ?_
     rotate_left
     ·
      (intro w hSw; (try dsimp only at hSw); go_simp; try with_reducible rfl)
     try simp only [Act.put, qa, qb, qc, qD, qE, qF]
     refine qHk (v := ?_) 11 rfl (.inl ⟨by rfl, ?_⟩) ?_
     rotate_left
     ·
      (intro w hSw; (try dsimp only at hSw); go_simp; try with_reducible rfl)
     try simp only [Act.put, qa, qb, qc, qD, qE, qF]
     refine qHr 12 rfl (fun K hK => ?_)
     try simp only [Act.put, qa, qb, qc, qD, qE, qF]
     go_simp
     have Q45_b10 := Lib.hid b10
     have Q45_b11 := Lib.hid b11
     have Q45_zb1 := z_b1
     have Q45_b20 := Lib.hid b20
     have Q45_b21 := Lib.hid b21
     have Q45_b22 := Lib.hid b22
     have Q45_b23 := Lib.hid b23
     have Q45_b24 := Lib.hid b24
     have Q45_zb2 := z_b2
     have Q45_b30 := Lib.hid b30
     have Q45_f_b30 := Lib.hid f_b30
     have Q45_b31 := Lib.hid b31
     have Q45_f_b31 := Lib.hid f_b31
     have Q45_zb3 := z_b3
     have Q45_x50 := Lib.hid x50
     have Q45_x51 := Lib.hid x51
     have Q45_x52 := Lib.hid x52
     have Q45_x53 := Lib.hid x53
     have Q45_x54 := Lib.hid x54
     have Q45_zx5 := z_x5
     have Q45_i44u := Lib.hid i44u
     have Q45_i44v := Lib.hid i44v
     have Q45_i44uz := Lib.hid i44uz
     have Q45_i44vz := Lib.hid i44vz
     have BL46 : Ext w2 w2 := Ext.refl _
     have Q47_b10 := Lib.hid b10
     have Q47_b11 := Lib.hid b11
     have Q47_zb1 := z_b1
     have Q47_b20 := Lib.hid b20
     have Q47_b21 := Lib.hid b21
     have Q47_b22 := Lib.hid b22
     have Q47_b23 := Lib.hid b23
     have Q47_b24 := Lib.hid b24
     have Q47_zb2 := z_b2
     have Q47_b30 := Lib.hid b30
     have Q47_f_b30 := Lib.hid f_b30
     have Q47_b31 := Lib.hid b31
     have Q47_f_b31 := Lib.hid f_b31
     have Q47_zb3 := z_b3
     have Q47_x50 := Lib.hid x50
     have Q47_x51 := Lib.hid x51
     have Q47_x52 := Lib.hid x52
     have Q47_x53 := Lib.hid x53
     have Q47_x54 := Lib.hid x54
     have Q47_zx5 := z_x5
     have Q47_i44u := Lib.hid i44u
     have Q47_i44v := Lib.hid i44v
     have Q47_i44uz := Lib.hid i44uz
     have Q47_i44vz := Lib.hid i44vz
     have BL48 : Ext w2 w2 := Ext.refl _
     refine hK.out _ _ ⟨(show Ext w2 _ from qXt).cell b10, (show Ext w2 _ from qXt).cell b11, (show Ext w2 _ from qXt).cell b20, (show Ext w2 _ from qXt).cell b21, (show Ext w2 _ from qXt).cell b22, (show Ext w2 _ from qXt).cell b23, (show Ext w2 _ from qXt).cell b24, (show Ext w2 _ from qXt).cell b30, (show Ext w2 _ from qXt).cell b31, (show Ext w2 _ from qXt).cell x50, (show Ext w2 _ from qXt).cell x51, (show Ext w2 _ from qXt).cell x52, (show Ext w2 _ from qXt).cell x53, (show Ext w2 _ from qXt).cell x54⟩ (fun hHeld => ?_)
     clear hK K
     try simp only [Act.put, qa, qb, qc, qD, qE, qF]
     refine qHr 13 rfl (fun K hK => ?_)
     try simp only [Act.put, qa, qb, qc, qD, qE, qF]
     go_simp
     have zn_BD3_w3 := (BD3_w2).size
     have zn_BL46_w3 := (BL46).size
     have zn_BL48_w3 := (BL48).size
     generalize hW14 : w2.alloc (.cells #[.int .i64 PB, .slice afv43u PS.length cfv43u, .slice afv43v PT.length cfv43v] 36) = w3 at *
     have Lw3 : Ext w2 w3 := by subst hW14; exact qXt
     have Xw3 : Ext w w3 := Xw2.trans Lw3
     replace b10 := Lw3.cell b10
     replace b11 := Lw3.cell b11
     replace b20 := Lw3.cell b20
     replace b21 := Lw3.cell b21
     replace b22 := Lw3.cell b22
     replace b23 := Lw3.cell b23
     replace b24 := Lw3.cell b24
     replace b30 := Lw3.cell b30
     replace b31 := Lw3.cell b31
     replace f_b30 := Lw3.frz z_b3 f_b30
     replace f_b31 := Lw3.frz z_b3 f_b31
     replace x50 := Lw3.cell x50
     replace x51 := Lw3.cell x51
     replace x52 := Lw3.cell x52
     replace x53 := Lw3.cell x53
     replace x54 := Lw3.cell x54
     have b490 : w3.cell? ⟨w2.heap.size, 0, none⟩ = some (.int .i64 PB) := by subst hW14; exact qCl
     have b491 : w3.cell? ⟨w2.heap.size, 1, none⟩ = some (.slice afv43u PS.length cfv43u) := by subst hW14; exact qCl
     have b492 : w3.cell? ⟨w2.heap.size, 2, none⟩ = some (.slice afv43v PT.length cfv43v) := by subst hW14; exact qCl
     have f_b490 : w3.frozen? ⟨w2.heap.size, 0, none⟩ = false := by subst hW14; exact qFz
     have f_b491 : w3.frozen? ⟨w2.heap.size, 1, none⟩ = false := by subst hW14; exact qFz
     have f_b492 : w3.frozen? ⟨w2.heap.size, 2, none⟩ = false := by subst hW14; exact qFz
     have z_b1 : w.heap.size < w3.heap.size := qB b10
     have z_b2 : w.heap.size + 1 < w3.heap.size := qB b20
     have z_b3 : w.heap.size + 1 + 1 < w3.heap.size := qB b30
     have z_x5 : bl18 < w3.heap.size := qB x50
     have z_b49 : w2.heap.size < w3.heap.size := qB b490
     replace i44u := i44u.ext Lw3
     replace i44v := i44v.ext Lw3
     replace i44uz := i44uz.ext Lw3
     replace i44vz := i44vz.ext Lw3
     have s_w3 : w.heap.size ≤ w3.heap.size := Xw3.size
     have BD3_w3 : Ext w1 w3 := BD3_w2.trans Lw3
     have BL46_w3 : Ext w2 w3 := BL46.trans Lw3
     have BL48_w3 : Ext w2 w3 := BL48.trans Lw3
     clear hW14
     refine hK.out _ _ ⟨b10, b11, b20, b21, b22, b23, b24, b30, b31, x50, x51, x52, x53, x54⟩ (fun hHeld => ?_)
     clear hK K
     try simp only [Act.put, qa, qb, qc, qD, qE, qF]
     refine qHk (v := ?_) 14 rfl (.inl ⟨by rfl, ?_⟩) ?_
     rotate_left
     ·
      (intro w hSw; (try dsimp only at hSw); go_simp; try with_reducible rfl)
     try simp only [Act.put, qa, qb, qc, qD, qE, qF]
     refine wpAnyH_done qKr ?_ _
     clear hHeld
     go_step
     go_step
     go_meet
     case rel => exact ⟨_, _, _, _, _, rfl, rfl, BD3_w3, (by omega), b490, b491, b492, f_b490, f_b491, f_b492, i44u.lower (by omega), i44v.lower (by omega), i44uz.lower (by omega), i44vz.lower (by omega), i44s.out⟩
    ·
     try simp only [Act.put, qa, qb, qc, qD, qE, qF]
     go_simp
     have Q50_b10 := Lib.hid b10
     have Q50_b11 := Lib.hid b11
     have Q50_zb1 := z_b1
     have Q50_b20 := Lib.hid b20
     have Q50_b21 := Lib.hid b21
     have Q50_b22 := Lib.hid b22
     have Q50_b23 := Lib.hid b23
     have Q50_b24 := Lib.hid b24
     have Q50_zb2 := z_b2
     have Q50_b30 := Lib.hid b30
     have Q50_f_b30 := Lib.hid f_b30
     have Q50_b31 := Lib.hid b31
     have Q50_f_b31 := Lib.hid f_b31
     have Q50_zb3 := z_b3
     have Q50_x50 := Lib.hid x50
     have Q50_x51 := Lib.hid x51
     have Q50_x52 := Lib.hid x52
     have Q50_x53 := Lib.hid x53
     have Q50_x54 := Lib.hid x54
     have Q50_zx5 := z_x5
     have BL51 : Ext w1 w1 := Ext.refl _
     refine hK.out _ _ ⟨(show Ext w1 _ from qXt).cell b10, (show Ext w1 _ from qXt).cell b11, (show Ext w1 _ from qXt).cell b20, (show Ext w1 _ from qXt).cell b21, (show Ext w1 _ from qXt).cell b22, (show Ext w1 _ from qXt).cell b23, (show Ext w1 _ from qXt).cell b24, (show Ext w1 _ from qXt).cell b30, (show Ext w1 _ from qXt).cell b31, (show Ext w1 _ from qXt).cell x50, (show Ext w1 _ from qXt).cell x51, (show Ext w1 _ from qXt).cell x52, (show Ext w1 _ from qXt).cell x53, (show Ext w1 _ from qXt).cell x54⟩ (fun hHeld => ?_)
     clear hK K
     try simp only [Act.put, qa, qb, qc, qD, qE, qF]
     refine qHr 8 rfl (fun K hK => ?_)
     try simp only [Act.put, qa, qb, qc, qD, qE, qF]
     go_simp
     refine (pv_eq hP.out (implSliceDim_s B7 (.slice u12 S8.length c13) (.slice u14 T9.length c15) S8 T9 d F T B hf ht _ _ _ (i16.ext (Xw1.trans qXt)) (i17.ext (Xw1.trans qXt)))).mono ?_
     rintro e w2 ⟨fv53u, fv53v, rfl, i54u, i54v, i54uz, i54vz, i54s, xw2⟩
     have Lw2 : Ext w1 w2 := Ext.trans qXt xw2
     have Xw2 : Ext w w2 := Xw1.trans Lw2
     replace b10 := Lw2.cell b10
     replace b11 := Lw2.cell b11
     replace b20 := Lw2.cell b20
     replace b21 := Lw2.cell b21
     replace b22 := Lw2.cell b22
     replace b23 := Lw2.cell b23
     replace b24 := Lw2.cell b24
     replace b30 := Lw2.cell b30
     replace b31 := Lw2.cell b31
     replace f_b30 := Lw2.frz z_b3 f_b30
     replace f_b31 := Lw2.frz z_b3 f_b31
     replace x50 := Lw2.cell x50
     replace x51 := Lw2.cell x51
     replace x52 := Lw2.cell x52
     replace x53 := Lw2.cell x53
     replace x54 := Lw2.cell x54
     have b520 : w2.cell? ⟨w1.heap.size, 0, none⟩ = some (.int .i64 0) := xw2.cell qCl
     have b521 : w2.cell? ⟨w1.heap.size, 1, none⟩ = some (.slice none 0 0) := xw2.cell qCl
     have b522 : w2.cell? ⟨w1.heap.size, 2, none⟩ = some (.slice none 0 0) := xw2.cell qCl
     have f_b520 : w2.frozen? ⟨w1.heap.size, 0, none⟩ = false := xw2.frz (by simp <;> omega) qFz
     have f_b521 : w2.frozen? ⟨w1.heap.size, 1, none⟩ = false := xw2.frz (by simp <;> omega) qFz
     have f_b522 : w2.frozen? ⟨w1.heap.size, 2, none⟩ = false := xw2.frz (by simp <;> omega) qFz
     have z_b1 : w.heap.size < w2.heap.size := qB b10
     have z_b2 : w.heap.size + 1 < w2.heap.size := qB b20
     have z_b3 : w.heap.size + 1 + 1 < w2.heap.size := qB b30
     have z_x5 : bl18 < w2.heap.size := qB x50
     have z_b52 : w1.heap.size < w2.heap.size := qB b520
     have s_w2 : w.heap.size ≤ w2.heap.size := Xw2.size
     have BD3_w2 : Ext w1 w2 := BD3.trans Lw2
     have BL51_w2 : Ext w1 w2 := BL51.trans Lw2
     clear xw2
     try simp only [World.size_alloc, World.size_drew] at i54u
     try simp only [World.size_alloc, World.size_drew] at i54v
     try simp only [World.size_alloc, World.size_drew] at i54uz
     try simp only [World.size_alloc, World.size_drew] at i54vz
     obtain ⟨afv53u, cfv53u, rfl⟩ := i54u.form
     obtain ⟨afv53v, cfv53v, rfl⟩ := i54v.form
     replace i54s := Lib.hid i54s
     have zD_w2 := (BD3_w2).size
     refine hK.out _ _ ⟨b10, b11, b20, b21, b22, b23, b24, b30, b31, x50, x51, x52, x53, x54⟩ (fun hHeld => ?_)
     clear hK K
     try simp only [Act.put, qa, qb, qc, qD, qE, qF]
     refine qHk (v := ?_) 9 rfl (.inl ⟨by rfl, ?_⟩) ?_
     rotate_left
     ·
      (intro w hSw; (try dsimp only at hSw); go_simp; try with_reducible rfl)
     try simp only [Act.put, qa, qb, qc, qD, qE, qF]
     refine qHk (v := ?_) 10 rfl (.inl ⟨by rfl, ?_⟩) ?_
     rotate_left
     ·
      (intro w hSw; (try dsimp only at hSw); go_simp; try with_reducible rfl)
     try simp only [Act.put, qa, qb, qc, qD, qE, qF]
     refine qHk (v := ?_) 11 rfl (.inl ⟨by rfl, ?_⟩) ?_
     rotate_left
     ·
      (intro w hSw; (try dsimp only at hSw); go_simp; try with_reducible rfl)
     try simp only [Act.put, qa, qb, qc, qD, qE, qF]
     refine qHr 13 rfl (fun K hK => ?_)
     try simp only [Act.put, qa, qb, qc, qD, qE, qF]
     go_simp
     generalize hW15 : (((w2.setCell ⟨w1.heap.size, 0, none⟩ (.int .i64 PB)).setCell ⟨w1.heap.size, 1, none⟩ (.slice afv53u PS.length cfv53u)).setCell ⟨w1.heap.size, 2, none⟩ (.slice afv53v PT.length cfv53v)) = w3 at *
     have Kw3 : Chg (w1.heap.size) (w1.heap.size + 1) w2 w3 := by subst hW15; exact qCh
     have Xw3 : Ext w w3 := by subst hW15; exact qXt
     have BD3_w3 : Ext w1 w3 := by subst hW15; exact qXt
     have BL51_w3 : Ext w1 w3 := by subst hW15; exact qXt
     replace b10 := BL51_w3.cell Q50_b10.out
     replace b11 := BL51_w3.cell Q50_b11.out
     replace b20 := BL51_w3.cell Q50_b20.out
     replace b21 := BL51_w3.cell Q50_b21.out
     replace b22 := BL51_w3.cell Q50_b22.out
     replace b23 := BL51_w3.cell Q50_b23.out
     replace b24 := BL51_w3.cell Q50_b24.out
     replace b30 := BL51_w3.cell Q50_b30.out
     replace f_b30 := BL51_w3.frz Q50_zb3 Q50_f_b30.out
     replace b31 := BL51_w3.cell Q50_b31.out
     replace f_b31 := BL51_w3.frz Q50_zb3 Q50_f_b31.out
     replace x50 := BL51_w3.cell Q50_x50.out
     replace x51 := BL51_w3.cell Q50_x51.out
     replace x52 := BL51_w3.cell Q50_x52.out
     replace x53 := BL51_w3.cell Q50_x53.out
     replace x54 := BL51_w3.cell Q50_x54.out
     replace b520 : w3.cell? ⟨w1.heap.size, 0, none⟩ = some (.int .i64 PB) := by subst hW15; go_simp
     replace f_b520 : w3.frozen? ⟨w1.heap.size, 0, none⟩ = false := by subst hW15; first | (simp only [World.frozen?_setCell]; with_reducible assumption) | go_simp
     replace b521 : w3.cell? ⟨w1.heap.size, 1, none⟩ = some (.slice afv53u PS.length cfv53u) := by subst hW15; go_simp
     replace f_b521 : w3.frozen? ⟨w1.heap.size, 1, none⟩ = false := by subst hW15; first | (simp only [World.frozen?_setCell]; with_reducible assumption) | go_simp
     replace b522 : w3.cell? ⟨w1.heap.size, 2, none⟩ = some (.slice afv53v PT.length cfv53v) := by subst hW15; go_simp
     replace f_b522 : w3.frozen? ⟨w1.heap.size, 2, none⟩ = false := by subst hW15; first | (simp only [World.frozen?_setCell]; with_reducible assumption) | go_simp
     replace i54u := i54u.chg Kw3 (by omega)
     replace i54v := i54v.chg Kw3 (by omega)
     replace i54uz := i54uz.chg Kw3 (by omega)
     replace i54vz := i54vz.chg Kw3 (by omega)
     clear Kw3
     have z_b1 : w.heap.size < w3.heap.size := qB b10
     have z_b2 : w.heap.size + 1 < w3.heap.size := qB b20
     have z_b3 : w.heap.size + 1 + 1 < w3.heap.size := qB b30
     have z_x5 : bl18 < w3.heap.size := qB x50
     have z_b52 : w1.heap.size < w3.heap.size := qB b520
     have s_w3 : w.heap.size ≤ w3.heap.size := Xw3.size
     clear hW15
     refine hK.out _ _ ⟨b10, b11, b20, b21, b22, b23, b24, b30, b31, x50, x51, x52, x53, x54⟩ (fun hHeld => ?_)
     clear hK K
     try simp only [Act.put, qa, qb, qc, qD, qE, qF]
     refine qHk (v := ?_) 14 rfl (.inl ⟨by rfl, ?_⟩) ?_
     rotate_left
     ·
      (intro w hSw; (try dsimp only at hSw); go_simp; try with_reducible rfl)
     try simp only [Act.put, qa, qb, qc, qD, qE, qF]
     refine wpAnyH_done qKr ?_ _
     clear hHeld
     go_step
     go_step
     go_meet
     case rel => exact ⟨_, _, _, _, _, rfl, rfl, BD3_w3, (by omega), b520, b521, b522, f_b520, f_b521, f_b522, i54u.lower (by omega), i54v.lower (by omega), i54uz.lower (by omega), i54vz.lower (by omega), i54s.out⟩
   case rest =>
    generalize wc = wc56 at hcut ⊢
    obtain ⟨g57, af62, cf63, af64, cf65, rfl, rfl, xx58, hg_b55, b550, b551, b552, f_b550, f_b551, f_b552, i61u, i61v, i61uz, i61vz, i61s⟩ := hcut
    replace i61s := Lib.hid i61s
    have Lwc56 : Ext w1 wc56 := Ext.trans qXt xx58
    have Xwc56 : Ext w wc56 := Xw1.trans Lwc56
    replace b10 := Lwc56.cell b10
    replace b11 := Lwc56.cell b11
    replace b20 := Lwc56.cell b20
    replace b21 := Lwc56.cell b21
    replace b22 := Lwc56.cell b22
    replace b23 := Lwc56.cell b23
    replace b24 := Lwc56.cell b24
    replace b30 := Lwc56.cell b30
    replace b31 := Lwc56.cell b31
    replace f_b30 := Lwc56.frz z_b3 f_b30
    replace f_b31 := Lwc56.frz z_b3 f_b31
    replace x50 := Lwc56.cell x50
    replace x51 := Lwc56.cell x51
    replace x52 := Lwc56.cell x52
    replace x53 := Lwc56.cell x53
    replace x54 := Lwc56.cell x54
    have z_b1 : w.heap.size < wc56.heap.size := qB b10
    have z_b2 : w.heap.size + 1 < wc56.heap.size := qB b20
    have z_b3 : w.heap.size + 1 + 1 < wc56.heap.size := qB b30
    have z_x5 : bl18 < wc56.heap.size := qB x50
    have s_wc56 : w.heap.size ≤ wc56.heap.size := Xwc56.size
    clear xx58
    have z_b55 : g57 < wc56.heap.size := qB b550
    go_wp2_with fail
    refine (withExport_0 cells es (.slice p0 cells.length c0) (.slice (some ⟨bl18, ol19, none⟩) es.length c1) (k : Int) PB (.slice af62 PS.length cf63) (.slice af64 PT.length cf65) PS PT true _ _ _ _ (h1.ext (Xwc56.trans qXt)) (h2.ext (Xwc56.trans qXt)) (by omega) (i61uz.ext qXt) (i61vz.ext qXt) i61s.out (by omega) (by omega) (by omega)).mono ?_
    rintro e w2 ⟨rfl, xw2⟩
    have Lw2 : Ext wc56 w2 := Ext.trans qXt xw2
    have Xw2 : Ext w w2 := Xwc56.trans Lw2
    replace b10 := Lw2.cell b10
    replace b11 := Lw2.cell b11
    replace b20 := Lw2.cell b20
    replace b21 := Lw2.cell b21
    replace b22 := Lw2.cell b22
    replace b23 := Lw2.cell b23
    replace b24 := Lw2.cell b24
    replace b30 := Lw2.cell b30
    replace b31 := Lw2.cell b31
    replace f_b30 := Lw2.frz z_b3 f_b30
    replace f_b31 := Lw2.frz z_b3 f_b31
    replace x50 := Lw2.cell x50
    replace x51 := Lw2.cell x51
    replace x52 := Lw2.cell x52
    replace x53 := Lw2.cell x53
    replace x54 := Lw2.cell x54
    replace b550 := Lw2.cell b550
    replace b551 := Lw2.cell b551
    replace b552 := Lw2.cell b552
    replace f_b550 := Lw2.frz z_b55 f_b550
    replace f_b551 := Lw2.frz z_b55 f_b551
    replace f_b552 := Lw2.frz z_b55 f_b552
    have z_b1 : w.heap.size < w2.heap.size := qB b10
    have z_b2 : w.heap.size + 1 < w2.heap.size := qB b20
    have z_b3 : w.heap.size + 1 + 1 < w2.heap.size := qB b30
    have z_x5 : bl18 < w2.heap.size := qB x50
    have z_b55 : g57 < w2.heap.size := qB b550
    replace i61u := i61u.ext Lw2
    replace i61v := i61v.ext Lw2
    replace i61uz := i61uz.ext Lw2
    replace i61vz := i61vz.ext Lw2
    have s_w2 : w.heap.size ≤ w2.heap.size := Xw2.size
    clear xw2
    go_wp2_with fail
    generalize hW16 : ((w2.setCell ⟨w.heap.size + 1 + 1, 0, none⟩ (.slice none 0 0)).setCell ⟨w.heap.size + 1 + 1, 1, none⟩ (.slice none 0 0)) = w3 at *
    have Kw3 : Chg (w.heap.size + 1 + 1) (w.heap.size + 1 + 1 + 1) w2 w3 := by subst hW16; exact qCh
    have Xw3 : Ext w w3 := by subst hW16; exact qXt
    replace b10 := Kw3.cell (by omega) b10
    replace b11 := Kw3.cell (by omega) b11
    replace b20 := Kw3.cell (by omega) b20
    replace b21 := Kw3.cell (by omega) b21
    replace b22 := Kw3.cell (by omega) b22
    replace b23 := Kw3.cell (by omega) b23
    replace b24 := Kw3.cell (by omega) b24
    replace b30 : w3.cell? ⟨w.heap.size + 1 + 1, 0, none⟩ = some (.slice none 0 0) := by subst hW16; go_simp
    replace f_b30 : w3.frozen? ⟨w.heap.size + 1 + 1, 0, none⟩ = false := by subst hW16; first | (simp only [World.frozen?_setCell]; with_reducible assumption) | go_simp
    replace b31 : w3.cell? ⟨w.heap.size + 1 + 1, 1, none⟩ = some (.slice none 0 0) := by subst hW16; go_simp
    replace f_b31 : w3.frozen? ⟨w.heap.size + 1 + 1, 1, none⟩ = false := by subst hW16; first | (simp only [World.frozen?_setCell]; with_reducible assumption) | go_simp
    replace x50 := Kw3.cell (by omega) x50
    replace x51 := Kw3.cell (by omega) x51
    replace x52 := Kw3.cell (by omega) x52
    replace x53 := Kw3.cell (by omega) x53
    replace x54 := Kw3.cell (by omega) x54
    replace b550 := Kw3.cell (by omega) b550
    replace f_b550 := Kw3.frzO (by omega) z_b55 f_b550
    replace b551 := Kw3.cell (by omega) b551
    replace f_b551 := Kw3.frzO (by omega) z_b55 f_b551
    replace b552 := Kw3.cell (by omega) b552
    replace f_b552 := Kw3.frzO (by omega) z_b55 f_b552
    replace i61u := i61u.chg Kw3 (by omega)
    replace i61v := i61v.chg Kw3 (by omega)
    replace i61uz := i61uz.chg Kw3 (by omega)
    replace i61vz := i61vz.chg Kw3 (by omega)
    clear Kw3
    have z_b1 : w.heap.size < w3.heap.size := qB b10
    have z_b2 : w.heap.size + 1 < w3.heap.size := qB b20
    have z_b3 : w.heap.size + 1 + 1 < w3.heap.size := qB b30
    have z_x5 : bl18 < w3.heap.size := qB x50
    have z_b55 : g57 < w3.heap.size := qB b550
    have s_w3 : w.heap.size ≤ w3.heap.size := Xw3.size
    clear hW16
    refine bodyPost_ret (v := .tuple #[.agg #[.slice none 0 0, .slice none 0 0], .bool false]) (by simp only [results, Try.results51]; go_simp) rfl ?_
    exact PBX.no (by unfold parA; rw [decide_eq_false (show ¬ es.length < 8 from h8), Bool.and_false, Bool.false_and]; rfl) (Xw3.trans qXt)

set_option maxHeartbeats 6400000 in
theorem implExportPart_1 (cells : List Int) (es : List Exp) (cv ev : Value) (i d F T B : Int) (hf ht : Bool) (w : World) (l1 l2 : Nat) (h1 : Ints w l1 cv cells) (h2 : Exps w l2 ev es) (h8 : es.length < 8) :
  Calls Try.prog 51 #[.agg #[cv, ev], .int .i64 i, .int .i64 d, .agg #[.int .i64 F, .int .i64 T, .int .i64 B, .bool hf, .bool ht]] w (PBX w (parA cells es i d F T B hf ht)) := by
 obtain ⟨p0, c0, rfl⟩ := h1.form
 obtain ⟨p1, c1, rfl⟩ := h2.form
 have he1 := h2.len
 have hc1 := h1.len
 go_enter Try.func51, Try.ntmps51
 go_wp2_with fail
 refine (implIsOpen_c cells es (.slice p0 cells.length c0) (.slice p1 es.length c1) i _ _ _ (h1.ext qXt) (h2.ext qXt)).mono ?_
 rintro e w1 ⟨rfl, xw1⟩
 have Lw1 : Ext w w1 := Ext.trans qXt xw1
 have Xw1 : Ext w w1 := Lw1
 have b10 : w1.cell? ⟨w.heap.size, 0, none⟩ = some (.slice p0 cells.length c0) := xw1.cell qCl
 have b11 : w1.cell? ⟨w.heap.size, 1, none⟩ = some (.slice p1 es.length c1) := xw1.cell qCl
 have b20 : w1.cell? ⟨w.heap.size + 1, 0, none⟩ = some (.int .i64 F) := xw1.cell qCl
 have b21 : w1.cell? ⟨w.heap.size + 1, 1, none⟩ = some (.int .i64 T) := xw1.cell qCl
 have b22 : w1.cell? ⟨w.heap.size + 1, 2, none⟩ = some (.int .i64 B) := xw1.cell qCl
 have b23 : w1.cell? ⟨w.heap.size + 1, 3, none⟩ = some (.bool hf) := xw1.cell qCl
 have b24 : w1.cell? ⟨w.heap.size + 1, 4, none⟩ = some (.bool ht) := xw1.cell qCl
 have b30 : w1.cell? ⟨w.heap.size + 1 + 1, 0, none⟩ = some (.slice none 0 0) := xw1.cell qCl
 have b31 : w1.cell? ⟨w.heap.size + 1 + 1, 1, none⟩ = some (.slice none 0 0) := xw1.cell qCl
 have f_b30 : w1.frozen? ⟨w.heap.size + 1 + 1, 0, none⟩ = false := xw1.frz (by simp <;> omega) qFz
 have f_b31 : w1.frozen? ⟨w.heap.size + 1 + 1, 1, none⟩ = false := xw1.frz (by simp <;> omega) qFz
 have z_b1 : w.heap.size < w1.heap.size := qB b10
 have z_b2 : w.heap.size + 1 < w1.heap.size := qB b20
 have z_b3 : w.heap.size + 1 + 1 < w1.heap.size := qB b30
 have s_w1 : w.heap.size ≤ w1.heap.size := Xw1.size
 clear xw1
 cases hB4 : bufB cells es && opB es i
 ·
  replace hB4 := Lib.hid hB4
  go_wp2_with fail
  generalize hW17 : ((w1.setCell ⟨w.heap.size + 1 + 1, 0, none⟩ (.slice none 0 0)).setCell ⟨w.heap.size + 1 + 1, 1, none⟩ (.slice none 0 0)) = w2 at *
  have Kw2 : Chg (w.heap.size + 1 + 1) (w.heap.size + 1 + 1 + 1) w1 w2 := by subst hW17; exact qCh
  have Xw2 : Ext w w2 := by subst hW17; exact qXt
  replace b10 := Kw2.cell (by omega) b10
  replace b11 := Kw2.cell (by omega) b11
  replace b20 := Kw2.cell (by omega) b20
  replace b21 := Kw2.cell (by omega) b21
  replace b22 := Kw2.cell (by omega) b22
  replace b23 := Kw2.cell (by omega) b23
  replace b24 := Kw2.cell (by omega) b24
  replace b30 : w2.cell? ⟨w.heap.size + 1 + 1, 0, none⟩ = some (.slice none 0 0) := by subst hW17; go_simp
  replace f_b30 : w2.frozen? ⟨w.heap.size + 1 + 1, 0, none⟩ = false := by subst hW17; first | (simp only [World.frozen?_setCell]; with_reducible assumption) | go_simp
  replace b31 : w2.cell? ⟨w.heap.size + 1 + 1, 1, none⟩ = some (.slice none 0 0) := by subst hW17; go_simp
  replace f_b31 : w2.frozen? ⟨w.heap.size + 1 + 1, 1, none⟩ = false := by subst hW17; first | (simp only [World.frozen?_setCell]; with_reducible assumption) | go_simp
  clear Kw2
  have z_b1 : w.heap.size < w2.heap.size := qB b10
  have z_b2 : w.heap.size + 1 < w2.heap.size := qB b20
  have z_b3 : w.heap.size + 1 + 1 < w2.heap.size := qB b30
  have s_w2 : w.heap.size ≤ w2.heap.size := Xw2.size
  clear hW17
  refine bodyPost_ret (v := .tuple #[.agg #[.slice none 0 0, .slice none 0 0], .bool false]) (by simp only [results, Try.results51]; go_simp) rfl ?_
  exact PBX.no (by unfold parA; rw [(show (bufB cells es && opB es i) = false from hB4.out), Bool.false_and, Bool.false_and]; rfl) (Xw2.trans qXt)
 ·
  replace hB4 := Lib.hid hB4
  have hbb : Hid (bufB cells es = true) := Lib.hid (by have h7 := hB4.out; rw [Bool.and_eq_true] at h7; exact h7.1)
  have hop : Hid (opB es i = true) := Lib.hid (by have h7 := hB4.out; rw [Bool.and_eq_true] at h7; exact h7.2)
  obtain ⟨hi0, hi1, hi2⟩ := opB_in hop.out
  obtain ⟨k, rfl⟩ : ∃ k : Nat, i = k := ⟨i.toNat, by omega⟩
  have hlt : k < es.length := by omega
  have hesne : Hid (es ≠ []) := Lib.hid (fun h => by rw [h] at hlt; exact absurd hlt (by simp))
  replace hi2 := Lib.hid hi2
  go_wp2_with fail
  have hN_x5 : k < es.length := hlt
  have hI_x5 : (k : Int) < (es.length : Int) := by omega
  obtain ⟨bl18, ol19, u12, c13, u14, c15, rfl, x50, x51, x52, x53, x54, i16, i17⟩ := h2.at k hN_x5
  obtain ⟨X11, hX11⟩ : ∃ x, expAt es k = x := ⟨_, rfl⟩
  rw [hX11] at x50 x51 x52 x53 x54 i16 i17
  obtain ⟨P6, B7, S8, T9, O10⟩ := X11
  dsimp only at x50 x51 x52 x53 x54 i16 i17
  replace hX11 := Lib.hid hX11
  have hLS8 := i16.len
  have hLT9 := i17.len
  have y_x5 : bl18 < w.heap.size := qB x50
  replace x50 := Xw1.cell x50
  replace x51 := Xw1.cell x51
  replace x52 := Xw1.cell x52
  replace x53 := Xw1.cell x53
  replace x54 := Xw1.cell x54
  have z_x5 : bl18 < w1.heap.size := qB x50
  have h88 := (bufB_in hbb.out).2.2.1
  obtain ⟨PB, PS, PT, PO, hP⟩ : ∃ PB PS PT PO, sliceV B7 S8 T9 d F T B hf ht = (PB, PS, PT, PO) := ⟨_, _, _, _, rfl⟩
  have hpl : PS.length ≤ 4 ∧ PT.length ≤ 4 := by have h7 := sliceV_fit B7 S8 T9 d F T B hf ht; rw [hP] at h7; exact ⟨h7.2, by have h8 := h7.1; have h9 := h7.2; dsimp only at h8 h9; omega⟩
  obtain ⟨hpl1, hpl2⟩ := hpl
  replace hP := Lib.hid hP
  cases PO
  ·
   go_wp2_with fail
   go_cut [10, 11] (fun s10 s11 wx => ∃ (g : Nat) (afv20u : Option Addr) (cfv20u : Nat) (afv20v : Option Addr) (cfv20v : Nat), s10 = .pointer (some ⟨g, 0, none⟩) ∧ s11 = .bool false ∧ Ext w1 wx ∧ w1.heap.size ≤ g ∧ wx.cell? ⟨g, 0, none⟩ = some (.int .i64 PB) ∧ wx.cell? ⟨g, 1, none⟩ = some (.slice afv20u PS.length cfv20u) ∧ wx.cell? ⟨g, 2, none⟩ = some (.slice afv20v PT.length cfv20v) ∧ wx.frozen? ⟨g, 0, none⟩ = false ∧ wx.frozen? ⟨g, 1, none⟩ = false ∧ wx.frozen? ⟨g, 2, none⟩ = false ∧ Ints wx w1.heap.size (.slice afv20u PS.length cfv20u) PS ∧ Ints wx w1.heap.size (.slice afv20v PT.length cfv20v) PT ∧ OwnZ wx w1.heap.size (.slice afv20u PS.length cfv20u) PS ∧ OwnZ wx w1.heap.size (.slice afv20v PT.length cfv20v) PT ∧ (PS ≠ [] → PT ≠ [] → (Value.slice afv20u PS.length cfv20u).ownBlock ≠ (Value.slice afv20v PT.length cfv20v).ownBlock))
   case first =>
    have BD3 : Ext w1 w1 := Ext.refl _
    refine wp_region_held_drew (S := fun w' => w'.cell? ⟨w.heap.size, 0, none⟩ = some (.slice p0 cells.length c0) ∧ w'.cell? ⟨w.heap.size, 1, none⟩ = some (.slice (some ⟨bl18, ol19, none⟩) es.length c1) ∧ w'.cell? ⟨w.heap.size + 1, 0, none⟩ = some (.int .i64 F) ∧ w'.cell? ⟨w.heap.size + 1, 1, none⟩ = some (.int .i64 T) ∧ w'.cell? ⟨w.heap.size + 1, 2, none⟩ = some (.int .i64 B) ∧ w'.cell? ⟨w.heap.size + 1, 3, none⟩ = some (.bool hf) ∧ w'.cell? ⟨w.heap.size + 1, 4, none⟩ = some (.bool ht) ∧ w'.cell? ⟨w.heap.size + 1 + 1, 0, none⟩ = some (.slice none 0 0) ∧ w'.cell? ⟨w.heap.size + 1 + 1, 1, none⟩ = some (.slice none 0 0) ∧ w'.cell? ⟨bl18, ol19 + k * 5, none⟩ = some (.int .i64 P6) ∧ w'.cell? ⟨bl18, ol19 + k * 5 + 1, none⟩ = some (.int .i64 B7) ∧ w'.cell? ⟨bl18, ol19 + k * 5 + 2, none⟩ = some (.slice u12 S8.length c13) ∧ w'.cell? ⟨bl18, ol19 + k * 5 + 3, none⟩ = some (.slice u14 T9.length c15) ∧ w'.cell? ⟨bl18, ol19 + k * 5 + 4, none⟩ = some (.bool O10)) qKr ⟨b10, b11, b20, b21, b22, b23, b24, b30, b31, x50, x51, x52, x53, x54⟩ (fun hHeld => ?_)
    refine qHk (v := ?_) 0 rfl (.inl ⟨by rfl, ?_⟩) ?_
    rotate_left
    ·
     (intro w hSw; (try dsimp only at hSw); go_simp; try with_reducible rfl)
    try simp only [Act.put, qa, qb, qc, qD, qE, qF]
    refine qHk (v := ?_) 1 rfl (.inl ⟨by rfl, ?_⟩) ?_
    rotate_left
    ·
     (intro w hSw; (try dsimp only at hSw); go_simp; try with_reducible rfl)
    try simp only [Act.put, qa, qb, qc, qD, qE, qF]
    refine qHk (v := ?_) 2 rfl (.inl ⟨by rfl, ?_⟩) ?_
    rotate_left
    ·
     (intro w hSw; (try dsimp only at hSw); go_simp; try with_reducible rfl)
    try simp only [Act.put, qa, qb, qc, qD, qE, qF]
    refine qHk (v := ?_) 3 rfl (.inl ⟨by rfl, ?_⟩) ?_
    rotate_left
    ·
     (intro w hSw; (try dsimp only at hSw); go_simp; try with_reducible rfl)
    try simp only [Act.put, qa, qb, qc, qD, qE, qF]
    refine qHk (v := ?_) 4 rfl (.inl ⟨by rfl, ?_⟩) ?_
    rotate_left
    ·
     (intro w hSw; (try dsimp only at hSw); go_simp; try with_reducible rfl)
    try simp only [Act.put, qa, qb, qc, qD, qE, qF]
    refine qHk (v := ?_) 5 rfl (.inl ⟨by rfl, ?_⟩) ?_
    rotate_left
    ·
     (intro w hSw; (try dsimp only at hSw); go_simp; try with_reducible rfl)
    try simp only [Act.put, qa, qb, qc, qD, qE, qF]
    refine qHk (v := ?_) 6 rfl (.inl ⟨by rfl, ?_⟩) ?_
    rotate_left
    ·
     (intro w hSw; (try dsimp only at hSw); go_simp; try with_reducible rfl)
    try simp only [Act.put, qa, qb, qc, qD, qE, qF]
    refine qHk (v := ?_) 7 rfl (.inl ⟨by rfl, ?_⟩) ?_
    rotate_left
    ·
     (intro w hSw; (try dsimp only at hSw); go_simp; try with_reducible rfl)
    try simp only [Act.put, qa, qb, qc, qD, qE, qF]
    refine wpAnyH_ready (rs := [8, 12]) qKr (by simp) ?_
    refine AllReadyH.cons rfl (fun K hK => ?_) (AllReadyH.cons rfl (fun K hK => ?_) AllReadyH.nil)
    ·
     try simp only [Act.put, qa, qb, qc, qD, qE, qF]
     go_simp
     refine (pv_eq hP.out (implSliceDim_s B7 (.slice u12 S8.length c13) (.slice u14 T9.length c15) S8 T9 d F T B hf ht _ _ _ (i16.ext (Xw1.trans qXt)) (i17.ext (Xw1.trans qXt)))).mono ?_
     rintro e w2 ⟨fv20u, fv20v, rfl, i21u, i21v, i21uz, i21vz, i21s, xw2⟩
     have Lw2 : Ext w1 w2 := Ext.trans qXt xw2
     have Xw2 : Ext w w2 := Xw1.trans Lw2
     replace b10 := Lw2.cell b10
     replace b11 := Lw2.cell b11
     replace b20 := Lw2.cell b20
     replace b21 := Lw2.cell b21
     replace b22 := Lw2.cell b22
     replace b23 := Lw2.cell b23
     replace b24 := Lw2.cell b24
     replace b30 := Lw2.cell b30
     replace b31 := Lw2.cell b31
     replace f_b30 := Lw2.frz z_b3 f_b30
     replace f_b31 := Lw2.frz z_b3 f_b31
     replace x50 := Lw2.cell x50
     replace x51 := Lw2.cell x51
     replace x52 := Lw2.cell x52
     replace x53 := Lw2.cell x53
     replace x54 := Lw2.cell x54
     have z_b1 : w.heap.size < w2.heap.size := qB b10
     have z_b2 : w.heap.size + 1 < w2.heap.size := qB b20
     have z_b3 : w.heap.size + 1 + 1 < w2.heap.size := qB b30
     have z_x5 : bl18 < w2.heap.size := qB x50
     have s_w2 : w.heap.size ≤ w2.heap.size := Xw2.size
     have BD3_w2 : Ext w1 w2 := BD3.trans Lw2
     clear xw2
     try simp only [World.size_alloc, World.size_drew] at i21u
     try simp only [World.size_alloc, World.size_drew] at i21v
     try simp only [World.size_alloc, World.size_drew] at i21uz
     try simp only [World.size_alloc, World.size_drew] at i21vz
     obtain ⟨afv20u, cfv20u, rfl⟩ := i21u.form
     obtain ⟨afv20v, cfv20v, rfl⟩ := i21v.form
     replace i21s := Lib.hid i21s
     have zD_w2 := (BD3_w2).size
     refine hK.out _ _ ⟨b10, b11, b20, b21, b22, b23, b24, b30, b31, x50, x51, x52, x53, x54⟩ (fun hHeld => ?_)
     clear hK K
     try simp only [Act.put, qa, qb, qc, qD, qE, qF]
     refine qHk (v := ?_) 9 rfl (.inl ⟨by rfl, ?_⟩) ?_
     rotate_left
     ·
      (intro w hSw; (try dsimp only at hSw); go_simp; try with_reducible rfl)
     try simp only [Act.put, qa, qb, qc, qD, qE, qF]
     refine qHk (v := ?_) 10 rfl (.inl ⟨by rfl, ?_⟩) ?_
     rotate_left
     ·
      (intro w hSw; (try dsimp only at hSw); go_simp; try with_reducible rfl)
     try simp only [Act.put, qa, qb, qc, qD, qE, qF]
     refine qHk (v := ?_) 11 rfl (.inl ⟨by rfl, ?_⟩) ?_
     rotate_left
     ·
      (intro w hSw; (try dsimp only at hSw); go_simp; try with_reducible rfl)
     try simp only [Act.put, qa, qb, qc, qD, qE, qF]
     refine qHr 12 rfl (fun K hK => ?_)
     try simp only [Act.put, qa, qb, qc, qD, qE, qF]
     go_simp
     have Q22_b10 := Lib.hid b10
     have Q22_b11 := Lib.hid b11
     have Q22_zb1 := z_b1
     have Q22_b20 := Lib.hid b20
     have Q22_b21 := Lib.hid b21
     have Q22_b22 := Lib.hid b22
     have Q22_b23 := Lib.hid b23
     have Q22_b24 := Lib.hid b24
     have Q22_zb2 := z_b2
     have Q22_b30 := Lib.hid b30
     have Q22_f_b30 := Lib.hid f_b30
     have Q22_b31 := Lib.hid b31
     have Q22_f_b31 := Lib.hid f_b31
     have Q22_zb3 := z_b3
     have Q22_x50 := Lib.hid x50
     have Q22_x51 := Lib.hid x51
     have Q22_x52 := Lib.hid x52
     have Q22_x53 := Lib.hid x53
     have Q22_x54 := Lib.hid x54
     have Q22_zx5 := z_x5
     have Q22_i21u := Lib.hid i21u
     have Q22_i21v := Lib.hid i21v
     have Q22_i21uz := Lib.hid i21uz
     have Q22_i21vz := Lib.hid i21vz
     have BL23 : Ext w2 w2 := Ext.refl _
     have Q24_b10 := Lib.hid b10
     have Q24_b11 := Lib.hid b11
     have Q24_zb1 := z_b1
     have Q24_b20 := Lib.hid b20
     have Q24_b21 := Lib.hid b21
     have Q24_b22 := Lib.hid b22
     have Q24_b23 := Lib.hid b23
     have Q24_b24 := Lib.hid b24
     have Q24_zb2 := z_b2
     have Q24_b30 := Lib.hid b30
     have Q24_f_b30 := Lib.hid f_b30
     have Q24_b31 := Lib.hid b31
     have Q24_f_b31 := Lib.hid f_b31
     have Q24_zb3 := z_b3
     have Q24_x50 := Lib.hid x50
     have Q24_x51 := Lib.hid x51
     have Q24_x52 := Lib.hid x52
     have Q24_x53 := Lib.hid x53
     have Q24_x54 := Lib.hid x54
     have Q24_zx5 := z_x5
     have Q24_i21u := Lib.hid i21u
     have Q24_i21v := Lib.hid i21v
     have Q24_i21uz := Lib.hid i21uz
     have Q24_i21vz := Lib.hid i21vz
     have BL25 : Ext w2 w2 := Ext.refl _
     refine hK.out _ _ ⟨(show Ext w2 _ from qXt).cell b10, (show Ext w2 _ from qXt).cell b11, (show Ext w2 _ from qXt).cell b20, (show Ext w2 _ from qXt).cell b21, (show Ext w2 _ from qXt).cell b22, (show Ext w2 _ from qXt).cell b23, (show Ext w2 _ from qXt).cell b24, (show Ext w2 _ from qXt).cell b30, (show Ext w2 _ from qXt).cell b31, (show Ext w2 _ from qXt).cell x50, (show Ext w2 _ from qXt).cell x51, (show Ext w2 _ from qXt).cell x52, (show Ext w2 _ from qXt).cell x53, (show Ext w2 _ from qXt).cell x54⟩ (fun hHeld => ?_)
     clear hK K
     try simp only [Act.put, qa, qb, qc, qD, qE, qF]
     refine qHr 13 rfl (fun K hK => ?_)
     try simp only [Act.put, qa, qb, qc, qD, qE, qF]
     go_simp
     have zn_BD3_w3 := (BD3_w2).size
     have zn_BL23_w3 := (BL23).size
     have zn_BL25_w3 := (BL25).size
     generalize hW18 : w2.alloc (.cells #[.int .i64 PB, .slice afv20u PS.length cfv20u, .slice afv20v PT.length cfv20v] 36) = w3 at *
     have Lw3 : Ext w2 w3 := by subst hW18; exact qXt
     have Xw3 : Ext w w3 := Xw2.trans Lw3
     replace b10 := Lw3.cell b10
     replace b11 := Lw3.cell b11
     replace b20 := Lw3.cell b20
     replace b21 := Lw3.cell b21
     replace b22 := Lw3.cell b22
     replace b23 := Lw3.cell b23
     replace b24 := Lw3.cell b24
     replace b30 := Lw3.cell b30
     replace b31 := Lw3.cell b31
     replace f_b30 := Lw3.frz z_b3 f_b30
     replace f_b31 := Lw3.frz z_b3 f_b31
     replace x50 := Lw3.cell x50
     replace x51 := Lw3.cell x51
     replace x52 := Lw3.cell x52
     replace x53 := Lw3.cell x53
     replace x54 := Lw3.cell x54
     have b260 : w3.cell? ⟨w2.heap.size, 0, none⟩ = some (.int .i64 PB) := by subst hW18; exact qCl
     have b261 : w3.cell? ⟨w2.heap.size, 1, none⟩ = some (.slice afv20u PS.length cfv20u) := by subst hW18; exact qCl
     have b262 : w3.cell? ⟨w2.heap.size, 2, none⟩ = some (.slice afv20v PT.length cfv20v) := by subst hW18; exact qCl
     have f_b260 : w3.frozen? ⟨w2.heap.size, 0, none⟩ = false := by subst hW18; exact qFz
     have f_b261 : w3.frozen? ⟨w2.heap.size, 1, none⟩ = false := by subst hW18; exact qFz
     have f_b262 : w3.frozen? ⟨w2.heap.size, 2, none⟩ = false := by subst hW18; exact qFz
     have z_b1 : w.heap.size < w3.heap.size := qB b10
     have z_b2 : w.heap.size + 1 < w3.heap.size := qB b20
     have z_b3 : w.heap.size + 1 + 1 < w3.heap.size := qB b30
     have z_x5 : bl18 < w3.heap.size := qB x50
     have z_b26 : w2.heap.size < w3.heap.size := qB b260
     replace i21u := i21u.ext Lw3
     replace i21v := i21v.ext Lw3
     replace i21uz := i21uz.ext Lw3
     replace i21vz := i21vz.ext Lw3
     have s_w3 : w.heap.size ≤ w3.heap.size := Xw3.size
     have BD3_w3 : Ext w1 w3 := BD3_w2.trans Lw3
     have BL23_w3 : Ext w2 w3 := BL23.trans Lw3
     have BL25_w3 : Ext w2 w3 := BL25.trans Lw3
     clear hW18
     refine hK.out _ _ ⟨b10, b11, b20, b21, b22, b23, b24, b30, b31, x50, x51, x52, x53, x54⟩ (fun hHeld => ?_)
     clear hK K
     try simp only [Act.put, qa, qb, qc, qD, qE, qF]
     refine qHk (v := ?_) 14 rfl (.inl ⟨by rfl, ?_⟩) ?_
     rotate_left
     ·
      (intro w hSw; (try dsimp only at hSw); go_simp; try with_reducible rfl)
     try simp only [Act.put, qa, qb, qc, qD, qE, qF]
     refine wpAnyH_done qKr ?_ _
     clear hHeld
     go_step
     go_step
     go_meet
     case rel => exact ⟨_, _, _, _, _, rfl, rfl, BD3_w3, (by omega), b260, b261, b262, f_b260, f_b261, f_b262, i21u.lower (by omega), i21v.lower (by omega), i21uz.lower (by omega), i21vz.lower (by omega), i21s.out⟩
    ·
     try simp only [Act.put, qa, qb, qc, qD, qE, qF]
     go_simp
     have Q27_b10 := Lib.hid b10
     have Q27_b11 := Lib.hid b11
     have Q27_zb1 := z_b1
     have Q27_b20 := Lib.hid b20
     have Q27_b21 := Lib.hid b21
     have Q27_b22 := Lib.hid b22
     have Q27_b23 := Lib.hid b23
     have Q27_b24 := Lib.hid b24
     have Q27_zb2 := z_b2
     have Q27_b30 := Lib.hid b30
     have Q27_f_b30 := Lib.hid f_b30
     have Q27_b31 := Lib.hid b31
     have Q27_f_b31 := Lib.hid f_b31
     have Q27_zb3 := z_b3
     have Q27_x50 := Lib.hid x50
     have Q27_x51 := Lib.hid x51
     have Q27_x52 := Lib.hid x52
     have Q27_x53 := Lib.hid x53
     have Q27_x54 := Lib.hid x54
     have Q27_zx5 := z_x5
     have BL28 : Ext w1 w1 := Ext.refl _
     refine hK.out _ _ ⟨(show Ext w1 _ from qXt).cell b10, (show Ext w1 _ from qXt).cell b11, (show Ext w1 _ from qXt).cell b20, (show Ext w1 _ from qXt).cell b21, (show Ext w1 _ from qXt).cell b22, (show Ext w1 _ from qXt).cell b23, (show Ext w1 _ from qXt).cell b24, (show Ext w1 _ from qXt).cell b30, (show Ext w1 _ from qXt).cell b31, (show Ext w1 _ from qXt).cell x50, (show Ext w1 _ from qXt).cell x51, (show Ext w1 _ from qXt).cell x52, (show Ext w1 _ from qXt).cell x53, (show Ext w1 _ from qXt).cell x54⟩ (fun hHeld => ?_)
     clear hK K
     try simp only [Act.put, qa, qb, qc, qD, qE, qF]
     refine qHr 8 rfl (fun K hK => ?_)
     try simp only [Act.put, qa, qb, qc, qD, qE, qF]
     go_simp
     refine (pv_eq hP.out (implSliceDim_s B7 (.slice u12 S8.length c13) (.slice u14 T9.length c15) S8 T9 d F T B hf ht _ _ _ (i16.ext (Xw1.trans qXt)) (i17.ext (Xw1.trans qXt)))).mono ?_
     rintro e w2 ⟨fv30u, fv30v, rfl, i31u, i31v, i31uz, i31vz, i31s, xw2⟩
     have Lw2 : Ext w1 w2 := Ext.trans qXt xw2
     have Xw2 : Ext w w2 := Xw1.trans Lw2
     replace b10 := Lw2.cell b10
     replace b11 := Lw2.cell b11
     replace b20 := Lw2.cell b20
     replace b21 := Lw2.cell b21
     replace b22 := Lw2.cell b22
     replace b23 := Lw2.cell b23
     replace b24 := Lw2.cell b24
     replace b30 := Lw2.cell b30
     replace b31 := Lw2.cell b31
     replace f_b30 := Lw2.frz z_b3 f_b30
     replace f_b31 := Lw2.frz z_b3 f_b31
     replace x50 := Lw2.cell x50
     replace x51 := Lw2.cell x51
     replace x52 := Lw2.cell x52
     replace x53 := Lw2.cell x53
     replace x54 := Lw2.cell x54
     have b290 : w2.cell? ⟨w1.heap.size, 0, none⟩ = some (.int .i64 0) := xw2.cell qCl
     have b291 : w2.cell? ⟨w1.heap.size, 1, none⟩ = some (.slice none 0 0) := xw2.cell qCl
     have b292 : w2.cell? ⟨w1.heap.size, 2, none⟩ = some (.slice none 0 0) := xw2.cell qCl
     have f_b290 : w2.frozen? ⟨w1.heap.size, 0, none⟩ = false := xw2.frz (by simp <;> omega) qFz
     have f_b291 : w2.frozen? ⟨w1.heap.size, 1, none⟩ = false := xw2.frz (by simp <;> omega) qFz
     have f_b292 : w2.frozen? ⟨w1.heap.size, 2, none⟩ = false := xw2.frz (by simp <;> omega) qFz
     have z_b1 : w.heap.size < w2.heap.size := qB b10
     have z_b2 : w.heap.size + 1 < w2.heap.size := qB b20
     have z_b3 : w.heap.size + 1 + 1 < w2.heap.size := qB b30
     have z_x5 : bl18 < w2.heap.size := qB x50
     have z_b29 : w1.heap.size < w2.heap.size := qB b290
     have s_w2 : w.heap.size ≤ w2.heap.size := Xw2.size
     have BD3_w2 : Ext w1 w2 := BD3.trans Lw2
     have BL28_w2 : Ext w1 w2 := BL28.trans Lw2
     clear xw2
     try simp only [World.size_alloc, World.size_drew] at i31u
     try simp only [World.size_alloc, World.size_drew] at i31v
     try simp only [World.size_alloc, World.size_drew] at i31uz
     try simp only [World.size_alloc, World.size_drew] at i31vz
     obtain ⟨afv30u, cfv30u, rfl⟩ := i31u.form
     obtain ⟨afv30v, cfv30v, rfl⟩ := i31v.form
     replace i31s := Lib.hid i31s
     have zD_w2 := (BD3_w2).size
     refine hK.out _ _ ⟨b10, b11, b20, b21, b22, b23, b24, b30, b31, x50, x51, x52, x53, x54⟩ (fun hHeld => ?_)
     clear hK K
     try simp only [Act.put, qa, qb, qc, qD, qE, qF]
     refine qHk (v := ?_) 9 rfl (.inl ⟨by rfl, ?_⟩) ?_
     rotate_left
     ·
      (intro w hSw; (try dsimp only at hSw); go_simp; try with_reducible rfl)
     try simp only [Act.put, qa, qb, qc, qD, qE, qF]
     refine qHk (v := ?_) 10 rfl (.inl ⟨by rfl, ?_⟩) ?_
     rotate_left
     ·
      (intro w hSw; (try dsimp only at hSw); go_simp; try with_reducible rfl)
     try simp only [Act.put, qa, qb, qc, qD, qE, qF]
     refine qHk (v := ?_) 11 rfl (.inl ⟨by rfl, ?_⟩) ?_
     rotate_left
     ·
      (intro w hSw; (try dsimp only at hSw); go_simp; try with_reducible rfl)
     try simp only [Act.put, qa, qb, qc, qD, qE, qF]
     refine qHr 13 rfl (fun K hK => ?_)
     try simp only [Act.put, qa, qb, qc, qD, qE, qF]
     go_simp
     generalize hW19 : (((w2.setCell ⟨w1.heap.size, 0, none⟩ (.int .i64 PB)).setCell ⟨w1.heap.size, 1, none⟩ (.slice afv30u PS.length cfv30u)).setCell ⟨w1.heap.size, 2, none⟩ (.slice afv30v PT.length cfv30v)) = w3 at *
     have Kw3 : Chg (w1.heap.size) (w1.heap.size + 1) w2 w3 := by subst hW19; exact qCh
     have Xw3 : Ext w w3 := by subst hW19; exact qXt
     have BD3_w3 : Ext w1 w3 := by subst hW19; exact qXt
     have BL28_w3 : Ext w1 w3 := by subst hW19; exact qXt
     replace b10 := BL28_w3.cell Q27_b10.out
     replace b11 := BL28_w3.cell Q27_b11.out
     replace b20 := BL28_w3.cell Q27_b20.out
     replace b21 := BL28_w3.cell Q27_b21.out
     replace b22 := BL28_w3.cell Q27_b22.out
     replace b23 := BL28_w3.cell Q27_b23.out
     replace b24 := BL28_w3.cell Q27_b24.out
     replace b30 := BL28_w3.cell Q27_b30.out
     replace f_b30 := BL28_w3.frz Q27_zb3 Q27_f_b30.out
     replace b31 := BL28_w3.cell Q27_b31.out
     replace f_b31 := BL28_w3.frz Q27_zb3 Q27_f_b31.out
     replace x50 := BL28_w3.cell Q27_x50.out
     replace x51 := BL28_w3.cell Q27_x51.out
     replace x52 := BL28_w3.cell Q27_x52.out
     replace x53 := BL28_w3.cell Q27_x53.out
     replace x54 := BL28_w3.cell Q27_x54.out
     replace b290 : w3.cell? ⟨w1.heap.size, 0, none⟩ = some (.int .i64 PB) := by subst hW19; go_simp
     replace f_b290 : w3.frozen? ⟨w1.heap.size, 0, none⟩ = false := by subst hW19; first | (simp only [World.frozen?_setCell]; with_reducible assumption) | go_simp
     replace b291 : w3.cell? ⟨w1.heap.size, 1, none⟩ = some (.slice afv30u PS.length cfv30u) := by subst hW19; go_simp
     replace f_b291 : w3.frozen? ⟨w1.heap.size, 1, none⟩ = false := by subst hW19; first | (simp only [World.frozen?_setCell]; with_reducible assumption) | go_simp
     replace b292 : w3.cell? ⟨w1.heap.size, 2, none⟩ = some (.slice afv30v PT.length cfv30v) := by subst hW19; go_simp
     replace f_b292 : w3.frozen? ⟨w1.heap.size, 2, none⟩ = false := by subst hW19; first | (simp only [World.frozen?_setCell]; with_reducible assumption) | go_simp
     replace i31u := i31u.chg Kw3 (by omega)
     replace i31v := i31v.chg Kw3 (by omega)
     replace i31uz := i31uz.chg Kw3 (by omega)
     replace i31vz := i31vz.chg Kw3 (by omega)
     clear Kw3
     have z_b1 : w.heap.size < w3.heap.size := qB b10
     have z_b2 : w.heap.size + 1 < w3.heap.size := qB b20
     have z_b3 : w.heap.size + 1 + 1 < w3.heap.size := qB b30
     have z_x5 : bl18 < w3.heap.size := qB x50
     have z_b29 : w1.heap.size < w3.heap.size := qB b290
     have s_w3 : w.heap.size ≤ w3.heap.size := Xw3.size
     clear hW19
     refine hK.out _ _ ⟨b10, b11, b20, b21, b22, b23, b24, b30, b31, x50, x51, x52, x53, x54⟩ (fun hHeld => ?_)
     clear hK K
     try simp only [Act.put, qa, qb, qc, qD, qE, qF]
     refine qHk (v := ?_) 14 rfl (.inl ⟨by rfl, ?_⟩) ?_
     rotate_left
     ·
      (intro w hSw; (try dsimp only at hSw); go_simp; try with_reducible rfl)
     try simp only [Act.put, qa, qb, qc, qD, qE, qF]
     refine wpAnyH_done qKr ?_ _
     clear hHeld
     go_step
     go_step
     go_meet
     case rel => exact ⟨_, _, _, _, _, rfl, rfl, BD3_w3, (by omega), b290, b291, b292, f_b290, f_b291, f_b292, i31u.lower (by omega), i31v.lower (by omega), i31uz.lower (by omega), i31vz.lower (by omega), i31s.out⟩
   case rest =>
    generalize wc = wc33 at hcut ⊢
    obtain ⟨g34, af39, cf40, af41, cf42, rfl, rfl, xx35, hg_b32, b320, b321, b322, f_b320, f_b321, f_b322, i38u, i38v, i38uz, i38vz, i38s⟩ := hcut
    replace i38s := Lib.hid i38s
    have Lwc33 : Ext w1 wc33 := Ext.trans qXt xx35
    have Xwc33 : Ext w wc33 := Xw1.trans Lwc33
    replace b10 := Lwc33.cell b10
    replace b11 := Lwc33.cell b11
    replace b20 := Lwc33.cell b20
    replace b21 := Lwc33.cell b21
    replace b22 := Lwc33.cell b22
    replace b23 := Lwc33.cell b23
    replace b24 := Lwc33.cell b24
    replace b30 := Lwc33.cell b30
    replace b31 := Lwc33.cell b31
    replace f_b30 := Lwc33.frz z_b3 f_b30
    replace f_b31 := Lwc33.frz z_b3 f_b31
    replace x50 := Lwc33.cell x50
    replace x51 := Lwc33.cell x51
    replace x52 := Lwc33.cell x52
    replace x53 := Lwc33.cell x53
    replace x54 := Lwc33.cell x54
    have z_b1 : w.heap.size < wc33.heap.size := qB b10
    have z_b2 : w.heap.size + 1 < wc33.heap.size := qB b20
    have z_b3 : w.heap.size + 1 + 1 < wc33.heap.size := qB b30
    have z_x5 : bl18 < wc33.heap.size := qB x50
    have s_wc33 : w.heap.size ≤ wc33.heap.size := Xwc33.size
    clear xx35
    have z_b32 : g34 < wc33.heap.size := qB b320
    go_wp2_with fail
    generalize hW20 : ((wc33.setCell ⟨w.heap.size + 1 + 1, 0, none⟩ (.slice none 0 0)).setCell ⟨w.heap.size + 1 + 1, 1, none⟩ (.slice none 0 0)) = w2 at *
    have Kw2 : Chg (w.heap.size + 1 + 1) (w.heap.size + 1 + 1 + 1) wc33 w2 := by subst hW20; exact qCh
    have Xw2 : Ext w w2 := by subst hW20; exact qXt
    replace b10 := Kw2.cell (by omega) b10
    replace b11 := Kw2.cell (by omega) b11
    replace b20 := Kw2.cell (by omega) b20
    replace b21 := Kw2.cell (by omega) b21
    replace b22 := Kw2.cell (by omega) b22
    replace b23 := Kw2.cell (by omega) b23
    replace b24 := Kw2.cell (by omega) b24
    replace b30 : w2.cell? ⟨w.heap.size + 1 + 1, 0, none⟩ = some (.slice none 0 0) := by subst hW20; go_simp
    replace f_b30 : w2.frozen? ⟨w.heap.size + 1 + 1, 0, none⟩ = false := by subst hW20; first | (simp only [World.frozen?_setCell]; with_reducible assumption) | go_simp
    replace b31 : w2.cell? ⟨w.heap.size + 1 + 1, 1, none⟩ = some (.slice none 0 0) := by subst hW20; go_simp
    replace f_b31 : w2.frozen? ⟨w.heap.size + 1 + 1, 1, none⟩ = false := by subst hW20; first | (simp only [World.frozen?_setCell]; with_reducible assumption) | go_simp
    replace x50 := Kw2.cell (by omega) x50
    replace x51 := Kw2.cell (by omega) x51
    replace x52 := Kw2.cell (by omega) x52
    replace x53 := Kw2.cell (by omega) x53
    replace x54 := Kw2.cell (by omega) x54
    replace b320 := Kw2.cell (by omega) b320
    replace f_b320 := Kw2.frzO (by omega) z_b32 f_b320
    replace b321 := Kw2.cell (by omega) b321
    replace f_b321 := Kw2.frzO (by omega) z_b32 f_b321
    replace b322 := Kw2.cell (by omega) b322
    replace f_b322 := Kw2.frzO (by omega) z_b32 f_b322
    replace i38u := i38u.chg Kw2 (by omega)
    replace i38v := i38v.chg Kw2 (by omega)
    replace i38uz := i38uz.chg Kw2 (by omega)
    replace i38vz := i38vz.chg Kw2 (by omega)
    clear Kw2
    have z_b1 : w.heap.size < w2.heap.size := qB b10
    have z_b2 : w.heap.size + 1 < w2.heap.size := qB b20
    have z_b3 : w.heap.size + 1 + 1 < w2.heap.size := qB b30
    have z_x5 : bl18 < w2.heap.size := qB x50
    have z_b32 : g34 < w2.heap.size := qB b320
    have s_w2 : w.heap.size ≤ w2.heap.size := Xw2.size
    clear hW20
    refine bodyPost_ret (v := .tuple #[.agg #[.slice none 0 0, .slice none 0 0], .bool false]) (by simp only [results, Try.results51]; go_simp) rfl ?_
    exact PBX.no (by unfold parA; simp only [Int.toNat_natCast]; rw [hX11.out]; dsimp only; rw [hP.out, Bool.and_false]; rfl) (Xw2.trans qXt)
  ·
   go_wp2_with fail
   go_cut [10, 11] (fun s10 s11 wx => ∃ (g : Nat) (afv43u : Option Addr) (cfv43u : Nat) (afv43v : Option Addr) (cfv43v : Nat), s10 = .pointer (some ⟨g, 0, none⟩) ∧ s11 = .bool true ∧ Ext w1 wx ∧ w1.heap.size ≤ g ∧ wx.cell? ⟨g, 0, none⟩ = some (.int .i64 PB) ∧ wx.cell? ⟨g, 1, none⟩ = some (.slice afv43u PS.length cfv43u) ∧ wx.cell? ⟨g, 2, none⟩ = some (.slice afv43v PT.length cfv43v) ∧ wx.frozen? ⟨g, 0, none⟩ = false ∧ wx.frozen? ⟨g, 1, none⟩ = false ∧ wx.frozen? ⟨g, 2, none⟩ = false ∧ Ints wx w1.heap.size (.slice afv43u PS.length cfv43u) PS ∧ Ints wx w1.heap.size (.slice afv43v PT.length cfv43v) PT ∧ OwnZ wx w1.heap.size (.slice afv43u PS.length cfv43u) PS ∧ OwnZ wx w1.heap.size (.slice afv43v PT.length cfv43v) PT ∧ (PS ≠ [] → PT ≠ [] → (Value.slice afv43u PS.length cfv43u).ownBlock ≠ (Value.slice afv43v PT.length cfv43v).ownBlock))
   case first =>
    have BD3 : Ext w1 w1 := Ext.refl _
    refine wp_region_held_drew (S := fun w' => w'.cell? ⟨w.heap.size, 0, none⟩ = some (.slice p0 cells.length c0) ∧ w'.cell? ⟨w.heap.size, 1, none⟩ = some (.slice (some ⟨bl18, ol19, none⟩) es.length c1) ∧ w'.cell? ⟨w.heap.size + 1, 0, none⟩ = some (.int .i64 F) ∧ w'.cell? ⟨w.heap.size + 1, 1, none⟩ = some (.int .i64 T) ∧ w'.cell? ⟨w.heap.size + 1, 2, none⟩ = some (.int .i64 B) ∧ w'.cell? ⟨w.heap.size + 1, 3, none⟩ = some (.bool hf) ∧ w'.cell? ⟨w.heap.size + 1, 4, none⟩ = some (.bool ht) ∧ w'.cell? ⟨w.heap.size + 1 + 1, 0, none⟩ = some (.slice none 0 0) ∧ w'.cell? ⟨w.heap.size + 1 + 1, 1, none⟩ = some (.slice none 0 0) ∧ w'.cell? ⟨bl18, ol19 + k * 5, none⟩ = some (.int .i64 P6) ∧ w'.cell? ⟨bl18, ol19 + k * 5 + 1, none⟩ = some (.int .i64 B7) ∧ w'.cell? ⟨bl18, ol19 + k * 5 + 2, none⟩ = some (.slice u12 S8.length c13) ∧ w'.cell? ⟨bl18, ol19 + k * 5 + 3, none⟩ = some (.slice u14 T9.length c15) ∧ w'.cell? ⟨bl18, ol19 + k * 5 + 4, none⟩ = some (.bool O10)) qKr ⟨b10, b11, b20, b21, b22, b23, b24, b30, b31, x50, x51, x52, x53, x54⟩ (fun hHeld => ?_)
    refine qHk (v := ?_) 0 rfl (.inl ⟨by rfl, ?_⟩) ?_
    rotate_left
    ·
     (intro w hSw; (try dsimp only at hSw); go_simp; try with_reducible rfl)
    try simp only [Act.put, qa, qb, qc, qD, qE, qF]
    refine qHk (v := ?_) 1 rfl (.inl ⟨by rfl, ?_⟩) ?_
    rotate_left
    ·
     (intro w hSw; (try dsimp only at hSw); go_simp; try with_reducible rfl)
    try simp only [Act.put, qa, qb, qc, qD, qE, qF]
    refine qHk (v := ?_) 2 rfl (.inl ⟨by rfl, ?_⟩) ?_
    rotate_left
    ·
     (intro w hSw; (try dsimp only at hSw); go_simp; try with_reducible rfl)
    try simp only [Act.put, qa, qb, qc, qD, qE, qF]
    refine qHk (v := ?_) 3 rfl (.inl ⟨by rfl, ?_⟩) ?_
    rotate_left
    ·
     (intro w hSw; (try dsimp only at hSw); go_simp; try with_reducible rfl)
    try simp only [Act.put, qa, qb, qc, qD, qE, qF]
    refine qHk (v := ?_) 4 rfl (.inl ⟨by rfl, ?_⟩) ?_
    rotate_left
    ·
     (intro w hSw; (try dsimp only at hSw); go_simp; try with_reducible rfl)
    try simp only [Act.put, qa, qb, qc, qD, qE, qF]
    refine qHk (v := ?_) 5 rfl (.inl ⟨by rfl, ?_⟩) ?_
    rotate_left
    ·
     (intro w hSw; (try dsimp only at hSw); go_simp; try with_reducible rfl)
    try simp only [Act.put, qa, qb, qc, qD, qE, qF]
    refine qHk (v := ?_) 6 rfl (.inl ⟨by rfl, ?_⟩) ?_
    rotate_left
    ·
     (intro w hSw; (try dsimp only at hSw); go_simp; try with_reducible rfl)
    try simp only [Act.put, qa, qb, qc, qD, qE, qF]
    refine qHk (v := ?_) 7 rfl (.inl ⟨by rfl, ?_⟩) ?_
    rotate_left
    ·
     (intro w hSw; (try dsimp only at hSw); go_simp; try with_reducible rfl)
    try simp only [Act.put, qa, qb, qc, qD, qE, qF]
    refine wpAnyH_ready (rs := [8, 12]) qKr (by simp) ?_
    refine AllReadyH.cons rfl (fun K hK => ?_) (AllReadyH.cons rfl (fun K hK => ?_) AllReadyH.nil)
    ·
     try simp only [Act.put, qa, qb, qc, qD, qE, qF]
     go_simp
     refine (pv_eq hP.out (implSliceDim_s B7 (.slice u12 S8.length c13) (.slice u14 T9.length c15) S8 T9 d F T B hf ht _ _ _ (i16.ext (Xw1.trans qXt)) (i17.ext (Xw1.trans qXt)))).mono ?_
     rintro e w2 ⟨fv43u, fv43v, rfl, i44u, i44v, i44uz, i44vz, i44s, xw2⟩
     have Lw2 : Ext w1 w2 := Ext.trans qXt xw2
     have Xw2 : Ext w w2 := Xw1.trans Lw2
     replace b10 := Lw2.cell b10
     replace b11 := Lw2.cell b11
     replace b20 := Lw2.cell b20
     replace b21 := Lw2.cell b21
     replace b22 := Lw2.cell b22
     replace b23 := Lw2.cell b23
     replace b24 := Lw2.cell b24
     replace b30 := Lw2.cell b30
     replace b31 := Lw2.cell b31
     replace f_b30 := Lw2.frz z_b3 f_b30
     replace f_b31 := Lw2.frz z_b3 f_b31
     replace x50 := Lw2.cell x50
     replace x51 := Lw2.cell x51
     replace x52 := Lw2.cell x52
     replace x53 := Lw2.cell x53
     replace x54 := Lw2.cell x54
     have z_b1 : w.heap.size < w2.heap.size := qB b10
     have z_b2 : w.heap.size + 1 < w2.heap.size := qB b20
     have z_b3 : w.heap.size + 1 + 1 < w2.heap.size := qB b30
     have z_x5 : bl18 < w2.heap.size := qB x50
     have s_w2 : w.heap.size ≤ w2.heap.size := Xw2.size
     have BD3_w2 : Ext w1 w2 := BD3.trans Lw2
     clear xw2
     try simp only [World.size_alloc, World.size_drew] at i44u
     try simp only [World.size_alloc, World.size_drew] at i44v
     try simp only [World.size_alloc, World.size_drew] at i44uz
     try simp only [World.size_alloc, World.size_drew] at i44vz
     obtain ⟨afv43u, cfv43u, rfl⟩ := i44u.form
     obtain ⟨afv43v, cfv43v, rfl⟩ := i44v.form
     replace i44s := Lib.hid i44s
     have zD_w2 := (BD3_w2).size
     refine hK.out _ _ ⟨b10, b11, b20, b21, b22, b23, b24, b30, b31, x50, x51, x52, x53, x54⟩ (fun hHeld => ?_)
     clear hK K
     try simp only [Act.put, qa, qb, qc, qD, qE, qF]
     refine qHk (v := ?_) 9 rfl (.inl ⟨by rfl, ?_⟩) ?_
     rotate_left
     ·
      (intro w hSw; (try dsimp only at hSw); go_simp; try with_reducible rfl)
     try simp only [Act.put, qa, qb, qc, qD, qE, qF]
     refine qHk (v := ?_) 10 rfl (.inl ⟨by rfl, ?_⟩) ?_
     rotate_left
     ·
      (intro w hSw; (try dsimp only at hSw); go_simp; try with_reducible rfl)
     try simp only [Act.put, qa, qb, qc, qD, qE, qF]
     refine qHk (v := ?_) 11 rfl (.inl ⟨by rfl, ?_⟩) ?_
     rotate_left
     ·
      (intro w hSw; (try dsimp only at hSw); go_simp; try with_reducible rfl)
     try simp only [Act.put, qa, qb, qc, qD, qE, qF]
     refine qHr 12 rfl (fun K hK => ?_)
     try simp only [Act.put, qa, qb, qc, qD, qE, qF]
     go_simp
     have Q45_b10 := Lib.hid b10
     have Q45_b11 := Lib.hid b11
     have Q45_zb1 := z_b1
     have Q45_b20 := Lib.hid b20
     have Q45_b21 := Lib.hid b21
     have Q45_b22 := Lib.hid b22
     have Q45_b23 := Lib.hid b23
     have Q45_b24 := Lib.hid b24
     have Q45_zb2 := z_b2
     have Q45_b30 := Lib.hid b30
     have Q45_f_b30 := Lib.hid f_b30
     have Q45_b31 := Lib.hid b31
     have Q45_f_b31 := Lib.hid f_b31
     have Q45_zb3 := z_b3
     have Q45_x50 := Lib.hid x50
     have Q45_x51 := Lib.hid x51
     have Q45_x52 := Lib.hid x52
     have Q45_x53 := Lib.hid x53
     have Q45_x54 := Lib.hid x54
     have Q45_zx5 := z_x5
     have Q45_i44u := Lib.hid i44u
     have Q45_i44v := Lib.hid i44v
     have Q45_i44uz := Lib.hid i44uz
     have Q45_i44vz := Lib.hid i44vz
     have BL46 : Ext w2 w2 := Ext.refl _
     have Q47_b10 := Lib.hid b10
     have Q47_b11 := Lib.hid b11
     have Q47_zb1 := z_b1
     have Q47_b20 := Lib.hid b20
     have Q47_b21 := Lib.hid b21
     have Q47_b22 := Lib.hid b22
     have Q47_b23 := Lib.hid b23
     have Q47_b24 := Lib.hid b24
     have Q47_zb2 := z_b2
     have Q47_b30 := Lib.hid b30
     have Q47_f_b30 := Lib.hid f_b30
     have Q47_b31 := Lib.hid b31
     have Q47_f_b31 := Lib.hid f_b31
     have Q47_zb3 := z_b3
     have Q47_x50 := Lib.hid x50
     have Q47_x51 := Lib.hid x51
     have Q47_x52 := Lib.hid x52
     have Q47_x53 := Lib.hid x53
     have Q47_x54 := Lib.hid x54
     have Q47_zx5 := z_x5
     have Q47_i44u := Lib.hid i44u
     have Q47_i44v := Lib.hid i44v
     have Q47_i44uz := Lib.hid i44uz
     have Q47_i44vz := Lib.hid i44vz
     have BL48 : Ext w2 w2 := Ext.refl _
     refine hK.out _ _ ⟨(show Ext w2 _ from qXt).cell b10, (show Ext w2 _ from qXt).cell b11, (show Ext w2 _ from qXt).cell b20, (show Ext w2 _ from qXt).cell b21, (show Ext w2 _ from qXt).cell b22, (show Ext w2 _ from qXt).cell b23, (show Ext w2 _ from qXt).cell b24, (show Ext w2 _ from qXt).cell b30, (show Ext w2 _ from qXt).cell b31, (show Ext w2 _ from qXt).cell x50, (show Ext w2 _ from qXt).cell x51, (show Ext w2 _ from qXt).cell x52, (show Ext w2 _ from qXt).cell x53, (show Ext w2 _ from qXt).cell x54⟩ (fun hHeld => ?_)
     clear hK K
     try simp only [Act.put, qa, qb, qc, qD, qE, qF]
     refine qHr 13 rfl (fun K hK => ?_)
     try simp only [Act.put, qa, qb, qc, qD, qE, qF]
     go_simp
     have zn_BD3_w3 := (BD3_w2).size
     have zn_BL46_w3 := (BL46).size
     have zn_BL48_w3 := (BL48).size
     generalize hW21 : w2.alloc (.cells #[.int .i64 PB, .slice afv43u PS.length cfv43u, .slice afv43v PT.length cfv43v] 36) = w3 at *
     have Lw3 : Ext w2 w3 := by subst hW21; exact qXt
     have Xw3 : Ext w w3 := Xw2.trans Lw3
     replace b10 := Lw3.cell b10
     replace b11 := Lw3.cell b11
     replace b20 := Lw3.cell b20
     replace b21 := Lw3.cell b21
     replace b22 := Lw3.cell b22
     replace b23 := Lw3.cell b23
     replace b24 := Lw3.cell b24
     replace b30 := Lw3.cell b30
     replace b31 := Lw3.cell b31
     replace f_b30 := Lw3.frz z_b3 f_b30
     replace f_b31 := Lw3.frz z_b3 f_b31
     replace x50 := Lw3.cell x50
     replace x51 := Lw3.cell x51
     replace x52 := Lw3.cell x52
     replace x53 := Lw3.cell x53
     replace x54 := Lw3.cell x54
     have b490 : w3.cell? ⟨w2.heap.size, 0, none⟩ = some (.int .i64 PB) := by subst hW21; exact qCl
     have b491 : w3.cell? ⟨w2.heap.size, 1, none⟩ = some (.slice afv43u PS.length cfv43u) := by subst hW21; exact qCl
     have b492 : w3.cell? ⟨w2.heap.size, 2, none⟩ = some (.slice afv43v PT.length cfv43v) := by subst hW21; exact qCl
     have f_b490 : w3.frozen? ⟨w2.heap.size, 0, none⟩ = false := by subst hW21; exact qFz
     have f_b491 : w3.frozen? ⟨w2.heap.size, 1, none⟩ = false := by subst hW21; exact qFz
     have f_b492 : w3.frozen? ⟨w2.heap.size, 2, none⟩ = false := by subst hW21; exact qFz
     have z_b1 : w.heap.size < w3.heap.size := qB b10
     have z_b2 : w.heap.size + 1 < w3.heap.size := qB b20
     have z_b3 : w.heap.size + 1 + 1 < w3.heap.size := qB b30
     have z_x5 : bl18 < w3.heap.size := qB x50
     have z_b49 : w2.heap.size < w3.heap.size := qB b490
     replace i44u := i44u.ext Lw3
     replace i44v := i44v.ext Lw3
     replace i44uz := i44uz.ext Lw3
     replace i44vz := i44vz.ext Lw3
     have s_w3 : w.heap.size ≤ w3.heap.size := Xw3.size
     have BD3_w3 : Ext w1 w3 := BD3_w2.trans Lw3
     have BL46_w3 : Ext w2 w3 := BL46.trans Lw3
     have BL48_w3 : Ext w2 w3 := BL48.trans Lw3
     clear hW21
     refine hK.out _ _ ⟨b10, b11, b20, b21, b22, b23, b24, b30, b31, x50, x51, x52, x53, x54⟩ (fun hHeld => ?_)
     clear hK K
     try simp only [Act.put, qa, qb, qc, qD, qE, qF]
     refine qHk (v := ?_) 14 rfl (.inl ⟨by rfl, ?_⟩) ?_
     rotate_left
     ·
      (intro w hSw; (try dsimp only at hSw); go_simp; try with_reducible rfl)
     try simp only [Act.put, qa, qb, qc, qD, qE, qF]
     refine wpAnyH_done qKr ?_ _
     clear hHeld
     go_step
     go_step
     go_meet
     case rel => exact ⟨_, _, _, _, _, rfl, rfl, BD3_w3, (by omega), b490, b491, b492, f_b490, f_b491, f_b492, i44u.lower (by omega), i44v.lower (by omega), i44uz.lower (by omega), i44vz.lower (by omega), i44s.out⟩
    ·
     try simp only [Act.put, qa, qb, qc, qD, qE, qF]
     go_simp
     have Q50_b10 := Lib.hid b10
     have Q50_b11 := Lib.hid b11
     have Q50_zb1 := z_b1
     have Q50_b20 := Lib.hid b20
     have Q50_b21 := Lib.hid b21
     have Q50_b22 := Lib.hid b22
     have Q50_b23 := Lib.hid b23
     have Q50_b24 := Lib.hid b24
     have Q50_zb2 := z_b2
     have Q50_b30 := Lib.hid b30
     have Q50_f_b30 := Lib.hid f_b30
     have Q50_b31 := Lib.hid b31
     have Q50_f_b31 := Lib.hid f_b31
     have Q50_zb3 := z_b3
     have Q50_x50 := Lib.hid x50
     have Q50_x51 := Lib.hid x51
     have Q50_x52 := Lib.hid x52
     have Q50_x53 := Lib.hid x53
     have Q50_x54 := Lib.hid x54
     have Q50_zx5 := z_x5
     have BL51 : Ext w1 w1 := Ext.refl _
     refine hK.out _ _ ⟨(show Ext w1 _ from qXt).cell b10, (show Ext w1 _ from qXt).cell b11, (show Ext w1 _ from qXt).cell b20, (show Ext w1 _ from qXt).cell b21, (show Ext w1 _ from qXt).cell b22, (show Ext w1 _ from qXt).cell b23, (show Ext w1 _ from qXt).cell b24, (show Ext w1 _ from qXt).cell b30, (show Ext w1 _ from qXt).cell b31, (show Ext w1 _ from qXt).cell x50, (show Ext w1 _ from qXt).cell x51, (show Ext w1 _ from qXt).cell x52, (show Ext w1 _ from qXt).cell x53, (show Ext w1 _ from qXt).cell x54⟩ (fun hHeld => ?_)
     clear hK K
     try simp only [Act.put, qa, qb, qc, qD, qE, qF]
     refine qHr 8 rfl (fun K hK => ?_)
     try simp only [Act.put, qa, qb, qc, qD, qE, qF]
     go_simp
     refine (pv_eq hP.out (implSliceDim_s B7 (.slice u12 S8.length c13) (.slice u14 T9.length c15) S8 T9 d F T B hf ht _ _ _ (i16.ext (Xw1.trans qXt)) (i17.ext (Xw1.trans qXt)))).mono ?_
     rintro e w2 ⟨fv53u, fv53v, rfl, i54u, i54v, i54uz, i54vz, i54s, xw2⟩
     have Lw2 : Ext w1 w2 := Ext.trans qXt xw2
     have Xw2 : Ext w w2 := Xw1.trans Lw2
     replace b10 := Lw2.cell b10
     replace b11 := Lw2.cell b11
     replace b20 := Lw2.cell b20
     replace b21 := Lw2.cell b21
     replace b22 := Lw2.cell b22
     replace b23 := Lw2.cell b23
     replace b24 := Lw2.cell b24
     replace b30 := Lw2.cell b30
     replace b31 := Lw2.cell b31
     replace f_b30 := Lw2.frz z_b3 f_b30
     replace f_b31 := Lw2.frz z_b3 f_b31
     replace x50 := Lw2.cell x50
     replace x51 := Lw2.cell x51
     replace x52 := Lw2.cell x52
     replace x53 := Lw2.cell x53
     replace x54 := Lw2.cell x54
     have b520 : w2.cell? ⟨w1.heap.size, 0, none⟩ = some (.int .i64 0) := xw2.cell qCl
     have b521 : w2.cell? ⟨w1.heap.size, 1, none⟩ = some (.slice none 0 0) := xw2.cell qCl
     have b522 : w2.cell? ⟨w1.heap.size, 2, none⟩ = some (.slice none 0 0) := xw2.cell qCl
     have f_b520 : w2.frozen? ⟨w1.heap.size, 0, none⟩ = false := xw2.frz (by simp <;> omega) qFz
     have f_b521 : w2.frozen? ⟨w1.heap.size, 1, none⟩ = false := xw2.frz (by simp <;> omega) qFz
     have f_b522 : w2.frozen? ⟨w1.heap.size, 2, none⟩ = false := xw2.frz (by simp <;> omega) qFz
     have z_b1 : w.heap.size < w2.heap.size := qB b10
     have z_b2 : w.heap.size + 1 < w2.heap.size := qB b20
     have z_b3 : w.heap.size + 1 + 1 < w2.heap.size := qB b30
     have z_x5 : bl18 < w2.heap.size := qB x50
     have z_b52 : w1.heap.size < w2.heap.size := qB b520
     have s_w2 : w.heap.size ≤ w2.heap.size := Xw2.size
     have BD3_w2 : Ext w1 w2 := BD3.trans Lw2
     have BL51_w2 : Ext w1 w2 := BL51.trans Lw2
     clear xw2
     try simp only [World.size_alloc, World.size_drew] at i54u
     try simp only [World.size_alloc, World.size_drew] at i54v
     try simp only [World.size_alloc, World.size_drew] at i54uz
     try simp only [World.size_alloc, World.size_drew] at i54vz
     obtain ⟨afv53u, cfv53u, rfl⟩ := i54u.form
     obtain ⟨afv53v, cfv53v, rfl⟩ := i54v.form
     replace i54s := Lib.hid i54s
     have zD_w2 := (BD3_w2).size
     refine hK.out _ _ ⟨b10, b11, b20, b21, b22, b23, b24, b30, b31, x50, x51, x52, x53, x54⟩ (fun hHeld => ?_)
     clear hK K
     try simp only [Act.put, qa, qb, qc, qD, qE, qF]
     refine qHk (v := ?_) 9 rfl (.inl ⟨by rfl, ?_⟩) ?_
     rotate_left
     ·
      (intro w hSw; (try dsimp only at hSw); go_simp; try with_reducible rfl)
     try simp only [Act.put, qa, qb, qc, qD, qE, qF]
     refine qHk (v := ?_) 10 rfl (.inl ⟨by rfl, ?_⟩) ?_
     rotate_left
     ·
      (intro w hSw; (try dsimp only at hSw); go_simp; try with_reducible rfl)
     try simp only [Act.put, qa, qb, qc, qD, qE, qF]
     refine qHk (v := ?_) 11 rfl (.inl ⟨by rfl, ?_⟩) ?_
     rotate_left
     ·
      (intro w hSw; (try dsimp only at hSw); go_simp; try with_reducible rfl)
     try simp only [Act.put, qa, qb, qc, qD, qE, qF]
     refine qHr 13 rfl (fun K hK => ?_)
     try simp only [Act.put, qa, qb, qc, qD, qE, qF]
     go_simp
     generalize hW22 : (((w2.setCell ⟨w1.heap.size, 0, none⟩ (.int .i64 PB)).setCell ⟨w1.heap.size, 1, none⟩ (.slice afv53u PS.length cfv53u)).setCell ⟨w1.heap.size, 2, none⟩ (.slice afv53v PT.length cfv53v)) = w3 at *
     have Kw3 : Chg (w1.heap.size) (w1.heap.size + 1) w2 w3 := by subst hW22; exact qCh
     have Xw3 : Ext w w3 := by subst hW22; exact qXt
     have BD3_w3 : Ext w1 w3 := by subst hW22; exact qXt
     have BL51_w3 : Ext w1 w3 := by subst hW22; exact qXt
     replace b10 := BL51_w3.cell Q50_b10.out
     replace b11 := BL51_w3.cell Q50_b11.out
     replace b20 := BL51_w3.cell Q50_b20.out
     replace b21 := BL51_w3.cell Q50_b21.out
     replace b22 := BL51_w3.cell Q50_b22.out
     replace b23 := BL51_w3.cell Q50_b23.out
     replace b24 := BL51_w3.cell Q50_b24.out
     replace b30 := BL51_w3.cell Q50_b30.out
     replace f_b30 := BL51_w3.frz Q50_zb3 Q50_f_b30.out
     replace b31 := BL51_w3.cell Q50_b31.out
     replace f_b31 := BL51_w3.frz Q50_zb3 Q50_f_b31.out
     replace x50 := BL51_w3.cell Q50_x50.out
     replace x51 := BL51_w3.cell Q50_x51.out
     replace x52 := BL51_w3.cell Q50_x52.out
     replace x53 := BL51_w3.cell Q50_x53.out
     replace x54 := BL51_w3.cell Q50_x54.out
     replace b520 : w3.cell? ⟨w1.heap.size, 0, none⟩ = some (.int .i64 PB) := by subst hW22; go_simp
     replace f_b520 : w3.frozen? ⟨w1.heap.size, 0, none⟩ = false := by subst hW22; first | (simp only [World.frozen?_setCell]; with_reducible assumption) | go_simp
     replace b521 : w3.cell? ⟨w1.heap.size, 1, none⟩ = some (.slice afv53u PS.length cfv53u) := by subst hW22; go_simp
     replace f_b521 : w3.frozen? ⟨w1.heap.size, 1, none⟩ = false := by subst hW22; first | (simp only [World.frozen?_setCell]; with_reducible assumption) | go_simp
     replace b522 : w3.cell? ⟨w1.heap.size, 2, none⟩ = some (.slice afv53v PT.length cfv53v) := by subst hW22; go_simp
     replace f_b522 : w3.frozen? ⟨w1.heap.size, 2, none⟩ = false := by subst hW22; first | (simp only [World.frozen?_setCell]; with_reducible assumption) | go_simp
     replace i54u := i54u.chg Kw3 (by omega)
     replace i54v := i54v.chg Kw3 (by omega)
     replace i54uz := i54uz.chg Kw3 (by omega)
     replace i54vz := i54vz.chg Kw3 (by omega)
     clear Kw3
     have z_b1 : w.heap.size < w3.heap.size := qB b10
     have z_b2 : w.heap.size + 1 < w3.heap.size := qB b20
     have z_b3 : w.heap.size + 1 + 1 < w3.heap.size := qB b30
     have z_x5 : bl18 < w3.heap.size := qB x50
     have z_b52 : w1.heap.size < w3.heap.size := qB b520
     have s_w3 : w.heap.size ≤ w3.heap.size := Xw3.size
     clear hW22
     refine hK.out _ _ ⟨b10, b11, b20, b21, b22, b23, b24, b30, b31, x50, x51, x52, x53, x54⟩ (fun hHeld => ?_)
     clear hK K
     try simp only [Act.put, qa, qb, qc, qD, qE, qF]
     refine qHk (v := ?_) 14 rfl (.inl ⟨by rfl, ?_⟩) ?_
     rotate_left
     ·
      (intro w hSw; (try dsimp only at hSw); go_simp; try with_reducible rfl)
     try simp only [Act.put, qa, qb, qc, qD, qE, qF]
     refine wpAnyH_done qKr ?_ _
     clear hHeld
     go_step
     go_step
     go_meet
     case rel => exact ⟨_, _, _, _, _, rfl, rfl, BD3_w3, (by omega), b520, b521, b522, f_b520, f_b521, f_b522, i54u.lower (by omega), i54v.lower (by omega), i54uz.lower (by omega), i54vz.lower (by omega), i54s.out⟩
   case rest =>
    generalize wc = wc56 at hcut ⊢
    obtain ⟨g57, af62, cf63, af64, cf65, rfl, rfl, xx58, hg_b55, b550, b551, b552, f_b550, f_b551, f_b552, i61u, i61v, i61uz, i61vz, i61s⟩ := hcut
    replace i61s := Lib.hid i61s
    have Lwc56 : Ext w1 wc56 := Ext.trans qXt xx58
    have Xwc56 : Ext w wc56 := Xw1.trans Lwc56
    replace b10 := Lwc56.cell b10
    replace b11 := Lwc56.cell b11
    replace b20 := Lwc56.cell b20
    replace b21 := Lwc56.cell b21
    replace b22 := Lwc56.cell b22
    replace b23 := Lwc56.cell b23
    replace b24 := Lwc56.cell b24
    replace b30 := Lwc56.cell b30
    replace b31 := Lwc56.cell b31
    replace f_b30 := Lwc56.frz z_b3 f_b30
    replace f_b31 := Lwc56.frz z_b3 f_b31
    replace x50 := Lwc56.cell x50
    replace x51 := Lwc56.cell x51
    replace x52 := Lwc56.cell x52
    replace x53 := Lwc56.cell x53
    replace x54 := Lwc56.cell x54
    have z_b1 : w.heap.size < wc56.heap.size := qB b10
    have z_b2 : w.heap.size + 1 < wc56.heap.size := qB b20
    have z_b3 : w.heap.size + 1 + 1 < wc56.heap.size := qB b30
    have z_x5 : bl18 < wc56.heap.size := qB x50
    have s_wc56 : w.heap.size ≤ wc56.heap.size := Xwc56.size
    clear xx58
    have z_b55 : g57 < wc56.heap.size := qB b550
    go_wp2_with fail
    have Q69_b10 := Lib.hid b10
    have Q69_b11 := Lib.hid b11
    have Q69_zb1 := z_b1
    have Q69_b20 := Lib.hid b20
    have Q69_b21 := Lib.hid b21
    have Q69_b22 := Lib.hid b22
    have Q69_b23 := Lib.hid b23
    have Q69_b24 := Lib.hid b24
    have Q69_zb2 := z_b2
    have Q69_b30 := Lib.hid b30
    have Q69_f_b30 := Lib.hid f_b30
    have Q69_b31 := Lib.hid b31
    have Q69_f_b31 := Lib.hid f_b31
    have Q69_zb3 := z_b3
    have Q69_x50 := Lib.hid x50
    have Q69_x51 := Lib.hid x51
    have Q69_x52 := Lib.hid x52
    have Q69_x53 := Lib.hid x53
    have Q69_x54 := Lib.hid x54
    have Q69_zx5 := z_x5
    have Q69_b550 := Lib.hid b550
    have Q69_f_b550 := Lib.hid f_b550
    have Q69_b551 := Lib.hid b551
    have Q69_f_b551 := Lib.hid f_b551
    have Q69_b552 := Lib.hid b552
    have Q69_f_b552 := Lib.hid f_b552
    have Q69_zb55 := z_b55
    have Q69_i61u := Lib.hid i61u
    have Q69_i61v := Lib.hid i61v
    have Q69_i61uz := Lib.hid i61uz
    have Q69_i61vz := Lib.hid i61vz
    have BL70 : Ext wc56 wc56 := Ext.refl _
    refine (withExport_1 cells es (.slice p0 cells.length c0) (.slice (some ⟨bl18, ol19, none⟩) es.length c1) (k : Int) PB (.slice af62 PS.length cf63) (.slice af64 PT.length cf65) PS PT true _ _ _ _ (h1.ext (Xwc56.trans qXt)) (h2.ext (Xwc56.trans qXt)) (by omega) (i61uz.ext qXt) (i61vz.ext qXt) i61s.out (by omega) (by omega) (by omega)).mono ?_
    rintro e w2 ⟨cvfb67, evfb67, R68, rfl, bf66, xw2⟩
    have Lw2 : Ext wc56 w2 := Ext.trans qXt xw2
    have Xw2 : Ext w w2 := Xwc56.trans Lw2
    replace b10 := Lw2.cell b10
    replace b11 := Lw2.cell b11
    replace b20 := Lw2.cell b20
    replace b21 := Lw2.cell b21
    replace b22 := Lw2.cell b22
    replace b23 := Lw2.cell b23
    replace b24 := Lw2.cell b24
    replace b30 := Lw2.cell b30
    replace b31 := Lw2.cell b31
    replace f_b30 := Lw2.frz z_b3 f_b30
    replace f_b31 := Lw2.frz z_b3 f_b31
    replace x50 := Lw2.cell x50
    replace x51 := Lw2.cell x51
    replace x52 := Lw2.cell x52
    replace x53 := Lw2.cell x53
    replace x54 := Lw2.cell x54
    replace b550 := Lw2.cell b550
    replace b551 := Lw2.cell b551
    replace b552 := Lw2.cell b552
    replace f_b550 := Lw2.frz z_b55 f_b550
    replace f_b551 := Lw2.frz z_b55 f_b551
    replace f_b552 := Lw2.frz z_b55 f_b552
    have z_b1 : w.heap.size < w2.heap.size := qB b10
    have z_b2 : w.heap.size + 1 < w2.heap.size := qB b20
    have z_b3 : w.heap.size + 1 + 1 < w2.heap.size := qB b30
    have z_x5 : bl18 < w2.heap.size := qB x50
    have z_b55 : g57 < w2.heap.size := qB b550
    replace i61u := i61u.ext Lw2
    replace i61v := i61v.ext Lw2
    replace i61uz := i61uz.ext Lw2
    replace i61vz := i61vz.ext Lw2
    have s_w2 : w.heap.size ≤ w2.heap.size := Xw2.size
    have BL70_w2 : Ext wc56 w2 := BL70.trans Lw2
    clear xw2
    obtain ⟨afb67, cfb67, rfl⟩ := bf66.ints.form
    obtain ⟨efb67, dfb67, hEfb67⟩ := bf66.exps.form
    rw [List.length_append, List.length_singleton] at hEfb67
    subst hEfb67
    have q_bf66 := Lib.hid bf66.at
    go_wp2_with fail
    generalize hW23 : ((w2.setCell ⟨w.heap.size + 1 + 1, 0, none⟩ (.slice afb67 cells.length cfb67)).setCell ⟨w.heap.size + 1 + 1, 1, none⟩ (.slice efb67 (es.length + 1) dfb67)) = w3 at *
    have Kw3 : Chg (w.heap.size + 1 + 1) (w.heap.size + 1 + 1 + 1) w2 w3 := by subst hW23; exact qCh
    have Xw3 : Ext w w3 := by subst hW23; exact qXt
    replace b10 := Kw3.cell (by omega) b10
    replace b11 := Kw3.cell (by omega) b11
    replace b20 := Kw3.cell (by omega) b20
    replace b21 := Kw3.cell (by omega) b21
    replace b22 := Kw3.cell (by omega) b22
    replace b23 := Kw3.cell (by omega) b23
    replace b24 := Kw3.cell (by omega) b24
    replace b30 : w3.cell? ⟨w.heap.size + 1 + 1, 0, none⟩ = some (.slice afb67 cells.length cfb67) := by subst hW23; go_simp
    replace f_b30 : w3.frozen? ⟨w.heap.size + 1 + 1, 0, none⟩ = false := by subst hW23; first | (simp only [World.frozen?_setCell]; with_reducible assumption) | go_simp
    replace b31 : w3.cell? ⟨w.heap.size + 1 + 1, 1, none⟩ = some (.slice efb67 (es.length + 1) dfb67) := by subst hW23; go_simp
    replace f_b31 : w3.frozen? ⟨w.heap.size + 1 + 1, 1, none⟩ = false := by subst hW23; first | (simp only [World.frozen?_setCell]; with_reducible assumption) | go_simp
    replace x50 := Kw3.cell (by omega) x50
    replace x51 := Kw3.cell (by omega) x51
    replace x52 := Kw3.cell (by omega) x52
    replace x53 := Kw3.cell (by omega) x53
    replace x54 := Kw3.cell (by omega) x54
    replace b550 := Kw3.cell (by omega) b550
    replace f_b550 := Kw3.frzO (by omega) z_b55 f_b550
    replace b551 := Kw3.cell (by omega) b551
    replace f_b551 := Kw3.frzO (by omega) z_b55 f_b551
    replace b552 := Kw3.cell (by omega) b552
    replace f_b552 := Kw3.frzO (by omega) z_b55 f_b552
    replace i61u := i61u.chg Kw3 (by omega)
    replace i61v := i61v.chg Kw3 (by omega)
    replace i61uz := i61uz.chg Kw3 (by omega)
    replace i61vz := i61vz.chg Kw3 (by omega)
    replace bf66 := bf66.chg Kw3 (by omega)
    clear Kw3
    have z_b1 : w.heap.size < w3.heap.size := qB b10
    have z_b2 : w.heap.size + 1 < w3.heap.size := qB b20
    have z_b3 : w.heap.size + 1 + 1 < w3.heap.size := qB b30
    have z_x5 : bl18 < w3.heap.size := qB x50
    have z_b55 : g57 < w3.heap.size := qB b550
    have s_w3 : w.heap.size ≤ w3.heap.size := Xw3.size
    clear hW23
    refine bodyPost_ret (v := .tuple #[.agg #[.slice afb67 cells.length cfb67, .slice efb67 (es.length + 1) dfb67], .bool true]) (by simp only [results, Try.results51]; go_simp) rfl ?_
    have eqA : parA cells es (k : Int) d F T B hf ht = (cells, es ++ [⟨(k : Int), PB, PS, PT, true⟩], true) := by unfold parA; simp only [Int.toNat_natCast]; rw [hX11.out]; dsimp only; rw [hP.out, hbb.out, hop.out, decide_eq_true (show es.length < 8 from h8)]; rfl
    exact PBX.yes eqA ((bf66.ext qXt).lower (by omega)) (Xw3.trans qXt)

set_option maxHeartbeats 1600000 in
theorem implExportPart_c (cells : List Int) (es : List Exp) (cv ev : Value) (i d F T B : Int) (hf ht : Bool) (w : World) (l1 l2 : Nat) (h1 : Ints w l1 cv cells) (h2 : Exps w l2 ev es) :
  Calls Try.prog 51 #[.agg #[cv, ev], .int .i64 i, .int .i64 d, .agg #[.int .i64 F, .int .i64 T, .int .i64 B, .bool hf, .bool ht]] w (PBX w (parA cells es i d F T B hf ht)) := by
 by_cases h8 : es.length < 8
 ·
  exact implExportPart_1 cells es cv ev i d F T B hf ht w l1 l2 h1 h2 h8
 ·
  exact implExportPart_0 cells es cv ev i d F T B hf ht w l1 l2 h1 h2 h8


end Go.Proofs.Ytfbbnbpobojboaa

/- Walks: slices that are converted. -/
namespace Go.Proofs.Ytfbbnbpobojboaa
open Go.RowKit
set_option linter.unusedVariables false
set_option maxRecDepth 100000

set_option maxHeartbeats 1600000 in
theorem toSlice_c (x y z : Int) (p q : Bool) (w : World)  :
    Calls Try.prog 50 #[.agg #[.int .i64 x, .int .i64 y, .int .i64 z, .bool p, .bool q]] w (fun e w' => e = .returned (.agg #[.int .i64 x, .int .i64 y, .int .i64 z, .bool p, .bool q]) ∧ Ext w w') := by
  go_enter Try.func50, Try.ntmps50
  go_wp2_with fail
  refine bodyPost_ret (v := .agg #[.int .i64 x, .int .i64 y, .int .i64 z, .bool p, .bool q]) (by simp only [results, Try.results50]; go_simp) rfl ?_
  exact ⟨rfl, qXt⟩


end Go.Proofs.Ytfbbnbpobojboaa

/- Walks: a buffer of the argument. -/
namespace Go.Proofs.Ytfbbnbpobojboaa
open Go.RowKit
set_option linter.unusedVariables false
set_option maxRecDepth 100000

set_option maxHeartbeats 3200000 in
theorem toBuffer_c (cells : List Int) (es : List Exp) (ac ae : Option Addr) (cc ce : Nat) (w : World) (h1 : Raw w (.slice ac cells.length cc) cells) (h2 : RawE w (.slice ae es.length ce) es) (hn : cells.length ≤ 1048576) (hl : es.length ≤ 1048576) (hm : ∀ i, i < es.length → (expAt es i).s.length ≤ 1048576 ∧ (expAt es i).t.length ≤ 1048576) :
    Calls Try.prog 16 #[.agg #[.slice ac cells.length cc, .slice ae es.length ce]] w (PBuf w cells es) := by
  go_enter Try.func16, Try.ntmps16
  go_wp2_with fail
  refine (toIntS_c cells _ _ (h1.ext qXt) (by omega)).mono ?_
  rintro e w1 ⟨u, rfl, iu, ou, x1⟩
  obtain ⟨u1, d1, rfl⟩ := iu.form
  have X1 : Ext w w1 := Ext.trans qXt x1
  have b1 : w1.cell? ⟨w.heap.size, 1, none⟩ = some (.slice ae es.length ce) := x1.cell qCl
  have q0 : w1.cell? ⟨w.heap.size + 1, 0, none⟩ = some (.slice none 0 0) := x1.cell qCl
  have q1 : w1.cell? ⟨w.heap.size + 1, 1, none⟩ = some (.slice none 0 0) := x1.cell qCl
  have y0 : w1.cell? ⟨w.heap.size + 1 + 1, 0, none⟩ = some (.slice none 0 0) := x1.cell qCl
  have y1 : w1.cell? ⟨w.heap.size + 1 + 1, 1, none⟩ = some (.slice none 0 0) := x1.cell qCl
  have fq0 : w1.frozen? ⟨w.heap.size + 1, 0, none⟩ = false := x1.frz (by simp <;> omega) qFz
  have fq1 : w1.frozen? ⟨w.heap.size + 1, 1, none⟩ = false := x1.frz (by simp <;> omega) qFz
  have fy0 : w1.frozen? ⟨w.heap.size + 1 + 1, 0, none⟩ = false := x1.frz (by simp <;> omega) qFz
  have fy1 : w1.frozen? ⟨w.heap.size + 1 + 1, 1, none⟩ = false := x1.frz (by simp <;> omega) qFz
  have z1 : w.heap.size + 1 + 1 < w1.heap.size := qB y0
  replace ou := ou.lower (base' := w.heap.size + 1 + 1 + 1) (by first | (simp; done) | (simp; omega))
  clear x1 iu h1
  go_upto_region 3 with fail
  have W2 : ∃ w2, w2 = w1.setCell ⟨w.heap.size + 1 + 1, 0, none⟩ (.slice u1 cells.length d1) := ⟨_, rfl⟩
  obtain ⟨w2, hw2⟩ := W2
  rw [← hw2]
  have K2 : Chg (w.heap.size + 1 + 1) (w.heap.size + 1 + 1 + 1) w1 w2 := by subst hw2; exact qCh
  have X2 : Ext w w2 := by subst hw2; exact qXt
  replace b1 := K2.cell (.inl (by omega)) b1
  replace q0 := K2.cell (.inl (by omega)) q0
  replace q1 := K2.cell (.inl (by omega)) q1
  replace y0 : w2.cell? ⟨w.heap.size + 1 + 1, 0, none⟩ = some (.slice u1 cells.length d1) := by subst hw2; go_simp
  replace y1 : w2.cell? ⟨w.heap.size + 1 + 1, 1, none⟩ = some (.slice none 0 0) := by subst hw2; go_simp
  replace fq0 := K2.frzO (.inl (by omega)) (by omega) fq0
  replace fq1 := K2.frzO (.inl (by omega)) (by omega) fq1
  replace fy0 : w2.frozen? ⟨w.heap.size + 1 + 1, 0, none⟩ = false := by subst hw2; simp only [World.frozen?_setCell]; exact fy0
  replace fy1 : w2.frozen? ⟨w.heap.size + 1 + 1, 1, none⟩ = false := by subst hw2; simp only [World.frozen?_setCell]; exact fy1
  replace ou := ou.chg K2 (Nat.le_refl _)
  replace z1 : w.heap.size + 1 + 1 < w2.heap.size := qB y0
  clear hw2 K2
  go_wp2_with fail
  refine (toExportS_c es _ _ (h2.ext X2) hl hm).mono ?_
  rintro e w3 ⟨v, R, rfl, hE, x3⟩
  have E3 : Ext w2 w3 := Ext.trans qXt x3
  have X3 : Ext w w3 := X2.trans E3
  obtain ⟨va, vc, rfl⟩ := hE.len
  have hb3 : w2.heap.size ≤ w3.heap.size := E3.size
  replace hE := hE.lower (lo' := w2.heap.size) (by first | (simp; done) | (simp; omega))
  replace b1 := E3.cell b1
  replace q0 := E3.cell q0
  replace q1 := E3.cell q1
  replace y0 := E3.cell y0
  replace y1 := E3.cell y1
  replace fq0 := E3.frz (by show _ < _; omega) fq0
  replace fq1 := E3.frz (by show _ < _; omega) fq1
  replace fy0 := E3.frz (by show _ < _; omega) fy0
  replace fy1 := E3.frz (by show _ < _; omega) fy1
  have oo := ou.ext E3
  clear x3 h2
  go_wp2_with fail
  refine bodyPost_ret (v := .agg #[.slice u1 cells.length d1, .slice va es.length vc]) (by simp only [results, Try.results16]; go_simp) rfl ?_
  have hw1 : w.heap.size ≤ w2.heap.size := X2.size
  have W4 : ∃ w4, w4 = (((w3.setCell ⟨w.heap.size + 1 + 1, 1, none⟩ (.slice va es.length vc)).setCell ⟨w.heap.size + 1, 0, none⟩ (.slice u1 cells.length d1)).setCell ⟨w.heap.size + 1, 1, none⟩ (.slice va es.length vc)) := ⟨_, rfl⟩
  obtain ⟨w4, hw4⟩ := W4
  rw [← hw4]
  have K4 : Chg (w.heap.size + 1) (w.heap.size + 1 + 1 + 1) w3 w4 := by subst hw4; exact qCh
  have X4 : Ext w w4 := by subst hw4; exact qXt
  clear hw4
  refine ⟨_, _, R, rfl, ⟨(oo.chg K4 (Nat.le_refl _)).lower (by omega), (hE.chg K4 (by omega)).lower hw1, by omega, hl, ?_, ?_⟩, X4⟩
  · intro hc he
    obtain ⟨g, hg, -, hlt⟩ := ou.lt hc
    rw [hg] at he
    have := (hE.blk g he.symm).1
    omega
  · intro p hp hs hc he
    obtain ⟨g, hg, -, hlt⟩ := ou.lt hc
    obtain ⟨g', hg', hb, -⟩ := hE.nblk p hp hs
    rw [hg, hg'] at he
    have := Option.some.inj he
    omega
end Go.Proofs.Ytfbbnbpobojboaa
