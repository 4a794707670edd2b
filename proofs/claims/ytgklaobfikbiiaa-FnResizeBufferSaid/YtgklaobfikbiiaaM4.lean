/- Texts of these proofs put together: BufY, BufJ, BufX, SliA, DelA, DelB, PureP, PureS, DelC, PureT, SliB, SliC, SliS, BufZ, DnA, DnB, NumA, PureU, PureE, PureF, LvS, LvR, PureG, PureK. No condition. -/
import Derived.Test.YtgklaobfikbiiaaM2
import Derived.Test.YtgklaobfikbiiaaM3
import Derived.Test.YtgklaobfikbiiaaM1
import Derived.Laws.Concat
set_option linter.unusedVariables false
set_option linter.unusedSimpArgs false
/- Walks: CopyExport of both. -/
namespace Go.Proofs.Ytgklaobfikbiiaa
open Go.RowKit
set_option linter.unusedVariables false
set_option maxRecDepth 100000

set_option maxHeartbeats 3200000 in
theorem specCopyExport_c (cells : List Int) (es : List Exp) (cv ev : Value) (i j : Int) (w : World) (l1 l2 : Nat) (h1 : Ints w l1 cv cells) (h2 : Exps w l2 ev es) :
  Calls Try.prog 89 #[.agg #[cv, ev], .int .i64 i, .int .i64 j] w (PBX w (cpyA cells es i j)) := by
 obtain ⟨p0, c0, rfl⟩ := h1.form
 obtain ⟨p1, c1, rfl⟩ := h2.form
 have he1 := h2.len
 have hc1 := h1.len
 go_enter Try.func89, Try.ntmps89
 go_wp2_with fail
 refine (validBuffer_c cells es (.slice p0 cells.length c0) (.slice p1 es.length c1) _ _ _ (h1.ext qXt) (h2.ext qXt)).mono ?_
 rintro e w1 ⟨rfl, xw1⟩
 have Lw1 : Ext w w1 := Ext.trans qXt xw1
 have Xw1 : Ext w w1 := Lw1
 have b10 : w1.cell? ⟨w.heap.size, 0, none⟩ = some (.slice p0 cells.length c0) := xw1.cell qCl
 have b11 : w1.cell? ⟨w.heap.size, 1, none⟩ = some (.slice p1 es.length c1) := xw1.cell qCl
 have b20 : w1.cell? ⟨w.heap.size + 1, 0, none⟩ = some (.slice none 0 0) := xw1.cell qCl
 have b21 : w1.cell? ⟨w.heap.size + 1, 1, none⟩ = some (.slice none 0 0) := xw1.cell qCl
 have f_b20 : w1.frozen? ⟨w.heap.size + 1, 0, none⟩ = false := xw1.frz (by simp <;> omega) qFz
 have f_b21 : w1.frozen? ⟨w.heap.size + 1, 1, none⟩ = false := xw1.frz (by simp <;> omega) qFz
 have z_b1 : w.heap.size < w1.heap.size := qB b10
 have z_b2 : w.heap.size + 1 < w1.heap.size := qB b20
 have s_w1 : w.heap.size ≤ w1.heap.size := Xw1.size
 clear xw1
 cases hB3 : bufB cells es
 ·
  replace hB3 := Lib.hid hB3
  go_wp2_with fail
  generalize hW6 : ((w1.setCell ⟨w.heap.size + 1, 0, none⟩ (.slice none 0 0)).setCell ⟨w.heap.size + 1, 1, none⟩ (.slice none 0 0)) = w2 at *
  have Kw2 : Chg (w.heap.size + 1) (w.heap.size + 1 + 1) w1 w2 := by subst hW6; exact qCh
  have Xw2 : Ext w w2 := by subst hW6; exact qXt
  replace b10 := Kw2.cell (by omega) b10
  replace b11 := Kw2.cell (by omega) b11
  replace b20 : w2.cell? ⟨w.heap.size + 1, 0, none⟩ = some (.slice none 0 0) := by subst hW6; go_simp
  replace f_b20 : w2.frozen? ⟨w.heap.size + 1, 0, none⟩ = false := by subst hW6; first | (simp only [World.frozen?_setCell]; with_reducible assumption) | go_simp
  replace b21 : w2.cell? ⟨w.heap.size + 1, 1, none⟩ = some (.slice none 0 0) := by subst hW6; go_simp
  replace f_b21 : w2.frozen? ⟨w.heap.size + 1, 1, none⟩ = false := by subst hW6; first | (simp only [World.frozen?_setCell]; with_reducible assumption) | go_simp
  clear Kw2
  have z_b1 : w.heap.size < w2.heap.size := qB b10
  have z_b2 : w.heap.size + 1 < w2.heap.size := qB b20
  have s_w2 : w.heap.size ≤ w2.heap.size := Xw2.size
  clear hW6
  refine bodyPost_ret (v := .tuple #[.agg #[.slice none 0 0, .slice none 0 0], .bool false]) (by simp only [results, Try.results89]; go_simp) rfl ?_
  exact PBX.no (by unfold cpyA; rw [(show (bufB cells es && (opB es i && opB es j)) = false by rw [hB3.out]; rfl), Bool.false_and]; rfl) (Xw2.trans qXt)
 ·
  replace hB3 := Lib.hid hB3
  have hbb : Hid (bufB cells es = true) := Lib.hid hB3.out
  go_wp2_with fail
  refine (specIsOpen_c cells es (.slice p0 cells.length c0) (.slice p1 es.length c1) i _ _ _ (h1.ext (Xw1.trans qXt)) (h2.ext (Xw1.trans qXt))).mono ?_
  rintro e w2 ⟨rfl, xw2⟩
  have Lw2 : Ext w1 w2 := Ext.trans qXt xw2
  have Xw2 : Ext w w2 := Xw1.trans Lw2
  replace b10 := Lw2.cell b10
  replace b11 := Lw2.cell b11
  replace b20 := Lw2.cell b20
  replace b21 := Lw2.cell b21
  replace f_b20 := Lw2.frz z_b2 f_b20
  replace f_b21 := Lw2.frz z_b2 f_b21
  have z_b1 : w.heap.size < w2.heap.size := qB b10
  have z_b2 : w.heap.size + 1 < w2.heap.size := qB b20
  have s_w2 : w.heap.size ≤ w2.heap.size := Xw2.size
  clear xw2
  cases hB4 : opB es i
  ·
   replace hB4 := Lib.hid hB4
   go_wp2_with fail
   generalize hW7 : ((w2.setCell ⟨w.heap.size + 1, 0, none⟩ (.slice none 0 0)).setCell ⟨w.heap.size + 1, 1, none⟩ (.slice none 0 0)) = w3 at *
   have Kw3 : Chg (w.heap.size + 1) (w.heap.size + 1 + 1) w2 w3 := by subst hW7; exact qCh
   have Xw3 : Ext w w3 := by subst hW7; exact qXt
   replace b10 := Kw3.cell (by omega) b10
   replace b11 := Kw3.cell (by omega) b11
   replace b20 : w3.cell? ⟨w.heap.size + 1, 0, none⟩ = some (.slice none 0 0) := by subst hW7; go_simp
   replace f_b20 : w3.frozen? ⟨w.heap.size + 1, 0, none⟩ = false := by subst hW7; first | (simp only [World.frozen?_setCell]; with_reducible assumption) | go_simp
   replace b21 : w3.cell? ⟨w.heap.size + 1, 1, none⟩ = some (.slice none 0 0) := by subst hW7; go_simp
   replace f_b21 : w3.frozen? ⟨w.heap.size + 1, 1, none⟩ = false := by subst hW7; first | (simp only [World.frozen?_setCell]; with_reducible assumption) | go_simp
   clear Kw3
   have z_b1 : w.heap.size < w3.heap.size := qB b10
   have z_b2 : w.heap.size + 1 < w3.heap.size := qB b20
   have s_w3 : w.heap.size ≤ w3.heap.size := Xw3.size
   clear hW7
   refine bodyPost_ret (v := .tuple #[.agg #[.slice none 0 0, .slice none 0 0], .bool false]) (by simp only [results, Try.results89]; go_simp) rfl ?_
   exact PBX.no (by unfold cpyA; rw [(show (bufB cells es && (opB es i && opB es j)) = false by rw [hB4.out, Bool.false_and, Bool.and_false]), Bool.false_and]; rfl) (Xw3.trans qXt)
  ·
   replace hB4 := Lib.hid hB4
   have hop : Hid (opB es i = true) := Lib.hid hB4.out
   obtain ⟨hop0, hop1, hop2⟩ := opB_in hop.out
   obtain ⟨k, rfl⟩ : ∃ q : Nat, i = q := ⟨i.toNat, by omega⟩
   have hltk : k < es.length := by omega
   replace hop2 := Lib.hid hop2
   go_wp2_with fail
   refine (specIsOpen_c cells es (.slice p0 cells.length c0) (.slice p1 es.length c1) j _ _ _ (h1.ext (Xw2.trans qXt)) (h2.ext (Xw2.trans qXt))).mono ?_
   rintro e w3 ⟨rfl, xw3⟩
   have Lw3 : Ext w2 w3 := Ext.trans qXt xw3
   have Xw3 : Ext w w3 := Xw2.trans Lw3
   replace b10 := Lw3.cell b10
   replace b11 := Lw3.cell b11
   replace b20 := Lw3.cell b20
   replace b21 := Lw3.cell b21
   replace f_b20 := Lw3.frz z_b2 f_b20
   replace f_b21 := Lw3.frz z_b2 f_b21
   have z_b1 : w.heap.size < w3.heap.size := qB b10
   have z_b2 : w.heap.size + 1 < w3.heap.size := qB b20
   have s_w3 : w.heap.size ≤ w3.heap.size := Xw3.size
   clear xw3
   cases hB5 : opB es j
   ·
    replace hB5 := Lib.hid hB5
    go_wp2_with fail
    generalize hW8 : ((w3.setCell ⟨w.heap.size + 1, 0, none⟩ (.slice none 0 0)).setCell ⟨w.heap.size + 1, 1, none⟩ (.slice none 0 0)) = w4 at *
    have Kw4 : Chg (w.heap.size + 1) (w.heap.size + 1 + 1) w3 w4 := by subst hW8; exact qCh
    have Xw4 : Ext w w4 := by subst hW8; exact qXt
    replace b10 := Kw4.cell (by omega) b10
    replace b11 := Kw4.cell (by omega) b11
    replace b20 : w4.cell? ⟨w.heap.size + 1, 0, none⟩ = some (.slice none 0 0) := by subst hW8; go_simp
    replace f_b20 : w4.frozen? ⟨w.heap.size + 1, 0, none⟩ = false := by subst hW8; first | (simp only [World.frozen?_setCell]; with_reducible assumption) | go_simp
    replace b21 : w4.cell? ⟨w.heap.size + 1, 1, none⟩ = some (.slice none 0 0) := by subst hW8; go_simp
    replace f_b21 : w4.frozen? ⟨w.heap.size + 1, 1, none⟩ = false := by subst hW8; first | (simp only [World.frozen?_setCell]; with_reducible assumption) | go_simp
    clear Kw4
    have z_b1 : w.heap.size < w4.heap.size := qB b10
    have z_b2 : w.heap.size + 1 < w4.heap.size := qB b20
    have s_w4 : w.heap.size ≤ w4.heap.size := Xw4.size
    clear hW8
    refine bodyPost_ret (v := .tuple #[.agg #[.slice none 0 0, .slice none 0 0], .bool false]) (by simp only [results, Try.results89]; go_simp) rfl ?_
    exact PBX.no (by unfold cpyA; rw [(show (bufB cells es && (opB es (k : Int) && opB es j)) = false by rw [hB5.out, Bool.and_false, Bool.and_false]), Bool.false_and]; rfl) (Xw4.trans qXt)
   ·
    replace hB5 := Lib.hid hB5
    have hoq : Hid (opB es j = true) := Lib.hid hB5.out
    obtain ⟨hoq0, hoq1, hoq2⟩ := opB_in hoq.out
    obtain ⟨m, rfl⟩ : ∃ q : Nat, j = q := ⟨j.toNat, by omega⟩
    have hltm : m < es.length := by omega
    replace hoq2 := Lib.hid hoq2
    go_wp2_with fail
    have hN_x6 : k < es.length := hltk
    have hI_x6 : (k : Int) < (es.length : Int) := by omega
    obtain ⟨bl19, ol20, u13, c14, u15, c16, rfl, x60, x61, x62, x63, x64, i17, i18⟩ := h2.at k hN_x6
    obtain ⟨X12, hX12⟩ : ∃ x, expAt es k = x := ⟨_, rfl⟩
    rw [hX12] at x60 x61 x62 x63 x64 i17 i18
    obtain ⟨P7, B8, S9, T10, O11⟩ := X12
    dsimp only at x60 x61 x62 x63 x64 i17 i18
    replace hX12 := Lib.hid hX12
    have hLS9 := i17.len
    have hLT10 := i18.len
    have y_x6 : bl19 < w.heap.size := qB x60
    replace x60 := Xw3.cell x60
    replace x61 := Xw3.cell x61
    replace x62 := Xw3.cell x62
    replace x63 := Xw3.cell x63
    replace x64 := Xw3.cell x64
    have z_x6 : bl19 < w3.heap.size := qB x60
    have hN_x21 : m < es.length := hltm
    have hI_x21 : (m : Int) < (es.length : Int) := by omega
    obtain ⟨b_x21, o_x21, u28, c29, u30, c31, h_x21, x210, x211, x212, x213, x214, i32, i33⟩ := h2.at m hN_x21
    cases h_x21
    obtain ⟨X27, hX27⟩ : ∃ x, expAt es m = x := ⟨_, rfl⟩
    rw [hX27] at x210 x211 x212 x213 x214 i32 i33
    obtain ⟨P22, B23, S24, T25, O26⟩ := X27
    dsimp only at x210 x211 x212 x213 x214 i32 i33
    replace hX27 := Lib.hid hX27
    have hLS24 := i32.len
    have hLT25 := i33.len
    have y_x21 : bl19 < w.heap.size := qB x210
    replace x210 := Xw3.cell x210
    replace x211 := Xw3.cell x211
    replace x212 := Xw3.cell x212
    replace x213 := Xw3.cell x213
    replace x214 := Xw3.cell x214
    have z_x21 : bl19 < w3.heap.size := qB x210
    have hc60 := (bufB_in hbb.out).2.1
    go_wp2_with fail
    refine wp_region_tail (S := fun w' => w'.cell? ⟨w.heap.size, 0, none⟩ = some (.slice p0 cells.length c0) ∧ w'.cell? ⟨w.heap.size, 1, none⟩ = some (.slice (some ⟨bl19, ol20, none⟩) es.length c1) ∧ w'.cell? ⟨bl19, ol20 + k * 5 + 1, none⟩ = some (.int .i64 B8) ∧ w'.cell? ⟨bl19, ol20 + k * 5 + 2, none⟩ = some (.slice u13 S9.length c14) ∧ w'.cell? ⟨bl19, ol20 + k * 5 + 3, none⟩ = some (.slice u15 T10.length c16) ∧ w'.cell? ⟨bl19, ol20 + m * 5 + 1, none⟩ = some (.int .i64 B23) ∧ w'.cell? ⟨bl19, ol20 + m * 5 + 2, none⟩ = some (.slice u28 S24.length c29) ∧ w'.cell? ⟨bl19, ol20 + m * 5 + 3, none⟩ = some (.slice u30 T25.length c31)) (fun i => decide (20 ≤ i)) qKr ⟨b10, b11, x61, x62, x63, x211, x212, x213⟩ (fun hHeld => ?_)
    refine qTk (v := ?_) 0 rfl (.inl ⟨by rfl, ?_⟩) ?_
    rotate_left
    ·
     (intro w hSw; (try dsimp only at hSw); go_simp; try with_reducible rfl)
    try simp only [Act.put, qa, qb, qc, qD, qE, qF]
    refine qTk (v := ?_) 1 rfl (.inl ⟨by rfl, ?_⟩) ?_
    rotate_left
    ·
     (intro w hSw; (try dsimp only at hSw); go_simp; try with_reducible rfl)
    try simp only [Act.put, qa, qb, qc, qD, qE, qF]
    refine qTk (v := ?_) 2 rfl (.inl ⟨by rfl, ?_⟩) ?_
    rotate_left
    ·
     (intro w hSw; (try dsimp only at hSw); go_simp; try with_reducible rfl)
    try simp only [Act.put, qa, qb, qc, qD, qE, qF]
    refine qTk (v := ?_) 3 rfl (.inl ⟨by rfl, ?_⟩) ?_
    rotate_left
    ·
     (intro w hSw; (try dsimp only at hSw); go_simp; try with_reducible rfl)
    try simp only [Act.put, qa, qb, qc, qD, qE, qF]
    refine qTk (v := ?_) 4 rfl (.inl ⟨by rfl, ?_⟩) ?_
    rotate_left
    ·
     (intro w hSw; (try dsimp only at hSw); go_simp; try with_reducible rfl)
    try simp only [Act.put, qa, qb, qc, qD, qE, qF]
    refine qTk (v := ?_) 5 rfl (.inl ⟨by rfl, ?_⟩) ?_
    rotate_left
    ·
     (intro w hSw; (try dsimp only at hSw); go_simp; try with_reducible rfl)
    try simp only [Act.put, qa, qb, qc, qD, qE, qF]
    refine qTk (v := ?_) 6 rfl (.inl ⟨by rfl, ?_⟩) ?_
    rotate_left
    ·
     (intro w hSw; (try dsimp only at hSw); go_simp; try with_reducible rfl)
    try simp only [Act.put, qa, qb, qc, qD, qE, qF]
    refine qTk (v := ?_) 7 rfl (.inl ⟨by rfl, ?_⟩) ?_
    rotate_left
    ·
     (intro w hSw; (try dsimp only at hSw); go_simp; try with_reducible rfl)
    try simp only [Act.put, qa, qb, qc, qD, qE, qF]
    refine qTk (v := ?_) 8 rfl (.inl ⟨by rfl, ?_⟩) ?_
    rotate_left
    ·
     (intro w hSw; (try dsimp only at hSw); go_simp; try with_reducible rfl)
    try simp only [Act.put, qa, qb, qc, qD, qE, qF]
    refine qTk (v := ?_) 9 rfl (.inl ⟨by rfl, ?_⟩) ?_
    rotate_left
    ·
     (intro w hSw; (try dsimp only at hSw); go_simp; try with_reducible rfl)
    try simp only [Act.put, qa, qb, qc, qD, qE, qF]
    refine qTk (v := ?_) 10 rfl (.inl ⟨by rfl, ?_⟩) ?_
    rotate_left
    ·
     (intro w hSw; (try dsimp only at hSw); go_simp; try with_reducible rfl)
    try simp only [Act.put, qa, qb, qc, qD, qE, qF]
    refine qTk (v := ?_) 11 rfl (.inl ⟨by rfl, ?_⟩) ?_
    rotate_left
    ·
     (intro w hSw; (try dsimp only at hSw); go_simp; try with_reducible rfl)
    try simp only [Act.put, qa, qb, qc, qD, qE, qF]
    refine qTk (v := ?_) 12 rfl (.inl ⟨by rfl, ?_⟩) ?_
    rotate_left
    ·
     (intro w hSw; (try dsimp only at hSw); go_simp; try with_reducible rfl)
    try simp only [Act.put, qa, qb, qc, qD, qE, qF]
    refine qTk (v := ?_) 13 rfl (.inl ⟨by rfl, ?_⟩) ?_
    rotate_left
    ·
     (intro w hSw; (try dsimp only at hSw); go_simp; try with_reducible rfl)
    try simp only [Act.put, qa, qb, qc, qD, qE, qF]
    refine wpTail_one (i := 14) qKr rfl rfl (fun K hK => ?_)
    try simp only [Act.put, qa, qb, qc, qD, qE, qF]
    go_simp
    refine (specCopyView_c cells (.slice p0 cells.length c0) B8 (.slice u13 S9.length c14) (.slice u15 T10.length c16) S9 T10 B23 (.slice u28 S24.length c29) (.slice u30 T25.length c31) S24 T25 _ _ (h1.ext (Xw3.trans qXt)) _ _ (i17.ext (Xw3.trans qXt)) (i18.ext (Xw3.trans qXt)) _ _ (i32.ext (Xw3.trans qXt)) (i33.ext (Xw3.trans qXt))).mono ?_
    rintro e w4 ⟨fv36, rfl, i37, i37z, czfv36, xw4⟩
    have Lw4 : Ext w3 w4 := Ext.trans qXt xw4
    have Xw4 : Ext w w4 := Xw3.trans Lw4
    replace b10 := Lw4.cell b10
    replace b11 := Lw4.cell b11
    replace b20 := Lw4.cell b20
    replace b21 := Lw4.cell b21
    replace f_b20 := Lw4.frz z_b2 f_b20
    replace f_b21 := Lw4.frz z_b2 f_b21
    replace x60 := Lw4.cell x60
    replace x61 := Lw4.cell x61
    replace x62 := Lw4.cell x62
    replace x63 := Lw4.cell x63
    replace x64 := Lw4.cell x64
    replace x210 := Lw4.cell x210
    replace x211 := Lw4.cell x211
    replace x212 := Lw4.cell x212
    replace x213 := Lw4.cell x213
    replace x214 := Lw4.cell x214
    have z_b1 : w.heap.size < w4.heap.size := qB b10
    have z_b2 : w.heap.size + 1 < w4.heap.size := qB b20
    have z_x6 : bl19 < w4.heap.size := qB x60
    have z_x21 : bl19 < w4.heap.size := qB x210
    have s_w4 : w.heap.size ≤ w4.heap.size := Xw4.size
    clear xw4
    try simp only [World.size_alloc, World.size_drew] at i37
    try simp only [World.size_alloc, World.size_drew] at i37z
    obtain ⟨afv36, cfv36, rfl⟩ := i37.form
    cases hB38 : pairB cells B8 S9 T10 B23 S24 T25
    ·
     replace hB38 := Lib.hid hB38
     refine hK.out _ _ ⟨b10, b11, x61, x62, x63, x211, x212, x213⟩ (fun hHeld => ?_)
     clear hK K
     try simp only [Act.put, qa, qb, qc, qD, qE, qF]
     refine qTk (v := ?_) 15 rfl (.inl ⟨by rfl, ?_⟩) ?_
     rotate_left
     ·
      (intro w hSw; (try dsimp only at hSw); go_simp; try with_reducible rfl)
     try simp only [Act.put, qa, qb, qc, qD, qE, qF]
     refine qTk (v := ?_) 16 rfl (.inl ⟨by rfl, ?_⟩) ?_
     rotate_left
     ·
      (intro w hSw; (try dsimp only at hSw); go_simp; try with_reducible rfl)
     try simp only [Act.put, qa, qb, qc, qD, qE, qF]
     refine qTk (v := ?_) 17 rfl (.inl ⟨by rfl, ?_⟩) ?_
     rotate_left
     ·
      (intro w hSw; (try dsimp only at hSw); go_simp; try with_reducible rfl)
     try simp only [Act.put, qa, qb, qc, qD, qE, qF]
     refine qTk (v := ?_) 18 rfl (.inl ⟨by rfl, ?_⟩) ?_
     rotate_left
     ·
      (intro w hSw; (try dsimp only at hSw); go_simp; try with_reducible rfl)
     try simp only [Act.put, qa, qb, qc, qD, qE, qF]
     refine qTk (v := ?_) 19 rfl (.inl ⟨by rfl, ?_⟩) ?_
     rotate_left
     ·
      (intro w hSw; (try dsimp only at hSw); go_simp; try with_reducible rfl)
     try simp only [Act.put, qa, qb, qc, qD, qE, qF]
     refine wpTail_done qKr ?_ _
     clear hHeld 
     go_wp2_with fail
     generalize hW9 : ((w4.setCell ⟨w.heap.size + 1, 0, none⟩ (.slice none 0 0)).setCell ⟨w.heap.size + 1, 1, none⟩ (.slice none 0 0)) = w5 at *
     have Kw5 : Chg (w.heap.size + 1) (w.heap.size + 1 + 1) w4 w5 := by subst hW9; exact qCh
     have Xw5 : Ext w w5 := by subst hW9; exact qXt
     replace b10 := Kw5.cell (by omega) b10
     replace b11 := Kw5.cell (by omega) b11
     replace b20 : w5.cell? ⟨w.heap.size + 1, 0, none⟩ = some (.slice none 0 0) := by subst hW9; go_simp
     replace f_b20 : w5.frozen? ⟨w.heap.size + 1, 0, none⟩ = false := by subst hW9; first | (simp only [World.frozen?_setCell]; with_reducible assumption) | go_simp
     replace b21 : w5.cell? ⟨w.heap.size + 1, 1, none⟩ = some (.slice none 0 0) := by subst hW9; go_simp
     replace f_b21 : w5.frozen? ⟨w.heap.size + 1, 1, none⟩ = false := by subst hW9; first | (simp only [World.frozen?_setCell]; with_reducible assumption) | go_simp
     replace x60 := Kw5.cell (by omega) x60
     replace x61 := Kw5.cell (by omega) x61
     replace x62 := Kw5.cell (by omega) x62
     replace x63 := Kw5.cell (by omega) x63
     replace x64 := Kw5.cell (by omega) x64
     replace x210 := Kw5.cell (by omega) x210
     replace x211 := Kw5.cell (by omega) x211
     replace x212 := Kw5.cell (by omega) x212
     replace x213 := Kw5.cell (by omega) x213
     replace x214 := Kw5.cell (by omega) x214
     replace i37 := i37.chg Kw5 (by omega)
     replace i37z := i37z.chg Kw5 (by omega)
     clear Kw5
     have z_b1 : w.heap.size < w5.heap.size := qB b10
     have z_b2 : w.heap.size + 1 < w5.heap.size := qB b20
     have z_x6 : bl19 < w5.heap.size := qB x60
     have z_x21 : bl19 < w5.heap.size := qB x210
     have s_w5 : w.heap.size ≤ w5.heap.size := Xw5.size
     clear hW9
     refine bodyPost_ret (v := .tuple #[.agg #[.slice none 0 0, .slice none 0 0], .bool false]) (by simp only [results, Try.results89]; go_simp) rfl ?_
     exact PBX.no (by unfold cpyA; simp only [Int.toNat_natCast]; rw [hX12.out, hX27.out]; dsimp only; rw [hB38.out, Bool.and_false]; rfl) (Xw5.trans qXt)
    ·
     replace hB38 := Lib.hid hB38
     have hfl : (copyA cells B8 S9 T10 B23 S24 T25).length ≤ 60 := by rw [copyA_len hB38.out]; omega
     have hbd := Lib.hid i37z.bound
     refine hK.out _ _ ⟨b10, b11, x61, x62, x63, x211, x212, x213⟩ (fun hHeld => ?_)
     clear hK K
     try simp only [Act.put, qa, qb, qc, qD, qE, qF]
     refine qTk (v := ?_) 15 rfl (.inl ⟨by rfl, ?_⟩) ?_
     rotate_left
     ·
      (intro w hSw; (try dsimp only at hSw); go_simp; try with_reducible rfl)
     try simp only [Act.put, qa, qb, qc, qD, qE, qF]
     refine qTk (v := ?_) 16 rfl (.inl ⟨by rfl, ?_⟩) ?_
     rotate_left
     ·
      (intro w hSw; (try dsimp only at hSw); go_simp; try with_reducible rfl)
     try simp only [Act.put, qa, qb, qc, qD, qE, qF]
     refine qTk (v := ?_) 17 rfl (.inl ⟨by rfl, ?_⟩) ?_
     rotate_left
     ·
      (intro w hSw; (try dsimp only at hSw); go_simp; try with_reducible rfl)
     try simp only [Act.put, qa, qb, qc, qD, qE, qF]
     refine qTk (v := ?_) 18 rfl (.inl ⟨by rfl, ?_⟩) ?_
     rotate_left
     ·
      (intro w hSw; (try dsimp only at hSw); go_simp; try with_reducible rfl)
     try simp only [Act.put, qa, qb, qc, qD, qE, qF]
     refine qTk (v := ?_) 19 rfl (.inl ⟨by rfl, ?_⟩) ?_
     rotate_left
     ·
      (intro w hSw; (try dsimp only at hSw); go_simp; try with_reducible rfl)
     try simp only [Act.put, qa, qb, qc, qD, qE, qF]
     refine wpTail_done qKr ?_ _
     clear hHeld 
     go_wp2_with fail
     have Q42_b10 := Lib.hid b10
     have Q42_b11 := Lib.hid b11
     have Q42_zb1 := z_b1
     have Q42_b20 := Lib.hid b20
     have Q42_f_b20 := Lib.hid f_b20
     have Q42_b21 := Lib.hid b21
     have Q42_f_b21 := Lib.hid f_b21
     have Q42_zb2 := z_b2
     have Q42_x60 := Lib.hid x60
     have Q42_x61 := Lib.hid x61
     have Q42_x62 := Lib.hid x62
     have Q42_x63 := Lib.hid x63
     have Q42_x64 := Lib.hid x64
     have Q42_zx6 := z_x6
     have Q42_x210 := Lib.hid x210
     have Q42_x211 := Lib.hid x211
     have Q42_x212 := Lib.hid x212
     have Q42_x213 := Lib.hid x213
     have Q42_x214 := Lib.hid x214
     have Q42_zx21 := z_x21
     have Q42_i37 := Lib.hid i37
     have Q42_i37z := Lib.hid i37z
     have BL43 : Ext w4 w4 := Ext.refl _
     refine (specCopyBuffer_c cells es (.slice p0 cells.length c0) (.slice (some ⟨bl19, ol20, none⟩) es.length c1) _ _ _ (h1.ext (Xw4.trans qXt)) (h2.ext (Xw4.trans qXt))).mono ?_
     rintro e w5 ⟨cvfb40, evfb40, R41, rfl, bf39, xw5⟩
     have Lw5 : Ext w4 w5 := Ext.trans qXt xw5
     have Xw5 : Ext w w5 := Xw4.trans Lw5
     replace b10 := Lw5.cell b10
     replace b11 := Lw5.cell b11
     replace b20 := Lw5.cell b20
     replace b21 := Lw5.cell b21
     replace f_b20 := Lw5.frz z_b2 f_b20
     replace f_b21 := Lw5.frz z_b2 f_b21
     replace x60 := Lw5.cell x60
     replace x61 := Lw5.cell x61
     replace x62 := Lw5.cell x62
     replace x63 := Lw5.cell x63
     replace x64 := Lw5.cell x64
     replace x210 := Lw5.cell x210
     replace x211 := Lw5.cell x211
     replace x212 := Lw5.cell x212
     replace x213 := Lw5.cell x213
     replace x214 := Lw5.cell x214
     have z_b1 : w.heap.size < w5.heap.size := qB b10
     have z_b2 : w.heap.size + 1 < w5.heap.size := qB b20
     have z_x6 : bl19 < w5.heap.size := qB x60
     have z_x21 : bl19 < w5.heap.size := qB x210
     replace i37 := i37.ext Lw5
     replace i37z := i37z.ext Lw5
     have s_w5 : w.heap.size ≤ w5.heap.size := Xw5.size
     have BL43_w5 : Ext w4 w5 := BL43.trans Lw5
     clear xw5
     replace bf39 := bf39.lower (lo' := w4.heap.size) qSo
     obtain ⟨afb40, cfb40, rfl⟩ := bf39.ints.form
     obtain ⟨efb40, dfb40, rfl⟩ := bf39.exps.form
     have q_bf39 := Lib.hid bf39.at
     have Q44_b10 := Lib.hid b10
     have Q44_b11 := Lib.hid b11
     have Q44_zb1 := z_b1
     have Q44_b20 := Lib.hid b20
     have Q44_f_b20 := Lib.hid f_b20
     have Q44_b21 := Lib.hid b21
     have Q44_f_b21 := Lib.hid f_b21
     have Q44_zb2 := z_b2
     have Q44_x60 := Lib.hid x60
     have Q44_x61 := Lib.hid x61
     have Q44_x62 := Lib.hid x62
     have Q44_x63 := Lib.hid x63
     have Q44_x64 := Lib.hid x64
     have Q44_zx6 := z_x6
     have Q44_x210 := Lib.hid x210
     have Q44_x211 := Lib.hid x211
     have Q44_x212 := Lib.hid x212
     have Q44_x213 := Lib.hid x213
     have Q44_x214 := Lib.hid x214
     have Q44_zx21 := z_x21
     have Q44_i37 := Lib.hid i37
     have Q44_i37z := Lib.hid i37z
     have Q44_bf39 := Lib.hid bf39
     have BL45 : Ext w5 w5 := Ext.refl _
     go_upto_region 8 with fail
     have zn_BL43_w6 := (BL43_w5).size
     have zn_BL45_w6 := (BL45).size
     generalize hW10 : w5.alloc (.cells #[.slice afv36 ((copyA cells B8 S9 T10 B23 S24 T25).length) cfv36, .slice efb40 es.length dfb40] 26) = w6 at *
     have Lw6 : Ext w5 w6 := by subst hW10; exact qXt
     have Xw6 : Ext w w6 := Xw5.trans Lw6
     replace b10 := Lw6.cell b10
     replace b11 := Lw6.cell b11
     replace b20 := Lw6.cell b20
     replace b21 := Lw6.cell b21
     replace f_b20 := Lw6.frz z_b2 f_b20
     replace f_b21 := Lw6.frz z_b2 f_b21
     replace x60 := Lw6.cell x60
     replace x61 := Lw6.cell x61
     replace x62 := Lw6.cell x62
     replace x63 := Lw6.cell x63
     replace x64 := Lw6.cell x64
     replace x210 := Lw6.cell x210
     replace x211 := Lw6.cell x211
     replace x212 := Lw6.cell x212
     replace x213 := Lw6.cell x213
     replace x214 := Lw6.cell x214
     have b460 : w6.cell? ⟨w5.heap.size, 0, none⟩ = some (.slice afv36 ((copyA cells B8 S9 T10 B23 S24 T25).length) cfv36) := by subst hW10; exact qCl
     have b461 : w6.cell? ⟨w5.heap.size, 1, none⟩ = some (.slice efb40 es.length dfb40) := by subst hW10; exact qCl
     have f_b460 : w6.frozen? ⟨w5.heap.size, 0, none⟩ = false := by subst hW10; exact qFz
     have f_b461 : w6.frozen? ⟨w5.heap.size, 1, none⟩ = false := by subst hW10; exact qFz
     have z_b1 : w.heap.size < w6.heap.size := qB b10
     have z_b2 : w.heap.size + 1 < w6.heap.size := qB b20
     have z_x6 : bl19 < w6.heap.size := qB x60
     have z_x21 : bl19 < w6.heap.size := qB x210
     have z_b46 : w5.heap.size < w6.heap.size := qB b460
     replace i37 := i37.ext Lw6
     replace i37z := i37z.ext Lw6
     replace bf39 := bf39.ext Lw6
     have s_w6 : w.heap.size ≤ w6.heap.size := Xw6.size
     have BL43_w6 : Ext w4 w6 := BL43_w5.trans Lw6
     have BL45_w6 : Ext w5 w6 := BL45.trans Lw6
     clear hW10
     go_wp2_with fail
     generalize hW11 : ((w6.setCell ⟨w.heap.size + 1, 0, none⟩ (.slice afv36 ((copyA cells B8 S9 T10 B23 S24 T25).length) cfv36)).setCell ⟨w.heap.size + 1, 1, none⟩ (.slice efb40 es.length dfb40)) = w7 at *
     have Kw7 : Chg (w.heap.size + 1) (w.heap.size + 1 + 1) w6 w7 := by subst hW11; exact qCh
     have Xw7 : Ext w w7 := by subst hW11; exact qXt
     replace b10 := Kw7.cell (by omega) b10
     replace b11 := Kw7.cell (by omega) b11
     replace b20 : w7.cell? ⟨w.heap.size + 1, 0, none⟩ = some (.slice afv36 ((copyA cells B8 S9 T10 B23 S24 T25).length) cfv36) := by subst hW11; go_simp
     replace f_b20 : w7.frozen? ⟨w.heap.size + 1, 0, none⟩ = false := by subst hW11; first | (simp only [World.frozen?_setCell]; with_reducible assumption) | go_simp
     replace b21 : w7.cell? ⟨w.heap.size + 1, 1, none⟩ = some (.slice efb40 es.length dfb40) := by subst hW11; go_simp
     replace f_b21 : w7.frozen? ⟨w.heap.size + 1, 1, none⟩ = false := by subst hW11; first | (simp only [World.frozen?_setCell]; with_reducible assumption) | go_simp
     replace x60 := Kw7.cell (by omega) x60
     replace x61 := Kw7.cell (by omega) x61
     replace x62 := Kw7.cell (by omega) x62
     replace x63 := Kw7.cell (by omega) x63
     replace x64 := Kw7.cell (by omega) x64
     replace x210 := Kw7.cell (by omega) x210
     replace x211 := Kw7.cell (by omega) x211
     replace x212 := Kw7.cell (by omega) x212
     replace x213 := Kw7.cell (by omega) x213
     replace x214 := Kw7.cell (by omega) x214
     replace b460 := Kw7.cell (by omega) b460
     replace f_b460 := Kw7.frzO (by omega) z_b46 f_b460
     replace b461 := Kw7.cell (by omega) b461
     replace f_b461 := Kw7.frzO (by omega) z_b46 f_b461
     replace i37 := i37.chg Kw7 (by omega)
     replace i37z := i37z.chg Kw7 (by omega)
     replace bf39 := bf39.chg Kw7 (by omega)
     clear Kw7
     have z_b1 : w.heap.size < w7.heap.size := qB b10
     have z_b2 : w.heap.size + 1 < w7.heap.size := qB b20
     have z_x6 : bl19 < w7.heap.size := qB x60
     have z_x21 : bl19 < w7.heap.size := qB x210
     have z_b46 : w5.heap.size < w7.heap.size := qB b460
     have s_w7 : w.heap.size ≤ w7.heap.size := Xw7.size
     clear hW11
     refine bodyPost_ret (v := .tuple #[.agg #[.slice afv36 ((copyA cells B8 S9 T10 B23 S24 T25).length) cfv36, .slice efb40 es.length dfb40], .bool true]) (by simp only [results, Try.results89]; go_simp) rfl ?_
     have eqA : cpyA cells es (k : Int) (m : Int) = (copyA cells B8 S9 T10 B23 S24 T25, es, true) := by unfold cpyA; simp only [Int.toNat_natCast]; rw [hX12.out, hX27.out]; dsimp only; rw [hbb.out, hop.out, hoq.out, hB38.out]; rfl
     exact PBX.yes eqA ((bf39.cellsB (lo2 := w.heap.size) (by omega) (i37z.lower (by omega)) czfv36 (by omega) (fun hs g hg => by have h7 := hbd.out hs g hg; omega)).ext qXt) (Xw7.trans qXt)


end Go.Proofs.Ytgklaobfikbiiaa

/- Walks: buffers with one export more. -/
namespace Go.Proofs.Ytgklaobfikbiiaa
open Go.RowKit
set_option linter.unusedVariables false
set_option maxRecDepth 100000

end Go.Proofs.Ytgklaobfikbiiaa

/- Walks: ExportView of both. -/
namespace Go.Proofs.Ytgklaobfikbiiaa
open Go.RowKit
set_option linter.unusedVariables false
set_option maxRecDepth 100000

set_option maxHeartbeats 3200000 in
theorem added_c (cells : List Int) (es : List Exp) (cv ev : Value) (pr : Int) (b1 : Int) (u1 v1 : Value) (s1 t1 : List Int) (w : World) (l1 l2 : Nat) (h1 : Ints w l1 cv cells) (h2 : Exps w l2 ev es) (l3 l4 : Nat) (k1 : Ints w l3 u1 s1) (k2 : Ints w l4 v1 t1) (h8 : es.length < 8) :
  Calls Try.prog 90 #[.agg #[cv, ev], .int .i64 pr, .agg #[.int .i64 b1, u1, v1]] w (PBuf w cells (es ++ [⟨pr, b1, s1, t1, true⟩])) := by
 obtain ⟨p0, c0, rfl⟩ := h1.form
 obtain ⟨p1, c1, rfl⟩ := h2.form
 have he1 := h2.len
 have hc1 := h1.len
 obtain ⟨p2, c2, rfl⟩ := k1.form
 obtain ⟨p3, c3, rfl⟩ := k2.form
 have hk1 := k1.len
 have hk2 := k2.len
 go_enter Try.func90, Try.ntmps90
 go_wp2_with fail
 refine (specCopyBuffer_c cells es (.slice p0 cells.length c0) (.slice p1 es.length c1) _ _ _ (h1.ext qXt) (h2.ext qXt)).mono ?_
 rintro e w1 ⟨cvfb5, evfb5, R6, rfl, bf4, xw1⟩
 have Lw1 : Ext w w1 := Ext.trans qXt xw1
 have Xw1 : Ext w w1 := Lw1
 have b10 : w1.cell? ⟨w.heap.size, 0, none⟩ = some (.slice p0 cells.length c0) := xw1.cell qCl
 have b11 : w1.cell? ⟨w.heap.size, 1, none⟩ = some (.slice p1 es.length c1) := xw1.cell qCl
 have b20 : w1.cell? ⟨w.heap.size + 1, 0, none⟩ = some (.int .i64 b1) := xw1.cell qCl
 have b21 : w1.cell? ⟨w.heap.size + 1, 1, none⟩ = some (.slice p2 s1.length c2) := xw1.cell qCl
 have b22 : w1.cell? ⟨w.heap.size + 1, 2, none⟩ = some (.slice p3 t1.length c3) := xw1.cell qCl
 have b30 : w1.cell? ⟨w.heap.size + 1 + 1, 0, none⟩ = some (.slice none 0 0) := xw1.cell qCl
 have b31 : w1.cell? ⟨w.heap.size + 1 + 1, 1, none⟩ = some (.slice none 0 0) := xw1.cell qCl
 have f_b30 : w1.frozen? ⟨w.heap.size + 1 + 1, 0, none⟩ = false := xw1.frz (by simp <;> omega) qFz
 have f_b31 : w1.frozen? ⟨w.heap.size + 1 + 1, 1, none⟩ = false := xw1.frz (by simp <;> omega) qFz
 have z_b1 : w.heap.size < w1.heap.size := qB b10
 have z_b2 : w.heap.size + 1 < w1.heap.size := qB b20
 have z_b3 : w.heap.size + 1 + 1 < w1.heap.size := qB b30
 have s_w1 : w.heap.size ≤ w1.heap.size := Xw1.size
 clear xw1
 replace bf4 := bf4.lower (lo' := w.heap.size + 1 + 1 + 1) qSo
 obtain ⟨afb5, cfb5, rfl⟩ := bf4.ints.form
 obtain ⟨efb5, dfb5, rfl⟩ := bf4.exps.form
 have q_bf4 := Lib.hid bf4.at
 have Q7_b10 := Lib.hid b10
 have Q7_b11 := Lib.hid b11
 have Q7_zb1 := z_b1
 have Q7_b20 := Lib.hid b20
 have Q7_b21 := Lib.hid b21
 have Q7_b22 := Lib.hid b22
 have Q7_zb2 := z_b2
 have Q7_b30 := Lib.hid b30
 have Q7_f_b30 := Lib.hid f_b30
 have Q7_b31 := Lib.hid b31
 have Q7_f_b31 := Lib.hid f_b31
 have Q7_zb3 := z_b3
 have Q7_bf4 := Lib.hid bf4
 have BL8 : Ext w1 w1 := Ext.refl _
 go_wp2_with fail
 generalize hW9 : w1.alloc (.cells #[.slice afb5 cells.length cfb5, .slice efb5 es.length dfb5] 26) = w2 at *
 have Lw2 : Ext w1 w2 := by subst hW9; exact qXt
 have Xw2 : Ext w w2 := Xw1.trans Lw2
 replace b10 := Lw2.cell b10
 replace b11 := Lw2.cell b11
 replace b20 := Lw2.cell b20
 replace b21 := Lw2.cell b21
 replace b22 := Lw2.cell b22
 replace b30 := Lw2.cell b30
 replace b31 := Lw2.cell b31
 replace f_b30 := Lw2.frz z_b3 f_b30
 replace f_b31 := Lw2.frz z_b3 f_b31
 have b90 : w2.cell? ⟨w1.heap.size, 0, none⟩ = some (.slice afb5 cells.length cfb5) := by subst hW9; exact qCl
 have b91 : w2.cell? ⟨w1.heap.size, 1, none⟩ = some (.slice efb5 es.length dfb5) := by subst hW9; exact qCl
 have f_b90 : w2.frozen? ⟨w1.heap.size, 0, none⟩ = false := by subst hW9; exact qFz
 have f_b91 : w2.frozen? ⟨w1.heap.size, 1, none⟩ = false := by subst hW9; exact qFz
 have z_b1 : w.heap.size < w2.heap.size := qB b10
 have z_b2 : w.heap.size + 1 < w2.heap.size := qB b20
 have z_b3 : w.heap.size + 1 + 1 < w2.heap.size := qB b30
 have z_b9 : w1.heap.size < w2.heap.size := qB b90
 replace bf4 := bf4.ext Lw2
 have s_w2 : w.heap.size ≤ w2.heap.size := Xw2.size
 have BL8_w2 : Ext w1 w2 := BL8.trans Lw2
 clear hW9
 have Q10_b10 := Lib.hid b10
 have Q10_b11 := Lib.hid b11
 have Q10_zb1 := z_b1
 have Q10_b20 := Lib.hid b20
 have Q10_b21 := Lib.hid b21
 have Q10_b22 := Lib.hid b22
 have Q10_zb2 := z_b2
 have Q10_b30 := Lib.hid b30
 have Q10_f_b30 := Lib.hid f_b30
 have Q10_b31 := Lib.hid b31
 have Q10_f_b31 := Lib.hid f_b31
 have Q10_zb3 := z_b3
 have Q10_b90 := Lib.hid b90
 have Q10_f_b90 := Lib.hid f_b90
 have Q10_b91 := Lib.hid b91
 have Q10_f_b91 := Lib.hid f_b91
 have Q10_zb9 := z_b9
 have Q10_bf4 := Lib.hid bf4
 have BL11 : Ext w2 w2 := Ext.refl _
 refine wp_region_tail (S := fun w' => w'.cell? ⟨w.heap.size + 1, 0, none⟩ = some (.int .i64 b1) ∧ w'.cell? ⟨w.heap.size + 1, 1, none⟩ = some (.slice p2 s1.length c2) ∧ w'.cell? ⟨w.heap.size + 1, 2, none⟩ = some (.slice p3 t1.length c3) ∧ w'.cell? ⟨w1.heap.size, 1, none⟩ = some (.slice efb5 es.length dfb5)) (fun i => decide (9 ≤ i)) qKr ⟨b20, b21, b22, b91⟩ (fun hHeld => ?_)
 refine qTk (v := ?_) 0 rfl (.inl ⟨by rfl, ?_⟩) ?_
 rotate_left
 ·
  (intro w hSw; (try dsimp only at hSw); go_simp; try with_reducible rfl)
 try simp only [Act.put, qa, qb, qc, qD, qE, qF]
 refine qTk (v := ?_) 1 rfl (.inl ⟨by rfl, ?_⟩) ?_
 rotate_left
 ·
  (intro w hSw; (try dsimp only at hSw); go_simp; try with_reducible rfl)
 try simp only [Act.put, qa, qb, qc, qD, qE, qF]
 refine qTk (v := ?_) 2 rfl (.inl ⟨by rfl, ?_⟩) ?_
 rotate_left
 ·
  (intro w hSw; (try dsimp only at hSw); go_simp; try with_reducible rfl)
 try simp only [Act.put, qa, qb, qc, qD, qE, qF]
 refine qTk (v := ?_) 3 rfl (.inl ⟨by rfl, ?_⟩) ?_
 rotate_left
 ·
  (intro w hSw; (try dsimp only at hSw); go_simp; try with_reducible rfl)
 try simp only [Act.put, qa, qb, qc, qD, qE, qF]
 refine wpTail_one (i := 4) qKr rfl rfl (fun K hK => ?_)
 try simp only [Act.put, qa, qb, qc, qD, qE, qF]
 go_simp
 refine (scopyView_c b1 (.slice p2 s1.length c2) (.slice p3 t1.length c3) s1 t1 _ _ _ (k1.ext (Xw2.trans qXt)) (k2.ext (Xw2.trans qXt))).mono ?_
 rintro e w3 ⟨fv12u, fv12v, rfl, i13u, i13v, i13uz, i13vz, i13s, xw3⟩
 have Lw3 : Ext w2 w3 := Ext.trans qXt xw3
 have Xw3 : Ext w w3 := Xw2.trans Lw3
 replace b10 := Lw3.cell b10
 replace b11 := Lw3.cell b11
 replace b20 := Lw3.cell b20
 replace b21 := Lw3.cell b21
 replace b22 := Lw3.cell b22
 replace b30 := Lw3.cell b30
 replace b31 := Lw3.cell b31
 replace f_b30 := Lw3.frz z_b3 f_b30
 replace f_b31 := Lw3.frz z_b3 f_b31
 replace b90 := Lw3.cell b90
 replace b91 := Lw3.cell b91
 replace f_b90 := Lw3.frz z_b9 f_b90
 replace f_b91 := Lw3.frz z_b9 f_b91
 have z_b1 : w.heap.size < w3.heap.size := qB b10
 have z_b2 : w.heap.size + 1 < w3.heap.size := qB b20
 have z_b3 : w.heap.size + 1 + 1 < w3.heap.size := qB b30
 have z_b9 : w1.heap.size < w3.heap.size := qB b90
 replace bf4 := bf4.ext Lw3
 have s_w3 : w.heap.size ≤ w3.heap.size := Xw3.size
 have BL8_w3 : Ext w1 w3 := BL8_w2.trans Lw3
 have BL11_w3 : Ext w2 w3 := BL11.trans Lw3
 clear xw3
 try simp only [World.size_alloc, World.size_drew] at i13u
 try simp only [World.size_alloc, World.size_drew] at i13v
 try simp only [World.size_alloc, World.size_drew] at i13uz
 try simp only [World.size_alloc, World.size_drew] at i13vz
 obtain ⟨afv12u, cfv12u, rfl⟩ := i13u.form
 obtain ⟨afv12v, cfv12v, rfl⟩ := i13v.form
 replace i13s := Lib.hid i13s
 refine hK.out _ _ ⟨b20, b21, b22, b91⟩ (fun hHeld => ?_)
 clear hK K
 try simp only [Act.put, qa, qb, qc, qD, qE, qF]
 refine qTk (v := ?_) 5 rfl (.inl ⟨by rfl, ?_⟩) ?_
 rotate_left
 ·
  (intro w hSw; (try dsimp only at hSw); go_simp; try with_reducible rfl)
 try simp only [Act.put, qa, qb, qc, qD, qE, qF]
 refine wpTail_one (i := 6) qKr rfl rfl (fun K hK => ?_)
 try simp only [Act.put, qa, qb, qc, qD, qE, qF]
 go_simp
 refine hK.out _ (w3.alloc (.cells #[.int .i64 pr, .int .i64 b1, .slice afv12u s1.length cfv12u, .slice afv12v t1.length cfv12v, .bool true] TEXPORT)) ⟨(show Ext w3 (w3.alloc (.cells #[.int .i64 pr, .int .i64 b1, .slice afv12u s1.length cfv12u, .slice afv12v t1.length cfv12v, .bool true] TEXPORT)) from qXt).cell b20, (show Ext w3 (w3.alloc (.cells #[.int .i64 pr, .int .i64 b1, .slice afv12u s1.length cfv12u, .slice afv12v t1.length cfv12v, .bool true] TEXPORT)) from qXt).cell b21, (show Ext w3 (w3.alloc (.cells #[.int .i64 pr, .int .i64 b1, .slice afv12u s1.length cfv12u, .slice afv12v t1.length cfv12v, .bool true] TEXPORT)) from qXt).cell b22, (show Ext w3 (w3.alloc (.cells #[.int .i64 pr, .int .i64 b1, .slice afv12u s1.length cfv12u, .slice afv12v t1.length cfv12v, .bool true] TEXPORT)) from qXt).cell b91⟩ (fun hHeld => ?_)
 clear hK K
 try simp only [Act.put, qa, qb, qc, qD, qE, qF]
 refine wpTail_one (i := 7) qKr rfl rfl (fun K hK => ?_)
 have EE : Ext w3 ((w3).alloc (.cells #[.int .i64 pr, .int .i64 b1, .slice afv12u s1.length cfv12u, .slice afv12v t1.length cfv12v, .bool true] TEXPORT)) := qXt
 have SS : SrcR ((w3).alloc (.cells #[.int .i64 pr, .int .i64 b1, .slice afv12u s1.length cfv12u, .slice afv12v t1.length cfv12v, .bool true] TEXPORT)) 5 (.slice (some ⟨w3.heap.size, 0, none⟩) 1 1) 1 [.int .i64 pr, .int .i64 b1, .slice afv12u s1.length cfv12u, .slice afv12v t1.length cfv12v, .bool true] := src_one (w3) _ rfl (by intro u hu; simp only [List.mem_cons, List.not_mem_nil, or_false] at hu; rcases hu with rfl | rfl | rfl | rfl | rfl <;> rfl)
 refine step_appC Try.underlying24 infoExp rfl (by decide) rfl (.tmp 11) (.tmp 16) rfl rfl rfl (bf4.ex.row.ext EE) SS (by rw [cellsE_len]; omega) (by rw [cellsE_len]; omega) (by simp <;> omega) ?_
 intro vw4 w4 ho hgr hbl hv
 have hS : BufR w4 (w.heap.size + 1 + 1 + 1) (.slice afb5 cells.length cfb5) vw4 cells (es ++ [⟨pr, b1, s1, t1, true⟩]) (extR R6 es.length (.slice afv12u s1.length cfv12u) (.slice afv12v t1.length cfv12v)) := BufR.appL Q10_bf4.out (Ext.trans BL11_w3 EE) ((i13uz.ext EE).lower (by omega)) ((i13vz.ext EE).lower (by omega)) (by dsimp only; omega) (by dsimp only; omega) i13s.out (fun hs g hg => by obtain ⟨g7, h7, h8, h9⟩ := i13uz.lt hs; rw [hg] at h7; cases h7; omega) (fun hs g hg => by obtain ⟨g7, h7, h8, h9⟩ := i13vz.lt hs; rw [hg] at h7; cases h7; omega) (by omega) ho hgr hv
 replace hS : BufS w4 (w.heap.size + 1 + 1 + 1) (0) (w.heap.size + 1 + 1 + 1) (w1.heap.size) (w2.heap.size) (.slice afb5 cells.length cfb5) vw4 cells (es ++ [⟨pr, b1, s1, t1, true⟩]) (extR R6 es.length (.slice afv12u s1.length cfv12u) (.slice afv12v t1.length cfv12v)) := BufS.mk' (W := (w3).alloc (.cells #[.int .i64 pr, .int .i64 b1, .slice afv12u s1.length cfv12u, .slice afv12v t1.length cfv12v, .bool true] TEXPORT)) hS q_bf4.out ((fun hs g hg => .inr (by obtain ⟨g7, h7, h8, h9⟩ := i13uz.lt hs; rw [hg] at h7; cases h7; exact h8))) ((fun hs g hg => .inr (by obtain ⟨g7, h7, h8, h9⟩ := i13vz.lt hs; rw [hg] at h7; cases h7; exact h8))) (by rcases hv with h7 | h7; exact .inl h7; exact .inr h7) (by have h7 := (BL11_w3).size; simp; omega)
 obtain ⟨pa14, pc15, hpv⟩ := hS.buf.ex.len
 rw [List.length_append, List.length_singleton] at hpv
 subst hpv
 have Kw4 : Chg (w.heap.size + 1 + 1 + 1) (w1.heap.size) w3 w4 := chg_row hgr (fun g hg => by have h7 := q_bf4.out.e g hg; omega)
 have zc_w4 := Kw4.size
 clear ho hgr hbl hv EE SS
 have Xw4 : Ext w w4 := Ext.chg Xw3 Kw4 (by omega)
 replace b10 := Kw4.cell (by omega) b10
 replace b11 := Kw4.cell (by omega) b11
 replace b20 := Kw4.cell (by omega) b20
 replace b21 := Kw4.cell (by omega) b21
 replace b22 := Kw4.cell (by omega) b22
 replace b30 := Kw4.cell (by omega) b30
 replace f_b30 := Kw4.frzO (by omega) z_b3 f_b30
 replace b31 := Kw4.cell (by omega) b31
 replace f_b31 := Kw4.frzO (by omega) z_b3 f_b31
 replace b90 := Kw4.cell (by omega) b90
 replace f_b90 := Kw4.frzO (by omega) z_b9 f_b90
 replace b91 := Kw4.cell (by omega) b91
 replace f_b91 := Kw4.frzO (by omega) z_b9 f_b91
 have z_b1 : w.heap.size < w4.heap.size := qB b10
 have z_b2 : w.heap.size + 1 < w4.heap.size := qB b20
 have z_b3 : w.heap.size + 1 + 1 < w4.heap.size := qB b30
 have z_b9 : w1.heap.size < w4.heap.size := qB b90
 clear i13u
 clear i13v
 clear i13uz
 clear i13vz
 clear bf4 q_bf4
 have bf4 := hS
 clear hS Kw4
 have s_w4 : w.heap.size ≤ w4.heap.size := Xw4.size
 refine hK.out _ _ ⟨b20, b21, b22, b91⟩ (fun hHeld => ?_)
 clear hK K
 try simp only [Act.put, qa, qb, qc, qD, qE, qF]
 refine qTk (v := ?_) 8 rfl (.inl ⟨by rfl, ?_⟩) ?_
 rotate_left
 ·
  (intro w hSw; (try dsimp only at hSw); go_simp; try with_reducible rfl)
 try simp only [Act.put, qa, qb, qc, qD, qE, qF]
 refine wpTail_last (i := 9) qKr rfl rfl (fun K hK => ?_)
 try simp only [Act.put, qa, qb, qc, qD, qE, qF]
 go_simp
 refine hK.out _ _ ?_
 clear hK K
 try simp only [Act.put, qa, qb, qc, qD, qE, qF]
 refine wpTail_done qKr ?_ _
 clear hHeld 
 generalize hW10 : (w4.setCell ⟨w1.heap.size, 1, none⟩ (.slice pa14 (es.length + 1) pc15)) = w5 at *
 have Kw5 : Chg (w1.heap.size) (w1.heap.size + 1) w4 w5 := by subst hW10; exact qCh
 have Xw5 : Ext w w5 := by subst hW10; exact qXt
 replace b10 := Kw5.cell (by omega) b10
 replace b11 := Kw5.cell (by omega) b11
 replace b20 := Kw5.cell (by omega) b20
 replace b21 := Kw5.cell (by omega) b21
 replace b22 := Kw5.cell (by omega) b22
 replace b30 := Kw5.cell (by omega) b30
 replace f_b30 := Kw5.frzO (by omega) z_b3 f_b30
 replace b31 := Kw5.cell (by omega) b31
 replace f_b31 := Kw5.frzO (by omega) z_b3 f_b31
 replace b90 : w5.cell? ⟨w1.heap.size, 0, none⟩ = some (.slice afb5 cells.length cfb5) := by subst hW10; go_simp
 replace f_b90 : w5.frozen? ⟨w1.heap.size, 0, none⟩ = false := by subst hW10; first | (simp only [World.frozen?_setCell]; with_reducible assumption) | go_simp
 replace b91 : w5.cell? ⟨w1.heap.size, 1, none⟩ = some (.slice pa14 (es.length + 1) pc15) := by subst hW10; go_simp
 replace f_b91 : w5.frozen? ⟨w1.heap.size, 1, none⟩ = false := by subst hW10; first | (simp only [World.frozen?_setCell]; with_reducible assumption) | go_simp
 replace bf4 := bf4.chg Kw5 (by omega)
 clear Kw5
 have z_b1 : w.heap.size < w5.heap.size := qB b10
 have z_b2 : w.heap.size + 1 < w5.heap.size := qB b20
 have z_b3 : w.heap.size + 1 + 1 < w5.heap.size := qB b30
 have z_b9 : w1.heap.size < w5.heap.size := qB b90
 have s_w5 : w.heap.size ≤ w5.heap.size := Xw5.size
 clear hW10
 go_wp2_with fail
 generalize hW11 : ((w5.setCell ⟨w.heap.size + 1 + 1, 0, none⟩ (.slice afb5 cells.length cfb5)).setCell ⟨w.heap.size + 1 + 1, 1, none⟩ (.slice pa14 (es.length + 1) pc15)) = w6 at *
 have Kw6 : Chg (w.heap.size + 1 + 1) (w.heap.size + 1 + 1 + 1) w5 w6 := by subst hW11; exact qCh
 have Xw6 : Ext w w6 := by subst hW11; exact qXt
 replace b10 := Kw6.cell (by omega) b10
 replace b11 := Kw6.cell (by omega) b11
 replace b20 := Kw6.cell (by omega) b20
 replace b21 := Kw6.cell (by omega) b21
 replace b22 := Kw6.cell (by omega) b22
 replace b30 : w6.cell? ⟨w.heap.size + 1 + 1, 0, none⟩ = some (.slice afb5 cells.length cfb5) := by subst hW11; go_simp
 replace f_b30 : w6.frozen? ⟨w.heap.size + 1 + 1, 0, none⟩ = false := by subst hW11; first | (simp only [World.frozen?_setCell]; with_reducible assumption) | go_simp
 replace b31 : w6.cell? ⟨w.heap.size + 1 + 1, 1, none⟩ = some (.slice pa14 (es.length + 1) pc15) := by subst hW11; go_simp
 replace f_b31 : w6.frozen? ⟨w.heap.size + 1 + 1, 1, none⟩ = false := by subst hW11; first | (simp only [World.frozen?_setCell]; with_reducible assumption) | go_simp
 replace b90 := Kw6.cell (by omega) b90
 replace f_b90 := Kw6.frzO (by omega) z_b9 f_b90
 replace b91 := Kw6.cell (by omega) b91
 replace f_b91 := Kw6.frzO (by omega) z_b9 f_b91
 replace bf4 := bf4.chg Kw6 (by omega)
 clear Kw6
 have z_b1 : w.heap.size < w6.heap.size := qB b10
 have z_b2 : w.heap.size + 1 < w6.heap.size := qB b20
 have z_b3 : w.heap.size + 1 + 1 < w6.heap.size := qB b30
 have z_b9 : w1.heap.size < w6.heap.size := qB b90
 have s_w6 : w.heap.size ≤ w6.heap.size := Xw6.size
 clear hW11
 refine bodyPost_ret (v := .agg #[.slice afb5 cells.length cfb5, .slice pa14 (es.length + 1) pc15]) (by simp only [results, Try.results90]; go_simp) rfl ?_
 exact ⟨_, _, _, rfl, ((bf4.buf.ext qXt).lower (by omega)), (Xw6.trans qXt)⟩

set_option maxHeartbeats 3200000 in
theorem specExportView_c (cells : List Int) (es : List Exp) (cv ev : Value) (b1 : Int) (u1 v1 : Value) (s1 t1 : List Int) (w : World) (l1 l2 : Nat) (h1 : Ints w l1 cv cells) (h2 : Exps w l2 ev es) (l3 l4 : Nat) (k1 : Ints w l3 u1 s1) (k2 : Ints w l4 v1 t1) :
  Calls Try.prog 86 #[.agg #[cv, ev], .agg #[.int .i64 b1, u1, v1]] w (PBX w (expA cells es b1 s1 t1)) := by
 obtain ⟨p0, c0, rfl⟩ := h1.form
 obtain ⟨p1, c1, rfl⟩ := h2.form
 have he1 := h2.len
 have hc1 := h1.len
 obtain ⟨p2, c2, rfl⟩ := k1.form
 obtain ⟨p3, c3, rfl⟩ := k2.form
 have hk1 := k1.len
 have hk2 := k2.len
 go_enter Try.func86, Try.ntmps86
 go_wp2_with fail
 refine (validBuffer_c cells es (.slice p0 cells.length c0) (.slice p1 es.length c1) _ _ _ (h1.ext qXt) (h2.ext qXt)).mono ?_
 rintro e w1 ⟨rfl, xw1⟩
 have Lw1 : Ext w w1 := Ext.trans qXt xw1
 have Xw1 : Ext w w1 := Lw1
 have b10 : w1.cell? ⟨w.heap.size, 0, none⟩ = some (.slice p0 cells.length c0) := xw1.cell qCl
 have b11 : w1.cell? ⟨w.heap.size, 1, none⟩ = some (.slice p1 es.length c1) := xw1.cell qCl
 have b20 : w1.cell? ⟨w.heap.size + 1, 0, none⟩ = some (.int .i64 b1) := xw1.cell qCl
 have b21 : w1.cell? ⟨w.heap.size + 1, 1, none⟩ = some (.slice p2 s1.length c2) := xw1.cell qCl
 have b22 : w1.cell? ⟨w.heap.size + 1, 2, none⟩ = some (.slice p3 t1.length c3) := xw1.cell qCl
 have b30 : w1.cell? ⟨w.heap.size + 1 + 1, 0, none⟩ = some (.slice none 0 0) := xw1.cell qCl
 have b31 : w1.cell? ⟨w.heap.size + 1 + 1, 1, none⟩ = some (.slice none 0 0) := xw1.cell qCl
 have f_b30 : w1.frozen? ⟨w.heap.size + 1 + 1, 0, none⟩ = false := xw1.frz (by simp <;> omega) qFz
 have f_b31 : w1.frozen? ⟨w.heap.size + 1 + 1, 1, none⟩ = false := xw1.frz (by simp <;> omega) qFz
 have z_b1 : w.heap.size < w1.heap.size := qB b10
 have z_b2 : w.heap.size + 1 < w1.heap.size := qB b20
 have z_b3 : w.heap.size + 1 + 1 < w1.heap.size := qB b30
 have s_w1 : w.heap.size ≤ w1.heap.size := Xw1.size
 clear xw1
 cases hB4 : bufB cells es
 ·
  replace hB4 := Lib.hid hB4
  go_wp2_with fail
  generalize hW12 : ((w1.setCell ⟨w.heap.size + 1 + 1, 0, none⟩ (.slice none 0 0)).setCell ⟨w.heap.size + 1 + 1, 1, none⟩ (.slice none 0 0)) = w2 at *
  have Kw2 : Chg (w.heap.size + 1 + 1) (w.heap.size + 1 + 1 + 1) w1 w2 := by subst hW12; exact qCh
  have Xw2 : Ext w w2 := by subst hW12; exact qXt
  replace b10 := Kw2.cell (by omega) b10
  replace b11 := Kw2.cell (by omega) b11
  replace b20 := Kw2.cell (by omega) b20
  replace b21 := Kw2.cell (by omega) b21
  replace b22 := Kw2.cell (by omega) b22
  replace b30 : w2.cell? ⟨w.heap.size + 1 + 1, 0, none⟩ = some (.slice none 0 0) := by subst hW12; go_simp
  replace f_b30 : w2.frozen? ⟨w.heap.size + 1 + 1, 0, none⟩ = false := by subst hW12; first | (simp only [World.frozen?_setCell]; with_reducible assumption) | go_simp
  replace b31 : w2.cell? ⟨w.heap.size + 1 + 1, 1, none⟩ = some (.slice none 0 0) := by subst hW12; go_simp
  replace f_b31 : w2.frozen? ⟨w.heap.size + 1 + 1, 1, none⟩ = false := by subst hW12; first | (simp only [World.frozen?_setCell]; with_reducible assumption) | go_simp
  clear Kw2
  have z_b1 : w.heap.size < w2.heap.size := qB b10
  have z_b2 : w.heap.size + 1 < w2.heap.size := qB b20
  have z_b3 : w.heap.size + 1 + 1 < w2.heap.size := qB b30
  have s_w2 : w.heap.size ≤ w2.heap.size := Xw2.size
  clear hW12
  refine bodyPost_ret (v := .tuple #[.agg #[.slice none 0 0, .slice none 0 0], .bool false]) (by simp only [results, Try.results86]; go_simp) rfl ?_
  exact PBX.no (by unfold expA; rw [hB4.out]; rfl) (Xw2.trans qXt)
 ·
  replace hB4 := Lib.hid hB4
  have h88 := (bufB_in hB4.out).2.2.1
  go_wp2_with fail
  refine (validView_c b1 (.slice p2 s1.length c2) (.slice p3 t1.length c3) s1 t1 _ _ _ (k1.ext (Xw1.trans qXt)) (k2.ext (Xw1.trans qXt))).mono ?_
  rintro e w2 ⟨rfl, xw2⟩
  have Lw2 : Ext w1 w2 := Ext.trans qXt xw2
  have Xw2 : Ext w w2 := Xw1.trans Lw2
  replace b10 := Lw2.cell b10
  replace b11 := Lw2.cell b11
  replace b20 := Lw2.cell b20
  replace b21 := Lw2.cell b21
  replace b22 := Lw2.cell b22
  replace b30 := Lw2.cell b30
  replace b31 := Lw2.cell b31
  replace f_b30 := Lw2.frz z_b3 f_b30
  replace f_b31 := Lw2.frz z_b3 f_b31
  have z_b1 : w.heap.size < w2.heap.size := qB b10
  have z_b2 : w.heap.size + 1 < w2.heap.size := qB b20
  have z_b3 : w.heap.size + 1 + 1 < w2.heap.size := qB b30
  have s_w2 : w.heap.size ≤ w2.heap.size := Xw2.size
  clear xw2
  cases hB5 : viewB b1 s1 t1
  ·
   replace hB5 := Lib.hid hB5
   go_wp2_with fail
   generalize hW13 : ((w2.setCell ⟨w.heap.size + 1 + 1, 0, none⟩ (.slice none 0 0)).setCell ⟨w.heap.size + 1 + 1, 1, none⟩ (.slice none 0 0)) = w3 at *
   have Kw3 : Chg (w.heap.size + 1 + 1) (w.heap.size + 1 + 1 + 1) w2 w3 := by subst hW13; exact qCh
   have Xw3 : Ext w w3 := by subst hW13; exact qXt
   replace b10 := Kw3.cell (by omega) b10
   replace b11 := Kw3.cell (by omega) b11
   replace b20 := Kw3.cell (by omega) b20
   replace b21 := Kw3.cell (by omega) b21
   replace b22 := Kw3.cell (by omega) b22
   replace b30 : w3.cell? ⟨w.heap.size + 1 + 1, 0, none⟩ = some (.slice none 0 0) := by subst hW13; go_simp
   replace f_b30 : w3.frozen? ⟨w.heap.size + 1 + 1, 0, none⟩ = false := by subst hW13; first | (simp only [World.frozen?_setCell]; with_reducible assumption) | go_simp
   replace b31 : w3.cell? ⟨w.heap.size + 1 + 1, 1, none⟩ = some (.slice none 0 0) := by subst hW13; go_simp
   replace f_b31 : w3.frozen? ⟨w.heap.size + 1 + 1, 1, none⟩ = false := by subst hW13; first | (simp only [World.frozen?_setCell]; with_reducible assumption) | go_simp
   clear Kw3
   have z_b1 : w.heap.size < w3.heap.size := qB b10
   have z_b2 : w.heap.size + 1 < w3.heap.size := qB b20
   have z_b3 : w.heap.size + 1 + 1 < w3.heap.size := qB b30
   have s_w3 : w.heap.size ≤ w3.heap.size := Xw3.size
   clear hW13
   refine bodyPost_ret (v := .tuple #[.agg #[.slice none 0 0, .slice none 0 0], .bool false]) (by simp only [results, Try.results86]; go_simp) rfl ?_
   exact PBX.no (by unfold expA; rw [hB4.out, hB5.out]; rfl) (Xw3.trans qXt)
  ·
   replace hB5 := Lib.hid hB5
   go_wp2_with fail
   refine (fits_c b1 (.slice p2 s1.length c2) (.slice p3 t1.length c3) s1 t1 (cells.length : Int) _ _ _ (k1.ext (Xw2.trans qXt)) (k2.ext (Xw2.trans qXt)) hB5.out (by first | omega | exact (vw hB5.out).1 | exact (vw hB5.out).2.1 | exact (vw hB5.out).2.2.1 | exact (vw hB5.out).2.2.2) (by first | omega | exact (vw hB5.out).1 | exact (vw hB5.out).2.1 | exact (vw hB5.out).2.2.1 | exact (vw hB5.out).2.2.2)).mono ?_
   rintro e w3 ⟨rfl, xw3⟩
   have Lw3 : Ext w2 w3 := Ext.trans qXt xw3
   have Xw3 : Ext w w3 := Xw2.trans Lw3
   replace b10 := Lw3.cell b10
   replace b11 := Lw3.cell b11
   replace b20 := Lw3.cell b20
   replace b21 := Lw3.cell b21
   replace b22 := Lw3.cell b22
   replace b30 := Lw3.cell b30
   replace b31 := Lw3.cell b31
   replace f_b30 := Lw3.frz z_b3 f_b30
   replace f_b31 := Lw3.frz z_b3 f_b31
   have z_b1 : w.heap.size < w3.heap.size := qB b10
   have z_b2 : w.heap.size + 1 < w3.heap.size := qB b20
   have z_b3 : w.heap.size + 1 + 1 < w3.heap.size := qB b30
   have s_w3 : w.heap.size ≤ w3.heap.size := Xw3.size
   clear xw3
   cases hB6 : fitB b1 s1 t1 (cells.length : Int)
   ·
    replace hB6 := Lib.hid hB6
    go_wp2_with fail
    generalize hW14 : ((w3.setCell ⟨w.heap.size + 1 + 1, 0, none⟩ (.slice none 0 0)).setCell ⟨w.heap.size + 1 + 1, 1, none⟩ (.slice none 0 0)) = w4 at *
    have Kw4 : Chg (w.heap.size + 1 + 1) (w.heap.size + 1 + 1 + 1) w3 w4 := by subst hW14; exact qCh
    have Xw4 : Ext w w4 := by subst hW14; exact qXt
    replace b10 := Kw4.cell (by omega) b10
    replace b11 := Kw4.cell (by omega) b11
    replace b20 := Kw4.cell (by omega) b20
    replace b21 := Kw4.cell (by omega) b21
    replace b22 := Kw4.cell (by omega) b22
    replace b30 : w4.cell? ⟨w.heap.size + 1 + 1, 0, none⟩ = some (.slice none 0 0) := by subst hW14; go_simp
    replace f_b30 : w4.frozen? ⟨w.heap.size + 1 + 1, 0, none⟩ = false := by subst hW14; first | (simp only [World.frozen?_setCell]; with_reducible assumption) | go_simp
    replace b31 : w4.cell? ⟨w.heap.size + 1 + 1, 1, none⟩ = some (.slice none 0 0) := by subst hW14; go_simp
    replace f_b31 : w4.frozen? ⟨w.heap.size + 1 + 1, 1, none⟩ = false := by subst hW14; first | (simp only [World.frozen?_setCell]; with_reducible assumption) | go_simp
    clear Kw4
    have z_b1 : w.heap.size < w4.heap.size := qB b10
    have z_b2 : w.heap.size + 1 < w4.heap.size := qB b20
    have z_b3 : w.heap.size + 1 + 1 < w4.heap.size := qB b30
    have s_w4 : w.heap.size ≤ w4.heap.size := Xw4.size
    clear hW14
    refine bodyPost_ret (v := .tuple #[.agg #[.slice none 0 0, .slice none 0 0], .bool false]) (by simp only [results, Try.results86]; go_simp) rfl ?_
    exact PBX.no (by unfold expA; rw [hB4.out, hB5.out, hB6.out]; rfl) (Xw4.trans qXt)
   ·
    replace hB6 := Lib.hid hB6
    by_cases hc7 : (es.length : Int) = (8 : Int)
    ·
     have hc7e : ((es.length : Int) == (8 : Int)) = true := by simpa using hc7
     have hc7n : ((es.length : Int) != (8 : Int)) = false := by simpa using hc7
     replace hc7 := Lib.hid hc7
     go_wp2_with fail
     generalize hW15 : ((w3.setCell ⟨w.heap.size + 1 + 1, 0, none⟩ (.slice none 0 0)).setCell ⟨w.heap.size + 1 + 1, 1, none⟩ (.slice none 0 0)) = w4 at *
     have Kw4 : Chg (w.heap.size + 1 + 1) (w.heap.size + 1 + 1 + 1) w3 w4 := by subst hW15; exact qCh
     have Xw4 : Ext w w4 := by subst hW15; exact qXt
     replace b10 := Kw4.cell (by omega) b10
     replace b11 := Kw4.cell (by omega) b11
     replace b20 := Kw4.cell (by omega) b20
     replace b21 := Kw4.cell (by omega) b21
     replace b22 := Kw4.cell (by omega) b22
     replace b30 : w4.cell? ⟨w.heap.size + 1 + 1, 0, none⟩ = some (.slice none 0 0) := by subst hW15; go_simp
     replace f_b30 : w4.frozen? ⟨w.heap.size + 1 + 1, 0, none⟩ = false := by subst hW15; first | (simp only [World.frozen?_setCell]; with_reducible assumption) | go_simp
     replace b31 : w4.cell? ⟨w.heap.size + 1 + 1, 1, none⟩ = some (.slice none 0 0) := by subst hW15; go_simp
     replace f_b31 : w4.frozen? ⟨w.heap.size + 1 + 1, 1, none⟩ = false := by subst hW15; first | (simp only [World.frozen?_setCell]; with_reducible assumption) | go_simp
     clear Kw4
     have z_b1 : w.heap.size < w4.heap.size := qB b10
     have z_b2 : w.heap.size + 1 < w4.heap.size := qB b20
     have z_b3 : w.heap.size + 1 + 1 < w4.heap.size := qB b30
     have s_w4 : w.heap.size ≤ w4.heap.size := Xw4.size
     clear hW15
     refine bodyPost_ret (v := .tuple #[.agg #[.slice none 0 0, .slice none 0 0], .bool false]) (by simp only [results, Try.results86]; go_simp) rfl ?_
     exact PBX.no (by unfold expA; rw [hB4.out, hB5.out, hB6.out, decide_eq_false (show ¬ es.length < 8 by have h7 := hc7.out; omega)]; rfl) (Xw4.trans qXt)
    ·
     have hc7e : ((es.length : Int) == (8 : Int)) = false := by simpa using hc7
     have hc7n : ((es.length : Int) != (8 : Int)) = true := by simpa using hc7
     replace hc7 := Lib.hid hc7
     go_wp2_with fail
     have Q11_b10 := Lib.hid b10
     have Q11_b11 := Lib.hid b11
     have Q11_zb1 := z_b1
     have Q11_b20 := Lib.hid b20
     have Q11_b21 := Lib.hid b21
     have Q11_b22 := Lib.hid b22
     have Q11_zb2 := z_b2
     have Q11_b30 := Lib.hid b30
     have Q11_f_b30 := Lib.hid f_b30
     have Q11_b31 := Lib.hid b31
     have Q11_f_b31 := Lib.hid f_b31
     have Q11_zb3 := z_b3
     have BL12 : Ext w3 w3 := Ext.refl _
     refine (added_c cells es (.slice p0 cells.length c0) (.slice p1 es.length c1) (-1) b1 (.slice p2 s1.length c2) (.slice p3 t1.length c3) s1 t1 _ _ _ (h1.ext (Xw3.trans qXt)) (h2.ext (Xw3.trans qXt)) _ _ (k1.ext (Xw3.trans qXt)) (k2.ext (Xw3.trans qXt)) (by have h7 := hc7.out; omega)).mono ?_
     rintro e w4 ⟨cvfb9, evfb9, R10, rfl, bf8, xw4⟩
     have Lw4 : Ext w3 w4 := Ext.trans qXt xw4
     have Xw4 : Ext w w4 := Xw3.trans Lw4
     replace b10 := Lw4.cell b10
     replace b11 := Lw4.cell b11
     replace b20 := Lw4.cell b20
     replace b21 := Lw4.cell b21
     replace b22 := Lw4.cell b22
     replace b30 := Lw4.cell b30
     replace b31 := Lw4.cell b31
     replace f_b30 := Lw4.frz z_b3 f_b30
     replace f_b31 := Lw4.frz z_b3 f_b31
     have z_b1 : w.heap.size < w4.heap.size := qB b10
     have z_b2 : w.heap.size + 1 < w4.heap.size := qB b20
     have z_b3 : w.heap.size + 1 + 1 < w4.heap.size := qB b30
     have s_w4 : w.heap.size ≤ w4.heap.size := Xw4.size
     have BL12_w4 : Ext w3 w4 := BL12.trans Lw4
     clear xw4
     replace bf8 := bf8.lower (lo' := w3.heap.size) qSo
     obtain ⟨afb9, cfb9, rfl⟩ := bf8.ints.form
     obtain ⟨efb9, dfb9, hEfb9⟩ := bf8.exps.form
     rw [List.length_append, List.length_singleton] at hEfb9
     subst hEfb9
     have q_bf8 := Lib.hid bf8.at
     go_wp2_with fail
     generalize hW16 : ((w4.setCell ⟨w.heap.size + 1 + 1, 0, none⟩ (.slice afb9 cells.length cfb9)).setCell ⟨w.heap.size + 1 + 1, 1, none⟩ (.slice efb9 (es.length + 1) dfb9)) = w5 at *
     have Kw5 : Chg (w.heap.size + 1 + 1) (w.heap.size + 1 + 1 + 1) w4 w5 := by subst hW16; exact qCh
     have Xw5 : Ext w w5 := by subst hW16; exact qXt
     replace b10 := Kw5.cell (by omega) b10
     replace b11 := Kw5.cell (by omega) b11
     replace b20 := Kw5.cell (by omega) b20
     replace b21 := Kw5.cell (by omega) b21
     replace b22 := Kw5.cell (by omega) b22
     replace b30 : w5.cell? ⟨w.heap.size + 1 + 1, 0, none⟩ = some (.slice afb9 cells.length cfb9) := by subst hW16; go_simp
     replace f_b30 : w5.frozen? ⟨w.heap.size + 1 + 1, 0, none⟩ = false := by subst hW16; first | (simp only [World.frozen?_setCell]; with_reducible assumption) | go_simp
     replace b31 : w5.cell? ⟨w.heap.size + 1 + 1, 1, none⟩ = some (.slice efb9 (es.length + 1) dfb9) := by subst hW16; go_simp
     replace f_b31 : w5.frozen? ⟨w.heap.size + 1 + 1, 1, none⟩ = false := by subst hW16; first | (simp only [World.frozen?_setCell]; with_reducible assumption) | go_simp
     replace bf8 := bf8.chg Kw5 (by omega)
     clear Kw5
     have z_b1 : w.heap.size < w5.heap.size := qB b10
     have z_b2 : w.heap.size + 1 < w5.heap.size := qB b20
     have z_b3 : w.heap.size + 1 + 1 < w5.heap.size := qB b30
     have s_w5 : w.heap.size ≤ w5.heap.size := Xw5.size
     clear hW16
     refine bodyPost_ret (v := .tuple #[.agg #[.slice afb9 cells.length cfb9, .slice efb9 (es.length + 1) dfb9], .bool true]) (by simp only [results, Try.results86]; go_simp) rfl ?_
     exact PBX.yes (by unfold expA; rw [hB4.out, hB5.out, hB6.out, decide_eq_true (show es.length < 8 by have h7 := hc7.out; omega)]; rfl) ((bf8.ext qXt).lower (by omega)) (Xw5.trans qXt)


end Go.Proofs.Ytgklaobfikbiiaa

/- Walks: slices of the program. -/
namespace Go.Proofs.Ytgklaobfikbiiaa
open Go.RowKit
set_option linter.unusedVariables false
set_option maxRecDepth 100000

end Go.Proofs.Ytgklaobfikbiiaa

/- Walks: slices.Delete of one number of a row of one's own. -/
namespace Go.Proofs.Ytgklaobfikbiiaa
open Go.RowKit
set_option linter.unusedVariables false
set_option maxRecDepth 100000

theorem Ints.chgN {w w' : World} {lo l h g o n c : Nat} {xs : List Int} (I : Ints w lo (.slice (some ⟨g, o, none⟩) n c) xs) (k : Chg l h w w') (hg : g < l ∨ h ≤ g) : Ints w' lo (.slice (some ⟨g, o, none⟩) n c) xs := by
  obtain ⟨a', c', e, h1, h2, h3, h4⟩ := I
  cases e
  refine ⟨_, _, rfl, h1, h2, h3, fun i hi => ?_⟩
  obtain ⟨b, of, ha, hb, hc, hf⟩ := h4 i hi
  cases ha
  exact ⟨_, _, rfl, hb, k.cell hg hc, k.frzO hg (qB hc) hf⟩
/-- a call hands back a view and whether there is one -/
def PVWB (w : World) (b : Int) (s t : List Int) (ok : Bool) (e : Ending) (w' : World) : Prop := ∃ u v, e = .returned (.tuple #[.agg #[.int .i64 b, u, v], .bool ok]) ∧ Ints w' w.heap.size u s ∧ Ints w' w.heap.size v t ∧ Ext w w'
theorem PVWB.no {w w' : World} (h : Ext w w') : PVWB w 0 [] [] false (.returned (.tuple #[.agg #[.int .i64 0, .slice none 0 0, .slice none 0 0], .bool false])) w' :=
  ⟨_, _, rfl, Ints.nil _ _ _ _ (by simp) (fun _ => rfl), Ints.nil _ _ _ _ (by simp) (fun _ => rfl), h⟩
end Go.Proofs.Ytgklaobfikbiiaa

/- Walks: views without a dimension, of the program. -/
namespace Go.Proofs.Ytgklaobfikbiiaa
open Go.RowKit
set_option linter.unusedVariables false
set_option maxRecDepth 100000

end Go.Proofs.Ytgklaobfikbiiaa

/- Plain laws: views with their dimensions in another order. -/
namespace Go.Proofs.Ytgklaobfikbiiaa
open Go.RowKit
set_option linter.unusedVariables false
set_option maxRecDepth 100000

end Go.Proofs.Ytgklaobfikbiiaa

/- Plain laws: views without a dimension. -/
namespace Go.Proofs.Ytgklaobfikbiiaa
open Go.RowKit
set_option linter.unusedVariables false
set_option maxRecDepth 100000

end Go.Proofs.Ytgklaobfikbiiaa

/- Walks: PickDim of the program. -/
namespace Go.Proofs.Ytgklaobfikbiiaa
open Go.RowKit
set_option linter.unusedVariables false
set_option maxRecDepth 100000


end Go.Proofs.Ytgklaobfikbiiaa

/- Plain laws: what a slice takes of a dimension, as the program reckons it. -/
namespace Go.Proofs.Ytgklaobfikbiiaa
open Go.RowKit
set_option linter.unusedVariables false
set_option maxRecDepth 100000

end Go.Proofs.Ytgklaobfikbiiaa

/- Walks: sliceDim of the program. -/
namespace Go.Proofs.Ytgklaobfikbiiaa
open Go.RowKit
set_option linter.unusedVariables false
set_option maxRecDepth 100000


end Go.Proofs.Ytgklaobfikbiiaa

/- Walks: SliceDim of the program. -/
namespace Go.Proofs.Ytgklaobfikbiiaa
open Go.RowKit
set_option linter.unusedVariables false
set_option maxRecDepth 100000


end Go.Proofs.Ytgklaobfikbiiaa

/- Walks: SliceDim of the program, in rows of its own. -/
namespace Go.Proofs.Ytgklaobfikbiiaa
open Go.RowKit
set_option linter.unusedVariables false
set_option maxRecDepth 100000

end Go.Proofs.Ytgklaobfikbiiaa

/- Walks: ExportPart of both. -/
namespace Go.Proofs.Ytgklaobfikbiiaa
open Go.RowKit
set_option linter.unusedVariables false
set_option maxRecDepth 100000

set_option maxHeartbeats 6400000 in
theorem specExportPart_c (cells : List Int) (es : List Exp) (cv ev : Value) (i d F T B : Int) (hf ht : Bool) (w : World) (l1 l2 : Nat) (h1 : Ints w l1 cv cells) (h2 : Exps w l2 ev es) :
  Calls Try.prog 87 #[.agg #[cv, ev], .int .i64 i, .int .i64 d, .agg #[.int .i64 F, .int .i64 T, .int .i64 B, .bool hf, .bool ht]] w (PBX w (parA cells es i d F T B hf ht)) := by
 obtain ⟨p0, c0, rfl⟩ := h1.form
 obtain ⟨p1, c1, rfl⟩ := h2.form
 have he1 := h2.len
 have hc1 := h1.len
 go_enter Try.func87, Try.ntmps87
 go_wp2_with fail
 refine (validBuffer_c cells es (.slice p0 cells.length c0) (.slice p1 es.length c1) _ _ _ (h1.ext qXt) (h2.ext qXt)).mono ?_
 rintro e w1 ⟨rfl, xw1⟩
 have Lw1 : Ext w w1 := Ext.trans qXt xw1
 have Xw1 : Ext w w1 := Lw1
 have b10 : w1.cell? ⟨w.heap.size, 0, none⟩ = some (.slice p0 cells.length c0) := xw1.cell qCl
 have b11 : w1.cell? ⟨w.heap.size, 1, none⟩ = some (.slice p1 es.length c1) := xw1.cell qCl
 have b20 : w1.cell? ⟨w.heap.size + 1, 0, none⟩ = some (.int .i64 F) := xw1.cell qCl
 have b21 : w1.cell? ⟨w.heap.size + 1, 1, none⟩ = some (.int .i64 T) := xw1.cell qCl
 have b22 : w1.cell? ⟨w.heap.size + 1, 2, none⟩ = some (.int .i64 B) := xw1.cell qCl
 have b23 : w1.cell? ⟨w.heap.size + 1, 3, none⟩ = some (.bool hf) := xw1.cell qCl
 have b24 : w1.cell? ⟨w.heap.size + 1, 4, none⟩ = some (.bool ht) := xw1.cell qCl
 have b30 : w1.cell? ⟨w.heap.size + 1 + 1, 0, none⟩ = some (.slice none 0 0) := xw1.cell qCl
 have b31 : w1.cell? ⟨w.heap.size + 1 + 1, 1, none⟩ = some (.slice none 0 0) := xw1.cell qCl
 have f_b30 : w1.frozen? ⟨w.heap.size + 1 + 1, 0, none⟩ = false := xw1.frz (by simp <;> omega) qFz
 have f_b31 : w1.frozen? ⟨w.heap.size + 1 + 1, 1, none⟩ = false := xw1.frz (by simp <;> omega) qFz
 have z_b1 : w.heap.size < w1.heap.size := qB b10
 have z_b2 : w.heap.size + 1 < w1.heap.size := qB b20
 have z_b3 : w.heap.size + 1 + 1 < w1.heap.size := qB b30
 have s_w1 : w.heap.size ≤ w1.heap.size := Xw1.size
 clear xw1
 cases hB4 : bufB cells es
 ·
  replace hB4 := Lib.hid hB4
  go_wp2_with fail
  generalize hW1 : ((w1.setCell ⟨w.heap.size + 1 + 1, 0, none⟩ (.slice none 0 0)).setCell ⟨w.heap.size + 1 + 1, 1, none⟩ (.slice none 0 0)) = w2 at *
  have Kw2 : Chg (w.heap.size + 1 + 1) (w.heap.size + 1 + 1 + 1) w1 w2 := by subst hW1; exact qCh
  have Xw2 : Ext w w2 := by subst hW1; exact qXt
  replace b10 := Kw2.cell (by omega) b10
  replace b11 := Kw2.cell (by omega) b11
  replace b20 := Kw2.cell (by omega) b20
  replace b21 := Kw2.cell (by omega) b21
  replace b22 := Kw2.cell (by omega) b22
  replace b23 := Kw2.cell (by omega) b23
  replace b24 := Kw2.cell (by omega) b24
  replace b30 : w2.cell? ⟨w.heap.size + 1 + 1, 0, none⟩ = some (.slice none 0 0) := by subst hW1; go_simp
  replace f_b30 : w2.frozen? ⟨w.heap.size + 1 + 1, 0, none⟩ = false := by subst hW1; first | (simp only [World.frozen?_setCell]; with_reducible assumption) | go_simp
  replace b31 : w2.cell? ⟨w.heap.size + 1 + 1, 1, none⟩ = some (.slice none 0 0) := by subst hW1; go_simp
  replace f_b31 : w2.frozen? ⟨w.heap.size + 1 + 1, 1, none⟩ = false := by subst hW1; first | (simp only [World.frozen?_setCell]; with_reducible assumption) | go_simp
  clear Kw2
  have z_b1 : w.heap.size < w2.heap.size := qB b10
  have z_b2 : w.heap.size + 1 < w2.heap.size := qB b20
  have z_b3 : w.heap.size + 1 + 1 < w2.heap.size := qB b30
  have s_w2 : w.heap.size ≤ w2.heap.size := Xw2.size
  clear hW1
  refine bodyPost_ret (v := .tuple #[.agg #[.slice none 0 0, .slice none 0 0], .bool false]) (by simp only [results, Try.results87]; go_simp) rfl ?_
  exact PBX.no (by unfold parA; rw [(show (bufB cells es && opB es i) = false by rw [hB4.out]; rfl), Bool.false_and, Bool.false_and]; rfl) (Xw2.trans qXt)
 ·
  replace hB4 := Lib.hid hB4
  have hbb : Hid (bufB cells es = true) := Lib.hid hB4.out
  go_wp2_with fail
  refine (specIsOpen_c cells es (.slice p0 cells.length c0) (.slice p1 es.length c1) i _ _ _ (h1.ext (Xw1.trans qXt)) (h2.ext (Xw1.trans qXt))).mono ?_
  rintro e w2 ⟨rfl, xw2⟩
  have Lw2 : Ext w1 w2 := Ext.trans qXt xw2
  have Xw2 : Ext w w2 := Xw1.trans Lw2
  replace b10 := Lw2.cell b10
  replace b11 := Lw2.cell b11
  replace b20 := Lw2.cell b20
  replace b21 := Lw2.cell b21
  replace b22 := Lw2.cell b22
  replace b23 := Lw2.cell b23
  replace b24 := Lw2.cell b24
  replace b30 := Lw2.cell b30
  replace b31 := Lw2.cell b31
  replace f_b30 := Lw2.frz z_b3 f_b30
  replace f_b31 := Lw2.frz z_b3 f_b31
  have z_b1 : w.heap.size < w2.heap.size := qB b10
  have z_b2 : w.heap.size + 1 < w2.heap.size := qB b20
  have z_b3 : w.heap.size + 1 + 1 < w2.heap.size := qB b30
  have s_w2 : w.heap.size ≤ w2.heap.size := Xw2.size
  clear xw2
  cases hB5 : opB es i
  ·
   replace hB5 := Lib.hid hB5
   go_wp2_with fail
   generalize hW2 : ((w2.setCell ⟨w.heap.size + 1 + 1, 0, none⟩ (.slice none 0 0)).setCell ⟨w.heap.size + 1 + 1, 1, none⟩ (.slice none 0 0)) = w3 at *
   have Kw3 : Chg (w.heap.size + 1 + 1) (w.heap.size + 1 + 1 + 1) w2 w3 := by subst hW2; exact qCh
   have Xw3 : Ext w w3 := by subst hW2; exact qXt
   replace b10 := Kw3.cell (by omega) b10
   replace b11 := Kw3.cell (by omega) b11
   replace b20 := Kw3.cell (by omega) b20
   replace b21 := Kw3.cell (by omega) b21
   replace b22 := Kw3.cell (by omega) b22
   replace b23 := Kw3.cell (by omega) b23
   replace b24 := Kw3.cell (by omega) b24
   replace b30 : w3.cell? ⟨w.heap.size + 1 + 1, 0, none⟩ = some (.slice none 0 0) := by subst hW2; go_simp
   replace f_b30 : w3.frozen? ⟨w.heap.size + 1 + 1, 0, none⟩ = false := by subst hW2; first | (simp only [World.frozen?_setCell]; with_reducible assumption) | go_simp
   replace b31 : w3.cell? ⟨w.heap.size + 1 + 1, 1, none⟩ = some (.slice none 0 0) := by subst hW2; go_simp
   replace f_b31 : w3.frozen? ⟨w.heap.size + 1 + 1, 1, none⟩ = false := by subst hW2; first | (simp only [World.frozen?_setCell]; with_reducible assumption) | go_simp
   clear Kw3
   have z_b1 : w.heap.size < w3.heap.size := qB b10
   have z_b2 : w.heap.size + 1 < w3.heap.size := qB b20
   have z_b3 : w.heap.size + 1 + 1 < w3.heap.size := qB b30
   have s_w3 : w.heap.size ≤ w3.heap.size := Xw3.size
   clear hW2
   refine bodyPost_ret (v := .tuple #[.agg #[.slice none 0 0, .slice none 0 0], .bool false]) (by simp only [results, Try.results87]; go_simp) rfl ?_
   exact PBX.no (by unfold parA; rw [(show (bufB cells es && opB es i) = false by rw [hB5.out, Bool.and_false]), Bool.false_and, Bool.false_and]; rfl) (Xw3.trans qXt)
  ·
   replace hB5 := Lib.hid hB5
   have hop : Hid (opB es i = true) := Lib.hid hB5.out
   obtain ⟨hi0, hi1, hi2⟩ := opB_in hop.out
   obtain ⟨k, rfl⟩ : ∃ k : Nat, i = k := ⟨i.toNat, by omega⟩
   have hlt : k < es.length := by omega
   have hesne : Hid (es ≠ []) := Lib.hid (fun h => by rw [h] at hlt; exact absurd hlt (by simp))
   replace hi2 := Lib.hid hi2
   by_cases hc6 : (es.length : Int) = (8 : Int)
   ·
    have hc6e : ((es.length : Int) == (8 : Int)) = true := by simpa using hc6
    have hc6n : ((es.length : Int) != (8 : Int)) = false := by simpa using hc6
    replace hc6 := Lib.hid hc6
    go_wp2_with fail
    generalize hW3 : ((w2.setCell ⟨w.heap.size + 1 + 1, 0, none⟩ (.slice none 0 0)).setCell ⟨w.heap.size + 1 + 1, 1, none⟩ (.slice none 0 0)) = w3 at *
    have Kw3 : Chg (w.heap.size + 1 + 1) (w.heap.size + 1 + 1 + 1) w2 w3 := by subst hW3; exact qCh
    have Xw3 : Ext w w3 := by subst hW3; exact qXt
    replace b10 := Kw3.cell (by omega) b10
    replace b11 := Kw3.cell (by omega) b11
    replace b20 := Kw3.cell (by omega) b20
    replace b21 := Kw3.cell (by omega) b21
    replace b22 := Kw3.cell (by omega) b22
    replace b23 := Kw3.cell (by omega) b23
    replace b24 := Kw3.cell (by omega) b24
    replace b30 : w3.cell? ⟨w.heap.size + 1 + 1, 0, none⟩ = some (.slice none 0 0) := by subst hW3; go_simp
    replace f_b30 : w3.frozen? ⟨w.heap.size + 1 + 1, 0, none⟩ = false := by subst hW3; first | (simp only [World.frozen?_setCell]; with_reducible assumption) | go_simp
    replace b31 : w3.cell? ⟨w.heap.size + 1 + 1, 1, none⟩ = some (.slice none 0 0) := by subst hW3; go_simp
    replace f_b31 : w3.frozen? ⟨w.heap.size + 1 + 1, 1, none⟩ = false := by subst hW3; first | (simp only [World.frozen?_setCell]; with_reducible assumption) | go_simp
    clear Kw3
    have z_b1 : w.heap.size < w3.heap.size := qB b10
    have z_b2 : w.heap.size + 1 < w3.heap.size := qB b20
    have z_b3 : w.heap.size + 1 + 1 < w3.heap.size := qB b30
    have s_w3 : w.heap.size ≤ w3.heap.size := Xw3.size
    clear hW3
    refine bodyPost_ret (v := .tuple #[.agg #[.slice none 0 0, .slice none 0 0], .bool false]) (by simp only [results, Try.results87]; go_simp) rfl ?_
    exact PBX.no (by unfold parA; rw [decide_eq_false (show ¬ es.length < 8 from (by have h7 := hc6.out; omega)), Bool.and_false, Bool.false_and]; rfl) (Xw3.trans qXt)
   ·
    have hc6e : ((es.length : Int) == (8 : Int)) = false := by simpa using hc6
    have hc6n : ((es.length : Int) != (8 : Int)) = true := by simpa using hc6
    replace hc6 := Lib.hid hc6
    go_wp2_with fail
    have hN_x7 : k < es.length := hlt
    have hI_x7 : (k : Int) < (es.length : Int) := by omega
    obtain ⟨bl20, ol21, u14, c15, u16, c17, rfl, x70, x71, x72, x73, x74, i18, i19⟩ := h2.at k hN_x7
    obtain ⟨X13, hX13⟩ : ∃ x, expAt es k = x := ⟨_, rfl⟩
    rw [hX13] at x70 x71 x72 x73 x74 i18 i19
    obtain ⟨P8, B9, S10, T11, O12⟩ := X13
    dsimp only at x70 x71 x72 x73 x74 i18 i19
    replace hX13 := Lib.hid hX13
    have hLS10 := i18.len
    have hLT11 := i19.len
    have y_x7 : bl20 < w.heap.size := qB x70
    replace x70 := Xw2.cell x70
    replace x71 := Xw2.cell x71
    replace x72 := Xw2.cell x72
    replace x73 := Xw2.cell x73
    replace x74 := Xw2.cell x74
    have z_x7 : bl20 < w2.heap.size := qB x70
    have h88 := (bufB_in hbb.out).2.2.1
    obtain ⟨PB, PS, PT, PO, hP⟩ : ∃ PB PS PT PO, sliceV B9 S10 T11 d F T B hf ht = (PB, PS, PT, PO) := ⟨_, _, _, _, rfl⟩
    have hpl : PS.length ≤ 4 ∧ PT.length ≤ 4 := by have h7 := sliceV_fit B9 S10 T11 d F T B hf ht; rw [hP] at h7; exact ⟨h7.2, by have h8 := h7.1; have h9 := h7.2; dsimp only at h8 h9; omega⟩
    obtain ⟨hpl1, hpl2⟩ := hpl
    replace hP := Lib.hid hP
    cases PO
    ·
     go_wp2_with fail
     go_cut [10, 11] (fun s10 s11 wx => ∃ (g : Nat) (afv22u : Option Addr) (cfv22u : Nat) (afv22v : Option Addr) (cfv22v : Nat), s10 = .pointer (some ⟨g, 0, none⟩) ∧ s11 = .bool false ∧ Ext w2 wx ∧ w2.heap.size ≤ g ∧ wx.cell? ⟨g, 0, none⟩ = some (.int .i64 PB) ∧ wx.cell? ⟨g, 1, none⟩ = some (.slice afv22u PS.length cfv22u) ∧ wx.cell? ⟨g, 2, none⟩ = some (.slice afv22v PT.length cfv22v) ∧ wx.frozen? ⟨g, 0, none⟩ = false ∧ wx.frozen? ⟨g, 1, none⟩ = false ∧ wx.frozen? ⟨g, 2, none⟩ = false ∧ Ints wx w2.heap.size (.slice afv22u PS.length cfv22u) PS ∧ Ints wx w2.heap.size (.slice afv22v PT.length cfv22v) PT)
     case first =>
      have BD3 : Ext w2 w2 := Ext.refl _
      refine wp_region_held_drew (S := fun w' => w'.cell? ⟨w.heap.size, 0, none⟩ = some (.slice p0 cells.length c0) ∧ w'.cell? ⟨w.heap.size, 1, none⟩ = some (.slice (some ⟨bl20, ol21, none⟩) es.length c1) ∧ w'.cell? ⟨w.heap.size + 1, 0, none⟩ = some (.int .i64 F) ∧ w'.cell? ⟨w.heap.size + 1, 1, none⟩ = some (.int .i64 T) ∧ w'.cell? ⟨w.heap.size + 1, 2, none⟩ = some (.int .i64 B) ∧ w'.cell? ⟨w.heap.size + 1, 3, none⟩ = some (.bool hf) ∧ w'.cell? ⟨w.heap.size + 1, 4, none⟩ = some (.bool ht) ∧ w'.cell? ⟨w.heap.size + 1 + 1, 0, none⟩ = some (.slice none 0 0) ∧ w'.cell? ⟨w.heap.size + 1 + 1, 1, none⟩ = some (.slice none 0 0) ∧ w'.cell? ⟨bl20, ol21 + k * 5, none⟩ = some (.int .i64 P8) ∧ w'.cell? ⟨bl20, ol21 + k * 5 + 1, none⟩ = some (.int .i64 B9) ∧ w'.cell? ⟨bl20, ol21 + k * 5 + 2, none⟩ = some (.slice u14 S10.length c15) ∧ w'.cell? ⟨bl20, ol21 + k * 5 + 3, none⟩ = some (.slice u16 T11.length c17) ∧ w'.cell? ⟨bl20, ol21 + k * 5 + 4, none⟩ = some (.bool O12)) qKr ⟨b10, b11, b20, b21, b22, b23, b24, b30, b31, x70, x71, x72, x73, x74⟩ (fun hHeld => ?_)
      refine qHk (v := ?_) 0 rfl (.inl ⟨by rfl, ?_⟩) ?_
      rotate_left
      ·
       (intro w hSw; (try dsimp only at hSw); go_simp; try with_reducible rfl)
      try simp only [Act.put, qa, qb, qc, qD, qE, qF]
      refine qHk (v := ?_) 1 rfl (.inl ⟨by rfl, ?_⟩) ?_
      rotate_left
      ·
       (intro w hSw; (try dsimp only at hSw); go_simp; try with_reducible rfl)
      try simp only [Act.put, qa, qb, qc, qD, qE, qF]
      refine qHk (v := ?_) 2 rfl (.inl ⟨by rfl, ?_⟩) ?_
      rotate_left
      ·
       (intro w hSw; (try dsimp only at hSw); go_simp; try with_reducible rfl)
      try simp only [Act.put, qa, qb, qc, qD, qE, qF]
      refine qHk (v := ?_) 3 rfl (.inl ⟨by rfl, ?_⟩) ?_
      rotate_left
      ·
       (intro w hSw; (try dsimp only at hSw); go_simp; try with_reducible rfl)
      try simp only [Act.put, qa, qb, qc, qD, qE, qF]
      refine qHk (v := ?_) 4 rfl (.inl ⟨by rfl, ?_⟩) ?_
      rotate_left
      ·
       (intro w hSw; (try dsimp only at hSw); go_simp; try with_reducible rfl)
      try simp only [Act.put, qa, qb, qc, qD, qE, qF]
      refine qHk (v := ?_) 5 rfl (.inl ⟨by rfl, ?_⟩) ?_
      rotate_left
      ·
       (intro w hSw; (try dsimp only at hSw); go_simp; try with_reducible rfl)
      try simp only [Act.put, qa, qb, qc, qD, qE, qF]
      refine qHk (v := ?_) 6 rfl (.inl ⟨by rfl, ?_⟩) ?_
      rotate_left
      ·
       (intro w hSw; (try dsimp only at hSw); go_simp; try with_reducible rfl)
      try simp only [Act.put, qa, qb, qc, qD, qE, qF]
      refine qHk (v := ?_) 7 rfl (.inl ⟨by rfl, ?_⟩) ?_
      rotate_left
      ·
       (intro w hSw; (try dsimp only at hSw); go_simp; try with_reducible rfl)
      try simp only [Act.put, qa, qb, qc, qD, qE, qF]
      refine wpAnyH_ready (rs := [8, 12]) qKr (by simp) ?_
      refine AllReadyH.cons rfl (fun K hK => ?_) (AllReadyH.cons rfl (fun K hK => ?_) AllReadyH.nil)
      ·
       try simp only [Act.put, qa, qb, qc, qD, qE, qF]
       go_simp
       refine (pv_eq hP.out (specSliceDim_c B9 (.slice u14 S10.length c15) (.slice u16 T11.length c17) S10 T11 d F T B hf ht _ _ _ (i18.ext (Xw2.trans qXt)) (i19.ext (Xw2.trans qXt)))).mono ?_
       rintro e w3 ⟨fv22u, fv22v, rfl, i23u, i23v, -, -, -, xw3⟩
       have Lw3 : Ext w2 w3 := Ext.trans qXt xw3
       have Xw3 : Ext w w3 := Xw2.trans Lw3
       replace b10 := Lw3.cell b10
       replace b11 := Lw3.cell b11
       replace b20 := Lw3.cell b20
       replace b21 := Lw3.cell b21
       replace b22 := Lw3.cell b22
       replace b23 := Lw3.cell b23
       replace b24 := Lw3.cell b24
       replace b30 := Lw3.cell b30
       replace b31 := Lw3.cell b31
       replace f_b30 := Lw3.frz z_b3 f_b30
       replace f_b31 := Lw3.frz z_b3 f_b31
       replace x70 := Lw3.cell x70
       replace x71 := Lw3.cell x71
       replace x72 := Lw3.cell x72
       replace x73 := Lw3.cell x73
       replace x74 := Lw3.cell x74
       have z_b1 : w.heap.size < w3.heap.size := qB b10
       have z_b2 : w.heap.size + 1 < w3.heap.size := qB b20
       have z_b3 : w.heap.size + 1 + 1 < w3.heap.size := qB b30
       have z_x7 : bl20 < w3.heap.size := qB x70
       have s_w3 : w.heap.size ≤ w3.heap.size := Xw3.size
       have BD3_w3 : Ext w2 w3 := BD3.trans Lw3
       clear xw3
       try simp only [World.size_alloc, World.size_drew] at i23u
       try simp only [World.size_alloc, World.size_drew] at i23v
       obtain ⟨afv22u, cfv22u, rfl⟩ := i23u.form
       obtain ⟨afv22v, cfv22v, rfl⟩ := i23v.form
       have zD_w3 := (BD3_w3).size
       refine hK.out _ _ ⟨b10, b11, b20, b21, b22, b23, b24, b30, b31, x70, x71, x72, x73, x74⟩ (fun hHeld => ?_)
       clear hK K
       try simp only [Act.put, qa, qb, qc, qD, qE, qF]
       refine qHk (v := ?_) 9 rfl (.inl ⟨by rfl, ?_⟩) ?_
       rotate_left
       ·
        (intro w hSw; (try dsimp only at hSw); go_simp; try with_reducible rfl)
       try simp only [Act.put, qa, qb, qc, qD, qE, qF]
       refine qHk (v := ?_) 10 rfl (.inl ⟨by rfl, ?_⟩) ?_
       rotate_left
       ·
        (intro w hSw; (try dsimp only at hSw); go_simp; try with_reducible rfl)
       try simp only [Act.put, qa, qb, qc, qD, qE, qF]
       refine qHk (v := ?_) 11 rfl (.inl ⟨by rfl, ?_⟩) ?_
       rotate_left
       ·
        (intro w hSw; (try dsimp only at hSw); go_simp; try with_reducible rfl)
       try simp only [Act.put, qa, qb, qc, qD, qE, qF]
       refine qHr 12 rfl (fun K hK => ?_)
       try simp only [Act.put, qa, qb, qc, qD, qE, qF]
       go_simp
       have Q24_b10 := Lib.hid b10
       have Q24_b11 := Lib.hid b11
       have Q24_zb1 := z_b1
       have Q24_b20 := Lib.hid b20
       have Q24_b21 := Lib.hid b21
       have Q24_b22 := Lib.hid b22
       have Q24_b23 := Lib.hid b23
       have Q24_b24 := Lib.hid b24
       have Q24_zb2 := z_b2
       have Q24_b30 := Lib.hid b30
       have Q24_f_b30 := Lib.hid f_b30
       have Q24_b31 := Lib.hid b31
       have Q24_f_b31 := Lib.hid f_b31
       have Q24_zb3 := z_b3
       have Q24_x70 := Lib.hid x70
       have Q24_x71 := Lib.hid x71
       have Q24_x72 := Lib.hid x72
       have Q24_x73 := Lib.hid x73
       have Q24_x74 := Lib.hid x74
       have Q24_zx7 := z_x7
       have Q24_i23u := Lib.hid i23u
       have Q24_i23v := Lib.hid i23v
       have BL25 : Ext w3 w3 := Ext.refl _
       have Q26_b10 := Lib.hid b10
       have Q26_b11 := Lib.hid b11
       have Q26_zb1 := z_b1
       have Q26_b20 := Lib.hid b20
       have Q26_b21 := Lib.hid b21
       have Q26_b22 := Lib.hid b22
       have Q26_b23 := Lib.hid b23
       have Q26_b24 := Lib.hid b24
       have Q26_zb2 := z_b2
       have Q26_b30 := Lib.hid b30
       have Q26_f_b30 := Lib.hid f_b30
       have Q26_b31 := Lib.hid b31
       have Q26_f_b31 := Lib.hid f_b31
       have Q26_zb3 := z_b3
       have Q26_x70 := Lib.hid x70
       have Q26_x71 := Lib.hid x71
       have Q26_x72 := Lib.hid x72
       have Q26_x73 := Lib.hid x73
       have Q26_x74 := Lib.hid x74
       have Q26_zx7 := z_x7
       have Q26_i23u := Lib.hid i23u
       have Q26_i23v := Lib.hid i23v
       have BL27 : Ext w3 w3 := Ext.refl _
       refine hK.out _ _ ⟨(show Ext w3 _ from qXt).cell b10, (show Ext w3 _ from qXt).cell b11, (show Ext w3 _ from qXt).cell b20, (show Ext w3 _ from qXt).cell b21, (show Ext w3 _ from qXt).cell b22, (show Ext w3 _ from qXt).cell b23, (show Ext w3 _ from qXt).cell b24, (show Ext w3 _ from qXt).cell b30, (show Ext w3 _ from qXt).cell b31, (show Ext w3 _ from qXt).cell x70, (show Ext w3 _ from qXt).cell x71, (show Ext w3 _ from qXt).cell x72, (show Ext w3 _ from qXt).cell x73, (show Ext w3 _ from qXt).cell x74⟩ (fun hHeld => ?_)
       clear hK K
       try simp only [Act.put, qa, qb, qc, qD, qE, qF]
       refine qHr 13 rfl (fun K hK => ?_)
       try simp only [Act.put, qa, qb, qc, qD, qE, qF]
       go_simp
       have zn_BD3_w4 := (BD3_w3).size
       have zn_BL25_w4 := (BL25).size
       have zn_BL27_w4 := (BL27).size
       generalize hW4 : w3.alloc (.cells #[.int .i64 PB, .slice afv22u PS.length cfv22u, .slice afv22v PT.length cfv22v] 30) = w4 at *
       have Lw4 : Ext w3 w4 := by subst hW4; exact qXt
       have Xw4 : Ext w w4 := Xw3.trans Lw4
       replace b10 := Lw4.cell b10
       replace b11 := Lw4.cell b11
       replace b20 := Lw4.cell b20
       replace b21 := Lw4.cell b21
       replace b22 := Lw4.cell b22
       replace b23 := Lw4.cell b23
       replace b24 := Lw4.cell b24
       replace b30 := Lw4.cell b30
       replace b31 := Lw4.cell b31
       replace f_b30 := Lw4.frz z_b3 f_b30
       replace f_b31 := Lw4.frz z_b3 f_b31
       replace x70 := Lw4.cell x70
       replace x71 := Lw4.cell x71
       replace x72 := Lw4.cell x72
       replace x73 := Lw4.cell x73
       replace x74 := Lw4.cell x74
       have b280 : w4.cell? ⟨w3.heap.size, 0, none⟩ = some (.int .i64 PB) := by subst hW4; exact qCl
       have b281 : w4.cell? ⟨w3.heap.size, 1, none⟩ = some (.slice afv22u PS.length cfv22u) := by subst hW4; exact qCl
       have b282 : w4.cell? ⟨w3.heap.size, 2, none⟩ = some (.slice afv22v PT.length cfv22v) := by subst hW4; exact qCl
       have f_b280 : w4.frozen? ⟨w3.heap.size, 0, none⟩ = false := by subst hW4; exact qFz
       have f_b281 : w4.frozen? ⟨w3.heap.size, 1, none⟩ = false := by subst hW4; exact qFz
       have f_b282 : w4.frozen? ⟨w3.heap.size, 2, none⟩ = false := by subst hW4; exact qFz
       have z_b1 : w.heap.size < w4.heap.size := qB b10
       have z_b2 : w.heap.size + 1 < w4.heap.size := qB b20
       have z_b3 : w.heap.size + 1 + 1 < w4.heap.size := qB b30
       have z_x7 : bl20 < w4.heap.size := qB x70
       have z_b28 : w3.heap.size < w4.heap.size := qB b280
       replace i23u := i23u.ext Lw4
       replace i23v := i23v.ext Lw4
       have s_w4 : w.heap.size ≤ w4.heap.size := Xw4.size
       have BD3_w4 : Ext w2 w4 := BD3_w3.trans Lw4
       have BL25_w4 : Ext w3 w4 := BL25.trans Lw4
       have BL27_w4 : Ext w3 w4 := BL27.trans Lw4
       clear hW4
       refine hK.out _ _ ⟨b10, b11, b20, b21, b22, b23, b24, b30, b31, x70, x71, x72, x73, x74⟩ (fun hHeld => ?_)
       clear hK K
       try simp only [Act.put, qa, qb, qc, qD, qE, qF]
       refine qHk (v := ?_) 14 rfl (.inl ⟨by rfl, ?_⟩) ?_
       rotate_left
       ·
        (intro w hSw; (try dsimp only at hSw); go_simp; try with_reducible rfl)
       try simp only [Act.put, qa, qb, qc, qD, qE, qF]
       refine wpAnyH_done qKr ?_ _
       clear hHeld
       go_step
       go_step
       go_meet
       case rel => exact ⟨_, _, _, _, _, rfl, rfl, BD3_w4, (by omega), b280, b281, b282, f_b280, f_b281, f_b282, i23u.lower (by omega), i23v.lower (by omega)⟩
      ·
       try simp only [Act.put, qa, qb, qc, qD, qE, qF]
       go_simp
       have Q29_b10 := Lib.hid b10
       have Q29_b11 := Lib.hid b11
       have Q29_zb1 := z_b1
       have Q29_b20 := Lib.hid b20
       have Q29_b21 := Lib.hid b21
       have Q29_b22 := Lib.hid b22
       have Q29_b23 := Lib.hid b23
       have Q29_b24 := Lib.hid b24
       have Q29_zb2 := z_b2
       have Q29_b30 := Lib.hid b30
       have Q29_f_b30 := Lib.hid f_b30
       have Q29_b31 := Lib.hid b31
       have Q29_f_b31 := Lib.hid f_b31
       have Q29_zb3 := z_b3
       have Q29_x70 := Lib.hid x70
       have Q29_x71 := Lib.hid x71
       have Q29_x72 := Lib.hid x72
       have Q29_x73 := Lib.hid x73
       have Q29_x74 := Lib.hid x74
       have Q29_zx7 := z_x7
       have BL30 : Ext w2 w2 := Ext.refl _
       refine hK.out _ _ ⟨(show Ext w2 _ from qXt).cell b10, (show Ext w2 _ from qXt).cell b11, (show Ext w2 _ from qXt).cell b20, (show Ext w2 _ from qXt).cell b21, (show Ext w2 _ from qXt).cell b22, (show Ext w2 _ from qXt).cell b23, (show Ext w2 _ from qXt).cell b24, (show Ext w2 _ from qXt).cell b30, (show Ext w2 _ from qXt).cell b31, (show Ext w2 _ from qXt).cell x70, (show Ext w2 _ from qXt).cell x71, (show Ext w2 _ from qXt).cell x72, (show Ext w2 _ from qXt).cell x73, (show Ext w2 _ from qXt).cell x74⟩ (fun hHeld => ?_)
       clear hK K
       try simp only [Act.put, qa, qb, qc, qD, qE, qF]
       refine qHr 8 rfl (fun K hK => ?_)
       try simp only [Act.put, qa, qb, qc, qD, qE, qF]
       go_simp
       refine (pv_eq hP.out (specSliceDim_c B9 (.slice u14 S10.length c15) (.slice u16 T11.length c17) S10 T11 d F T B hf ht _ _ _ (i18.ext (Xw2.trans qXt)) (i19.ext (Xw2.trans qXt)))).mono ?_
       rintro e w3 ⟨fv32u, fv32v, rfl, i33u, i33v, -, -, -, xw3⟩
       have Lw3 : Ext w2 w3 := Ext.trans qXt xw3
       have Xw3 : Ext w w3 := Xw2.trans Lw3
       replace b10 := Lw3.cell b10
       replace b11 := Lw3.cell b11
       replace b20 := Lw3.cell b20
       replace b21 := Lw3.cell b21
       replace b22 := Lw3.cell b22
       replace b23 := Lw3.cell b23
       replace b24 := Lw3.cell b24
       replace b30 := Lw3.cell b30
       replace b31 := Lw3.cell b31
       replace f_b30 := Lw3.frz z_b3 f_b30
       replace f_b31 := Lw3.frz z_b3 f_b31
       replace x70 := Lw3.cell x70
       replace x71 := Lw3.cell x71
       replace x72 := Lw3.cell x72
       replace x73 := Lw3.cell x73
       replace x74 := Lw3.cell x74
       have b310 : w3.cell? ⟨w2.heap.size, 0, none⟩ = some (.int .i64 0) := xw3.cell qCl
       have b311 : w3.cell? ⟨w2.heap.size, 1, none⟩ = some (.slice none 0 0) := xw3.cell qCl
       have b312 : w3.cell? ⟨w2.heap.size, 2, none⟩ = some (.slice none 0 0) := xw3.cell qCl
       have f_b310 : w3.frozen? ⟨w2.heap.size, 0, none⟩ = false := xw3.frz (by simp <;> omega) qFz
       have f_b311 : w3.frozen? ⟨w2.heap.size, 1, none⟩ = false := xw3.frz (by simp <;> omega) qFz
       have f_b312 : w3.frozen? ⟨w2.heap.size, 2, none⟩ = false := xw3.frz (by simp <;> omega) qFz
       have z_b1 : w.heap.size < w3.heap.size := qB b10
       have z_b2 : w.heap.size + 1 < w3.heap.size := qB b20
       have z_b3 : w.heap.size + 1 + 1 < w3.heap.size := qB b30
       have z_x7 : bl20 < w3.heap.size := qB x70
       have z_b31 : w2.heap.size < w3.heap.size := qB b310
       have s_w3 : w.heap.size ≤ w3.heap.size := Xw3.size
       have BD3_w3 : Ext w2 w3 := BD3.trans Lw3
       have BL30_w3 : Ext w2 w3 := BL30.trans Lw3
       clear xw3
       try simp only [World.size_alloc, World.size_drew] at i33u
       try simp only [World.size_alloc, World.size_drew] at i33v
       obtain ⟨afv32u, cfv32u, rfl⟩ := i33u.form
       obtain ⟨afv32v, cfv32v, rfl⟩ := i33v.form
       have zD_w3 := (BD3_w3).size
       refine hK.out _ _ ⟨b10, b11, b20, b21, b22, b23, b24, b30, b31, x70, x71, x72, x73, x74⟩ (fun hHeld => ?_)
       clear hK K
       try simp only [Act.put, qa, qb, qc, qD, qE, qF]
       refine qHk (v := ?_) 9 rfl (.inl ⟨by rfl, ?_⟩) ?_
       rotate_left
       ·
        (intro w hSw; (try dsimp only at hSw); go_simp; try with_reducible rfl)
       try simp only [Act.put, qa, qb, qc, qD, qE, qF]
       refine qHk (v := ?_) 10 rfl (.inl ⟨by rfl, ?_⟩) ?_
       rotate_left
       ·
        (intro w hSw; (try dsimp only at hSw); go_simp; try with_reducible rfl)
       try simp only [Act.put, qa, qb, qc, qD, qE, qF]
       refine qHk (v := ?_) 11 rfl (.inl ⟨by rfl, ?_⟩) ?_
       rotate_left
       ·
        (intro w hSw; (try dsimp only at hSw); go_simp; try with_reducible rfl)
       try simp only [Act.put, qa, qb, qc, qD, qE, qF]
       refine qHr 13 rfl (fun K hK => ?_)
       try simp only [Act.put, qa, qb, qc, qD, qE, qF]
       go_simp
       generalize hW5 : (((w3.setCell ⟨w2.heap.size, 0, none⟩ (.int .i64 PB)).setCell ⟨w2.heap.size, 1, none⟩ (.slice afv32u PS.length cfv32u)).setCell ⟨w2.heap.size, 2, none⟩ (.slice afv32v PT.length cfv32v)) = w4 at *
       have Kw4 : Chg (w2.heap.size) (w2.heap.size + 1) w3 w4 := by subst hW5; exact qCh
       have Xw4 : Ext w w4 := by subst hW5; exact qXt
       have BD3_w4 : Ext w2 w4 := by subst hW5; exact qXt
       have BL30_w4 : Ext w2 w4 := by subst hW5; exact qXt
       replace b10 := BL30_w4.cell Q29_b10.out
       replace b11 := BL30_w4.cell Q29_b11.out
       replace b20 := BL30_w4.cell Q29_b20.out
       replace b21 := BL30_w4.cell Q29_b21.out
       replace b22 := BL30_w4.cell Q29_b22.out
       replace b23 := BL30_w4.cell Q29_b23.out
       replace b24 := BL30_w4.cell Q29_b24.out
       replace b30 := BL30_w4.cell Q29_b30.out
       replace f_b30 := BL30_w4.frz Q29_zb3 Q29_f_b30.out
       replace b31 := BL30_w4.cell Q29_b31.out
       replace f_b31 := BL30_w4.frz Q29_zb3 Q29_f_b31.out
       replace x70 := BL30_w4.cell Q29_x70.out
       replace x71 := BL30_w4.cell Q29_x71.out
       replace x72 := BL30_w4.cell Q29_x72.out
       replace x73 := BL30_w4.cell Q29_x73.out
       replace x74 := BL30_w4.cell Q29_x74.out
       replace b310 : w4.cell? ⟨w2.heap.size, 0, none⟩ = some (.int .i64 PB) := by subst hW5; go_simp
       replace f_b310 : w4.frozen? ⟨w2.heap.size, 0, none⟩ = false := by subst hW5; first | (simp only [World.frozen?_setCell]; with_reducible assumption) | go_simp
       replace b311 : w4.cell? ⟨w2.heap.size, 1, none⟩ = some (.slice afv32u PS.length cfv32u) := by subst hW5; go_simp
       replace f_b311 : w4.frozen? ⟨w2.heap.size, 1, none⟩ = false := by subst hW5; first | (simp only [World.frozen?_setCell]; with_reducible assumption) | go_simp
       replace b312 : w4.cell? ⟨w2.heap.size, 2, none⟩ = some (.slice afv32v PT.length cfv32v) := by subst hW5; go_simp
       replace f_b312 : w4.frozen? ⟨w2.heap.size, 2, none⟩ = false := by subst hW5; first | (simp only [World.frozen?_setCell]; with_reducible assumption) | go_simp
       replace i33u := i33u.chg Kw4 (by omega)
       replace i33v := i33v.chg Kw4 (by omega)
       clear Kw4
       have z_b1 : w.heap.size < w4.heap.size := qB b10
       have z_b2 : w.heap.size + 1 < w4.heap.size := qB b20
       have z_b3 : w.heap.size + 1 + 1 < w4.heap.size := qB b30
       have z_x7 : bl20 < w4.heap.size := qB x70
       have z_b31 : w2.heap.size < w4.heap.size := qB b310
       have s_w4 : w.heap.size ≤ w4.heap.size := Xw4.size
       clear hW5
       refine hK.out _ _ ⟨b10, b11, b20, b21, b22, b23, b24, b30, b31, x70, x71, x72, x73, x74⟩ (fun hHeld => ?_)
       clear hK K
       try simp only [Act.put, qa, qb, qc, qD, qE, qF]
       refine qHk (v := ?_) 14 rfl (.inl ⟨by rfl, ?_⟩) ?_
       rotate_left
       ·
        (intro w hSw; (try dsimp only at hSw); go_simp; try with_reducible rfl)
       try simp only [Act.put, qa, qb, qc, qD, qE, qF]
       refine wpAnyH_done qKr ?_ _
       clear hHeld
       go_step
       go_step
       go_meet
       case rel => exact ⟨_, _, _, _, _, rfl, rfl, BD3_w4, (by omega), b310, b311, b312, f_b310, f_b311, f_b312, i33u.lower (by omega), i33v.lower (by omega)⟩
     case rest =>
      generalize wc = wc35 at hcut ⊢
      obtain ⟨g36, af40, cf41, af42, cf43, rfl, rfl, xx37, hg_b34, b340, b341, b342, f_b340, f_b341, f_b342, i38, i39⟩ := hcut
      have Lwc35 : Ext w2 wc35 := Ext.trans qXt xx37
      have Xwc35 : Ext w wc35 := Xw2.trans Lwc35
      replace b10 := Lwc35.cell b10
      replace b11 := Lwc35.cell b11
      replace b20 := Lwc35.cell b20
      replace b21 := Lwc35.cell b21
      replace b22 := Lwc35.cell b22
      replace b23 := Lwc35.cell b23
      replace b24 := Lwc35.cell b24
      replace b30 := Lwc35.cell b30
      replace b31 := Lwc35.cell b31
      replace f_b30 := Lwc35.frz z_b3 f_b30
      replace f_b31 := Lwc35.frz z_b3 f_b31
      replace x70 := Lwc35.cell x70
      replace x71 := Lwc35.cell x71
      replace x72 := Lwc35.cell x72
      replace x73 := Lwc35.cell x73
      replace x74 := Lwc35.cell x74
      have z_b1 : w.heap.size < wc35.heap.size := qB b10
      have z_b2 : w.heap.size + 1 < wc35.heap.size := qB b20
      have z_b3 : w.heap.size + 1 + 1 < wc35.heap.size := qB b30
      have z_x7 : bl20 < wc35.heap.size := qB x70
      have s_wc35 : w.heap.size ≤ wc35.heap.size := Xwc35.size
      clear xx37
      have z_b34 : g36 < wc35.heap.size := qB b340
      go_wp2_with fail
      generalize hW6 : ((wc35.setCell ⟨w.heap.size + 1 + 1, 0, none⟩ (.slice none 0 0)).setCell ⟨w.heap.size + 1 + 1, 1, none⟩ (.slice none 0 0)) = w3 at *
      have Kw3 : Chg (w.heap.size + 1 + 1) (w.heap.size + 1 + 1 + 1) wc35 w3 := by subst hW6; exact qCh
      have Xw3 : Ext w w3 := by subst hW6; exact qXt
      replace b10 := Kw3.cell (by omega) b10
      replace b11 := Kw3.cell (by omega) b11
      replace b20 := Kw3.cell (by omega) b20
      replace b21 := Kw3.cell (by omega) b21
      replace b22 := Kw3.cell (by omega) b22
      replace b23 := Kw3.cell (by omega) b23
      replace b24 := Kw3.cell (by omega) b24
      replace b30 : w3.cell? ⟨w.heap.size + 1 + 1, 0, none⟩ = some (.slice none 0 0) := by subst hW6; go_simp
      replace f_b30 : w3.frozen? ⟨w.heap.size + 1 + 1, 0, none⟩ = false := by subst hW6; first | (simp only [World.frozen?_setCell]; with_reducible assumption) | go_simp
      replace b31 : w3.cell? ⟨w.heap.size + 1 + 1, 1, none⟩ = some (.slice none 0 0) := by subst hW6; go_simp
      replace f_b31 : w3.frozen? ⟨w.heap.size + 1 + 1, 1, none⟩ = false := by subst hW6; first | (simp only [World.frozen?_setCell]; with_reducible assumption) | go_simp
      replace x70 := Kw3.cell (by omega) x70
      replace x71 := Kw3.cell (by omega) x71
      replace x72 := Kw3.cell (by omega) x72
      replace x73 := Kw3.cell (by omega) x73
      replace x74 := Kw3.cell (by omega) x74
      replace b340 := Kw3.cell (by omega) b340
      replace f_b340 := Kw3.frzO (by omega) z_b34 f_b340
      replace b341 := Kw3.cell (by omega) b341
      replace f_b341 := Kw3.frzO (by omega) z_b34 f_b341
      replace b342 := Kw3.cell (by omega) b342
      replace f_b342 := Kw3.frzO (by omega) z_b34 f_b342
      replace i38 := i38.chg Kw3 (by omega)
      replace i39 := i39.chg Kw3 (by omega)
      clear Kw3
      have z_b1 : w.heap.size < w3.heap.size := qB b10
      have z_b2 : w.heap.size + 1 < w3.heap.size := qB b20
      have z_b3 : w.heap.size + 1 + 1 < w3.heap.size := qB b30
      have z_x7 : bl20 < w3.heap.size := qB x70
      have z_b34 : g36 < w3.heap.size := qB b340
      have s_w3 : w.heap.size ≤ w3.heap.size := Xw3.size
      clear hW6
      refine bodyPost_ret (v := .tuple #[.agg #[.slice none 0 0, .slice none 0 0], .bool false]) (by simp only [results, Try.results87]; go_simp) rfl ?_
      exact PBX.no (by unfold parA; simp only [Int.toNat_natCast]; rw [hX13.out]; dsimp only; rw [hP.out, Bool.and_false]; rfl) (Xw3.trans qXt)
    ·
     go_wp2_with fail
     go_cut [10, 11] (fun s10 s11 wx => ∃ (g : Nat) (afv44u : Option Addr) (cfv44u : Nat) (afv44v : Option Addr) (cfv44v : Nat), s10 = .pointer (some ⟨g, 0, none⟩) ∧ s11 = .bool true ∧ Ext w2 wx ∧ w2.heap.size ≤ g ∧ wx.cell? ⟨g, 0, none⟩ = some (.int .i64 PB) ∧ wx.cell? ⟨g, 1, none⟩ = some (.slice afv44u PS.length cfv44u) ∧ wx.cell? ⟨g, 2, none⟩ = some (.slice afv44v PT.length cfv44v) ∧ wx.frozen? ⟨g, 0, none⟩ = false ∧ wx.frozen? ⟨g, 1, none⟩ = false ∧ wx.frozen? ⟨g, 2, none⟩ = false ∧ Ints wx w2.heap.size (.slice afv44u PS.length cfv44u) PS ∧ Ints wx w2.heap.size (.slice afv44v PT.length cfv44v) PT)
     case first =>
      have BD3 : Ext w2 w2 := Ext.refl _
      refine wp_region_held_drew (S := fun w' => w'.cell? ⟨w.heap.size, 0, none⟩ = some (.slice p0 cells.length c0) ∧ w'.cell? ⟨w.heap.size, 1, none⟩ = some (.slice (some ⟨bl20, ol21, none⟩) es.length c1) ∧ w'.cell? ⟨w.heap.size + 1, 0, none⟩ = some (.int .i64 F) ∧ w'.cell? ⟨w.heap.size + 1, 1, none⟩ = some (.int .i64 T) ∧ w'.cell? ⟨w.heap.size + 1, 2, none⟩ = some (.int .i64 B) ∧ w'.cell? ⟨w.heap.size + 1, 3, none⟩ = some (.bool hf) ∧ w'.cell? ⟨w.heap.size + 1, 4, none⟩ = some (.bool ht) ∧ w'.cell? ⟨w.heap.size + 1 + 1, 0, none⟩ = some (.slice none 0 0) ∧ w'.cell? ⟨w.heap.size + 1 + 1, 1, none⟩ = some (.slice none 0 0) ∧ w'.cell? ⟨bl20, ol21 + k * 5, none⟩ = some (.int .i64 P8) ∧ w'.cell? ⟨bl20, ol21 + k * 5 + 1, none⟩ = some (.int .i64 B9) ∧ w'.cell? ⟨bl20, ol21 + k * 5 + 2, none⟩ = some (.slice u14 S10.length c15) ∧ w'.cell? ⟨bl20, ol21 + k * 5 + 3, none⟩ = some (.slice u16 T11.length c17) ∧ w'.cell? ⟨bl20, ol21 + k * 5 + 4, none⟩ = some (.bool O12)) qKr ⟨b10, b11, b20, b21, b22, b23, b24, b30, b31, x70, x71, x72, x73, x74⟩ (fun hHeld => ?_)
      refine qHk (v := ?_) 0 rfl (.inl ⟨by rfl, ?_⟩) ?_
      rotate_left
      ·
       (intro w hSw; (try dsimp only at hSw); go_simp; try with_reducible rfl)
      try simp only [Act.put, qa, qb, qc, qD, qE, qF]
      refine qHk (v := ?_) 1 rfl (.inl ⟨by rfl, ?_⟩) ?_
      rotate_left
      ·
       (intro w hSw; (try dsimp only at hSw); go_simp; try with_reducible rfl)
      try simp only [Act.put, qa, qb, qc, qD, qE, qF]
      refine qHk (v := ?_) 2 rfl (.inl ⟨by rfl, ?_⟩) ?_
      rotate_left
      ·
       (intro w hSw; (try dsimp only at hSw); go_simp; try with_reducible rfl)
      try simp only [Act.put, qa, qb, qc, qD, qE, qF]
      refine qHk (v := ?_) 3 rfl (.inl ⟨by rfl, ?_⟩) ?_
      rotate_left
      ·
       (intro w hSw; (try dsimp only at hSw); go_simp; try with_reducible rfl)
      try simp only [Act.put, qa, qb, qc, qD, qE, qF]
      refine qHk (v := ?_) 4 rfl (.inl ⟨by rfl, ?_⟩) ?_
      rotate_left
      ·
       (intro w hSw; (try dsimp only at hSw); go_simp; try with_reducible rfl)
      try simp only [Act.put, qa, qb, qc, qD, qE, qF]
      refine qHk (v := ?_) 5 rfl (.inl ⟨by rfl, ?_⟩) ?_
      rotate_left
      ·
       (intro w hSw; (try dsimp only at hSw); go_simp; try with_reducible rfl)
      try simp only [Act.put, qa, qb, qc, qD, qE, qF]
      refine qHk (v := ?_) 6 rfl (.inl ⟨by rfl, ?_⟩) ?_
      rotate_left
      ·
       (intro w hSw; (try dsimp only at hSw); go_simp; try with_reducible rfl)
      try simp only [Act.put, qa, qb, qc, qD, qE, qF]
      refine qHk (v := ?_) 7 rfl (.inl ⟨by rfl, ?_⟩) ?_
      rotate_left
      ·
       (intro w hSw; (try dsimp only at hSw); go_simp; try with_reducible rfl)
      try simp only [Act.put, qa, qb, qc, qD, qE, qF]
      refine wpAnyH_ready (rs := [8, 12]) qKr (by simp) ?_
      refine AllReadyH.cons rfl (fun K hK => ?_) (AllReadyH.cons rfl (fun K hK => ?_) AllReadyH.nil)
      ·
       try simp only [Act.put, qa, qb, qc, qD, qE, qF]
       go_simp
       refine (pv_eq hP.out (specSliceDim_c B9 (.slice u14 S10.length c15) (.slice u16 T11.length c17) S10 T11 d F T B hf ht _ _ _ (i18.ext (Xw2.trans qXt)) (i19.ext (Xw2.trans qXt)))).mono ?_
       rintro e w3 ⟨fv44u, fv44v, rfl, i45u, i45v, -, -, -, xw3⟩
       have Lw3 : Ext w2 w3 := Ext.trans qXt xw3
       have Xw3 : Ext w w3 := Xw2.trans Lw3
       replace b10 := Lw3.cell b10
       replace b11 := Lw3.cell b11
       replace b20 := Lw3.cell b20
       replace b21 := Lw3.cell b21
       replace b22 := Lw3.cell b22
       replace b23 := Lw3.cell b23
       replace b24 := Lw3.cell b24
       replace b30 := Lw3.cell b30
       replace b31 := Lw3.cell b31
       replace f_b30 := Lw3.frz z_b3 f_b30
       replace f_b31 := Lw3.frz z_b3 f_b31
       replace x70 := Lw3.cell x70
       replace x71 := Lw3.cell x71
       replace x72 := Lw3.cell x72
       replace x73 := Lw3.cell x73
       replace x74 := Lw3.cell x74
       have z_b1 : w.heap.size < w3.heap.size := qB b10
       have z_b2 : w.heap.size + 1 < w3.heap.size := qB b20
       have z_b3 : w.heap.size + 1 + 1 < w3.heap.size := qB b30
       have z_x7 : bl20 < w3.heap.size := qB x70
       have s_w3 : w.heap.size ≤ w3.heap.size := Xw3.size
       have BD3_w3 : Ext w2 w3 := BD3.trans Lw3
       clear xw3
       try simp only [World.size_alloc, World.size_drew] at i45u
       try simp only [World.size_alloc, World.size_drew] at i45v
       obtain ⟨afv44u, cfv44u, rfl⟩ := i45u.form
       obtain ⟨afv44v, cfv44v, rfl⟩ := i45v.form
       have zD_w3 := (BD3_w3).size
       refine hK.out _ _ ⟨b10, b11, b20, b21, b22, b23, b24, b30, b31, x70, x71, x72, x73, x74⟩ (fun hHeld => ?_)
       clear hK K
       try simp only [Act.put, qa, qb, qc, qD, qE, qF]
       refine qHk (v := ?_) 9 rfl (.inl ⟨by rfl, ?_⟩) ?_
       rotate_left
       ·
        (intro w hSw; (try dsimp only at hSw); go_simp; try with_reducible rfl)
       try simp only [Act.put, qa, qb, qc, qD, qE, qF]
       refine qHk (v := ?_) 10 rfl (.inl ⟨by rfl, ?_⟩) ?_
       rotate_left
       ·
        (intro w hSw; (try dsimp only at hSw); go_simp; try with_reducible rfl)
       try simp only [Act.put, qa, qb, qc, qD, qE, qF]
       refine qHk (v := ?_) 11 rfl (.inl ⟨by rfl, ?_⟩) ?_
       rotate_left
       ·
        (intro w hSw; (try dsimp only at hSw); go_simp; try with_reducible rfl)
       try simp only [Act.put, qa, qb, qc, qD, qE, qF]
       refine qHr 12 rfl (fun K hK => ?_)
       try simp only [Act.put, qa, qb, qc, qD, qE, qF]
       go_simp
       have Q46_b10 := Lib.hid b10
       have Q46_b11 := Lib.hid b11
       have Q46_zb1 := z_b1
       have Q46_b20 := Lib.hid b20
       have Q46_b21 := Lib.hid b21
       have Q46_b22 := Lib.hid b22
       have Q46_b23 := Lib.hid b23
       have Q46_b24 := Lib.hid b24
       have Q46_zb2 := z_b2
       have Q46_b30 := Lib.hid b30
       have Q46_f_b30 := Lib.hid f_b30
       have Q46_b31 := Lib.hid b31
       have Q46_f_b31 := Lib.hid f_b31
       have Q46_zb3 := z_b3
       have Q46_x70 := Lib.hid x70
       have Q46_x71 := Lib.hid x71
       have Q46_x72 := Lib.hid x72
       have Q46_x73 := Lib.hid x73
       have Q46_x74 := Lib.hid x74
       have Q46_zx7 := z_x7
       have Q46_i45u := Lib.hid i45u
       have Q46_i45v := Lib.hid i45v
       have BL47 : Ext w3 w3 := Ext.refl _
       have Q48_b10 := Lib.hid b10
       have Q48_b11 := Lib.hid b11
       have Q48_zb1 := z_b1
       have Q48_b20 := Lib.hid b20
       have Q48_b21 := Lib.hid b21
       have Q48_b22 := Lib.hid b22
       have Q48_b23 := Lib.hid b23
       have Q48_b24 := Lib.hid b24
       have Q48_zb2 := z_b2
       have Q48_b30 := Lib.hid b30
       have Q48_f_b30 := Lib.hid f_b30
       have Q48_b31 := Lib.hid b31
       have Q48_f_b31 := Lib.hid f_b31
       have Q48_zb3 := z_b3
       have Q48_x70 := Lib.hid x70
       have Q48_x71 := Lib.hid x71
       have Q48_x72 := Lib.hid x72
       have Q48_x73 := Lib.hid x73
       have Q48_x74 := Lib.hid x74
       have Q48_zx7 := z_x7
       have Q48_i45u := Lib.hid i45u
       have Q48_i45v := Lib.hid i45v
       have BL49 : Ext w3 w3 := Ext.refl _
       refine hK.out _ _ ⟨(show Ext w3 _ from qXt).cell b10, (show Ext w3 _ from qXt).cell b11, (show Ext w3 _ from qXt).cell b20, (show Ext w3 _ from qXt).cell b21, (show Ext w3 _ from qXt).cell b22, (show Ext w3 _ from qXt).cell b23, (show Ext w3 _ from qXt).cell b24, (show Ext w3 _ from qXt).cell b30, (show Ext w3 _ from qXt).cell b31, (show Ext w3 _ from qXt).cell x70, (show Ext w3 _ from qXt).cell x71, (show Ext w3 _ from qXt).cell x72, (show Ext w3 _ from qXt).cell x73, (show Ext w3 _ from qXt).cell x74⟩ (fun hHeld => ?_)
       clear hK K
       try simp only [Act.put, qa, qb, qc, qD, qE, qF]
       refine qHr 13 rfl (fun K hK => ?_)
       try simp only [Act.put, qa, qb, qc, qD, qE, qF]
       go_simp
       have zn_BD3_w4 := (BD3_w3).size
       have zn_BL47_w4 := (BL47).size
       have zn_BL49_w4 := (BL49).size
       generalize hW7 : w3.alloc (.cells #[.int .i64 PB, .slice afv44u PS.length cfv44u, .slice afv44v PT.length cfv44v] 30) = w4 at *
       have Lw4 : Ext w3 w4 := by subst hW7; exact qXt
       have Xw4 : Ext w w4 := Xw3.trans Lw4
       replace b10 := Lw4.cell b10
       replace b11 := Lw4.cell b11
       replace b20 := Lw4.cell b20
       replace b21 := Lw4.cell b21
       replace b22 := Lw4.cell b22
       replace b23 := Lw4.cell b23
       replace b24 := Lw4.cell b24
       replace b30 := Lw4.cell b30
       replace b31 := Lw4.cell b31
       replace f_b30 := Lw4.frz z_b3 f_b30
       replace f_b31 := Lw4.frz z_b3 f_b31
       replace x70 := Lw4.cell x70
       replace x71 := Lw4.cell x71
       replace x72 := Lw4.cell x72
       replace x73 := Lw4.cell x73
       replace x74 := Lw4.cell x74
       have b500 : w4.cell? ⟨w3.heap.size, 0, none⟩ = some (.int .i64 PB) := by subst hW7; exact qCl
       have b501 : w4.cell? ⟨w3.heap.size, 1, none⟩ = some (.slice afv44u PS.length cfv44u) := by subst hW7; exact qCl
       have b502 : w4.cell? ⟨w3.heap.size, 2, none⟩ = some (.slice afv44v PT.length cfv44v) := by subst hW7; exact qCl
       have f_b500 : w4.frozen? ⟨w3.heap.size, 0, none⟩ = false := by subst hW7; exact qFz
       have f_b501 : w4.frozen? ⟨w3.heap.size, 1, none⟩ = false := by subst hW7; exact qFz
       have f_b502 : w4.frozen? ⟨w3.heap.size, 2, none⟩ = false := by subst hW7; exact qFz
       have z_b1 : w.heap.size < w4.heap.size := qB b10
       have z_b2 : w.heap.size + 1 < w4.heap.size := qB b20
       have z_b3 : w.heap.size + 1 + 1 < w4.heap.size := qB b30
       have z_x7 : bl20 < w4.heap.size := qB x70
       have z_b50 : w3.heap.size < w4.heap.size := qB b500
       replace i45u := i45u.ext Lw4
       replace i45v := i45v.ext Lw4
       have s_w4 : w.heap.size ≤ w4.heap.size := Xw4.size
       have BD3_w4 : Ext w2 w4 := BD3_w3.trans Lw4
       have BL47_w4 : Ext w3 w4 := BL47.trans Lw4
       have BL49_w4 : Ext w3 w4 := BL49.trans Lw4
       clear hW7
       refine hK.out _ _ ⟨b10, b11, b20, b21, b22, b23, b24, b30, b31, x70, x71, x72, x73, x74⟩ (fun hHeld => ?_)
       clear hK K
       try simp only [Act.put, qa, qb, qc, qD, qE, qF]
       refine qHk (v := ?_) 14 rfl (.inl ⟨by rfl, ?_⟩) ?_
       rotate_left
       ·
        (intro w hSw; (try dsimp only at hSw); go_simp; try with_reducible rfl)
       try simp only [Act.put, qa, qb, qc, qD, qE, qF]
       refine wpAnyH_done qKr ?_ _
       clear hHeld
       go_step
       go_step
       go_meet
       case rel => exact ⟨_, _, _, _, _, rfl, rfl, BD3_w4, (by omega), b500, b501, b502, f_b500, f_b501, f_b502, i45u.lower (by omega), i45v.lower (by omega)⟩
      ·
       try simp only [Act.put, qa, qb, qc, qD, qE, qF]
       go_simp
       have Q51_b10 := Lib.hid b10
       have Q51_b11 := Lib.hid b11
       have Q51_zb1 := z_b1
       have Q51_b20 := Lib.hid b20
       have Q51_b21 := Lib.hid b21
       have Q51_b22 := Lib.hid b22
       have Q51_b23 := Lib.hid b23
       have Q51_b24 := Lib.hid b24
       have Q51_zb2 := z_b2
       have Q51_b30 := Lib.hid b30
       have Q51_f_b30 := Lib.hid f_b30
       have Q51_b31 := Lib.hid b31
       have Q51_f_b31 := Lib.hid f_b31
       have Q51_zb3 := z_b3
       have Q51_x70 := Lib.hid x70
       have Q51_x71 := Lib.hid x71
       have Q51_x72 := Lib.hid x72
       have Q51_x73 := Lib.hid x73
       have Q51_x74 := Lib.hid x74
       have Q51_zx7 := z_x7
       have BL52 : Ext w2 w2 := Ext.refl _
       refine hK.out _ _ ⟨(show Ext w2 _ from qXt).cell b10, (show Ext w2 _ from qXt).cell b11, (show Ext w2 _ from qXt).cell b20, (show Ext w2 _ from qXt).cell b21, (show Ext w2 _ from qXt).cell b22, (show Ext w2 _ from qXt).cell b23, (show Ext w2 _ from qXt).cell b24, (show Ext w2 _ from qXt).cell b30, (show Ext w2 _ from qXt).cell b31, (show Ext w2 _ from qXt).cell x70, (show Ext w2 _ from qXt).cell x71, (show Ext w2 _ from qXt).cell x72, (show Ext w2 _ from qXt).cell x73, (show Ext w2 _ from qXt).cell x74⟩ (fun hHeld => ?_)
       clear hK K
       try simp only [Act.put, qa, qb, qc, qD, qE, qF]
       refine qHr 8 rfl (fun K hK => ?_)
       try simp only [Act.put, qa, qb, qc, qD, qE, qF]
       go_simp
       refine (pv_eq hP.out (specSliceDim_c B9 (.slice u14 S10.length c15) (.slice u16 T11.length c17) S10 T11 d F T B hf ht _ _ _ (i18.ext (Xw2.trans qXt)) (i19.ext (Xw2.trans qXt)))).mono ?_
       rintro e w3 ⟨fv54u, fv54v, rfl, i55u, i55v, -, -, -, xw3⟩
       have Lw3 : Ext w2 w3 := Ext.trans qXt xw3
       have Xw3 : Ext w w3 := Xw2.trans Lw3
       replace b10 := Lw3.cell b10
       replace b11 := Lw3.cell b11
       replace b20 := Lw3.cell b20
       replace b21 := Lw3.cell b21
       replace b22 := Lw3.cell b22
       replace b23 := Lw3.cell b23
       replace b24 := Lw3.cell b24
       replace b30 := Lw3.cell b30
       replace b31 := Lw3.cell b31
       replace f_b30 := Lw3.frz z_b3 f_b30
       replace f_b31 := Lw3.frz z_b3 f_b31
       replace x70 := Lw3.cell x70
       replace x71 := Lw3.cell x71
       replace x72 := Lw3.cell x72
       replace x73 := Lw3.cell x73
       replace x74 := Lw3.cell x74
       have b530 : w3.cell? ⟨w2.heap.size, 0, none⟩ = some (.int .i64 0) := xw3.cell qCl
       have b531 : w3.cell? ⟨w2.heap.size, 1, none⟩ = some (.slice none 0 0) := xw3.cell qCl
       have b532 : w3.cell? ⟨w2.heap.size, 2, none⟩ = some (.slice none 0 0) := xw3.cell qCl
       have f_b530 : w3.frozen? ⟨w2.heap.size, 0, none⟩ = false := xw3.frz (by simp <;> omega) qFz
       have f_b531 : w3.frozen? ⟨w2.heap.size, 1, none⟩ = false := xw3.frz (by simp <;> omega) qFz
       have f_b532 : w3.frozen? ⟨w2.heap.size, 2, none⟩ = false := xw3.frz (by simp <;> omega) qFz
       have z_b1 : w.heap.size < w3.heap.size := qB b10
       have z_b2 : w.heap.size + 1 < w3.heap.size := qB b20
       have z_b3 : w.heap.size + 1 + 1 < w3.heap.size := qB b30
       have z_x7 : bl20 < w3.heap.size := qB x70
       have z_b53 : w2.heap.size < w3.heap.size := qB b530
       have s_w3 : w.heap.size ≤ w3.heap.size := Xw3.size
       have BD3_w3 : Ext w2 w3 := BD3.trans Lw3
       have BL52_w3 : Ext w2 w3 := BL52.trans Lw3
       clear xw3
       try simp only [World.size_alloc, World.size_drew] at i55u
       try simp only [World.size_alloc, World.size_drew] at i55v
       obtain ⟨afv54u, cfv54u, rfl⟩ := i55u.form
       obtain ⟨afv54v, cfv54v, rfl⟩ := i55v.form
       have zD_w3 := (BD3_w3).size
       refine hK.out _ _ ⟨b10, b11, b20, b21, b22, b23, b24, b30, b31, x70, x71, x72, x73, x74⟩ (fun hHeld => ?_)
       clear hK K
       try simp only [Act.put, qa, qb, qc, qD, qE, qF]
       refine qHk (v := ?_) 9 rfl (.inl ⟨by rfl, ?_⟩) ?_
       rotate_left
       ·
        (intro w hSw; (try dsimp only at hSw); go_simp; try with_reducible rfl)
       try simp only [Act.put, qa, qb, qc, qD, qE, qF]
       refine qHk (v := ?_) 10 rfl (.inl ⟨by rfl, ?_⟩) ?_
       rotate_left
       ·
        (intro w hSw; (try dsimp only at hSw); go_simp; try with_reducible rfl)
       try simp only [Act.put, qa, qb, qc, qD, qE, qF]
       refine qHk (v := ?_) 11 rfl (.inl ⟨by rfl, ?_⟩) ?_
       rotate_left
       ·
        (intro w hSw; (try dsimp only at hSw); go_simp; try with_reducible rfl)
       try simp only [Act.put, qa, qb, qc, qD, qE, qF]
       refine qHr 13 rfl (fun K hK => ?_)
       try simp only [Act.put, qa, qb, qc, qD, qE, qF]
       go_simp
       generalize hW8 : (((w3.setCell ⟨w2.heap.size, 0, none⟩ (.int .i64 PB)).setCell ⟨w2.heap.size, 1, none⟩ (.slice afv54u PS.length cfv54u)).setCell ⟨w2.heap.size, 2, none⟩ (.slice afv54v PT.length cfv54v)) = w4 at *
       have Kw4 : Chg (w2.heap.size) (w2.heap.size + 1) w3 w4 := by subst hW8; exact qCh
       have Xw4 : Ext w w4 := by subst hW8; exact qXt
       have BD3_w4 : Ext w2 w4 := by subst hW8; exact qXt
       have BL52_w4 : Ext w2 w4 := by subst hW8; exact qXt
       replace b10 := BL52_w4.cell Q51_b10.out
       replace b11 := BL52_w4.cell Q51_b11.out
       replace b20 := BL52_w4.cell Q51_b20.out
       replace b21 := BL52_w4.cell Q51_b21.out
       replace b22 := BL52_w4.cell Q51_b22.out
       replace b23 := BL52_w4.cell Q51_b23.out
       replace b24 := BL52_w4.cell Q51_b24.out
       replace b30 := BL52_w4.cell Q51_b30.out
       replace f_b30 := BL52_w4.frz Q51_zb3 Q51_f_b30.out
       replace b31 := BL52_w4.cell Q51_b31.out
       replace f_b31 := BL52_w4.frz Q51_zb3 Q51_f_b31.out
       replace x70 := BL52_w4.cell Q51_x70.out
       replace x71 := BL52_w4.cell Q51_x71.out
       replace x72 := BL52_w4.cell Q51_x72.out
       replace x73 := BL52_w4.cell Q51_x73.out
       replace x74 := BL52_w4.cell Q51_x74.out
       replace b530 : w4.cell? ⟨w2.heap.size, 0, none⟩ = some (.int .i64 PB) := by subst hW8; go_simp
       replace f_b530 : w4.frozen? ⟨w2.heap.size, 0, none⟩ = false := by subst hW8; first | (simp only [World.frozen?_setCell]; with_reducible assumption) | go_simp
       replace b531 : w4.cell? ⟨w2.heap.size, 1, none⟩ = some (.slice afv54u PS.length cfv54u) := by subst hW8; go_simp
       replace f_b531 : w4.frozen? ⟨w2.heap.size, 1, none⟩ = false := by subst hW8; first | (simp only [World.frozen?_setCell]; with_reducible assumption) | go_simp
       replace b532 : w4.cell? ⟨w2.heap.size, 2, none⟩ = some (.slice afv54v PT.length cfv54v) := by subst hW8; go_simp
       replace f_b532 : w4.frozen? ⟨w2.heap.size, 2, none⟩ = false := by subst hW8; first | (simp only [World.frozen?_setCell]; with_reducible assumption) | go_simp
       replace i55u := i55u.chg Kw4 (by omega)
       replace i55v := i55v.chg Kw4 (by omega)
       clear Kw4
       have z_b1 : w.heap.size < w4.heap.size := qB b10
       have z_b2 : w.heap.size + 1 < w4.heap.size := qB b20
       have z_b3 : w.heap.size + 1 + 1 < w4.heap.size := qB b30
       have z_x7 : bl20 < w4.heap.size := qB x70
       have z_b53 : w2.heap.size < w4.heap.size := qB b530
       have s_w4 : w.heap.size ≤ w4.heap.size := Xw4.size
       clear hW8
       refine hK.out _ _ ⟨b10, b11, b20, b21, b22, b23, b24, b30, b31, x70, x71, x72, x73, x74⟩ (fun hHeld => ?_)
       clear hK K
       try simp only [Act.put, qa, qb, qc, qD, qE, qF]
       refine qHk (v := ?_) 14 rfl (.inl ⟨by rfl, ?_⟩) ?_
       rotate_left
       ·
        (intro w hSw; (try dsimp only at hSw); go_simp; try with_reducible rfl)
       try simp only [Act.put, qa, qb, qc, qD, qE, qF]
       refine wpAnyH_done qKr ?_ _
       clear hHeld
       go_step
       go_step
       go_meet
       case rel => exact ⟨_, _, _, _, _, rfl, rfl, BD3_w4, (by omega), b530, b531, b532, f_b530, f_b531, f_b532, i55u.lower (by omega), i55v.lower (by omega)⟩
     case rest =>
      generalize wc = wc57 at hcut ⊢
      obtain ⟨g58, af62, cf63, af64, cf65, rfl, rfl, xx59, hg_b56, b560, b561, b562, f_b560, f_b561, f_b562, i60, i61⟩ := hcut
      have Lwc57 : Ext w2 wc57 := Ext.trans qXt xx59
      have Xwc57 : Ext w wc57 := Xw2.trans Lwc57
      replace b10 := Lwc57.cell b10
      replace b11 := Lwc57.cell b11
      replace b20 := Lwc57.cell b20
      replace b21 := Lwc57.cell b21
      replace b22 := Lwc57.cell b22
      replace b23 := Lwc57.cell b23
      replace b24 := Lwc57.cell b24
      replace b30 := Lwc57.cell b30
      replace b31 := Lwc57.cell b31
      replace f_b30 := Lwc57.frz z_b3 f_b30
      replace f_b31 := Lwc57.frz z_b3 f_b31
      replace x70 := Lwc57.cell x70
      replace x71 := Lwc57.cell x71
      replace x72 := Lwc57.cell x72
      replace x73 := Lwc57.cell x73
      replace x74 := Lwc57.cell x74
      have z_b1 : w.heap.size < wc57.heap.size := qB b10
      have z_b2 : w.heap.size + 1 < wc57.heap.size := qB b20
      have z_b3 : w.heap.size + 1 + 1 < wc57.heap.size := qB b30
      have z_x7 : bl20 < wc57.heap.size := qB x70
      have s_wc57 : w.heap.size ≤ wc57.heap.size := Xwc57.size
      clear xx59
      have z_b56 : g58 < wc57.heap.size := qB b560
      go_wp2_with fail
      have Q69_b10 := Lib.hid b10
      have Q69_b11 := Lib.hid b11
      have Q69_zb1 := z_b1
      have Q69_b20 := Lib.hid b20
      have Q69_b21 := Lib.hid b21
      have Q69_b22 := Lib.hid b22
      have Q69_b23 := Lib.hid b23
      have Q69_b24 := Lib.hid b24
      have Q69_zb2 := z_b2
      have Q69_b30 := Lib.hid b30
      have Q69_f_b30 := Lib.hid f_b30
      have Q69_b31 := Lib.hid b31
      have Q69_f_b31 := Lib.hid f_b31
      have Q69_zb3 := z_b3
      have Q69_x70 := Lib.hid x70
      have Q69_x71 := Lib.hid x71
      have Q69_x72 := Lib.hid x72
      have Q69_x73 := Lib.hid x73
      have Q69_x74 := Lib.hid x74
      have Q69_zx7 := z_x7
      have Q69_b560 := Lib.hid b560
      have Q69_f_b560 := Lib.hid f_b560
      have Q69_b561 := Lib.hid b561
      have Q69_f_b561 := Lib.hid f_b561
      have Q69_b562 := Lib.hid b562
      have Q69_f_b562 := Lib.hid f_b562
      have Q69_zb56 := z_b56
      have Q69_i60 := Lib.hid i60
      have Q69_i61 := Lib.hid i61
      have BL70 : Ext wc57 wc57 := Ext.refl _
      refine (added_c cells es (.slice p0 cells.length c0) (.slice (some ⟨bl20, ol21, none⟩) es.length c1) (k : Int) PB (.slice af62 PS.length cf63) (.slice af64 PT.length cf65) PS PT _ _ _ (h1.ext (Xwc57.trans qXt)) (h2.ext (Xwc57.trans qXt)) _ _ (i60.ext qXt) (i61.ext qXt) (by have h7 := hc6.out; omega)).mono ?_
      rintro e w3 ⟨cvfb67, evfb67, R68, rfl, bf66, xw3⟩
      have Lw3 : Ext wc57 w3 := Ext.trans qXt xw3
      have Xw3 : Ext w w3 := Xwc57.trans Lw3
      replace b10 := Lw3.cell b10
      replace b11 := Lw3.cell b11
      replace b20 := Lw3.cell b20
      replace b21 := Lw3.cell b21
      replace b22 := Lw3.cell b22
      replace b23 := Lw3.cell b23
      replace b24 := Lw3.cell b24
      replace b30 := Lw3.cell b30
      replace b31 := Lw3.cell b31
      replace f_b30 := Lw3.frz z_b3 f_b30
      replace f_b31 := Lw3.frz z_b3 f_b31
      replace x70 := Lw3.cell x70
      replace x71 := Lw3.cell x71
      replace x72 := Lw3.cell x72
      replace x73 := Lw3.cell x73
      replace x74 := Lw3.cell x74
      replace b560 := Lw3.cell b560
      replace b561 := Lw3.cell b561
      replace b562 := Lw3.cell b562
      replace f_b560 := Lw3.frz z_b56 f_b560
      replace f_b561 := Lw3.frz z_b56 f_b561
      replace f_b562 := Lw3.frz z_b56 f_b562
      have z_b1 : w.heap.size < w3.heap.size := qB b10
      have z_b2 : w.heap.size + 1 < w3.heap.size := qB b20
      have z_b3 : w.heap.size + 1 + 1 < w3.heap.size := qB b30
      have z_x7 : bl20 < w3.heap.size := qB x70
      have z_b56 : g58 < w3.heap.size := qB b560
      replace i60 := i60.ext Lw3
      replace i61 := i61.ext Lw3
      have s_w3 : w.heap.size ≤ w3.heap.size := Xw3.size
      have BL70_w3 : Ext wc57 w3 := BL70.trans Lw3
      clear xw3
      replace bf66 := bf66.lower (lo' := wc57.heap.size) qSo
      obtain ⟨afb67, cfb67, rfl⟩ := bf66.ints.form
      obtain ⟨efb67, dfb67, hEfb67⟩ := bf66.exps.form
      rw [List.length_append, List.length_singleton] at hEfb67
      subst hEfb67
      have q_bf66 := Lib.hid bf66.at
      go_wp2_with fail
      generalize hW9 : ((w3.setCell ⟨w.heap.size + 1 + 1, 0, none⟩ (.slice afb67 cells.length cfb67)).setCell ⟨w.heap.size + 1 + 1, 1, none⟩ (.slice efb67 (es.length + 1) dfb67)) = w4 at *
      have Kw4 : Chg (w.heap.size + 1 + 1) (w.heap.size + 1 + 1 + 1) w3 w4 := by subst hW9; exact qCh
      have Xw4 : Ext w w4 := by subst hW9; exact qXt
      replace b10 := Kw4.cell (by omega) b10
      replace b11 := Kw4.cell (by omega) b11
      replace b20 := Kw4.cell (by omega) b20
      replace b21 := Kw4.cell (by omega) b21
      replace b22 := Kw4.cell (by omega) b22
      replace b23 := Kw4.cell (by omega) b23
      replace b24 := Kw4.cell (by omega) b24
      replace b30 : w4.cell? ⟨w.heap.size + 1 + 1, 0, none⟩ = some (.slice afb67 cells.length cfb67) := by subst hW9; go_simp
      replace f_b30 : w4.frozen? ⟨w.heap.size + 1 + 1, 0, none⟩ = false := by subst hW9; first | (simp only [World.frozen?_setCell]; with_reducible assumption) | go_simp
      replace b31 : w4.cell? ⟨w.heap.size + 1 + 1, 1, none⟩ = some (.slice efb67 (es.length + 1) dfb67) := by subst hW9; go_simp
      replace f_b31 : w4.frozen? ⟨w.heap.size + 1 + 1, 1, none⟩ = false := by subst hW9; first | (simp only [World.frozen?_setCell]; with_reducible assumption) | go_simp
      replace x70 := Kw4.cell (by omega) x70
      replace x71 := Kw4.cell (by omega) x71
      replace x72 := Kw4.cell (by omega) x72
      replace x73 := Kw4.cell (by omega) x73
      replace x74 := Kw4.cell (by omega) x74
      replace b560 := Kw4.cell (by omega) b560
      replace f_b560 := Kw4.frzO (by omega) z_b56 f_b560
      replace b561 := Kw4.cell (by omega) b561
      replace f_b561 := Kw4.frzO (by omega) z_b56 f_b561
      replace b562 := Kw4.cell (by omega) b562
      replace f_b562 := Kw4.frzO (by omega) z_b56 f_b562
      replace i60 := i60.chg Kw4 (by omega)
      replace i61 := i61.chg Kw4 (by omega)
      replace bf66 := bf66.chg Kw4 (by omega)
      clear Kw4
      have z_b1 : w.heap.size < w4.heap.size := qB b10
      have z_b2 : w.heap.size + 1 < w4.heap.size := qB b20
      have z_b3 : w.heap.size + 1 + 1 < w4.heap.size := qB b30
      have z_x7 : bl20 < w4.heap.size := qB x70
      have z_b56 : g58 < w4.heap.size := qB b560
      have s_w4 : w.heap.size ≤ w4.heap.size := Xw4.size
      clear hW9
      refine bodyPost_ret (v := .tuple #[.agg #[.slice afb67 cells.length cfb67, .slice efb67 (es.length + 1) dfb67], .bool true]) (by simp only [results, Try.results87]; go_simp) rfl ?_
      have eqA : parA cells es (k : Int) d F T B hf ht = (cells, es ++ [⟨(k : Int), PB, PS, PT, true⟩], true) := by unfold parA; simp only [Int.toNat_natCast]; rw [hX13.out]; dsimp only; rw [hP.out, hbb.out, hop.out, decide_eq_true (show es.length < 8 from (by have h7 := hc6.out; omega))]; rfl
      exact PBX.yes eqA ((bf66.ext qXt).lower (by omega)) (Xw4.trans qXt)

end Go.Proofs.Ytgklaobfikbiiaa

/- Walks: acts of the reference. -/
namespace Go.Proofs.Ytgklaobfikbiiaa
open Go.RowKit
set_option linter.unusedVariables false
set_option maxRecDepth 100000

set_option maxHeartbeats 3200000 in
theorem done_0 (cells : List Int) (es : List Exp) (cv ev : Value) (ns : List Int) (nv : Value) (w : World) (l1 l2 : Nat) (h1 : Ints w l1 cv cells) (h2 : Exps w l2 ev es) (l3 : Nat) (h3 : Ints w l3 nv ns) (hl : 1 ≤ ns.length) :
  Calls Try.prog 81 #[.agg #[cv, ev], .agg #[.int .i64 0, nv]] w (PBX w (resA cells es (ns.getD 0 0))) := by
 obtain ⟨p0, c0, rfl⟩ := h1.form
 obtain ⟨p1, c1, rfl⟩ := h2.form
 have he1 := h2.len
 have hc1 := h1.len
 obtain ⟨pn, cn, rfl⟩ := h3.form
 have hl0 : 0 < ns.length := by omega
 go_enter Try.func81, Try.ntmps81
 go_wp2_with fail
 generalize hW1 : ((w.alloc (.cells #[.slice p0 cells.length c0, .slice p1 es.length c1] 26)).alloc (.cells #[.int .i64 0, .slice pn ns.length cn] 69)).alloc (.cells #[.slice none 0 0, .slice none 0 0] 26) = w1 at *
 have Lw1 : Ext w w1 := by subst hW1; exact qXt
 have Xw1 : Ext w w1 := by subst hW1; exact Lw1
 have b10 : w1.cell? ⟨w.heap.size, 0, none⟩ = some (.slice p0 cells.length c0) := by subst hW1; exact qCl
 have b11 : w1.cell? ⟨w.heap.size, 1, none⟩ = some (.slice p1 es.length c1) := by subst hW1; exact qCl
 have b20 : w1.cell? ⟨w.heap.size + 1, 0, none⟩ = some (.int .i64 0) := by subst hW1; exact qCl
 have b21 : w1.cell? ⟨w.heap.size + 1, 1, none⟩ = some (.slice pn ns.length cn) := by subst hW1; exact qCl
 have b30 : w1.cell? ⟨w.heap.size + 1 + 1, 0, none⟩ = some (.slice none 0 0) := by subst hW1; exact qCl
 have b31 : w1.cell? ⟨w.heap.size + 1 + 1, 1, none⟩ = some (.slice none 0 0) := by subst hW1; exact qCl
 have f_b30 : w1.frozen? ⟨w.heap.size + 1 + 1, 0, none⟩ = false := by subst hW1; exact qFz
 have f_b31 : w1.frozen? ⟨w.heap.size + 1 + 1, 1, none⟩ = false := by subst hW1; exact qFz
 have z_b1 : w.heap.size < w1.heap.size := qB b10
 have z_b2 : w.heap.size + 1 < w1.heap.size := qB b20
 have z_b3 : w.heap.size + 1 + 1 < w1.heap.size := qB b30
 have s_w1 : w.heap.size ≤ w1.heap.size := Xw1.size
 clear hW1
 have hI_e6 : (0 : Int) < (ns.length : Int) := by have hB7 : 0 < ns.length := (by omega); omega
 obtain ⟨bl4, ol5, rfl, e60⟩ := h3.at 0 (by omega)
 rw [Nat.add_zero] at e60
 have y_e6 : bl4 < w.heap.size := qB e60
 replace e60 := Xw1.cell e60
 obtain ⟨v7, hv7⟩ : ∃ v, ns.getD 0 0 = v := ⟨_, rfl⟩
 rw [hv7] at e60
 replace hv7 := Lib.hid hv7
 have z_e6 : bl4 < w1.heap.size := qB e60
 refine wp_region_tail (S := fun w' => w'.cell? ⟨w.heap.size, 0, none⟩ = some (.slice p0 cells.length c0) ∧ w'.cell? ⟨w.heap.size, 1, none⟩ = some (.slice p1 es.length c1) ∧ w'.cell? ⟨bl4, ol5, none⟩ = some (.int .i64 v7)) (fun i => decide (7 ≤ i)) qKr ⟨b10, b11, e60⟩ (fun hHeld => ?_)
 refine qTk (v := ?_) 0 rfl (.inl ⟨by rfl, ?_⟩) ?_
 rotate_left
 ·
  (intro w hSw; (try dsimp only at hSw); go_simp; try with_reducible rfl)
 try simp only [Act.put, qa, qb, qc, qD, qE, qF]
 refine qTk (v := ?_) 1 rfl (.inl ⟨by rfl, ?_⟩) ?_
 rotate_left
 ·
  (intro w hSw; (try dsimp only at hSw); go_simp; try with_reducible rfl)
 try simp only [Act.put, qa, qb, qc, qD, qE, qF]
 refine qTk (v := ?_) 2 rfl (.inl ⟨by rfl, ?_⟩) ?_
 rotate_left
 ·
  (intro w hSw; (try dsimp only at hSw); go_simp; try with_reducible rfl)
 try simp only [Act.put, qa, qb, qc, qD, qE, qF]
 refine qTk (v := ?_) 3 rfl (.inl ⟨by rfl, ?_⟩) ?_
 rotate_left
 ·
  (intro w hSw; (try dsimp only at hSw); go_simp; try with_reducible rfl)
 try simp only [Act.put, qa, qb, qc, qD, qE, qF]
 refine wpTail_one (i := 4) qKr rfl rfl (fun K hK => ?_)
 try simp only [Act.put, qa, qb, qc, qD, qE, qF]
 go_simp
 refine (specResizeBuffer_c cells es (.slice p0 cells.length c0) (.slice p1 es.length c1) v7 _ _ _ (h1.ext (Xw1.trans qXt)) (h2.ext (Xw1.trans qXt))).mono ?_
 rintro e w2 ⟨cvfb12, evfb12, R13, rfl, bf11, xw2⟩
 have Lw2 : Ext w1 w2 := Ext.trans qXt xw2
 have Xw2 : Ext w w2 := Xw1.trans Lw2
 replace b10 := Lw2.cell b10
 replace b11 := Lw2.cell b11
 replace b20 := Lw2.cell b20
 replace b21 := Lw2.cell b21
 replace b30 := Lw2.cell b30
 replace b31 := Lw2.cell b31
 replace f_b30 := Lw2.frz z_b3 f_b30
 replace f_b31 := Lw2.frz z_b3 f_b31
 replace e60 := Lw2.cell e60
 have z_b1 : w.heap.size < w2.heap.size := qB b10
 have z_b2 : w.heap.size + 1 < w2.heap.size := qB b20
 have z_b3 : w.heap.size + 1 + 1 < w2.heap.size := qB b30
 have z_e6 : bl4 < w2.heap.size := qB e60
 have s_w2 : w.heap.size ≤ w2.heap.size := Xw2.size
 clear xw2
 replace bf11 := bf11.lower (lo' := w1.heap.size) qSo
 obtain ⟨afb12, cfb12, rfl⟩ := bf11.ints.form
 obtain ⟨efb12, dfb12, rfl⟩ := bf11.exps.form
 have q_bf11 := Lib.hid bf11.at
 refine hK.out _ _ ⟨b10, b11, e60⟩ (fun hHeld => ?_)
 clear hK K
 try simp only [Act.put, qa, qb, qc, qD, qE, qF]
 refine qTk (v := ?_) 5 rfl (.inl ⟨by rfl, ?_⟩) ?_
 rotate_left
 ·
  (intro w hSw; (try dsimp only at hSw); go_simp; try with_reducible rfl)
 try simp only [Act.put, qa, qb, qc, qD, qE, qF]
 refine qTk (v := ?_) 6 rfl (.inl ⟨by rfl, ?_⟩) ?_
 rotate_left
 ·
  (intro w hSw; (try dsimp only at hSw); go_simp; try with_reducible rfl)
 try simp only [Act.put, qa, qb, qc, qD, qE, qF]
 refine wpTail_last (i := 7) qKr rfl rfl (fun K hK => ?_)
 try simp only [Act.put, qa, qb, qc, qD, qE, qF]
 go_simp
 refine hK.out _ _ ?_
 clear hK K
 try simp only [Act.put, qa, qb, qc, qD, qE, qF]
 refine wpTail_last (i := 8) qKr rfl rfl (fun K hK => ?_)
 try simp only [Act.put, qa, qb, qc, qD, qE, qF]
 go_simp
 refine hK.out _ _ ?_
 clear hK K
 try simp only [Act.put, qa, qb, qc, qD, qE, qF]
 refine wpTail_done qKr ?_ _
 clear hHeld 
 generalize hW2 : ((w2.setCell ⟨w.heap.size + 1 + 1, 0, none⟩ (.slice afb12 (((resA cells es v7).1).length) cfb12)).setCell ⟨w.heap.size + 1 + 1, 1, none⟩ (.slice efb12 (((resA cells es v7).2.1).length) dfb12)) = w3 at *
 have Kw3 : Chg (w.heap.size + 1 + 1) (w.heap.size + 1 + 1 + 1) w2 w3 := by subst hW2; exact qCh
 have Xw3 : Ext w w3 := by subst hW2; exact qXt
 replace b10 := Kw3.cell (by omega) b10
 replace b11 := Kw3.cell (by omega) b11
 replace b20 := Kw3.cell (by omega) b20
 replace b21 := Kw3.cell (by omega) b21
 replace b30 : w3.cell? ⟨w.heap.size + 1 + 1, 0, none⟩ = some (.slice afb12 (((resA cells es v7).1).length) cfb12) := by subst hW2; go_simp
 replace f_b30 : w3.frozen? ⟨w.heap.size + 1 + 1, 0, none⟩ = false := by subst hW2; first | (simp only [World.frozen?_setCell]; with_reducible assumption) | go_simp
 replace b31 : w3.cell? ⟨w.heap.size + 1 + 1, 1, none⟩ = some (.slice efb12 (((resA cells es v7).2.1).length) dfb12) := by subst hW2; go_simp
 replace f_b31 : w3.frozen? ⟨w.heap.size + 1 + 1, 1, none⟩ = false := by subst hW2; first | (simp only [World.frozen?_setCell]; with_reducible assumption) | go_simp
 replace e60 := Kw3.cell (by omega) e60
 replace bf11 := bf11.chg Kw3 (by omega)
 clear Kw3
 have z_b1 : w.heap.size < w3.heap.size := qB b10
 have z_b2 : w.heap.size + 1 < w3.heap.size := qB b20
 have z_b3 : w.heap.size + 1 + 1 < w3.heap.size := qB b30
 have z_e6 : bl4 < w3.heap.size := qB e60
 have s_w3 : w.heap.size ≤ w3.heap.size := Xw3.size
 clear hW2
 go_wp2_with fail
 refine bodyPost_ret (v := .tuple #[.agg #[.slice afb12 (((resA cells es v7).1).length) cfb12, .slice efb12 (((resA cells es v7).2.1).length) dfb12], .bool ((resA cells es v7).2.2)]) (by simp only [results, Try.results81]; go_simp) rfl ?_
 rw [hv7.out]
 exact ⟨_, _, _, rfl, (bf11.ext qXt).lower (by omega), (Xw3.trans qXt)⟩

set_option maxHeartbeats 3200000 in
theorem done_2 (cells : List Int) (es : List Exp) (cv ev : Value) (ns : List Int) (nv : Value) (w : World) (l1 l2 : Nat) (h1 : Ints w l1 cv cells) (h2 : Exps w l2 ev es) (l3 : Nat) (h3 : Ints w l3 nv ns) (hl : 4 ≤ ns.length) :
  Calls Try.prog 81 #[.agg #[cv, ev], .agg #[.int .i64 2, nv]] w (PBX w (parA cells es (ns.getD 0 0) 0 (ns.getD 1 0) (ns.getD 2 0) (ns.getD 3 0) true true)) := by
 obtain ⟨p0, c0, rfl⟩ := h1.form
 obtain ⟨p1, c1, rfl⟩ := h2.form
 have he1 := h2.len
 have hc1 := h1.len
 obtain ⟨pn, cn, rfl⟩ := h3.form
 have hl0 : 0 < ns.length := by omega
 have hl1 : 1 < ns.length := by omega
 have hl2 : 2 < ns.length := by omega
 have hl3 : 3 < ns.length := by omega
 go_enter Try.func81, Try.ntmps81
 go_wp2_with fail
 generalize hW3 : ((w.alloc (.cells #[.slice p0 cells.length c0, .slice p1 es.length c1] 26)).alloc (.cells #[.int .i64 2, .slice pn ns.length cn] 69)).alloc (.cells #[.slice none 0 0, .slice none 0 0] 26) = w1 at *
 have Lw1 : Ext w w1 := by subst hW3; exact qXt
 have Xw1 : Ext w w1 := by subst hW3; exact Lw1
 have b10 : w1.cell? ⟨w.heap.size, 0, none⟩ = some (.slice p0 cells.length c0) := by subst hW3; exact qCl
 have b11 : w1.cell? ⟨w.heap.size, 1, none⟩ = some (.slice p1 es.length c1) := by subst hW3; exact qCl
 have b20 : w1.cell? ⟨w.heap.size + 1, 0, none⟩ = some (.int .i64 2) := by subst hW3; exact qCl
 have b21 : w1.cell? ⟨w.heap.size + 1, 1, none⟩ = some (.slice pn ns.length cn) := by subst hW3; exact qCl
 have b30 : w1.cell? ⟨w.heap.size + 1 + 1, 0, none⟩ = some (.slice none 0 0) := by subst hW3; exact qCl
 have b31 : w1.cell? ⟨w.heap.size + 1 + 1, 1, none⟩ = some (.slice none 0 0) := by subst hW3; exact qCl
 have f_b30 : w1.frozen? ⟨w.heap.size + 1 + 1, 0, none⟩ = false := by subst hW3; exact qFz
 have f_b31 : w1.frozen? ⟨w.heap.size + 1 + 1, 1, none⟩ = false := by subst hW3; exact qFz
 have z_b1 : w.heap.size < w1.heap.size := qB b10
 have z_b2 : w.heap.size + 1 < w1.heap.size := qB b20
 have z_b3 : w.heap.size + 1 + 1 < w1.heap.size := qB b30
 have s_w1 : w.heap.size ≤ w1.heap.size := Xw1.size
 clear hW3
 have hI_e6 : (0 : Int) < (ns.length : Int) := by have hB7 : 0 < ns.length := (by omega); omega
 obtain ⟨bl4, ol5, rfl, e60⟩ := h3.at 0 (by omega)
 rw [Nat.add_zero] at e60
 have y_e6 : bl4 < w.heap.size := qB e60
 replace e60 := Xw1.cell e60
 obtain ⟨v7, hv7⟩ : ∃ v, ns.getD 0 0 = v := ⟨_, rfl⟩
 rw [hv7] at e60
 replace hv7 := Lib.hid hv7
 have z_e6 : bl4 < w1.heap.size := qB e60
 have hI_e10 : (1 : Int) < (ns.length : Int) := by have hB7 : 1 < ns.length := (by omega); omega
 obtain ⟨b_e10, o_e10, h_e10, e100⟩ := h3.at 1 (by omega)
 cases h_e10
 have y_e10 : bl4 < w.heap.size := qB e100
 replace e100 := Xw1.cell e100
 obtain ⟨v11, hv11⟩ : ∃ v, ns.getD 1 0 = v := ⟨_, rfl⟩
 rw [hv11] at e100
 replace hv11 := Lib.hid hv11
 have z_e10 : bl4 < w1.heap.size := qB e100
 have hI_e14 : (2 : Int) < (ns.length : Int) := by have hB7 : 2 < ns.length := (by omega); omega
 obtain ⟨b_e14, o_e14, h_e14, e140⟩ := h3.at 2 (by omega)
 cases h_e14
 have y_e14 : bl4 < w.heap.size := qB e140
 replace e140 := Xw1.cell e140
 obtain ⟨v15, hv15⟩ : ∃ v, ns.getD 2 0 = v := ⟨_, rfl⟩
 rw [hv15] at e140
 replace hv15 := Lib.hid hv15
 have z_e14 : bl4 < w1.heap.size := qB e140
 have hI_e18 : (3 : Int) < (ns.length : Int) := by have hB7 : 3 < ns.length := (by omega); omega
 obtain ⟨b_e18, o_e18, h_e18, e180⟩ := h3.at 3 (by omega)
 cases h_e18
 have y_e18 : bl4 < w.heap.size := qB e180
 replace e180 := Xw1.cell e180
 obtain ⟨v19, hv19⟩ : ∃ v, ns.getD 3 0 = v := ⟨_, rfl⟩
 rw [hv19] at e180
 replace hv19 := Lib.hid hv19
 have z_e18 : bl4 < w1.heap.size := qB e180
 refine wp_region_tail (S := fun w' => w'.cell? ⟨w.heap.size, 0, none⟩ = some (.slice p0 cells.length c0) ∧ w'.cell? ⟨w.heap.size, 1, none⟩ = some (.slice p1 es.length c1) ∧ w'.cell? ⟨bl4, ol5, none⟩ = some (.int .i64 v7) ∧ w'.cell? ⟨bl4, ol5 + 1, none⟩ = some (.int .i64 v11) ∧ w'.cell? ⟨bl4, ol5 + 2, none⟩ = some (.int .i64 v15) ∧ w'.cell? ⟨bl4, ol5 + 3, none⟩ = some (.int .i64 v19)) (fun i => decide (17 ≤ i)) qKr ⟨b10, b11, e60, e100, e140, e180⟩ (fun hHeld => ?_)
 refine qTk (v := ?_) 0 rfl (.inl ⟨by rfl, ?_⟩) ?_
 rotate_left
 ·
  (intro w hSw; (try dsimp only at hSw); go_simp; try with_reducible rfl)
 try simp only [Act.put, qa, qb, qc, qD, qE, qF]
 refine qTk (v := ?_) 1 rfl (.inl ⟨by rfl, ?_⟩) ?_
 rotate_left
 ·
  (intro w hSw; (try dsimp only at hSw); go_simp; try with_reducible rfl)
 try simp only [Act.put, qa, qb, qc, qD, qE, qF]
 refine qTk (v := ?_) 2 rfl (.inl ⟨by rfl, ?_⟩) ?_
 rotate_left
 ·
  (intro w hSw; (try dsimp only at hSw); go_simp; try with_reducible rfl)
 try simp only [Act.put, qa, qb, qc, qD, qE, qF]
 refine qTk (v := ?_) 3 rfl (.inl ⟨by rfl, ?_⟩) ?_
 rotate_left
 ·
  (intro w hSw; (try dsimp only at hSw); go_simp; try with_reducible rfl)
 try simp only [Act.put, qa, qb, qc, qD, qE, qF]
 refine qTk (v := ?_) 4 rfl (.inl ⟨by rfl, ?_⟩) ?_
 rotate_left
 ·
  (intro w hSw; (try dsimp only at hSw); go_simp; try with_reducible rfl)
 try simp only [Act.put, qa, qb, qc, qD, qE, qF]
 refine qTk (v := ?_) 5 rfl (.inl ⟨by rfl, ?_⟩) ?_
 rotate_left
 ·
  (intro w hSw; (try dsimp only at hSw); go_simp; try with_reducible rfl)
 try simp only [Act.put, qa, qb, qc, qD, qE, qF]
 refine qTk (v := ?_) 6 rfl (.inl ⟨by rfl, ?_⟩) ?_
 rotate_left
 ·
  (intro w hSw; (try dsimp only at hSw); go_simp; try with_reducible rfl)
 try simp only [Act.put, qa, qb, qc, qD, qE, qF]
 refine qTk (v := ?_) 7 rfl (.inl ⟨by rfl, ?_⟩) ?_
 rotate_left
 ·
  (intro w hSw; (try dsimp only at hSw); go_simp; try with_reducible rfl)
 try simp only [Act.put, qa, qb, qc, qD, qE, qF]
 refine qTk (v := ?_) 8 rfl (.inl ⟨by rfl, ?_⟩) ?_
 rotate_left
 ·
  (intro w hSw; (try dsimp only at hSw); go_simp; try with_reducible rfl)
 try simp only [Act.put, qa, qb, qc, qD, qE, qF]
 refine qTk (v := ?_) 9 rfl (.inl ⟨by rfl, ?_⟩) ?_
 rotate_left
 ·
  (intro w hSw; (try dsimp only at hSw); go_simp; try with_reducible rfl)
 try simp only [Act.put, qa, qb, qc, qD, qE, qF]
 refine qTk (v := ?_) 10 rfl (.inl ⟨by rfl, ?_⟩) ?_
 rotate_left
 ·
  (intro w hSw; (try dsimp only at hSw); go_simp; try with_reducible rfl)
 try simp only [Act.put, qa, qb, qc, qD, qE, qF]
 refine qTk (v := ?_) 11 rfl (.inl ⟨by rfl, ?_⟩) ?_
 rotate_left
 ·
  (intro w hSw; (try dsimp only at hSw); go_simp; try with_reducible rfl)
 try simp only [Act.put, qa, qb, qc, qD, qE, qF]
 refine qTk (v := ?_) 12 rfl (.inl ⟨by rfl, ?_⟩) ?_
 rotate_left
 ·
  (intro w hSw; (try dsimp only at hSw); go_simp; try with_reducible rfl)
 try simp only [Act.put, qa, qb, qc, qD, qE, qF]
 refine qTk (v := ?_) 13 rfl (.inl ⟨by rfl, ?_⟩) ?_
 rotate_left
 ·
  (intro w hSw; (try dsimp only at hSw); go_simp; try with_reducible rfl)
 try simp only [Act.put, qa, qb, qc, qD, qE, qF]
 refine wpTail_one (i := 14) qKr rfl rfl (fun K hK => ?_)
 try simp only [Act.put, qa, qb, qc, qD, qE, qF]
 go_simp
 refine (specExportPart_c cells es (.slice p0 cells.length c0) (.slice p1 es.length c1) v7 0 v11 v15 v19 true true _ _ _ (h1.ext (Xw1.trans qXt)) (h2.ext (Xw1.trans qXt))).mono ?_
 rintro e w2 ⟨cvfb33, evfb33, R34, rfl, bf32, xw2⟩
 have Lw2 : Ext w1 w2 := Ext.trans qXt xw2
 have Xw2 : Ext w w2 := Xw1.trans Lw2
 replace b10 := Lw2.cell b10
 replace b11 := Lw2.cell b11
 replace b20 := Lw2.cell b20
 replace b21 := Lw2.cell b21
 replace b30 := Lw2.cell b30
 replace b31 := Lw2.cell b31
 replace f_b30 := Lw2.frz z_b3 f_b30
 replace f_b31 := Lw2.frz z_b3 f_b31
 replace e60 := Lw2.cell e60
 replace e100 := Lw2.cell e100
 replace e140 := Lw2.cell e140
 replace e180 := Lw2.cell e180
 have z_b1 : w.heap.size < w2.heap.size := qB b10
 have z_b2 : w.heap.size + 1 < w2.heap.size := qB b20
 have z_b3 : w.heap.size + 1 + 1 < w2.heap.size := qB b30
 have z_e6 : bl4 < w2.heap.size := qB e60
 have z_e10 : bl4 < w2.heap.size := qB e100
 have z_e14 : bl4 < w2.heap.size := qB e140
 have z_e18 : bl4 < w2.heap.size := qB e180
 have s_w2 : w.heap.size ≤ w2.heap.size := Xw2.size
 clear xw2
 replace bf32 := bf32.lower (lo' := w1.heap.size) qSo
 obtain ⟨afb33, cfb33, rfl⟩ := bf32.ints.form
 obtain ⟨efb33, dfb33, rfl⟩ := bf32.exps.form
 have q_bf32 := Lib.hid bf32.at
 refine hK.out _ _ ⟨b10, b11, e60, e100, e140, e180⟩ (fun hHeld => ?_)
 clear hK K
 try simp only [Act.put, qa, qb, qc, qD, qE, qF]
 refine qTk (v := ?_) 15 rfl (.inl ⟨by rfl, ?_⟩) ?_
 rotate_left
 ·
  (intro w hSw; (try dsimp only at hSw); go_simp; try with_reducible rfl)
 try simp only [Act.put, qa, qb, qc, qD, qE, qF]
 refine qTk (v := ?_) 16 rfl (.inl ⟨by rfl, ?_⟩) ?_
 rotate_left
 ·
  (intro w hSw; (try dsimp only at hSw); go_simp; try with_reducible rfl)
 try simp only [Act.put, qa, qb, qc, qD, qE, qF]
 refine wpTail_last (i := 17) qKr rfl rfl (fun K hK => ?_)
 try simp only [Act.put, qa, qb, qc, qD, qE, qF]
 go_simp
 refine hK.out _ _ ?_
 clear hK K
 try simp only [Act.put, qa, qb, qc, qD, qE, qF]
 refine wpTail_last (i := 18) qKr rfl rfl (fun K hK => ?_)
 try simp only [Act.put, qa, qb, qc, qD, qE, qF]
 go_simp
 refine hK.out _ _ ?_
 clear hK K
 try simp only [Act.put, qa, qb, qc, qD, qE, qF]
 refine wpTail_done qKr ?_ _
 clear hHeld 
 generalize hW4 : ((w2.setCell ⟨w.heap.size + 1 + 1, 0, none⟩ (.slice afb33 (((parA cells es v7 0 v11 v15 v19 true true).1).length) cfb33)).setCell ⟨w.heap.size + 1 + 1, 1, none⟩ (.slice efb33 (((parA cells es v7 0 v11 v15 v19 true true).2.1).length) dfb33)) = w3 at *
 have Kw3 : Chg (w.heap.size + 1 + 1) (w.heap.size + 1 + 1 + 1) w2 w3 := by subst hW4; exact qCh
 have Xw3 : Ext w w3 := by subst hW4; exact qXt
 replace b10 := Kw3.cell (by omega) b10
 replace b11 := Kw3.cell (by omega) b11
 replace b20 := Kw3.cell (by omega) b20
 replace b21 := Kw3.cell (by omega) b21
 replace b30 : w3.cell? ⟨w.heap.size + 1 + 1, 0, none⟩ = some (.slice afb33 (((parA cells es v7 0 v11 v15 v19 true true).1).length) cfb33) := by subst hW4; go_simp
 replace f_b30 : w3.frozen? ⟨w.heap.size + 1 + 1, 0, none⟩ = false := by subst hW4; first | (simp only [World.frozen?_setCell]; with_reducible assumption) | go_simp
 replace b31 : w3.cell? ⟨w.heap.size + 1 + 1, 1, none⟩ = some (.slice efb33 (((parA cells es v7 0 v11 v15 v19 true true).2.1).length) dfb33) := by subst hW4; go_simp
 replace f_b31 : w3.frozen? ⟨w.heap.size + 1 + 1, 1, none⟩ = false := by subst hW4; first | (simp only [World.frozen?_setCell]; with_reducible assumption) | go_simp
 replace e60 := Kw3.cell (by omega) e60
 replace e100 := Kw3.cell (by omega) e100
 replace e140 := Kw3.cell (by omega) e140
 replace e180 := Kw3.cell (by omega) e180
 replace bf32 := bf32.chg Kw3 (by omega)
 clear Kw3
 have z_b1 : w.heap.size < w3.heap.size := qB b10
 have z_b2 : w.heap.size + 1 < w3.heap.size := qB b20
 have z_b3 : w.heap.size + 1 + 1 < w3.heap.size := qB b30
 have z_e6 : bl4 < w3.heap.size := qB e60
 have z_e10 : bl4 < w3.heap.size := qB e100
 have z_e14 : bl4 < w3.heap.size := qB e140
 have z_e18 : bl4 < w3.heap.size := qB e180
 have s_w3 : w.heap.size ≤ w3.heap.size := Xw3.size
 clear hW4
 go_wp2_with fail
 refine bodyPost_ret (v := .tuple #[.agg #[.slice afb33 (((parA cells es v7 0 v11 v15 v19 true true).1).length) cfb33, .slice efb33 (((parA cells es v7 0 v11 v15 v19 true true).2.1).length) dfb33], .bool ((parA cells es v7 0 v11 v15 v19 true true).2.2)]) (by simp only [results, Try.results81]; go_simp) rfl ?_
 rw [hv7.out, hv11.out, hv15.out, hv19.out]
 exact ⟨_, _, _, rfl, (bf32.ext qXt).lower (by omega), (Xw3.trans qXt)⟩

set_option maxHeartbeats 3200000 in
theorem done_3 (cells : List Int) (es : List Exp) (cv ev : Value) (ns : List Int) (nv : Value) (w : World) (l1 l2 : Nat) (h1 : Ints w l1 cv cells) (h2 : Exps w l2 ev es) (l3 : Nat) (h3 : Ints w l3 nv ns) (hl : 1 ≤ ns.length) :
  Calls Try.prog 81 #[.agg #[cv, ev], .agg #[.int .i64 3, nv]] w (PBX w (parA cells es (ns.getD 0 0) 0 0 0 (-1) false false)) := by
 obtain ⟨p0, c0, rfl⟩ := h1.form
 obtain ⟨p1, c1, rfl⟩ := h2.form
 have he1 := h2.len
 have hc1 := h1.len
 obtain ⟨pn, cn, rfl⟩ := h3.form
 have hl0 : 0 < ns.length := by omega
 go_enter Try.func81, Try.ntmps81
 go_wp2_with fail
 generalize hW5 : ((w.alloc (.cells #[.slice p0 cells.length c0, .slice p1 es.length c1] 26)).alloc (.cells #[.int .i64 3, .slice pn ns.length cn] 69)).alloc (.cells #[.slice none 0 0, .slice none 0 0] 26) = w1 at *
 have Lw1 : Ext w w1 := by subst hW5; exact qXt
 have Xw1 : Ext w w1 := by subst hW5; exact Lw1
 have b10 : w1.cell? ⟨w.heap.size, 0, none⟩ = some (.slice p0 cells.length c0) := by subst hW5; exact qCl
 have b11 : w1.cell? ⟨w.heap.size, 1, none⟩ = some (.slice p1 es.length c1) := by subst hW5; exact qCl
 have b20 : w1.cell? ⟨w.heap.size + 1, 0, none⟩ = some (.int .i64 3) := by subst hW5; exact qCl
 have b21 : w1.cell? ⟨w.heap.size + 1, 1, none⟩ = some (.slice pn ns.length cn) := by subst hW5; exact qCl
 have b30 : w1.cell? ⟨w.heap.size + 1 + 1, 0, none⟩ = some (.slice none 0 0) := by subst hW5; exact qCl
 have b31 : w1.cell? ⟨w.heap.size + 1 + 1, 1, none⟩ = some (.slice none 0 0) := by subst hW5; exact qCl
 have f_b30 : w1.frozen? ⟨w.heap.size + 1 + 1, 0, none⟩ = false := by subst hW5; exact qFz
 have f_b31 : w1.frozen? ⟨w.heap.size + 1 + 1, 1, none⟩ = false := by subst hW5; exact qFz
 have z_b1 : w.heap.size < w1.heap.size := qB b10
 have z_b2 : w.heap.size + 1 < w1.heap.size := qB b20
 have z_b3 : w.heap.size + 1 + 1 < w1.heap.size := qB b30
 have s_w1 : w.heap.size ≤ w1.heap.size := Xw1.size
 clear hW5
 have hI_e6 : (0 : Int) < (ns.length : Int) := by have hB7 : 0 < ns.length := (by omega); omega
 obtain ⟨bl4, ol5, rfl, e60⟩ := h3.at 0 (by omega)
 rw [Nat.add_zero] at e60
 have y_e6 : bl4 < w.heap.size := qB e60
 replace e60 := Xw1.cell e60
 obtain ⟨v7, hv7⟩ : ∃ v, ns.getD 0 0 = v := ⟨_, rfl⟩
 rw [hv7] at e60
 replace hv7 := Lib.hid hv7
 have z_e6 : bl4 < w1.heap.size := qB e60
 refine wp_region_tail (S := fun w' => w'.cell? ⟨w.heap.size, 0, none⟩ = some (.slice p0 cells.length c0) ∧ w'.cell? ⟨w.heap.size, 1, none⟩ = some (.slice p1 es.length c1) ∧ w'.cell? ⟨bl4, ol5, none⟩ = some (.int .i64 v7)) (fun i => decide (8 ≤ i)) qKr ⟨b10, b11, e60⟩ (fun hHeld => ?_)
 refine qTk (v := ?_) 0 rfl (.inl ⟨by rfl, ?_⟩) ?_
 rotate_left
 ·
  (intro w hSw; (try dsimp only at hSw); go_simp; try with_reducible rfl)
 try simp only [Act.put, qa, qb, qc, qD, qE, qF]
 refine qTk (v := ?_) 1 rfl (.inl ⟨by rfl, ?_⟩) ?_
 rotate_left
 ·
  (intro w hSw; (try dsimp only at hSw); go_simp; try with_reducible rfl)
 try simp only [Act.put, qa, qb, qc, qD, qE, qF]
 refine qTk (v := ?_) 2 rfl (.inl ⟨by rfl, ?_⟩) ?_
 rotate_left
 ·
  (intro w hSw; (try dsimp only at hSw); go_simp; try with_reducible rfl)
 try simp only [Act.put, qa, qb, qc, qD, qE, qF]
 refine qTk (v := ?_) 3 rfl (.inl ⟨by rfl, ?_⟩) ?_
 rotate_left
 ·
  (intro w hSw; (try dsimp only at hSw); go_simp; try with_reducible rfl)
 try simp only [Act.put, qa, qb, qc, qD, qE, qF]
 refine qTk (v := ?_) 4 rfl (.inl ⟨by rfl, ?_⟩) ?_
 rotate_left
 ·
  (intro w hSw; (try dsimp only at hSw); go_simp; try with_reducible rfl)
 try simp only [Act.put, qa, qb, qc, qD, qE, qF]
 refine wpTail_one (i := 5) qKr rfl rfl (fun K hK => ?_)
 try simp only [Act.put, qa, qb, qc, qD, qE, qF]
 go_simp
 refine (specExportPart_c cells es (.slice p0 cells.length c0) (.slice p1 es.length c1) v7 0 0 0 (-1) false false _ _ _ (h1.ext (Xw1.trans qXt)) (h2.ext (Xw1.trans qXt))).mono ?_
 rintro e w2 ⟨cvfb12, evfb12, R13, rfl, bf11, xw2⟩
 have Lw2 : Ext w1 w2 := Ext.trans qXt xw2
 have Xw2 : Ext w w2 := Xw1.trans Lw2
 replace b10 := Lw2.cell b10
 replace b11 := Lw2.cell b11
 replace b20 := Lw2.cell b20
 replace b21 := Lw2.cell b21
 replace b30 := Lw2.cell b30
 replace b31 := Lw2.cell b31
 replace f_b30 := Lw2.frz z_b3 f_b30
 replace f_b31 := Lw2.frz z_b3 f_b31
 replace e60 := Lw2.cell e60
 have z_b1 : w.heap.size < w2.heap.size := qB b10
 have z_b2 : w.heap.size + 1 < w2.heap.size := qB b20
 have z_b3 : w.heap.size + 1 + 1 < w2.heap.size := qB b30
 have z_e6 : bl4 < w2.heap.size := qB e60
 have s_w2 : w.heap.size ≤ w2.heap.size := Xw2.size
 clear xw2
 replace bf11 := bf11.lower (lo' := w1.heap.size) qSo
 obtain ⟨afb12, cfb12, rfl⟩ := bf11.ints.form
 obtain ⟨efb12, dfb12, rfl⟩ := bf11.exps.form
 have q_bf11 := Lib.hid bf11.at
 refine hK.out _ _ ⟨b10, b11, e60⟩ (fun hHeld => ?_)
 clear hK K
 try simp only [Act.put, qa, qb, qc, qD, qE, qF]
 refine qTk (v := ?_) 6 rfl (.inl ⟨by rfl, ?_⟩) ?_
 rotate_left
 ·
  (intro w hSw; (try dsimp only at hSw); go_simp; try with_reducible rfl)
 try simp only [Act.put, qa, qb, qc, qD, qE, qF]
 refine qTk (v := ?_) 7 rfl (.inl ⟨by rfl, ?_⟩) ?_
 rotate_left
 ·
  (intro w hSw; (try dsimp only at hSw); go_simp; try with_reducible rfl)
 try simp only [Act.put, qa, qb, qc, qD, qE, qF]
 refine wpTail_last (i := 8) qKr rfl rfl (fun K hK => ?_)
 try simp only [Act.put, qa, qb, qc, qD, qE, qF]
 go_simp
 refine hK.out _ _ ?_
 clear hK K
 try simp only [Act.put, qa, qb, qc, qD, qE, qF]
 refine wpTail_last (i := 9) qKr rfl rfl (fun K hK => ?_)
 try simp only [Act.put, qa, qb, qc, qD, qE, qF]
 go_simp
 refine hK.out _ _ ?_
 clear hK K
 try simp only [Act.put, qa, qb, qc, qD, qE, qF]
 refine wpTail_done qKr ?_ _
 clear hHeld 
 generalize hW6 : ((w2.setCell ⟨w.heap.size + 1 + 1, 0, none⟩ (.slice afb12 (((parA cells es v7 0 0 0 (-1) false false).1).length) cfb12)).setCell ⟨w.heap.size + 1 + 1, 1, none⟩ (.slice efb12 (((parA cells es v7 0 0 0 (-1) false false).2.1).length) dfb12)) = w3 at *
 have Kw3 : Chg (w.heap.size + 1 + 1) (w.heap.size + 1 + 1 + 1) w2 w3 := by subst hW6; exact qCh
 have Xw3 : Ext w w3 := by subst hW6; exact qXt
 replace b10 := Kw3.cell (by omega) b10
 replace b11 := Kw3.cell (by omega) b11
 replace b20 := Kw3.cell (by omega) b20
 replace b21 := Kw3.cell (by omega) b21
 replace b30 : w3.cell? ⟨w.heap.size + 1 + 1, 0, none⟩ = some (.slice afb12 (((parA cells es v7 0 0 0 (-1) false false).1).length) cfb12) := by subst hW6; go_simp
 replace f_b30 : w3.frozen? ⟨w.heap.size + 1 + 1, 0, none⟩ = false := by subst hW6; first | (simp only [World.frozen?_setCell]; with_reducible assumption) | go_simp
 replace b31 : w3.cell? ⟨w.heap.size + 1 + 1, 1, none⟩ = some (.slice efb12 (((parA cells es v7 0 0 0 (-1) false false).2.1).length) dfb12) := by subst hW6; go_simp
 replace f_b31 : w3.frozen? ⟨w.heap.size + 1 + 1, 1, none⟩ = false := by subst hW6; first | (simp only [World.frozen?_setCell]; with_reducible assumption) | go_simp
 replace e60 := Kw3.cell (by omega) e60
 replace bf11 := bf11.chg Kw3 (by omega)
 clear Kw3
 have z_b1 : w.heap.size < w3.heap.size := qB b10
 have z_b2 : w.heap.size + 1 < w3.heap.size := qB b20
 have z_b3 : w.heap.size + 1 + 1 < w3.heap.size := qB b30
 have z_e6 : bl4 < w3.heap.size := qB e60
 have s_w3 : w.heap.size ≤ w3.heap.size := Xw3.size
 clear hW6
 go_wp2_with fail
 refine bodyPost_ret (v := .tuple #[.agg #[.slice afb12 (((parA cells es v7 0 0 0 (-1) false false).1).length) cfb12, .slice efb12 (((parA cells es v7 0 0 0 (-1) false false).2.1).length) dfb12], .bool ((parA cells es v7 0 0 0 (-1) false false).2.2)]) (by simp only [results, Try.results81]; go_simp) rfl ?_
 rw [hv7.out]
 exact ⟨_, _, _, rfl, (bf11.ext qXt).lower (by omega), (Xw3.trans qXt)⟩

set_option maxHeartbeats 3200000 in
theorem done_4 (cells : List Int) (es : List Exp) (cv ev : Value) (ns : List Int) (nv : Value) (w : World) (l1 l2 : Nat) (h1 : Ints w l1 cv cells) (h2 : Exps w l2 ev es) (l3 : Nat) (h3 : Ints w l3 nv ns) (hl : 2 ≤ ns.length) :
  Calls Try.prog 81 #[.agg #[cv, ev], .agg #[.int .i64 4, nv]] w (PBX w (filA cells es (ns.getD 0 0) (ns.getD 1 0))) := by
 obtain ⟨p0, c0, rfl⟩ := h1.form
 obtain ⟨p1, c1, rfl⟩ := h2.form
 have he1 := h2.len
 have hc1 := h1.len
 obtain ⟨pn, cn, rfl⟩ := h3.form
 have hl0 : 0 < ns.length := by omega
 have hl1 : 1 < ns.length := by omega
 go_enter Try.func81, Try.ntmps81
 go_wp2_with fail
 generalize hW7 : ((w.alloc (.cells #[.slice p0 cells.length c0, .slice p1 es.length c1] 26)).alloc (.cells #[.int .i64 4, .slice pn ns.length cn] 69)).alloc (.cells #[.slice none 0 0, .slice none 0 0] 26) = w1 at *
 have Lw1 : Ext w w1 := by subst hW7; exact qXt
 have Xw1 : Ext w w1 := by subst hW7; exact Lw1
 have b10 : w1.cell? ⟨w.heap.size, 0, none⟩ = some (.slice p0 cells.length c0) := by subst hW7; exact qCl
 have b11 : w1.cell? ⟨w.heap.size, 1, none⟩ = some (.slice p1 es.length c1) := by subst hW7; exact qCl
 have b20 : w1.cell? ⟨w.heap.size + 1, 0, none⟩ = some (.int .i64 4) := by subst hW7; exact qCl
 have b21 : w1.cell? ⟨w.heap.size + 1, 1, none⟩ = some (.slice pn ns.length cn) := by subst hW7; exact qCl
 have b30 : w1.cell? ⟨w.heap.size + 1 + 1, 0, none⟩ = some (.slice none 0 0) := by subst hW7; exact qCl
 have b31 : w1.cell? ⟨w.heap.size + 1 + 1, 1, none⟩ = some (.slice none 0 0) := by subst hW7; exact qCl
 have f_b30 : w1.frozen? ⟨w.heap.size + 1 + 1, 0, none⟩ = false := by subst hW7; exact qFz
 have f_b31 : w1.frozen? ⟨w.heap.size + 1 + 1, 1, none⟩ = false := by subst hW7; exact qFz
 have z_b1 : w.heap.size < w1.heap.size := qB b10
 have z_b2 : w.heap.size + 1 < w1.heap.size := qB b20
 have z_b3 : w.heap.size + 1 + 1 < w1.heap.size := qB b30
 have s_w1 : w.heap.size ≤ w1.heap.size := Xw1.size
 clear hW7
 have hI_e6 : (0 : Int) < (ns.length : Int) := by have hB7 : 0 < ns.length := (by omega); omega
 obtain ⟨bl4, ol5, rfl, e60⟩ := h3.at 0 (by omega)
 rw [Nat.add_zero] at e60
 have y_e6 : bl4 < w.heap.size := qB e60
 replace e60 := Xw1.cell e60
 obtain ⟨v7, hv7⟩ : ∃ v, ns.getD 0 0 = v := ⟨_, rfl⟩
 rw [hv7] at e60
 replace hv7 := Lib.hid hv7
 have z_e6 : bl4 < w1.heap.size := qB e60
 have hI_e10 : (1 : Int) < (ns.length : Int) := by have hB7 : 1 < ns.length := (by omega); omega
 obtain ⟨b_e10, o_e10, h_e10, e100⟩ := h3.at 1 (by omega)
 cases h_e10
 have y_e10 : bl4 < w.heap.size := qB e100
 replace e100 := Xw1.cell e100
 obtain ⟨v11, hv11⟩ : ∃ v, ns.getD 1 0 = v := ⟨_, rfl⟩
 rw [hv11] at e100
 replace hv11 := Lib.hid hv11
 have z_e10 : bl4 < w1.heap.size := qB e100
 refine wp_region_tail (S := fun w' => w'.cell? ⟨w.heap.size, 0, none⟩ = some (.slice p0 cells.length c0) ∧ w'.cell? ⟨w.heap.size, 1, none⟩ = some (.slice p1 es.length c1) ∧ w'.cell? ⟨bl4, ol5, none⟩ = some (.int .i64 v7) ∧ w'.cell? ⟨bl4, ol5 + 1, none⟩ = some (.int .i64 v11)) (fun i => decide (10 ≤ i)) qKr ⟨b10, b11, e60, e100⟩ (fun hHeld => ?_)
 refine qTk (v := ?_) 0 rfl (.inl ⟨by rfl, ?_⟩) ?_
 rotate_left
 ·
  (intro w hSw; (try dsimp only at hSw); go_simp; try with_reducible rfl)
 try simp only [Act.put, qa, qb, qc, qD, qE, qF]
 refine qTk (v := ?_) 1 rfl (.inl ⟨by rfl, ?_⟩) ?_
 rotate_left
 ·
  (intro w hSw; (try dsimp only at hSw); go_simp; try with_reducible rfl)
 try simp only [Act.put, qa, qb, qc, qD, qE, qF]
 refine qTk (v := ?_) 2 rfl (.inl ⟨by rfl, ?_⟩) ?_
 rotate_left
 ·
  (intro w hSw; (try dsimp only at hSw); go_simp; try with_reducible rfl)
 try simp only [Act.put, qa, qb, qc, qD, qE, qF]
 refine qTk (v := ?_) 3 rfl (.inl ⟨by rfl, ?_⟩) ?_
 rotate_left
 ·
  (intro w hSw; (try dsimp only at hSw); go_simp; try with_reducible rfl)
 try simp only [Act.put, qa, qb, qc, qD, qE, qF]
 refine qTk (v := ?_) 4 rfl (.inl ⟨by rfl, ?_⟩) ?_
 rotate_left
 ·
  (intro w hSw; (try dsimp only at hSw); go_simp; try with_reducible rfl)
 try simp only [Act.put, qa, qb, qc, qD, qE, qF]
 refine qTk (v := ?_) 5 rfl (.inl ⟨by rfl, ?_⟩) ?_
 rotate_left
 ·
  (intro w hSw; (try dsimp only at hSw); go_simp; try with_reducible rfl)
 try simp only [Act.put, qa, qb, qc, qD, qE, qF]
 refine qTk (v := ?_) 6 rfl (.inl ⟨by rfl, ?_⟩) ?_
 rotate_left
 ·
  (intro w hSw; (try dsimp only at hSw); go_simp; try with_reducible rfl)
 try simp only [Act.put, qa, qb, qc, qD, qE, qF]
 refine wpTail_one (i := 7) qKr rfl rfl (fun K hK => ?_)
 try simp only [Act.put, qa, qb, qc, qD, qE, qF]
 go_simp
 refine (specFillExport_c cells es (.slice p0 cells.length c0) (.slice p1 es.length c1) v7 v11 _ _ _ (h1.ext (Xw1.trans qXt)) (h2.ext (Xw1.trans qXt))).mono ?_
 rintro e w2 ⟨cvfb19, evfb19, R20, rfl, bf18, xw2⟩
 have Lw2 : Ext w1 w2 := Ext.trans qXt xw2
 have Xw2 : Ext w w2 := Xw1.trans Lw2
 replace b10 := Lw2.cell b10
 replace b11 := Lw2.cell b11
 replace b20 := Lw2.cell b20
 replace b21 := Lw2.cell b21
 replace b30 := Lw2.cell b30
 replace b31 := Lw2.cell b31
 replace f_b30 := Lw2.frz z_b3 f_b30
 replace f_b31 := Lw2.frz z_b3 f_b31
 replace e60 := Lw2.cell e60
 replace e100 := Lw2.cell e100
 have z_b1 : w.heap.size < w2.heap.size := qB b10
 have z_b2 : w.heap.size + 1 < w2.heap.size := qB b20
 have z_b3 : w.heap.size + 1 + 1 < w2.heap.size := qB b30
 have z_e6 : bl4 < w2.heap.size := qB e60
 have z_e10 : bl4 < w2.heap.size := qB e100
 have s_w2 : w.heap.size ≤ w2.heap.size := Xw2.size
 clear xw2
 replace bf18 := bf18.lower (lo' := w1.heap.size) qSo
 obtain ⟨afb19, cfb19, rfl⟩ := bf18.ints.form
 obtain ⟨efb19, dfb19, rfl⟩ := bf18.exps.form
 have q_bf18 := Lib.hid bf18.at
 refine hK.out _ _ ⟨b10, b11, e60, e100⟩ (fun hHeld => ?_)
 clear hK K
 try simp only [Act.put, qa, qb, qc, qD, qE, qF]
 refine qTk (v := ?_) 8 rfl (.inl ⟨by rfl, ?_⟩) ?_
 rotate_left
 ·
  (intro w hSw; (try dsimp only at hSw); go_simp; try with_reducible rfl)
 try simp only [Act.put, qa, qb, qc, qD, qE, qF]
 refine qTk (v := ?_) 9 rfl (.inl ⟨by rfl, ?_⟩) ?_
 rotate_left
 ·
  (intro w hSw; (try dsimp only at hSw); go_simp; try with_reducible rfl)
 try simp only [Act.put, qa, qb, qc, qD, qE, qF]
 refine wpTail_last (i := 10) qKr rfl rfl (fun K hK => ?_)
 try simp only [Act.put, qa, qb, qc, qD, qE, qF]
 go_simp
 refine hK.out _ _ ?_
 clear hK K
 try simp only [Act.put, qa, qb, qc, qD, qE, qF]
 refine wpTail_last (i := 11) qKr rfl rfl (fun K hK => ?_)
 try simp only [Act.put, qa, qb, qc, qD, qE, qF]
 go_simp
 refine hK.out _ _ ?_
 clear hK K
 try simp only [Act.put, qa, qb, qc, qD, qE, qF]
 refine wpTail_done qKr ?_ _
 clear hHeld 
 generalize hW8 : ((w2.setCell ⟨w.heap.size + 1 + 1, 0, none⟩ (.slice afb19 (((filA cells es v7 v11).1).length) cfb19)).setCell ⟨w.heap.size + 1 + 1, 1, none⟩ (.slice efb19 (((filA cells es v7 v11).2.1).length) dfb19)) = w3 at *
 have Kw3 : Chg (w.heap.size + 1 + 1) (w.heap.size + 1 + 1 + 1) w2 w3 := by subst hW8; exact qCh
 have Xw3 : Ext w w3 := by subst hW8; exact qXt
 replace b10 := Kw3.cell (by omega) b10
 replace b11 := Kw3.cell (by omega) b11
 replace b20 := Kw3.cell (by omega) b20
 replace b21 := Kw3.cell (by omega) b21
 replace b30 : w3.cell? ⟨w.heap.size + 1 + 1, 0, none⟩ = some (.slice afb19 (((filA cells es v7 v11).1).length) cfb19) := by subst hW8; go_simp
 replace f_b30 : w3.frozen? ⟨w.heap.size + 1 + 1, 0, none⟩ = false := by subst hW8; first | (simp only [World.frozen?_setCell]; with_reducible assumption) | go_simp
 replace b31 : w3.cell? ⟨w.heap.size + 1 + 1, 1, none⟩ = some (.slice efb19 (((filA cells es v7 v11).2.1).length) dfb19) := by subst hW8; go_simp
 replace f_b31 : w3.frozen? ⟨w.heap.size + 1 + 1, 1, none⟩ = false := by subst hW8; first | (simp only [World.frozen?_setCell]; with_reducible assumption) | go_simp
 replace e60 := Kw3.cell (by omega) e60
 replace e100 := Kw3.cell (by omega) e100
 replace bf18 := bf18.chg Kw3 (by omega)
 clear Kw3
 have z_b1 : w.heap.size < w3.heap.size := qB b10
 have z_b2 : w.heap.size + 1 < w3.heap.size := qB b20
 have z_b3 : w.heap.size + 1 + 1 < w3.heap.size := qB b30
 have z_e6 : bl4 < w3.heap.size := qB e60
 have z_e10 : bl4 < w3.heap.size := qB e100
 have s_w3 : w.heap.size ≤ w3.heap.size := Xw3.size
 clear hW8
 go_wp2_with fail
 refine bodyPost_ret (v := .tuple #[.agg #[.slice afb19 (((filA cells es v7 v11).1).length) cfb19, .slice efb19 (((filA cells es v7 v11).2.1).length) dfb19], .bool ((filA cells es v7 v11).2.2)]) (by simp only [results, Try.results81]; go_simp) rfl ?_
 rw [hv7.out, hv11.out]
 exact ⟨_, _, _, rfl, (bf18.ext qXt).lower (by omega), (Xw3.trans qXt)⟩

set_option maxHeartbeats 3200000 in
theorem done_5 (cells : List Int) (es : List Exp) (cv ev : Value) (ns : List Int) (nv : Value) (w : World) (l1 l2 : Nat) (h1 : Ints w l1 cv cells) (h2 : Exps w l2 ev es) (l3 : Nat) (h3 : Ints w l3 nv ns) (hl : 2 ≤ ns.length) :
  Calls Try.prog 81 #[.agg #[cv, ev], .agg #[.int .i64 5, nv]] w (PBX w (cpyA cells es (ns.getD 0 0) (ns.getD 1 0))) := by
 obtain ⟨p0, c0, rfl⟩ := h1.form
 obtain ⟨p1, c1, rfl⟩ := h2.form
 have he1 := h2.len
 have hc1 := h1.len
 obtain ⟨pn, cn, rfl⟩ := h3.form
 have hl0 : 0 < ns.length := by omega
 have hl1 : 1 < ns.length := by omega
 go_enter Try.func81, Try.ntmps81
 go_wp2_with fail
 generalize hW9 : ((w.alloc (.cells #[.slice p0 cells.length c0, .slice p1 es.length c1] 26)).alloc (.cells #[.int .i64 5, .slice pn ns.length cn] 69)).alloc (.cells #[.slice none 0 0, .slice none 0 0] 26) = w1 at *
 have Lw1 : Ext w w1 := by subst hW9; exact qXt
 have Xw1 : Ext w w1 := by subst hW9; exact Lw1
 have b10 : w1.cell? ⟨w.heap.size, 0, none⟩ = some (.slice p0 cells.length c0) := by subst hW9; exact qCl
 have b11 : w1.cell? ⟨w.heap.size, 1, none⟩ = some (.slice p1 es.length c1) := by subst hW9; exact qCl
 have b20 : w1.cell? ⟨w.heap.size + 1, 0, none⟩ = some (.int .i64 5) := by subst hW9; exact qCl
 have b21 : w1.cell? ⟨w.heap.size + 1, 1, none⟩ = some (.slice pn ns.length cn) := by subst hW9; exact qCl
 have b30 : w1.cell? ⟨w.heap.size + 1 + 1, 0, none⟩ = some (.slice none 0 0) := by subst hW9; exact qCl
 have b31 : w1.cell? ⟨w.heap.size + 1 + 1, 1, none⟩ = some (.slice none 0 0) := by subst hW9; exact qCl
 have f_b30 : w1.frozen? ⟨w.heap.size + 1 + 1, 0, none⟩ = false := by subst hW9; exact qFz
 have f_b31 : w1.frozen? ⟨w.heap.size + 1 + 1, 1, none⟩ = false := by subst hW9; exact qFz
 have z_b1 : w.heap.size < w1.heap.size := qB b10
 have z_b2 : w.heap.size + 1 < w1.heap.size := qB b20
 have z_b3 : w.heap.size + 1 + 1 < w1.heap.size := qB b30
 have s_w1 : w.heap.size ≤ w1.heap.size := Xw1.size
 clear hW9
 have hI_e6 : (0 : Int) < (ns.length : Int) := by have hB7 : 0 < ns.length := (by omega); omega
 obtain ⟨bl4, ol5, rfl, e60⟩ := h3.at 0 (by omega)
 rw [Nat.add_zero] at e60
 have y_e6 : bl4 < w.heap.size := qB e60
 replace e60 := Xw1.cell e60
 obtain ⟨v7, hv7⟩ : ∃ v, ns.getD 0 0 = v := ⟨_, rfl⟩
 rw [hv7] at e60
 replace hv7 := Lib.hid hv7
 have z_e6 : bl4 < w1.heap.size := qB e60
 have hI_e10 : (1 : Int) < (ns.length : Int) := by have hB7 : 1 < ns.length := (by omega); omega
 obtain ⟨b_e10, o_e10, h_e10, e100⟩ := h3.at 1 (by omega)
 cases h_e10
 have y_e10 : bl4 < w.heap.size := qB e100
 replace e100 := Xw1.cell e100
 obtain ⟨v11, hv11⟩ : ∃ v, ns.getD 1 0 = v := ⟨_, rfl⟩
 rw [hv11] at e100
 replace hv11 := Lib.hid hv11
 have z_e10 : bl4 < w1.heap.size := qB e100
 refine wp_region_tail (S := fun w' => w'.cell? ⟨w.heap.size, 0, none⟩ = some (.slice p0 cells.length c0) ∧ w'.cell? ⟨w.heap.size, 1, none⟩ = some (.slice p1 es.length c1) ∧ w'.cell? ⟨bl4, ol5, none⟩ = some (.int .i64 v7) ∧ w'.cell? ⟨bl4, ol5 + 1, none⟩ = some (.int .i64 v11)) (fun i => decide (10 ≤ i)) qKr ⟨b10, b11, e60, e100⟩ (fun hHeld => ?_)
 refine qTk (v := ?_) 0 rfl (.inl ⟨by rfl, ?_⟩) ?_
 rotate_left
 ·
  (intro w hSw; (try dsimp only at hSw); go_simp; try with_reducible rfl)
 try simp only [Act.put, qa, qb, qc, qD, qE, qF]
 refine qTk (v := ?_) 1 rfl (.inl ⟨by rfl, ?_⟩) ?_
 rotate_left
 ·
  (intro w hSw; (try dsimp only at hSw); go_simp; try with_reducible rfl)
 try simp only [Act.put, qa, qb, qc, qD, qE, qF]
 refine qTk (v := ?_) 2 rfl (.inl ⟨by rfl, ?_⟩) ?_
 rotate_left
 ·
  (intro w hSw; (try dsimp only at hSw); go_simp; try with_reducible rfl)
 try simp only [Act.put, qa, qb, qc, qD, qE, qF]
 refine qTk (v := ?_) 3 rfl (.inl ⟨by rfl, ?_⟩) ?_
 rotate_left
 ·
  (intro w hSw; (try dsimp only at hSw); go_simp; try with_reducible rfl)
 try simp only [Act.put, qa, qb, qc, qD, qE, qF]
 refine qTk (v := ?_) 4 rfl (.inl ⟨by rfl, ?_⟩) ?_
 rotate_left
 ·
  (intro w hSw; (try dsimp only at hSw); go_simp; try with_reducible rfl)
 try simp only [Act.put, qa, qb, qc, qD, qE, qF]
 refine qTk (v := ?_) 5 rfl (.inl ⟨by rfl, ?_⟩) ?_
 rotate_left
 ·
  (intro w hSw; (try dsimp only at hSw); go_simp; try with_reducible rfl)
 try simp only [Act.put, qa, qb, qc, qD, qE, qF]
 refine qTk (v := ?_) 6 rfl (.inl ⟨by rfl, ?_⟩) ?_
 rotate_left
 ·
  (intro w hSw; (try dsimp only at hSw); go_simp; try with_reducible rfl)
 try simp only [Act.put, qa, qb, qc, qD, qE, qF]
 refine wpTail_one (i := 7) qKr rfl rfl (fun K hK => ?_)
 try simp only [Act.put, qa, qb, qc, qD, qE, qF]
 go_simp
 refine (specCopyExport_c cells es (.slice p0 cells.length c0) (.slice p1 es.length c1) v7 v11 _ _ _ (h1.ext (Xw1.trans qXt)) (h2.ext (Xw1.trans qXt))).mono ?_
 rintro e w2 ⟨cvfb19, evfb19, R20, rfl, bf18, xw2⟩
 have Lw2 : Ext w1 w2 := Ext.trans qXt xw2
 have Xw2 : Ext w w2 := Xw1.trans Lw2
 replace b10 := Lw2.cell b10
 replace b11 := Lw2.cell b11
 replace b20 := Lw2.cell b20
 replace b21 := Lw2.cell b21
 replace b30 := Lw2.cell b30
 replace b31 := Lw2.cell b31
 replace f_b30 := Lw2.frz z_b3 f_b30
 replace f_b31 := Lw2.frz z_b3 f_b31
 replace e60 := Lw2.cell e60
 replace e100 := Lw2.cell e100
 have z_b1 : w.heap.size < w2.heap.size := qB b10
 have z_b2 : w.heap.size + 1 < w2.heap.size := qB b20
 have z_b3 : w.heap.size + 1 + 1 < w2.heap.size := qB b30
 have z_e6 : bl4 < w2.heap.size := qB e60
 have z_e10 : bl4 < w2.heap.size := qB e100
 have s_w2 : w.heap.size ≤ w2.heap.size := Xw2.size
 clear xw2
 replace bf18 := bf18.lower (lo' := w1.heap.size) qSo
 obtain ⟨afb19, cfb19, rfl⟩ := bf18.ints.form
 obtain ⟨efb19, dfb19, rfl⟩ := bf18.exps.form
 have q_bf18 := Lib.hid bf18.at
 refine hK.out _ _ ⟨b10, b11, e60, e100⟩ (fun hHeld => ?_)
 clear hK K
 try simp only [Act.put, qa, qb, qc, qD, qE, qF]
 refine qTk (v := ?_) 8 rfl (.inl ⟨by rfl, ?_⟩) ?_
 rotate_left
 ·
  (intro w hSw; (try dsimp only at hSw); go_simp; try with_reducible rfl)
 try simp only [Act.put, qa, qb, qc, qD, qE, qF]
 refine qTk (v := ?_) 9 rfl (.inl ⟨by rfl, ?_⟩) ?_
 rotate_left
 ·
  (intro w hSw; (try dsimp only at hSw); go_simp; try with_reducible rfl)
 try simp only [Act.put, qa, qb, qc, qD, qE, qF]
 refine wpTail_last (i := 10) qKr rfl rfl (fun K hK => ?_)
 try simp only [Act.put, qa, qb, qc, qD, qE, qF]
 go_simp
 refine hK.out _ _ ?_
 clear hK K
 try simp only [Act.put, qa, qb, qc, qD, qE, qF]
 refine wpTail_last (i := 11) qKr rfl rfl (fun K hK => ?_)
 try simp only [Act.put, qa, qb, qc, qD, qE, qF]
 go_simp
 refine hK.out _ _ ?_
 clear hK K
 try simp only [Act.put, qa, qb, qc, qD, qE, qF]
 refine wpTail_done qKr ?_ _
 clear hHeld 
 generalize hW10 : ((w2.setCell ⟨w.heap.size + 1 + 1, 0, none⟩ (.slice afb19 (((cpyA cells es v7 v11).1).length) cfb19)).setCell ⟨w.heap.size + 1 + 1, 1, none⟩ (.slice efb19 (((cpyA cells es v7 v11).2.1).length) dfb19)) = w3 at *
 have Kw3 : Chg (w.heap.size + 1 + 1) (w.heap.size + 1 + 1 + 1) w2 w3 := by subst hW10; exact qCh
 have Xw3 : Ext w w3 := by subst hW10; exact qXt
 replace b10 := Kw3.cell (by omega) b10
 replace b11 := Kw3.cell (by omega) b11
 replace b20 := Kw3.cell (by omega) b20
 replace b21 := Kw3.cell (by omega) b21
 replace b30 : w3.cell? ⟨w.heap.size + 1 + 1, 0, none⟩ = some (.slice afb19 (((cpyA cells es v7 v11).1).length) cfb19) := by subst hW10; go_simp
 replace f_b30 : w3.frozen? ⟨w.heap.size + 1 + 1, 0, none⟩ = false := by subst hW10; first | (simp only [World.frozen?_setCell]; with_reducible assumption) | go_simp
 replace b31 : w3.cell? ⟨w.heap.size + 1 + 1, 1, none⟩ = some (.slice efb19 (((cpyA cells es v7 v11).2.1).length) dfb19) := by subst hW10; go_simp
 replace f_b31 : w3.frozen? ⟨w.heap.size + 1 + 1, 1, none⟩ = false := by subst hW10; first | (simp only [World.frozen?_setCell]; with_reducible assumption) | go_simp
 replace e60 := Kw3.cell (by omega) e60
 replace e100 := Kw3.cell (by omega) e100
 replace bf18 := bf18.chg Kw3 (by omega)
 clear Kw3
 have z_b1 : w.heap.size < w3.heap.size := qB b10
 have z_b2 : w.heap.size + 1 < w3.heap.size := qB b20
 have z_b3 : w.heap.size + 1 + 1 < w3.heap.size := qB b30
 have z_e6 : bl4 < w3.heap.size := qB e60
 have z_e10 : bl4 < w3.heap.size := qB e100
 have s_w3 : w.heap.size ≤ w3.heap.size := Xw3.size
 clear hW10
 go_wp2_with fail
 refine bodyPost_ret (v := .tuple #[.agg #[.slice afb19 (((cpyA cells es v7 v11).1).length) cfb19, .slice efb19 (((cpyA cells es v7 v11).2.1).length) dfb19], .bool ((cpyA cells es v7 v11).2.2)]) (by simp only [results, Try.results81]; go_simp) rfl ?_
 rw [hv7.out, hv11.out]
 exact ⟨_, _, _, rfl, (bf18.ext qXt).lower (by omega), (Xw3.trans qXt)⟩

set_option maxHeartbeats 3200000 in
theorem done_6 (cells : List Int) (es : List Exp) (cv ev : Value) (ns : List Int) (nv : Value) (w : World) (l1 l2 : Nat) (h1 : Ints w l1 cv cells) (h2 : Exps w l2 ev es) (l3 : Nat) (h3 : Ints w l3 nv ns) (hl : 1 ≤ ns.length) :
  Calls Try.prog 81 #[.agg #[cv, ev], .agg #[.int .i64 6, nv]] w (fun e w' => e = .returned (.tuple #[.agg #[cv, ev], .bool (opB es (ns.getD 0 0))]) ∧ Ext w w') := by
 obtain ⟨p0, c0, rfl⟩ := h1.form
 obtain ⟨p1, c1, rfl⟩ := h2.form
 have he1 := h2.len
 have hc1 := h1.len
 obtain ⟨pn, cn, rfl⟩ := h3.form
 have hl0 : 0 < ns.length := by omega
 go_enter Try.func81, Try.ntmps81
 go_wp2_with fail
 generalize hW11 : ((w.alloc (.cells #[.slice p0 cells.length c0, .slice p1 es.length c1] 26)).alloc (.cells #[.int .i64 6, .slice pn ns.length cn] 69)).alloc (.cells #[.slice none 0 0, .slice none 0 0] 26) = w1 at *
 have Lw1 : Ext w w1 := by subst hW11; exact qXt
 have Xw1 : Ext w w1 := by subst hW11; exact Lw1
 have b10 : w1.cell? ⟨w.heap.size, 0, none⟩ = some (.slice p0 cells.length c0) := by subst hW11; exact qCl
 have b11 : w1.cell? ⟨w.heap.size, 1, none⟩ = some (.slice p1 es.length c1) := by subst hW11; exact qCl
 have b20 : w1.cell? ⟨w.heap.size + 1, 0, none⟩ = some (.int .i64 6) := by subst hW11; exact qCl
 have b21 : w1.cell? ⟨w.heap.size + 1, 1, none⟩ = some (.slice pn ns.length cn) := by subst hW11; exact qCl
 have b30 : w1.cell? ⟨w.heap.size + 1 + 1, 0, none⟩ = some (.slice none 0 0) := by subst hW11; exact qCl
 have b31 : w1.cell? ⟨w.heap.size + 1 + 1, 1, none⟩ = some (.slice none 0 0) := by subst hW11; exact qCl
 have f_b30 : w1.frozen? ⟨w.heap.size + 1 + 1, 0, none⟩ = false := by subst hW11; exact qFz
 have f_b31 : w1.frozen? ⟨w.heap.size + 1 + 1, 1, none⟩ = false := by subst hW11; exact qFz
 have z_b1 : w.heap.size < w1.heap.size := qB b10
 have z_b2 : w.heap.size + 1 < w1.heap.size := qB b20
 have z_b3 : w.heap.size + 1 + 1 < w1.heap.size := qB b30
 have s_w1 : w.heap.size ≤ w1.heap.size := Xw1.size
 clear hW11
 have hI_e6 : (0 : Int) < (ns.length : Int) := by have hB7 : 0 < ns.length := (by omega); omega
 obtain ⟨bl4, ol5, rfl, e60⟩ := h3.at 0 (by omega)
 rw [Nat.add_zero] at e60
 have y_e6 : bl4 < w.heap.size := qB e60
 replace e60 := Xw1.cell e60
 obtain ⟨v7, hv7⟩ : ∃ v, ns.getD 0 0 = v := ⟨_, rfl⟩
 rw [hv7] at e60
 replace hv7 := Lib.hid hv7
 have z_e6 : bl4 < w1.heap.size := qB e60
 refine wp_region_held_drew (S := fun w' => w'.cell? ⟨w.heap.size, 0, none⟩ = some (.slice p0 cells.length c0) ∧ w'.cell? ⟨w.heap.size, 1, none⟩ = some (.slice p1 es.length c1) ∧ w'.cell? ⟨bl4, ol5, none⟩ = some (.int .i64 v7)) qKr ⟨b10, b11, e60⟩ (fun hHeld => ?_)
 refine qHk (v := ?_) 0 rfl (.inl ⟨by rfl, ?_⟩) ?_
 rotate_left
 ·
  (intro w hSw; (try dsimp only at hSw); go_simp; try with_reducible rfl)
 try simp only [Act.put, qa, qb, qc, qD, qE, qF]
 refine qHk (v := ?_) 1 rfl (.inl ⟨by rfl, ?_⟩) ?_
 rotate_left
 ·
  (intro w hSw; (try dsimp only at hSw); go_simp; try with_reducible rfl)
 try simp only [Act.put, qa, qb, qc, qD, qE, qF]
 refine qHk (v := ?_) 2 rfl (.inl ⟨by rfl, ?_⟩) ?_
 rotate_left
 ·
  (intro w hSw; (try dsimp only at hSw); go_simp; try with_reducible rfl)
 try simp only [Act.put, qa, qb, qc, qD, qE, qF]
 refine qHk (v := ?_) 3 rfl (.inl ⟨by rfl, ?_⟩) ?_
 rotate_left
 ·
  (intro w hSw; (try dsimp only at hSw); go_simp; try with_reducible rfl)
 try simp only [Act.put, qa, qb, qc, qD, qE, qF]
 refine qHk (v := ?_) 4 rfl (.inl ⟨by rfl, ?_⟩) ?_
 rotate_left
 ·
  (intro w hSw; (try dsimp only at hSw); go_simp; try with_reducible rfl)
 try simp only [Act.put, qa, qb, qc, qD, qE, qF]
 refine qHr 5 rfl (fun K hK => ?_)
 try simp only [Act.put, qa, qb, qc, qD, qE, qF]
 go_simp
 refine (specIsOpen_c cells es (.slice p0 cells.length c0) (.slice p1 es.length c1) v7 _ _ _ (h1.ext (Xw1.trans qXt)) (h2.ext (Xw1.trans qXt))).mono ?_
 rintro e w2 ⟨rfl, xw2⟩
 have Lw2 : Ext w1 w2 := Ext.trans qXt xw2
 have Xw2 : Ext w w2 := Xw1.trans Lw2
 replace b10 := Lw2.cell b10
 replace b11 := Lw2.cell b11
 replace b20 := Lw2.cell b20
 replace b21 := Lw2.cell b21
 replace b30 := Lw2.cell b30
 replace b31 := Lw2.cell b31
 replace f_b30 := Lw2.frz z_b3 f_b30
 replace f_b31 := Lw2.frz z_b3 f_b31
 replace e60 := Lw2.cell e60
 have z_b1 : w.heap.size < w2.heap.size := qB b10
 have z_b2 : w.heap.size + 1 < w2.heap.size := qB b20
 have z_b3 : w.heap.size + 1 + 1 < w2.heap.size := qB b30
 have z_e6 : bl4 < w2.heap.size := qB e60
 have s_w2 : w.heap.size ≤ w2.heap.size := Xw2.size
 clear xw2
 refine hK.out _ _ ⟨b10, b11, e60⟩ (fun hHeld => ?_)
 clear hK K
 try simp only [Act.put, qa, qb, qc, qD, qE, qF]
 refine qHr 6 rfl (fun K hK => ?_)
 try simp only [Act.put, qa, qb, qc, qD, qE, qF]
 go_simp
 generalize hW12 : ((w2.setCell ⟨w.heap.size + 1 + 1, 0, none⟩ (.slice p0 cells.length c0)).setCell ⟨w.heap.size + 1 + 1, 1, none⟩ (.slice p1 es.length c1)) = w3 at *
 have Kw3 : Chg (w.heap.size + 1 + 1) (w.heap.size + 1 + 1 + 1) w2 w3 := by subst hW12; exact qCh
 have Xw3 : Ext w w3 := by subst hW12; exact qXt
 replace b10 := Kw3.cell (by omega) b10
 replace b11 := Kw3.cell (by omega) b11
 replace b20 := Kw3.cell (by omega) b20
 replace b21 := Kw3.cell (by omega) b21
 replace b30 : w3.cell? ⟨w.heap.size + 1 + 1, 0, none⟩ = some (.slice p0 cells.length c0) := by subst hW12; go_simp
 replace f_b30 : w3.frozen? ⟨w.heap.size + 1 + 1, 0, none⟩ = false := by subst hW12; first | (simp only [World.frozen?_setCell]; with_reducible assumption) | go_simp
 replace b31 : w3.cell? ⟨w.heap.size + 1 + 1, 1, none⟩ = some (.slice p1 es.length c1) := by subst hW12; go_simp
 replace f_b31 : w3.frozen? ⟨w.heap.size + 1 + 1, 1, none⟩ = false := by subst hW12; first | (simp only [World.frozen?_setCell]; with_reducible assumption) | go_simp
 replace e60 := Kw3.cell (by omega) e60
 clear Kw3
 have z_b1 : w.heap.size < w3.heap.size := qB b10
 have z_b2 : w.heap.size + 1 < w3.heap.size := qB b20
 have z_b3 : w.heap.size + 1 + 1 < w3.heap.size := qB b30
 have z_e6 : bl4 < w3.heap.size := qB e60
 have s_w3 : w.heap.size ≤ w3.heap.size := Xw3.size
 clear hW12
 refine hK.out _ _ ⟨b10, b11, e60⟩ (fun hHeld => ?_)
 clear hK K
 try simp only [Act.put, qa, qb, qc, qD, qE, qF]
 refine qHk (v := ?_) 7 rfl (.inl ⟨by rfl, ?_⟩) ?_
 rotate_left
 ·
  (intro w hSw; (try dsimp only at hSw); go_simp; try with_reducible rfl)
 try simp only [Act.put, qa, qb, qc, qD, qE, qF]
 refine wpAnyH_done qKr ?_ _
 clear hHeld 
 go_wp2_with fail
 refine bodyPost_ret (v := .tuple #[.agg #[.slice p0 cells.length c0, .slice p1 es.length c1], .bool (opB es v7)]) (by simp only [results, Try.results81]; go_simp) rfl ?_
 exact ⟨by rw [hv7.out], (Xw3.trans qXt)⟩

set_option maxHeartbeats 3200000 in
theorem done_7 (cells : List Int) (es : List Exp) (cv ev : Value) (ns : List Int) (nv : Value) (w : World) (l1 l2 : Nat) (h1 : Ints w l1 cv cells) (h2 : Exps w l2 ev es) (l3 : Nat) (h3 : Ints w l3 nv ns) (hl : 1 ≤ ns.length) :
  Calls Try.prog 81 #[.agg #[cv, ev], .agg #[.int .i64 7, nv]] w (PBX w (relA cells es (ns.getD 0 0))) := by
 obtain ⟨p0, c0, rfl⟩ := h1.form
 obtain ⟨p1, c1, rfl⟩ := h2.form
 have he1 := h2.len
 have hc1 := h1.len
 obtain ⟨pn, cn, rfl⟩ := h3.form
 have hl0 : 0 < ns.length := by omega
 go_enter Try.func81, Try.ntmps81
 go_wp2_with fail
 generalize hW13 : ((w.alloc (.cells #[.slice p0 cells.length c0, .slice p1 es.length c1] 26)).alloc (.cells #[.int .i64 7, .slice pn ns.length cn] 69)).alloc (.cells #[.slice none 0 0, .slice none 0 0] 26) = w1 at *
 have Lw1 : Ext w w1 := by subst hW13; exact qXt
 have Xw1 : Ext w w1 := by subst hW13; exact Lw1
 have b10 : w1.cell? ⟨w.heap.size, 0, none⟩ = some (.slice p0 cells.length c0) := by subst hW13; exact qCl
 have b11 : w1.cell? ⟨w.heap.size, 1, none⟩ = some (.slice p1 es.length c1) := by subst hW13; exact qCl
 have b20 : w1.cell? ⟨w.heap.size + 1, 0, none⟩ = some (.int .i64 7) := by subst hW13; exact qCl
 have b21 : w1.cell? ⟨w.heap.size + 1, 1, none⟩ = some (.slice pn ns.length cn) := by subst hW13; exact qCl
 have b30 : w1.cell? ⟨w.heap.size + 1 + 1, 0, none⟩ = some (.slice none 0 0) := by subst hW13; exact qCl
 have b31 : w1.cell? ⟨w.heap.size + 1 + 1, 1, none⟩ = some (.slice none 0 0) := by subst hW13; exact qCl
 have f_b30 : w1.frozen? ⟨w.heap.size + 1 + 1, 0, none⟩ = false := by subst hW13; exact qFz
 have f_b31 : w1.frozen? ⟨w.heap.size + 1 + 1, 1, none⟩ = false := by subst hW13; exact qFz
 have z_b1 : w.heap.size < w1.heap.size := qB b10
 have z_b2 : w.heap.size + 1 < w1.heap.size := qB b20
 have z_b3 : w.heap.size + 1 + 1 < w1.heap.size := qB b30
 have s_w1 : w.heap.size ≤ w1.heap.size := Xw1.size
 clear hW13
 have hI_e6 : (0 : Int) < (ns.length : Int) := by have hB7 : 0 < ns.length := (by omega); omega
 obtain ⟨bl4, ol5, rfl, e60⟩ := h3.at 0 (by omega)
 rw [Nat.add_zero] at e60
 have y_e6 : bl4 < w.heap.size := qB e60
 replace e60 := Xw1.cell e60
 obtain ⟨v7, hv7⟩ : ∃ v, ns.getD 0 0 = v := ⟨_, rfl⟩
 rw [hv7] at e60
 replace hv7 := Lib.hid hv7
 have z_e6 : bl4 < w1.heap.size := qB e60
 refine wp_region_tail (S := fun w' => w'.cell? ⟨w.heap.size, 0, none⟩ = some (.slice p0 cells.length c0) ∧ w'.cell? ⟨w.heap.size, 1, none⟩ = some (.slice p1 es.length c1) ∧ w'.cell? ⟨bl4, ol5, none⟩ = some (.int .i64 v7)) (fun i => decide (7 ≤ i)) qKr ⟨b10, b11, e60⟩ (fun hHeld => ?_)
 refine qTk (v := ?_) 0 rfl (.inl ⟨by rfl, ?_⟩) ?_
 rotate_left
 ·
  (intro w hSw; (try dsimp only at hSw); go_simp; try with_reducible rfl)
 try simp only [Act.put, qa, qb, qc, qD, qE, qF]
 refine qTk (v := ?_) 1 rfl (.inl ⟨by rfl, ?_⟩) ?_
 rotate_left
 ·
  (intro w hSw; (try dsimp only at hSw); go_simp; try with_reducible rfl)
 try simp only [Act.put, qa, qb, qc, qD, qE, qF]
 refine qTk (v := ?_) 2 rfl (.inl ⟨by rfl, ?_⟩) ?_
 rotate_left
 ·
  (intro w hSw; (try dsimp only at hSw); go_simp; try with_reducible rfl)
 try simp only [Act.put, qa, qb, qc, qD, qE, qF]
 refine qTk (v := ?_) 3 rfl (.inl ⟨by rfl, ?_⟩) ?_
 rotate_left
 ·
  (intro w hSw; (try dsimp only at hSw); go_simp; try with_reducible rfl)
 try simp only [Act.put, qa, qb, qc, qD, qE, qF]
 refine wpTail_one (i := 4) qKr rfl rfl (fun K hK => ?_)
 try simp only [Act.put, qa, qb, qc, qD, qE, qF]
 go_simp
 refine (specReleaseExport_c cells es (.slice p0 cells.length c0) (.slice p1 es.length c1) v7 _ _ _ (h1.ext (Xw1.trans qXt)) (h2.ext (Xw1.trans qXt))).mono ?_
 rintro e w2 ⟨cvfb12, evfb12, R13, rfl, bf11, xw2⟩
 have Lw2 : Ext w1 w2 := Ext.trans qXt xw2
 have Xw2 : Ext w w2 := Xw1.trans Lw2
 replace b10 := Lw2.cell b10
 replace b11 := Lw2.cell b11
 replace b20 := Lw2.cell b20
 replace b21 := Lw2.cell b21
 replace b30 := Lw2.cell b30
 replace b31 := Lw2.cell b31
 replace f_b30 := Lw2.frz z_b3 f_b30
 replace f_b31 := Lw2.frz z_b3 f_b31
 replace e60 := Lw2.cell e60
 have z_b1 : w.heap.size < w2.heap.size := qB b10
 have z_b2 : w.heap.size + 1 < w2.heap.size := qB b20
 have z_b3 : w.heap.size + 1 + 1 < w2.heap.size := qB b30
 have z_e6 : bl4 < w2.heap.size := qB e60
 have s_w2 : w.heap.size ≤ w2.heap.size := Xw2.size
 clear xw2
 replace bf11 := bf11.lower (lo' := w1.heap.size) qSo
 obtain ⟨afb12, cfb12, rfl⟩ := bf11.ints.form
 obtain ⟨efb12, dfb12, rfl⟩ := bf11.exps.form
 have q_bf11 := Lib.hid bf11.at
 refine hK.out _ _ ⟨b10, b11, e60⟩ (fun hHeld => ?_)
 clear hK K
 try simp only [Act.put, qa, qb, qc, qD, qE, qF]
 refine qTk (v := ?_) 5 rfl (.inl ⟨by rfl, ?_⟩) ?_
 rotate_left
 ·
  (intro w hSw; (try dsimp only at hSw); go_simp; try with_reducible rfl)
 try simp only [Act.put, qa, qb, qc, qD, qE, qF]
 refine qTk (v := ?_) 6 rfl (.inl ⟨by rfl, ?_⟩) ?_
 rotate_left
 ·
  (intro w hSw; (try dsimp only at hSw); go_simp; try with_reducible rfl)
 try simp only [Act.put, qa, qb, qc, qD, qE, qF]
 refine wpTail_last (i := 7) qKr rfl rfl (fun K hK => ?_)
 try simp only [Act.put, qa, qb, qc, qD, qE, qF]
 go_simp
 refine hK.out _ _ ?_
 clear hK K
 try simp only [Act.put, qa, qb, qc, qD, qE, qF]
 refine wpTail_last (i := 8) qKr rfl rfl (fun K hK => ?_)
 try simp only [Act.put, qa, qb, qc, qD, qE, qF]
 go_simp
 refine hK.out _ _ ?_
 clear hK K
 try simp only [Act.put, qa, qb, qc, qD, qE, qF]
 refine wpTail_done qKr ?_ _
 clear hHeld 
 generalize hW14 : ((w2.setCell ⟨w.heap.size + 1 + 1, 0, none⟩ (.slice afb12 (((relA cells es v7).1).length) cfb12)).setCell ⟨w.heap.size + 1 + 1, 1, none⟩ (.slice efb12 (((relA cells es v7).2.1).length) dfb12)) = w3 at *
 have Kw3 : Chg (w.heap.size + 1 + 1) (w.heap.size + 1 + 1 + 1) w2 w3 := by subst hW14; exact qCh
 have Xw3 : Ext w w3 := by subst hW14; exact qXt
 replace b10 := Kw3.cell (by omega) b10
 replace b11 := Kw3.cell (by omega) b11
 replace b20 := Kw3.cell (by omega) b20
 replace b21 := Kw3.cell (by omega) b21
 replace b30 : w3.cell? ⟨w.heap.size + 1 + 1, 0, none⟩ = some (.slice afb12 (((relA cells es v7).1).length) cfb12) := by subst hW14; go_simp
 replace f_b30 : w3.frozen? ⟨w.heap.size + 1 + 1, 0, none⟩ = false := by subst hW14; first | (simp only [World.frozen?_setCell]; with_reducible assumption) | go_simp
 replace b31 : w3.cell? ⟨w.heap.size + 1 + 1, 1, none⟩ = some (.slice efb12 (((relA cells es v7).2.1).length) dfb12) := by subst hW14; go_simp
 replace f_b31 : w3.frozen? ⟨w.heap.size + 1 + 1, 1, none⟩ = false := by subst hW14; first | (simp only [World.frozen?_setCell]; with_reducible assumption) | go_simp
 replace e60 := Kw3.cell (by omega) e60
 replace bf11 := bf11.chg Kw3 (by omega)
 clear Kw3
 have z_b1 : w.heap.size < w3.heap.size := qB b10
 have z_b2 : w.heap.size + 1 < w3.heap.size := qB b20
 have z_b3 : w.heap.size + 1 + 1 < w3.heap.size := qB b30
 have z_e6 : bl4 < w3.heap.size := qB e60
 have s_w3 : w.heap.size ≤ w3.heap.size := Xw3.size
 clear hW14
 go_wp2_with fail
 refine bodyPost_ret (v := .tuple #[.agg #[.slice afb12 (((relA cells es v7).1).length) cfb12, .slice efb12 (((relA cells es v7).2.1).length) dfb12], .bool ((relA cells es v7).2.2)]) (by simp only [results, Try.results81]; go_simp) rfl ?_
 rw [hv7.out]
 exact ⟨_, _, _, rfl, (bf11.ext qXt).lower (by omega), (Xw3.trans qXt)⟩


end Go.Proofs.Ytgklaobfikbiiaa

/- Walks: acts of the reference: views. -/
namespace Go.Proofs.Ytgklaobfikbiiaa
open Go.RowKit
set_option linter.unusedVariables false
set_option maxRecDepth 100000

set_option maxHeartbeats 3200000 in
theorem done_1 (cells : List Int) (es : List Exp) (cv ev : Value) (ns : List Int) (nv : Value) (w : World) (l1 l2 : Nat) (h1 : Ints w l1 cv cells) (h2 : Exps w l2 ev es) (l3 : Nat) (h3 : Ints w l3 nv ns) (hl : 3 ≤ ns.length) :
  Calls Try.prog 81 #[.agg #[cv, ev], .agg #[.int .i64 1, nv]] w (PBX w (expA cells es (ns.getD 0 0) [(ns.getD 1 0)] [(ns.getD 2 0)])) := by
 obtain ⟨p0, c0, rfl⟩ := h1.form
 obtain ⟨p1, c1, rfl⟩ := h2.form
 have he1 := h2.len
 have hc1 := h1.len
 obtain ⟨pn, cn, rfl⟩ := h3.form
 have hl0 : 0 < ns.length := by omega
 have hl1 : 1 < ns.length := by omega
 have hl2 : 2 < ns.length := by omega
 go_enter Try.func81, Try.ntmps81
 go_wp2_with fail
 generalize hW1 : ((w.alloc (.cells #[.slice p0 cells.length c0, .slice p1 es.length c1] 26)).alloc (.cells #[.int .i64 1, .slice pn ns.length cn] 69)).alloc (.cells #[.slice none 0 0, .slice none 0 0] 26) = w1 at *
 have Lw1 : Ext w w1 := by subst hW1; exact qXt
 have Xw1 : Ext w w1 := by subst hW1; exact Lw1
 have b10 : w1.cell? ⟨w.heap.size, 0, none⟩ = some (.slice p0 cells.length c0) := by subst hW1; exact qCl
 have b11 : w1.cell? ⟨w.heap.size, 1, none⟩ = some (.slice p1 es.length c1) := by subst hW1; exact qCl
 have b20 : w1.cell? ⟨w.heap.size + 1, 0, none⟩ = some (.int .i64 1) := by subst hW1; exact qCl
 have b21 : w1.cell? ⟨w.heap.size + 1, 1, none⟩ = some (.slice pn ns.length cn) := by subst hW1; exact qCl
 have b30 : w1.cell? ⟨w.heap.size + 1 + 1, 0, none⟩ = some (.slice none 0 0) := by subst hW1; exact qCl
 have b31 : w1.cell? ⟨w.heap.size + 1 + 1, 1, none⟩ = some (.slice none 0 0) := by subst hW1; exact qCl
 have f_b30 : w1.frozen? ⟨w.heap.size + 1 + 1, 0, none⟩ = false := by subst hW1; exact qFz
 have f_b31 : w1.frozen? ⟨w.heap.size + 1 + 1, 1, none⟩ = false := by subst hW1; exact qFz
 have z_b1 : w.heap.size < w1.heap.size := qB b10
 have z_b2 : w.heap.size + 1 < w1.heap.size := qB b20
 have z_b3 : w.heap.size + 1 + 1 < w1.heap.size := qB b30
 have s_w1 : w.heap.size ≤ w1.heap.size := Xw1.size
 clear hW1
 have hI_e6 : (0 : Int) < (ns.length : Int) := by have hB7 : 0 < ns.length := (by omega); omega
 obtain ⟨bl4, ol5, rfl, e60⟩ := h3.at 0 (by omega)
 rw [Nat.add_zero] at e60
 have y_e6 : bl4 < w.heap.size := qB e60
 replace e60 := Xw1.cell e60
 obtain ⟨v7, hv7⟩ : ∃ v, ns.getD 0 0 = v := ⟨_, rfl⟩
 rw [hv7] at e60
 replace hv7 := Lib.hid hv7
 have z_e6 : bl4 < w1.heap.size := qB e60
 have hI_e10 : (1 : Int) < (ns.length : Int) := by have hB7 : 1 < ns.length := (by omega); omega
 obtain ⟨b_e10, o_e10, h_e10, e100⟩ := h3.at 1 (by omega)
 cases h_e10
 have y_e10 : bl4 < w.heap.size := qB e100
 replace e100 := Xw1.cell e100
 obtain ⟨v11, hv11⟩ : ∃ v, ns.getD 1 0 = v := ⟨_, rfl⟩
 rw [hv11] at e100
 replace hv11 := Lib.hid hv11
 have z_e10 : bl4 < w1.heap.size := qB e100
 have hI_e14 : (2 : Int) < (ns.length : Int) := by have hB7 : 2 < ns.length := (by omega); omega
 obtain ⟨b_e14, o_e14, h_e14, e140⟩ := h3.at 2 (by omega)
 cases h_e14
 have y_e14 : bl4 < w.heap.size := qB e140
 replace e140 := Xw1.cell e140
 obtain ⟨v15, hv15⟩ : ∃ v, ns.getD 2 0 = v := ⟨_, rfl⟩
 rw [hv15] at e140
 replace hv15 := Lib.hid hv15
 have z_e14 : bl4 < w1.heap.size := qB e140
 refine wp_region_held_drew (S := fun w' => w'.cell? ⟨w.heap.size, 0, none⟩ = some (.slice p0 cells.length c0) ∧ w'.cell? ⟨w.heap.size, 1, none⟩ = some (.slice p1 es.length c1) ∧ w'.cell? ⟨bl4, ol5, none⟩ = some (.int .i64 v7) ∧ w'.cell? ⟨bl4, ol5 + 1, none⟩ = some (.int .i64 v11) ∧ w'.cell? ⟨bl4, ol5 + 2, none⟩ = some (.int .i64 v15)) qKr ⟨b10, b11, e60, e100, e140⟩ (fun hHeld => ?_)
 refine qHk (v := ?_) 0 rfl (.inl ⟨by rfl, ?_⟩) ?_
 rotate_left
 ·
  (intro w hSw; (try dsimp only at hSw); go_simp; try with_reducible rfl)
 try simp only [Act.put, qa, qb, qc, qD, qE, qF]
 refine qHk (v := ?_) 1 rfl (.inl ⟨by rfl, ?_⟩) ?_
 rotate_left
 ·
  (intro w hSw; (try dsimp only at hSw); go_simp; try with_reducible rfl)
 try simp only [Act.put, qa, qb, qc, qD, qE, qF]
 refine qHk (v := ?_) 2 rfl (.inl ⟨by rfl, ?_⟩) ?_
 rotate_left
 ·
  (intro w hSw; (try dsimp only at hSw); go_simp; try with_reducible rfl)
 try simp only [Act.put, qa, qb, qc, qD, qE, qF]
 refine qHk (v := ?_) 3 rfl (.inl ⟨by rfl, ?_⟩) ?_
 rotate_left
 ·
  (intro w hSw; (try dsimp only at hSw); go_simp; try with_reducible rfl)
 try simp only [Act.put, qa, qb, qc, qD, qE, qF]
 refine qHk (v := ?_) 4 rfl (.inl ⟨by rfl, ?_⟩) ?_
 rotate_left
 ·
  (intro w hSw; (try dsimp only at hSw); go_simp; try with_reducible rfl)
 try simp only [Act.put, qa, qb, qc, qD, qE, qF]
 refine qHk (v := ?_) 5 rfl (.inl ⟨by rfl, ?_⟩) ?_
 rotate_left
 ·
  (intro w hSw; (try dsimp only at hSw); go_simp; try with_reducible rfl)
 try simp only [Act.put, qa, qb, qc, qD, qE, qF]
 refine qHk (v := ?_) 6 rfl (.inl ⟨by rfl, ?_⟩) ?_
 rotate_left
 ·
  (intro w hSw; (try dsimp only at hSw); go_simp; try with_reducible rfl)
 try simp only [Act.put, qa, qb, qc, qD, qE, qF]
 refine qHk (v := ?_) 8 rfl (.inl ⟨by rfl, ?_⟩) ?_
 rotate_left
 ·
  (intro w hSw; (try dsimp only at hSw); go_simp; try with_reducible rfl)
 try simp only [Act.put, qa, qb, qc, qD, qE, qF]
 refine qHk (v := ?_) 9 rfl (.inl ⟨by rfl, ?_⟩) ?_
 rotate_left
 ·
  (intro w hSw; (try dsimp only at hSw); go_simp; try with_reducible rfl)
 try simp only [Act.put, qa, qb, qc, qD, qE, qF]
 refine qHk (v := ?_) 10 rfl (.inl ⟨by rfl, ?_⟩) ?_
 rotate_left
 ·
  (intro w hSw; (try dsimp only at hSw); go_simp; try with_reducible rfl)
 try simp only [Act.put, qa, qb, qc, qD, qE, qF]
 refine wpAnyH_ready (rs := [7, 11]) qKr (by simp) ?_
 refine AllReadyH.cons rfl (fun K hK => ?_) (AllReadyH.cons rfl (fun K hK => ?_) AllReadyH.nil)
 ·
  try simp only [Act.put, qa, qb, qc, qD, qE, qF]
  go_simp
  refine hK.out _ (w1.drew.alloc (.cells #[.int .i64 v11] 3)) ⟨(show Ext w1 (w1.drew.alloc (.cells #[.int .i64 v11] 3)) from qXt).cell b10, (show Ext w1 (w1.drew.alloc (.cells #[.int .i64 v11] 3)) from qXt).cell b11, (show Ext w1 (w1.drew.alloc (.cells #[.int .i64 v11] 3)) from qXt).cell e60, (show Ext w1 (w1.drew.alloc (.cells #[.int .i64 v11] 3)) from qXt).cell e100, (show Ext w1 (w1.drew.alloc (.cells #[.int .i64 v11] 3)) from qXt).cell e140⟩ (fun hHeld => ?_)
  clear hK K
  try simp only [Act.put, qa, qb, qc, qD, qE, qF]
  generalize hW2 : w1.drew.alloc (.cells #[.int .i64 v11] 3) = w2 at *
  have i25 : Ints w2 w1.heap.size (.slice (some ⟨w1.heap.size, 0, none⟩) 1 1) [v11] := by subst hW2; simpa using Ints.one (w1.drew) w1.heap.size v11 (by simp)
  have xw2 : Ext w1 w2 := by subst hW2; exact qXt
  clear hW2
  have Lw2 : Ext w1 w2 := Ext.trans qXt xw2
  have Xw2 : Ext w w2 := Xw1.trans Lw2
  replace b10 := Lw2.cell b10
  replace b11 := Lw2.cell b11
  replace b20 := Lw2.cell b20
  replace b21 := Lw2.cell b21
  replace b30 := Lw2.cell b30
  replace b31 := Lw2.cell b31
  replace f_b30 := Lw2.frz z_b3 f_b30
  replace f_b31 := Lw2.frz z_b3 f_b31
  replace e60 := Lw2.cell e60
  replace e100 := Lw2.cell e100
  replace e140 := Lw2.cell e140
  have z_b1 : w.heap.size < w2.heap.size := qB b10
  have z_b2 : w.heap.size + 1 < w2.heap.size := qB b20
  have z_b3 : w.heap.size + 1 + 1 < w2.heap.size := qB b30
  have z_e6 : bl4 < w2.heap.size := qB e60
  have z_e10 : bl4 < w2.heap.size := qB e100
  have z_e14 : bl4 < w2.heap.size := qB e140
  have s_w2 : w.heap.size ≤ w2.heap.size := Xw2.size
  clear xw2
  refine qHr 11 rfl (fun K hK => ?_)
  try simp only [Act.put, qa, qb, qc, qD, qE, qF]
  go_simp
  refine hK.out _ (w2.alloc (.cells #[.int .i64 v15] 3)) ⟨(show Ext w2 (w2.alloc (.cells #[.int .i64 v15] 3)) from qXt).cell b10, (show Ext w2 (w2.alloc (.cells #[.int .i64 v15] 3)) from qXt).cell b11, (show Ext w2 (w2.alloc (.cells #[.int .i64 v15] 3)) from qXt).cell e60, (show Ext w2 (w2.alloc (.cells #[.int .i64 v15] 3)) from qXt).cell e100, (show Ext w2 (w2.alloc (.cells #[.int .i64 v15] 3)) from qXt).cell e140⟩ (fun hHeld => ?_)
  clear hK K
  try simp only [Act.put, qa, qb, qc, qD, qE, qF]
  generalize hW3 : w2.alloc (.cells #[.int .i64 v15] 3) = w3 at *
  have i26 : Ints w3 w2.heap.size (.slice (some ⟨w2.heap.size, 0, none⟩) 1 1) [v15] := by subst hW3; simpa using Ints.one w2 w2.heap.size v15 (by simp)
  have xw3 : Ext w2 w3 := by subst hW3; exact qXt
  clear hW3
  have Lw3 : Ext w2 w3 := Ext.trans qXt xw3
  have Xw3 : Ext w w3 := Xw2.trans Lw3
  replace b10 := Lw3.cell b10
  replace b11 := Lw3.cell b11
  replace b20 := Lw3.cell b20
  replace b21 := Lw3.cell b21
  replace b30 := Lw3.cell b30
  replace b31 := Lw3.cell b31
  replace f_b30 := Lw3.frz z_b3 f_b30
  replace f_b31 := Lw3.frz z_b3 f_b31
  replace e60 := Lw3.cell e60
  replace e100 := Lw3.cell e100
  replace e140 := Lw3.cell e140
  have z_b1 : w.heap.size < w3.heap.size := qB b10
  have z_b2 : w.heap.size + 1 < w3.heap.size := qB b20
  have z_b3 : w.heap.size + 1 + 1 < w3.heap.size := qB b30
  have z_e6 : bl4 < w3.heap.size := qB e60
  have z_e10 : bl4 < w3.heap.size := qB e100
  have z_e14 : bl4 < w3.heap.size := qB e140
  replace i25 := i25.ext Lw3
  have s_w3 : w.heap.size ≤ w3.heap.size := Xw3.size
  clear xw3
  refine qHk (v := ?_) 12 rfl (.inl ⟨by rfl, ?_⟩) ?_
  rotate_left
  ·
   (intro w hSw; (try dsimp only at hSw); go_simp; try with_reducible rfl)
  try simp only [Act.put, qa, qb, qc, qD, qE, qF]
  refine qHr 13 rfl (fun K hK => ?_)
  try simp only [Act.put, qa, qb, qc, qD, qE, qF]
  go_simp
  refine (specExportView_c cells es (.slice p0 cells.length c0) (.slice p1 es.length c1) v7 (.slice (some ⟨w1.heap.size, 0, none⟩) 1 1) (.slice (some ⟨w2.heap.size, 0, none⟩) 1 1) ([v11]) ([v15]) _ _ _ (h1.ext (Xw3.trans qXt)) (h2.ext (Xw3.trans qXt)) _ _ (i25.ext qXt) (i26.ext qXt)).mono ?_
  rintro e w4 ⟨cvfb28, evfb28, R29, rfl, bf27, xw4⟩
  have Lw4 : Ext w3 w4 := Ext.trans qXt xw4
  have Xw4 : Ext w w4 := Xw3.trans Lw4
  replace b10 := Lw4.cell b10
  replace b11 := Lw4.cell b11
  replace b20 := Lw4.cell b20
  replace b21 := Lw4.cell b21
  replace b30 := Lw4.cell b30
  replace b31 := Lw4.cell b31
  replace f_b30 := Lw4.frz z_b3 f_b30
  replace f_b31 := Lw4.frz z_b3 f_b31
  replace e60 := Lw4.cell e60
  replace e100 := Lw4.cell e100
  replace e140 := Lw4.cell e140
  have z_b1 : w.heap.size < w4.heap.size := qB b10
  have z_b2 : w.heap.size + 1 < w4.heap.size := qB b20
  have z_b3 : w.heap.size + 1 + 1 < w4.heap.size := qB b30
  have z_e6 : bl4 < w4.heap.size := qB e60
  have z_e10 : bl4 < w4.heap.size := qB e100
  have z_e14 : bl4 < w4.heap.size := qB e140
  replace i25 := i25.ext Lw4
  replace i26 := i26.ext Lw4
  have s_w4 : w.heap.size ≤ w4.heap.size := Xw4.size
  clear xw4
  replace bf27 := bf27.lower (lo' := w3.heap.size) qSo
  obtain ⟨afb28, cfb28, rfl⟩ := bf27.ints.form
  obtain ⟨efb28, dfb28, rfl⟩ := bf27.exps.form
  have q_bf27 := Lib.hid bf27.at
  refine hK.out _ _ ⟨b10, b11, e60, e100, e140⟩ (fun hHeld => ?_)
  clear hK K
  try simp only [Act.put, qa, qb, qc, qD, qE, qF]
  refine qHk (v := ?_) 14 rfl (.inl ⟨by rfl, ?_⟩) ?_
  rotate_left
  ·
   (intro w hSw; (try dsimp only at hSw); go_simp; try with_reducible rfl)
  try simp only [Act.put, qa, qb, qc, qD, qE, qF]
  refine qHk (v := ?_) 15 rfl (.inl ⟨by rfl, ?_⟩) ?_
  rotate_left
  ·
   (intro w hSw; (try dsimp only at hSw); go_simp; try with_reducible rfl)
  try simp only [Act.put, qa, qb, qc, qD, qE, qF]
  refine qHr 16 rfl (fun K hK => ?_)
  try simp only [Act.put, qa, qb, qc, qD, qE, qF]
  go_simp
  generalize hW4 : ((w4.setCell ⟨w.heap.size + 1 + 1, 0, none⟩ (.slice afb28 (((expA cells es v7 ([v11]) ([v15])).1).length) cfb28)).setCell ⟨w.heap.size + 1 + 1, 1, none⟩ (.slice efb28 (((expA cells es v7 ([v11]) ([v15])).2.1).length) dfb28)) = w5 at *
  have Kw5 : Chg (w.heap.size + 1 + 1) (w.heap.size + 1 + 1 + 1) w4 w5 := by subst hW4; exact qCh
  have Xw5 : Ext w w5 := by subst hW4; exact qXt
  replace b10 := Kw5.cell (by omega) b10
  replace b11 := Kw5.cell (by omega) b11
  replace b20 := Kw5.cell (by omega) b20
  replace b21 := Kw5.cell (by omega) b21
  replace b30 : w5.cell? ⟨w.heap.size + 1 + 1, 0, none⟩ = some (.slice afb28 (((expA cells es v7 ([v11]) ([v15])).1).length) cfb28) := by subst hW4; go_simp
  replace f_b30 : w5.frozen? ⟨w.heap.size + 1 + 1, 0, none⟩ = false := by subst hW4; first | (simp only [World.frozen?_setCell]; with_reducible assumption) | go_simp
  replace b31 : w5.cell? ⟨w.heap.size + 1 + 1, 1, none⟩ = some (.slice efb28 (((expA cells es v7 ([v11]) ([v15])).2.1).length) dfb28) := by subst hW4; go_simp
  replace f_b31 : w5.frozen? ⟨w.heap.size + 1 + 1, 1, none⟩ = false := by subst hW4; first | (simp only [World.frozen?_setCell]; with_reducible assumption) | go_simp
  replace e60 := Kw5.cell (by omega) e60
  replace e100 := Kw5.cell (by omega) e100
  replace e140 := Kw5.cell (by omega) e140
  replace i25 := i25.chg Kw5 (by omega)
  replace i26 := i26.chg Kw5 (by omega)
  replace bf27 := bf27.chg Kw5 (by omega)
  clear Kw5
  have z_b1 : w.heap.size < w5.heap.size := qB b10
  have z_b2 : w.heap.size + 1 < w5.heap.size := qB b20
  have z_b3 : w.heap.size + 1 + 1 < w5.heap.size := qB b30
  have z_e6 : bl4 < w5.heap.size := qB e60
  have z_e10 : bl4 < w5.heap.size := qB e100
  have z_e14 : bl4 < w5.heap.size := qB e140
  have s_w5 : w.heap.size ≤ w5.heap.size := Xw5.size
  clear hW4
  refine hK.out _ _ ⟨b10, b11, e60, e100, e140⟩ (fun hHeld => ?_)
  clear hK K
  try simp only [Act.put, qa, qb, qc, qD, qE, qF]
  refine qHk (v := ?_) 17 rfl (.inl ⟨by rfl, ?_⟩) ?_
  rotate_left
  ·
   (intro w hSw; (try dsimp only at hSw); go_simp; try with_reducible rfl)
  try simp only [Act.put, qa, qb, qc, qD, qE, qF]
  refine wpAnyH_done qKr ?_ _
  clear hHeld 
  go_wp2_with fail
  refine bodyPost_ret (v := .tuple #[.agg #[.slice afb28 (((expA cells es v7 ([v11]) ([v15])).1).length) cfb28, .slice efb28 (((expA cells es v7 ([v11]) ([v15])).2.1).length) dfb28], .bool ((expA cells es v7 ([v11]) ([v15])).2.2)]) (by simp only [results, Try.results81]; go_simp) rfl ?_
  rw [hv7.out, hv11.out, hv15.out]
  exact ⟨_, _, _, rfl, (bf27.ext qXt).lower (by omega), (Xw5.trans qXt)⟩
 ·
  try simp only [Act.put, qa, qb, qc, qD, qE, qF]
  go_simp
  refine hK.out _ (w1.drew.alloc (.cells #[.int .i64 v15] 3)) ⟨(show Ext w1 (w1.drew.alloc (.cells #[.int .i64 v15] 3)) from qXt).cell b10, (show Ext w1 (w1.drew.alloc (.cells #[.int .i64 v15] 3)) from qXt).cell b11, (show Ext w1 (w1.drew.alloc (.cells #[.int .i64 v15] 3)) from qXt).cell e60, (show Ext w1 (w1.drew.alloc (.cells #[.int .i64 v15] 3)) from qXt).cell e100, (show Ext w1 (w1.drew.alloc (.cells #[.int .i64 v15] 3)) from qXt).cell e140⟩ (fun hHeld => ?_)
  clear hK K
  try simp only [Act.put, qa, qb, qc, qD, qE, qF]
  generalize hW5 : w1.drew.alloc (.cells #[.int .i64 v15] 3) = w2 at *
  have i30 : Ints w2 w1.heap.size (.slice (some ⟨w1.heap.size, 0, none⟩) 1 1) [v15] := by subst hW5; simpa using Ints.one (w1.drew) w1.heap.size v15 (by simp)
  have xw2 : Ext w1 w2 := by subst hW5; exact qXt
  clear hW5
  have Lw2 : Ext w1 w2 := Ext.trans qXt xw2
  have Xw2 : Ext w w2 := Xw1.trans Lw2
  replace b10 := Lw2.cell b10
  replace b11 := Lw2.cell b11
  replace b20 := Lw2.cell b20
  replace b21 := Lw2.cell b21
  replace b30 := Lw2.cell b30
  replace b31 := Lw2.cell b31
  replace f_b30 := Lw2.frz z_b3 f_b30
  replace f_b31 := Lw2.frz z_b3 f_b31
  replace e60 := Lw2.cell e60
  replace e100 := Lw2.cell e100
  replace e140 := Lw2.cell e140
  have z_b1 : w.heap.size < w2.heap.size := qB b10
  have z_b2 : w.heap.size + 1 < w2.heap.size := qB b20
  have z_b3 : w.heap.size + 1 + 1 < w2.heap.size := qB b30
  have z_e6 : bl4 < w2.heap.size := qB e60
  have z_e10 : bl4 < w2.heap.size := qB e100
  have z_e14 : bl4 < w2.heap.size := qB e140
  have s_w2 : w.heap.size ≤ w2.heap.size := Xw2.size
  clear xw2
  refine qHr 7 rfl (fun K hK => ?_)
  try simp only [Act.put, qa, qb, qc, qD, qE, qF]
  go_simp
  refine hK.out _ (w2.alloc (.cells #[.int .i64 v11] 3)) ⟨(show Ext w2 (w2.alloc (.cells #[.int .i64 v11] 3)) from qXt).cell b10, (show Ext w2 (w2.alloc (.cells #[.int .i64 v11] 3)) from qXt).cell b11, (show Ext w2 (w2.alloc (.cells #[.int .i64 v11] 3)) from qXt).cell e60, (show Ext w2 (w2.alloc (.cells #[.int .i64 v11] 3)) from qXt).cell e100, (show Ext w2 (w2.alloc (.cells #[.int .i64 v11] 3)) from qXt).cell e140⟩ (fun hHeld => ?_)
  clear hK K
  try simp only [Act.put, qa, qb, qc, qD, qE, qF]
  generalize hW6 : w2.alloc (.cells #[.int .i64 v11] 3) = w3 at *
  have i31 : Ints w3 w2.heap.size (.slice (some ⟨w2.heap.size, 0, none⟩) 1 1) [v11] := by subst hW6; simpa using Ints.one w2 w2.heap.size v11 (by simp)
  have xw3 : Ext w2 w3 := by subst hW6; exact qXt
  clear hW6
  have Lw3 : Ext w2 w3 := Ext.trans qXt xw3
  have Xw3 : Ext w w3 := Xw2.trans Lw3
  replace b10 := Lw3.cell b10
  replace b11 := Lw3.cell b11
  replace b20 := Lw3.cell b20
  replace b21 := Lw3.cell b21
  replace b30 := Lw3.cell b30
  replace b31 := Lw3.cell b31
  replace f_b30 := Lw3.frz z_b3 f_b30
  replace f_b31 := Lw3.frz z_b3 f_b31
  replace e60 := Lw3.cell e60
  replace e100 := Lw3.cell e100
  replace e140 := Lw3.cell e140
  have z_b1 : w.heap.size < w3.heap.size := qB b10
  have z_b2 : w.heap.size + 1 < w3.heap.size := qB b20
  have z_b3 : w.heap.size + 1 + 1 < w3.heap.size := qB b30
  have z_e6 : bl4 < w3.heap.size := qB e60
  have z_e10 : bl4 < w3.heap.size := qB e100
  have z_e14 : bl4 < w3.heap.size := qB e140
  replace i30 := i30.ext Lw3
  have s_w3 : w.heap.size ≤ w3.heap.size := Xw3.size
  clear xw3
  refine qHk (v := ?_) 12 rfl (.inl ⟨by rfl, ?_⟩) ?_
  rotate_left
  ·
   (intro w hSw; (try dsimp only at hSw); go_simp; try with_reducible rfl)
  try simp only [Act.put, qa, qb, qc, qD, qE, qF]
  refine qHr 13 rfl (fun K hK => ?_)
  try simp only [Act.put, qa, qb, qc, qD, qE, qF]
  go_simp
  refine (specExportView_c cells es (.slice p0 cells.length c0) (.slice p1 es.length c1) v7 (.slice (some ⟨w2.heap.size, 0, none⟩) 1 1) (.slice (some ⟨w1.heap.size, 0, none⟩) 1 1) ([v11]) ([v15]) _ _ _ (h1.ext (Xw3.trans qXt)) (h2.ext (Xw3.trans qXt)) _ _ (i31.ext qXt) (i30.ext qXt)).mono ?_
  rintro e w4 ⟨cvfb33, evfb33, R34, rfl, bf32, xw4⟩
  have Lw4 : Ext w3 w4 := Ext.trans qXt xw4
  have Xw4 : Ext w w4 := Xw3.trans Lw4
  replace b10 := Lw4.cell b10
  replace b11 := Lw4.cell b11
  replace b20 := Lw4.cell b20
  replace b21 := Lw4.cell b21
  replace b30 := Lw4.cell b30
  replace b31 := Lw4.cell b31
  replace f_b30 := Lw4.frz z_b3 f_b30
  replace f_b31 := Lw4.frz z_b3 f_b31
  replace e60 := Lw4.cell e60
  replace e100 := Lw4.cell e100
  replace e140 := Lw4.cell e140
  have z_b1 : w.heap.size < w4.heap.size := qB b10
  have z_b2 : w.heap.size + 1 < w4.heap.size := qB b20
  have z_b3 : w.heap.size + 1 + 1 < w4.heap.size := qB b30
  have z_e6 : bl4 < w4.heap.size := qB e60
  have z_e10 : bl4 < w4.heap.size := qB e100
  have z_e14 : bl4 < w4.heap.size := qB e140
  replace i30 := i30.ext Lw4
  replace i31 := i31.ext Lw4
  have s_w4 : w.heap.size ≤ w4.heap.size := Xw4.size
  clear xw4
  replace bf32 := bf32.lower (lo' := w3.heap.size) qSo
  obtain ⟨afb33, cfb33, rfl⟩ := bf32.ints.form
  obtain ⟨efb33, dfb33, rfl⟩ := bf32.exps.form
  have q_bf32 := Lib.hid bf32.at
  refine hK.out _ _ ⟨b10, b11, e60, e100, e140⟩ (fun hHeld => ?_)
  clear hK K
  try simp only [Act.put, qa, qb, qc, qD, qE, qF]
  refine qHk (v := ?_) 14 rfl (.inl ⟨by rfl, ?_⟩) ?_
  rotate_left
  ·
   (intro w hSw; (try dsimp only at hSw); go_simp; try with_reducible rfl)
  try simp only [Act.put, qa, qb, qc, qD, qE, qF]
  refine qHk (v := ?_) 15 rfl (.inl ⟨by rfl, ?_⟩) ?_
  rotate_left
  ·
   (intro w hSw; (try dsimp only at hSw); go_simp; try with_reducible rfl)
  try simp only [Act.put, qa, qb, qc, qD, qE, qF]
  refine qHr 16 rfl (fun K hK => ?_)
  try simp only [Act.put, qa, qb, qc, qD, qE, qF]
  go_simp
  generalize hW7 : ((w4.setCell ⟨w.heap.size + 1 + 1, 0, none⟩ (.slice afb33 (((expA cells es v7 ([v11]) ([v15])).1).length) cfb33)).setCell ⟨w.heap.size + 1 + 1, 1, none⟩ (.slice efb33 (((expA cells es v7 ([v11]) ([v15])).2.1).length) dfb33)) = w5 at *
  have Kw5 : Chg (w.heap.size + 1 + 1) (w.heap.size + 1 + 1 + 1) w4 w5 := by subst hW7; exact qCh
  have Xw5 : Ext w w5 := by subst hW7; exact qXt
  replace b10 := Kw5.cell (by omega) b10
  replace b11 := Kw5.cell (by omega) b11
  replace b20 := Kw5.cell (by omega) b20
  replace b21 := Kw5.cell (by omega) b21
  replace b30 : w5.cell? ⟨w.heap.size + 1 + 1, 0, none⟩ = some (.slice afb33 (((expA cells es v7 ([v11]) ([v15])).1).length) cfb33) := by subst hW7; go_simp
  replace f_b30 : w5.frozen? ⟨w.heap.size + 1 + 1, 0, none⟩ = false := by subst hW7; first | (simp only [World.frozen?_setCell]; with_reducible assumption) | go_simp
  replace b31 : w5.cell? ⟨w.heap.size + 1 + 1, 1, none⟩ = some (.slice efb33 (((expA cells es v7 ([v11]) ([v15])).2.1).length) dfb33) := by subst hW7; go_simp
  replace f_b31 : w5.frozen? ⟨w.heap.size + 1 + 1, 1, none⟩ = false := by subst hW7; first | (simp only [World.frozen?_setCell]; with_reducible assumption) | go_simp
  replace e60 := Kw5.cell (by omega) e60
  replace e100 := Kw5.cell (by omega) e100
  replace e140 := Kw5.cell (by omega) e140
  replace i30 := i30.chg Kw5 (by omega)
  replace i31 := i31.chg Kw5 (by omega)
  replace bf32 := bf32.chg Kw5 (by omega)
  clear Kw5
  have z_b1 : w.heap.size < w5.heap.size := qB b10
  have z_b2 : w.heap.size + 1 < w5.heap.size := qB b20
  have z_b3 : w.heap.size + 1 + 1 < w5.heap.size := qB b30
  have z_e6 : bl4 < w5.heap.size := qB e60
  have z_e10 : bl4 < w5.heap.size := qB e100
  have z_e14 : bl4 < w5.heap.size := qB e140
  have s_w5 : w.heap.size ≤ w5.heap.size := Xw5.size
  clear hW7
  refine hK.out _ _ ⟨b10, b11, e60, e100, e140⟩ (fun hHeld => ?_)
  clear hK K
  try simp only [Act.put, qa, qb, qc, qD, qE, qF]
  refine qHk (v := ?_) 17 rfl (.inl ⟨by rfl, ?_⟩) ?_
  rotate_left
  ·
   (intro w hSw; (try dsimp only at hSw); go_simp; try with_reducible rfl)
  try simp only [Act.put, qa, qb, qc, qD, qE, qF]
  refine wpAnyH_done qKr ?_ _
  clear hHeld 
  go_wp2_with fail
  refine bodyPost_ret (v := .tuple #[.agg #[.slice afb33 (((expA cells es v7 ([v11]) ([v15])).1).length) cfb33, .slice efb33 (((expA cells es v7 ([v11]) ([v15])).2.1).length) dfb33], .bool ((expA cells es v7 ([v11]) ([v15])).2.2)]) (by simp only [results, Try.results81]; go_simp) rfl ?_
  rw [hv7.out, hv11.out, hv15.out]
  exact ⟨_, _, _, rfl, (bf32.ext qXt).lower (by omega), (Xw5.trans qXt)⟩


end Go.Proofs.Ytgklaobfikbiiaa

/- Walks: numbers as texts: how long they are. -/
namespace Go.Proofs.Ytgklaobfikbiiaa
open Go.RowKit
set_option linter.unusedVariables false
set_option maxRecDepth 100000

/-- a call hands back a text of at most m bytes -/
def PTxt (m : Nat) (w : World) (e : Ending) (w' : World) : Prop := ∃ s : ByteArray, e = .returned (.string s) ∧ (s.size : Int) ≤ m ∧ Ext w w'
theorem PTxt.mono {m m' : Nat} {w w' : World} {e : Ending} (h : PTxt m w e w') (hm : m ≤ m') : PTxt m' w e w' := by
  obtain ⟨s, h1, h2, h3⟩ := h; exact ⟨s, h1, by omega, h3⟩
set_option maxHeartbeats 1600000 in
theorem num1_c (n : Nat) (hn : n < 10) (w : World) : Calls Try.prog 83 #[.int .i64 (n : Int)] w (PTxt 1 w) := by
  rcases (show n = 0 ∨ n = 1 ∨ n = 2 ∨ n = 3 ∨ n = 4 ∨ n = 5 ∨ n = 6 ∨ n = 7 ∨ n = 8 ∨ n = 9 by omega) with rfl | rfl | rfl | rfl | rfl | rfl | rfl | rfl | rfl | rfl
  all_goals
    go_enter Try.func83, Try.ntmps83
    go_wp2_with fail
    go_ret
    exact ⟨_, rfl, by decide, qXt⟩
set_option maxHeartbeats 1600000 in
theorem num2_c (n : Nat) (hn : n < 100) (w : World) : Calls Try.prog 83 #[.int .i64 (n : Int)] w (PTxt 2 w) := by
  by_cases h : n < 10
  · exact (num1_c n h w).mono fun e w' h => h.mono (by omega)
  · have h0 : ¬ (n : Int) < 0 := by omega
    have h1 : ¬ (n : Int) < 10 := by omega
    obtain ⟨q, hq⟩ : ∃ q : Nat, (n : Int).tdiv 10 = q := ⟨n / 10, by rw [Int.tdiv_eq_ediv_of_nonneg (by omega)]; omega⟩
    obtain ⟨r, hr⟩ : ∃ r : Nat, (n : Int).tmod 10 = r := ⟨n % 10, by rw [Int.tmod_eq_emod_of_nonneg (by omega)]; omega⟩
    have hq2 : (n : Int) / 10 = q := by rw [← hq, Int.tdiv_eq_ediv_of_nonneg (by omega)]
    have hr2 : (n : Int) % 10 = r := by rw [← hr, Int.tmod_eq_emod_of_nonneg (by omega)]
    have hql : q < 10 := by omega
    have hrl : r < 10 := by omega
    go_enter Try.func83, Try.ntmps83
    go_wp2_with fail
    refine (num1_c q hql _).mono ?_
    rintro e w1 ⟨s1, rfl, z1, x1⟩
    go_wp2_with fail
    refine (num1_c r hrl _).mono ?_
    rintro e w2 ⟨s2, rfl, z2, x2⟩
    have hz1 : (s1.size : Int) ≤ 8388608 := by omega
    have hz2 : (s2.size : Int) ≤ 8388608 := by omega
    go_wp2_with fail
    go_ret
    exact ⟨_, rfl, by rw [ByteArray.size_append]; omega, x1.trans x2⟩
set_option maxHeartbeats 1600000 in
theorem num3_c (n : Nat) (hn : n < 1000) (w : World) : Calls Try.prog 83 #[.int .i64 (n : Int)] w (PTxt 3 w) := by
  by_cases h : n < 10
  · exact (num1_c n h w).mono fun e w' h => h.mono (by omega)
  · have h0 : ¬ (n : Int) < 0 := by omega
    have h1 : ¬ (n : Int) < 10 := by omega
    obtain ⟨q, hq⟩ : ∃ q : Nat, (n : Int).tdiv 10 = q := ⟨n / 10, by rw [Int.tdiv_eq_ediv_of_nonneg (by omega)]; omega⟩
    obtain ⟨r, hr⟩ : ∃ r : Nat, (n : Int).tmod 10 = r := ⟨n % 10, by rw [Int.tmod_eq_emod_of_nonneg (by omega)]; omega⟩
    have hq2 : (n : Int) / 10 = q := by rw [← hq, Int.tdiv_eq_ediv_of_nonneg (by omega)]
    have hr2 : (n : Int) % 10 = r := by rw [← hr, Int.tmod_eq_emod_of_nonneg (by omega)]
    have hql : q < 100 := by omega
    have hrl : r < 10 := by omega
    go_enter Try.func83, Try.ntmps83
    go_wp2_with fail
    refine (num2_c q hql _).mono ?_
    rintro e w1 ⟨s1, rfl, z1, x1⟩
    go_wp2_with fail
    refine (num1_c r hrl _).mono ?_
    rintro e w2 ⟨s2, rfl, z2, x2⟩
    have hz1 : (s1.size : Int) ≤ 8388608 := by omega
    have hz2 : (s2.size : Int) ≤ 8388608 := by omega
    go_wp2_with fail
    go_ret
    exact ⟨_, rfl, by rw [ByteArray.size_append]; omega, x1.trans x2⟩

set_option maxHeartbeats 1600000 in
theorem numbersText_c (xs : List Int) (v : Value) (w : World) (lo : Nat) (h : Ints w lo v xs) (hx : ∀ x ∈ xs, 0 ≤ x ∧ x ≤ 255) (hl : xs.length ≤ 1000) :
    Calls Try.prog 82 #[v] w (PTxt 4000 w) := by
  obtain ⟨a, c, rfl⟩ := h.form
  replace hx := Lib.hid hx
  go_enter Try.func82, Try.ntmps82
  go_wp2_with fail
  go_loopw [3, 4] (fun t i wr => ∃ (k : Nat) (s : ByteArray), k ≤ xs.length ∧ i = .int .i64 k ∧ t = .string s ∧ (s.size : Int) ≤ 4 * k ∧ Ext w wr) (fun _ i _ => xs.length - (intOf i).toNat)
  case atStart => exact ⟨0, _, Nat.zero_le _, rfl, rfl, by decide, Ext.refl _⟩
  case round =>
    obtain ⟨k, s, hk, rfl, rfl, hs, X⟩ := hrel
    have hz : (s.size : Int) ≤ 8388608 := by omega
    by_cases hlt : k < xs.length
    · have hkI : (k : Int) < xs.length := by omega
      obtain ⟨b, of, rfl, e0⟩ := (h.ext X).at k hlt
      have hv := hx.out _ (getD_mem hlt)
      obtain ⟨y, hy⟩ : ∃ y : Nat, xs.getD k 0 = y := ⟨(xs.getD k 0).toNat, by omega⟩
      rw [hy] at e0 hv
      replace hy := Lib.hid hy
      go_wp2_with fail
      refine (num3_c y (by omega) _).mono ?_
      rintro e w1 ⟨s1, rfl, z1, x1⟩
      have hz1 : (s1.size : Int) ≤ 8388608 := by omega
      have hz2 : ((s ++ ⟨#[32]⟩).size : Int) ≤ 8388608 := by rw [ByteArray.size_append]; have : (⟨#[32]⟩ : ByteArray).size = 1 := rfl; omega
      go_wp2_with fail
      go_roundw
      case rel => exact ⟨k + 1, _, by omega, by go_num, rfl, by rw [ByteArray.size_append, ByteArray.size_append]; have : (⟨#[32]⟩ : ByteArray).size = 1 := rfl; omega, X.trans x1⟩
      case measure => simp [intOf]; omega
    · have hkI : ¬ (k : Int) < xs.length := by omega
      go_wp2_with fail
      go_ret
      exact ⟨s, rfl, by omega, X⟩
end Go.Proofs.Ytgklaobfikbiiaa

/- Plain laws: a picked number of a dimension, and the slice of that number alone. -/
namespace Go.Proofs.Ytgklaobfikbiiaa
open Go.RowKit
set_option linter.unusedVariables false
set_option maxRecDepth 100000

end Go.Proofs.Ytgklaobfikbiiaa

/- Plain laws: other shapes of the same cells, there and back. -/
namespace Go.Proofs.Ytgklaobfikbiiaa
open Go.RowKit
set_option linter.unusedVariables false
set_option linter.unusedSimpArgs false

end Go.Proofs.Ytgklaobfikbiiaa

/- Plain laws: Reshape, of dense views too; two dimensions that are one, one that is two. -/
namespace Go.Proofs.Ytgklaobfikbiiaa
open Go.RowKit
set_option linter.unusedVariables false
set_option linter.unusedSimpArgs false
set_option maxRecDepth 100000

end Go.Proofs.Ytgklaobfikbiiaa

/- Walks: SameView of the program. -/
namespace Go.Proofs.Ytgklaobfikbiiaa
open Go.RowKit
set_option linter.unusedVariables false
set_option maxRecDepth 100000


end Go.Proofs.Ytgklaobfikbiiaa

/- Walks: CountOf of the program. -/
namespace Go.Proofs.Ytgklaobfikbiiaa
open Go.RowKit
set_option linter.unusedVariables false
set_option maxRecDepth 100000


end Go.Proofs.Ytgklaobfikbiiaa

/- Plain laws: Reshape as the laws ask it. -/
namespace Go.Proofs.Ytgklaobfikbiiaa
open Go.RowKit
set_option linter.unusedVariables false
set_option maxRecDepth 100000

end Go.Proofs.Ytgklaobfikbiiaa

/- Plain laws: a slice of a slice is a slice. -/
namespace Go.Proofs.Ytgklaobfikbiiaa
open Go.RowKit
set_option linter.unusedVariables false
set_option maxRecDepth 100000

theorem slice_inv {b : Int} {s t : List Int} {d F T B : Int} {hf ht : Bool} {PB : Int} {PS PT : List Int} (h : sliceV b s t d F T B hf ht = (PB, PS, PT, true)) :
    ∃ D : Nat, d = (D : Int) ∧ D < s.length ∧ viewB b s t = true ∧ sliceB F T B hf ht = true ∧ PB = cutB b s t D (idxS (s.getD D 0) F T B hf ht) ∧ PS = cutS s D (idxS (s.getD D 0) F T B hf ht) ∧ PT = cutT s t D (idxS (s.getD D 0) F T B hf ht) := by
  unfold sliceV at h
  split at h
  · rename_i h1
    simp only [Bool.and_eq_true, inB, decide_eq_true_eq] at h1
    obtain ⟨hv, ⟨hd0, hd1⟩, hsl⟩ := h1
    obtain ⟨D, rfl⟩ : ∃ D : Nat, d = D := ⟨d.toNat, by omega⟩
    rw [Int.toNat_natCast] at h
    cases h
    exact ⟨D, rfl, by omega, hv, hsl, rfl, rfl, rfl⟩
  · unfold noV at h; cases h
theorem idx_in {n F T B : Int} {hf ht : Bool} (hn : 0 ≤ n) (hB : B ≠ 0) : ∀ i ∈ idxS n F T B hf ht, 0 ≤ i ∧ i < n := by
  intro i hi
  unfold idxS at hi
  have h1 := fromI_in (F := F) (B := B) (hf := hf) hn
  have h2 := toI_in (T := T) (B := B) (ht := ht) hn
  have h3 := numL_in hB hi
  rcases Int.lt_or_le 0 B with h | h
  · have := h3.1 h; omega
  · have := h3.2 (by omega); omega
end Go.Proofs.Ytgklaobfikbiiaa
