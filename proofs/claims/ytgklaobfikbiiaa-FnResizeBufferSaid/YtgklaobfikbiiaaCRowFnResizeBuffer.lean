/- Texts of these proofs put together: DoC, LvV, PvA, LawFnResizeBuffer, RowFnResizeBuffer. No condition. -/
import Derived.Test.YtgklaobfikbiiaaM5
import Derived.Test.YtgklaobfikbiiaaM2
import Derived.Test.YtgklaobfikbiiaaM3
set_option linter.unusedVariables false
set_option linter.unusedSimpArgs false
/- Walks: a buffer and a size are drawn. -/
namespace Go.Proofs.Ytgklaobfikbiiaa
open Go.RowKit
set_option linter.unusedVariables false
set_option maxRecDepth 100000

set_option maxHeartbeats 3200000 in
theorem drawResizeBuffer_c (a : Option Addr) (n cap : Nat) (w : World) (hb : BysIn w a n cap) :
  Calls Try.prog 13 #[.slice a n cap] w (PDBI w) := by
 go_enter Try.func13, Try.ntmps13
 go_wp2_with fail
 refine (newReader_c a n cap _ (hb.ext qXt)).mono ?_
 rintro e w1 ⟨rfl, hr, xw1⟩
 have Lw1 : Ext w w1 := Ext.trans qXt xw1
 have Xw1 : Ext w w1 := Lw1
 have q0 : w1.cell? ⟨w.heap.size, 0, none⟩ = some (.slice none 0 0) := xw1.cell qCl
 have q1 : w1.cell? ⟨w.heap.size, 1, none⟩ = some (.slice none 0 0) := xw1.cell qCl
 have f_q0 : w1.frozen? ⟨w.heap.size, 0, none⟩ = false := xw1.frz (by simp <;> omega) qFz
 have f_q1 : w1.frozen? ⟨w.heap.size, 1, none⟩ = false := xw1.frz (by simp <;> omega) qFz
 have z_q : w.heap.size < w1.heap.size := qB q0
 have s_w1 : w.heap.size ≤ w1.heap.size := Xw1.size
 clear xw1
 simp only [World.size_alloc] at hr
 have z1 := hr.lt
 clear hb
 go_wp2_with fail
 refine (someBuffer_c _ 0 _ hr (by omega)).mono ?_
 rintro e w2 ⟨cv, ev, cells, es, R, rfl, B, hs, Rw2, Cw2⟩
 have zc_w2 := Cw2.size
 have Xw2 : Ext w w2 := Rch.toExt' Cw2 (by omega) (Xw1)
 replace q0 := Cw2.cell (by omega) q0
 replace f_q0 := Cw2.frzO (by omega) (by omega) f_q0
 replace q1 := Cw2.cell (by omega) q1
 replace f_q1 := Cw2.frzO (by omega) (by omega) f_q1
 have z_q : w.heap.size < w2.heap.size := qB q0
 have s_w2 : w.heap.size ≤ w2.heap.size := Xw2.size
 clear hr Cw2
 obtain ⟨p0, c0, rfl⟩ := B.ints.form
 obtain ⟨p1, c1, rfl⟩ := B.exps.form
 have he9 := hs.out.2.1
 have hc61 := hs.out.1
 replace B := BufT.of B B.at
 go_wp2_with fail
 generalize hW1 : w2.alloc (.cells #[.slice p0 cells.length c0, .slice p1 es.length c1] 26) = w3 at *
 have Lw3 : Ext w2 w3 := by subst hW1; exact qXt
 have Xw3 : Ext w w3 := Xw2.trans Lw3
 replace Rw2 := Rw2.ext Lw3
 replace q0 := Lw3.cell q0
 replace q1 := Lw3.cell q1
 replace f_q0 := Lw3.frz z_q f_q0
 replace f_q1 := Lw3.frz z_q f_q1
 have b0 : w3.cell? ⟨w2.heap.size, 0, none⟩ = some (.slice p0 cells.length c0) := by subst hW1; exact qCl
 have b1 : w3.cell? ⟨w2.heap.size, 1, none⟩ = some (.slice p1 es.length c1) := by subst hW1; exact qCl
 have f_b0 : w3.frozen? ⟨w2.heap.size, 0, none⟩ = false := by subst hW1; exact qFz
 have f_b1 : w3.frozen? ⟨w2.heap.size, 1, none⟩ = false := by subst hW1; exact qFz
 have z_q : w.heap.size < w3.heap.size := qB q0
 have z_b : w2.heap.size < w3.heap.size := qB b0
 replace B := B.ext Lw3
 have s_w3 : w.heap.size ≤ w3.heap.size := Xw3.size
 clear hW1
 refine (pick1_c 2 _ _ _ Rw2 (by omega) (by omega)).mono ?_
 rintro e w4 ⟨y, rfl, hy, Rw4, Cw4⟩
 have zc_w4 := Cw4.size
 have Xw4 : Ext w w4 := Rch.toExt' Cw4 (by omega) (Xw3)
 replace q0 := Cw4.cell (by omega) q0
 replace f_q0 := Cw4.frzO (by omega) (by omega) f_q0
 replace q1 := Cw4.cell (by omega) q1
 replace f_q1 := Cw4.frzO (by omega) (by omega) f_q1
 replace b0 := Cw4.cell (by omega) b0
 replace f_b0 := Cw4.frzO (by omega) (by omega) f_b0
 replace b1 := Cw4.cell (by omega) b1
 replace f_b1 := Cw4.frzO (by omega) (by omega) f_b1
 have z_q : w.heap.size < w4.heap.size := qB q0
 have z_b : w2.heap.size < w4.heap.size := qB b0
 replace B := B.chg Cw4 (by omega)
 have s_w4 : w.heap.size ≤ w4.heap.size := Xw4.size
 clear Rw2 Cw4
 generalize hg7 : w2.heap.size = gb at *
 replace hg7 := Lib.hid hg7
 have hlo : w.heap.size + 1 ≤ w1.heap.size := by omega
 have hlo2 : w1.heap.size ≤ gb := by omega
 have z_q : w.heap.size < w4.heap.size := qB q0
 have z_b : gb < w4.heap.size := qB b0
 rcases (show y = 0 ∨ y = 1 by omega) with rfl | rfl
 ·
  clear hy
  go_wp2_with fail
  go_loopw [6] (fun i wr => ∃ (m : Nat) (fs : List Exp), m ≤ es.length ∧ fs.length = es.length ∧ i = .int .i64 m ∧ Hid (SmallX cells fs) ∧ BufT wr w1.heap.size gb (.slice p0 cells.length c0) (.slice p1 es.length c1) cells fs R ∧ wr.cell? ⟨w.heap.size, 0, none⟩ = some (.slice none 0 0) ∧ wr.frozen? ⟨w.heap.size, 0, none⟩ = false ∧ wr.cell? ⟨w.heap.size, 1, none⟩ = some (.slice none 0 0) ∧ wr.frozen? ⟨w.heap.size, 1, none⟩ = false ∧ wr.cell? ⟨gb, 0, none⟩ = some (.slice p0 cells.length c0) ∧ wr.frozen? ⟨gb, 0, none⟩ = false ∧ wr.cell? ⟨gb, 1, none⟩ = some (.slice p1 es.length c1) ∧ wr.frozen? ⟨gb, 1, none⟩ = false ∧ Rd wr (w.heap.size + 1) 300 ∧ Ext w wr) (fun i _ => es.length - (intOf i).toNat)
  case atStart => exact ⟨0, es, Nat.zero_le _, rfl, rfl, hs, B, q0, f_q0, q1, f_q1, b0, f_b0, b1, f_b1, Rw4.mono (by omega), Xw4⟩
  case round =>
   clear B q0 f_q0 q1 f_q1 b0 f_b0 b1 f_b1 Rw4 Xw4
   obtain ⟨m, fs, hm, hfl, rfl, hs2, B, q0, f_q0, q1, f_q1, b0, f_b0, b1, f_b1, hr, X⟩ := hrel
   have s_wr := X.size
   have z_q : w.heap.size < wr.heap.size := qB q0
   have z_b : gb < wr.heap.size := qB b0
   replace hfl := Lib.hid hfl
   by_cases hlt : m < es.length
   ·
    have hmI : (m : Int) < (es.length : Int) := by omega
    have hmf : m < fs.length := by rw [hfl.out]; exact hlt
    obtain ⟨gr, cr, hv7, -, hg1, hg2, -, -⟩ := B.buf.ex.big (by intro h7; rw [h7] at hmf; exact absurd hmf (Nat.not_lt_zero _))
    injection hv7 with hva hvb hvc
    subst hva
    subst hvc
    clear hvb
    have hgb2 : gr < gb := (B.loc.e gr rfl).2
    have hgb1 := (B.loc.e gr rfl).1
    obtain ⟨y4, fy4⟩ : wr.cell? ⟨gr, m * 5 + 4, none⟩ = some (.bool (expAt fs m).op) ∧ wr.frozen? ⟨gr, m * 5 + 4, none⟩ = false := B.buf.ex.cells hfl.out.symm m 4 hmf (by omega)
    go_wp2_with fail
    replace B := BufT.close B hfl.out.symm m hmf false
    clear y4 fy4
    generalize hW2 : (wr.setCell ⟨gr, m * 5 + 4, none⟩ (.bool false)) = w6 at *
    have Kw6 : Chg (gr) (gr + 1) wr w6 := by subst hW2; exact qCh
    have Xw6 : Ext w w6 := by subst hW2; exact qXt
    replace hr := (Rd.set2 (a := ⟨gr, m * 5 + 4, none⟩) (u := .bool false) (show (w.heap.size + 1) < gr by omega) hr)
    rw [hW2] at hr
    replace q0 := Kw6.cell (by omega) q0
    replace f_q0 := Kw6.frzO (by omega) z_q f_q0
    replace q1 := Kw6.cell (by omega) q1
    replace f_q1 := Kw6.frzO (by omega) z_q f_q1
    replace b0 := Kw6.cell (by omega) b0
    replace f_b0 := Kw6.frzO (by omega) z_b f_b0
    replace b1 := Kw6.cell (by omega) b1
    replace f_b1 := Kw6.frzO (by omega) z_b f_b1
    clear Kw6
    have z_q : w.heap.size < w6.heap.size := qB q0
    have z_b : gb < w6.heap.size := qB b0
    have s_w6 : w.heap.size ≤ w6.heap.size := Xw6.size
    clear hW2
    go_roundw
    case rel => exact ⟨m + 1, fs.set m ⟨(expAt fs m).par, (expAt fs m).b, (expAt fs m).s, (expAt fs m).t, false⟩, by omega, by rw [List.length_set]; exact hfl.out, by go_num, Lib.hid (smallX_set hs2.out m false hmf), B, q0, f_q0, q1, f_q1, b0, f_b0, b1, f_b1, hr, Xw6⟩
    case measure => simp [intOf]; omega
   ·
    obtain rfl : m = es.length := by omega
    have hmI : ¬ (es.length : Int) < (es.length : Int) := by omega
    go_wp2_with fail
    refine wp_region_held_drew (S := fun w' => w'.cell? ⟨gb, 0, none⟩ = some (.slice p0 cells.length c0) ∧ w'.cell? ⟨gb, 1, none⟩ = some (.slice p1 es.length c1)) qKr ⟨b0, b1⟩ (fun hHeld => ?_)
    refine qHk (v := ?_) 0 rfl (.inl ⟨by rfl, ?_⟩) ?_
    rotate_left
    ·
     (intro w hSw; (try dsimp only at hSw); go_simp; try with_reducible rfl)
    try simp only [Act.put, qa, qb, qc, qD, qE, qF]
    refine qHk (v := ?_) 1 rfl (.inl ⟨by rfl, ?_⟩) ?_
    rotate_left
    ·
     (intro w hSw; (try dsimp only at hSw); go_simp; try with_reducible rfl)
    try simp only [Act.put, qa, qb, qc, qD, qE, qF]
    refine qHr 2 rfl (fun K hK => ?_)
    try simp only [Act.put, qa, qb, qc, qD, qE, qF]
    go_simp
    skip
    refine hK.out _ _ ⟨(show Ext wr _ from qXt).cell b0, (show Ext wr _ from qXt).cell b1⟩ (fun hHeld => ?_)
    clear hK K
    try simp only [Act.put, qa, qb, qc, qD, qE, qF]
    refine qHr 3 rfl (fun K hK => ?_)
    try simp only [Act.put, qa, qb, qc, qD, qE, qF]
    go_simp
    refine (oneLit_c #[.int .i64 10, .int .i64 30, .int .i64 0, .int .i64 60, .int .i64 61, .int .i64 (-1)] 6 _ _ _ _ hr.drew (by omega) (by rfl) (by rfl) (by constructor <;> simp) (by first | rfl | simp)).mono ?_
    rintro e w6 ⟨x, rfl, hx, Rw6, Cw6⟩
    have Ew6 : Ext wr (wr.drew.alloc (.cells #[.int .i64 10, .int .i64 30, .int .i64 0, .int .i64 60, .int .i64 61, .int .i64 (-1)] 3)) := qXt
    have e_w6 := Ew6.size
    have zc_w6 := Cw6.size
    simp only [World.size_drew, World.size_alloc] at zc_w6
    have Xw6 : Ext w w6 := Rch.toExt' Cw6 (by omega) (X.trans Ew6)
    replace q0 := Cw6.cell (by omega) (Ew6.cell q0)
    replace f_q0 := Cw6.frzO (by omega) (by omega) (Ew6.frz z_q f_q0)
    replace q1 := Cw6.cell (by omega) (Ew6.cell q1)
    replace f_q1 := Cw6.frzO (by omega) (by omega) (Ew6.frz z_q f_q1)
    replace b0 := Cw6.cell (by omega) (Ew6.cell b0)
    replace f_b0 := Cw6.frzO (by omega) (by omega) (Ew6.frz z_b f_b0)
    replace b1 := Cw6.cell (by omega) (Ew6.cell b1)
    replace f_b1 := Cw6.frzO (by omega) (by omega) (Ew6.frz z_b f_b1)
    have z_q : w.heap.size < w6.heap.size := qB q0
    have z_b : gb < w6.heap.size := qB b0
    replace B := (B.ext Ew6).chg Cw6 (by omega)
    have s_w6 : w.heap.size ≤ w6.heap.size := Xw6.size
    clear hr Cw6 Ew6
    replace hx : -1 ≤ x ∧ x ≤ 61 := by simp [litL] at hx; omega
    refine hK.out _ _ ⟨b0, b1⟩ (fun hHeld => ?_)
    clear hK K
    try simp only [Act.put, qa, qb, qc, qD, qE, qF]
    refine qHr 4 rfl (fun K hK => ?_)
    try simp only [Act.put, qa, qb, qc, qD, qE, qF]
    go_simp
    generalize hW3 : ((w6.setCell ⟨w.heap.size, 0, none⟩ (.slice p0 cells.length c0)).setCell ⟨w.heap.size, 1, none⟩ (.slice p1 es.length c1)) = w7 at *
    have Kw7 : Chg (w.heap.size) (w.heap.size + 1) w6 w7 := by subst hW3; exact qCh
    have Xw7 : Ext w w7 := by subst hW3; exact qXt
    replace q0 : w7.cell? ⟨w.heap.size, 0, none⟩ = some (.slice p0 cells.length c0) := by subst hW3; go_simp
    replace f_q0 : w7.frozen? ⟨w.heap.size, 0, none⟩ = false := by subst hW3; first | (simp only [World.frozen?_setCell]; with_reducible assumption) | go_simp
    replace q1 : w7.cell? ⟨w.heap.size, 1, none⟩ = some (.slice p1 es.length c1) := by subst hW3; go_simp
    replace f_q1 : w7.frozen? ⟨w.heap.size, 1, none⟩ = false := by subst hW3; first | (simp only [World.frozen?_setCell]; with_reducible assumption) | go_simp
    replace b0 := Kw7.cell (by omega) b0
    replace f_b0 := Kw7.frzO (by omega) z_b f_b0
    replace b1 := Kw7.cell (by omega) b1
    replace f_b1 := Kw7.frzO (by omega) z_b f_b1
    replace B := B.chg Kw7 (by omega)
    clear Kw7
    have z_q : w.heap.size < w7.heap.size := qB q0
    have z_b : gb < w7.heap.size := qB b0
    have s_w7 : w.heap.size ≤ w7.heap.size := Xw7.size
    clear hW3
    refine hK.out _ _ ⟨b0, b1⟩ (fun hHeld => ?_)
    clear hK K
    try simp only [Act.put, qa, qb, qc, qD, qE, qF]
    refine qHk (v := ?_) 5 rfl (.inl ⟨by rfl, ?_⟩) ?_
    rotate_left
    ·
     (intro w hSw; (try dsimp only at hSw); go_simp; try with_reducible rfl)
    try simp only [Act.put, qa, qb, qc, qD, qE, qF]
    refine wpAnyH_done qKr ?_ _
    clear hHeld
    go_wp2_with fail
    refine bodyPost_ret (v := .tuple #[.agg #[.slice p0 cells.length c0, .slice p1 es.length c1], .int .i64 x]) (by simp only [results, Try.results13]; go_simp) rfl ?_
    exact ⟨cells, fs, _, _, _, _, x, by rw [hfl.out], B.ints.lower (by omega), (by rw [hfl.out]; exact B.exps.lower (by omega)), hs2, hx, Xw7⟩
 ·
  go_wp2_with fail
  refine wp_region_held_drew (S := fun w' => w'.cell? ⟨gb, 0, none⟩ = some (.slice p0 cells.length c0) ∧ w'.cell? ⟨gb, 1, none⟩ = some (.slice p1 es.length c1)) qKr ⟨b0, b1⟩ (fun hHeld => ?_)
  refine qHk (v := ?_) 0 rfl (.inl ⟨by rfl, ?_⟩) ?_
  rotate_left
  ·
   (intro w hSw; (try dsimp only at hSw); go_simp; try with_reducible rfl)
  try simp only [Act.put, qa, qb, qc, qD, qE, qF]
  refine qHk (v := ?_) 1 rfl (.inl ⟨by rfl, ?_⟩) ?_
  rotate_left
  ·
   (intro w hSw; (try dsimp only at hSw); go_simp; try with_reducible rfl)
  try simp only [Act.put, qa, qb, qc, qD, qE, qF]
  refine qHr 2 rfl (fun K hK => ?_)
  try simp only [Act.put, qa, qb, qc, qD, qE, qF]
  go_simp
  skip
  refine hK.out _ _ ⟨(show Ext w4 _ from qXt).cell b0, (show Ext w4 _ from qXt).cell b1⟩ (fun hHeld => ?_)
  clear hK K
  try simp only [Act.put, qa, qb, qc, qD, qE, qF]
  refine qHr 3 rfl (fun K hK => ?_)
  try simp only [Act.put, qa, qb, qc, qD, qE, qF]
  go_simp
  refine (oneLit_c #[.int .i64 10, .int .i64 30, .int .i64 0, .int .i64 60, .int .i64 61, .int .i64 (-1)] 6 _ _ _ _ Rw4.drew (by omega) (by rfl) (by rfl) (by constructor <;> simp) (by first | rfl | simp)).mono ?_
  rintro e w5 ⟨x, rfl, hx, Rw5, Cw5⟩
  have Ew5 : Ext w4 (w4.drew.alloc (.cells #[.int .i64 10, .int .i64 30, .int .i64 0, .int .i64 60, .int .i64 61, .int .i64 (-1)] 3)) := qXt
  have e_w5 := Ew5.size
  have zc_w5 := Cw5.size
  simp only [World.size_drew, World.size_alloc] at zc_w5
  have Xw5 : Ext w w5 := Rch.toExt' Cw5 (by omega) (Xw4.trans Ew5)
  replace q0 := Cw5.cell (by omega) (Ew5.cell q0)
  replace f_q0 := Cw5.frzO (by omega) (by omega) (Ew5.frz z_q f_q0)
  replace q1 := Cw5.cell (by omega) (Ew5.cell q1)
  replace f_q1 := Cw5.frzO (by omega) (by omega) (Ew5.frz z_q f_q1)
  replace b0 := Cw5.cell (by omega) (Ew5.cell b0)
  replace f_b0 := Cw5.frzO (by omega) (by omega) (Ew5.frz z_b f_b0)
  replace b1 := Cw5.cell (by omega) (Ew5.cell b1)
  replace f_b1 := Cw5.frzO (by omega) (by omega) (Ew5.frz z_b f_b1)
  have z_q : w.heap.size < w5.heap.size := qB q0
  have z_b : gb < w5.heap.size := qB b0
  replace B := (B.ext Ew5).chg Cw5 (by omega)
  have s_w5 : w.heap.size ≤ w5.heap.size := Xw5.size
  clear Rw4 Cw5 Ew5
  replace hx : -1 ≤ x ∧ x ≤ 61 := by simp [litL] at hx; omega
  refine hK.out _ _ ⟨b0, b1⟩ (fun hHeld => ?_)
  clear hK K
  try simp only [Act.put, qa, qb, qc, qD, qE, qF]
  refine qHr 4 rfl (fun K hK => ?_)
  try simp only [Act.put, qa, qb, qc, qD, qE, qF]
  go_simp
  generalize hW4 : ((w5.setCell ⟨w.heap.size, 0, none⟩ (.slice p0 cells.length c0)).setCell ⟨w.heap.size, 1, none⟩ (.slice p1 es.length c1)) = w6 at *
  have Kw6 : Chg (w.heap.size) (w.heap.size + 1) w5 w6 := by subst hW4; exact qCh
  have Xw6 : Ext w w6 := by subst hW4; exact qXt
  replace q0 : w6.cell? ⟨w.heap.size, 0, none⟩ = some (.slice p0 cells.length c0) := by subst hW4; go_simp
  replace f_q0 : w6.frozen? ⟨w.heap.size, 0, none⟩ = false := by subst hW4; first | (simp only [World.frozen?_setCell]; with_reducible assumption) | go_simp
  replace q1 : w6.cell? ⟨w.heap.size, 1, none⟩ = some (.slice p1 es.length c1) := by subst hW4; go_simp
  replace f_q1 : w6.frozen? ⟨w.heap.size, 1, none⟩ = false := by subst hW4; first | (simp only [World.frozen?_setCell]; with_reducible assumption) | go_simp
  replace b0 := Kw6.cell (by omega) b0
  replace f_b0 := Kw6.frzO (by omega) z_b f_b0
  replace b1 := Kw6.cell (by omega) b1
  replace f_b1 := Kw6.frzO (by omega) z_b f_b1
  replace B := B.chg Kw6 (by omega)
  clear Kw6
  have z_q : w.heap.size < w6.heap.size := qB q0
  have z_b : gb < w6.heap.size := qB b0
  have s_w6 : w.heap.size ≤ w6.heap.size := Xw6.size
  clear hW4
  refine hK.out _ _ ⟨b0, b1⟩ (fun hHeld => ?_)
  clear hK K
  try simp only [Act.put, qa, qb, qc, qD, qE, qF]
  refine qHk (v := ?_) 5 rfl (.inl ⟨by rfl, ?_⟩) ?_
  rotate_left
  ·
   (intro w hSw; (try dsimp only at hSw); go_simp; try with_reducible rfl)
  try simp only [Act.put, qa, qb, qc, qD, qE, qF]
  refine wpAnyH_done qKr ?_ _
  clear hHeld
  go_wp2_with fail
  refine bodyPost_ret (v := .tuple #[.agg #[.slice p0 cells.length c0, .slice p1 es.length c1], .int .i64 x]) (by simp only [results, Try.results13]; go_simp) rfl ?_
  exact ⟨cells, es, _, _, _, _, x, rfl, B.ints.lower (by omega), B.exps.lower (by omega), hs, hx, Xw6⟩

end Go.Proofs.Ytgklaobfikbiiaa

/- Helpers of the laws: equal buffers. -/
namespace Go.Proofs.Ytgklaobfikbiiaa
open Go.RowKit
set_option linter.unusedVariables false
set_option maxRecDepth 100000


set_option maxHeartbeats 3200000 in
theorem leqBuf_c (cells : List Int) (es : List Exp) (cv1 ev1 cv2 ev2 : Value) (w : World) (l1 l2 l3 l4 : Nat) (h1 : Ints w l1 cv1 cells) (h2 : Exps w l2 ev1 es) (h3 : Ints w l3 cv2 cells) (h4 : Exps w l4 ev2 es) :
    Calls Try.prog 16 #[.agg #[cv1, ev1], .agg #[cv2, ev2]] w fun e w' => e = .returned (.bool true) ∧ Ext w w' := by
  obtain ⟨a1, c1, rfl⟩ := h1.form
  obtain ⟨a2, c2, rfl⟩ := h2.form
  obtain ⟨a3, c3, rfl⟩ := h3.form
  obtain ⟨a4, c4, rfl⟩ := h4.form
  have hl := h2.len
  go_enter Try.func16, Try.ntmps16
  go_wp2_with fail
  refine (leqInts_c cells _ _ _ _ _ (h1.ext qXt) (h3.ext qXt)).mono ?_
  rintro e w1 ⟨rfl, xw1⟩
  have Lw1 : Ext w w1 := Ext.trans qXt xw1
  have Xw1 : Ext w w1 := Lw1
  have va0 : w1.cell? ⟨w.heap.size, 0, none⟩ = some (.slice a1 cells.length c1) := xw1.cell qCl
  have va1 : w1.cell? ⟨w.heap.size, 1, none⟩ = some (.slice a2 es.length c2) := xw1.cell qCl
  have vb0 : w1.cell? ⟨w.heap.size + 1, 0, none⟩ = some (.slice a3 cells.length c3) := xw1.cell qCl
  have vb1 : w1.cell? ⟨w.heap.size + 1, 1, none⟩ = some (.slice a4 es.length c4) := xw1.cell qCl
  have z_va : w.heap.size < w1.heap.size := qB va0
  have z_vb : w.heap.size + 1 < w1.heap.size := qB vb0
  have s_w1 : w.heap.size ≤ w1.heap.size := Xw1.size
  clear xw1
  replace h2 := h2.ext Xw1
  replace h4 := h4.ext Xw1
  clear h1 h3
  go_wp2_with fail
  go_loopw [5] (fun i wr => ∃ (k : Nat), k ≤ es.length ∧ i = .int .i64 k ∧ Ext w1 wr) (fun i _ => es.length - (intOf i).toNat)
  case atStart => exact ⟨0, Nat.zero_le _, rfl, qXt⟩
  case round =>
    obtain ⟨k, hk, rfl, Lr⟩ := hrel
    have Xr : Ext w wr := Xw1.trans Lr
    replace va0 := Lr.cell va0
    replace va1 := Lr.cell va1
    replace vb0 := Lr.cell vb0
    replace vb1 := Lr.cell vb1
    have z_va : w.heap.size < wr.heap.size := qB va0
    have z_vb : w.heap.size + 1 < wr.heap.size := qB vb0
    have s_wr := Xr.size
    by_cases hlt : k < es.length
    · have hkI : (k : Int) < es.length := by omega
      obtain ⟨b1, o1, u1, d1, u2, d2, rfl, x0, x1, x2, x3, x4, i1, i2⟩ := (h2.ext Lr).at k hlt
      obtain ⟨b2, o2, u3, d3, u4, d4, rfl, y0, y1, y2, y3, y4, i3, i4⟩ := (h4.ext Lr).at k hlt
      clear h2 h4
      obtain ⟨X18, hX18⟩ : ∃ x, expAt es k = x := ⟨_, rfl⟩
      rw [hX18] at x0 x1 x2 x3 x4 i1 i2 y0 y1 y2 y3 y4 i3 i4
      obtain ⟨P13, B14, S15, T16, O17⟩ := X18
      dsimp only at x0 x1 x2 x3 x4 i1 i2 y0 y1 y2 y3 y4 i3 i4
      clear hX18
      have hP : (P13 != P13) = false := by simp
      cases O17
      · have z_x : b1 < wr.heap.size := qB x0
        have z_y : b2 < wr.heap.size := qB y0
        go_upto_region 7 with fail
        generalize hW1 : wr.alloc (.cells #[.int .i64 P13, .int .i64 B14, .slice u1 S15.length d1, .slice u2 T16.length d2, .bool false] TEXPORT) = w3 at *
        have Lw3 : Ext wr w3 := by subst hW1; exact qXt
        have Xw3 : Ext w w3 := Xr.trans Lw3
        replace va0 := Lw3.cell va0
        replace va1 := Lw3.cell va1
        replace vb0 := Lw3.cell vb0
        replace vb1 := Lw3.cell vb1
        replace x0 := Lw3.cell x0
        replace x1 := Lw3.cell x1
        replace x2 := Lw3.cell x2
        replace x3 := Lw3.cell x3
        replace x4 := Lw3.cell x4
        replace y0 := Lw3.cell y0
        replace y1 := Lw3.cell y1
        replace y2 := Lw3.cell y2
        replace y3 := Lw3.cell y3
        replace y4 := Lw3.cell y4
        have p0 : w3.cell? ⟨wr.heap.size, 0, none⟩ = some (.int .i64 P13) := by subst hW1; exact qCl
        have p1 : w3.cell? ⟨wr.heap.size, 1, none⟩ = some (.int .i64 B14) := by subst hW1; exact qCl
        have p2 : w3.cell? ⟨wr.heap.size, 2, none⟩ = some (.slice u1 S15.length d1) := by subst hW1; exact qCl
        have p3 : w3.cell? ⟨wr.heap.size, 3, none⟩ = some (.slice u2 T16.length d2) := by subst hW1; exact qCl
        have p4 : w3.cell? ⟨wr.heap.size, 4, none⟩ = some (.bool false) := by subst hW1; exact qCl
        have z_va : w.heap.size < w3.heap.size := qB va0
        have z_vb : w.heap.size + 1 < w3.heap.size := qB vb0
        have z_x : b1 < w3.heap.size := qB x0
        have z_y : b2 < w3.heap.size := qB y0
        have z_p : wr.heap.size < w3.heap.size := qB p0
        replace i1 := i1.ext Lw3
        replace i2 := i2.ext Lw3
        replace i3 := i3.ext Lw3
        replace i4 := i4.ext Lw3
        have s_w3 : w.heap.size ≤ w3.heap.size := Xw3.size
        have Lr_w3 : Ext w1 w3 := Lr.trans Lw3
        clear hW1
        clear x0 x1 x2 x3 x4
        go_upto_region 8 with fail
        generalize hW2 : w3.alloc (.cells #[.int .i64 P13, .int .i64 B14, .slice u3 S15.length d3, .slice u4 T16.length d4, .bool false] TEXPORT) = w4 at *
        have Lw4 : Ext w3 w4 := by subst hW2; exact qXt
        have Xw4 : Ext w w4 := Xw3.trans Lw4
        replace va0 := Lw4.cell va0
        replace va1 := Lw4.cell va1
        replace vb0 := Lw4.cell vb0
        replace vb1 := Lw4.cell vb1
        replace y0 := Lw4.cell y0
        replace y1 := Lw4.cell y1
        replace y2 := Lw4.cell y2
        replace y3 := Lw4.cell y3
        replace y4 := Lw4.cell y4
        replace p0 := Lw4.cell p0
        replace p1 := Lw4.cell p1
        replace p2 := Lw4.cell p2
        replace p3 := Lw4.cell p3
        replace p4 := Lw4.cell p4
        have q0 : w4.cell? ⟨w3.heap.size, 0, none⟩ = some (.int .i64 P13) := by subst hW2; exact qCl
        have q1 : w4.cell? ⟨w3.heap.size, 1, none⟩ = some (.int .i64 B14) := by subst hW2; exact qCl
        have q2 : w4.cell? ⟨w3.heap.size, 2, none⟩ = some (.slice u3 S15.length d3) := by subst hW2; exact qCl
        have q3 : w4.cell? ⟨w3.heap.size, 3, none⟩ = some (.slice u4 T16.length d4) := by subst hW2; exact qCl
        have q4 : w4.cell? ⟨w3.heap.size, 4, none⟩ = some (.bool false) := by subst hW2; exact qCl
        have z_va : w.heap.size < w4.heap.size := qB va0
        have z_vb : w.heap.size + 1 < w4.heap.size := qB vb0
        have z_y : b2 < w4.heap.size := qB y0
        have z_p : wr.heap.size < w4.heap.size := qB p0
        have z_q : w3.heap.size < w4.heap.size := qB q0
        replace i1 := i1.ext Lw4
        replace i2 := i2.ext Lw4
        replace i3 := i3.ext Lw4
        replace i4 := i4.ext Lw4
        have s_w4 : w.heap.size ≤ w4.heap.size := Xw4.size
        have Lr_w4 : Ext w1 w4 := Lr_w3.trans Lw4
        clear hW2
        clear y0 y1 y2 y3 y4
        go_wp2_with fail
        refine (leqView_c B14 _ _ _ _ S15 T16 _ _ _ _ _ (i1.ext qXt) (i2.ext qXt) (i3.ext qXt) (i4.ext qXt)).mono ?_
        rintro e w5 ⟨rfl, xw5⟩
        have Lw5 : Ext w4 w5 := Ext.trans qXt xw5
        have Xw5 : Ext w w5 := Xw4.trans Lw5
        replace va0 := Lw5.cell va0
        replace va1 := Lw5.cell va1
        replace vb0 := Lw5.cell vb0
        replace vb1 := Lw5.cell vb1
        replace p0 := Lw5.cell p0
        replace p1 := Lw5.cell p1
        replace p2 := Lw5.cell p2
        replace p3 := Lw5.cell p3
        replace p4 := Lw5.cell p4
        replace q0 := Lw5.cell q0
        replace q1 := Lw5.cell q1
        replace q2 := Lw5.cell q2
        replace q3 := Lw5.cell q3
        replace q4 := Lw5.cell q4
        have z_va : w.heap.size < w5.heap.size := qB va0
        have z_vb : w.heap.size + 1 < w5.heap.size := qB vb0
        have z_p : wr.heap.size < w5.heap.size := qB p0
        have z_q : w3.heap.size < w5.heap.size := qB q0
        replace i1 := i1.ext Lw5
        replace i2 := i2.ext Lw5
        replace i3 := i3.ext Lw5
        replace i4 := i4.ext Lw5
        have s_w5 : w.heap.size ≤ w5.heap.size := Xw5.size
        have Lr_w5 : Ext w1 w5 := Lr_w4.trans Lw5
        clear xw5
        go_wp2_with fail
        go_roundw
        case rel => exact ⟨k + 1, by omega, by go_num, (Lr_w5.trans qXt)⟩
        case measure => simp [intOf]; omega
      · have z_x : b1 < wr.heap.size := qB x0
        have z_y : b2 < wr.heap.size := qB y0
        go_upto_region 7 with fail
        generalize hW3 : wr.alloc (.cells #[.int .i64 P13, .int .i64 B14, .slice u1 S15.length d1, .slice u2 T16.length d2, .bool true] TEXPORT) = w3 at *
        have Lw3 : Ext wr w3 := by subst hW3; exact qXt
        have Xw3 : Ext w w3 := Xr.trans Lw3
        replace va0 := Lw3.cell va0
        replace va1 := Lw3.cell va1
        replace vb0 := Lw3.cell vb0
        replace vb1 := Lw3.cell vb1
        replace x0 := Lw3.cell x0
        replace x1 := Lw3.cell x1
        replace x2 := Lw3.cell x2
        replace x3 := Lw3.cell x3
        replace x4 := Lw3.cell x4
        replace y0 := Lw3.cell y0
        replace y1 := Lw3.cell y1
        replace y2 := Lw3.cell y2
        replace y3 := Lw3.cell y3
        replace y4 := Lw3.cell y4
        have p0 : w3.cell? ⟨wr.heap.size, 0, none⟩ = some (.int .i64 P13) := by subst hW3; exact qCl
        have p1 : w3.cell? ⟨wr.heap.size, 1, none⟩ = some (.int .i64 B14) := by subst hW3; exact qCl
        have p2 : w3.cell? ⟨wr.heap.size, 2, none⟩ = some (.slice u1 S15.length d1) := by subst hW3; exact qCl
        have p3 : w3.cell? ⟨wr.heap.size, 3, none⟩ = some (.slice u2 T16.length d2) := by subst hW3; exact qCl
        have p4 : w3.cell? ⟨wr.heap.size, 4, none⟩ = some (.bool true) := by subst hW3; exact qCl
        have z_va : w.heap.size < w3.heap.size := qB va0
        have z_vb : w.heap.size + 1 < w3.heap.size := qB vb0
        have z_x : b1 < w3.heap.size := qB x0
        have z_y : b2 < w3.heap.size := qB y0
        have z_p : wr.heap.size < w3.heap.size := qB p0
        replace i1 := i1.ext Lw3
        replace i2 := i2.ext Lw3
        replace i3 := i3.ext Lw3
        replace i4 := i4.ext Lw3
        have s_w3 : w.heap.size ≤ w3.heap.size := Xw3.size
        have Lr_w3 : Ext w1 w3 := Lr.trans Lw3
        clear hW3
        clear x0 x1 x2 x3 x4
        go_upto_region 8 with fail
        generalize hW4 : w3.alloc (.cells #[.int .i64 P13, .int .i64 B14, .slice u3 S15.length d3, .slice u4 T16.length d4, .bool true] TEXPORT) = w4 at *
        have Lw4 : Ext w3 w4 := by subst hW4; exact qXt
        have Xw4 : Ext w w4 := Xw3.trans Lw4
        replace va0 := Lw4.cell va0
        replace va1 := Lw4.cell va1
        replace vb0 := Lw4.cell vb0
        replace vb1 := Lw4.cell vb1
        replace y0 := Lw4.cell y0
        replace y1 := Lw4.cell y1
        replace y2 := Lw4.cell y2
        replace y3 := Lw4.cell y3
        replace y4 := Lw4.cell y4
        replace p0 := Lw4.cell p0
        replace p1 := Lw4.cell p1
        replace p2 := Lw4.cell p2
        replace p3 := Lw4.cell p3
        replace p4 := Lw4.cell p4
        have q0 : w4.cell? ⟨w3.heap.size, 0, none⟩ = some (.int .i64 P13) := by subst hW4; exact qCl
        have q1 : w4.cell? ⟨w3.heap.size, 1, none⟩ = some (.int .i64 B14) := by subst hW4; exact qCl
        have q2 : w4.cell? ⟨w3.heap.size, 2, none⟩ = some (.slice u3 S15.length d3) := by subst hW4; exact qCl
        have q3 : w4.cell? ⟨w3.heap.size, 3, none⟩ = some (.slice u4 T16.length d4) := by subst hW4; exact qCl
        have q4 : w4.cell? ⟨w3.heap.size, 4, none⟩ = some (.bool true) := by subst hW4; exact qCl
        have z_va : w.heap.size < w4.heap.size := qB va0
        have z_vb : w.heap.size + 1 < w4.heap.size := qB vb0
        have z_y : b2 < w4.heap.size := qB y0
        have z_p : wr.heap.size < w4.heap.size := qB p0
        have z_q : w3.heap.size < w4.heap.size := qB q0
        replace i1 := i1.ext Lw4
        replace i2 := i2.ext Lw4
        replace i3 := i3.ext Lw4
        replace i4 := i4.ext Lw4
        have s_w4 : w.heap.size ≤ w4.heap.size := Xw4.size
        have Lr_w4 : Ext w1 w4 := Lr_w3.trans Lw4
        clear hW4
        clear y0 y1 y2 y3 y4
        go_wp2_with fail
        refine (leqView_c B14 _ _ _ _ S15 T16 _ _ _ _ _ (i1.ext qXt) (i2.ext qXt) (i3.ext qXt) (i4.ext qXt)).mono ?_
        rintro e w5 ⟨rfl, xw5⟩
        have Lw5 : Ext w4 w5 := Ext.trans qXt xw5
        have Xw5 : Ext w w5 := Xw4.trans Lw5
        replace va0 := Lw5.cell va0
        replace va1 := Lw5.cell va1
        replace vb0 := Lw5.cell vb0
        replace vb1 := Lw5.cell vb1
        replace p0 := Lw5.cell p0
        replace p1 := Lw5.cell p1
        replace p2 := Lw5.cell p2
        replace p3 := Lw5.cell p3
        replace p4 := Lw5.cell p4
        replace q0 := Lw5.cell q0
        replace q1 := Lw5.cell q1
        replace q2 := Lw5.cell q2
        replace q3 := Lw5.cell q3
        replace q4 := Lw5.cell q4
        have z_va : w.heap.size < w5.heap.size := qB va0
        have z_vb : w.heap.size + 1 < w5.heap.size := qB vb0
        have z_p : wr.heap.size < w5.heap.size := qB p0
        have z_q : w3.heap.size < w5.heap.size := qB q0
        replace i1 := i1.ext Lw5
        replace i2 := i2.ext Lw5
        replace i3 := i3.ext Lw5
        replace i4 := i4.ext Lw5
        have s_w5 : w.heap.size ≤ w5.heap.size := Xw5.size
        have Lr_w5 : Ext w1 w5 := Lr_w4.trans Lw5
        clear xw5
        go_wp2_with fail
        go_roundw
        case rel => exact ⟨k + 1, by omega, by go_num, (Lr_w5.trans qXt)⟩
        case measure => simp [intOf]; omega
    · obtain rfl : k = es.length := by omega
      have hkI : ¬ (es.length : Int) < (es.length : Int) := by omega
      go_wp2_with fail
      go_ret
      exact ⟨rfl, Xr.trans qXt⟩

end Go.Proofs.Ytgklaobfikbiiaa

/- Plain laws on buffers: open exports, kids, closed exports. No condition. -/
namespace Go.Proofs.Ytgklaobfikbiiaa
open Go.RowKit
set_option linter.unusedVariables false
set_option maxRecDepth 100000

theorem openA_of {cells : List Int} {es : List Exp} (h : bufB cells es = true) : openA cells es = selL opP es es.length := by unfold openA; rw [h]; rfl
/-- a buffer of another size -/
theorem res_law {cells : List Int} {es : List Exp} {n : Int} {B : List Int} {E : List Exp} {ok : Bool} (h : resA cells es n = (B, E, ok)) (hb : bufB cells es = true) (h0 : 0 ≤ n) (h60 : n ≤ 60) :
    (ok = false → 0 < (openA cells es).length) ∧ (ok = true → (openA cells es).length = 0 ∧ B.take (min n.toNat cells.length) = cells.take (min n.toNat cells.length) ∧ (B.length : Int) = n ∧ bufB B E = true) := by
  have hin : inB 0 60 n = true := by unfold inB; simp [h0, h60]
  rw [openA_of hb]
  constructor
  · rintro rfl
    unfold resA at h
    rw [hb, hin] at h
    by_cases hz : (selL opP es es.length).length = 0
    · rw [decide_eq_true hz] at h
      simp at h
    · omega
  · rintro rfl
    have hv := resA_valid (show (resA cells es n).2.2 = true by rw [h])
    rw [h] at hv
    unfold resA at h
    split at h
    · rename_i hc
      simp only [Bool.and_eq_true, decide_eq_true_eq] at hc
      simp only [Prod.mk.injEq, and_true] at h
      obtain ⟨rfl, rfl⟩ := h
      refine ⟨hc.2.2, ?_, by rw [fitL_len]; omega, hv⟩
      unfold fitL
      rw [List.take_append_of_le_length (by rw [List.length_take]; omega), List.take_take, Nat.min_eq_left (by omega)]
    · cases h
end Go.Proofs.Ytgklaobfikbiiaa

/- FnResizeBuffer returns true for all bytes: no condition. -/
namespace Go.Proofs.Ytgklaobfikbiiaa
open Go.RowKit
set_option linter.unusedVariables false
set_option maxRecDepth 100000

set_option maxHeartbeats 6400000 in
theorem lawFnResizeBuffer_c (a : Option Addr) (n cap : Nat) (w : World) (hb : BysIn w a n cap) :
  Calls Try.prog 4 #[.slice a n cap] w fun e w' => e = .returned (.bool true) ∧ Ext w w' := by
 have hcm := hb.1
 have hcm2 := hb.2.1
 unfold maxLen at hcm2
 go_enter Try.func4, Try.ntmps4
 by_cases hc1 : (1048576 : Int) < (n : Int)
 ·
  go_wp2_with fail
  go_ret
  exact ⟨rfl, qXo⟩
 ·
  go_wp2_with fail
  refine (drawResizeBuffer_c a n cap _ hb).mono ?_
  rintro e w1 ⟨cells, es, p0, p1, c0, c1, x, rfl, i1, i2, hs, hx5, xw1⟩
  have Lw1 : Ext w w1 := Ext.trans qXt xw1
  have Xw1 : Ext w w1 := Lw1
  have s_w1 : w.heap.size ≤ w1.heap.size := Xw1.size
  clear xw1
  clear hb
  have hc61 := hs.out.1
  have he9 := hs.out.2.1
  obtain ⟨RB, RE, RO, hR⟩ : ∃ RB RE RO, resA cells es x = (RB, RE, RO) := ⟨_, _, _, rfl⟩
  rcases (show ((x < 0 ∨ 60 < x) ∧ RO = false) ∨ ((x < 0 ∨ 60 < x) ∧ RO = true) ∨ (0 ≤ x ∧ x ≤ 60 ∧ RO = false) ∨ (0 ≤ x ∧ x ≤ 60 ∧ RO = true ∧ x ≤ (cells.length : Int)) ∨ (0 ≤ x ∧ x ≤ 60 ∧ RO = true ∧ (cells.length : Int) < x) by cases RO <;> simp <;> omega) with ⟨hxo, hRO⟩ | ⟨hxo, hRO⟩ | ⟨hx0, hx6, hRO⟩ | ⟨hx0, hx6, hRO, hxl⟩ | ⟨hx0, hx6, hRO, hxl⟩
  ·
   obtain rfl : RO = false := by simpa using hRO
   replace hR := Lib.hid hR
   go_wp2_with fail
   refine (pbx_eq hR.out (implResizeBuffer_c cells es (.slice p0 cells.length c0) (.slice p1 es.length c1) x _ _ _ (i1.ext qXt) (i2.ext qXt))).mono ?_
   rintro e w2 ⟨cvfb4, evfb4, R5, rfl, bf3, xw2⟩
   have Lw2 : Ext w1 w2 := Ext.trans qXt xw2
   have Xw2 : Ext w w2 := Xw1.trans Lw2
   have b20 : w2.cell? ⟨w1.heap.size, 0, none⟩ = some (.slice p0 cells.length c0) := xw2.cell qCl
   have b21 : w2.cell? ⟨w1.heap.size, 1, none⟩ = some (.slice p1 es.length c1) := xw2.cell qCl
   have z_b2 : w1.heap.size < w2.heap.size := qB b20
   replace i1 := i1.ext Lw2
   replace i2 := i2.ext Lw2
   have s_w2 : w.heap.size ≤ w2.heap.size := Xw2.size
   clear xw2
   replace bf3 := bf3.lower (lo' := w1.heap.size + 1) qSo
   obtain ⟨afb4, cfb4, rfl⟩ := bf3.ints.form
   obtain ⟨efb4, dfb4, rfl⟩ := bf3.exps.form
   have q_bf3 := Lib.hid bf3.at
   go_wp2_with fail
   refine (pbx_eq hR.out (specResizeBuffer_c cells es (.slice p0 cells.length c0) (.slice p1 es.length c1) x _ _ _ (i1.ext qXt) (i2.ext qXt))).mono ?_
   rintro e w3 ⟨cvfb8, evfb8, R9, rfl, bf7, xw3⟩
   have Lw3 : Ext w2 w3 := Ext.trans qXt xw3
   have Xw3 : Ext w w3 := Xw2.trans Lw3
   replace b20 := Lw3.cell b20
   replace b21 := Lw3.cell b21
   have b60 : w3.cell? ⟨w2.heap.size, 0, none⟩ = some (.slice afb4 RB.length cfb4) := xw3.cell qCl
   have b61 : w3.cell? ⟨w2.heap.size, 1, none⟩ = some (.slice efb4 RE.length dfb4) := xw3.cell qCl
   have z_b2 : w1.heap.size < w3.heap.size := qB b20
   have z_b6 : w2.heap.size < w3.heap.size := qB b60
   replace i1 := i1.ext Lw3
   replace i2 := i2.ext Lw3
   replace bf3 := bf3.ext Lw3
   have s_w3 : w.heap.size ≤ w3.heap.size := Xw3.size
   clear xw3
   replace bf7 := bf7.lower (lo' := w2.heap.size + 1) qSo
   obtain ⟨afb8, cfb8, rfl⟩ := bf7.ints.form
   obtain ⟨efb8, dfb8, rfl⟩ := bf7.exps.form
   have q_bf7 := Lib.hid bf7.at
   go_wp2_with fail
   refine (leqBuf_c RB RE (.slice afb4 RB.length cfb4) (.slice efb4 RE.length dfb4) (.slice afb8 RB.length cfb8) (.slice efb8 RE.length dfb8) _ _ _ _ _ (bf3.ints.ext qXt) (bf3.exps.ext qXt) (bf7.ints.ext qXt) (bf7.exps.ext qXt)).mono ?_
   rintro e w4 ⟨rfl, xw4⟩
   have Lw4 : Ext w3 w4 := Ext.trans qXt xw4
   have Xw4 : Ext w w4 := Xw3.trans Lw4
   replace b20 := Lw4.cell b20
   replace b21 := Lw4.cell b21
   replace b60 := Lw4.cell b60
   replace b61 := Lw4.cell b61
   have b100 : w4.cell? ⟨w3.heap.size, 0, none⟩ = some (.slice afb8 RB.length cfb8) := xw4.cell qCl
   have b101 : w4.cell? ⟨w3.heap.size, 1, none⟩ = some (.slice efb8 RE.length dfb8) := xw4.cell qCl
   have z_b2 : w1.heap.size < w4.heap.size := qB b20
   have z_b6 : w2.heap.size < w4.heap.size := qB b60
   have z_b10 : w3.heap.size < w4.heap.size := qB b100
   replace i1 := i1.ext Lw4
   replace i2 := i2.ext Lw4
   replace bf3 := bf3.ext Lw4
   replace bf7 := bf7.ext Lw4
   have s_w4 : w.heap.size ≤ w4.heap.size := Xw4.size
   clear xw4
   go_wp2_with fail
   refine (implValidBuffer_c cells es (.slice p0 cells.length c0) (.slice p1 es.length c1) _ _ _ (i1.ext qXt) (i2.ext qXt)).mono ?_
   rintro e w5 ⟨rfl, xw5⟩
   have Lw5 : Ext w4 w5 := Ext.trans qXt xw5
   have Xw5 : Ext w w5 := Xw4.trans Lw5
   replace b20 := Lw5.cell b20
   replace b21 := Lw5.cell b21
   replace b60 := Lw5.cell b60
   replace b61 := Lw5.cell b61
   replace b100 := Lw5.cell b100
   replace b101 := Lw5.cell b101
   have z_b2 : w1.heap.size < w5.heap.size := qB b20
   have z_b6 : w2.heap.size < w5.heap.size := qB b60
   have z_b10 : w3.heap.size < w5.heap.size := qB b100
   replace i1 := i1.ext Lw5
   replace i2 := i2.ext Lw5
   replace bf3 := bf3.ext Lw5
   replace bf7 := bf7.ext Lw5
   have s_w5 : w.heap.size ≤ w5.heap.size := Xw5.size
   clear xw5
   cases hB11 : bufB cells es
   ·
    replace hB11 := Lib.hid hB11
    go_wp2_with fail
    refine (leqBuf_c RB RE (.slice afb4 RB.length cfb4) (.slice efb4 RE.length dfb4) (.slice afb8 RB.length cfb8) (.slice efb8 RE.length dfb8) _ _ _ _ _ (bf3.ints.ext qXt) (bf3.exps.ext qXt) (bf7.ints.ext qXt) (bf7.exps.ext qXt)).mono ?_
    rintro e w6 ⟨rfl, xw6⟩
    have Lw6 : Ext w5 w6 := Ext.trans qXt xw6
    have Xw6 : Ext w w6 := Xw5.trans Lw6
    replace b20 := Lw6.cell b20
    replace b21 := Lw6.cell b21
    replace b60 := Lw6.cell b60
    replace b61 := Lw6.cell b61
    replace b100 := Lw6.cell b100
    replace b101 := Lw6.cell b101
    have z_b2 : w1.heap.size < w6.heap.size := qB b20
    have z_b6 : w2.heap.size < w6.heap.size := qB b60
    have z_b10 : w3.heap.size < w6.heap.size := qB b100
    replace i1 := i1.ext Lw6
    replace i2 := i2.ext Lw6
    replace bf3 := bf3.ext Lw6
    replace bf7 := bf7.ext Lw6
    have s_w6 : w.heap.size ≤ w6.heap.size := Xw6.size
    clear xw6
    go_wp2_with fail
    go_ret
    exact ⟨rfl, (Xw6.trans qXt)⟩
   ·
    replace hB11 := Lib.hid hB11
    by_cases hc12 : (x : Int) < (0 : Int)
    ·
     go_wp2_with fail
     refine (leqBuf_c RB RE (.slice afb4 RB.length cfb4) (.slice efb4 RE.length dfb4) (.slice afb8 RB.length cfb8) (.slice efb8 RE.length dfb8) _ _ _ _ _ (bf3.ints.ext qXt) (bf3.exps.ext qXt) (bf7.ints.ext qXt) (bf7.exps.ext qXt)).mono ?_
     rintro e w6 ⟨rfl, xw6⟩
     have Lw6 : Ext w5 w6 := Ext.trans qXt xw6
     have Xw6 : Ext w w6 := Xw5.trans Lw6
     replace b20 := Lw6.cell b20
     replace b21 := Lw6.cell b21
     replace b60 := Lw6.cell b60
     replace b61 := Lw6.cell b61
     replace b100 := Lw6.cell b100
     replace b101 := Lw6.cell b101
     have z_b2 : w1.heap.size < w6.heap.size := qB b20
     have z_b6 : w2.heap.size < w6.heap.size := qB b60
     have z_b10 : w3.heap.size < w6.heap.size := qB b100
     replace i1 := i1.ext Lw6
     replace i2 := i2.ext Lw6
     replace bf3 := bf3.ext Lw6
     replace bf7 := bf7.ext Lw6
     have s_w6 : w.heap.size ≤ w6.heap.size := Xw6.size
     clear xw6
     go_wp2_with fail
     go_ret
     exact ⟨rfl, (Xw6.trans qXt)⟩
    ·
     have hq13 : (60 : Int) < (x : Int) := (by omega)
     go_wp2_with fail
     refine (leqBuf_c RB RE (.slice afb4 RB.length cfb4) (.slice efb4 RE.length dfb4) (.slice afb8 RB.length cfb8) (.slice efb8 RE.length dfb8) _ _ _ _ _ (bf3.ints.ext qXt) (bf3.exps.ext qXt) (bf7.ints.ext qXt) (bf7.exps.ext qXt)).mono ?_
     rintro e w6 ⟨rfl, xw6⟩
     have Lw6 : Ext w5 w6 := Ext.trans qXt xw6
     have Xw6 : Ext w w6 := Xw5.trans Lw6
     replace b20 := Lw6.cell b20
     replace b21 := Lw6.cell b21
     replace b60 := Lw6.cell b60
     replace b61 := Lw6.cell b61
     replace b100 := Lw6.cell b100
     replace b101 := Lw6.cell b101
     have z_b2 : w1.heap.size < w6.heap.size := qB b20
     have z_b6 : w2.heap.size < w6.heap.size := qB b60
     have z_b10 : w3.heap.size < w6.heap.size := qB b100
     replace i1 := i1.ext Lw6
     replace i2 := i2.ext Lw6
     replace bf3 := bf3.ext Lw6
     replace bf7 := bf7.ext Lw6
     have s_w6 : w.heap.size ≤ w6.heap.size := Xw6.size
     clear xw6
     go_wp2_with fail
     go_ret
     exact ⟨rfl, (Xw6.trans qXt)⟩
  ·
   obtain rfl : RO = true := by simpa using hRO
   replace hR := Lib.hid hR
   go_wp2_with fail
   refine (pbx_eq hR.out (implResizeBuffer_c cells es (.slice p0 cells.length c0) (.slice p1 es.length c1) x _ _ _ (i1.ext qXt) (i2.ext qXt))).mono ?_
   rintro e w2 ⟨cvfb16, evfb16, R17, rfl, bf15, xw2⟩
   have Lw2 : Ext w1 w2 := Ext.trans qXt xw2
   have Xw2 : Ext w w2 := Xw1.trans Lw2
   have b140 : w2.cell? ⟨w1.heap.size, 0, none⟩ = some (.slice p0 cells.length c0) := xw2.cell qCl
   have b141 : w2.cell? ⟨w1.heap.size, 1, none⟩ = some (.slice p1 es.length c1) := xw2.cell qCl
   have z_b14 : w1.heap.size < w2.heap.size := qB b140
   replace i1 := i1.ext Lw2
   replace i2 := i2.ext Lw2
   have s_w2 : w.heap.size ≤ w2.heap.size := Xw2.size
   clear xw2
   replace bf15 := bf15.lower (lo' := w1.heap.size + 1) qSo
   obtain ⟨afb16, cfb16, rfl⟩ := bf15.ints.form
   obtain ⟨efb16, dfb16, rfl⟩ := bf15.exps.form
   have q_bf15 := Lib.hid bf15.at
   go_wp2_with fail
   refine (pbx_eq hR.out (specResizeBuffer_c cells es (.slice p0 cells.length c0) (.slice p1 es.length c1) x _ _ _ (i1.ext qXt) (i2.ext qXt))).mono ?_
   rintro e w3 ⟨cvfb20, evfb20, R21, rfl, bf19, xw3⟩
   have Lw3 : Ext w2 w3 := Ext.trans qXt xw3
   have Xw3 : Ext w w3 := Xw2.trans Lw3
   replace b140 := Lw3.cell b140
   replace b141 := Lw3.cell b141
   have b180 : w3.cell? ⟨w2.heap.size, 0, none⟩ = some (.slice afb16 RB.length cfb16) := xw3.cell qCl
   have b181 : w3.cell? ⟨w2.heap.size, 1, none⟩ = some (.slice efb16 RE.length dfb16) := xw3.cell qCl
   have z_b14 : w1.heap.size < w3.heap.size := qB b140
   have z_b18 : w2.heap.size < w3.heap.size := qB b180
   replace i1 := i1.ext Lw3
   replace i2 := i2.ext Lw3
   replace bf15 := bf15.ext Lw3
   have s_w3 : w.heap.size ≤ w3.heap.size := Xw3.size
   clear xw3
   replace bf19 := bf19.lower (lo' := w2.heap.size + 1) qSo
   obtain ⟨afb20, cfb20, rfl⟩ := bf19.ints.form
   obtain ⟨efb20, dfb20, rfl⟩ := bf19.exps.form
   have q_bf19 := Lib.hid bf19.at
   go_wp2_with fail
   refine (leqBuf_c RB RE (.slice afb16 RB.length cfb16) (.slice efb16 RE.length dfb16) (.slice afb20 RB.length cfb20) (.slice efb20 RE.length dfb20) _ _ _ _ _ (bf15.ints.ext qXt) (bf15.exps.ext qXt) (bf19.ints.ext qXt) (bf19.exps.ext qXt)).mono ?_
   rintro e w4 ⟨rfl, xw4⟩
   have Lw4 : Ext w3 w4 := Ext.trans qXt xw4
   have Xw4 : Ext w w4 := Xw3.trans Lw4
   replace b140 := Lw4.cell b140
   replace b141 := Lw4.cell b141
   replace b180 := Lw4.cell b180
   replace b181 := Lw4.cell b181
   have b220 : w4.cell? ⟨w3.heap.size, 0, none⟩ = some (.slice afb20 RB.length cfb20) := xw4.cell qCl
   have b221 : w4.cell? ⟨w3.heap.size, 1, none⟩ = some (.slice efb20 RE.length dfb20) := xw4.cell qCl
   have z_b14 : w1.heap.size < w4.heap.size := qB b140
   have z_b18 : w2.heap.size < w4.heap.size := qB b180
   have z_b22 : w3.heap.size < w4.heap.size := qB b220
   replace i1 := i1.ext Lw4
   replace i2 := i2.ext Lw4
   replace bf15 := bf15.ext Lw4
   replace bf19 := bf19.ext Lw4
   have s_w4 : w.heap.size ≤ w4.heap.size := Xw4.size
   clear xw4
   go_wp2_with fail
   refine (implValidBuffer_c cells es (.slice p0 cells.length c0) (.slice p1 es.length c1) _ _ _ (i1.ext qXt) (i2.ext qXt)).mono ?_
   rintro e w5 ⟨rfl, xw5⟩
   have Lw5 : Ext w4 w5 := Ext.trans qXt xw5
   have Xw5 : Ext w w5 := Xw4.trans Lw5
   replace b140 := Lw5.cell b140
   replace b141 := Lw5.cell b141
   replace b180 := Lw5.cell b180
   replace b181 := Lw5.cell b181
   replace b220 := Lw5.cell b220
   replace b221 := Lw5.cell b221
   have z_b14 : w1.heap.size < w5.heap.size := qB b140
   have z_b18 : w2.heap.size < w5.heap.size := qB b180
   have z_b22 : w3.heap.size < w5.heap.size := qB b220
   replace i1 := i1.ext Lw5
   replace i2 := i2.ext Lw5
   replace bf15 := bf15.ext Lw5
   replace bf19 := bf19.ext Lw5
   have s_w5 : w.heap.size ≤ w5.heap.size := Xw5.size
   clear xw5
   cases hB23 : bufB cells es
   ·
    replace hB23 := Lib.hid hB23
    go_wp2_with fail
    refine (leqBuf_c RB RE (.slice afb16 RB.length cfb16) (.slice efb16 RE.length dfb16) (.slice afb20 RB.length cfb20) (.slice efb20 RE.length dfb20) _ _ _ _ _ (bf15.ints.ext qXt) (bf15.exps.ext qXt) (bf19.ints.ext qXt) (bf19.exps.ext qXt)).mono ?_
    rintro e w6 ⟨rfl, xw6⟩
    have Lw6 : Ext w5 w6 := Ext.trans qXt xw6
    have Xw6 : Ext w w6 := Xw5.trans Lw6
    replace b140 := Lw6.cell b140
    replace b141 := Lw6.cell b141
    replace b180 := Lw6.cell b180
    replace b181 := Lw6.cell b181
    replace b220 := Lw6.cell b220
    replace b221 := Lw6.cell b221
    have z_b14 : w1.heap.size < w6.heap.size := qB b140
    have z_b18 : w2.heap.size < w6.heap.size := qB b180
    have z_b22 : w3.heap.size < w6.heap.size := qB b220
    replace i1 := i1.ext Lw6
    replace i2 := i2.ext Lw6
    replace bf15 := bf15.ext Lw6
    replace bf19 := bf19.ext Lw6
    have s_w6 : w.heap.size ≤ w6.heap.size := Xw6.size
    clear xw6
    go_wp2_with fail
    go_ret
    exact ⟨rfl, (Xw6.trans qXt)⟩
   ·
    replace hB23 := Lib.hid hB23
    by_cases hc24 : (x : Int) < (0 : Int)
    ·
     go_wp2_with fail
     refine (leqBuf_c RB RE (.slice afb16 RB.length cfb16) (.slice efb16 RE.length dfb16) (.slice afb20 RB.length cfb20) (.slice efb20 RE.length dfb20) _ _ _ _ _ (bf15.ints.ext qXt) (bf15.exps.ext qXt) (bf19.ints.ext qXt) (bf19.exps.ext qXt)).mono ?_
     rintro e w6 ⟨rfl, xw6⟩
     have Lw6 : Ext w5 w6 := Ext.trans qXt xw6
     have Xw6 : Ext w w6 := Xw5.trans Lw6
     replace b140 := Lw6.cell b140
     replace b141 := Lw6.cell b141
     replace b180 := Lw6.cell b180
     replace b181 := Lw6.cell b181
     replace b220 := Lw6.cell b220
     replace b221 := Lw6.cell b221
     have z_b14 : w1.heap.size < w6.heap.size := qB b140
     have z_b18 : w2.heap.size < w6.heap.size := qB b180
     have z_b22 : w3.heap.size < w6.heap.size := qB b220
     replace i1 := i1.ext Lw6
     replace i2 := i2.ext Lw6
     replace bf15 := bf15.ext Lw6
     replace bf19 := bf19.ext Lw6
     have s_w6 : w.heap.size ≤ w6.heap.size := Xw6.size
     clear xw6
     go_wp2_with fail
     go_ret
     exact ⟨rfl, (Xw6.trans qXt)⟩
    ·
     have hq25 : (60 : Int) < (x : Int) := (by omega)
     go_wp2_with fail
     refine (leqBuf_c RB RE (.slice afb16 RB.length cfb16) (.slice efb16 RE.length dfb16) (.slice afb20 RB.length cfb20) (.slice efb20 RE.length dfb20) _ _ _ _ _ (bf15.ints.ext qXt) (bf15.exps.ext qXt) (bf19.ints.ext qXt) (bf19.exps.ext qXt)).mono ?_
     rintro e w6 ⟨rfl, xw6⟩
     have Lw6 : Ext w5 w6 := Ext.trans qXt xw6
     have Xw6 : Ext w w6 := Xw5.trans Lw6
     replace b140 := Lw6.cell b140
     replace b141 := Lw6.cell b141
     replace b180 := Lw6.cell b180
     replace b181 := Lw6.cell b181
     replace b220 := Lw6.cell b220
     replace b221 := Lw6.cell b221
     have z_b14 : w1.heap.size < w6.heap.size := qB b140
     have z_b18 : w2.heap.size < w6.heap.size := qB b180
     have z_b22 : w3.heap.size < w6.heap.size := qB b220
     replace i1 := i1.ext Lw6
     replace i2 := i2.ext Lw6
     replace bf15 := bf15.ext Lw6
     replace bf19 := bf19.ext Lw6
     have s_w6 : w.heap.size ≤ w6.heap.size := Xw6.size
     clear xw6
     go_wp2_with fail
     go_ret
     exact ⟨rfl, (Xw6.trans qXt)⟩
  ·
   obtain ⟨m, rfl⟩ : ∃ m : Nat, x = m := ⟨x.toNat, by omega⟩
   obtain rfl : RO = false := by simpa using hRO
   replace hR := Lib.hid hR
   go_wp2_with fail
   refine (pbx_eq hR.out (implResizeBuffer_c cells es (.slice p0 cells.length c0) (.slice p1 es.length c1) (m : Int) _ _ _ (i1.ext qXt) (i2.ext qXt))).mono ?_
   rintro e w2 ⟨cvfb28, evfb28, R29, rfl, bf27, xw2⟩
   have Lw2 : Ext w1 w2 := Ext.trans qXt xw2
   have Xw2 : Ext w w2 := Xw1.trans Lw2
   have b260 : w2.cell? ⟨w1.heap.size, 0, none⟩ = some (.slice p0 cells.length c0) := xw2.cell qCl
   have b261 : w2.cell? ⟨w1.heap.size, 1, none⟩ = some (.slice p1 es.length c1) := xw2.cell qCl
   have z_b26 : w1.heap.size < w2.heap.size := qB b260
   replace i1 := i1.ext Lw2
   replace i2 := i2.ext Lw2
   have s_w2 : w.heap.size ≤ w2.heap.size := Xw2.size
   clear xw2
   replace bf27 := bf27.lower (lo' := w1.heap.size + 1) qSo
   obtain ⟨afb28, cfb28, rfl⟩ := bf27.ints.form
   obtain ⟨efb28, dfb28, rfl⟩ := bf27.exps.form
   have q_bf27 := Lib.hid bf27.at
   go_wp2_with fail
   refine (pbx_eq hR.out (specResizeBuffer_c cells es (.slice p0 cells.length c0) (.slice p1 es.length c1) (m : Int) _ _ _ (i1.ext qXt) (i2.ext qXt))).mono ?_
   rintro e w3 ⟨cvfb32, evfb32, R33, rfl, bf31, xw3⟩
   have Lw3 : Ext w2 w3 := Ext.trans qXt xw3
   have Xw3 : Ext w w3 := Xw2.trans Lw3
   replace b260 := Lw3.cell b260
   replace b261 := Lw3.cell b261
   have b300 : w3.cell? ⟨w2.heap.size, 0, none⟩ = some (.slice afb28 RB.length cfb28) := xw3.cell qCl
   have b301 : w3.cell? ⟨w2.heap.size, 1, none⟩ = some (.slice efb28 RE.length dfb28) := xw3.cell qCl
   have z_b26 : w1.heap.size < w3.heap.size := qB b260
   have z_b30 : w2.heap.size < w3.heap.size := qB b300
   replace i1 := i1.ext Lw3
   replace i2 := i2.ext Lw3
   replace bf27 := bf27.ext Lw3
   have s_w3 : w.heap.size ≤ w3.heap.size := Xw3.size
   clear xw3
   replace bf31 := bf31.lower (lo' := w2.heap.size + 1) qSo
   obtain ⟨afb32, cfb32, rfl⟩ := bf31.ints.form
   obtain ⟨efb32, dfb32, rfl⟩ := bf31.exps.form
   have q_bf31 := Lib.hid bf31.at
   go_wp2_with fail
   refine (leqBuf_c RB RE (.slice afb28 RB.length cfb28) (.slice efb28 RE.length dfb28) (.slice afb32 RB.length cfb32) (.slice efb32 RE.length dfb32) _ _ _ _ _ (bf27.ints.ext qXt) (bf27.exps.ext qXt) (bf31.ints.ext qXt) (bf31.exps.ext qXt)).mono ?_
   rintro e w4 ⟨rfl, xw4⟩
   have Lw4 : Ext w3 w4 := Ext.trans qXt xw4
   have Xw4 : Ext w w4 := Xw3.trans Lw4
   replace b260 := Lw4.cell b260
   replace b261 := Lw4.cell b261
   replace b300 := Lw4.cell b300
   replace b301 := Lw4.cell b301
   have b340 : w4.cell? ⟨w3.heap.size, 0, none⟩ = some (.slice afb32 RB.length cfb32) := xw4.cell qCl
   have b341 : w4.cell? ⟨w3.heap.size, 1, none⟩ = some (.slice efb32 RE.length dfb32) := xw4.cell qCl
   have z_b26 : w1.heap.size < w4.heap.size := qB b260
   have z_b30 : w2.heap.size < w4.heap.size := qB b300
   have z_b34 : w3.heap.size < w4.heap.size := qB b340
   replace i1 := i1.ext Lw4
   replace i2 := i2.ext Lw4
   replace bf27 := bf27.ext Lw4
   replace bf31 := bf31.ext Lw4
   have s_w4 : w.heap.size ≤ w4.heap.size := Xw4.size
   clear xw4
   go_wp2_with fail
   refine (implValidBuffer_c cells es (.slice p0 cells.length c0) (.slice p1 es.length c1) _ _ _ (i1.ext qXt) (i2.ext qXt)).mono ?_
   rintro e w5 ⟨rfl, xw5⟩
   have Lw5 : Ext w4 w5 := Ext.trans qXt xw5
   have Xw5 : Ext w w5 := Xw4.trans Lw5
   replace b260 := Lw5.cell b260
   replace b261 := Lw5.cell b261
   replace b300 := Lw5.cell b300
   replace b301 := Lw5.cell b301
   replace b340 := Lw5.cell b340
   replace b341 := Lw5.cell b341
   have z_b26 : w1.heap.size < w5.heap.size := qB b260
   have z_b30 : w2.heap.size < w5.heap.size := qB b300
   have z_b34 : w3.heap.size < w5.heap.size := qB b340
   replace i1 := i1.ext Lw5
   replace i2 := i2.ext Lw5
   replace bf27 := bf27.ext Lw5
   replace bf31 := bf31.ext Lw5
   have s_w5 : w.heap.size ≤ w5.heap.size := Xw5.size
   clear xw5
   cases hB35 : bufB cells es
   ·
    replace hB35 := Lib.hid hB35
    go_wp2_with fail
    refine (leqBuf_c RB RE (.slice afb28 RB.length cfb28) (.slice efb28 RE.length dfb28) (.slice afb32 RB.length cfb32) (.slice efb32 RE.length dfb32) _ _ _ _ _ (bf27.ints.ext qXt) (bf27.exps.ext qXt) (bf31.ints.ext qXt) (bf31.exps.ext qXt)).mono ?_
    rintro e w6 ⟨rfl, xw6⟩
    have Lw6 : Ext w5 w6 := Ext.trans qXt xw6
    have Xw6 : Ext w w6 := Xw5.trans Lw6
    replace b260 := Lw6.cell b260
    replace b261 := Lw6.cell b261
    replace b300 := Lw6.cell b300
    replace b301 := Lw6.cell b301
    replace b340 := Lw6.cell b340
    replace b341 := Lw6.cell b341
    have z_b26 : w1.heap.size < w6.heap.size := qB b260
    have z_b30 : w2.heap.size < w6.heap.size := qB b300
    have z_b34 : w3.heap.size < w6.heap.size := qB b340
    replace i1 := i1.ext Lw6
    replace i2 := i2.ext Lw6
    replace bf27 := bf27.ext Lw6
    replace bf31 := bf31.ext Lw6
    have s_w6 : w.heap.size ≤ w6.heap.size := Xw6.size
    clear xw6
    go_wp2_with fail
    go_ret
    exact ⟨rfl, (Xw6.trans qXt)⟩
   ·
    replace hB35 := Lib.hid hB35
    have hr0 := (res_law hR.out hB35.out (by omega) (by omega)).1 rfl
    have hq36 : ¬ ((m : Int) < (0 : Int)) := (by omega)
    have hq37 : ¬ ((60 : Int) < (m : Int)) := (by omega)
    go_wp2_with fail
    refine (implOpenOf_c cells es (.slice p0 cells.length c0) (.slice p1 es.length c1) _ _ _ (i1.ext qXt) (i2.ext qXt)).mono ?_
    rintro e w6 ⟨fv38, rfl, i39, -, xw6⟩
    have Lw6 : Ext w5 w6 := Ext.trans qXt xw6
    have Xw6 : Ext w w6 := Xw5.trans Lw6
    replace b260 := Lw6.cell b260
    replace b261 := Lw6.cell b261
    replace b300 := Lw6.cell b300
    replace b301 := Lw6.cell b301
    replace b340 := Lw6.cell b340
    replace b341 := Lw6.cell b341
    have z_b26 : w1.heap.size < w6.heap.size := qB b260
    have z_b30 : w2.heap.size < w6.heap.size := qB b300
    have z_b34 : w3.heap.size < w6.heap.size := qB b340
    replace i1 := i1.ext Lw6
    replace i2 := i2.ext Lw6
    replace bf27 := bf27.ext Lw6
    replace bf31 := bf31.ext Lw6
    have s_w6 : w.heap.size ≤ w6.heap.size := Xw6.size
    clear xw6
    obtain ⟨afv38, cfv38, rfl⟩ := i39.form
    have hq40 : (0 : Int) < ((openA cells es).length : Int) := (by omega)
    go_wp2_with fail
    go_ret
    exact ⟨rfl, (Xw6.trans qXt)⟩
  ·
   obtain ⟨m, rfl⟩ : ∃ m : Nat, x = m := ⟨x.toNat, by omega⟩
   obtain rfl : RO = true := by simpa using hRO
   have hmn : min (m : Int) (cells.length : Int) = (m : Int) := by omega
   replace hR := Lib.hid hR
   go_wp2_with fail
   refine (pbx_eq hR.out (implResizeBuffer_c cells es (.slice p0 cells.length c0) (.slice p1 es.length c1) (m : Int) _ _ _ (i1.ext qXt) (i2.ext qXt))).mono ?_
   rintro e w2 ⟨cvfb43, evfb43, R44, rfl, bf42, xw2⟩
   have Lw2 : Ext w1 w2 := Ext.trans qXt xw2
   have Xw2 : Ext w w2 := Xw1.trans Lw2
   have b410 : w2.cell? ⟨w1.heap.size, 0, none⟩ = some (.slice p0 cells.length c0) := xw2.cell qCl
   have b411 : w2.cell? ⟨w1.heap.size, 1, none⟩ = some (.slice p1 es.length c1) := xw2.cell qCl
   have z_b41 : w1.heap.size < w2.heap.size := qB b410
   replace i1 := i1.ext Lw2
   replace i2 := i2.ext Lw2
   have s_w2 : w.heap.size ≤ w2.heap.size := Xw2.size
   clear xw2
   replace bf42 := bf42.lower (lo' := w1.heap.size + 1) qSo
   obtain ⟨afb43, cfb43, rfl⟩ := bf42.ints.form
   obtain ⟨efb43, dfb43, rfl⟩ := bf42.exps.form
   have q_bf42 := Lib.hid bf42.at
   go_wp2_with fail
   refine (pbx_eq hR.out (specResizeBuffer_c cells es (.slice p0 cells.length c0) (.slice p1 es.length c1) (m : Int) _ _ _ (i1.ext qXt) (i2.ext qXt))).mono ?_
   rintro e w3 ⟨cvfb47, evfb47, R48, rfl, bf46, xw3⟩
   have Lw3 : Ext w2 w3 := Ext.trans qXt xw3
   have Xw3 : Ext w w3 := Xw2.trans Lw3
   replace b410 := Lw3.cell b410
   replace b411 := Lw3.cell b411
   have b450 : w3.cell? ⟨w2.heap.size, 0, none⟩ = some (.slice afb43 RB.length cfb43) := xw3.cell qCl
   have b451 : w3.cell? ⟨w2.heap.size, 1, none⟩ = some (.slice efb43 RE.length dfb43) := xw3.cell qCl
   have z_b41 : w1.heap.size < w3.heap.size := qB b410
   have z_b45 : w2.heap.size < w3.heap.size := qB b450
   replace i1 := i1.ext Lw3
   replace i2 := i2.ext Lw3
   replace bf42 := bf42.ext Lw3
   have s_w3 : w.heap.size ≤ w3.heap.size := Xw3.size
   clear xw3
   replace bf46 := bf46.lower (lo' := w2.heap.size + 1) qSo
   obtain ⟨afb47, cfb47, rfl⟩ := bf46.ints.form
   obtain ⟨efb47, dfb47, rfl⟩ := bf46.exps.form
   have q_bf46 := Lib.hid bf46.at
   go_wp2_with fail
   refine (leqBuf_c RB RE (.slice afb43 RB.length cfb43) (.slice efb43 RE.length dfb43) (.slice afb47 RB.length cfb47) (.slice efb47 RE.length dfb47) _ _ _ _ _ (bf42.ints.ext qXt) (bf42.exps.ext qXt) (bf46.ints.ext qXt) (bf46.exps.ext qXt)).mono ?_
   rintro e w4 ⟨rfl, xw4⟩
   have Lw4 : Ext w3 w4 := Ext.trans qXt xw4
   have Xw4 : Ext w w4 := Xw3.trans Lw4
   replace b410 := Lw4.cell b410
   replace b411 := Lw4.cell b411
   replace b450 := Lw4.cell b450
   replace b451 := Lw4.cell b451
   have b490 : w4.cell? ⟨w3.heap.size, 0, none⟩ = some (.slice afb47 RB.length cfb47) := xw4.cell qCl
   have b491 : w4.cell? ⟨w3.heap.size, 1, none⟩ = some (.slice efb47 RE.length dfb47) := xw4.cell qCl
   have z_b41 : w1.heap.size < w4.heap.size := qB b410
   have z_b45 : w2.heap.size < w4.heap.size := qB b450
   have z_b49 : w3.heap.size < w4.heap.size := qB b490
   replace i1 := i1.ext Lw4
   replace i2 := i2.ext Lw4
   replace bf42 := bf42.ext Lw4
   replace bf46 := bf46.ext Lw4
   have s_w4 : w.heap.size ≤ w4.heap.size := Xw4.size
   clear xw4
   go_wp2_with fail
   refine (implValidBuffer_c cells es (.slice p0 cells.length c0) (.slice p1 es.length c1) _ _ _ (i1.ext qXt) (i2.ext qXt)).mono ?_
   rintro e w5 ⟨rfl, xw5⟩
   have Lw5 : Ext w4 w5 := Ext.trans qXt xw5
   have Xw5 : Ext w w5 := Xw4.trans Lw5
   replace b410 := Lw5.cell b410
   replace b411 := Lw5.cell b411
   replace b450 := Lw5.cell b450
   replace b451 := Lw5.cell b451
   replace b490 := Lw5.cell b490
   replace b491 := Lw5.cell b491
   have z_b41 : w1.heap.size < w5.heap.size := qB b410
   have z_b45 : w2.heap.size < w5.heap.size := qB b450
   have z_b49 : w3.heap.size < w5.heap.size := qB b490
   replace i1 := i1.ext Lw5
   replace i2 := i2.ext Lw5
   replace bf42 := bf42.ext Lw5
   replace bf46 := bf46.ext Lw5
   have s_w5 : w.heap.size ≤ w5.heap.size := Xw5.size
   clear xw5
   cases hB50 : bufB cells es
   ·
    replace hB50 := Lib.hid hB50
    go_wp2_with fail
    refine (leqBuf_c RB RE (.slice afb43 RB.length cfb43) (.slice efb43 RE.length dfb43) (.slice afb47 RB.length cfb47) (.slice efb47 RE.length dfb47) _ _ _ _ _ (bf42.ints.ext qXt) (bf42.exps.ext qXt) (bf46.ints.ext qXt) (bf46.exps.ext qXt)).mono ?_
    rintro e w6 ⟨rfl, xw6⟩
    have Lw6 : Ext w5 w6 := Ext.trans qXt xw6
    have Xw6 : Ext w w6 := Xw5.trans Lw6
    replace b410 := Lw6.cell b410
    replace b411 := Lw6.cell b411
    replace b450 := Lw6.cell b450
    replace b451 := Lw6.cell b451
    replace b490 := Lw6.cell b490
    replace b491 := Lw6.cell b491
    have z_b41 : w1.heap.size < w6.heap.size := qB b410
    have z_b45 : w2.heap.size < w6.heap.size := qB b450
    have z_b49 : w3.heap.size < w6.heap.size := qB b490
    replace i1 := i1.ext Lw6
    replace i2 := i2.ext Lw6
    replace bf42 := bf42.ext Lw6
    replace bf46 := bf46.ext Lw6
    have s_w6 : w.heap.size ≤ w6.heap.size := Xw6.size
    clear xw6
    go_wp2_with fail
    go_ret
    exact ⟨rfl, (Xw6.trans qXt)⟩
   ·
    replace hB50 := Lib.hid hB50
    obtain ⟨hz0, htk, hRl, hRv⟩ := (res_law hR.out hB50.out (by omega) (by omega)).2 rfl
    have hRm : m ≤ RB.length := by omega
    rw [Int.toNat_natCast, show min m cells.length = m by omega] at htk
    replace hz0 := Lib.hid hz0
    replace htk := Lib.hid htk
    replace hRl := Lib.hid hRl
    replace hRv := Lib.hid hRv
    have hq51 : ¬ ((m : Int) < (0 : Int)) := (by omega)
    have hq52 : ¬ ((60 : Int) < (m : Int)) := (by omega)
    go_wp2_with fail
    refine wp_region_tail (S := fun w' => w'.cell? ⟨w1.heap.size, 0, none⟩ = some (.slice p0 cells.length c0) ∧ w'.cell? ⟨w1.heap.size, 1, none⟩ = some (.slice p1 es.length c1) ∧ w'.cell? ⟨w2.heap.size, 0, none⟩ = some (.slice afb43 RB.length cfb43) ∧ w'.cell? ⟨w2.heap.size, 1, none⟩ = some (.slice efb43 RE.length dfb43)) (fun i => decide (27 ≤ i)) qKr ⟨b410, b411, b450, b451⟩ (fun hHeld => ?_)
    refine qTk (v := ?_) 0 rfl (.inl ⟨by rfl, ?_⟩) ?_
    rotate_left
    ·
     (intro w hSw; (try dsimp only at hSw); go_simp; try with_reducible rfl)
    try simp only [Act.put, qa, qb, qc, qD, qE, qF]
    refine wpTail_one (i := 1) qKr rfl rfl (fun K hK => ?_)
    try simp only [Act.put, qa, qb, qc, qD, qE, qF]
    go_simp
    refine (implOpenOf_c cells es (.slice p0 cells.length c0) (.slice p1 es.length c1) _ _ _ (i1.ext qXt) (i2.ext qXt)).mono ?_
    rintro e w6 ⟨fv53, rfl, i54, -, xw6⟩
    have Lw6 : Ext w5 w6 := Ext.trans qXt xw6
    have Xw6 : Ext w w6 := Xw5.trans Lw6
    replace b410 := Lw6.cell b410
    replace b411 := Lw6.cell b411
    replace b450 := Lw6.cell b450
    replace b451 := Lw6.cell b451
    replace b490 := Lw6.cell b490
    replace b491 := Lw6.cell b491
    have z_b41 : w1.heap.size < w6.heap.size := qB b410
    have z_b45 : w2.heap.size < w6.heap.size := qB b450
    have z_b49 : w3.heap.size < w6.heap.size := qB b490
    replace i1 := i1.ext Lw6
    replace i2 := i2.ext Lw6
    replace bf42 := bf42.ext Lw6
    replace bf46 := bf46.ext Lw6
    have s_w6 : w.heap.size ≤ w6.heap.size := Xw6.size
    clear xw6
    try simp only [World.size_alloc, World.size_drew] at i54
    obtain ⟨afv53, cfv53, rfl⟩ := i54.form
    refine hK.out _ _ ⟨b410, b411, b450, b451⟩ (fun hHeld => ?_)
    clear hK K
    try simp only [Act.put, qa, qb, qc, qD, qE, qF]
    refine qTk (v := ?_) 2 rfl (.inl ⟨by rfl, ?_⟩) ?_
    rotate_left
    ·
     (intro w hSw; (try dsimp only at hSw); go_simp; try with_reducible rfl)
    try simp only [Act.put, qa, qb, qc, qD, qE, qF]
    have hq55e : (((openA cells es).length : Int) == (0 : Int)) = true := by have h7 : ((openA cells es).length : Int) = (0 : Int) := (by rw [hz0.out]; rfl); simpa using h7
    have hq55n : (((openA cells es).length : Int) != (0 : Int)) = false := by have h7 : ((openA cells es).length : Int) = (0 : Int) := (by rw [hz0.out]; rfl); simpa using h7
    refine qTk (v := ?_) 3 rfl (.inl ⟨by rfl, ?_⟩) ?_
    rotate_left
    ·
     (intro w hSw; (try dsimp only at hSw); go_simp; try with_reducible rfl)
    try simp only [Act.put, qa, qb, qc, qD, qE, qF]
    refine qTk (v := ?_) 4 rfl (.inl ⟨by rfl, ?_⟩) ?_
    rotate_left
    ·
     (intro w hSw; (try dsimp only at hSw); go_simp; try with_reducible rfl)
    try simp only [Act.put, qa, qb, qc, qD, qE, qF]
    refine qTk (v := ?_) 5 rfl (.inl ⟨by rfl, ?_⟩) ?_
    rotate_left
    ·
     (intro w hSw; (try dsimp only at hSw); go_simp; try with_reducible rfl)
    try simp only [Act.put, qa, qb, qc, qD, qE, qF]
    refine qTk (v := ?_) 6 rfl (.inl ⟨by rfl, ?_⟩) ?_
    rotate_left
    ·
     (intro w hSw; (try dsimp only at hSw); go_simp; try with_reducible rfl)
    try simp only [Act.put, qa, qb, qc, qD, qE, qF]
    refine qTk (v := ?_) 7 rfl (.inl ⟨by rfl, ?_⟩) ?_
    rotate_left
    ·
     (intro w hSw; (try dsimp only at hSw); go_simp; try with_reducible rfl)
    try simp only [Act.put, qa, qb, qc, qD, qE, qF]
    have hsl56 : (m : Int) ≤ cfb43 := by have := (bf42.ints).capLe; omega
    refine qTk (v := ?_) 8 rfl (.inl ⟨by rfl, ?_⟩) ?_
    rotate_left
    ·
     (intro w hSw; (try dsimp only at hSw); go_simp; try with_reducible rfl)
    try simp only [Act.put, qa, qb, qc, qD, qE, qF]
    refine qTk (v := ?_) 9 rfl (.inl ⟨by rfl, ?_⟩) ?_
    rotate_left
    ·
     (intro w hSw; (try dsimp only at hSw); go_simp; try with_reducible rfl)
    try simp only [Act.put, qa, qb, qc, qD, qE, qF]
    refine qTk (v := ?_) 10 rfl (.inl ⟨by rfl, ?_⟩) ?_
    rotate_left
    ·
     (intro w hSw; (try dsimp only at hSw); go_simp; try with_reducible rfl)
    try simp only [Act.put, qa, qb, qc, qD, qE, qF]
    refine qTk (v := ?_) 11 rfl (.inl ⟨by rfl, ?_⟩) ?_
    rotate_left
    ·
     (intro w hSw; (try dsimp only at hSw); go_simp; try with_reducible rfl)
    try simp only [Act.put, qa, qb, qc, qD, qE, qF]
    have hsl57 : (m : Int) ≤ c0 := by have := (i1).capLe; omega
    refine qTk (v := ?_) 12 rfl (.inl ⟨by rfl, ?_⟩) ?_
    rotate_left
    ·
     (intro w hSw; (try dsimp only at hSw); go_simp; try with_reducible rfl)
    try simp only [Act.put, qa, qb, qc, qD, qE, qF]
    refine wpTail_one (i := 13) qKr rfl rfl (fun K hK => ?_)
    try simp only [Act.put, qa, qb, qc, qD, qE, qF]
    go_simp
    refine (leqInts_e (RB.take m) (cells.take m) (.slice afb43 m cfb43) (.slice p0 m c0) _ _ _ ((bf42.ints.take m (by omega)).ext qXt) ((i1.take m (by omega)).ext qXt) htk.out).mono ?_
    rintro e w7 ⟨rfl, xw7⟩
    have Lw7 : Ext w6 w7 := Ext.trans qXt xw7
    have Xw7 : Ext w w7 := Xw6.trans Lw7
    replace b410 := Lw7.cell b410
    replace b411 := Lw7.cell b411
    replace b450 := Lw7.cell b450
    replace b451 := Lw7.cell b451
    replace b490 := Lw7.cell b490
    replace b491 := Lw7.cell b491
    have z_b41 : w1.heap.size < w7.heap.size := qB b410
    have z_b45 : w2.heap.size < w7.heap.size := qB b450
    have z_b49 : w3.heap.size < w7.heap.size := qB b490
    replace i1 := i1.ext Lw7
    replace i2 := i2.ext Lw7
    replace bf42 := bf42.ext Lw7
    replace bf46 := bf46.ext Lw7
    replace i54 := i54.ext Lw7
    have s_w7 : w.heap.size ≤ w7.heap.size := Xw7.size
    clear xw7
    refine hK.out _ _ ⟨b410, b411, b450, b451⟩ (fun hHeld => ?_)
    clear hK K
    try simp only [Act.put, qa, qb, qc, qD, qE, qF]
    refine qTk (v := ?_) 14 rfl (.inl ⟨by rfl, ?_⟩) ?_
    rotate_left
    ·
     (intro w hSw; (try dsimp only at hSw); go_simp; try with_reducible rfl)
    try simp only [Act.put, qa, qb, qc, qD, qE, qF]
    refine qTk (v := ?_) 15 rfl (.inl ⟨by rfl, ?_⟩) ?_
    rotate_left
    ·
     (intro w hSw; (try dsimp only at hSw); go_simp; try with_reducible rfl)
    try simp only [Act.put, qa, qb, qc, qD, qE, qF]
    refine qTk (v := ?_) 16 rfl (.inl ⟨by rfl, ?_⟩) ?_
    rotate_left
    ·
     (intro w hSw; (try dsimp only at hSw); go_simp; try with_reducible rfl)
    try simp only [Act.put, qa, qb, qc, qD, qE, qF]
    refine qTk (v := ?_) 17 rfl (.inl ⟨by rfl, ?_⟩) ?_
    rotate_left
    ·
     (intro w hSw; (try dsimp only at hSw); go_simp; try with_reducible rfl)
    try simp only [Act.put, qa, qb, qc, qD, qE, qF]
    refine qTk (v := ?_) 18 rfl (.inl ⟨by rfl, ?_⟩) ?_
    rotate_left
    ·
     (intro w hSw; (try dsimp only at hSw); go_simp; try with_reducible rfl)
    try simp only [Act.put, qa, qb, qc, qD, qE, qF]
    refine qTk (v := ?_) 19 rfl (.inl ⟨by rfl, ?_⟩) ?_
    rotate_left
    ·
     (intro w hSw; (try dsimp only at hSw); go_simp; try with_reducible rfl)
    try simp only [Act.put, qa, qb, qc, qD, qE, qF]
    have hq58e : ((RB.length : Int) == (m : Int)) = true := by have h7 : (RB.length : Int) = (m : Int) := hRl.out; simpa using h7
    have hq58n : ((RB.length : Int) != (m : Int)) = false := by have h7 : (RB.length : Int) = (m : Int) := hRl.out; simpa using h7
    refine qTk (v := ?_) 20 rfl (.inl ⟨by rfl, ?_⟩) ?_
    rotate_left
    ·
     (intro w hSw; (try dsimp only at hSw); go_simp; try with_reducible rfl)
    try simp only [Act.put, qa, qb, qc, qD, qE, qF]
    refine qTk (v := ?_) 21 rfl (.inl ⟨by rfl, ?_⟩) ?_
    rotate_left
    ·
     (intro w hSw; (try dsimp only at hSw); go_simp; try with_reducible rfl)
    try simp only [Act.put, qa, qb, qc, qD, qE, qF]
    refine qTk (v := ?_) 22 rfl (.inl ⟨by rfl, ?_⟩) ?_
    rotate_left
    ·
     (intro w hSw; (try dsimp only at hSw); go_simp; try with_reducible rfl)
    try simp only [Act.put, qa, qb, qc, qD, qE, qF]
    refine qTk (v := ?_) 23 rfl (.inl ⟨by rfl, ?_⟩) ?_
    rotate_left
    ·
     (intro w hSw; (try dsimp only at hSw); go_simp; try with_reducible rfl)
    try simp only [Act.put, qa, qb, qc, qD, qE, qF]
    refine wpTail_one (i := 24) qKr rfl rfl (fun K hK => ?_)
    try simp only [Act.put, qa, qb, qc, qD, qE, qF]
    go_simp
    refine (implValidBuffer_c RB RE (.slice afb43 RB.length cfb43) (.slice efb43 RE.length dfb43) _ _ _ (bf42.ints.ext qXt) (bf42.exps.ext qXt)).mono ?_
    rintro e w8 ⟨rfl, xw8⟩
    have Lw8 : Ext w7 w8 := Ext.trans qXt xw8
    have Xw8 : Ext w w8 := Xw7.trans Lw8
    replace b410 := Lw8.cell b410
    replace b411 := Lw8.cell b411
    replace b450 := Lw8.cell b450
    replace b451 := Lw8.cell b451
    replace b490 := Lw8.cell b490
    replace b491 := Lw8.cell b491
    have z_b41 : w1.heap.size < w8.heap.size := qB b410
    have z_b45 : w2.heap.size < w8.heap.size := qB b450
    have z_b49 : w3.heap.size < w8.heap.size := qB b490
    replace i1 := i1.ext Lw8
    replace i2 := i2.ext Lw8
    replace bf42 := bf42.ext Lw8
    replace bf46 := bf46.ext Lw8
    replace i54 := i54.ext Lw8
    have s_w8 : w.heap.size ≤ w8.heap.size := Xw8.size
    clear xw8
    rw [hRv.out]
    refine hK.out _ _ ⟨b410, b411, b450, b451⟩ (fun hHeld => ?_)
    clear hK K
    try simp only [Act.put, qa, qb, qc, qD, qE, qF]
    refine qTk (v := ?_) 25 rfl (.inl ⟨by rfl, ?_⟩) ?_
    rotate_left
    ·
     (intro w hSw; (try dsimp only at hSw); go_simp; try with_reducible rfl)
    try simp only [Act.put, qa, qb, qc, qD, qE, qF]
    refine qTk (v := ?_) 26 rfl (.inl ⟨by rfl, ?_⟩) ?_
    rotate_left
    ·
     (intro w hSw; (try dsimp only at hSw); go_simp; try with_reducible rfl)
    try simp only [Act.put, qa, qb, qc, qD, qE, qF]
    refine wpTail_done qKr ?_ _
    clear hHeld 
    go_wp2_with fail
    go_ret
    exact ⟨rfl, (Xw8.trans qXt)⟩
  ·
   obtain ⟨m, rfl⟩ : ∃ m : Nat, x = m := ⟨x.toNat, by omega⟩
   obtain rfl : RO = true := by simpa using hRO
   have hmn : min (m : Int) (cells.length : Int) = (cells.length : Int) := by omega
   replace hR := Lib.hid hR
   go_wp2_with fail
   refine (pbx_eq hR.out (implResizeBuffer_c cells es (.slice p0 cells.length c0) (.slice p1 es.length c1) (m : Int) _ _ _ (i1.ext qXt) (i2.ext qXt))).mono ?_
   rintro e w2 ⟨cvfb61, evfb61, R62, rfl, bf60, xw2⟩
   have Lw2 : Ext w1 w2 := Ext.trans qXt xw2
   have Xw2 : Ext w w2 := Xw1.trans Lw2
   have b590 : w2.cell? ⟨w1.heap.size, 0, none⟩ = some (.slice p0 cells.length c0) := xw2.cell qCl
   have b591 : w2.cell? ⟨w1.heap.size, 1, none⟩ = some (.slice p1 es.length c1) := xw2.cell qCl
   have z_b59 : w1.heap.size < w2.heap.size := qB b590
   replace i1 := i1.ext Lw2
   replace i2 := i2.ext Lw2
   have s_w2 : w.heap.size ≤ w2.heap.size := Xw2.size
   clear xw2
   replace bf60 := bf60.lower (lo' := w1.heap.size + 1) qSo
   obtain ⟨afb61, cfb61, rfl⟩ := bf60.ints.form
   obtain ⟨efb61, dfb61, rfl⟩ := bf60.exps.form
   have q_bf60 := Lib.hid bf60.at
   go_wp2_with fail
   refine (pbx_eq hR.out (specResizeBuffer_c cells es (.slice p0 cells.length c0) (.slice p1 es.length c1) (m : Int) _ _ _ (i1.ext qXt) (i2.ext qXt))).mono ?_
   rintro e w3 ⟨cvfb65, evfb65, R66, rfl, bf64, xw3⟩
   have Lw3 : Ext w2 w3 := Ext.trans qXt xw3
   have Xw3 : Ext w w3 := Xw2.trans Lw3
   replace b590 := Lw3.cell b590
   replace b591 := Lw3.cell b591
   have b630 : w3.cell? ⟨w2.heap.size, 0, none⟩ = some (.slice afb61 RB.length cfb61) := xw3.cell qCl
   have b631 : w3.cell? ⟨w2.heap.size, 1, none⟩ = some (.slice efb61 RE.length dfb61) := xw3.cell qCl
   have z_b59 : w1.heap.size < w3.heap.size := qB b590
   have z_b63 : w2.heap.size < w3.heap.size := qB b630
   replace i1 := i1.ext Lw3
   replace i2 := i2.ext Lw3
   replace bf60 := bf60.ext Lw3
   have s_w3 : w.heap.size ≤ w3.heap.size := Xw3.size
   clear xw3
   replace bf64 := bf64.lower (lo' := w2.heap.size + 1) qSo
   obtain ⟨afb65, cfb65, rfl⟩ := bf64.ints.form
   obtain ⟨efb65, dfb65, rfl⟩ := bf64.exps.form
   have q_bf64 := Lib.hid bf64.at
   go_wp2_with fail
   refine (leqBuf_c RB RE (.slice afb61 RB.length cfb61) (.slice efb61 RE.length dfb61) (.slice afb65 RB.length cfb65) (.slice efb65 RE.length dfb65) _ _ _ _ _ (bf60.ints.ext qXt) (bf60.exps.ext qXt) (bf64.ints.ext qXt) (bf64.exps.ext qXt)).mono ?_
   rintro e w4 ⟨rfl, xw4⟩
   have Lw4 : Ext w3 w4 := Ext.trans qXt xw4
   have Xw4 : Ext w w4 := Xw3.trans Lw4
   replace b590 := Lw4.cell b590
   replace b591 := Lw4.cell b591
   replace b630 := Lw4.cell b630
   replace b631 := Lw4.cell b631
   have b670 : w4.cell? ⟨w3.heap.size, 0, none⟩ = some (.slice afb65 RB.length cfb65) := xw4.cell qCl
   have b671 : w4.cell? ⟨w3.heap.size, 1, none⟩ = some (.slice efb65 RE.length dfb65) := xw4.cell qCl
   have z_b59 : w1.heap.size < w4.heap.size := qB b590
   have z_b63 : w2.heap.size < w4.heap.size := qB b630
   have z_b67 : w3.heap.size < w4.heap.size := qB b670
   replace i1 := i1.ext Lw4
   replace i2 := i2.ext Lw4
   replace bf60 := bf60.ext Lw4
   replace bf64 := bf64.ext Lw4
   have s_w4 : w.heap.size ≤ w4.heap.size := Xw4.size
   clear xw4
   go_wp2_with fail
   refine (implValidBuffer_c cells es (.slice p0 cells.length c0) (.slice p1 es.length c1) _ _ _ (i1.ext qXt) (i2.ext qXt)).mono ?_
   rintro e w5 ⟨rfl, xw5⟩
   have Lw5 : Ext w4 w5 := Ext.trans qXt xw5
   have Xw5 : Ext w w5 := Xw4.trans Lw5
   replace b590 := Lw5.cell b590
   replace b591 := Lw5.cell b591
   replace b630 := Lw5.cell b630
   replace b631 := Lw5.cell b631
   replace b670 := Lw5.cell b670
   replace b671 := Lw5.cell b671
   have z_b59 : w1.heap.size < w5.heap.size := qB b590
   have z_b63 : w2.heap.size < w5.heap.size := qB b630
   have z_b67 : w3.heap.size < w5.heap.size := qB b670
   replace i1 := i1.ext Lw5
   replace i2 := i2.ext Lw5
   replace bf60 := bf60.ext Lw5
   replace bf64 := bf64.ext Lw5
   have s_w5 : w.heap.size ≤ w5.heap.size := Xw5.size
   clear xw5
   cases hB68 : bufB cells es
   ·
    replace hB68 := Lib.hid hB68
    go_wp2_with fail
    refine (leqBuf_c RB RE (.slice afb61 RB.length cfb61) (.slice efb61 RE.length dfb61) (.slice afb65 RB.length cfb65) (.slice efb65 RE.length dfb65) _ _ _ _ _ (bf60.ints.ext qXt) (bf60.exps.ext qXt) (bf64.ints.ext qXt) (bf64.exps.ext qXt)).mono ?_
    rintro e w6 ⟨rfl, xw6⟩
    have Lw6 : Ext w5 w6 := Ext.trans qXt xw6
    have Xw6 : Ext w w6 := Xw5.trans Lw6
    replace b590 := Lw6.cell b590
    replace b591 := Lw6.cell b591
    replace b630 := Lw6.cell b630
    replace b631 := Lw6.cell b631
    replace b670 := Lw6.cell b670
    replace b671 := Lw6.cell b671
    have z_b59 : w1.heap.size < w6.heap.size := qB b590
    have z_b63 : w2.heap.size < w6.heap.size := qB b630
    have z_b67 : w3.heap.size < w6.heap.size := qB b670
    replace i1 := i1.ext Lw6
    replace i2 := i2.ext Lw6
    replace bf60 := bf60.ext Lw6
    replace bf64 := bf64.ext Lw6
    have s_w6 : w.heap.size ≤ w6.heap.size := Xw6.size
    clear xw6
    go_wp2_with fail
    go_ret
    exact ⟨rfl, (Xw6.trans qXt)⟩
   ·
    replace hB68 := Lib.hid hB68
    obtain ⟨hz0, htk, hRl, hRv⟩ := (res_law hR.out hB68.out (by omega) (by omega)).2 rfl
    have hRm : m ≤ RB.length := by omega
    rw [Int.toNat_natCast, show min m cells.length = cells.length by omega] at htk
    replace hz0 := Lib.hid hz0
    replace htk := Lib.hid htk
    replace hRl := Lib.hid hRl
    replace hRv := Lib.hid hRv
    have hq69 : ¬ ((m : Int) < (0 : Int)) := (by omega)
    have hq70 : ¬ ((60 : Int) < (m : Int)) := (by omega)
    go_wp2_with fail
    refine wp_region_tail (S := fun w' => w'.cell? ⟨w1.heap.size, 0, none⟩ = some (.slice p0 cells.length c0) ∧ w'.cell? ⟨w1.heap.size, 1, none⟩ = some (.slice p1 es.length c1) ∧ w'.cell? ⟨w2.heap.size, 0, none⟩ = some (.slice afb61 RB.length cfb61) ∧ w'.cell? ⟨w2.heap.size, 1, none⟩ = some (.slice efb61 RE.length dfb61)) (fun i => decide (27 ≤ i)) qKr ⟨b590, b591, b630, b631⟩ (fun hHeld => ?_)
    refine qTk (v := ?_) 0 rfl (.inl ⟨by rfl, ?_⟩) ?_
    rotate_left
    ·
     (intro w hSw; (try dsimp only at hSw); go_simp; try with_reducible rfl)
    try simp only [Act.put, qa, qb, qc, qD, qE, qF]
    refine wpTail_one (i := 1) qKr rfl rfl (fun K hK => ?_)
    try simp only [Act.put, qa, qb, qc, qD, qE, qF]
    go_simp
    refine (implOpenOf_c cells es (.slice p0 cells.length c0) (.slice p1 es.length c1) _ _ _ (i1.ext qXt) (i2.ext qXt)).mono ?_
    rintro e w6 ⟨fv71, rfl, i72, -, xw6⟩
    have Lw6 : Ext w5 w6 := Ext.trans qXt xw6
    have Xw6 : Ext w w6 := Xw5.trans Lw6
    replace b590 := Lw6.cell b590
    replace b591 := Lw6.cell b591
    replace b630 := Lw6.cell b630
    replace b631 := Lw6.cell b631
    replace b670 := Lw6.cell b670
    replace b671 := Lw6.cell b671
    have z_b59 : w1.heap.size < w6.heap.size := qB b590
    have z_b63 : w2.heap.size < w6.heap.size := qB b630
    have z_b67 : w3.heap.size < w6.heap.size := qB b670
    replace i1 := i1.ext Lw6
    replace i2 := i2.ext Lw6
    replace bf60 := bf60.ext Lw6
    replace bf64 := bf64.ext Lw6
    have s_w6 : w.heap.size ≤ w6.heap.size := Xw6.size
    clear xw6
    try simp only [World.size_alloc, World.size_drew] at i72
    obtain ⟨afv71, cfv71, rfl⟩ := i72.form
    refine hK.out _ _ ⟨b590, b591, b630, b631⟩ (fun hHeld => ?_)
    clear hK K
    try simp only [Act.put, qa, qb, qc, qD, qE, qF]
    refine qTk (v := ?_) 2 rfl (.inl ⟨by rfl, ?_⟩) ?_
    rotate_left
    ·
     (intro w hSw; (try dsimp only at hSw); go_simp; try with_reducible rfl)
    try simp only [Act.put, qa, qb, qc, qD, qE, qF]
    have hq73e : (((openA cells es).length : Int) == (0 : Int)) = true := by have h7 : ((openA cells es).length : Int) = (0 : Int) := (by rw [hz0.out]; rfl); simpa using h7
    have hq73n : (((openA cells es).length : Int) != (0 : Int)) = false := by have h7 : ((openA cells es).length : Int) = (0 : Int) := (by rw [hz0.out]; rfl); simpa using h7
    refine qTk (v := ?_) 3 rfl (.inl ⟨by rfl, ?_⟩) ?_
    rotate_left
    ·
     (intro w hSw; (try dsimp only at hSw); go_simp; try with_reducible rfl)
    try simp only [Act.put, qa, qb, qc, qD, qE, qF]
    refine qTk (v := ?_) 4 rfl (.inl ⟨by rfl, ?_⟩) ?_
    rotate_left
    ·
     (intro w hSw; (try dsimp only at hSw); go_simp; try with_reducible rfl)
    try simp only [Act.put, qa, qb, qc, qD, qE, qF]
    refine qTk (v := ?_) 5 rfl (.inl ⟨by rfl, ?_⟩) ?_
    rotate_left
    ·
     (intro w hSw; (try dsimp only at hSw); go_simp; try with_reducible rfl)
    try simp only [Act.put, qa, qb, qc, qD, qE, qF]
    refine qTk (v := ?_) 6 rfl (.inl ⟨by rfl, ?_⟩) ?_
    rotate_left
    ·
     (intro w hSw; (try dsimp only at hSw); go_simp; try with_reducible rfl)
    try simp only [Act.put, qa, qb, qc, qD, qE, qF]
    refine qTk (v := ?_) 7 rfl (.inl ⟨by rfl, ?_⟩) ?_
    rotate_left
    ·
     (intro w hSw; (try dsimp only at hSw); go_simp; try with_reducible rfl)
    try simp only [Act.put, qa, qb, qc, qD, qE, qF]
    have hsl74 : (cells.length : Int) ≤ cfb61 := by have := (bf60.ints).capLe; omega
    refine qTk (v := ?_) 8 rfl (.inl ⟨by rfl, ?_⟩) ?_
    rotate_left
    ·
     (intro w hSw; (try dsimp only at hSw); go_simp; try with_reducible rfl)
    try simp only [Act.put, qa, qb, qc, qD, qE, qF]
    refine qTk (v := ?_) 9 rfl (.inl ⟨by rfl, ?_⟩) ?_
    rotate_left
    ·
     (intro w hSw; (try dsimp only at hSw); go_simp; try with_reducible rfl)
    try simp only [Act.put, qa, qb, qc, qD, qE, qF]
    refine qTk (v := ?_) 10 rfl (.inl ⟨by rfl, ?_⟩) ?_
    rotate_left
    ·
     (intro w hSw; (try dsimp only at hSw); go_simp; try with_reducible rfl)
    try simp only [Act.put, qa, qb, qc, qD, qE, qF]
    refine qTk (v := ?_) 11 rfl (.inl ⟨by rfl, ?_⟩) ?_
    rotate_left
    ·
     (intro w hSw; (try dsimp only at hSw); go_simp; try with_reducible rfl)
    try simp only [Act.put, qa, qb, qc, qD, qE, qF]
    have hsl75 : (cells.length : Int) ≤ c0 := by have := (i1).capLe; omega
    refine qTk (v := ?_) 12 rfl (.inl ⟨by rfl, ?_⟩) ?_
    rotate_left
    ·
     (intro w hSw; (try dsimp only at hSw); go_simp; try with_reducible rfl)
    try simp only [Act.put, qa, qb, qc, qD, qE, qF]
    refine wpTail_one (i := 13) qKr rfl rfl (fun K hK => ?_)
    try simp only [Act.put, qa, qb, qc, qD, qE, qF]
    go_simp
    refine (leqInts_e (RB.take cells.length) (cells.take cells.length) (.slice afb61 cells.length cfb61) (.slice p0 cells.length c0) _ _ _ ((bf60.ints.take cells.length (by omega)).ext qXt) ((i1.take cells.length (by omega)).ext qXt) htk.out).mono ?_
    rintro e w7 ⟨rfl, xw7⟩
    have Lw7 : Ext w6 w7 := Ext.trans qXt xw7
    have Xw7 : Ext w w7 := Xw6.trans Lw7
    replace b590 := Lw7.cell b590
    replace b591 := Lw7.cell b591
    replace b630 := Lw7.cell b630
    replace b631 := Lw7.cell b631
    replace b670 := Lw7.cell b670
    replace b671 := Lw7.cell b671
    have z_b59 : w1.heap.size < w7.heap.size := qB b590
    have z_b63 : w2.heap.size < w7.heap.size := qB b630
    have z_b67 : w3.heap.size < w7.heap.size := qB b670
    replace i1 := i1.ext Lw7
    replace i2 := i2.ext Lw7
    replace bf60 := bf60.ext Lw7
    replace bf64 := bf64.ext Lw7
    replace i72 := i72.ext Lw7
    have s_w7 : w.heap.size ≤ w7.heap.size := Xw7.size
    clear xw7
    refine hK.out _ _ ⟨b590, b591, b630, b631⟩ (fun hHeld => ?_)
    clear hK K
    try simp only [Act.put, qa, qb, qc, qD, qE, qF]
    refine qTk (v := ?_) 14 rfl (.inl ⟨by rfl, ?_⟩) ?_
    rotate_left
    ·
     (intro w hSw; (try dsimp only at hSw); go_simp; try with_reducible rfl)
    try simp only [Act.put, qa, qb, qc, qD, qE, qF]
    refine qTk (v := ?_) 15 rfl (.inl ⟨by rfl, ?_⟩) ?_
    rotate_left
    ·
     (intro w hSw; (try dsimp only at hSw); go_simp; try with_reducible rfl)
    try simp only [Act.put, qa, qb, qc, qD, qE, qF]
    refine qTk (v := ?_) 16 rfl (.inl ⟨by rfl, ?_⟩) ?_
    rotate_left
    ·
     (intro w hSw; (try dsimp only at hSw); go_simp; try with_reducible rfl)
    try simp only [Act.put, qa, qb, qc, qD, qE, qF]
    refine qTk (v := ?_) 17 rfl (.inl ⟨by rfl, ?_⟩) ?_
    rotate_left
    ·
     (intro w hSw; (try dsimp only at hSw); go_simp; try with_reducible rfl)
    try simp only [Act.put, qa, qb, qc, qD, qE, qF]
    refine qTk (v := ?_) 18 rfl (.inl ⟨by rfl, ?_⟩) ?_
    rotate_left
    ·
     (intro w hSw; (try dsimp only at hSw); go_simp; try with_reducible rfl)
    try simp only [Act.put, qa, qb, qc, qD, qE, qF]
    refine qTk (v := ?_) 19 rfl (.inl ⟨by rfl, ?_⟩) ?_
    rotate_left
    ·
     (intro w hSw; (try dsimp only at hSw); go_simp; try with_reducible rfl)
    try simp only [Act.put, qa, qb, qc, qD, qE, qF]
    have hq76e : ((RB.length : Int) == (m : Int)) = true := by have h7 : (RB.length : Int) = (m : Int) := hRl.out; simpa using h7
    have hq76n : ((RB.length : Int) != (m : Int)) = false := by have h7 : (RB.length : Int) = (m : Int) := hRl.out; simpa using h7
    refine qTk (v := ?_) 20 rfl (.inl ⟨by rfl, ?_⟩) ?_
    rotate_left
    ·
     (intro w hSw; (try dsimp only at hSw); go_simp; try with_reducible rfl)
    try simp only [Act.put, qa, qb, qc, qD, qE, qF]
    refine qTk (v := ?_) 21 rfl (.inl ⟨by rfl, ?_⟩) ?_
    rotate_left
    ·
     (intro w hSw; (try dsimp only at hSw); go_simp; try with_reducible rfl)
    try simp only [Act.put, qa, qb, qc, qD, qE, qF]
    refine qTk (v := ?_) 22 rfl (.inl ⟨by rfl, ?_⟩) ?_
    rotate_left
    ·
     (intro w hSw; (try dsimp only at hSw); go_simp; try with_reducible rfl)
    try simp only [Act.put, qa, qb, qc, qD, qE, qF]
    refine qTk (v := ?_) 23 rfl (.inl ⟨by rfl, ?_⟩) ?_
    rotate_left
    ·
     (intro w hSw; (try dsimp only at hSw); go_simp; try with_reducible rfl)
    try simp only [Act.put, qa, qb, qc, qD, qE, qF]
    refine wpTail_one (i := 24) qKr rfl rfl (fun K hK => ?_)
    try simp only [Act.put, qa, qb, qc, qD, qE, qF]
    go_simp
    refine (implValidBuffer_c RB RE (.slice afb61 RB.length cfb61) (.slice efb61 RE.length dfb61) _ _ _ (bf60.ints.ext qXt) (bf60.exps.ext qXt)).mono ?_
    rintro e w8 ⟨rfl, xw8⟩
    have Lw8 : Ext w7 w8 := Ext.trans qXt xw8
    have Xw8 : Ext w w8 := Xw7.trans Lw8
    replace b590 := Lw8.cell b590
    replace b591 := Lw8.cell b591
    replace b630 := Lw8.cell b630
    replace b631 := Lw8.cell b631
    replace b670 := Lw8.cell b670
    replace b671 := Lw8.cell b671
    have z_b59 : w1.heap.size < w8.heap.size := qB b590
    have z_b63 : w2.heap.size < w8.heap.size := qB b630
    have z_b67 : w3.heap.size < w8.heap.size := qB b670
    replace i1 := i1.ext Lw8
    replace i2 := i2.ext Lw8
    replace bf60 := bf60.ext Lw8
    replace bf64 := bf64.ext Lw8
    replace i72 := i72.ext Lw8
    have s_w8 : w.heap.size ≤ w8.heap.size := Xw8.size
    clear xw8
    rw [hRv.out]
    refine hK.out _ _ ⟨b590, b591, b630, b631⟩ (fun hHeld => ?_)
    clear hK K
    try simp only [Act.put, qa, qb, qc, qD, qE, qF]
    refine qTk (v := ?_) 25 rfl (.inl ⟨by rfl, ?_⟩) ?_
    rotate_left
    ·
     (intro w hSw; (try dsimp only at hSw); go_simp; try with_reducible rfl)
    try simp only [Act.put, qa, qb, qc, qD, qE, qF]
    refine qTk (v := ?_) 26 rfl (.inl ⟨by rfl, ?_⟩) ?_
    rotate_left
    ·
     (intro w hSw; (try dsimp only at hSw); go_simp; try with_reducible rfl)
    try simp only [Act.put, qa, qb, qc, qD, qE, qF]
    refine wpTail_done qKr ?_ _
    clear hHeld 
    go_wp2_with fail
    go_ret
    exact ⟨rfl, (Xw8.trans qXt)⟩


end Go.Proofs.Ytgklaobfikbiiaa

/- The law FnResizeBuffer holds for all bytes: the call returns true, and its argument reads as it did. No condition. -/
namespace Go.Proofs.Ytgklaobfikbiiaa.rowFnResizeBuffer
open Go.ChangeShapes Go.WideShapes Go.ChangeAt Go.RowKit
set_option linter.unusedVariables false

set_option maxHeartbeats 1000000 in
set_option maxRecDepth 100000 in
theorem lifted (os : Os) (started : os.Started) (H : Type) (enc : TypeId × Value → H) :
    ReturnsInHanded {} Try.checked os 4 .any (Rows.fnResizeBufferSpec.pre6 enc Try.prog Try.f4 Rows.fnResizeBufferRow.domain false) (Rows.fnResizeBufferSpec.post enc Try.prog Try.f4 false true false false) := by
  refine returnsInHanded_of_change (C := Try.checked) own started qKr Try.func4
    (ChangeSpec.witness6 (enc := enc) (C := Try.checked) false ⟨#[], #[.slice none 0 0], []⟩ 8 qKr qKr qKr qKr) ?_
  intro W base args ds gs before hval0 hW hcnd _
  have hval : ∀ (j : Nat) t v, Try.f4.params[j]? = some t → args[j]? = some v → Value.okWide Try.prog W .any base t v := hval0
  have hW' := hW
  obtain ⟨p, q, hA0, hV, rfl, hfz, hnd⟩ := hW
  have hA : DataW.TrodAll enc Try.prog W 0 (fun _ => true) true Try.f4.params.toList args.toList ds p := hA0
  rw [Try.params4] at hA hval
  obtain ⟨v0, vs0, d0, ds0, p0, q0, hargs0, rfl, rfl, h0, r0⟩ := trodAll_cons hA
  obtain ⟨rfl, rfl, rfl⟩ := trodAll_nil r0
  obtain rfl : args = #[v0] := by cases args; simp_all
  obtain ⟨rfl, rfl⟩ := trodVars_none hV
  obtain ⟨a0, len0, cap0, rfl⟩ := okWide_slice Try.underlying22 (hval 0 22 v0 rfl rfl)
  have k0 := h0
  have lt0 : ∀ x ∈ p0, x.block < W.heap.size := by obtain ⟨m, hm⟩ := k0; exact DataW.trod_lt m _ _ _ hm
  have w0 : BysIn W a0 len0 cap0 := by
    obtain ⟨fuel, hf⟩ := h0
    rcases open_ints Try.underlying22 Try.underlying5 qKr hf with ⟨hcs, _⟩ | ⟨x, l, c, zs, hcs, _, hl, hm, hz, _, hcell, hwz⟩
    · simp [Value.cells] at hcs
      obtain ⟨rfl, rfl, rfl⟩ := hcs
      exact ⟨Nat.le_refl _, by simp, fun i hi => absurd hi (by simp)⟩
    · simp [Value.cells] at hcs
      obtain ⟨rfl, rfl, rfl⟩ := hcs
      have hzl : zs.length = cap0 := by simpa using hz
      exact bys_of_cells hl hm hzl hcell hwz
  clear hA0 hval0
  refine (lawFnResizeBuffer_c a0 len0 cap0 W w0).mono fun e W' ⟨he, bel⟩ => ?_
  subst he
  exact ⟨_, rfl, _, _, _, [], _, [], hW', trodAll_mk1 (shut_bool Try.underlying4 _), (trodAll_cons_mk (Below.trod laidOut qKr (of_decide_eq_true qKr) k0 bel lt0) trodAll_mk0), rfl, Below.frame bel _, fun h => by cases h⟩

set_option maxHeartbeats 2000000 in
theorem closed : joinedFacts Try.checked.prog 4 Try.f4 Rows.fnResizeBufferSpec Rows.fnResizeBufferRow = true :=
  facts.all qKr qKr qKr qKr qKr (by as_aux_lemma => kernel_rfl) (by as_aux_lemma => kernel_rfl) (by as_aux_lemma => kernel_rfl) (by as_aux_lemma => kernel_rfl)
    (by as_aux_lemma => kernel_rfl) (by as_aux_lemma => kernel_rfl) rfl rfl rfl rfl qKr qKr (by as_aux_lemma => kernel_rfl) (by as_aux_lemma => kernel_rfl)

theorem named : Try.pinned.checked.prog.funcNamed Rows.fnResizeBufferRow.func = some 4 := by kernel_rfl

theorem over : Rows.fnResizeBufferRow.holds Try.pinned (OpenSpec.ofChange Rows.fnResizeBufferSpec) :=
  OpenClaim.holds_of_wide 4 Try.f4 rfl rfl rfl rfl rfl rfl rfl ⟨rfl, rfl, rfl, rfl, rfl⟩ rfl rfl rfl rfl rfl named Try.func4 closed
    (of_decide_eq_true qKr) (by unfold Func.isWrapper; exact ⟨rfl, rfl⟩)
    (fun os started H enc _ => lifted os started H enc)

theorem proved : Rows.FnResizeBufferSaid := over

end Go.Proofs.Ytgklaobfikbiiaa.rowFnResizeBuffer
