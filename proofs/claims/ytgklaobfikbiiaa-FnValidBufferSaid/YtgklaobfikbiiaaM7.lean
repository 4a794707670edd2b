/- Texts of these proofs put together: DoA, DoB, BoA, Facts. No condition. -/
import Derived.Test.YtgklaobfikbiiaaM6
import Derived.Test.YtgklaobfikbiiaaM3
import Derived.Test.YtgklaobfikbiiaaM4
import Derived.Test.YtgklaobfikbiiaaM1
import Derived.Test.YtgklaobfikbiiaaRows
import Derived.KernelRfl
import Derived.JoinedOf
set_option linter.unusedVariables false
set_option linter.unusedSimpArgs false
/- Walks: buffers and exports are drawn. -/
namespace Go.Proofs.Ytgklaobfikbiiaa
open Go.RowKit
set_option linter.unusedVariables false
set_option maxRecDepth 100000

/-- a buffer and a number come back -/
def SBufI (rb k : Nat) (w : World) (e : Ending) (w' : World) : Prop := ∃ (cells : List Int) (es : List Exp) (p0 p1 : Option Addr) (c0 c1 : Nat) (x : Int), e = .returned (.tuple #[.agg #[.slice p0 cells.length c0, .slice p1 es.length c1], .int .i64 x]) ∧
 Ints w' w.heap.size (.slice p0 cells.length c0) cells ∧ Exps w' w.heap.size (.slice p1 es.length c1) es ∧ Hid (SmallX cells es) ∧ (-1 ≤ x ∧ x ≤ 9) ∧ Rd w' rb k ∧ Chg rb (rb + 1) w w'
set_option maxHeartbeats 6400000 in
theorem idOf_c (rb k : Nat) (w : World) (hr : Rd w rb k) (hk : k ≤ 200000) :
  Calls Try.prog 45 #[.pointer (some ⟨rb, 0, none⟩)] w (SBufI rb (k + 120) w) := by
 have hlt := hr.lt
 go_enter Try.func45, Try.ntmps45
 go_wp2_with fail
 generalize hW1 : w.alloc (.cells #[.slice none 0 0, .slice none 0 0] 26) = w1 at *
 have Lw1 : Ext w w1 := by subst hW1; exact qXt
 have Xw1 : Rch rb w w1 := Rch.ext (Rch.refl rb w) Lw1
 replace hr := hr.ext Lw1
 have q0 : w1.cell? ⟨w.heap.size, 0, none⟩ = some (.slice none 0 0) := by subst hW1; exact qCl
 have q1 : w1.cell? ⟨w.heap.size, 1, none⟩ = some (.slice none 0 0) := by subst hW1; exact qCl
 have f_q0 : w1.frozen? ⟨w.heap.size, 0, none⟩ = false := by subst hW1; exact qFz
 have f_q1 : w1.frozen? ⟨w.heap.size, 1, none⟩ = false := by subst hW1; exact qFz
 have z_q : w.heap.size < w1.heap.size := qB q0
 have s_w1 : w.heap.size ≤ w1.heap.size := Xw1.size
 clear hW1
 refine (someBuffer_c rb _ _ hr (by omega)).mono ?_
 rintro e w2 ⟨cv, ev, cells, es, R, rfl, B, hs, Rw2, Cw2⟩
 have zc_w2 := Cw2.size
 have Xw2 : Rch rb w w2 := Rch.step (Xw1) Cw2
 replace q0 := Cw2.cell (by omega) q0
 replace f_q0 := Cw2.frzO (by omega) (by omega) f_q0
 replace q1 := Cw2.cell (by omega) q1
 replace f_q1 := Cw2.frzO (by omega) (by omega) f_q1
 have z_q : w.heap.size < w2.heap.size := qB q0
 have s_w2 : w.heap.size ≤ w2.heap.size := Xw2.size
 clear hr Cw2
 replace B := B.lower (lo' := w.heap.size + 1) (by omega)
 obtain ⟨p0, c0, rfl⟩ := B.ints.form
 obtain ⟨p1, c1, rfl⟩ := B.exps.form
 have hc61 := hs.out.1
 have he9 := hs.out.2.1
 replace B := BufT.of B B.at
 go_wp2_with fail
 generalize hW2 : (w2.alloc (.cells #[.slice p0 cells.length c0, .slice p1 es.length c1] 26)).alloc (.cells #[] 3) = w3 at *
 have O : OwnI w3 (w2.heap.size + 1) (.slice (some ⟨w2.heap.size + 1, 0, none⟩) 0 0) [] := by subst hW2; simpa using OwnI.lit0 (w2.alloc (.cells #[.slice p0 cells.length c0, .slice p1 es.length c1] 26)) (w2.heap.size + 1) (by simp)
 have Lw3 : Ext w2 w3 := by subst hW2; exact qXt
 have Xw3 : Rch rb w w3 := Rch.ext Xw2 Lw3
 replace Rw2 := Rw2.ext Lw3
 replace q0 := Lw3.cell q0
 replace q1 := Lw3.cell q1
 replace f_q0 := Lw3.frz z_q f_q0
 replace f_q1 := Lw3.frz z_q f_q1
 have b0 : w3.cell? ⟨w2.heap.size, 0, none⟩ = some (.slice p0 cells.length c0) := by subst hW2; exact qCl
 have b1 : w3.cell? ⟨w2.heap.size, 1, none⟩ = some (.slice p1 es.length c1) := by subst hW2; exact qCl
 have f_b0 : w3.frozen? ⟨w2.heap.size, 0, none⟩ = false := by subst hW2; exact qFz
 have f_b1 : w3.frozen? ⟨w2.heap.size, 1, none⟩ = false := by subst hW2; exact qFz
 have z_q : w.heap.size < w3.heap.size := qB q0
 have z_b : w2.heap.size < w3.heap.size := qB b0
 replace B := B.ext Lw3
 have s_w3 : w.heap.size ≤ w3.heap.size := Xw3.size
 clear hW2
 have hgb : w.heap.size + 1 ≤ w2.heap.size := by omega
 have hbz : w2.heap.size + 1 ≤ w3.heap.size := by omega
 generalize w2.heap.size = gb at *
 have z_q : w.heap.size < w3.heap.size := qB q0
 have z_b : gb < w3.heap.size := qB b0
 go_loopw [5, 6] (fun v i wr => ∃ (m : Nat) (os : List Int), m ≤ es.length ∧ i = .int .i64 m ∧ Hid (os.length ≤ m ∧ ∀ y ∈ os, 0 ≤ y ∧ y ≤ 8) ∧ OwnI wr (gb + 1) v os ∧ BufT wr (w.heap.size + 1) gb (.slice p0 cells.length c0) (.slice p1 es.length c1) cells es R ∧ gb + 1 ≤ wr.heap.size ∧ wr.cell? ⟨w.heap.size, 0, none⟩ = some (.slice none 0 0) ∧ wr.frozen? ⟨w.heap.size, 0, none⟩ = false ∧ wr.cell? ⟨w.heap.size, 1, none⟩ = some (.slice none 0 0) ∧ wr.frozen? ⟨w.heap.size, 1, none⟩ = false ∧ wr.cell? ⟨gb, 0, none⟩ = some (.slice p0 cells.length c0) ∧ wr.frozen? ⟨gb, 0, none⟩ = false ∧ wr.cell? ⟨gb, 1, none⟩ = some (.slice p1 es.length c1) ∧ wr.frozen? ⟨gb, 1, none⟩ = false ∧ Rd wr rb (k + 110) ∧ Rch rb w wr) (fun _ i _ => es.length - (intOf i).toNat)
 case atStart => exact ⟨0, [], Nat.zero_le _, rfl, Lib.hid ⟨by simp, by simp⟩, O, B, hbz, q0, f_q0, q1, f_q1, b0, f_b0, b1, f_b1, Rw2, Xw3⟩
 case round =>
  clear O B hbz q0 f_q0 q1 f_q1 b0 f_b0 b1 f_b1 Rw2 Xw3
  obtain ⟨m, os, hm, rfl, hos, O, B, hbz, q0, f_q0, q1, f_q1, b0, f_b0, b1, f_b1, hr, X⟩ := hrel
  have s_wr := X.size
  have hol := hos.out.1
  have z_q : w.heap.size < wr.heap.size := qB q0
  have z_b : gb < wr.heap.size := qB b0
  obtain ⟨po, co, hfo⟩ := (O.ints (by omega)).form
  subst hfo
  by_cases hlt : m < es.length
  ·
   have hmI : (m : Int) < (es.length : Int) := by omega
   obtain ⟨bl, off, u1, d1, u2, d2, rfl, e0, e1, e2, e3, e4, -, -⟩ := B.exps.at m hlt
   cases ho : (expAt es m).op
   ·
    rw [ho] at e4
    clear ho
    go_wp2_with fail
    go_roundw
    case rel => exact ⟨m + 1, os, by omega, by go_num, Lib.hid ⟨by omega, hos.out.2⟩, O, B, hbz, q0, f_q0, q1, f_q1, b0, f_b0, b1, f_b1, hr, X⟩
    case measure => simp [intOf]; omega
   ·
    rw [ho] at e4
    clear ho
    have EE : Ext wr (wr.alloc (.cells #[.int .i64 (m : Int)] 3)) := qXt
    go_wp2_with (at_builtin; refine wpList_app rfl (.tmp 23) (.tmp 25) rfl rfl rfl (O.ext EE) (Ints.one _ 0 _ (Nat.zero_le _)) (by simp; omega) (by simp; omega) ?_)
    intro v6 w5 ho hgr hbl hv6
    have Kw5 := (Chg.of_ext (lo := gb + 1) (hi := wr.heap.size + 1) EE).trans (by simpa using Below.chg hbl)
    clear O hgr hbl hv6 EE
    have Xw5 : Rch rb w w5 := Rch.below' X Kw5 (by omega)
    replace q0 := Kw5.cell (by omega) q0
    replace f_q0 := Kw5.frzO (by omega) z_q f_q0
    replace q1 := Kw5.cell (by omega) q1
    replace f_q1 := Kw5.frzO (by omega) z_q f_q1
    replace b0 := Kw5.cell (by omega) b0
    replace f_b0 := Kw5.frzO (by omega) z_b f_b0
    replace b1 := Kw5.cell (by omega) b1
    replace f_b1 := Kw5.frzO (by omega) z_b f_b1
    have z_q : w.heap.size < w5.heap.size := qB q0
    have z_b : gb < w5.heap.size := qB b0
    replace hr := hr.chgO Kw5 (by omega)
    have s_w5 : w.heap.size ≤ w5.heap.size := Xw5.size
    replace B := B.chg Kw5 (by omega)
    have zk := Kw5.size
    clear Kw5
    go_wp2_with fail
    go_roundw
    case rel => exact ⟨m + 1, os ++ [(m : Int)], by omega, by go_num, Lib.hid ⟨by simp; omega, fun y hy => by rcases List.mem_append.1 hy with h7 | h7; exact hos.out.2 y h7; rw [List.mem_singleton] at h7; omega⟩, ho, B, by omega, q0, f_q0, q1, f_q1, b0, f_b0, b1, f_b1, hr, Xw5⟩
    case measure => simp [intOf]; omega
  ·
   obtain rfl : m = es.length := by omega
   have hmI : ¬ (es.length : Int) < (es.length : Int) := by omega
   by_cases h0 : os.length = 0
   ·
    have hoI : ¬ (0 : Int) < (os.length : Int) := by omega
    go_wp2_with fail
    go_wp2_with fail
    have hw0 : IntKind.i64.wrap ((es.length : Int) + 1) = (es.length : Int) + 1 := IntWalk.i64_in _ (by omega)
    refine wp_region_held_drew (S := fun w' => w'.cell? ⟨gb, 0, none⟩ = some (.slice p0 cells.length c0) ∧ w'.cell? ⟨gb, 1, none⟩ = some (.slice p1 es.length c1)) qKr ⟨b0, b1⟩ (fun hHeld => ?_)
    refine qHk (v := ?_) 0 rfl (.inl ⟨by rfl, ?_⟩) ?_
    rotate_left
    ·
     (intro w hSw; (try dsimp only at hSw); go_simp; try with_reducible rfl)
    try simp only [Act.put, qa, qb, qc, qD, qE, qF]
    refine qHk (v := ?_) 1 rfl (.inl ⟨by rfl, ?_⟩) ?_
    rotate_left
    ·
     (intro w hSw; (try dsimp only at hSw); go_simp; try with_reducible rfl)
    try simp only [Act.put, qa, qb, qc, qD, qE, qF]
    refine qHk (v := ?_) 2 rfl (.inl ⟨by rfl, ?_⟩) ?_
    rotate_left
    ·
     (intro w hSw; (try dsimp only at hSw); go_simp; try with_reducible rfl)
    try simp only [Act.put, qa, qb, qc, qD, qE, qF]
    refine qHk (v := ?_) 3 rfl (.inl ⟨by rfl, ?_⟩) ?_
    rotate_left
    ·
     (intro w hSw; (try dsimp only at hSw); go_simp; try with_reducible rfl)
    try simp only [Act.put, qa, qb, qc, qD, qE, qF]
    refine qHk (v := ?_) 4 rfl (.inl ⟨by rfl, ?_⟩) ?_
    rotate_left
    ·
     (intro w hSw; (try dsimp only at hSw); go_simp; try with_reducible rfl)
    try simp only [Act.put, qa, qb, qc, qD, qE, qF]
    refine qHk (v := ?_) 5 rfl (.inl ⟨by rfl, ?_⟩) ?_
    rotate_left
    ·
     (intro w hSw; (try dsimp only at hSw); go_simp; try with_reducible rfl)
    try simp only [Act.put, qa, qb, qc, qD, qE, qF]
    refine qHk (v := ?_) 6 rfl (.inl ⟨by rfl, ?_⟩) ?_
    rotate_left
    ·
     (intro w hSw; (try dsimp only at hSw); go_simp; try with_reducible rfl)
    try simp only [Act.put, qa, qb, qc, qD, qE, qF]
    refine qHr 7 rfl (fun K hK => ?_)
    try simp only [Act.put, qa, qb, qc, qD, qE, qF]
    go_simp
    refine (pick1_c ((es.length : Int) + 1) rb _ _ (hr.ext qXt) (by omega) (by omega)).mono ?_
    rintro e w5 ⟨x1, rfl, hx1, Rw5, Cw5⟩
    have Ew5 : Ext wr (wr.drew) := qXt
    have e_w5 := Ew5.size
    have zc_w5 := Cw5.size
    simp only [World.size_drew, World.size_alloc] at zc_w5
    have Xw5 : Rch rb w w5 := Rch.step (Rch.ext X Ew5) Cw5
    replace q0 := Cw5.cell (by omega) (Ew5.cell q0)
    replace f_q0 := Cw5.frzO (by omega) (by omega) (Ew5.frz z_q f_q0)
    replace q1 := Cw5.cell (by omega) (Ew5.cell q1)
    replace f_q1 := Cw5.frzO (by omega) (by omega) (Ew5.frz z_q f_q1)
    replace b0 := Cw5.cell (by omega) (Ew5.cell b0)
    replace f_b0 := Cw5.frzO (by omega) (by omega) (Ew5.frz z_b f_b0)
    replace b1 := Cw5.cell (by omega) (Ew5.cell b1)
    replace f_b1 := Cw5.frzO (by omega) (by omega) (Ew5.frz z_b f_b1)
    have z_q : w.heap.size < w5.heap.size := qB q0
    have z_b : gb < w5.heap.size := qB b0
    replace B := (B.ext Ew5).chg Cw5 (by omega)
    have s_w5 : w.heap.size ≤ w5.heap.size := Xw5.size
    clear hr Cw5 Ew5
    refine hK.out _ _ ⟨b0, b1⟩ (fun hHeld => ?_)
    clear hK K
    try simp only [Act.put, qa, qb, qc, qD, qE, qF]
    refine qHr 8 rfl (fun K hK => ?_)
    try simp only [Act.put, qa, qb, qc, qD, qE, qF]
    go_simp
    skip
    refine hK.out _ _ ⟨(show Ext w5 _ from qXt).cell b0, (show Ext w5 _ from qXt).cell b1⟩ (fun hHeld => ?_)
    clear hK K
    try simp only [Act.put, qa, qb, qc, qD, qE, qF]
    refine qHr 9 rfl (fun K hK => ?_)
    try simp only [Act.put, qa, qb, qc, qD, qE, qF]
    go_simp
    refine (oneLit_c #[.int .i64 x1, .int .i64 (-1)] 2 _ rb _ _ Rw5 (by omega) (by rfl) (by rfl) (by constructor <;> simp) (by first | rfl | simp)).mono ?_
    rintro e w6 ⟨x, rfl, hx, Rw6, Cw6⟩
    have Ew6 : Ext w5 (w5.alloc (.cells #[.int .i64 x1, .int .i64 (-1)] 3)) := qXt
    have e_w6 := Ew6.size
    have zc_w6 := Cw6.size
    have Xw6 : Rch rb w w6 := Rch.step (Rch.ext Xw5 Ew6) Cw6
    replace q0 := Cw6.cell (by omega) (Ew6.cell q0)
    replace f_q0 := Cw6.frzO (by omega) (by omega) (Ew6.frz z_q f_q0)
    replace q1 := Cw6.cell (by omega) (Ew6.cell q1)
    replace f_q1 := Cw6.frzO (by omega) (by omega) (Ew6.frz z_q f_q1)
    replace b0 := Cw6.cell (by omega) (Ew6.cell b0)
    replace f_b0 := Cw6.frzO (by omega) (by omega) (Ew6.frz z_b f_b0)
    replace b1 := Cw6.cell (by omega) (Ew6.cell b1)
    replace f_b1 := Cw6.frzO (by omega) (by omega) (Ew6.frz z_b f_b1)
    have z_q : w.heap.size < w6.heap.size := qB q0
    have z_b : gb < w6.heap.size := qB b0
    replace B := (B.ext Ew6).chg Cw6 (by omega)
    have s_w6 : w.heap.size ≤ w6.heap.size := Xw6.size
    clear Rw5 Cw6 Ew6
    replace hx : -1 ≤ x ∧ x ≤ 9 := by simp [litL] at hx; omega
    refine hK.out _ _ ⟨b0, b1⟩ (fun hHeld => ?_)
    clear hK K
    try simp only [Act.put, qa, qb, qc, qD, qE, qF]
    refine qHr 10 rfl (fun K hK => ?_)
    try simp only [Act.put, qa, qb, qc, qD, qE, qF]
    go_simp
    generalize hW3 : ((w6.setCell ⟨w.heap.size, 0, none⟩ (.slice p0 cells.length c0)).setCell ⟨w.heap.size, 1, none⟩ (.slice p1 es.length c1)) = w7 at *
    have Kw7 : Chg (w.heap.size) (w.heap.size + 1) w6 w7 := by subst hW3; exact qCh
    have Xw7 : Rch rb w w7 := by subst hW3; exact qRt
    replace Rw6 := (Rd.set2 (a := ⟨w.heap.size, 1, none⟩) (u := .slice p1 es.length c1) (show rb < w.heap.size by omega) (Rd.set2 (a := ⟨w.heap.size, 0, none⟩) (u := .slice p0 cells.length c0) (show rb < w.heap.size by omega) Rw6))
    rw [hW3] at Rw6
    replace q0 : w7.cell? ⟨w.heap.size, 0, none⟩ = some (.slice p0 cells.length c0) := by subst hW3; go_simp
    replace f_q0 : w7.frozen? ⟨w.heap.size, 0, none⟩ = false := by subst hW3; first | (simp only [World.frozen?_setCell]; with_reducible assumption) | go_simp
    replace q1 : w7.cell? ⟨w.heap.size, 1, none⟩ = some (.slice p1 es.length c1) := by subst hW3; go_simp
    replace f_q1 : w7.frozen? ⟨w.heap.size, 1, none⟩ = false := by subst hW3; first | (simp only [World.frozen?_setCell]; with_reducible assumption) | go_simp
    replace b0 := Kw7.cell (by omega) b0
    replace f_b0 := Kw7.frzO (by omega) z_b f_b0
    replace b1 := Kw7.cell (by omega) b1
    replace f_b1 := Kw7.frzO (by omega) z_b f_b1
    replace B := B.chg Kw7 (by omega)
    clear Kw7
    have z_q : w.heap.size < w7.heap.size := qB q0
    have z_b : gb < w7.heap.size := qB b0
    have s_w7 : w.heap.size ≤ w7.heap.size := Xw7.size
    clear hW3
    refine hK.out _ _ ⟨b0, b1⟩ (fun hHeld => ?_)
    clear hK K
    try simp only [Act.put, qa, qb, qc, qD, qE, qF]
    refine qHk (v := ?_) 11 rfl (.inl ⟨by rfl, ?_⟩) ?_
    rotate_left
    ·
     (intro w hSw; (try dsimp only at hSw); go_simp; try with_reducible rfl)
    try simp only [Act.put, qa, qb, qc, qD, qE, qF]
    refine wpAnyH_done qKr ?_ _
    clear hHeld hw0
    go_wp2_with fail
    refine bodyPost_ret (v := .tuple #[.agg #[.slice p0 cells.length c0, .slice p1 es.length c1], .int .i64 x]) (by simp only [results, Try.results45]; go_simp) rfl ?_
    exact ⟨cells, es, _, _, _, _, x, rfl, B.ints.lower (by omega), B.exps.lower (by omega), hs, hx, Rw6.mono (by omega), Xw7⟩
   ·
    have hoI : (0 : Int) < (os.length : Int) := by omega
    have hne : os ≠ [] := by intro h7; rw [h7] at h0; exact h0 rfl
    obtain ⟨go, co2, hf2, hg1, hg2⟩ := O.row hne
    injection hf2 with hf2a hf2b hf2c
    subst hf2a
    subst hf2c
    go_wp2_with fail
    refine (pick1_c 4 _ _ _ hr (by omega) (by omega)).mono ?_
    rintro e w5 ⟨x2, rfl, hx2, Rw5, Cw5⟩
    have zc_w5 := Cw5.size
    have Xw5 : Rch rb w w5 := Rch.step (X) Cw5
    replace q0 := Cw5.cell (by omega) q0
    replace f_q0 := Cw5.frzO (by omega) (by omega) f_q0
    replace q1 := Cw5.cell (by omega) q1
    replace f_q1 := Cw5.frzO (by omega) (by omega) f_q1
    replace b0 := Cw5.cell (by omega) b0
    replace f_b0 := Cw5.frzO (by omega) (by omega) f_b0
    replace b1 := Cw5.cell (by omega) b1
    replace f_b1 := Cw5.frzO (by omega) (by omega) f_b1
    have z_q : w.heap.size < w5.heap.size := qB q0
    have z_b : gb < w5.heap.size := qB b0
    replace B := B.chg Cw5 (by omega)
    replace O := O.chg Cw5 (by omega)
    have s_w5 : w.heap.size ≤ w5.heap.size := Xw5.size
    clear hr Cw5
    by_cases h2 : 0 < x2
    ·
     clear h0
     have hos2 : ∀ j, j < os.length → w5.cell? ⟨go, j, none⟩ = some (.int .i64 (os.getD j 0)) := fun j hj => (O.cell j hj).1
     replace hos2 := Lib.hid hos2
     go_wp2_with fail
     refine wp_region_held_drew (S := fun w' => w'.cell? ⟨gb, 0, none⟩ = some (.slice p0 cells.length c0) ∧ w'.cell? ⟨gb, 1, none⟩ = some (.slice p1 es.length c1) ∧ Hid (∀ j, j < os.length → w'.cell? ⟨go, j, none⟩ = some (.int .i64 (os.getD j 0)))) qKr ⟨b0, b1, hos2⟩ (fun hHeld => ?_)
     refine qHk (v := ?_) 0 rfl (.inl ⟨by rfl, ?_⟩) ?_
     rotate_left
     ·
      (intro w hSw; (try dsimp only at hSw); go_simp; try with_reducible rfl)
     try simp only [Act.put, qa, qb, qc, qD, qE, qF]
     refine qHk (v := ?_) 1 rfl (.inl ⟨by rfl, ?_⟩) ?_
     rotate_left
     ·
      (intro w hSw; (try dsimp only at hSw); go_simp; try with_reducible rfl)
     try simp only [Act.put, qa, qb, qc, qD, qE, qF]
     refine qHk (v := ?_) 2 rfl (.inl ⟨by rfl, ?_⟩) ?_
     rotate_left
     ·
      (intro w hSw; (try dsimp only at hSw); go_simp; try with_reducible rfl)
     try simp only [Act.put, qa, qb, qc, qD, qE, qF]
     refine qHk (v := ?_) 3 rfl (.inl ⟨by rfl, ?_⟩) ?_
     rotate_left
     ·
      (intro w hSw; (try dsimp only at hSw); go_simp; try with_reducible rfl)
     try simp only [Act.put, qa, qb, qc, qD, qE, qF]
     refine qHk (v := ?_) 4 rfl (.inl ⟨by rfl, ?_⟩) ?_
     rotate_left
     ·
      (intro w hSw; (try dsimp only at hSw); go_simp; try with_reducible rfl)
     try simp only [Act.put, qa, qb, qc, qD, qE, qF]
     refine qHr 5 rfl (fun K hK => ?_)
     try simp only [Act.put, qa, qb, qc, qD, qE, qF]
     go_simp
     refine (pick1_c (os.length : Int) rb _ _ (Rw5.ext qXt) (by omega) (by omega)).mono ?_
     rintro e w6 ⟨x3, rfl, hx3, Rw6, Cw6⟩
     have Ew6 : Ext w5 (w5.drew) := qXt
     have e_w6 := Ew6.size
     have zc_w6 := Cw6.size
     simp only [World.size_drew, World.size_alloc] at zc_w6
     have Xw6 : Rch rb w w6 := Rch.step (Rch.ext Xw5 Ew6) Cw6
     replace q0 := Cw6.cell (by omega) (Ew6.cell q0)
     replace f_q0 := Cw6.frzO (by omega) (by omega) (Ew6.frz z_q f_q0)
     replace q1 := Cw6.cell (by omega) (Ew6.cell q1)
     replace f_q1 := Cw6.frzO (by omega) (by omega) (Ew6.frz z_q f_q1)
     replace b0 := Cw6.cell (by omega) (Ew6.cell b0)
     replace f_b0 := Cw6.frzO (by omega) (by omega) (Ew6.frz z_b f_b0)
     replace b1 := Cw6.cell (by omega) (Ew6.cell b1)
     replace f_b1 := Cw6.frzO (by omega) (by omega) (Ew6.frz z_b f_b1)
     have z_q : w.heap.size < w6.heap.size := qB q0
     have z_b : gb < w6.heap.size := qB b0
     replace B := (B.ext Ew6).chg Cw6 (by omega)
     replace O := (O.ext Ew6).chg Cw6 (by omega)
     have s_w6 : w.heap.size ≤ w6.heap.size := Xw6.size
     clear Rw5 Cw6 Ew6
     obtain ⟨j, rfl⟩ : ∃ j : Nat, x3 = j := ⟨x3.toNat, by omega⟩
     have hj : j < os.length := by omega
     have hjI : (j : Int) < (os.length : Int) := by omega
     replace hos2 := Lib.hid (fun j (hj : j < os.length) => (O.cell j hj).1)
     refine hK.out _ _ ⟨b0, b1, hos2⟩ (fun hHeld => ?_)
     clear hK K
     try simp only [Act.put, qa, qb, qc, qD, qE, qF]
     refine qHk (v := ?_) 6 rfl (.inl ⟨by rfl, ?_⟩) ?_
     rotate_left
     ·
      (intro w hSw; (try dsimp only at hSw); go_simp; try with_reducible rfl)
     try simp only [Act.put, qa, qb, qc, qD, qE, qF]
     refine wpAnyH_take (i := 7) (v := ?_) rfl qKr qKr qKr (fun _ _ _ h => h) (Or.inl ⟨by rfl, ?_⟩) (by assumption) ?_
     rotate_left
     ·
      (intro w7 hSw; have e7 := hSw.2.2.out j hj; go_simp; try with_reducible rfl)
     try simp only [Act.put, qa, qb, qc, qD, qE, qF]
     refine qHr 8 rfl (fun K hK => ?_)
     try simp only [Act.put, qa, qb, qc, qD, qE, qF]
     go_simp
     generalize hW4 : ((w6.setCell ⟨w.heap.size, 0, none⟩ (.slice p0 cells.length c0)).setCell ⟨w.heap.size, 1, none⟩ (.slice p1 es.length c1)) = w7 at *
     have Kw7 : Chg (w.heap.size) (w.heap.size + 1) w6 w7 := by subst hW4; exact qCh
     have Xw7 : Rch rb w w7 := by subst hW4; exact qRt
     replace Rw6 := (Rd.set2 (a := ⟨w.heap.size, 1, none⟩) (u := .slice p1 es.length c1) (show rb < w.heap.size by omega) (Rd.set2 (a := ⟨w.heap.size, 0, none⟩) (u := .slice p0 cells.length c0) (show rb < w.heap.size by omega) Rw6))
     rw [hW4] at Rw6
     replace q0 : w7.cell? ⟨w.heap.size, 0, none⟩ = some (.slice p0 cells.length c0) := by subst hW4; go_simp
     replace f_q0 : w7.frozen? ⟨w.heap.size, 0, none⟩ = false := by subst hW4; first | (simp only [World.frozen?_setCell]; with_reducible assumption) | go_simp
     replace q1 : w7.cell? ⟨w.heap.size, 1, none⟩ = some (.slice p1 es.length c1) := by subst hW4; go_simp
     replace f_q1 : w7.frozen? ⟨w.heap.size, 1, none⟩ = false := by subst hW4; first | (simp only [World.frozen?_setCell]; with_reducible assumption) | go_simp
     replace b0 := Kw7.cell (by omega) b0
     replace f_b0 := Kw7.frzO (by omega) z_b f_b0
     replace b1 := Kw7.cell (by omega) b1
     replace f_b1 := Kw7.frzO (by omega) z_b f_b1
     replace B := B.chg Kw7 (by omega)
     replace O := O.chg Kw7 (by omega)
     clear Kw7
     have z_q : w.heap.size < w7.heap.size := qB q0
     have z_b : gb < w7.heap.size := qB b0
     have s_w7 : w.heap.size ≤ w7.heap.size := Xw7.size
     clear hW4
     replace hos2 := Lib.hid (fun j (hj : j < os.length) => (O.cell j hj).1)
     refine hK.out _ _ ⟨b0, b1, hos2⟩ (fun hHeld => ?_)
     clear hK K
     try simp only [Act.put, qa, qb, qc, qD, qE, qF]
     refine qHk (v := ?_) 9 rfl (.inl ⟨by rfl, ?_⟩) ?_
     rotate_left
     ·
      (intro w hSw; (try dsimp only at hSw); go_simp; try with_reducible rfl)
     try simp only [Act.put, qa, qb, qc, qD, qE, qF]
     refine wpAnyH_done qKr ?_ _
     clear hHeld
     have hx : -1 ≤ os.getD j 0 ∧ os.getD j 0 ≤ 9 := by have h7 := hos.out.2 _ (getD_mem hj); omega
     rw [show os.getD j 0 = os[j] by simp [hj]] at hx
     generalize os[j] = x at *
     go_wp2_with fail
     refine bodyPost_ret (v := .tuple #[.agg #[.slice p0 cells.length c0, .slice p1 es.length c1], .int .i64 x]) (by simp only [results, Try.results45]; go_simp) rfl ?_
     exact ⟨cells, es, _, _, _, _, x, rfl, B.ints.lower (by omega), B.exps.lower (by omega), hs, hx, Rw6.mono (by omega), Xw7⟩
    ·
     go_wp2_with fail
     go_wp2_with fail
     have hw0 : IntKind.i64.wrap ((es.length : Int) + 1) = (es.length : Int) + 1 := IntWalk.i64_in _ (by omega)
     refine wp_region_held_drew (S := fun w' => w'.cell? ⟨gb, 0, none⟩ = some (.slice p0 cells.length c0) ∧ w'.cell? ⟨gb, 1, none⟩ = some (.slice p1 es.length c1)) qKr ⟨b0, b1⟩ (fun hHeld => ?_)
     refine qHk (v := ?_) 0 rfl (.inl ⟨by rfl, ?_⟩) ?_
     rotate_left
     ·
      (intro w hSw; (try dsimp only at hSw); go_simp; try with_reducible rfl)
     try simp only [Act.put, qa, qb, qc, qD, qE, qF]
     refine qHk (v := ?_) 1 rfl (.inl ⟨by rfl, ?_⟩) ?_
     rotate_left
     ·
      (intro w hSw; (try dsimp only at hSw); go_simp; try with_reducible rfl)
     try simp only [Act.put, qa, qb, qc, qD, qE, qF]
     refine qHk (v := ?_) 2 rfl (.inl ⟨by rfl, ?_⟩) ?_
     rotate_left
     ·
      (intro w hSw; (try dsimp only at hSw); go_simp; try with_reducible rfl)
     try simp only [Act.put, qa, qb, qc, qD, qE, qF]
     refine qHk (v := ?_) 3 rfl (.inl ⟨by rfl, ?_⟩) ?_
     rotate_left
     ·
      (intro w hSw; (try dsimp only at hSw); go_simp; try with_reducible rfl)
     try simp only [Act.put, qa, qb, qc, qD, qE, qF]
     refine qHk (v := ?_) 4 rfl (.inl ⟨by rfl, ?_⟩) ?_
     rotate_left
     ·
      (intro w hSw; (try dsimp only at hSw); go_simp; try with_reducible rfl)
     try simp only [Act.put, qa, qb, qc, qD, qE, qF]
     refine qHk (v := ?_) 5 rfl (.inl ⟨by rfl, ?_⟩) ?_
     rotate_left
     ·
      (intro w hSw; (try dsimp only at hSw); go_simp; try with_reducible rfl)
     try simp only [Act.put, qa, qb, qc, qD, qE, qF]
     refine qHk (v := ?_) 6 rfl (.inl ⟨by rfl, ?_⟩) ?_
     rotate_left
     ·
      (intro w hSw; (try dsimp only at hSw); go_simp; try with_reducible rfl)
     try simp only [Act.put, qa, qb, qc, qD, qE, qF]
     refine qHr 7 rfl (fun K hK => ?_)
     try simp only [Act.put, qa, qb, qc, qD, qE, qF]
     go_simp
     refine (pick1_c ((es.length : Int) + 1) rb _ _ (Rw5.ext qXt) (by omega) (by omega)).mono ?_
     rintro e w6 ⟨x1, rfl, hx1, Rw6, Cw6⟩
     have Ew6 : Ext w5 (w5.drew) := qXt
     have e_w6 := Ew6.size
     have zc_w6 := Cw6.size
     simp only [World.size_drew, World.size_alloc] at zc_w6
     have Xw6 : Rch rb w w6 := Rch.step (Rch.ext Xw5 Ew6) Cw6
     replace q0 := Cw6.cell (by omega) (Ew6.cell q0)
     replace f_q0 := Cw6.frzO (by omega) (by omega) (Ew6.frz z_q f_q0)
     replace q1 := Cw6.cell (by omega) (Ew6.cell q1)
     replace f_q1 := Cw6.frzO (by omega) (by omega) (Ew6.frz z_q f_q1)
     replace b0 := Cw6.cell (by omega) (Ew6.cell b0)
     replace f_b0 := Cw6.frzO (by omega) (by omega) (Ew6.frz z_b f_b0)
     replace b1 := Cw6.cell (by omega) (Ew6.cell b1)
     replace f_b1 := Cw6.frzO (by omega) (by omega) (Ew6.frz z_b f_b1)
     have z_q : w.heap.size < w6.heap.size := qB q0
     have z_b : gb < w6.heap.size := qB b0
     replace B := (B.ext Ew6).chg Cw6 (by omega)
     have s_w6 : w.heap.size ≤ w6.heap.size := Xw6.size
     clear Rw5 Cw6 Ew6
     refine hK.out _ _ ⟨b0, b1⟩ (fun hHeld => ?_)
     clear hK K
     try simp only [Act.put, qa, qb, qc, qD, qE, qF]
     refine qHr 8 rfl (fun K hK => ?_)
     try simp only [Act.put, qa, qb, qc, qD, qE, qF]
     go_simp
     skip
     refine hK.out _ _ ⟨(show Ext w6 _ from qXt).cell b0, (show Ext w6 _ from qXt).cell b1⟩ (fun hHeld => ?_)
     clear hK K
     try simp only [Act.put, qa, qb, qc, qD, qE, qF]
     refine qHr 9 rfl (fun K hK => ?_)
     try simp only [Act.put, qa, qb, qc, qD, qE, qF]
     go_simp
     refine (oneLit_c #[.int .i64 x1, .int .i64 (-1)] 2 _ rb _ _ Rw6 (by omega) (by rfl) (by rfl) (by constructor <;> simp) (by first | rfl | simp)).mono ?_
     rintro e w7 ⟨x, rfl, hx, Rw7, Cw7⟩
     have Ew7 : Ext w6 (w6.alloc (.cells #[.int .i64 x1, .int .i64 (-1)] 3)) := qXt
     have e_w7 := Ew7.size
     have zc_w7 := Cw7.size
     have Xw7 : Rch rb w w7 := Rch.step (Rch.ext Xw6 Ew7) Cw7
     replace q0 := Cw7.cell (by omega) (Ew7.cell q0)
     replace f_q0 := Cw7.frzO (by omega) (by omega) (Ew7.frz z_q f_q0)
     replace q1 := Cw7.cell (by omega) (Ew7.cell q1)
     replace f_q1 := Cw7.frzO (by omega) (by omega) (Ew7.frz z_q f_q1)
     replace b0 := Cw7.cell (by omega) (Ew7.cell b0)
     replace f_b0 := Cw7.frzO (by omega) (by omega) (Ew7.frz z_b f_b0)
     replace b1 := Cw7.cell (by omega) (Ew7.cell b1)
     replace f_b1 := Cw7.frzO (by omega) (by omega) (Ew7.frz z_b f_b1)
     have z_q : w.heap.size < w7.heap.size := qB q0
     have z_b : gb < w7.heap.size := qB b0
     replace B := (B.ext Ew7).chg Cw7 (by omega)
     have s_w7 : w.heap.size ≤ w7.heap.size := Xw7.size
     clear Rw6 Cw7 Ew7
     replace hx : -1 ≤ x ∧ x ≤ 9 := by simp [litL] at hx; omega
     refine hK.out _ _ ⟨b0, b1⟩ (fun hHeld => ?_)
     clear hK K
     try simp only [Act.put, qa, qb, qc, qD, qE, qF]
     refine qHr 10 rfl (fun K hK => ?_)
     try simp only [Act.put, qa, qb, qc, qD, qE, qF]
     go_simp
     generalize hW5 : ((w7.setCell ⟨w.heap.size, 0, none⟩ (.slice p0 cells.length c0)).setCell ⟨w.heap.size, 1, none⟩ (.slice p1 es.length c1)) = w8 at *
     have Kw8 : Chg (w.heap.size) (w.heap.size + 1) w7 w8 := by subst hW5; exact qCh
     have Xw8 : Rch rb w w8 := by subst hW5; exact qRt
     replace Rw7 := (Rd.set2 (a := ⟨w.heap.size, 1, none⟩) (u := .slice p1 es.length c1) (show rb < w.heap.size by omega) (Rd.set2 (a := ⟨w.heap.size, 0, none⟩) (u := .slice p0 cells.length c0) (show rb < w.heap.size by omega) Rw7))
     rw [hW5] at Rw7
     replace q0 : w8.cell? ⟨w.heap.size, 0, none⟩ = some (.slice p0 cells.length c0) := by subst hW5; go_simp
     replace f_q0 : w8.frozen? ⟨w.heap.size, 0, none⟩ = false := by subst hW5; first | (simp only [World.frozen?_setCell]; with_reducible assumption) | go_simp
     replace q1 : w8.cell? ⟨w.heap.size, 1, none⟩ = some (.slice p1 es.length c1) := by subst hW5; go_simp
     replace f_q1 : w8.frozen? ⟨w.heap.size, 1, none⟩ = false := by subst hW5; first | (simp only [World.frozen?_setCell]; with_reducible assumption) | go_simp
     replace b0 := Kw8.cell (by omega) b0
     replace f_b0 := Kw8.frzO (by omega) z_b f_b0
     replace b1 := Kw8.cell (by omega) b1
     replace f_b1 := Kw8.frzO (by omega) z_b f_b1
     replace B := B.chg Kw8 (by omega)
     clear Kw8
     have z_q : w.heap.size < w8.heap.size := qB q0
     have z_b : gb < w8.heap.size := qB b0
     have s_w8 : w.heap.size ≤ w8.heap.size := Xw8.size
     clear hW5
     refine hK.out _ _ ⟨b0, b1⟩ (fun hHeld => ?_)
     clear hK K
     try simp only [Act.put, qa, qb, qc, qD, qE, qF]
     refine qHk (v := ?_) 11 rfl (.inl ⟨by rfl, ?_⟩) ?_
     rotate_left
     ·
      (intro w hSw; (try dsimp only at hSw); go_simp; try with_reducible rfl)
     try simp only [Act.put, qa, qb, qc, qD, qE, qF]
     refine wpAnyH_done qKr ?_ _
     clear hHeld hw0
     go_wp2_with fail
     refine bodyPost_ret (v := .tuple #[.agg #[.slice p0 cells.length c0, .slice p1 es.length c1], .int .i64 x]) (by simp only [results, Try.results45]; go_simp) rfl ?_
     exact ⟨cells, es, _, _, _, _, x, rfl, B.ints.lower (by omega), B.exps.lower (by omega), hs, hx, Rw7.mono (by omega), Xw8⟩

end Go.Proofs.Ytgklaobfikbiiaa

/- Walks: draws of buffers. -/
namespace Go.Proofs.Ytgklaobfikbiiaa
open Go.RowKit
set_option linter.unusedVariables false
set_option maxRecDepth 100000

/-- a buffer is drawn -/
def PDB (w : World) (e : Ending) (w' : World) : Prop := ∃ (cells : List Int) (es : List Exp) (p0 p1 : Option Addr) (c0 c1 : Nat), e = .returned (.agg #[.slice p0 cells.length c0, .slice p1 es.length c1]) ∧
 Ints w' w.heap.size (.slice p0 cells.length c0) cells ∧ Exps w' w.heap.size (.slice p1 es.length c1) es ∧ Hid (SmallX cells es) ∧ Ext w w'
/-- a buffer and a number are drawn -/
def PDBI (w : World) (e : Ending) (w' : World) : Prop := ∃ (cells : List Int) (es : List Exp) (p0 p1 : Option Addr) (c0 c1 : Nat) (x : Int), e = .returned (.tuple #[.agg #[.slice p0 cells.length c0, .slice p1 es.length c1], .int .i64 x]) ∧
 Ints w' w.heap.size (.slice p0 cells.length c0) cells ∧ Exps w' w.heap.size (.slice p1 es.length c1) es ∧ Hid (SmallX cells es) ∧ (-1 ≤ x ∧ x ≤ 61) ∧ Ext w w'
theorem smallX_set {cells : List Int} {es : List Exp} (h : SmallX cells es) (i : Nat) (o : Bool) (hi : i < es.length) : SmallX cells (es.set i ⟨(expAt es i).par, (expAt es i).b, (expAt es i).s, (expAt es i).t, o⟩) :=
 ⟨h.1, by rw [List.length_set]; exact h.2.1, fun j hj => by
  rw [List.length_set] at hj
  rw [expAt_set es i _ j hi]
  by_cases hq : j = i
  ·
   subst hq; rw [if_pos rfl]; exact h.2.2 j hj
  ·
   rw [if_neg hq]; exact h.2.2 j hj⟩
theorem BufT.close {w : World} {lo m2 a n c : Nat} {cv : Value} {cells : List Int} {es : List Exp} {R : Nat → Value} (h : BufT w lo m2 cv (.slice (some ⟨a, 0, none⟩) n c) cells es R) (hn : n = es.length) (i : Nat) (hi : i < es.length) (o : Bool) :
  BufT (w.setCell ⟨a, i * 5 + 4, none⟩ (.bool o)) lo m2 cv (.slice (some ⟨a, 0, none⟩) n c) cells (es.set i ⟨(expAt es i).par, (expAt es i).b, (expAt es i).s, (expAt es i).t, o⟩) R := by
 refine ⟨h.buf.close hn i hi o, h.loc.c, h.loc.e, fun p hp hs => h.loc.r p (by rw [List.length_set] at hp; exact hp) (fun h2 => hs ?_)⟩
 unfold rowAt at h2 ⊢
 by_cases hq : p / 2 = i
 ·
  subst hq; rw [expAt_setS es _ _ hi]; exact h2
 ·
  rw [expAt_set es i _ _ hi, if_neg hq]; exact h2
set_option maxHeartbeats 3200000 in
theorem drawValidBuffer_c (a : Option Addr) (n cap : Nat) (w : World) (hb : BysIn w a n cap) :
  Calls Try.prog 9 #[.slice a n cap] w (PDB w) := by
 go_enter Try.func9, Try.ntmps9
 go_wp2_with fail
 refine (newReader_c a n cap _ (hb.ext qXt)).mono ?_
 rintro e w1 ⟨rfl, hr, xw1⟩
 have Lw1 : Ext w w1 := Ext.trans qXt xw1
 have Xw1 : Ext w w1 := Lw1
 have q0 : w1.cell? ⟨w.heap.size, 0, none⟩ = some (.slice none 0 0) := xw1.cell qCl
 have q1 : w1.cell? ⟨w.heap.size, 1, none⟩ = some (.slice none 0 0) := xw1.cell qCl
 have f_q0 : w1.frozen? ⟨w.heap.size, 0, none⟩ = false := xw1.frz (by simp <;> omega) qFz
 have f_q1 : w1.frozen? ⟨w.heap.size, 1, none⟩ = false := xw1.frz (by simp <;> omega) qFz
 have z_q : w.heap.size < w1.heap.size := qB q0
 have s_w1 : w.heap.size ≤ w1.heap.size := Xw1.size
 clear xw1
 simp only [World.size_alloc] at hr
 have z1 := hr.lt
 clear hb
 go_wp2_with fail
 refine (someBuffer_c _ 0 _ hr (by omega)).mono ?_
 rintro e w2 ⟨cv, ev, cells, es, R, rfl, B, hs, Rw2, Cw2⟩
 have zc_w2 := Cw2.size
 have Xw2 : Ext w w2 := Rch.toExt' Cw2 (by omega) (Xw1)
 replace q0 := Cw2.cell (by omega) q0
 replace f_q0 := Cw2.frzO (by omega) (by omega) f_q0
 replace q1 := Cw2.cell (by omega) q1
 replace f_q1 := Cw2.frzO (by omega) (by omega) f_q1
 have z_q : w.heap.size < w2.heap.size := qB q0
 have s_w2 : w.heap.size ≤ w2.heap.size := Xw2.size
 clear hr Cw2
 obtain ⟨p0, c0, rfl⟩ := B.ints.form
 obtain ⟨p1, c1, rfl⟩ := B.exps.form
 go_wp2_with fail
 generalize hW1 : ((w2.setCell ⟨w.heap.size, 0, none⟩ (.slice p0 cells.length c0)).setCell ⟨w.heap.size, 1, none⟩ (.slice p1 es.length c1)) = w3 at *
 have Kw3 : Chg (w.heap.size) (w.heap.size + 1) w2 w3 := by subst hW1; exact qCh
 have Xw3 : Ext w w3 := by subst hW1; exact qXt
 replace q0 : w3.cell? ⟨w.heap.size, 0, none⟩ = some (.slice p0 cells.length c0) := by subst hW1; go_simp
 replace f_q0 : w3.frozen? ⟨w.heap.size, 0, none⟩ = false := by subst hW1; first | (simp only [World.frozen?_setCell]; with_reducible assumption) | go_simp
 replace q1 : w3.cell? ⟨w.heap.size, 1, none⟩ = some (.slice p1 es.length c1) := by subst hW1; go_simp
 replace f_q1 : w3.frozen? ⟨w.heap.size, 1, none⟩ = false := by subst hW1; first | (simp only [World.frozen?_setCell]; with_reducible assumption) | go_simp
 replace B := B.chg Kw3 (by omega)
 clear Kw3
 have z_q : w.heap.size < w3.heap.size := qB q0
 have s_w3 : w.heap.size ≤ w3.heap.size := Xw3.size
 clear hW1
 refine bodyPost_ret (v := .agg #[.slice p0 cells.length c0, .slice p1 es.length c1]) (by simp only [results, Try.results9]; go_simp) rfl ?_
 exact ⟨cells, es, _, _, _, _, rfl, B.ints.lower (by omega), B.exps.lower (by omega), hs, Xw3⟩
set_option maxHeartbeats 3200000 in
theorem drawOpenOf_c (a : Option Addr) (n cap : Nat) (w : World) (hb : BysIn w a n cap) :
  Calls Try.prog 18 #[.slice a n cap] w (PDB w) := by
 go_enter Try.func18, Try.ntmps18
 go_wp2_with fail
 refine (newReader_c a n cap _ (hb.ext qXt)).mono ?_
 rintro e w1 ⟨rfl, hr, xw1⟩
 have Lw1 : Ext w w1 := Ext.trans qXt xw1
 have Xw1 : Ext w w1 := Lw1
 have q0 : w1.cell? ⟨w.heap.size, 0, none⟩ = some (.slice none 0 0) := xw1.cell qCl
 have q1 : w1.cell? ⟨w.heap.size, 1, none⟩ = some (.slice none 0 0) := xw1.cell qCl
 have f_q0 : w1.frozen? ⟨w.heap.size, 0, none⟩ = false := xw1.frz (by simp <;> omega) qFz
 have f_q1 : w1.frozen? ⟨w.heap.size, 1, none⟩ = false := xw1.frz (by simp <;> omega) qFz
 have z_q : w.heap.size < w1.heap.size := qB q0
 have s_w1 : w.heap.size ≤ w1.heap.size := Xw1.size
 clear xw1
 simp only [World.size_alloc] at hr
 have z1 := hr.lt
 clear hb
 go_wp2_with fail
 refine (someBuffer_c _ 0 _ hr (by omega)).mono ?_
 rintro e w2 ⟨cv, ev, cells, es, R, rfl, B, hs, Rw2, Cw2⟩
 have zc_w2 := Cw2.size
 have Xw2 : Ext w w2 := Rch.toExt' Cw2 (by omega) (Xw1)
 replace q0 := Cw2.cell (by omega) q0
 replace f_q0 := Cw2.frzO (by omega) (by omega) f_q0
 replace q1 := Cw2.cell (by omega) q1
 replace f_q1 := Cw2.frzO (by omega) (by omega) f_q1
 have z_q : w.heap.size < w2.heap.size := qB q0
 have s_w2 : w.heap.size ≤ w2.heap.size := Xw2.size
 clear hr Cw2
 obtain ⟨p0, c0, rfl⟩ := B.ints.form
 obtain ⟨p1, c1, rfl⟩ := B.exps.form
 go_wp2_with fail
 generalize hW2 : ((w2.setCell ⟨w.heap.size, 0, none⟩ (.slice p0 cells.length c0)).setCell ⟨w.heap.size, 1, none⟩ (.slice p1 es.length c1)) = w3 at *
 have Kw3 : Chg (w.heap.size) (w.heap.size + 1) w2 w3 := by subst hW2; exact qCh
 have Xw3 : Ext w w3 := by subst hW2; exact qXt
 replace q0 : w3.cell? ⟨w.heap.size, 0, none⟩ = some (.slice p0 cells.length c0) := by subst hW2; go_simp
 replace f_q0 : w3.frozen? ⟨w.heap.size, 0, none⟩ = false := by subst hW2; first | (simp only [World.frozen?_setCell]; with_reducible assumption) | go_simp
 replace q1 : w3.cell? ⟨w.heap.size, 1, none⟩ = some (.slice p1 es.length c1) := by subst hW2; go_simp
 replace f_q1 : w3.frozen? ⟨w.heap.size, 1, none⟩ = false := by subst hW2; first | (simp only [World.frozen?_setCell]; with_reducible assumption) | go_simp
 replace B := B.chg Kw3 (by omega)
 clear Kw3
 have z_q : w.heap.size < w3.heap.size := qB q0
 have s_w3 : w.heap.size ≤ w3.heap.size := Xw3.size
 clear hW2
 refine bodyPost_ret (v := .agg #[.slice p0 cells.length c0, .slice p1 es.length c1]) (by simp only [results, Try.results18]; go_simp) rfl ?_
 exact ⟨cells, es, _, _, _, _, rfl, B.ints.lower (by omega), B.exps.lower (by omega), hs, Xw3⟩
set_option maxHeartbeats 3200000 in
theorem drawKidsOf_c (a : Option Addr) (n cap : Nat) (w : World) (hb : BysIn w a n cap) :
  Calls Try.prog 26 #[.slice a n cap] w (PDBI w) := by
 go_enter Try.func26, Try.ntmps26
 go_wp2_with fail
 refine (newReader_c a n cap _ (hb.ext qXt)).mono ?_
 rintro e w1 ⟨rfl, hr, xw1⟩
 have Lw1 : Ext w w1 := Ext.trans qXt xw1
 have Xw1 : Ext w w1 := Lw1
 have q0 : w1.cell? ⟨w.heap.size, 0, none⟩ = some (.slice none 0 0) := xw1.cell qCl
 have q1 : w1.cell? ⟨w.heap.size, 1, none⟩ = some (.slice none 0 0) := xw1.cell qCl
 have f_q0 : w1.frozen? ⟨w.heap.size, 0, none⟩ = false := xw1.frz (by simp <;> omega) qFz
 have f_q1 : w1.frozen? ⟨w.heap.size, 1, none⟩ = false := xw1.frz (by simp <;> omega) qFz
 have z_q : w.heap.size < w1.heap.size := qB q0
 have s_w1 : w.heap.size ≤ w1.heap.size := Xw1.size
 clear xw1
 simp only [World.size_alloc] at hr
 have z1 := hr.lt
 clear hb
 go_wp2_with fail
 refine (idOf_c _ 0 _ hr (by omega)).mono ?_
 rintro e w2 ⟨cells, es, p0, p1, c0, c1, x, rfl, i1, i2, hs, hx, Rw2, Cw2⟩
 have zc_w2 := Cw2.size
 have Xw2 : Ext w w2 := Rch.toExt' Cw2 (by omega) (Xw1)
 replace q0 := Cw2.cell (by omega) q0
 replace f_q0 := Cw2.frzO (by omega) (by omega) f_q0
 replace q1 := Cw2.cell (by omega) q1
 replace f_q1 := Cw2.frzO (by omega) (by omega) f_q1
 have z_q : w.heap.size < w2.heap.size := qB q0
 have s_w2 : w.heap.size ≤ w2.heap.size := Xw2.size
 clear hr Cw2
 go_wp2_with fail
 generalize hW3 : ((w2.setCell ⟨w.heap.size, 0, none⟩ (.slice p0 cells.length c0)).setCell ⟨w.heap.size, 1, none⟩ (.slice p1 es.length c1)) = w3 at *
 have Kw3 : Chg (w.heap.size) (w.heap.size + 1) w2 w3 := by subst hW3; exact qCh
 have Xw3 : Ext w w3 := by subst hW3; exact qXt
 replace q0 : w3.cell? ⟨w.heap.size, 0, none⟩ = some (.slice p0 cells.length c0) := by subst hW3; go_simp
 replace f_q0 : w3.frozen? ⟨w.heap.size, 0, none⟩ = false := by subst hW3; first | (simp only [World.frozen?_setCell]; with_reducible assumption) | go_simp
 replace q1 : w3.cell? ⟨w.heap.size, 1, none⟩ = some (.slice p1 es.length c1) := by subst hW3; go_simp
 replace f_q1 : w3.frozen? ⟨w.heap.size, 1, none⟩ = false := by subst hW3; first | (simp only [World.frozen?_setCell]; with_reducible assumption) | go_simp
 replace i1 := i1.chg Kw3 (by omega)
 replace i2 := i2.chg Kw3 (by omega)
 clear Kw3
 have z_q : w.heap.size < w3.heap.size := qB q0
 have s_w3 : w.heap.size ≤ w3.heap.size := Xw3.size
 clear hW3
 refine bodyPost_ret (v := .tuple #[.agg #[.slice p0 cells.length c0, .slice p1 es.length c1], .int .i64 x]) (by simp only [results, Try.results26]; go_simp) rfl ?_
 exact ⟨cells, es, _, _, _, _, x, rfl, i1.lower (by omega), i2.lower (by omega), hs, (by omega), Xw3⟩
set_option maxHeartbeats 3200000 in
theorem drawLoadExport_c (a : Option Addr) (n cap : Nat) (w : World) (hb : BysIn w a n cap) :
  Calls Try.prog 21 #[.slice a n cap] w (PDBI w) := by
 go_enter Try.func21, Try.ntmps21
 go_wp2_with fail
 refine (newReader_c a n cap _ (hb.ext qXt)).mono ?_
 rintro e w1 ⟨rfl, hr, xw1⟩
 have Lw1 : Ext w w1 := Ext.trans qXt xw1
 have Xw1 : Ext w w1 := Lw1
 have q0 : w1.cell? ⟨w.heap.size, 0, none⟩ = some (.slice none 0 0) := xw1.cell qCl
 have q1 : w1.cell? ⟨w.heap.size, 1, none⟩ = some (.slice none 0 0) := xw1.cell qCl
 have f_q0 : w1.frozen? ⟨w.heap.size, 0, none⟩ = false := xw1.frz (by simp <;> omega) qFz
 have f_q1 : w1.frozen? ⟨w.heap.size, 1, none⟩ = false := xw1.frz (by simp <;> omega) qFz
 have z_q : w.heap.size < w1.heap.size := qB q0
 have s_w1 : w.heap.size ≤ w1.heap.size := Xw1.size
 clear xw1
 simp only [World.size_alloc] at hr
 have z1 := hr.lt
 clear hb
 go_wp2_with fail
 refine (idOf_c _ 0 _ hr (by omega)).mono ?_
 rintro e w2 ⟨cells, es, p0, p1, c0, c1, x, rfl, i1, i2, hs, hx, Rw2, Cw2⟩
 have zc_w2 := Cw2.size
 have Xw2 : Ext w w2 := Rch.toExt' Cw2 (by omega) (Xw1)
 replace q0 := Cw2.cell (by omega) q0
 replace f_q0 := Cw2.frzO (by omega) (by omega) f_q0
 replace q1 := Cw2.cell (by omega) q1
 replace f_q1 := Cw2.frzO (by omega) (by omega) f_q1
 have z_q : w.heap.size < w2.heap.size := qB q0
 have s_w2 : w.heap.size ≤ w2.heap.size := Xw2.size
 clear hr Cw2
 go_wp2_with fail
 generalize hW4 : ((w2.setCell ⟨w.heap.size, 0, none⟩ (.slice p0 cells.length c0)).setCell ⟨w.heap.size, 1, none⟩ (.slice p1 es.length c1)) = w3 at *
 have Kw3 : Chg (w.heap.size) (w.heap.size + 1) w2 w3 := by subst hW4; exact qCh
 have Xw3 : Ext w w3 := by subst hW4; exact qXt
 replace q0 : w3.cell? ⟨w.heap.size, 0, none⟩ = some (.slice p0 cells.length c0) := by subst hW4; go_simp
 replace f_q0 : w3.frozen? ⟨w.heap.size, 0, none⟩ = false := by subst hW4; first | (simp only [World.frozen?_setCell]; with_reducible assumption) | go_simp
 replace q1 : w3.cell? ⟨w.heap.size, 1, none⟩ = some (.slice p1 es.length c1) := by subst hW4; go_simp
 replace f_q1 : w3.frozen? ⟨w.heap.size, 1, none⟩ = false := by subst hW4; first | (simp only [World.frozen?_setCell]; with_reducible assumption) | go_simp
 replace i1 := i1.chg Kw3 (by omega)
 replace i2 := i2.chg Kw3 (by omega)
 clear Kw3
 have z_q : w.heap.size < w3.heap.size := qB q0
 have s_w3 : w.heap.size ≤ w3.heap.size := Xw3.size
 clear hW4
 refine bodyPost_ret (v := .tuple #[.agg #[.slice p0 cells.length c0, .slice p1 es.length c1], .int .i64 x]) (by simp only [results, Try.results21]; go_simp) rfl ?_
 exact ⟨cells, es, _, _, _, _, x, rfl, i1.lower (by omega), i2.lower (by omega), hs, (by omega), Xw3⟩
set_option maxHeartbeats 3200000 in
theorem drawReleaseExport_c (a : Option Addr) (n cap : Nat) (w : World) (hb : BysIn w a n cap) :
  Calls Try.prog 31 #[.slice a n cap] w (PDBI w) := by
 go_enter Try.func31, Try.ntmps31
 go_wp2_with fail
 refine (newReader_c a n cap _ (hb.ext qXt)).mono ?_
 rintro e w1 ⟨rfl, hr, xw1⟩
 have Lw1 : Ext w w1 := Ext.trans qXt xw1
 have Xw1 : Ext w w1 := Lw1
 have q0 : w1.cell? ⟨w.heap.size, 0, none⟩ = some (.slice none 0 0) := xw1.cell qCl
 have q1 : w1.cell? ⟨w.heap.size, 1, none⟩ = some (.slice none 0 0) := xw1.cell qCl
 have f_q0 : w1.frozen? ⟨w.heap.size, 0, none⟩ = false := xw1.frz (by simp <;> omega) qFz
 have f_q1 : w1.frozen? ⟨w.heap.size, 1, none⟩ = false := xw1.frz (by simp <;> omega) qFz
 have z_q : w.heap.size < w1.heap.size := qB q0
 have s_w1 : w.heap.size ≤ w1.heap.size := Xw1.size
 clear xw1
 simp only [World.size_alloc] at hr
 have z1 := hr.lt
 clear hb
 go_wp2_with fail
 refine (idOf_c _ 0 _ hr (by omega)).mono ?_
 rintro e w2 ⟨cells, es, p0, p1, c0, c1, x, rfl, i1, i2, hs, hx, Rw2, Cw2⟩
 have zc_w2 := Cw2.size
 have Xw2 : Ext w w2 := Rch.toExt' Cw2 (by omega) (Xw1)
 replace q0 := Cw2.cell (by omega) q0
 replace f_q0 := Cw2.frzO (by omega) (by omega) f_q0
 replace q1 := Cw2.cell (by omega) q1
 replace f_q1 := Cw2.frzO (by omega) (by omega) f_q1
 have z_q : w.heap.size < w2.heap.size := qB q0
 have s_w2 : w.heap.size ≤ w2.heap.size := Xw2.size
 clear hr Cw2
 go_wp2_with fail
 generalize hW5 : ((w2.setCell ⟨w.heap.size, 0, none⟩ (.slice p0 cells.length c0)).setCell ⟨w.heap.size, 1, none⟩ (.slice p1 es.length c1)) = w3 at *
 have Kw3 : Chg (w.heap.size) (w.heap.size + 1) w2 w3 := by subst hW5; exact qCh
 have Xw3 : Ext w w3 := by subst hW5; exact qXt
 replace q0 : w3.cell? ⟨w.heap.size, 0, none⟩ = some (.slice p0 cells.length c0) := by subst hW5; go_simp
 replace f_q0 : w3.frozen? ⟨w.heap.size, 0, none⟩ = false := by subst hW5; first | (simp only [World.frozen?_setCell]; with_reducible assumption) | go_simp
 replace q1 : w3.cell? ⟨w.heap.size, 1, none⟩ = some (.slice p1 es.length c1) := by subst hW5; go_simp
 replace f_q1 : w3.frozen? ⟨w.heap.size, 1, none⟩ = false := by subst hW5; first | (simp only [World.frozen?_setCell]; with_reducible assumption) | go_simp
 replace i1 := i1.chg Kw3 (by omega)
 replace i2 := i2.chg Kw3 (by omega)
 clear Kw3
 have z_q : w.heap.size < w3.heap.size := qB q0
 have s_w3 : w.heap.size ≤ w3.heap.size := Xw3.size
 clear hW5
 refine bodyPost_ret (v := .tuple #[.agg #[.slice p0 cells.length c0, .slice p1 es.length c1], .int .i64 x]) (by simp only [results, Try.results31]; go_simp) rfl ?_
 exact ⟨cells, es, _, _, _, _, x, rfl, i1.lower (by omega), i2.lower (by omega), hs, (by omega), Xw3⟩

end Go.Proofs.Ytgklaobfikbiiaa

/- Walks: ValidBuffer, LoadExport, KidsOf. -/
namespace Go.Proofs.Ytgklaobfikbiiaa
open Go.RowKit
set_option linter.unusedVariables false
set_option maxRecDepth 100000

set_option maxHeartbeats 3200000 in
theorem implValidBuffer_c (cells : List Int) (es : List Exp) (cv ev : Value) (w : World) (l1 l2 : Nat) (h1 : Ints w l1 cv cells) (h2 : Exps w l2 ev es) :
  Calls Try.prog 10 #[.agg #[cv, ev]] w (fun e w' => e = .returned (.bool (bufB cells es)) ∧ Ext w w') := by
 obtain ⟨p0, c0, rfl⟩ := h1.form
 obtain ⟨p1, c1, rfl⟩ := h2.form
 have he1 := h2.len
 have hc1 := h1.len
 go_enter Try.func10, Try.ntmps10
 go_wp2_with fail
 refine (isBuffer_c cells es (.slice p0 cells.length c0) (.slice p1 es.length c1) _ _ _ (h1.ext qXt) (h2.ext qXt)).mono ?_
 rintro e w1 ⟨rfl, xw1⟩
 have Lw1 : Ext w w1 := Ext.trans qXt xw1
 have Xw1 : Ext w w1 := Lw1
 have b10 : w1.cell? ⟨w.heap.size, 0, none⟩ = some (.slice p0 cells.length c0) := xw1.cell qCl
 have b11 : w1.cell? ⟨w.heap.size, 1, none⟩ = some (.slice p1 es.length c1) := xw1.cell qCl
 have z_b1 : w.heap.size < w1.heap.size := qB b10
 have s_w1 : w.heap.size ≤ w1.heap.size := Xw1.size
 clear xw1
 go_wp2_with fail
 go_ret
 exact ⟨rfl, (Xw1.trans qXt)⟩

set_option maxHeartbeats 3200000 in
theorem specValidBuffer_c (cells : List Int) (es : List Exp) (cv ev : Value) (w : World) (l1 l2 : Nat) (h1 : Ints w l1 cv cells) (h2 : Exps w l2 ev es) :
  Calls Try.prog 11 #[.agg #[cv, ev]] w (fun e w' => e = .returned (.bool (bufB cells es)) ∧ Ext w w') := by
 obtain ⟨p0, c0, rfl⟩ := h1.form
 obtain ⟨p1, c1, rfl⟩ := h2.form
 have he1 := h2.len
 have hc1 := h1.len
 go_enter Try.func11, Try.ntmps11
 go_wp2_with fail
 refine (validBuffer_c cells es (.slice p0 cells.length c0) (.slice p1 es.length c1) _ _ _ (h1.ext qXt) (h2.ext qXt)).mono ?_
 rintro e w1 ⟨rfl, xw1⟩
 have Lw1 : Ext w w1 := Ext.trans qXt xw1
 have Xw1 : Ext w w1 := Lw1
 have b10 : w1.cell? ⟨w.heap.size, 0, none⟩ = some (.slice p0 cells.length c0) := xw1.cell qCl
 have b11 : w1.cell? ⟨w.heap.size, 1, none⟩ = some (.slice p1 es.length c1) := xw1.cell qCl
 have z_b1 : w.heap.size < w1.heap.size := qB b10
 have s_w1 : w.heap.size ≤ w1.heap.size := Xw1.size
 clear xw1
 go_wp2_with fail
 go_ret
 exact ⟨rfl, (Xw1.trans qXt)⟩

set_option maxHeartbeats 3200000 in
theorem implLoadExport_c (cells : List Int) (es : List Exp) (cv ev : Value) (i : Int) (w : World) (l1 l2 : Nat) (h1 : Ints w l1 cv cells) (h2 : Exps w l2 ev es) :
  Calls Try.prog 22 #[.agg #[cv, ev], .int .i64 i] w (PInts w (loadX cells es i)) := by
 obtain ⟨p0, c0, rfl⟩ := h1.form
 obtain ⟨p1, c1, rfl⟩ := h2.form
 have he1 := h2.len
 have hc1 := h1.len
 go_enter Try.func22, Try.ntmps22
 go_wp2_with fail
 refine (implIsOpen_c cells es (.slice p0 cells.length c0) (.slice p1 es.length c1) i _ _ _ (h1.ext qXt) (h2.ext qXt)).mono ?_
 rintro e w1 ⟨rfl, xw1⟩
 have Lw1 : Ext w w1 := Ext.trans qXt xw1
 have Xw1 : Ext w w1 := Lw1
 have b10 : w1.cell? ⟨w.heap.size, 0, none⟩ = some (.slice p0 cells.length c0) := xw1.cell qCl
 have b11 : w1.cell? ⟨w.heap.size, 1, none⟩ = some (.slice p1 es.length c1) := xw1.cell qCl
 have z_b1 : w.heap.size < w1.heap.size := qB b10
 have s_w1 : w.heap.size ≤ w1.heap.size := Xw1.size
 clear xw1
 cases hB2 : bufB cells es && opB es i
 ·
  replace hB2 := Lib.hid hB2
  go_wp2_with fail
  go_ret
  rw [show loadX cells es i = [] by unfold loadX; rw [(show (bufB cells es && opB es i) = false from hB2.out)]; rfl]
  exact PInts.no (Xw1.trans qXt)
 ·
  replace hB2 := Lib.hid hB2
  have hbb : Hid (bufB cells es = true) := Lib.hid (by have h7 := hB2.out; rw [Bool.and_eq_true] at h7; exact h7.1)
  have hop : Hid (opB es i = true) := Lib.hid (by have h7 := hB2.out; rw [Bool.and_eq_true] at h7; exact h7.2)
  obtain ⟨hi0, hi1, hi2⟩ := opB_in hop.out
  obtain ⟨k, rfl⟩ : ∃ k : Nat, i = k := ⟨i.toNat, by omega⟩
  have hlt : k < es.length := by omega
  have hesne : Hid (es ≠ []) := Lib.hid (fun h => by rw [h] at hlt; exact absurd hlt (by simp))
  replace hi2 := Lib.hid hi2
  go_wp2_with fail
  have hN_x3 : k < es.length := hlt
  have hI_x3 : (k : Int) < (es.length : Int) := by omega
  obtain ⟨bl16, ol17, u10, c11, u12, c13, rfl, x30, x31, x32, x33, x34, i14, i15⟩ := h2.at k hN_x3
  obtain ⟨X9, hX9⟩ : ∃ x, expAt es k = x := ⟨_, rfl⟩
  rw [hX9] at x30 x31 x32 x33 x34 i14 i15
  obtain ⟨P4, B5, S6, T7, O8⟩ := X9
  dsimp only at x30 x31 x32 x33 x34 i14 i15
  replace hX9 := Lib.hid hX9
  have hLS6 := i14.len
  have hLT7 := i15.len
  have y_x3 : bl16 < w.heap.size := qB x30
  replace x30 := Xw1.cell x30
  replace x31 := Xw1.cell x31
  replace x32 := Xw1.cell x32
  replace x33 := Xw1.cell x33
  replace x34 := Xw1.cell x34
  have z_x3 : bl16 < w1.heap.size := qB x30
  have hh7 : Hid (holdB cells B5 S6 T7 = true) := Lib.hid (by have h7 := open_holds hbb.out hop.out; rw [Int.toNat_natCast, hX9.out] at h7; exact h7)
  go_wp2_with fail
  refine wp_region_tail (S := fun w' => w'.cell? ⟨w.heap.size, 0, none⟩ = some (.slice p0 cells.length c0) ∧ w'.cell? ⟨w.heap.size, 1, none⟩ = some (.slice (some ⟨bl16, ol17, none⟩) es.length c1) ∧ w'.cell? ⟨bl16, ol17 + k * 5 + 1, none⟩ = some (.int .i64 B5) ∧ w'.cell? ⟨bl16, ol17 + k * 5 + 2, none⟩ = some (.slice u10 S6.length c11) ∧ w'.cell? ⟨bl16, ol17 + k * 5 + 3, none⟩ = some (.slice u12 T7.length c13)) (fun i => decide (10 ≤ i)) qKr ⟨b10, b11, x31, x32, x33⟩ (fun hHeld => ?_)
  refine qTk (v := ?_) 0 rfl (.inl ⟨by rfl, ?_⟩) ?_
  rotate_left
  ·
   (intro w hSw; (try dsimp only at hSw); go_simp; try with_reducible rfl)
  try simp only [Act.put, qa, qb, qc, qD, qE, qF]
  refine qTk (v := ?_) 1 rfl (.inl ⟨by rfl, ?_⟩) ?_
  rotate_left
  ·
   (intro w hSw; (try dsimp only at hSw); go_simp; try with_reducible rfl)
  try simp only [Act.put, qa, qb, qc, qD, qE, qF]
  refine qTk (v := ?_) 2 rfl (.inl ⟨by rfl, ?_⟩) ?_
  rotate_left
  ·
   (intro w hSw; (try dsimp only at hSw); go_simp; try with_reducible rfl)
  try simp only [Act.put, qa, qb, qc, qD, qE, qF]
  refine qTk (v := ?_) 3 rfl (.inl ⟨by rfl, ?_⟩) ?_
  rotate_left
  ·
   (intro w hSw; (try dsimp only at hSw); go_simp; try with_reducible rfl)
  try simp only [Act.put, qa, qb, qc, qD, qE, qF]
  refine qTk (v := ?_) 4 rfl (.inl ⟨by rfl, ?_⟩) ?_
  rotate_left
  ·
   (intro w hSw; (try dsimp only at hSw); go_simp; try with_reducible rfl)
  try simp only [Act.put, qa, qb, qc, qD, qE, qF]
  refine qTk (v := ?_) 5 rfl (.inl ⟨by rfl, ?_⟩) ?_
  rotate_left
  ·
   (intro w hSw; (try dsimp only at hSw); go_simp; try with_reducible rfl)
  try simp only [Act.put, qa, qb, qc, qD, qE, qF]
  refine qTk (v := ?_) 6 rfl (.inl ⟨by rfl, ?_⟩) ?_
  rotate_left
  ·
   (intro w hSw; (try dsimp only at hSw); go_simp; try with_reducible rfl)
  try simp only [Act.put, qa, qb, qc, qD, qE, qF]
  refine qTk (v := ?_) 7 rfl (.inl ⟨by rfl, ?_⟩) ?_
  rotate_left
  ·
   (intro w hSw; (try dsimp only at hSw); go_simp; try with_reducible rfl)
  try simp only [Act.put, qa, qb, qc, qD, qE, qF]
  refine wpTail_one (i := 8) qKr rfl rfl (fun K hK => ?_)
  try simp only [Act.put, qa, qb, qc, qD, qE, qF]
  go_simp
  refine (loadView_c cells (.slice p0 cells.length c0) B5 (.slice u10 S6.length c11) (.slice u12 T7.length c13) S6 T7 _ _ _ _ (h1.ext (Xw1.trans qXt)) (i14.ext (Xw1.trans qXt)) (i15.ext (Xw1.trans qXt)) hh7.out).mono ?_
  rintro e w2 ⟨fv18, rfl, i19, i19z, xw2⟩
  have Lw2 : Ext w1 w2 := Ext.trans qXt xw2
  have Xw2 : Ext w w2 := Xw1.trans Lw2
  replace b10 := Lw2.cell b10
  replace b11 := Lw2.cell b11
  replace x30 := Lw2.cell x30
  replace x31 := Lw2.cell x31
  replace x32 := Lw2.cell x32
  replace x33 := Lw2.cell x33
  replace x34 := Lw2.cell x34
  have z_b1 : w.heap.size < w2.heap.size := qB b10
  have z_x3 : bl16 < w2.heap.size := qB x30
  have s_w2 : w.heap.size ≤ w2.heap.size := Xw2.size
  clear xw2
  try simp only [World.size_alloc, World.size_drew] at i19
  try simp only [World.size_alloc, World.size_drew] at i19z
  obtain ⟨afv18, cfv18, rfl⟩ := i19.form
  refine hK.out _ _ ⟨b10, b11, x31, x32, x33⟩ (fun hHeld => ?_)
  clear hK K
  try simp only [Act.put, qa, qb, qc, qD, qE, qF]
  refine qTk (v := ?_) 9 rfl (.inl ⟨by rfl, ?_⟩) ?_
  rotate_left
  ·
   (intro w hSw; (try dsimp only at hSw); go_simp; try with_reducible rfl)
  try simp only [Act.put, qa, qb, qc, qD, qE, qF]
  refine wpTail_done qKr ?_ _
  clear hHeld 
  go_wp2_with fail
  go_ret
  rw [show loadX cells es (k : Int) = loadL cells B5 S6 T7 by unfold loadX; rw [hbb.out, hop.out, Int.toNat_natCast, hX9.out]; rfl]
  exact ⟨_, rfl, i19.lower (by omega), i19z.lower (by omega), (Xw2.trans qXt)⟩

set_option maxHeartbeats 3200000 in
theorem specLoadExport_c (cells : List Int) (es : List Exp) (cv ev : Value) (i : Int) (w : World) (l1 l2 : Nat) (h1 : Ints w l1 cv cells) (h2 : Exps w l2 ev es) :
  Calls Try.prog 23 #[.agg #[cv, ev], .int .i64 i] w (PInts w (loadX cells es i)) := by
 obtain ⟨p0, c0, rfl⟩ := h1.form
 obtain ⟨p1, c1, rfl⟩ := h2.form
 have he1 := h2.len
 have hc1 := h1.len
 go_enter Try.func23, Try.ntmps23
 go_wp2_with fail
 refine (validBuffer_c cells es (.slice p0 cells.length c0) (.slice p1 es.length c1) _ _ _ (h1.ext qXt) (h2.ext qXt)).mono ?_
 rintro e w1 ⟨rfl, xw1⟩
 have Lw1 : Ext w w1 := Ext.trans qXt xw1
 have Xw1 : Ext w w1 := Lw1
 have b10 : w1.cell? ⟨w.heap.size, 0, none⟩ = some (.slice p0 cells.length c0) := xw1.cell qCl
 have b11 : w1.cell? ⟨w.heap.size, 1, none⟩ = some (.slice p1 es.length c1) := xw1.cell qCl
 have z_b1 : w.heap.size < w1.heap.size := qB b10
 have s_w1 : w.heap.size ≤ w1.heap.size := Xw1.size
 clear xw1
 cases hB2 : bufB cells es
 ·
  replace hB2 := Lib.hid hB2
  go_wp2_with fail
  go_ret
  rw [show loadX cells es i = [] by unfold loadX; rw [(show (bufB cells es && opB es i) = false by rw [hB2.out]; rfl)]; rfl]
  exact PInts.no (Xw1.trans qXt)
 ·
  replace hB2 := Lib.hid hB2
  have hbb : Hid (bufB cells es = true) := Lib.hid hB2.out
  go_wp2_with fail
  refine (specIsOpen_c cells es (.slice p0 cells.length c0) (.slice p1 es.length c1) i _ _ _ (h1.ext (Xw1.trans qXt)) (h2.ext (Xw1.trans qXt))).mono ?_
  rintro e w2 ⟨rfl, xw2⟩
  have Lw2 : Ext w1 w2 := Ext.trans qXt xw2
  have Xw2 : Ext w w2 := Xw1.trans Lw2
  replace b10 := Lw2.cell b10
  replace b11 := Lw2.cell b11
  have z_b1 : w.heap.size < w2.heap.size := qB b10
  have s_w2 : w.heap.size ≤ w2.heap.size := Xw2.size
  clear xw2
  cases hB3 : opB es i
  ·
   replace hB3 := Lib.hid hB3
   go_wp2_with fail
   go_ret
   rw [show loadX cells es i = [] by unfold loadX; rw [(show (bufB cells es && opB es i) = false by rw [hB3.out, Bool.and_false])]; rfl]
   exact PInts.no (Xw2.trans qXt)
  ·
   replace hB3 := Lib.hid hB3
   have hop : Hid (opB es i = true) := Lib.hid hB3.out
   obtain ⟨hi0, hi1, hi2⟩ := opB_in hop.out
   obtain ⟨k, rfl⟩ : ∃ k : Nat, i = k := ⟨i.toNat, by omega⟩
   have hlt : k < es.length := by omega
   have hesne : Hid (es ≠ []) := Lib.hid (fun h => by rw [h] at hlt; exact absurd hlt (by simp))
   replace hi2 := Lib.hid hi2
   go_wp2_with fail
   have hN_x4 : k < es.length := hlt
   have hI_x4 : (k : Int) < (es.length : Int) := by omega
   obtain ⟨bl17, ol18, u11, c12, u13, c14, rfl, x40, x41, x42, x43, x44, i15, i16⟩ := h2.at k hN_x4
   obtain ⟨X10, hX10⟩ : ∃ x, expAt es k = x := ⟨_, rfl⟩
   rw [hX10] at x40 x41 x42 x43 x44 i15 i16
   obtain ⟨P5, B6, S7, T8, O9⟩ := X10
   dsimp only at x40 x41 x42 x43 x44 i15 i16
   replace hX10 := Lib.hid hX10
   have hLS7 := i15.len
   have hLT8 := i16.len
   have y_x4 : bl17 < w.heap.size := qB x40
   replace x40 := Xw2.cell x40
   replace x41 := Xw2.cell x41
   replace x42 := Xw2.cell x42
   replace x43 := Xw2.cell x43
   replace x44 := Xw2.cell x44
   have z_x4 : bl17 < w2.heap.size := qB x40
   have hh7 : Hid (holdB cells B6 S7 T8 = true) := Lib.hid (by have h7 := open_holds hbb.out hop.out; rw [Int.toNat_natCast, hX10.out] at h7; exact h7)
   go_wp2_with fail
   refine wp_region_tail (S := fun w' => w'.cell? ⟨w.heap.size, 0, none⟩ = some (.slice p0 cells.length c0) ∧ w'.cell? ⟨w.heap.size, 1, none⟩ = some (.slice (some ⟨bl17, ol18, none⟩) es.length c1) ∧ w'.cell? ⟨bl17, ol18 + k * 5 + 1, none⟩ = some (.int .i64 B6) ∧ w'.cell? ⟨bl17, ol18 + k * 5 + 2, none⟩ = some (.slice u11 S7.length c12) ∧ w'.cell? ⟨bl17, ol18 + k * 5 + 3, none⟩ = some (.slice u13 T8.length c14)) (fun i => decide (10 ≤ i)) qKr ⟨b10, b11, x41, x42, x43⟩ (fun hHeld => ?_)
   refine qTk (v := ?_) 0 rfl (.inl ⟨by rfl, ?_⟩) ?_
   rotate_left
   ·
    (intro w hSw; (try dsimp only at hSw); go_simp; try with_reducible rfl)
   try simp only [Act.put, qa, qb, qc, qD, qE, qF]
   refine qTk (v := ?_) 1 rfl (.inl ⟨by rfl, ?_⟩) ?_
   rotate_left
   ·
    (intro w hSw; (try dsimp only at hSw); go_simp; try with_reducible rfl)
   try simp only [Act.put, qa, qb, qc, qD, qE, qF]
   refine qTk (v := ?_) 2 rfl (.inl ⟨by rfl, ?_⟩) ?_
   rotate_left
   ·
    (intro w hSw; (try dsimp only at hSw); go_simp; try with_reducible rfl)
   try simp only [Act.put, qa, qb, qc, qD, qE, qF]
   refine qTk (v := ?_) 3 rfl (.inl ⟨by rfl, ?_⟩) ?_
   rotate_left
   ·
    (intro w hSw; (try dsimp only at hSw); go_simp; try with_reducible rfl)
   try simp only [Act.put, qa, qb, qc, qD, qE, qF]
   refine qTk (v := ?_) 4 rfl (.inl ⟨by rfl, ?_⟩) ?_
   rotate_left
   ·
    (intro w hSw; (try dsimp only at hSw); go_simp; try with_reducible rfl)
   try simp only [Act.put, qa, qb, qc, qD, qE, qF]
   refine qTk (v := ?_) 5 rfl (.inl ⟨by rfl, ?_⟩) ?_
   rotate_left
   ·
    (intro w hSw; (try dsimp only at hSw); go_simp; try with_reducible rfl)
   try simp only [Act.put, qa, qb, qc, qD, qE, qF]
   refine qTk (v := ?_) 6 rfl (.inl ⟨by rfl, ?_⟩) ?_
   rotate_left
   ·
    (intro w hSw; (try dsimp only at hSw); go_simp; try with_reducible rfl)
   try simp only [Act.put, qa, qb, qc, qD, qE, qF]
   refine qTk (v := ?_) 7 rfl (.inl ⟨by rfl, ?_⟩) ?_
   rotate_left
   ·
    (intro w hSw; (try dsimp only at hSw); go_simp; try with_reducible rfl)
   try simp only [Act.put, qa, qb, qc, qD, qE, qF]
   refine wpTail_one (i := 8) qKr rfl rfl (fun K hK => ?_)
   try simp only [Act.put, qa, qb, qc, qD, qE, qF]
   go_simp
   refine (load_c cells (.slice p0 cells.length c0) B6 (.slice u11 S7.length c12) (.slice u13 T8.length c14) S7 T8 _ _ _ _ (h1.ext (Xw2.trans qXt)) (i15.ext (Xw2.trans qXt)) (i16.ext (Xw2.trans qXt)) hh7.out).mono ?_
   rintro e w3 ⟨fv19, rfl, i20, i20z, xw3⟩
   have Lw3 : Ext w2 w3 := Ext.trans qXt xw3
   have Xw3 : Ext w w3 := Xw2.trans Lw3
   replace b10 := Lw3.cell b10
   replace b11 := Lw3.cell b11
   replace x40 := Lw3.cell x40
   replace x41 := Lw3.cell x41
   replace x42 := Lw3.cell x42
   replace x43 := Lw3.cell x43
   replace x44 := Lw3.cell x44
   have z_b1 : w.heap.size < w3.heap.size := qB b10
   have z_x4 : bl17 < w3.heap.size := qB x40
   have s_w3 : w.heap.size ≤ w3.heap.size := Xw3.size
   clear xw3
   try simp only [World.size_alloc, World.size_drew] at i20
   try simp only [World.size_alloc, World.size_drew] at i20z
   obtain ⟨afv19, cfv19, rfl⟩ := i20.form
   refine hK.out _ _ ⟨b10, b11, x41, x42, x43⟩ (fun hHeld => ?_)
   clear hK K
   try simp only [Act.put, qa, qb, qc, qD, qE, qF]
   refine qTk (v := ?_) 9 rfl (.inl ⟨by rfl, ?_⟩) ?_
   rotate_left
   ·
    (intro w hSw; (try dsimp only at hSw); go_simp; try with_reducible rfl)
   try simp only [Act.put, qa, qb, qc, qD, qE, qF]
   refine wpTail_done qKr ?_ _
   clear hHeld 
   go_wp2_with fail
   go_ret
   rw [show loadX cells es (k : Int) = loadL cells B6 S7 T8 by unfold loadX; rw [hbb.out, hop.out, Int.toNat_natCast, hX10.out]; rfl]
   exact ⟨_, rfl, i20.lower (by omega), i20z.lower (by omega), (Xw3.trans qXt)⟩

set_option maxHeartbeats 3200000 in
theorem specKidsOf_c (cells : List Int) (es : List Exp) (cv ev : Value) (d : Int) (w : World) (l1 l2 : Nat) (h1 : Ints w l1 cv cells) (h2 : Exps w l2 ev es) :
  Calls Try.prog 28 #[.agg #[cv, ev], .int .i64 d] w (PInts w (kidsA cells es d)) := by
 obtain ⟨p0, c0, rfl⟩ := h1.form
 obtain ⟨p1, c1, rfl⟩ := h2.form
 have he1 := h2.len
 have hc1 := h1.len
 go_enter Try.func28, Try.ntmps28
 go_wp2_with fail
 refine (validBuffer_c cells es (.slice p0 cells.length c0) (.slice p1 es.length c1) _ _ _ (h1.ext qXt) (h2.ext qXt)).mono ?_
 rintro e w1 ⟨rfl, xw1⟩
 have Lw1 : Ext w w1 := Ext.trans qXt xw1
 have Xw1 : Ext w w1 := Lw1
 have b10 : w1.cell? ⟨w.heap.size, 0, none⟩ = some (.slice p0 cells.length c0) := xw1.cell qCl
 have b11 : w1.cell? ⟨w.heap.size, 1, none⟩ = some (.slice p1 es.length c1) := xw1.cell qCl
 have z_b1 : w.heap.size < w1.heap.size := qB b10
 have s_w1 : w.heap.size ≤ w1.heap.size := Xw1.size
 clear xw1
 cases hB2 : bufB cells es
 ·
  replace hB2 := Lib.hid hB2
  go_wp2_with fail
  go_ret
  rw [show kidsA cells es d = [] by unfold kidsA; rw [hB2.out]; rfl]
  exact PInts.no (Xw1.trans qXt)
 ·
  replace hB2 := Lib.hid hB2
  go_wp2_with fail
  refine (inRange_c d (-1) ((es.length : Int) - 1) _).mono ?_
  rintro e w' ⟨rfl, rfl⟩
  cases hB3 : inB (-1) ((es.length : Int) - 1) d
  ·
   replace hB3 := Lib.hid hB3
   go_wp2_with fail
   go_ret
   rw [show kidsA cells es d = [] by unfold kidsA; rw [hB2.out, show (decide ((-1 : Int) ≤ d) && decide (d < (es.length : Int))) = false from by have h7 := hB3.out; unfold inB at h7; simp at h7 ⊢; omega]; rfl]
   exact PInts.no (Xw1.trans qXt)
  ·
   replace hB3 := Lib.hid hB3
   go_wp2_with fail
   refine (kids_c cells es (.slice p0 cells.length c0) (.slice p1 es.length c1) d _ _ _ (h1.ext (Xw1.trans qXt)) (h2.ext (Xw1.trans qXt))).mono ?_
   rintro e w2 ⟨fv4, rfl, i5, i5z, xw2⟩
   have Lw2 : Ext w1 w2 := Ext.trans qXt xw2
   have Xw2 : Ext w w2 := Xw1.trans Lw2
   replace b10 := Lw2.cell b10
   replace b11 := Lw2.cell b11
   have z_b1 : w.heap.size < w2.heap.size := qB b10
   have s_w2 : w.heap.size ≤ w2.heap.size := Xw2.size
   clear xw2
   obtain ⟨afv4, cfv4, rfl⟩ := i5.form
   go_wp2_with fail
   go_ret
   rw [show kidsA cells es d = selL (kidP d) es es.length by unfold kidsA; rw [hB2.out, show (decide ((-1 : Int) ≤ d) && decide (d < (es.length : Int))) = true from by have h7 := hB3.out; unfold inB at h7; simp at h7 ⊢; omega]; rfl]
   exact ⟨_, rfl, i5.lower (by omega), i5z.lower (by omega), (Xw2.trans qXt)⟩


end Go.Proofs.Ytgklaobfikbiiaa

/- What the joined form asks of the PROGRAM, whatever the function: each its own theorem. The head's long line of names is cut behind its third word first: read whole it outgrows the kernel's memory. -/
namespace Go.Proofs.Ytgklaobfikbiiaa.facts

theorem words_ne : ∀ l : List Char, wordsSigns l ≠ []
  | [] => by simp [wordsSigns]
  | c :: r => by
    unfold wordsSigns
    split
    · simp
    · simp
    · split <;> simp

theorem words_app (b : List Char) : ∀ a : List Char, wordsSigns (a ++ Char.ofNat 32 :: b) = wordsSigns a ++ wordsSigns b
  | [] => by rw [List.nil_append]; rfl
  | c :: r => by
    have ih := words_app b r
    by_cases h : c = Char.ofNat 32
    · subst h
      have e : ∀ l : List Char, wordsSigns (Char.ofNat 32 :: l) = [] :: wordsSigns l := fun l => rfl
      rw [List.cons_append, e, e, ih]; rfl
    · have e : ∀ l : List Char, wordsSigns (c :: l) = match wordsSigns l with | w :: ws => (c :: w) :: ws | [] => [[c]] := by
        intro l
        conv => lhs; unfold wordsSigns
        split
        · rename_i h1; cases h1
        · rename_i h1; cases h1; exact absurd rfl h
        · rename_i h1; cases h1; rfl
      rw [List.cons_append, e, e, ih]
      cases hr : wordsSigns r with
      | nil => exact absurd hr (words_ne r)
      | cons w ws => simp

theorem cut_at {l : List Char} (h : (l.drop 76).head? = some (Char.ofNat 32)) : l = l.take 76 ++ Char.ofNat 32 :: l.drop 77 := by
  have e := List.take_append_drop 76 l
  cases hd : l.drop 76 with
  | nil => rw [hd] at h; cases h
  | cons c r =>
    rw [hd] at h
    have hc : c = Char.ofNat 32 := Option.some.inj h
    have : l.drop 77 = r := by
      have := congrArg (List.drop 1) hd
      simpa [List.drop_drop] using this
    rw [this, ← hc, ← hd]; exact e.symm

set_option maxRecDepth 100000 in
theorem order : ∃ l, Try.checked.prog.initOrder = String.ofList l ∧ (l.drop 76).head? = some (Char.ofNat 32) ∧ ∀ W, behindMainWord (wordsSigns (l.take 76) ++ W) = "cut".toList :: W := by
  unfold Try.checked Try.prog
  refine ⟨_, rfl, ?_, ?_⟩
  · kernel_rfl
  · intro W; kernel_rfl

theorem behind_all : ∃ W, behindMainWord (wordsSigns Try.checked.prog.initOrder.toList) = "cut".toList :: W := by
  obtain ⟨l, e, h1, h2⟩ := order
  refine ⟨wordsSigns (l.drop 77), ?_⟩
  rw [e, String.toList_ofList, cut_at h1, words_app, ← cut_at h1]
  exact h2 _

theorem strip (W : List (List Char)) : stripLifts liftWords ("cut".toList :: W) = ([], "cut".toList :: W) := by kernel_rfl

theorem lifts : Try.checked.prog.headLifts = [] := by
  unfold Program.headLifts
  obtain ⟨W, e⟩ := behind_all
  rw [e, strip]
  kernel_rfl

theorem laysLater : Try.checked.prog.laysLater = false := by kernel_rfl
theorem bearsReflect : Try.checked.prog.bearsReflect = false := by kernel_rfl
theorem doorFits : Try.checked.prog.doorFits [] = true := by kernel_rfl

theorem mayEnter_of {P : Program} {W : List (List Char)} (e : behindMainWord (wordsSigns P.initOrder.toList) = "cut".toList :: W) (h1 : P.laysLater = false) (h2 : P.bearsReflect = false) (h3 : P.doorFits [] = true) : P.mayEnter = true := by
  unfold Program.mayEnter
  rw [e]
  simp only [strip, h1, h2, h3]
  kernel_rfl

theorem mayEnter : Try.checked.prog.mayEnter = true := by
  obtain ⟨W, e⟩ := behind_all
  exact mayEnter_of e laysLater bearsReflect doorFits

theorem liftsFinal_of {P : Program} {W : List (List Char)} (e : behindMainWord (wordsSigns P.initOrder.toList) = "cut".toList :: W) (h : P.headLifts = []) : P.liftsFinal = false := by
  unfold Program.liftsFinal
  rw [e, h]
  kernel_rfl

theorem liftsFinal : Try.checked.prog.liftsFinal = false := by
  obtain ⟨W, e⟩ := behind_all
  exact liftsFinal_of e lifts

theorem make_of {P : Program} {W : List (List Char)} (e : behindMainWord (wordsSigns P.initOrder.toList) = "cut".toList :: W) : P.make = some .cut := by
  unfold Program.make
  rw [e]
  kernel_rfl

theorem make : Try.checked.prog.make = some .cut := by
  obtain ⟨W, e⟩ := behind_all
  exact make_of e

theorem laid : laidOutB Try.checked.prog = true := by kernel_rfl
theorem mapped : mapsRowed Try.checked.prog = true := by kernel_rfl
theorem stops : Try.checked.prog.stops = [] := by kernel_rfl
theorem stopKnobs : Try.checked.prog.stopKnobs = [] := by kernel_rfl
theorem stopsHeard : Try.checked.prog.stopsHeard = true := by kernel_rfl
theorem plainKeys : Try.checked.prog.plainKeys = true := by kernel_rfl

set_option maxRecDepth 100000 in
theorem all {f : FuncId} {fn : Func} {s : ChangeSpec} {c : OpenClaim}
    (h1 : c.wf (OpenSpec.ofChange s) = true) (h2 : fn.params.all (Try.checked.prog.readableRec ·) = true) (h3 : namedTie Try.checked.prog c.named s.vars = true)
    (h4 : (c.stops == []) = true) (h5 : (c.knobs == []) = true)
    (h6 : (c.inPlace == Try.checked.prog.inPlace f) = true) (h7 : (c.unfollowed == Try.checked.prog.unfollowed f) = true) (h8 : (c.recurses == Try.checked.prog.recurses f) = true) (h9 : (c.named == Try.checked.prog.varsNamed f) = true)
    (h10 : (c.maps == (fn.params.toList ++ s.plain.varTypes Try.checked.prog).any (Try.checked.prog.mapsRec ·) && (c.ifaces == (fn.params.toList ++ s.plain.varTypes Try.checked.prog).any (Try.checked.prog.ifacesRec ·)) && (c.mapsOut == Try.checked.prog.mapsAmong fn.resultTypes.toList) &&
      (c.loops == (fn.params.toList ++ s.plain.varTypes Try.checked.prog).any (Try.checked.prog.loopsFrom ·)) && (c.wideKeys == (fn.params.toList ++ s.plain.varTypes Try.checked.prog ++ fn.resultTypes.toList).any (Try.checked.prog.wideKeysFrom ·))) = true)
    (h11 : (s.vars.all (Try.checked.prog.varReadable ·) && fn.resultTypes.all (fun t => Try.checked.prog.readableRec t && decide (t < Try.checked.prog.types.size)) && (c.ifacesOut == fn.resultTypes.toList.any (Try.checked.prog.ifacesRec ·)) && (c.loopsOut == fn.resultTypes.toList.any (Try.checked.prog.loopsFrom ·))) = true)
    (h12 : c.plainKeys = true) (h13 : c.shortTexts.isNone = true) (h14 : c.lifted = false) (h15 : c.make = .cut)
    (h16 : (c.kinds == (if c.domain.isEmpty then [] else fn.params.toList.map fun t => match Try.checked.prog.underlying t with | some (.int k) => some k | _ => none)) = true) (h17 : (c.pinned == c.pinnedBy) = true)
    (h18 : (c.veiled == (fn.params.toList ++ s.plain.varTypes Try.checked.prog ++ fn.resultTypes.toList).any (Try.checked.prog.veiledRec ·)) = true)
    (h19 : c.veiledFits Try.checked.prog fn.params.toList (fn.params.toList ++ s.plain.varTypes Try.checked.prog ++ fn.resultTypes.toList) = true) :
    joinedFacts Try.checked.prog f fn s c = true := by
  unfold joinedFacts
  simp only [Bool.and_eq_true] at h10 h11 ⊢
  obtain ⟨⟨⟨⟨a1, a2⟩, a3⟩, a4⟩, a5⟩ := h10
  obtain ⟨⟨⟨b1, b2⟩, b3⟩, b4⟩ := h11
  refine ⟨⟨⟨⟨⟨⟨⟨⟨⟨⟨⟨⟨⟨⟨⟨⟨⟨⟨⟨⟨⟨⟨⟨⟨⟨⟨⟨⟨⟨⟨⟨h1, laid⟩, mapped⟩, h2⟩, h3⟩, h4⟩, ?_⟩, h5⟩, ?_⟩, h6⟩, h7⟩, h8⟩, h9⟩, a1⟩, a2⟩, a3⟩, a4⟩, a5⟩, b1⟩, b2⟩, b3⟩, b4⟩, ?_⟩, h13⟩, stopsHeard⟩, mayEnter⟩, ?_⟩, ?_⟩, h16⟩, h17⟩, h18⟩, h19⟩
  · rw [stops]; rfl
  · rw [stopKnobs]; rfl
  · rw [plainKeys, h12]; rfl
  · rw [liftsFinal, h14]; rfl
  · rw [make, h15]; exact beq_self_eq_true _

end Go.Proofs.Ytgklaobfikbiiaa.facts
