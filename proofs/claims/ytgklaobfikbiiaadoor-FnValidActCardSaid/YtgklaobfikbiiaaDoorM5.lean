/- Texts of these proofs put together: Sac, GoA, DrC, DrD, DrI, RgM, GoB, Facts. No condition. -/
import Derived.Test.YtgklaobfikbiiaaDoorM4
import Derived.Test.YtgklaobfikbiiaaDoorM2
import Derived.Test.YtgklaobfikbiiaaDoorM1
import Derived.Test.YtgklaobfikbiiaaDoorM3
import Derived.Test.YtgklaobfikbiiaaDoorRows
import Derived.KernelRfl
import Derived.JoinedOf
set_option linter.unusedVariables false
set_option linter.unusedSimpArgs false
/- Walks: an act is drawn. -/
namespace Go.Proofs.YtgklaobfikbiiaaDoor
open Go.RowKit
set_option linter.unusedVariables false
set_option maxRecDepth 100000

/-- how many numbers an act of a kind has -/
def needN (k : Nat) : Nat := if k = 1 then 3 else if k = 2 then 4 else if k = 4 ∨ k = 5 then 2 else 1
/-- an act is drawn -/
def SAct (rb q : Nat) (w : World) (e : Ending) (w' : World) : Prop := ∃ (kd : Nat) (ns : List Int) (p : Option Addr) (r : Nat), e = .returned (.agg #[.int .i64 (kd : Int), .slice p ns.length r]) ∧ Hid (kd ≤ 7 ∧ needN kd = ns.length) ∧ ns.length ≤ 4 ∧ OwnI w' w.heap.size (.slice p ns.length r) ns ∧ Rd w' rb q ∧ Chg rb (rb + 1) w w'
theorem lita1 (w : World) (x : Int) : OwnI (w.alloc (.cells #[.int .i64 x] 3)) w.heap.size (.slice (some ⟨w.heap.size, 0, none⟩) 1 1) [x] :=
 World.ownsRow_lit w #[.int .i64 x] 1 (Nat.le_refl _) (by decide) rfl
theorem lita2 (w : World) (x y : Int) : OwnI (w.alloc (.cells #[.int .i64 x, .int .i64 y] 3)) w.heap.size (.slice (some ⟨w.heap.size, 0, none⟩) 2 2) [x, y] :=
 World.ownsRow_lit w #[.int .i64 x, .int .i64 y] 2 (Nat.le_refl _) (by decide) rfl
theorem lita3 (w : World) (x y z : Int) : OwnI (w.alloc (.cells #[.int .i64 x, .int .i64 y, .int .i64 z] 3)) w.heap.size (.slice (some ⟨w.heap.size, 0, none⟩) 3 3) [x, y, z] :=
 World.ownsRow_lit w #[.int .i64 x, .int .i64 y, .int .i64 z] 3 (Nat.le_refl _) (by decide) rfl
theorem lita4 (w : World) (x y z u : Int) : OwnI (w.alloc (.cells #[.int .i64 x, .int .i64 y, .int .i64 z, .int .i64 u] 3)) w.heap.size (.slice (some ⟨w.heap.size, 0, none⟩) 4 4) [x, y, z, u] :=
 World.ownsRow_lit w #[.int .i64 x, .int .i64 y, .int .i64 z, .int .i64 u] 4 (Nat.le_refl _) (by decide) rfl
set_option maxHeartbeats 6400000 in
theorem someAct_c (rb k lb : Nat) (cells : List Int) (es : List Exp) (cv ev : Value) (R : Nat → Value) (w : World) (B : BufR w lb cv ev cells es R) (hlb : rb < lb) (hr : Rd w rb k) (hk : k ≤ 500000) :
  Calls Tryd.prog 12 #[.pointer (some ⟨rb, 0, none⟩), .agg #[cv, ev]] w (SAct rb (k + 10) w) := by
 have hlt := hr.lt
 have h1 := B.ints
 have h2 := B.exps
 obtain ⟨p0, c0, rfl⟩ := h1.form
 obtain ⟨p1, c1, rfl⟩ := h2.form
 have he1 := h2.len
 clear h1 h2
 obtain ⟨ol, hol⟩ : ∃ l, openA cells es = l := ⟨_, rfl⟩
 replace hol := Lib.hid hol
 have hwl : IntKind.i64.wrap ((es.length : Int) + 1) = (es.length : Int) + 1 := IntWalk.i64_in _ (by omega)
 go_enter Tryd.func12, Tryd.ntmps12
 go_wp2_with fail
 generalize hW1 : (w.alloc (.cells #[.slice p0 cells.length c0, .slice p1 es.length c1] 34)).alloc (.cells #[.int .i64 0, .slice none 0 0] 25) = w1 at *
 have Lw1 : Ext w w1 := by subst hW1; exact qXt
 have Xw1 : Rch rb w w1 := Rch.ext (Rch.refl rb w) Lw1
 replace hr := hr.ext Lw1
 have b0 : w1.cell? ⟨w.heap.size, 0, none⟩ = some (.slice p0 cells.length c0) := by subst hW1; exact qCl
 have b1 : w1.cell? ⟨w.heap.size, 1, none⟩ = some (.slice p1 es.length c1) := by subst hW1; exact qCl
 have q0 : w1.cell? ⟨w.heap.size + 1, 0, none⟩ = some (.int .i64 0) := by subst hW1; exact qCl
 have q1 : w1.cell? ⟨w.heap.size + 1, 1, none⟩ = some (.slice none 0 0) := by subst hW1; exact qCl
 have f_q0 : w1.frozen? ⟨w.heap.size + 1, 0, none⟩ = false := by subst hW1; exact qFz
 have f_q1 : w1.frozen? ⟨w.heap.size + 1, 1, none⟩ = false := by subst hW1; exact qFz
 have z_b : w.heap.size < w1.heap.size := qB b0
 have z_q : w.heap.size + 1 < w1.heap.size := qB q0
 replace B := B.ext Lw1
 have s_w1 : w.heap.size ≤ w1.heap.size := Xw1.size
 clear hW1
 refine (pick_c ((es.length : Int) + 1) _ _ _ hr (by omega)).mono ?_
 rintro e w2 ⟨x1, rfl, hx1, Rw2, Cw2⟩
 have zc_w2 := Cw2.size
 have Xw2 : Rch rb w w2 := Rch.step (Xw1) Cw2
 replace b0 := Cw2.cell (by omega) b0
 replace b1 := Cw2.cell (by omega) b1
 replace q0 := Cw2.cell (by omega) q0
 replace f_q0 := Cw2.frzO (by omega) (by omega) f_q0
 replace q1 := Cw2.cell (by omega) q1
 replace f_q1 := Cw2.frzO (by omega) (by omega) f_q1
 have z_b : w.heap.size < w2.heap.size := qB b0
 have z_q : w.heap.size + 1 < w2.heap.size := qB q0
 replace B := B.chg Cw2 (by omega)
 have s_w2 : w.heap.size ≤ w2.heap.size := Xw2.size
 clear hr Cw2
 dsimp only
 go_step
 go_step
 go_step
 go_step
 go_step
 go_step
 go_step
 go_step
 go_cut [5] (fun s5 wx => ∃ (id : Int) (q : Nat), s5 = .int .i64 id ∧ q ≤ k + 3 ∧ Rd wx rb q ∧ Chg rb (rb + 1) w2 wx)
 case first =>
  have BC : Rch rb w2 w2 := Rch.refl rb _
  go_wp2_with fail
  refine (pi_eq hol.out (specOpenOf_c cells es _ _ _ _ _ (B.ints.ext qXt) (B.exps.ext qXt))).mono ?_
  rintro e w3 ⟨fv, rfl, io, -, xw3⟩
  have Lw3 : Ext w2 w3 := Ext.trans qXt xw3
  have Xw3 : Rch rb w w3 := Rch.ext Xw2 Lw3
  replace Rw2 := Rw2.ext Lw3
  replace b0 := Lw3.cell b0
  replace b1 := Lw3.cell b1
  replace q0 := Lw3.cell q0
  replace q1 := Lw3.cell q1
  replace f_q0 := Lw3.frz z_q f_q0
  replace f_q1 := Lw3.frz z_q f_q1
  have z_b : w.heap.size < w3.heap.size := qB b0
  have z_q : w.heap.size + 1 < w3.heap.size := qB q0
  replace B := B.ext Lw3
  have s_w3 : w.heap.size ≤ w3.heap.size := Xw3.size
  have BC_w3 : Rch rb w2 w3 := Rch.ext BC Lw3
  clear xw3
  obtain ⟨ao, co, rfl⟩ := io.form
  have hiol := io.len
  by_cases ho : 0 < ol.length
  ·
   have hoI : (0 : Int) < (ol.length : Int) := by omega
   go_wp2_with fail
   refine (pick1_c 4 _ _ _ Rw2 (by omega) (by omega)).mono ?_
   rintro e w4 ⟨x2, rfl, hx2, Rw4, Cw4⟩
   have zc_w4 := Cw4.size
   have Xw4 : Rch rb w w4 := Rch.step (Xw3) Cw4
   replace b0 := Cw4.cell (by omega) b0
   replace b1 := Cw4.cell (by omega) b1
   replace q0 := Cw4.cell (by omega) q0
   replace f_q0 := Cw4.frzO (by omega) (by omega) f_q0
   replace q1 := Cw4.cell (by omega) q1
   replace f_q1 := Cw4.frzO (by omega) (by omega) f_q1
   have BC_w4 : Rch rb w2 w4 := Rch.step (BC_w3) Cw4
   have z_b : w.heap.size < w4.heap.size := qB b0
   have z_q : w.heap.size + 1 < w4.heap.size := qB q0
   replace B := B.chg Cw4 (by omega)
   replace io := io.chg Cw4 (by omega)
   have s_w4 : w.heap.size ≤ w4.heap.size := Xw4.size
   clear Rw2 Cw4
   by_cases h2 : 0 < x2
   ·
    go_wp2_with fail
    refine (pick1_c (ol.length : Int) _ _ _ Rw4 (by omega) (by omega)).mono ?_
    rintro e w5 ⟨x3, rfl, hx3, Rw5, Cw5⟩
    have zc_w5 := Cw5.size
    have Xw5 : Rch rb w w5 := Rch.step (Xw4) Cw5
    replace b0 := Cw5.cell (by omega) b0
    replace b1 := Cw5.cell (by omega) b1
    replace q0 := Cw5.cell (by omega) q0
    replace f_q0 := Cw5.frzO (by omega) (by omega) f_q0
    replace q1 := Cw5.cell (by omega) q1
    replace f_q1 := Cw5.frzO (by omega) (by omega) f_q1
    have BC_w5 : Rch rb w2 w5 := Rch.step (BC_w4) Cw5
    have z_b : w.heap.size < w5.heap.size := qB b0
    have z_q : w.heap.size + 1 < w5.heap.size := qB q0
    replace B := B.chg Cw5 (by omega)
    replace io := io.chg Cw5 (by omega)
    have s_w5 : w.heap.size ≤ w5.heap.size := Xw5.size
    clear Rw4 Cw5
    obtain ⟨j, rfl⟩ : ∃ j : Nat, x3 = j := ⟨x3.toNat, by omega⟩
    have hjI : (j : Int) < (ol.length : Int) := by omega
    obtain ⟨bo, oo, rfl, e0⟩ := io.at j (by omega)
    go_wp2_with fail
    go_meet
    case rel => exact ⟨_, _, rfl, (by omega), Rw5.mono (Nat.le_refl _), BC_w5⟩
   ·
    go_wp2_with fail
    go_meet
    case rel => exact ⟨_, _, rfl, (by omega), Rw4.mono (Nat.le_refl _), BC_w4⟩
  ·
   have hoI : ¬ (0 : Int) < (ol.length : Int) := by omega
   go_wp2_with fail
   go_meet
   case rel => exact ⟨_, _, rfl, (by omega), Rw2.mono (Nat.le_refl _), BC_w3⟩
 case rest =>
  generalize wc = w3 at hcut ⊢
  obtain ⟨id, q, rfl, hq, Rw3, Lw3⟩ := hcut
  have Xw3 : Rch rb w w3 := Rch.step Xw2 Lw3
  replace b0 := Lw3.cell (by omega) b0
  replace b1 := Lw3.cell (by omega) b1
  replace q0 := Lw3.cell (by omega) q0
  replace f_q0 := Lw3.frzO (by omega) (by omega) f_q0
  replace q1 := Lw3.cell (by omega) q1
  replace f_q1 := Lw3.frzO (by omega) (by omega) f_q1
  have z_b : w.heap.size < w3.heap.size := qB b0
  have z_q : w.heap.size + 1 < w3.heap.size := qB q0
  replace B := B.chg Lw3 (by omega)
  have s_w3 : w.heap.size ≤ w3.heap.size := Xw3.size
  clear Lw3
  go_wp2_with fail
  refine (oneLit_c #[.int .i64 1, .int .i64 2, .int .i64 3, .int .i64 4, .int .i64 5, .int .i64 6, .int .i64 7, .int .i64 0, .int .i64 6, .int .i64 4] 10 _ _ _ _ Rw3 (by omega) (by rfl) (by rfl) (by constructor <;> simp) (by first | rfl | simp)).mono ?_
  rintro e w4 ⟨kd, rfl, hkd, Rw4, Cw4⟩
  have Ew4 : Ext w3 (w3.alloc (.cells #[.int .i64 1, .int .i64 2, .int .i64 3, .int .i64 4, .int .i64 5, .int .i64 6, .int .i64 7, .int .i64 0, .int .i64 6, .int .i64 4] 3)) := qXt
  have e_w4 := Ew4.size
  have zc_w4 := Cw4.size
  have Xw4 : Rch rb w w4 := Rch.step (Rch.ext Xw3 Ew4) Cw4
  replace b0 := Cw4.cell (by omega) (Ew4.cell b0)
  replace b1 := Cw4.cell (by omega) (Ew4.cell b1)
  replace q0 := Cw4.cell (by omega) (Ew4.cell q0)
  replace f_q0 := Cw4.frzO (by omega) (by omega) (Ew4.frz z_q f_q0)
  replace q1 := Cw4.cell (by omega) (Ew4.cell q1)
  replace f_q1 := Cw4.frzO (by omega) (by omega) (Ew4.frz z_q f_q1)
  have z_b : w.heap.size < w4.heap.size := qB b0
  have z_q : w.heap.size + 1 < w4.heap.size := qB q0
  replace B := (B.ext Ew4).chg Cw4 (by omega)
  have s_w4 : w.heap.size ≤ w4.heap.size := Xw4.size
  clear Rw3 Cw4 Ew4
  replace hkd : kd = 0 ∨ kd = 1 ∨ kd = 2 ∨ kd = 3 ∨ kd = 4 ∨ kd = 5 ∨ kd = 6 ∨ kd = 7 := by simp [litL] at hkd; omega
  rcases hkd with rfl | rfl | rfl | rfl | rfl | rfl | rfl | rfl
  ·
   skip
   go_wp2_with fail
   refine (oneLit_c #[.int .i64 12, .int .i64 20, .int .i64 8, .int .i64 30, .int .i64 0] 5 _ _ _ _ Rw4 (by omega) (by rfl) (by rfl) (by constructor <;> simp) (by first | rfl | simp)).mono ?_
   rintro e w5 ⟨y0, rfl, hy0, Rw5, Cw5⟩
   have Ew5 : Ext w4 (w4.alloc (.cells #[.int .i64 12, .int .i64 20, .int .i64 8, .int .i64 30, .int .i64 0] 3)) := qXt
   have e_w5 := Ew5.size
   have zc_w5 := Cw5.size
   have Xw5 : Rch rb w w5 := Rch.step (Rch.ext Xw4 Ew5) Cw5
   replace b0 := Cw5.cell (by omega) (Ew5.cell b0)
   replace b1 := Cw5.cell (by omega) (Ew5.cell b1)
   replace q0 := Cw5.cell (by omega) (Ew5.cell q0)
   replace f_q0 := Cw5.frzO (by omega) (by omega) (Ew5.frz z_q f_q0)
   replace q1 := Cw5.cell (by omega) (Ew5.cell q1)
   replace f_q1 := Cw5.frzO (by omega) (by omega) (Ew5.frz z_q f_q1)
   have z_b : w.heap.size < w5.heap.size := qB b0
   have z_q : w.heap.size + 1 < w5.heap.size := qB q0
   replace B := (B.ext Ew5).chg Cw5 (by omega)
   have s_w5 : w.heap.size ≤ w5.heap.size := Xw5.size
   clear Rw4 Cw5 Ew5
   clear hy0
   go_wp2_with fail
   have hO : OwnI (((w5.setCell ⟨w.heap.size + 1, 0, none⟩ (.int .i64 0)).setCell ⟨w.heap.size + 1, 1, none⟩ (.slice (some ⟨w5.heap.size, 0, none⟩) 1 1)).alloc (.cells #[.int .i64 y0] 3)) w5.heap.size (.slice (some ⟨w5.heap.size, 0, none⟩) 1 1) [y0] := by simpa using lita1 ((w5.setCell ⟨w.heap.size + 1, 0, none⟩ (.int .i64 0)).setCell ⟨w.heap.size + 1, 1, none⟩ (.slice (some ⟨w5.heap.size, 0, none⟩) 1 1)) y0
   refine bodyPost_ret (v := .agg #[.int .i64 (0 : Int), .slice (some ⟨w5.heap.size, 0, none⟩) 1 1]) (by simp only [results, Tryd.results12]; go_simp) rfl ?_
   have fR : Rd (((w5.setCell ⟨w.heap.size + 1, 0, none⟩ (.int .i64 0)).setCell ⟨w.heap.size + 1, 1, none⟩ (.slice (some ⟨w5.heap.size, 0, none⟩) 1 1)).alloc (.cells #[.int .i64 y0] 3)) rb (k + 10) := Rd.mono (by repeat (first | (with_reducible exact Rw5) | (with_reducible apply Rd.alloc) | ((with_reducible apply Rd.set2); (· first | assumption | (simp; omega) | (simp; done) | omega)))) (by omega)
   have fC : Chg rb (rb + 1) w (((w5.setCell ⟨w.heap.size + 1, 0, none⟩ (.int .i64 0)).setCell ⟨w.heap.size + 1, 1, none⟩ (.slice (some ⟨w5.heap.size, 0, none⟩) 1 1)).alloc (.cells #[.int .i64 y0] 3)) := (by (try change Rch rb _ _); repeat (first | (with_reducible exact Xw5) | (with_reducible apply Rch.alloc) | (with_reducible refine Rch.set ?_ (by first | assumption | (simp <;> omega) | omega) _)))
   exact ⟨0, [y0], _, _, rfl, Lib.hid ⟨by omega, rfl⟩, (by simp), hO.lower (by omega), fR, fC⟩
  ·
   skip
   go_wp2_with fail
   refine (pick1_c 6 _ _ _ Rw4 (by omega) (by omega)).mono ?_
   rintro e w5 ⟨y0, rfl, hy0, Rw5, Cw5⟩
   have zc_w5 := Cw5.size
   have Xw5 : Rch rb w w5 := Rch.step (Xw4) Cw5
   replace b0 := Cw5.cell (by omega) b0
   replace b1 := Cw5.cell (by omega) b1
   replace q0 := Cw5.cell (by omega) q0
   replace f_q0 := Cw5.frzO (by omega) (by omega) f_q0
   replace q1 := Cw5.cell (by omega) q1
   replace f_q1 := Cw5.frzO (by omega) (by omega) f_q1
   have z_b : w.heap.size < w5.heap.size := qB b0
   have z_q : w.heap.size + 1 < w5.heap.size := qB q0
   replace B := B.chg Cw5 (by omega)
   have s_w5 : w.heap.size ≤ w5.heap.size := Xw5.size
   clear Rw4 Cw5
   go_wp2_with fail
   refine (oneLit_c #[.int .i64 4, .int .i64 3, .int .i64 5, .int .i64 2, .int .i64 0] 5 _ _ _ _ Rw5 (by omega) (by rfl) (by rfl) (by constructor <;> simp) (by first | rfl | simp)).mono ?_
   rintro e w6 ⟨y1, rfl, hy1, Rw6, Cw6⟩
   have Ew6 : Ext w5 (w5.alloc (.cells #[.int .i64 4, .int .i64 3, .int .i64 5, .int .i64 2, .int .i64 0] 3)) := qXt
   have e_w6 := Ew6.size
   have zc_w6 := Cw6.size
   have Xw6 : Rch rb w w6 := Rch.step (Rch.ext Xw5 Ew6) Cw6
   replace b0 := Cw6.cell (by omega) (Ew6.cell b0)
   replace b1 := Cw6.cell (by omega) (Ew6.cell b1)
   replace q0 := Cw6.cell (by omega) (Ew6.cell q0)
   replace f_q0 := Cw6.frzO (by omega) (by omega) (Ew6.frz z_q f_q0)
   replace q1 := Cw6.cell (by omega) (Ew6.cell q1)
   replace f_q1 := Cw6.frzO (by omega) (by omega) (Ew6.frz z_q f_q1)
   have z_b : w.heap.size < w6.heap.size := qB b0
   have z_q : w.heap.size + 1 < w6.heap.size := qB q0
   replace B := (B.ext Ew6).chg Cw6 (by omega)
   have s_w6 : w.heap.size ≤ w6.heap.size := Xw6.size
   clear Rw5 Cw6 Ew6
   clear hy1
   go_wp2_with fail
   refine (oneLit_c #[.int .i64 1, .int .i64 2, .int .i64 3, .int .i64 0, .int .i64 (-1)] 5 _ _ _ _ Rw6 (by omega) (by rfl) (by rfl) (by constructor <;> simp) (by first | rfl | simp)).mono ?_
   rintro e w7 ⟨y2, rfl, hy2, Rw7, Cw7⟩
   have Ew7 : Ext w6 (w6.alloc (.cells #[.int .i64 1, .int .i64 2, .int .i64 3, .int .i64 0, .int .i64 (-1)] 3)) := qXt
   have e_w7 := Ew7.size
   have zc_w7 := Cw7.size
   have Xw7 : Rch rb w w7 := Rch.step (Rch.ext Xw6 Ew7) Cw7
   replace b0 := Cw7.cell (by omega) (Ew7.cell b0)
   replace b1 := Cw7.cell (by omega) (Ew7.cell b1)
   replace q0 := Cw7.cell (by omega) (Ew7.cell q0)
   replace f_q0 := Cw7.frzO (by omega) (by omega) (Ew7.frz z_q f_q0)
   replace q1 := Cw7.cell (by omega) (Ew7.cell q1)
   replace f_q1 := Cw7.frzO (by omega) (by omega) (Ew7.frz z_q f_q1)
   have z_b : w.heap.size < w7.heap.size := qB b0
   have z_q : w.heap.size + 1 < w7.heap.size := qB q0
   replace B := (B.ext Ew7).chg Cw7 (by omega)
   have s_w7 : w.heap.size ≤ w7.heap.size := Xw7.size
   clear Rw6 Cw7 Ew7
   clear hy2
   go_wp2_with fail
   have hO : OwnI (((w7.setCell ⟨w.heap.size + 1, 0, none⟩ (.int .i64 1)).setCell ⟨w.heap.size + 1, 1, none⟩ (.slice (some ⟨w7.heap.size, 0, none⟩) 3 3)).alloc (.cells #[.int .i64 y0, .int .i64 y1, .int .i64 y2] 3)) w7.heap.size (.slice (some ⟨w7.heap.size, 0, none⟩) 3 3) [y0, y1, y2] := by simpa using lita3 ((w7.setCell ⟨w.heap.size + 1, 0, none⟩ (.int .i64 1)).setCell ⟨w.heap.size + 1, 1, none⟩ (.slice (some ⟨w7.heap.size, 0, none⟩) 3 3)) y0 y1 y2
   refine bodyPost_ret (v := .agg #[.int .i64 (1 : Int), .slice (some ⟨w7.heap.size, 0, none⟩) 3 3]) (by simp only [results, Tryd.results12]; go_simp) rfl ?_
   have fR : Rd (((w7.setCell ⟨w.heap.size + 1, 0, none⟩ (.int .i64 1)).setCell ⟨w.heap.size + 1, 1, none⟩ (.slice (some ⟨w7.heap.size, 0, none⟩) 3 3)).alloc (.cells #[.int .i64 y0, .int .i64 y1, .int .i64 y2] 3)) rb (k + 10) := Rd.mono (by repeat (first | (with_reducible exact Rw7) | (with_reducible apply Rd.alloc) | ((with_reducible apply Rd.set2); (· first | assumption | (simp; omega) | (simp; done) | omega)))) (by omega)
   have fC : Chg rb (rb + 1) w (((w7.setCell ⟨w.heap.size + 1, 0, none⟩ (.int .i64 1)).setCell ⟨w.heap.size + 1, 1, none⟩ (.slice (some ⟨w7.heap.size, 0, none⟩) 3 3)).alloc (.cells #[.int .i64 y0, .int .i64 y1, .int .i64 y2] 3)) := (by (try change Rch rb _ _); repeat (first | (with_reducible exact Xw7) | (with_reducible apply Rch.alloc) | (with_reducible refine Rch.set ?_ (by first | assumption | (simp <;> omega) | omega) _)))
   exact ⟨1, [y0, y1, y2], _, _, rfl, Lib.hid ⟨by omega, rfl⟩, (by simp), hO.lower (by omega), fR, fC⟩
  ·
   skip
   go_wp2_with fail
   refine (pick1_c 4 _ _ _ Rw4 (by omega) (by omega)).mono ?_
   rintro e w5 ⟨y0, rfl, hy0, Rw5, Cw5⟩
   have zc_w5 := Cw5.size
   have Xw5 : Rch rb w w5 := Rch.step (Xw4) Cw5
   replace b0 := Cw5.cell (by omega) b0
   replace b1 := Cw5.cell (by omega) b1
   replace q0 := Cw5.cell (by omega) q0
   replace f_q0 := Cw5.frzO (by omega) (by omega) f_q0
   replace q1 := Cw5.cell (by omega) q1
   replace f_q1 := Cw5.frzO (by omega) (by omega) f_q1
   have z_b : w.heap.size < w5.heap.size := qB b0
   have z_q : w.heap.size + 1 < w5.heap.size := qB q0
   replace B := B.chg Cw5 (by omega)
   have s_w5 : w.heap.size ≤ w5.heap.size := Xw5.size
   clear Rw4 Cw5
   go_wp2_with fail
   refine (oneLit_c #[.int .i64 3, .int .i64 4, .int .i64 (-1), .int .i64 2] 4 _ _ _ _ Rw5 (by omega) (by rfl) (by rfl) (by constructor <;> simp) (by first | rfl | simp)).mono ?_
   rintro e w6 ⟨y1, rfl, hy1, Rw6, Cw6⟩
   have Ew6 : Ext w5 (w5.alloc (.cells #[.int .i64 3, .int .i64 4, .int .i64 (-1), .int .i64 2] 3)) := qXt
   have e_w6 := Ew6.size
   have zc_w6 := Cw6.size
   have Xw6 : Rch rb w w6 := Rch.step (Rch.ext Xw5 Ew6) Cw6
   replace b0 := Cw6.cell (by omega) (Ew6.cell b0)
   replace b1 := Cw6.cell (by omega) (Ew6.cell b1)
   replace q0 := Cw6.cell (by omega) (Ew6.cell q0)
   replace f_q0 := Cw6.frzO (by omega) (by omega) (Ew6.frz z_q f_q0)
   replace q1 := Cw6.cell (by omega) (Ew6.cell q1)
   replace f_q1 := Cw6.frzO (by omega) (by omega) (Ew6.frz z_q f_q1)
   have z_b : w.heap.size < w6.heap.size := qB b0
   have z_q : w.heap.size + 1 < w6.heap.size := qB q0
   replace B := (B.ext Ew6).chg Cw6 (by omega)
   have s_w6 : w.heap.size ≤ w6.heap.size := Xw6.size
   clear Rw5 Cw6 Ew6
   clear hy1
   go_wp2_with fail
   refine (oneLit_c #[.int .i64 1, .int .i64 2, .int .i64 (-1), .int .i64 1] 4 _ _ _ _ Rw6 (by omega) (by rfl) (by rfl) (by constructor <;> simp) (by first | rfl | simp)).mono ?_
   rintro e w7 ⟨y2, rfl, hy2, Rw7, Cw7⟩
   have Ew7 : Ext w6 (w6.alloc (.cells #[.int .i64 1, .int .i64 2, .int .i64 (-1), .int .i64 1] 3)) := qXt
   have e_w7 := Ew7.size
   have zc_w7 := Cw7.size
   have Xw7 : Rch rb w w7 := Rch.step (Rch.ext Xw6 Ew7) Cw7
   replace b0 := Cw7.cell (by omega) (Ew7.cell b0)
   replace b1 := Cw7.cell (by omega) (Ew7.cell b1)
   replace q0 := Cw7.cell (by omega) (Ew7.cell q0)
   replace f_q0 := Cw7.frzO (by omega) (by omega) (Ew7.frz z_q f_q0)
   replace q1 := Cw7.cell (by omega) (Ew7.cell q1)
   replace f_q1 := Cw7.frzO (by omega) (by omega) (Ew7.frz z_q f_q1)
   have z_b : w.heap.size < w7.heap.size := qB b0
   have z_q : w.heap.size + 1 < w7.heap.size := qB q0
   replace B := (B.ext Ew7).chg Cw7 (by omega)
   have s_w7 : w.heap.size ≤ w7.heap.size := Xw7.size
   clear Rw6 Cw7 Ew7
   clear hy2
   go_wp2_with fail
   have hO : OwnI (((w7.setCell ⟨w.heap.size + 1, 0, none⟩ (.int .i64 2)).setCell ⟨w.heap.size + 1, 1, none⟩ (.slice (some ⟨w7.heap.size, 0, none⟩) 4 4)).alloc (.cells #[.int .i64 id, .int .i64 y0, .int .i64 y1, .int .i64 y2] 3)) w7.heap.size (.slice (some ⟨w7.heap.size, 0, none⟩) 4 4) [id, y0, y1, y2] := by simpa using lita4 ((w7.setCell ⟨w.heap.size + 1, 0, none⟩ (.int .i64 2)).setCell ⟨w.heap.size + 1, 1, none⟩ (.slice (some ⟨w7.heap.size, 0, none⟩) 4 4)) id y0 y1 y2
   refine bodyPost_ret (v := .agg #[.int .i64 (2 : Int), .slice (some ⟨w7.heap.size, 0, none⟩) 4 4]) (by simp only [results, Tryd.results12]; go_simp) rfl ?_
   have fR : Rd (((w7.setCell ⟨w.heap.size + 1, 0, none⟩ (.int .i64 2)).setCell ⟨w.heap.size + 1, 1, none⟩ (.slice (some ⟨w7.heap.size, 0, none⟩) 4 4)).alloc (.cells #[.int .i64 id, .int .i64 y0, .int .i64 y1, .int .i64 y2] 3)) rb (k + 10) := Rd.mono (by repeat (first | (with_reducible exact Rw7) | (with_reducible apply Rd.alloc) | ((with_reducible apply Rd.set2); (· first | assumption | (simp; omega) | (simp; done) | omega)))) (by omega)
   have fC : Chg rb (rb + 1) w (((w7.setCell ⟨w.heap.size + 1, 0, none⟩ (.int .i64 2)).setCell ⟨w.heap.size + 1, 1, none⟩ (.slice (some ⟨w7.heap.size, 0, none⟩) 4 4)).alloc (.cells #[.int .i64 id, .int .i64 y0, .int .i64 y1, .int .i64 y2] 3)) := (by (try change Rch rb _ _); repeat (first | (with_reducible exact Xw7) | (with_reducible apply Rch.alloc) | (with_reducible refine Rch.set ?_ (by first | assumption | (simp <;> omega) | omega) _)))
   exact ⟨2, [id, y0, y1, y2], _, _, rfl, Lib.hid ⟨by omega, rfl⟩, (by simp), hO.lower (by omega), fR, fC⟩
  ·
   skip
   go_wp2_with fail
   have hO : OwnI (((w4.setCell ⟨w.heap.size + 1, 0, none⟩ (.int .i64 3)).setCell ⟨w.heap.size + 1, 1, none⟩ (.slice (some ⟨w4.heap.size, 0, none⟩) 1 1)).alloc (.cells #[.int .i64 id] 3)) w4.heap.size (.slice (some ⟨w4.heap.size, 0, none⟩) 1 1) [id] := by simpa using lita1 ((w4.setCell ⟨w.heap.size + 1, 0, none⟩ (.int .i64 3)).setCell ⟨w.heap.size + 1, 1, none⟩ (.slice (some ⟨w4.heap.size, 0, none⟩) 1 1)) id
   refine bodyPost_ret (v := .agg #[.int .i64 (3 : Int), .slice (some ⟨w4.heap.size, 0, none⟩) 1 1]) (by simp only [results, Tryd.results12]; go_simp) rfl ?_
   have fR : Rd (((w4.setCell ⟨w.heap.size + 1, 0, none⟩ (.int .i64 3)).setCell ⟨w.heap.size + 1, 1, none⟩ (.slice (some ⟨w4.heap.size, 0, none⟩) 1 1)).alloc (.cells #[.int .i64 id] 3)) rb (k + 10) := Rd.mono (by repeat (first | (with_reducible exact Rw4) | (with_reducible apply Rd.alloc) | ((with_reducible apply Rd.set2); (· first | assumption | (simp; omega) | (simp; done) | omega)))) (by omega)
   have fC : Chg rb (rb + 1) w (((w4.setCell ⟨w.heap.size + 1, 0, none⟩ (.int .i64 3)).setCell ⟨w.heap.size + 1, 1, none⟩ (.slice (some ⟨w4.heap.size, 0, none⟩) 1 1)).alloc (.cells #[.int .i64 id] 3)) := (by (try change Rch rb _ _); repeat (first | (with_reducible exact Xw4) | (with_reducible apply Rch.alloc) | (with_reducible refine Rch.set ?_ (by first | assumption | (simp <;> omega) | omega) _)))
   exact ⟨3, [id], _, _, rfl, Lib.hid ⟨by omega, rfl⟩, (by simp), hO.lower (by omega), fR, fC⟩
  ·
   skip
   go_wp2_with fail
   refine (pick1_c 100 _ _ _ Rw4 (by omega) (by omega)).mono ?_
   rintro e w5 ⟨y0, rfl, hy0, Rw5, Cw5⟩
   have zc_w5 := Cw5.size
   have Xw5 : Rch rb w w5 := Rch.step (Xw4) Cw5
   replace b0 := Cw5.cell (by omega) b0
   replace b1 := Cw5.cell (by omega) b1
   replace q0 := Cw5.cell (by omega) q0
   replace f_q0 := Cw5.frzO (by omega) (by omega) f_q0
   replace q1 := Cw5.cell (by omega) q1
   replace f_q1 := Cw5.frzO (by omega) (by omega) f_q1
   have z_b : w.heap.size < w5.heap.size := qB b0
   have z_q : w.heap.size + 1 < w5.heap.size := qB q0
   replace B := B.chg Cw5 (by omega)
   have s_w5 : w.heap.size ≤ w5.heap.size := Xw5.size
   clear Rw4 Cw5
   go_wp2_with fail
   have hO : OwnI (((w5.setCell ⟨w.heap.size + 1, 0, none⟩ (.int .i64 4)).setCell ⟨w.heap.size + 1, 1, none⟩ (.slice (some ⟨w5.heap.size, 0, none⟩) 2 2)).alloc (.cells #[.int .i64 id, .int .i64 y0] 3)) w5.heap.size (.slice (some ⟨w5.heap.size, 0, none⟩) 2 2) [id, y0] := by simpa using lita2 ((w5.setCell ⟨w.heap.size + 1, 0, none⟩ (.int .i64 4)).setCell ⟨w.heap.size + 1, 1, none⟩ (.slice (some ⟨w5.heap.size, 0, none⟩) 2 2)) id y0
   refine bodyPost_ret (v := .agg #[.int .i64 (4 : Int), .slice (some ⟨w5.heap.size, 0, none⟩) 2 2]) (by simp only [results, Tryd.results12]; go_simp) rfl ?_
   have fR : Rd (((w5.setCell ⟨w.heap.size + 1, 0, none⟩ (.int .i64 4)).setCell ⟨w.heap.size + 1, 1, none⟩ (.slice (some ⟨w5.heap.size, 0, none⟩) 2 2)).alloc (.cells #[.int .i64 id, .int .i64 y0] 3)) rb (k + 10) := Rd.mono (by repeat (first | (with_reducible exact Rw5) | (with_reducible apply Rd.alloc) | ((with_reducible apply Rd.set2); (· first | assumption | (simp; omega) | (simp; done) | omega)))) (by omega)
   have fC : Chg rb (rb + 1) w (((w5.setCell ⟨w.heap.size + 1, 0, none⟩ (.int .i64 4)).setCell ⟨w.heap.size + 1, 1, none⟩ (.slice (some ⟨w5.heap.size, 0, none⟩) 2 2)).alloc (.cells #[.int .i64 id, .int .i64 y0] 3)) := (by (try change Rch rb _ _); repeat (first | (with_reducible exact Xw5) | (with_reducible apply Rch.alloc) | (with_reducible refine Rch.set ?_ (by first | assumption | (simp <;> omega) | omega) _)))
   exact ⟨4, [id, y0], _, _, rfl, Lib.hid ⟨by omega, rfl⟩, (by simp), hO.lower (by omega), fR, fC⟩
  ·
   skip
   go_wp2_with fail
   refine (pick_c ((es.length : Int) + 1) _ _ _ Rw4 (by omega)).mono ?_
   rintro e w5 ⟨y0, rfl, hy0, Rw5, Cw5⟩
   have zc_w5 := Cw5.size
   have Xw5 : Rch rb w w5 := Rch.step (Xw4) Cw5
   replace b0 := Cw5.cell (by omega) b0
   replace b1 := Cw5.cell (by omega) b1
   replace q0 := Cw5.cell (by omega) q0
   replace f_q0 := Cw5.frzO (by omega) (by omega) f_q0
   replace q1 := Cw5.cell (by omega) q1
   replace f_q1 := Cw5.frzO (by omega) (by omega) f_q1
   have z_b : w.heap.size < w5.heap.size := qB b0
   have z_q : w.heap.size + 1 < w5.heap.size := qB q0
   replace B := B.chg Cw5 (by omega)
   have s_w5 : w.heap.size ≤ w5.heap.size := Xw5.size
   clear Rw4 Cw5
   go_wp2_with fail
   have hO : OwnI (((w5.setCell ⟨w.heap.size + 1, 0, none⟩ (.int .i64 5)).setCell ⟨w.heap.size + 1, 1, none⟩ (.slice (some ⟨w5.heap.size, 0, none⟩) 2 2)).alloc (.cells #[.int .i64 id, .int .i64 y0] 3)) w5.heap.size (.slice (some ⟨w5.heap.size, 0, none⟩) 2 2) [id, y0] := by simpa using lita2 ((w5.setCell ⟨w.heap.size + 1, 0, none⟩ (.int .i64 5)).setCell ⟨w.heap.size + 1, 1, none⟩ (.slice (some ⟨w5.heap.size, 0, none⟩) 2 2)) id y0
   refine bodyPost_ret (v := .agg #[.int .i64 (5 : Int), .slice (some ⟨w5.heap.size, 0, none⟩) 2 2]) (by simp only [results, Tryd.results12]; go_simp) rfl ?_
   have fR : Rd (((w5.setCell ⟨w.heap.size + 1, 0, none⟩ (.int .i64 5)).setCell ⟨w.heap.size + 1, 1, none⟩ (.slice (some ⟨w5.heap.size, 0, none⟩) 2 2)).alloc (.cells #[.int .i64 id, .int .i64 y0] 3)) rb (k + 10) := Rd.mono (by repeat (first | (with_reducible exact Rw5) | (with_reducible apply Rd.alloc) | ((with_reducible apply Rd.set2); (· first | assumption | (simp; omega) | (simp; done) | omega)))) (by omega)
   have fC : Chg rb (rb + 1) w (((w5.setCell ⟨w.heap.size + 1, 0, none⟩ (.int .i64 5)).setCell ⟨w.heap.size + 1, 1, none⟩ (.slice (some ⟨w5.heap.size, 0, none⟩) 2 2)).alloc (.cells #[.int .i64 id, .int .i64 y0] 3)) := (by (try change Rch rb _ _); repeat (first | (with_reducible exact Xw5) | (with_reducible apply Rch.alloc) | (with_reducible refine Rch.set ?_ (by first | assumption | (simp <;> omega) | omega) _)))
   exact ⟨5, [id, y0], _, _, rfl, Lib.hid ⟨by omega, rfl⟩, (by simp), hO.lower (by omega), fR, fC⟩
  ·
   skip
   go_wp2_with fail
   have hO : OwnI (((w4.setCell ⟨w.heap.size + 1, 0, none⟩ (.int .i64 6)).setCell ⟨w.heap.size + 1, 1, none⟩ (.slice (some ⟨w4.heap.size, 0, none⟩) 1 1)).alloc (.cells #[.int .i64 id] 3)) w4.heap.size (.slice (some ⟨w4.heap.size, 0, none⟩) 1 1) [id] := by simpa using lita1 ((w4.setCell ⟨w.heap.size + 1, 0, none⟩ (.int .i64 6)).setCell ⟨w.heap.size + 1, 1, none⟩ (.slice (some ⟨w4.heap.size, 0, none⟩) 1 1)) id
   refine bodyPost_ret (v := .agg #[.int .i64 (6 : Int), .slice (some ⟨w4.heap.size, 0, none⟩) 1 1]) (by simp only [results, Tryd.results12]; go_simp) rfl ?_
   have fR : Rd (((w4.setCell ⟨w.heap.size + 1, 0, none⟩ (.int .i64 6)).setCell ⟨w.heap.size + 1, 1, none⟩ (.slice (some ⟨w4.heap.size, 0, none⟩) 1 1)).alloc (.cells #[.int .i64 id] 3)) rb (k + 10) := Rd.mono (by repeat (first | (with_reducible exact Rw4) | (with_reducible apply Rd.alloc) | ((with_reducible apply Rd.set2); (· first | assumption | (simp; omega) | (simp; done) | omega)))) (by omega)
   have fC : Chg rb (rb + 1) w (((w4.setCell ⟨w.heap.size + 1, 0, none⟩ (.int .i64 6)).setCell ⟨w.heap.size + 1, 1, none⟩ (.slice (some ⟨w4.heap.size, 0, none⟩) 1 1)).alloc (.cells #[.int .i64 id] 3)) := (by (try change Rch rb _ _); repeat (first | (with_reducible exact Xw4) | (with_reducible apply Rch.alloc) | (with_reducible refine Rch.set ?_ (by first | assumption | (simp <;> omega) | omega) _)))
   exact ⟨6, [id], _, _, rfl, Lib.hid ⟨by omega, rfl⟩, (by simp), hO.lower (by omega), fR, fC⟩
  ·
   skip
   go_wp2_with fail
   have hO : OwnI (((w4.setCell ⟨w.heap.size + 1, 0, none⟩ (.int .i64 7)).setCell ⟨w.heap.size + 1, 1, none⟩ (.slice (some ⟨w4.heap.size, 0, none⟩) 1 1)).alloc (.cells #[.int .i64 id] 3)) w4.heap.size (.slice (some ⟨w4.heap.size, 0, none⟩) 1 1) [id] := by simpa using lita1 ((w4.setCell ⟨w.heap.size + 1, 0, none⟩ (.int .i64 7)).setCell ⟨w.heap.size + 1, 1, none⟩ (.slice (some ⟨w4.heap.size, 0, none⟩) 1 1)) id
   refine bodyPost_ret (v := .agg #[.int .i64 (7 : Int), .slice (some ⟨w4.heap.size, 0, none⟩) 1 1]) (by simp only [results, Tryd.results12]; go_simp) rfl ?_
   have fR : Rd (((w4.setCell ⟨w.heap.size + 1, 0, none⟩ (.int .i64 7)).setCell ⟨w.heap.size + 1, 1, none⟩ (.slice (some ⟨w4.heap.size, 0, none⟩) 1 1)).alloc (.cells #[.int .i64 id] 3)) rb (k + 10) := Rd.mono (by repeat (first | (with_reducible exact Rw4) | (with_reducible apply Rd.alloc) | ((with_reducible apply Rd.set2); (· first | assumption | (simp; omega) | (simp; done) | omega)))) (by omega)
   have fC : Chg rb (rb + 1) w (((w4.setCell ⟨w.heap.size + 1, 0, none⟩ (.int .i64 7)).setCell ⟨w.heap.size + 1, 1, none⟩ (.slice (some ⟨w4.heap.size, 0, none⟩) 1 1)).alloc (.cells #[.int .i64 id] 3)) := (by (try change Rch rb _ _); repeat (first | (with_reducible exact Xw4) | (with_reducible apply Rch.alloc) | (with_reducible refine Rch.set ?_ (by first | assumption | (simp <;> omega) | omega) _)))
   exact ⟨7, [id], _, _, rfl, Lib.hid ⟨by omega, rfl⟩, (by simp), hO.lower (by omega), fR, fC⟩

end Go.Proofs.YtgklaobfikbiiaaDoor

/- Walks: new buffers, acts of all kinds. -/
namespace Go.Proofs.YtgklaobfikbiiaaDoor
open Go.RowKit
set_option linter.unusedVariables false
set_option maxRecDepth 100000


/-- a buffer whose rows are not the block g -/
structure BufA (w : World) (lo g : Nat) (cv ev : Value) (cells : List Int) (es : List Exp) (R : Nat → Value) : Prop where
  buf : BufR w lo cv ev cells es R
  loc : BufAt (fun x => x ≠ g) cv ev cells es R
section
variable {w w' : World} {lo lo' g : Nat} {cv ev : Value} {cells : List Int} {es : List Exp} {R : Nat → Value}
theorem BufA.ext (h : BufA w lo g cv ev cells es R) (hx : Ext w w') : BufA w' lo g cv ev cells es R := ⟨h.buf.ext hx, h.loc⟩
theorem BufA.lower (h : BufA w lo g cv ev cells es R) (hl : lo' ≤ lo) : BufA w lo' g cv ev cells es R := ⟨h.buf.lower hl, h.loc⟩
theorem BufA.chg {l hi : Nat} (h : BufA w lo g cv ev cells es R) (k : Chg l hi w w') (hb : hi ≤ lo ∨ (l = g ∧ hi = g + 1)) : BufA w' lo g cv ev cells es R := by
  rcases hb with hb | ⟨rfl, rfl⟩
  · exact ⟨h.buf.chg k hb, h.loc⟩
  · exact ⟨h.buf.chgO h.loc k (fun x hx => by omega), h.loc⟩
theorem BufA.of (h : BufR w lo cv ev cells es R) (hg : g < lo ∨ w.heap.size ≤ g) : BufA w lo g cv ev cells es R := by
  have q := h.at
  refine ⟨h, fun a x b => ?_, fun x b => ?_, fun p hp hs x b => ?_⟩
  · have := q.c a x b; omega
  · have := q.e x b; omega
  · have := q.r p hp hs x b; omega
theorem BufA.ints (h : BufA w lo g cv ev cells es R) : Ints w lo cv cells := h.buf.ints
theorem BufA.exps (h : BufA w lo g cv ev cells es R) : Exps w lo ev es := h.buf.exps
end
/-- a buffer comes back, in rows of its own -/
def PNewB (cells : List Int) (w : World) (e : Ending) (w' : World) : Prop := ∃ cv ev R, e = .returned (.agg #[cv, ev]) ∧ BufR w' w.heap.size cv ev cells [] R ∧ Ext w w'

set_option maxHeartbeats 3200000 in
theorem newBuffer_c (n : Nat) (w : World) (hn : n ≤ 60) :
    Calls Tryd.prog 15 #[.int .i64 (n : Int)] w (PNewB (List.replicate n 0) w) := by
  have hin : Hid (inB 0 60 (n : Int) = true) := Lib.hid (by unfold inB; simp; omega)
  go_enter Tryd.func15, Tryd.ntmps15
  go_wp2_with fail
  refine (inRange_c (n : Int) 0 60 _).mono ?_
  rintro e w' ⟨rfl, rfl⟩
  rw [hin.out]
  go_upto_region 3 with fail
  generalize hW1 : w.alloc (.cells #[.slice none 0 0, .slice none 0 0] 34) = w1 at *
  have Lw1 : Ext w w1 := by subst hW1; exact qXt
  have Xw1 : Ext w w1 := by subst hW1; exact Lw1
  have b10 : w1.cell? ⟨w.heap.size, 0, none⟩ = some (.slice none 0 0) := by subst hW1; exact qCl
  have b11 : w1.cell? ⟨w.heap.size, 1, none⟩ = some (.slice none 0 0) := by subst hW1; exact qCl
  have f_b10 : w1.frozen? ⟨w.heap.size, 0, none⟩ = false := by subst hW1; exact qFz
  have f_b11 : w1.frozen? ⟨w.heap.size, 1, none⟩ = false := by subst hW1; exact qFz
  have z_b1 : w.heap.size < w1.heap.size := qB b10
  have s_w1 : w.heap.size ≤ w1.heap.size := Xw1.size
  clear hW1
  have Q2_b10 := Lib.hid b10
  have Q2_f_b10 := Lib.hid f_b10
  have Q2_b11 := Lib.hid b11
  have Q2_f_b11 := Lib.hid f_b11
  have Q2_zb1 := z_b1
  have BL3 : Ext w1 w1 := Ext.refl _
  obtain ⟨i0mk4, himk4, hz0mk4, hz1mk4, hz2mk4⟩ := info_parts infoInt
  go_wp2_with (at_make; refine wpList_make_full _ rfl _ _ 23 rfl w1.heap.size 3 i0mk4 (.int .i64 0) 1 Tryd.underlying23 himk4 hz0mk4 hz1mk4 .i64 .i64 _ _ n rfl rfl rfl rfl (by rw [hz2mk4]; omega) (by unfold maxLen; omega) (Nat.le_refl _) ?_)
  intro w2 hown7 hgr7
  have xw2 : Ext w1 w2 := (Ext.refl w1).grown hgr7 (by simp)
  rw [made_ints] at hown7
  clear hgr7
  have O5 : OwnI w2 w1.heap.size (.slice (some ⟨w1.heap.size, 0, none⟩) n n) (List.replicate n 0) := by unfold OwnI; simpa using hown7
  clear hown7 himk4 hz0mk4 hz1mk4 hz2mk4
  have Lw2 : Ext w1 w2 := Ext.trans qXt xw2
  have Xw2 : Ext w w2 := Xw1.trans Lw2
  replace b10 := Lw2.cell b10
  replace b11 := Lw2.cell b11
  replace f_b10 := Lw2.frz z_b1 f_b10
  replace f_b11 := Lw2.frz z_b1 f_b11
  have z_b1 : w.heap.size < w2.heap.size := qB b10
  have s_w2 : w.heap.size ≤ w2.heap.size := Xw2.size
  have BL3_w2 : Ext w1 w2 := BL3.trans Lw2
  clear xw2
  skip
  go_wp2_with fail
  generalize hW2 : ((w2.setCell ⟨w.heap.size, 0, none⟩ (.slice (some ⟨w1.heap.size, 0, none⟩) n n)).setCell ⟨w.heap.size, 1, none⟩ (.slice none 0 0)) = w3 at *
  have Kw3 : Chg (w.heap.size) (w.heap.size + 1) w2 w3 := by subst hW2; exact qCh
  have Xw3 : Ext w w3 := by subst hW2; exact qXt
  replace b10 : w3.cell? ⟨w.heap.size, 0, none⟩ = some (.slice (some ⟨w1.heap.size, 0, none⟩) n n) := by subst hW2; go_simp
  replace f_b10 : w3.frozen? ⟨w.heap.size, 0, none⟩ = false := by subst hW2; first | (simp only [World.frozen?_setCell]; with_reducible assumption) | go_simp
  replace b11 : w3.cell? ⟨w.heap.size, 1, none⟩ = some (.slice none 0 0) := by subst hW2; go_simp
  replace f_b11 : w3.frozen? ⟨w.heap.size, 1, none⟩ = false := by subst hW2; first | (simp only [World.frozen?_setCell]; with_reducible assumption) | go_simp
  replace O5 := O5.chgN Kw3 (by omega)
  clear Kw3
  have z_b1 : w.heap.size < w3.heap.size := qB b10
  have s_w3 : w.heap.size ≤ w3.heap.size := Xw3.size
  clear hW2
  refine bodyPost_ret (v := .agg #[.slice (some ⟨w1.heap.size, 0, none⟩) n n, .slice none 0 0]) (by simp only [results, Tryd.results15]; go_simp) rfl ?_
  exact ⟨_, _, _, rfl, ((BufR.nil w3 w3.heap.size).cellsB (lo2 := w.heap.size) (by omega) ((O5.lower (base' := w.heap.size) (by omega)).z) (CapZ.same (by rw [List.length_replicate])) (by simp only [List.length_replicate]; omega) (fun _ g7 hg7 => (own_lt O5 hg7).2)).ext qXt, (Xw3.trans qXt)⟩


/-- an act of any kind, with its numbers -/
theorem apply_c (kd : Nat) (cells : List Int) (es : List Exp) (cv ev : Value) (ns : List Int) (nv : Value) (w : World) (l1 l2 : Nat) (h1 : Ints w l1 cv cells) (h2 : Exps w l2 ev es) (hv : bufB cells es = true) (l3 : Nat) (h3 : Ints w l3 nv ns) (hk : kd ≤ 7 ∧ needN kd = ns.length) :
    Calls Tryd.prog 16 #[.agg #[cv, ev], .agg #[.int .i64 (kd : Int), nv]] w (PApp cv ev cells es w) := by
  obtain ⟨hk7, hn⟩ := hk
  match kd, hk7, hn with
  | 0, _, hn => exact apply_0 cells es cv ev ns nv w l1 l2 h1 h2 hv l3 h3 (by simp [needN] at hn; omega)
  | 1, _, hn => exact apply_1 cells es cv ev ns nv w l1 l2 h1 h2 hv l3 h3 (by simp [needN] at hn; omega)
  | 2, _, hn => exact apply_2 cells es cv ev ns nv w l1 l2 h1 h2 hv l3 h3 (by simp [needN] at hn; omega)
  | 3, _, hn => exact apply_3 cells es cv ev ns nv w l1 l2 h1 h2 hv l3 h3 (by simp [needN] at hn; omega)
  | 4, _, hn => exact apply_4 cells es cv ev ns nv w l1 l2 h1 h2 hv l3 h3 (by simp [needN] at hn; omega)
  | 5, _, hn => exact apply_5 cells es cv ev ns nv w l1 l2 h1 h2 hv l3 h3 (by simp [needN] at hn; omega)
  | 6, _, hn => exact apply_6 cells es cv ev ns nv w l1 l2 h1 h2 hv l3 h3 (by simp [needN] at hn; omega)
  | 7, _, hn => exact apply_7 cells es cv ev ns nv w l1 l2 h1 h2 hv l3 h3 (by simp [needN] at hn; omega)


end Go.Proofs.YtgklaobfikbiiaaDoor

/- Walks: drawn values for a view of a memory. -/
namespace Go.Proofs.YtgklaobfikbiiaaDoor
open Go.RowKit
set_option linter.unusedVariables false
set_option maxRecDepth 100000

end Go.Proofs.YtgklaobfikbiiaaDoor

/- Walks: a view and an index are drawn. -/
namespace Go.Proofs.YtgklaobfikbiiaaDoor
open Go.RowKit
set_option linter.unusedVariables false
set_option maxRecDepth 100000

end Go.Proofs.YtgklaobfikbiiaaDoor

/- Walks: a view and a shape are drawn. -/
namespace Go.Proofs.YtgklaobfikbiiaaDoor
open Go.RowKit
set_option linter.unusedVariables false
set_option maxRecDepth 100000

end Go.Proofs.YtgklaobfikbiiaaDoor

/- Regions with a tail: reads taken first although the last operations wait for them only by others; operations that read nothing. -/
namespace Go.Proofs.YtgklaobfikbiiaaDoor
open Go
set_option linter.unusedVariables false
section
variable {P : Program} {ops : Array Oper} {Q : Exit → Act → World → Prop} {md : Region.Mode} {S : World → Prop} {tl : Nat → Bool}
/-- what is listed has all that it waits for listed -/
def closedB (md : Region.Mode) (ops : Array Oper) (listed : Array Bool) : Bool :=
  (List.range ops.size).all fun k => !(listed.getD k false) || (match ops[k]? with | some o => o.after.toList.all fun e => !(Region.binds md e) || listed.getD e.on false | none => true)
/-- j waits for i, by others -/
def reachB (md : Region.Mode) (ops : Array Oper) (i : Nat) : Nat → Nat → Bool
  | 0, _ => false
  | n + 1, j => match ops[j]? with | some o => o.after.toList.any fun e => Region.binds md e && (e.on == i || reachB md ops i n e.on) | none => false
def waitsT (md : Region.Mode) (ops : Array Oper) (tl : Nat → Bool) (i : Nat) : Bool := (List.range ops.size).all fun j => !tl j || reachB md ops i ops.size j

theorem closed_at {listed : Array Bool} (h : closedB md ops listed = true) {k : Nat} {o : Oper} (ho : ops[k]? = some o) (hk : listed.getD k false = true) :
    ∀ e ∈ o.after, Region.binds md e = true → listed.getD e.on false = true := by
  intro e he hb
  unfold closedB at h
  rw [List.all_eq_true] at h
  have h1 := h k (List.mem_range.2 (Array.getElem?_eq_some_iff.1 ho).1)
  rw [hk, ho] at h1
  simp only [Bool.not_true, Bool.false_or, List.all_eq_true] at h1
  have h2 := h1 e (by simpa using he)
  rw [hb] at h2; simpa using h2

theorem reach_listed {listed : Array Bool} (hc : closedB md ops listed = true) {i : Nat} : ∀ (n j : Nat) (o : Oper), ops[j]? = some o → (∀ e ∈ o.after, Region.binds md e = true → listed.getD e.on false = true) → reachB md ops i n j = true → listed.getD i false = true := by
  intro n
  induction n with
  | zero => intro j o ho hl h; simp [reachB] at h
  | succ n ih =>
    intro j o ho hl h
    unfold reachB at h
    rw [ho] at h
    simp only [List.any_eq_true, Bool.and_eq_true, Bool.or_eq_true, beq_iff_eq] at h
    obtain ⟨e, he, hb, h1⟩ := h
    have h2 := hl e (by simpa using he) hb
    rcases h1 with h1 | h1
    · rw [← h1]; exact h2
    · cases n with
      | zero => simp [reachB] at h1
      | succ n =>
        cases h3 : ops[e.on]? with
        | none => unfold reachB at h1; rw [h3] at h1; cases h1
        | some o2 => exact ih e.on o2 h3 (closed_at hc h3 h2) h1

theorem closed_set {listed : Array Bool} (hc : closedB md ops listed = true) {j : Nat} {o : Oper} (ho : ops[j]? = some o) (hl : ∀ e ∈ o.after, Region.binds md e = true → listed.getD e.on false = true) : closedB md ops (listed.setIfInBounds j true) = true := by
  have up : ∀ x, listed.getD x false = true → (listed.setIfInBounds j true).getD x false = true := by
    intro x hx
    by_cases hjx : j = x
    · subst hjx
      have h4 : j < listed.size := by
        rcases Nat.lt_or_ge j listed.size with h' | h'
        · exact h'
        · simp [Array.getElem?_eq_none h'] at hx
      simp [h4]
    · rw [getD_set_ne false hjx]; exact hx
  unfold closedB
  rw [List.all_eq_true]
  intro k hk
  cases h1 : (listed.setIfInBounds j true).getD k false with
  | false => rfl
  | true =>
    have hlt := List.mem_range.1 hk
    have h2 : ops[k]? = some ops[k] := Array.getElem?_eq_getElem hlt
    rw [h2]
    simp only [Bool.not_true, Bool.false_or, List.all_eq_true]
    intro e he
    cases hb : Region.binds md e with
    | false => rfl
    | true =>
      simp only [Bool.not_true, Bool.false_or]
      apply up
      by_cases hjk : j = k
      · subst hjk
        rw [ho] at h2
        obtain rfl := Option.some.inj h2
        exact hl e (by simpa using he) hb
      · rw [getD_set_ne false hjk] at h1
        exact closed_at hc h2 h1 e (by simpa using he) hb

theorem wpTail.firstT {i : Nat} {oi : Oper} {v : Value} (hi : ops[i]? = some oi) (hsel : ∀ (j : Nat) (o : Oper) cs b, ops[j]? = some o → o.op ≠ .select cs b)
    (hQ : ∀ c a w, Q (.panic c) (a.put oi.dst v) w → Q (.panic c) a w) (hti : tl i = false) (hwt : waitsT md ops tl i = true) :
    ∀ (n : Nat) (listed : Array Bool) (a : Act) (w : World), closedB md ops listed = true →
      (∀ j oj, ops[j]? = some oj → j ≠ i → listed.getD j true = false → (∀ e ∈ oj.after, Region.binds md e = true → e.on ≠ i) → oi.apart ops oj = true) →
      i ∈ Region.ready md ops listed → YieldsIf P ops S oi v a → S w →
      wpTail P md ops Q S tl n (listed.setIfInBounds i true) (a.put oi.dst v) w → wpTail P md ops Q S tl (n + 1) listed a w := by
  intro n
  induction n with
  | zero =>
    intro listed a w _ _ hr hy hS H
    refine ⟨fun h => (by rw [h] at hr; cases hr), fun j hj => ?_⟩
    by_cases hji : j = i
    · subst hji; exact hy.wpOp hi hS ⟨fun _ => hS, H⟩
    · have h0 := ready_mono hj hji
      rw [H.1] at h0
      cases h0
  | succ n ih =>
    intro listed a w hc hfree hr hy hS H
    refine ⟨fun h => (by rw [h] at hr; cases hr), fun j hj => ?_⟩
    by_cases hji : j = i
    · subst hji; exact hy.wpOp hi hS ⟨fun _ => hS, H⟩
    · have h1 := H.2 j (ready_mono hj hji)
      obtain ⟨hjun, oj, hoj, hall⟩ := mem_ready.1 hj
      have hnot : ∀ e ∈ oj.after, Region.binds md e = true → e.on ≠ i := fun e he hb heq => by
        have h3 := hall e he hb
        have h4 := (mem_ready.1 hr).1
        rw [heq] at h3
        rcases Nat.lt_or_ge i listed.size with h' | h'
        · simp [h'] at h3 h4; rw [h4] at h3; cases h3
        · simp [Array.getElem?_eq_none h'] at h3
      have htj : tl j = false := by
        cases ht : tl j with
        | false => rfl
        | true =>
          have hlt := (Array.getElem?_eq_some_iff.1 hoj).1
          unfold waitsT at hwt
          rw [List.all_eq_true] at hwt
          have h5 := hwt j (List.mem_range.2 hlt)
          rw [ht] at h5
          have h3 := reach_listed hc _ j oj hoj hall (by simpa using h5)
          have h4 := (mem_ready.1 hr).1
          rcases Nat.lt_or_ge i listed.size with h' | h'
          · simp [h'] at h3 h4; rw [h4] at h3; cases h3
          · simp [Array.getElem?_eq_none h'] at h3
      have h2 := wpOp_putIf hoj (hfree j oj hoj hji hjun hnot) (fun cs b => hsel i oi cs b hi) (fun cs b => hsel j oj cs b hoj) hQ hy h1
      have hfree' : ∀ k ok, ops[k]? = some ok → k ≠ i → (listed.setIfInBounds j true).getD k true = false →
          (∀ e ∈ ok.after, Region.binds md e = true → e.on ≠ i) → oi.apart ops ok = true := fun k ok hk hki hun hno => by
        refine hfree k ok hk hki ?_ hno
        by_cases hjk : j = k
        · subst hjk; exact hjun
        · rw [getD_set_ne true hjk] at hun; exact hun
      refine wpOp_mono (fun a' w' h3 => ⟨h3.2.1, ih (listed.setIfInBounds j true) a' w' (closed_set hc hoj hall) hfree' (ready_mono hr (Ne.symm hji)) h3.1 (h3.2.1 htj) ?_⟩) h2
      rw [Array.setIfInBounds_comm _ _ hji]
      exact h3.2.2

/-- an operation that reads nothing, one that the condition need not outlast -/
theorem wpTail.firstP {i : Nat} {oi : Oper} {v : Value} (hi : ops[i]? = some oi) (hsel : ∀ (j : Nat) (o : Oper) cs b, ops[j]? = some o → o.op ≠ .select cs b)
    (hQ : ∀ c a w, Q (.panic c) (a.put oi.dst v) w → Q (.panic c) a w) (hti : tl i = true) :
    ∀ (n : Nat) (listed : Array Bool) (a : Act) (w : World),
      (∀ j oj, ops[j]? = some oj → j ≠ i → listed.getD j true = false → (∀ e ∈ oj.after, Region.binds md e = true → e.on ≠ i) → oi.apart ops oj = true) →
      i ∈ Region.ready md ops listed → YieldsIf P ops (fun _ => True) oi v a →
      wpTail P md ops Q S tl n (listed.setIfInBounds i true) (a.put oi.dst v) w → wpTail P md ops Q S tl (n + 1) listed a w := by
  intro n
  induction n with
  | zero =>
    intro listed a w _ hr hy H
    refine ⟨fun h => (by rw [h] at hr; cases hr), fun j hj => ?_⟩
    by_cases hji : j = i
    · subst hji; exact hy.wpOp hi trivial ⟨fun h => (by rw [hti] at h; cases h), H⟩
    · have h0 := ready_mono hj hji
      rw [H.1] at h0
      cases h0
  | succ n ih =>
    intro listed a w hfree hr hy H
    refine ⟨fun h => (by rw [h] at hr; cases hr), fun j hj => ?_⟩
    by_cases hji : j = i
    · subst hji; exact hy.wpOp hi trivial ⟨fun h => (by rw [hti] at h; cases h), H⟩
    · have h1 := H.2 j (ready_mono hj hji)
      obtain ⟨hjun, oj, hoj, hall⟩ := mem_ready.1 hj
      have hnot : ∀ e ∈ oj.after, Region.binds md e = true → e.on ≠ i := fun e he hb heq => by
        have h3 := hall e he hb
        have h4 := (mem_ready.1 hr).1
        rw [heq] at h3
        rcases Nat.lt_or_ge i listed.size with h' | h'
        · simp [h'] at h3 h4; rw [h4] at h3; cases h3
        · simp [Array.getElem?_eq_none h'] at h3
      have h2 := wpOp_putIf hoj (hfree j oj hoj hji hjun hnot) (fun cs b => hsel i oi cs b hi) (fun cs b => hsel j oj cs b hoj) hQ hy h1
      have hfree' : ∀ k ok, ops[k]? = some ok → k ≠ i → (listed.setIfInBounds j true).getD k true = false →
          (∀ e ∈ ok.after, Region.binds md e = true → e.on ≠ i) → oi.apart ops ok = true := fun k ok hk hki hun hno => by
        refine hfree k ok hk hki ?_ hno
        by_cases hjk : j = k
        · subst hjk; exact hjun
        · rw [getD_set_ne true hjk] at hun; exact hun
      refine wpOp_mono (fun a' w' h3 => ⟨h3.2.1, ih (listed.setIfInBounds j true) a' w' hfree' (ready_mono hr (Ne.symm hji)) h3.1 ?_⟩) h2
      rw [Array.setIfInBounds_comm _ _ hji]
      exact h3.2.2
theorem qTt {oi : Oper} {v : Value} {n : Nat} {listed : Array Bool} {a : Act} {w : World} (i : Nat) (hi : ops[i]? = some oi) (hy : YieldsIf P ops S oi v a)
    (h : wpTail P md ops Q S tl n (listed.setIfInBounds i true) (a.put oi.dst v) w)
    (hs : Region.noSelect ops = true := by kernel_rfl) (hc : closedB md ops listed = true := by kernel_rfl) (hf : Region.free md ops listed i = true := by kernel_rfl) (hr : (Region.ready md ops listed).contains i = true := by kernel_rfl) (hti : tl i = false := by rfl) (hwt : waitsT md ops tl i = true := by kernel_rfl)
    (hQ : ∀ c a w, Q (.panic c) (a.put oi.dst v) w → Q (.panic c) a w := by exact fun _ _ _ h => h) (hS : S w := by assumption) :
    wpTail P md ops Q S tl (n + 1) listed a w := wpTail.firstT hi (Region.noSelect_spec hs) hQ hti hwt n listed a w hc (Region.free_spec hi hf) (by simpa using hr) hy hS h
theorem qTp {oi : Oper} {v : Value} {n : Nat} {listed : Array Bool} {a : Act} {w : World} (i : Nat) (hi : ops[i]? = some oi) (hy : YieldsIf P ops (fun _ => True) oi v a)
    (h : wpTail P md ops Q S tl n (listed.setIfInBounds i true) (a.put oi.dst v) w)
    (hs : Region.noSelect ops = true := by kernel_rfl) (hf : Region.free md ops listed i = true := by kernel_rfl) (hr : (Region.ready md ops listed).contains i = true := by kernel_rfl) (hti : tl i = true := by rfl)
    (hQ : ∀ c a w, Q (.panic c) (a.put oi.dst v) w → Q (.panic c) a w := by exact fun _ _ _ h => h) :
    wpTail P md ops Q S tl (n + 1) listed a w := wpTail.firstP hi (Region.noSelect_spec hs) hQ hti n listed a w (Region.free_spec hi hf) (by simpa using hr) hy h
end
end Go.Proofs.YtgklaobfikbiiaaDoor

/- Walks: a valid buffer is drawn. -/
namespace Go.Proofs.YtgklaobfikbiiaaDoor
open Go.RowKit
set_option linter.unusedVariables false
set_option maxRecDepth 100000

/-- a valid buffer comes back -/
def PGood (rb k : Nat) (w : World) (e : Ending) (w' : World) : Prop := ∃ cv ev cells es R, e = .returned (.agg #[cv, ev]) ∧ bufB cells es = true ∧ BufR w' w.heap.size cv ev cells es R ∧ Rd w' rb k ∧ Chg rb (rb + 1) w w'
set_option maxHeartbeats 6400000 in
theorem goodBuffer_c (rb k : Nat) (w : World) (hr : Rd w rb k) (hk : k ≤ 400000) :
  Calls Tryd.prog 9 #[.pointer (some ⟨rb, 0, none⟩)] w (PGood rb (k + 100) w) := by
 have hlt := hr.lt
 go_enter Tryd.func9, Tryd.ntmps9
 go_wp2_with fail
 generalize hW1 : w.alloc (.cells #[.slice none 0 0, .slice none 0 0] 34) = w1 at *
 have zq1 : w.heap.size + 1 = w1.heap.size := by subst hW1; simp
 have Lw1 : Ext w w1 := by subst hW1; exact qXt
 have Xw1 : Rch rb w w1 := Rch.ext (Rch.refl rb w) Lw1
 replace hr := hr.ext Lw1
 have q0 : w1.cell? ⟨w.heap.size, 0, none⟩ = some (.slice none 0 0) := by subst hW1; exact qCl
 have q1 : w1.cell? ⟨w.heap.size, 1, none⟩ = some (.slice none 0 0) := by subst hW1; exact qCl
 have f_q0 : w1.frozen? ⟨w.heap.size, 0, none⟩ = false := by subst hW1; exact qFz
 have f_q1 : w1.frozen? ⟨w.heap.size, 1, none⟩ = false := by subst hW1; exact qFz
 have z_q : w.heap.size < w1.heap.size := qB q0
 have s_w1 : w.heap.size ≤ w1.heap.size := Xw1.size
 clear hW1
 refine (oneLit_c #[.int .i64 12, .int .i64 20, .int .i64 16, .int .i64 8, .int .i64 0] 5 _ _ _ _ hr (by omega) (by rfl) (by rfl) (by constructor <;> simp) (by first | rfl | exact zq1)).mono ?_
 rintro e w2 ⟨x0, rfl, hx0, Rw2, Cw2⟩
 have Ew2 : Ext w1 (w1.alloc (.cells #[.int .i64 12, .int .i64 20, .int .i64 16, .int .i64 8, .int .i64 0] 3)) := qXt
 have e_w2 := Ew2.size
 have zc_w2 := Cw2.size
 have Xw2 : Rch rb w w2 := Rch.step (Rch.ext Xw1 Ew2) Cw2
 replace q0 := Cw2.cell (by omega) (Ew2.cell q0)
 replace f_q0 := Cw2.frzO (by omega) (by omega) (Ew2.frz z_q f_q0)
 replace q1 := Cw2.cell (by omega) (Ew2.cell q1)
 replace f_q1 := Cw2.frzO (by omega) (by omega) (Ew2.frz z_q f_q1)
 have z_q : w.heap.size < w2.heap.size := qB q0
 have s_w2 : w.heap.size ≤ w2.heap.size := Xw2.size
 clear hr Cw2 Ew2
 clear zq1
 obtain ⟨n0, rfl, hn0⟩ : ∃ n0 : Nat, x0 = n0 ∧ n0 ≤ 60 := ⟨x0.toNat, by simp [litL] at hx0; omega, by simp [litL] at hx0; omega⟩
 clear hx0
 go_wp2_with fail
 refine (newBuffer_c n0 _ hn0).mono ?_
 rintro e w3 ⟨cv, ev, R, rfl, B, xw3⟩
 have Lw3 : Ext w2 w3 := Ext.trans qXt xw3
 have Xw3 : Rch rb w w3 := Rch.ext Xw2 Lw3
 replace Rw2 := Rw2.ext Lw3
 replace q0 := Lw3.cell q0
 replace q1 := Lw3.cell q1
 replace f_q0 := Lw3.frz z_q f_q0
 replace f_q1 := Lw3.frz z_q f_q1
 have z_q : w.heap.size < w3.heap.size := qB q0
 have s_w3 : w.heap.size ≤ w3.heap.size := Xw3.size
 clear xw3
 have hv0 : bufB (List.replicate n0 0) [] = true := bufB_iff.2 ⟨memB_iff.2 ⟨by rw [List.length_replicate]; exact hn0, fun x hx => by have := (List.mem_replicate.1 hx).2; omega⟩, Nat.zero_le _, fun i hi => absurd hi (Nat.not_lt_zero _)⟩
 replace B := BufA.of (g := w3.heap.size) (B.lower (lo' := w.heap.size + 1) (by omega)) (.inr (Nat.le_refl _))
 obtain ⟨cells0, hc0⟩ : ∃ c : List Int, c = List.replicate n0 0 := ⟨_, rfl⟩
 rw [← hc0] at B hv0
 clear hc0
 have hcl0 := B.ints.len
 obtain ⟨es0, hes0⟩ : ∃ es0 : List Exp, es0 = [] := ⟨_, rfl⟩
 rw [← hes0] at B hv0
 clear hes0
 replace hv0 := Lib.hid hv0
 have he0 := B.exps.len
 obtain ⟨p0, c0, rfl⟩ := B.ints.form
 obtain ⟨p1, c1, rfl⟩ := B.exps.form
 go_wp2_with fail
 generalize hW2 : w3.alloc (.cells #[.slice p0 cells0.length c0, .slice p1 es0.length c1] 34) = w4 at *
 have zq2 : w3.heap.size + 1 = w4.heap.size := by subst hW2; simp
 have Lw4 : Ext w3 w4 := by subst hW2; exact qXt
 have Xw4 : Rch rb w w4 := Rch.ext Xw3 Lw4
 replace Rw2 := Rw2.ext Lw4
 replace q0 := Lw4.cell q0
 replace q1 := Lw4.cell q1
 replace f_q0 := Lw4.frz z_q f_q0
 replace f_q1 := Lw4.frz z_q f_q1
 have b0 : w4.cell? ⟨w3.heap.size, 0, none⟩ = some (.slice p0 cells0.length c0) := by subst hW2; exact qCl
 have b1 : w4.cell? ⟨w3.heap.size, 1, none⟩ = some (.slice p1 es0.length c1) := by subst hW2; exact qCl
 have f_b0 : w4.frozen? ⟨w3.heap.size, 0, none⟩ = false := by subst hW2; exact qFz
 have f_b1 : w4.frozen? ⟨w3.heap.size, 1, none⟩ = false := by subst hW2; exact qFz
 have z_q : w.heap.size < w4.heap.size := qB q0
 have z_b : w3.heap.size < w4.heap.size := qB b0
 replace B := B.ext Lw4
 have s_w4 : w.heap.size ≤ w4.heap.size := Xw4.size
 clear hW2
 refine (oneLit_c #[.int .i64 5, .int .i64 4, .int .i64 6, .int .i64 3, .int .i64 8, .int .i64 0] 6 _ _ _ _ Rw2 (by omega) (by rfl) (by rfl) (by constructor <;> simp) (by first | rfl | exact zq2)).mono ?_
 rintro e w5 ⟨y0, rfl, hy0, Rw5, Cw5⟩
 have Ew5 : Ext w4 (w4.alloc (.cells #[.int .i64 5, .int .i64 4, .int .i64 6, .int .i64 3, .int .i64 8, .int .i64 0] 3)) := qXt
 have e_w5 := Ew5.size
 have zc_w5 := Cw5.size
 have Xw5 : Rch rb w w5 := Rch.step (Rch.ext Xw4 Ew5) Cw5
 replace q0 := Cw5.cell (by omega) (Ew5.cell q0)
 replace f_q0 := Cw5.frzO (by omega) (by omega) (Ew5.frz z_q f_q0)
 replace q1 := Cw5.cell (by omega) (Ew5.cell q1)
 replace f_q1 := Cw5.frzO (by omega) (by omega) (Ew5.frz z_q f_q1)
 replace b0 := Cw5.cell (by omega) (Ew5.cell b0)
 replace f_b0 := Cw5.frzO (by omega) (by omega) (Ew5.frz z_b f_b0)
 replace b1 := Cw5.cell (by omega) (Ew5.cell b1)
 replace f_b1 := Cw5.frzO (by omega) (by omega) (Ew5.frz z_b f_b1)
 have z_q : w.heap.size < w5.heap.size := qB q0
 have z_b : w3.heap.size < w5.heap.size := qB b0
 replace B := (B.ext Ew5).chg Cw5 (by omega)
 have s_w5 : w.heap.size ≤ w5.heap.size := Xw5.size
 clear Rw2 Cw5 Ew5
 clear zq2
 obtain ⟨m0, rfl, hm0⟩ : ∃ m0 : Nat, y0 = m0 ∧ m0 ≤ 8 := ⟨y0.toNat, by simp [litL] at hy0; omega, by simp [litL] at hy0; omega⟩
 clear hy0
 have hgb : w.heap.size < w3.heap.size := by omega
 generalize w3.heap.size = gb at *
 go_wp2_with fail
 go_loopw [4] (fun n wr => ∃ (m q : Nat) (cv ev : Value) (cells : List Int) (es : List Exp) (R : Nat → Value), m ≤ 8 ∧ n = .int .i64 m ∧ q + 10 * m ≤ k + 82 ∧ Hid (bufB cells es = true) ∧ BufA wr (w.heap.size + 1) gb cv ev cells es R ∧ wr.cell? ⟨gb, 0, none⟩ = some cv ∧ wr.cell? ⟨gb, 1, none⟩ = some ev ∧ wr.frozen? ⟨gb, 0, none⟩ = false ∧ wr.frozen? ⟨gb, 1, none⟩ = false ∧ wr.cell? ⟨w.heap.size, 0, none⟩ = some (.slice none 0 0) ∧ wr.cell? ⟨w.heap.size, 1, none⟩ = some (.slice none 0 0) ∧ wr.frozen? ⟨w.heap.size, 0, none⟩ = false ∧ wr.frozen? ⟨w.heap.size, 1, none⟩ = false ∧ Rd wr rb q ∧ Rch rb w wr) (fun n _ => (intOf n).toNat)
 case atStart => exact ⟨m0, _, _, _, cells0, es0, R, hm0, rfl, (by omega), hv0, B, b0, b1, f_b0, f_b1, q0, q1, f_q0, f_q1, Rw5, Xw5⟩
 case round =>
  clear Rw5 Xw5 B b0 b1 f_b0 f_b1 q0 q1 f_q0 f_q1 hv0 hm0 hn0
  obtain ⟨m, q, cv, ev, cells, es, R, hm, rfl, hq, hv, B, b0, b1, f_b0, f_b1, q0, q1, f_q0, f_q1, hr, X⟩ := hrel
  have s_wr := X.size
  have z_q : w.heap.size < wr.heap.size := qB q0
  have z_b : gb < wr.heap.size := qB b0
  have hlr := hr.lt
  obtain ⟨p0, c0, rfl⟩ := B.ints.form
  obtain ⟨p1, c1, rfl⟩ := B.exps.form
  have he1 := B.exps.len
  have hc1 := B.ints.len
  rcases m with _ | m
  ·
   have hkI : ¬ (0 : Int) < ((0 : Nat) : Int) := by omega
   go_wp2_with fail
   generalize hW3 : ((wr.setCell ⟨w.heap.size, 0, none⟩ (.slice p0 cells.length c0)).setCell ⟨w.heap.size, 1, none⟩ (.slice p1 es.length c1)) = w7 at *
   have Kw7 : Chg (w.heap.size) (w.heap.size + 1) wr w7 := by subst hW3; exact qCh
   have Xw7 : Rch rb w w7 := by subst hW3; exact qRt
   replace hr := (Rd.set2 (a := ⟨w.heap.size, 1, none⟩) (u := .slice p1 es.length c1) (show rb < w.heap.size by omega) (Rd.set2 (a := ⟨w.heap.size, 0, none⟩) (u := .slice p0 cells.length c0) (show rb < w.heap.size by omega) hr))
   rw [hW3] at hr
   replace q0 : w7.cell? ⟨w.heap.size, 0, none⟩ = some (.slice p0 cells.length c0) := by subst hW3; go_simp
   replace f_q0 : w7.frozen? ⟨w.heap.size, 0, none⟩ = false := by subst hW3; first | (simp only [World.frozen?_setCell]; with_reducible assumption) | go_simp
   replace q1 : w7.cell? ⟨w.heap.size, 1, none⟩ = some (.slice p1 es.length c1) := by subst hW3; go_simp
   replace f_q1 : w7.frozen? ⟨w.heap.size, 1, none⟩ = false := by subst hW3; first | (simp only [World.frozen?_setCell]; with_reducible assumption) | go_simp
   replace b0 := Kw7.cell (by omega) b0
   replace f_b0 := Kw7.frzO (by omega) z_b f_b0
   replace b1 := Kw7.cell (by omega) b1
   replace f_b1 := Kw7.frzO (by omega) z_b f_b1
   replace B := B.chg Kw7 (by omega)
   clear Kw7
   have z_q : w.heap.size < w7.heap.size := qB q0
   have z_b : gb < w7.heap.size := qB b0
   have s_w7 : w.heap.size ≤ w7.heap.size := Xw7.size
   clear hW3
   refine bodyPost_ret (v := .agg #[.slice p0 cells.length c0, .slice p1 es.length c1]) (by simp only [results, Tryd.results9]; go_simp) rfl ?_
   exact ⟨_, _, cells, es, R, rfl, hv.out, B.buf.lower (by omega), hr.mono (by omega), Xw7⟩
  ·
   have hkI : (0 : Int) < ((m + 1 : Nat) : Int) := by omega
   go_wp2_with fail
   refine wp_region_tail (S := fun w' => w'.cell? ⟨gb, 0, none⟩ = some (.slice p0 cells.length c0) ∧ w'.cell? ⟨gb, 1, none⟩ = some (.slice p1 es.length c1)) (fun i => decide (5 ≤ i)) qKr ⟨b0, b1⟩ (fun hHeld => ?_)
   refine qTt (v := ?_) 0 rfl (.inl ⟨by rfl, ?_⟩) ?_
   rotate_left
   ·
    (intro w hSw; (try dsimp only at hSw); go_simp; try with_reducible rfl)
   try simp only [Act.put, qa, qb, qc, qD, qE, qF]
   refine qTt (v := ?_) 1 rfl (.inl ⟨by rfl, ?_⟩) ?_
   rotate_left
   ·
    (intro w hSw; (try dsimp only at hSw); go_simp; try with_reducible rfl)
   try simp only [Act.put, qa, qb, qc, qD, qE, qF]
   refine qTt (v := ?_) 2 rfl (.inl ⟨by rfl, ?_⟩) ?_
   rotate_left
   ·
    (intro w hSw; (try dsimp only at hSw); go_simp; try with_reducible rfl)
   try simp only [Act.put, qa, qb, qc, qD, qE, qF]
   refine wpTail_one (i := 3) qKr rfl rfl (fun K hK => ?_)
   try simp only [Act.put, qa, qb, qc, qD, qE, qF]
   go_simp
   refine (someAct_c rb _ _ cells es _ _ R _ (B.buf.ext ((Ext.refl _).drew)) (by omega) hr.drew (by omega)).mono ?_
   rintro e w7 ⟨kd, ns, pn, rn, rfl, hkd, hl4, on, Rw7, Cw7⟩
   have Ew7 : Ext wr (wr.drew) := qXt
   have e_w7 := Ew7.size
   have zc_w7 := Cw7.size
   simp only [World.size_drew, World.size_alloc] at zc_w7
   have Xw7 : Rch rb w w7 := Rch.step (Rch.ext X Ew7) Cw7
   replace q0 := Cw7.cell (by omega) (Ew7.cell q0)
   replace f_q0 := Cw7.frzO (by omega) (by omega) (Ew7.frz z_q f_q0)
   replace q1 := Cw7.cell (by omega) (Ew7.cell q1)
   replace f_q1 := Cw7.frzO (by omega) (by omega) (Ew7.frz z_q f_q1)
   replace b0 := Cw7.cell (by omega) (Ew7.cell b0)
   replace f_b0 := Cw7.frzO (by omega) (by omega) (Ew7.frz z_b f_b0)
   replace b1 := Cw7.cell (by omega) (Ew7.cell b1)
   replace f_b1 := Cw7.frzO (by omega) (by omega) (Ew7.frz z_b f_b1)
   have z_q : w.heap.size < w7.heap.size := qB q0
   have z_b : gb < w7.heap.size := qB b0
   replace B := (B.ext Ew7).chg Cw7 (by omega)
   have s_w7 : w.heap.size ≤ w7.heap.size := Xw7.size
   clear hr Cw7 Ew7
   have in7 := on.ints (by omega)
   refine hK.out _ _ ⟨b0, b1⟩ (fun hHeld => ?_)
   clear hK K
   try simp only [Act.put, qa, qb, qc, qD, qE, qF]
   refine wpTail_one (i := 4) qKr rfl rfl (fun K hK => ?_)
   try simp only [Act.put, qa, qb, qc, qD, qE, qF]
   go_simp
   refine (apply_c kd cells es _ _ ns _ _ _ _ B.ints B.exps hv.out _ in7 hkd.out).mono ?_
   rintro e w8 ⟨cv2, ev2, C2, E2, s2, rfl, hv2, hb2, xw8⟩
   have Lw8 : Ext w7 w8 := Ext.trans qXt xw8
   have Xw8 : Rch rb w w8 := Rch.ext Xw7 Lw8
   replace Rw7 := Rw7.ext Lw8
   replace q0 := Lw8.cell q0
   replace q1 := Lw8.cell q1
   replace f_q0 := Lw8.frz z_q f_q0
   replace f_q1 := Lw8.frz z_q f_q1
   replace b0 := Lw8.cell b0
   replace b1 := Lw8.cell b1
   replace f_b0 := Lw8.frz z_b f_b0
   replace f_b1 := Lw8.frz z_b f_b1
   have z_q : w.heap.size < w8.heap.size := qB q0
   have z_b : gb < w8.heap.size := qB b0
   replace B := B.ext Lw8
   have s_w8 : w.heap.size ≤ w8.heap.size := Xw8.size
   clear xw8
   have B2 : ∃ R, BufA w8 (w.heap.size + 1) gb cv2 ev2 C2 E2 R := by
    rcases hb2 with ⟨R3, h3⟩ | ⟨rfl, rfl, rfl, rfl⟩
    ·
     exact ⟨R3, (BufA.of h3 (.inl (by omega))).lower (by omega)⟩
    ·
     exact ⟨R, B⟩
   obtain ⟨R3, B3⟩ := B2
   clear on in7 hb2 B
   obtain ⟨p3, c3, rfl⟩ := B3.ints.form
   obtain ⟨p4, c4, rfl⟩ := B3.exps.form
   refine hK.out _ _ ⟨b0, b1⟩ (fun hHeld => ?_)
   clear hK K
   try simp only [Act.put, qa, qb, qc, qD, qE, qF]
   refine qTp (v := ?_) 5 rfl (.inl ⟨by rfl, ?_⟩) ?_
   rotate_left
   ·
    (intro w hSw; (try dsimp only at hSw); go_simp; try with_reducible rfl)
   try simp only [Act.put, qa, qb, qc, qD, qE, qF]
   refine qTp (v := ?_) 6 rfl (.inl ⟨by rfl, ?_⟩) ?_
   rotate_left
   ·
    (intro w hSw; (try dsimp only at hSw); go_simp; try with_reducible rfl)
   try simp only [Act.put, qa, qb, qc, qD, qE, qF]
   refine qTp (v := ?_) 7 rfl (.inl ⟨by rfl, ?_⟩) ?_
   rotate_left
   ·
    (intro w hSw; (try dsimp only at hSw); go_simp; try with_reducible rfl)
   try simp only [Act.put, qa, qb, qc, qD, qE, qF]
   refine wpTail_last (i := 8) qKr rfl rfl (fun K hK => ?_)
   try simp only [Act.put, qa, qb, qc, qD, qE, qF]
   go_simp
   refine hK.out _ _ ?_
   clear hK K
   try simp only [Act.put, qa, qb, qc, qD, qE, qF]
   refine wpTail_done qKr ?_ _
   clear hHeld
   generalize hW4 : ((w8.setCell ⟨gb, 0, none⟩ (.slice p3 C2.length c3)).setCell ⟨gb, 1, none⟩ (.slice p4 E2.length c4)) = w9 at *
   have Kw9 : Chg (gb) (gb + 1) w8 w9 := by subst hW4; exact qCh
   have Xw9 : Rch rb w w9 := by subst hW4; exact qRt
   replace Rw7 := (Rd.set2 (a := ⟨gb, 1, none⟩) (u := .slice p4 E2.length c4) (show rb < gb by omega) (Rd.set2 (a := ⟨gb, 0, none⟩) (u := .slice p3 C2.length c3) (show rb < gb by omega) Rw7))
   rw [hW4] at Rw7
   replace q0 := Kw9.cell (by omega) q0
   replace f_q0 := Kw9.frzO (by omega) z_q f_q0
   replace q1 := Kw9.cell (by omega) q1
   replace f_q1 := Kw9.frzO (by omega) z_q f_q1
   replace b0 : w9.cell? ⟨gb, 0, none⟩ = some (.slice p3 C2.length c3) := by subst hW4; go_simp
   replace f_b0 : w9.frozen? ⟨gb, 0, none⟩ = false := by subst hW4; first | (simp only [World.frozen?_setCell]; with_reducible assumption) | go_simp
   replace b1 : w9.cell? ⟨gb, 1, none⟩ = some (.slice p4 E2.length c4) := by subst hW4; go_simp
   replace f_b1 : w9.frozen? ⟨gb, 1, none⟩ = false := by subst hW4; first | (simp only [World.frozen?_setCell]; with_reducible assumption) | go_simp
   replace B3 := B3.chg Kw9 (by omega)
   clear Kw9
   have z_q : w.heap.size < w9.heap.size := qB q0
   have z_b : gb < w9.heap.size := qB b0
   have s_w9 : w.heap.size ≤ w9.heap.size := Xw9.size
   clear hW4
   go_wp2_with fail
   go_roundw
   case rel => exact ⟨m, _, _, _, C2, E2, R3, by omega, by first | rfl | go_num, by omega, Lib.hid hv2, B3, b0, b1, f_b0, f_b1, q0, q1, f_q0, f_q1, Rw7, Xw9⟩
   case measure => simp [intOf]

end Go.Proofs.YtgklaobfikbiiaaDoor

/- What the joined form asks of the PROGRAM, whatever the function: each its own theorem. The head's long line of names is cut behind its third word first: read whole it outgrows the kernel's memory. -/
namespace Go.Proofs.YtgklaobfikbiiaaDoor.facts

theorem words_ne : ∀ l : List Char, wordsSigns l ≠ []
  | [] => by simp [wordsSigns]
  | c :: r => by
    unfold wordsSigns
    split
    · simp
    · simp
    · split <;> simp

theorem words_app (b : List Char) : ∀ a : List Char, wordsSigns (a ++ Char.ofNat 32 :: b) = wordsSigns a ++ wordsSigns b
  | [] => by rw [List.nil_append]; rfl
  | c :: r => by
    have ih := words_app b r
    by_cases h : c = Char.ofNat 32
    · subst h
      have e : ∀ l : List Char, wordsSigns (Char.ofNat 32 :: l) = [] :: wordsSigns l := fun l => rfl
      rw [List.cons_append, e, e, ih]; rfl
    · have e : ∀ l : List Char, wordsSigns (c :: l) = match wordsSigns l with | w :: ws => (c :: w) :: ws | [] => [[c]] := by
        intro l
        conv => lhs; unfold wordsSigns
        split
        · rename_i h1; cases h1
        · rename_i h1; cases h1; exact absurd rfl h
        · rename_i h1; cases h1; rfl
      rw [List.cons_append, e, e, ih]
      cases hr : wordsSigns r with
      | nil => exact absurd hr (words_ne r)
      | cons w ws => simp

theorem cut_at {l : List Char} (h : (l.drop 76).head? = some (Char.ofNat 32)) : l = l.take 76 ++ Char.ofNat 32 :: l.drop 77 := by
  have e := List.take_append_drop 76 l
  cases hd : l.drop 76 with
  | nil => rw [hd] at h; cases h
  | cons c r =>
    rw [hd] at h
    have hc : c = Char.ofNat 32 := Option.some.inj h
    have : l.drop 77 = r := by
      have := congrArg (List.drop 1) hd
      simpa [List.drop_drop] using this
    rw [this, ← hc, ← hd]; exact e.symm

set_option maxRecDepth 100000 in
theorem order : ∃ l, Tryd.checked.prog.initOrder = String.ofList l ∧ (l.drop 76).head? = some (Char.ofNat 32) ∧ ∀ W, behindMainWord (wordsSigns (l.take 76) ++ W) = "cut".toList :: W := by
  unfold Tryd.checked Tryd.prog
  refine ⟨_, rfl, ?_, ?_⟩
  · kernel_rfl
  · intro W; kernel_rfl

theorem behind_all : ∃ W, behindMainWord (wordsSigns Tryd.checked.prog.initOrder.toList) = "cut".toList :: W := by
  obtain ⟨l, e, h1, h2⟩ := order
  refine ⟨wordsSigns (l.drop 77), ?_⟩
  rw [e, String.toList_ofList, cut_at h1, words_app, ← cut_at h1]
  exact h2 _

theorem strip (W : List (List Char)) : stripLifts liftWords ("cut".toList :: W) = ([], "cut".toList :: W) := by kernel_rfl

theorem lifts : Tryd.checked.prog.headLifts = [] := by
  unfold Program.headLifts
  obtain ⟨W, e⟩ := behind_all
  rw [e, strip]
  kernel_rfl

theorem laysLater : Tryd.checked.prog.laysLater = false := by kernel_rfl
theorem bearsReflect : Tryd.checked.prog.bearsReflect = false := by kernel_rfl
theorem doorFits : Tryd.checked.prog.doorFits [] = true := by kernel_rfl

theorem mayEnter_of {P : Program} {W : List (List Char)} (e : behindMainWord (wordsSigns P.initOrder.toList) = "cut".toList :: W) (h1 : P.laysLater = false) (h2 : P.bearsReflect = false) (h3 : P.doorFits [] = true) : P.mayEnter = true := by
  unfold Program.mayEnter
  rw [e]
  simp only [strip, h1, h2, h3]
  kernel_rfl

theorem mayEnter : Tryd.checked.prog.mayEnter = true := by
  obtain ⟨W, e⟩ := behind_all
  exact mayEnter_of e laysLater bearsReflect doorFits

theorem liftsFinal_of {P : Program} {W : List (List Char)} (e : behindMainWord (wordsSigns P.initOrder.toList) = "cut".toList :: W) (h : P.headLifts = []) : P.liftsFinal = false := by
  unfold Program.liftsFinal
  rw [e, h]
  kernel_rfl

theorem liftsFinal : Tryd.checked.prog.liftsFinal = false := by
  obtain ⟨W, e⟩ := behind_all
  exact liftsFinal_of e lifts

theorem make_of {P : Program} {W : List (List Char)} (e : behindMainWord (wordsSigns P.initOrder.toList) = "cut".toList :: W) : P.make = some .cut := by
  unfold Program.make
  rw [e]
  kernel_rfl

theorem make : Tryd.checked.prog.make = some .cut := by
  obtain ⟨W, e⟩ := behind_all
  exact make_of e

theorem laid : laidOutB Tryd.checked.prog = true := by kernel_rfl
theorem mapped : mapsRowed Tryd.checked.prog = true := by kernel_rfl
theorem stops : Tryd.checked.prog.stops = [] := by kernel_rfl
theorem stopKnobs : Tryd.checked.prog.stopKnobs = [] := by kernel_rfl
theorem stopsHeard : Tryd.checked.prog.stopsHeard = true := by kernel_rfl
theorem plainKeys : Tryd.checked.prog.plainKeys = true := by kernel_rfl

set_option maxRecDepth 100000 in
theorem all {f : FuncId} {fn : Func} {s : ChangeSpec} {c : OpenClaim}
    (h1 : c.wf (OpenSpec.ofChange s) = true) (h2 : fn.params.all (Tryd.checked.prog.readableRec ·) = true) (h3 : namedTie Tryd.checked.prog c.named s.vars = true)
    (h4 : (c.stops == []) = true) (h5 : (c.knobs == []) = true)
    (h6 : (c.inPlace == Tryd.checked.prog.inPlace f) = true) (h7 : (c.unfollowed == Tryd.checked.prog.unfollowed f) = true) (h8 : (c.recurses == Tryd.checked.prog.recurses f) = true) (h9 : (c.named == Tryd.checked.prog.varsNamed f) = true)
    (h10 : (c.maps == (fn.params.toList ++ s.plain.varTypes Tryd.checked.prog).any (Tryd.checked.prog.mapsRec ·) && (c.ifaces == (fn.params.toList ++ s.plain.varTypes Tryd.checked.prog).any (Tryd.checked.prog.ifacesRec ·)) && (c.mapsOut == Tryd.checked.prog.mapsAmong fn.resultTypes.toList) &&
      (c.loops == (fn.params.toList ++ s.plain.varTypes Tryd.checked.prog).any (Tryd.checked.prog.loopsFrom ·)) && (c.wideKeys == (fn.params.toList ++ s.plain.varTypes Tryd.checked.prog ++ fn.resultTypes.toList).any (Tryd.checked.prog.wideKeysFrom ·))) = true)
    (h11 : (s.vars.all (Tryd.checked.prog.varReadable ·) && fn.resultTypes.all (fun t => Tryd.checked.prog.readableRec t && decide (t < Tryd.checked.prog.types.size)) && (c.ifacesOut == fn.resultTypes.toList.any (Tryd.checked.prog.ifacesRec ·)) && (c.loopsOut == fn.resultTypes.toList.any (Tryd.checked.prog.loopsFrom ·))) = true)
    (h12 : c.plainKeys = true) (h13 : c.shortTexts.isNone = true) (h14 : c.lifted = false) (h15 : c.make = .cut)
    (h16 : (c.kinds == (if c.domain.isEmpty then [] else fn.params.toList.map fun t => match Tryd.checked.prog.underlying t with | some (.int k) => some k | _ => none)) = true) (h17 : (c.pinned == c.pinnedBy) = true)
    (h18 : (c.veiled == (fn.params.toList ++ s.plain.varTypes Tryd.checked.prog ++ fn.resultTypes.toList).any (Tryd.checked.prog.veiledRec ·)) = true)
    (h19 : c.veiledFits Tryd.checked.prog fn.params.toList (fn.params.toList ++ s.plain.varTypes Tryd.checked.prog ++ fn.resultTypes.toList) = true) :
    joinedFacts Tryd.checked.prog f fn s c = true := by
  unfold joinedFacts
  simp only [Bool.and_eq_true] at h10 h11 ⊢
  obtain ⟨⟨⟨⟨a1, a2⟩, a3⟩, a4⟩, a5⟩ := h10
  obtain ⟨⟨⟨b1, b2⟩, b3⟩, b4⟩ := h11
  refine ⟨⟨⟨⟨⟨⟨⟨⟨⟨⟨⟨⟨⟨⟨⟨⟨⟨⟨⟨⟨⟨⟨⟨⟨⟨⟨⟨⟨⟨⟨⟨h1, laid⟩, mapped⟩, h2⟩, h3⟩, h4⟩, ?_⟩, h5⟩, ?_⟩, h6⟩, h7⟩, h8⟩, h9⟩, a1⟩, a2⟩, a3⟩, a4⟩, a5⟩, b1⟩, b2⟩, b3⟩, b4⟩, ?_⟩, h13⟩, stopsHeard⟩, mayEnter⟩, ?_⟩, ?_⟩, h16⟩, h17⟩, h18⟩, h19⟩
  · rw [stops]; rfl
  · rw [stopKnobs]; rfl
  · rw [plainKeys, h12]; rfl
  · rw [liftsFinal, h14]; rfl
  · rw [make, h15]; exact beq_self_eq_true _

end Go.Proofs.YtgklaobfikbiiaaDoor.facts
