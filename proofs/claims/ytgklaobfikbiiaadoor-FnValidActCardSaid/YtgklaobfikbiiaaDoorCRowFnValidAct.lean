/- Texts of these proofs put together: AnA, RlA, RlT, RlL, TnP, TnA, AnB, LawFnValidAct, RowFnValidAct. No condition. -/
import Derived.Test.YtgklaobfikbiiaaDoorM5
import Derived.Test.YtgklaobfikbiiaaDoorM2
import Derived.Test.YtgklaobfikbiiaaDoorM1
import Derived.Test.YtgklaobfikbiiaaDoorM4
import Derived.Test.YtgklaobfikbiiaaDoorTie
import Derived.Test.YtgklaobfikbiiaaDoorCards
import Derived.LaidLaws
import Derived.Handed
import Derived.OpenShut
import Derived.ChangeVars
set_option linter.unusedVariables false
set_option linter.unusedSimpArgs false
/- Walks: an act that may be invalid is drawn. -/
namespace Go.Proofs.YtgklaobfikbiiaaDoor
open Go.RowKit
set_option linter.unusedVariables false
set_option maxRecDepth 100000

theorem needN_pos (k : Nat) : 1 ≤ needN k := by unfold needN; split <;> (try split) <;> (try split) <;> omega
/-- an act is drawn, valid or not -/
def AAct (rb q : Nat) (w : World) (e : Ending) (w' : World) : Prop := ∃ (kd : Int) (ns : List Int) (p : Option Addr) (r : Nat), e = .returned (.agg #[.int .i64 kd, .slice p ns.length r]) ∧ (-1 ≤ kd ∧ kd ≤ 8) ∧ ns.length ≤ 5 ∧ Ints w' w.heap.size (.slice p ns.length r) ns ∧ Rd w' rb q ∧ Chg rb (rb + 1) w w'
set_option maxHeartbeats 6400000 in
theorem anyAct_c (rb k lb : Nat) (cells : List Int) (es : List Exp) (cv ev : Value) (R : Nat → Value) (w : World) (B : BufR w lb cv ev cells es R) (hlb : rb < lb) (hr : Rd w rb k) (hk : k ≤ 480000) :
  Calls Tryd.prog 8 #[.pointer (some ⟨rb, 0, none⟩), .agg #[cv, ev]] w (AAct rb (k + 20) w) := by
 have hlt := hr.lt
 have h1 := B.ints
 have h2 := B.exps
 obtain ⟨p0, c0, rfl⟩ := h1.form
 obtain ⟨p1, c1, rfl⟩ := h2.form
 have he1 := h2.len
 clear h1 h2
 go_enter Tryd.func8, Tryd.ntmps8
 go_wp2_with fail
 generalize hW1 : (w.alloc (.cells #[.slice p0 cells.length c0, .slice p1 es.length c1] 34)).alloc (.cells #[.int .i64 0, .slice none 0 0] 25) = w1 at *
 have Lw1 : Ext w w1 := by subst hW1; exact qXt
 have Xw1 : Rch rb w w1 := Rch.ext (Rch.refl rb w) Lw1
 replace hr := hr.ext Lw1
 have b0 : w1.cell? ⟨w.heap.size, 0, none⟩ = some (.slice p0 cells.length c0) := by subst hW1; exact qCl
 have b1 : w1.cell? ⟨w.heap.size, 1, none⟩ = some (.slice p1 es.length c1) := by subst hW1; exact qCl
 have q0 : w1.cell? ⟨w.heap.size + 1, 0, none⟩ = some (.int .i64 0) := by subst hW1; exact qCl
 have q1 : w1.cell? ⟨w.heap.size + 1, 1, none⟩ = some (.slice none 0 0) := by subst hW1; exact qCl
 have f_q0 : w1.frozen? ⟨w.heap.size + 1, 0, none⟩ = false := by subst hW1; exact qFz
 have f_q1 : w1.frozen? ⟨w.heap.size + 1, 1, none⟩ = false := by subst hW1; exact qFz
 have z_b : w.heap.size < w1.heap.size := qB b0
 have z_q : w.heap.size + 1 < w1.heap.size := qB q0
 replace B := B.ext Lw1
 have s_w1 : w.heap.size ≤ w1.heap.size := Xw1.size
 clear hW1
 refine (someAct_c rb _ lb cells es _ _ R _ B hlb hr (by omega)).mono ?_
 rintro e w2 ⟨kd, ns, p, r, rfl, hks, hns, ON, Rw2, Cw2⟩
 have zc_w2 := Cw2.size
 have Xw2 : Rch rb w w2 := Rch.step (Xw1) Cw2
 replace b0 := Cw2.cell (by omega) b0
 replace b1 := Cw2.cell (by omega) b1
 replace q0 := Cw2.cell (by omega) q0
 replace f_q0 := Cw2.frzO (by omega) (by omega) f_q0
 replace q1 := Cw2.cell (by omega) q1
 replace f_q1 := Cw2.frzO (by omega) (by omega) f_q1
 have z_b : w.heap.size < w2.heap.size := qB b0
 have z_q : w.heap.size + 1 < w2.heap.size := qB q0
 replace B := B.chg Cw2 (by omega)
 have s_w2 : w.heap.size ≤ w2.heap.size := Xw2.size
 clear hr Cw2
 have hne : ns ≠ [] := by intro h; have h7 := hks.out.2; have h8 := needN_pos kd; rw [h] at h7; simp at h7; omega
 have hpos : 0 < ns.length := List.length_pos_iff.2 hne
 have hkd : (kd : Int) ≤ 7 := by have := hks.out.1; omega
 obtain ⟨gN, nN, cN, hv7, hn7, G1, G2⟩ := ON.row2 hne
 injection hv7 with hva hvb hvc
 subst hva
 subst hvc
 clear hvb hn7 hne hks
 clear B
 go_wp2_with fail
 generalize hW2 : w2.alloc (.cells #[.int .i64 (kd : Int), .slice (some ⟨gN, 0, none⟩) ns.length r] 25) = w3 at *
 have Lw3 : Ext w2 w3 := by subst hW2; exact qXt
 have Xw3 : Rch rb w w3 := Rch.ext Xw2 Lw3
 replace Rw2 := Rw2.ext Lw3
 replace b0 := Lw3.cell b0
 replace b1 := Lw3.cell b1
 replace q0 := Lw3.cell q0
 replace q1 := Lw3.cell q1
 replace f_q0 := Lw3.frz z_q f_q0
 replace f_q1 := Lw3.frz z_q f_q1
 have a0 : w3.cell? ⟨w2.heap.size, 0, none⟩ = some (.int .i64 (kd : Int)) := by subst hW2; exact qCl
 have a1 : w3.cell? ⟨w2.heap.size, 1, none⟩ = some (.slice (some ⟨gN, 0, none⟩) ns.length r) := by subst hW2; exact qCl
 have f_a0 : w3.frozen? ⟨w2.heap.size, 0, none⟩ = false := by subst hW2; exact qFz
 have f_a1 : w3.frozen? ⟨w2.heap.size, 1, none⟩ = false := by subst hW2; exact qFz
 have z_b : w.heap.size < w3.heap.size := qB b0
 have z_q : w.heap.size + 1 < w3.heap.size := qB q0
 have z_a : w2.heap.size < w3.heap.size := qB a0
 replace ON := ON.ext Lw3
 have s_w3 : w.heap.size ≤ w3.heap.size := Xw3.size
 clear hW2
 refine (pick1_c 16 _ _ _ Rw2 (by omega) (by omega)).mono ?_
 rintro e w4 ⟨y, rfl, hy, Rw4, Cw4⟩
 have zc_w4 := Cw4.size
 have Xw4 : Rch rb w w4 := Rch.step (Xw3) Cw4
 replace b0 := Cw4.cell (by omega) b0
 replace b1 := Cw4.cell (by omega) b1
 replace q0 := Cw4.cell (by omega) q0
 replace f_q0 := Cw4.frzO (by omega) (by omega) f_q0
 replace q1 := Cw4.cell (by omega) q1
 replace f_q1 := Cw4.frzO (by omega) (by omega) f_q1
 replace a0 := Cw4.cell (by omega) a0
 replace f_a0 := Cw4.frzO (by omega) (by omega) f_a0
 replace a1 := Cw4.cell (by omega) a1
 replace f_a1 := Cw4.frzO (by omega) (by omega) f_a1
 have z_b : w.heap.size < w4.heap.size := qB b0
 have z_q : w.heap.size + 1 < w4.heap.size := qB q0
 have z_a : w2.heap.size < w4.heap.size := qB a0
 replace ON := ON.chgN Cw4 (by omega)
 have s_w4 : w.heap.size ≤ w4.heap.size := Xw4.size
 clear Rw2 Cw4
 clear hy
 by_cases y0 : y = 0
 ·
  subst y0
  go_wp2_with fail
  refine (oneLit_c #[.int .i64 (-1), .int .i64 8, .int .i64 1] 3 _ _ _ _ Rw4 (by omega) (by rfl) (by rfl) (by constructor <;> simp) (by first | rfl | simp)).mono ?_
  rintro e w5 ⟨x, rfl, hx, Rw5, Cw5⟩
  have Ew5 : Ext w4 (w4.alloc (.cells #[.int .i64 (-1), .int .i64 8, .int .i64 1] 3)) := qXt
  have e_w5 := Ew5.size
  have zc_w5 := Cw5.size
  have Xw5 : Rch rb w w5 := Rch.step (Rch.ext Xw4 Ew5) Cw5
  replace b0 := Cw5.cell (by omega) (Ew5.cell b0)
  replace b1 := Cw5.cell (by omega) (Ew5.cell b1)
  replace q0 := Cw5.cell (by omega) (Ew5.cell q0)
  replace f_q0 := Cw5.frzO (by omega) (by omega) (Ew5.frz z_q f_q0)
  replace q1 := Cw5.cell (by omega) (Ew5.cell q1)
  replace f_q1 := Cw5.frzO (by omega) (by omega) (Ew5.frz z_q f_q1)
  replace a0 := Cw5.cell (by omega) (Ew5.cell a0)
  replace f_a0 := Cw5.frzO (by omega) (by omega) (Ew5.frz z_a f_a0)
  replace a1 := Cw5.cell (by omega) (Ew5.cell a1)
  replace f_a1 := Cw5.frzO (by omega) (by omega) (Ew5.frz z_a f_a1)
  have z_b : w.heap.size < w5.heap.size := qB b0
  have z_q : w.heap.size + 1 < w5.heap.size := qB q0
  have z_a : w2.heap.size < w5.heap.size := qB a0
  replace ON := (ON.ext Ew5).chgN Cw5 (by omega)
  have s_w5 : w.heap.size ≤ w5.heap.size := Xw5.size
  clear Rw4 Cw5 Ew5
  replace hx : x = -1 ∨ x = 8 ∨ x = 1 := by simp [litL] at hx; omega
  go_wp2_with fail
  generalize hW3 : (w5.setCell ⟨w2.heap.size, 0, none⟩ (.int .i64 x)) = w6 at *
  have Kw6 : Chg (w2.heap.size) (w2.heap.size + 1) w5 w6 := by subst hW3; exact qCh
  have Xw6 : Rch rb w w6 := by subst hW3; exact qRt
  replace Rw5 := (Rd.set2 (a := ⟨w2.heap.size, 0, none⟩) (u := .int .i64 x) (show rb < w2.heap.size by omega) Rw5)
  rw [hW3] at Rw5
  replace b0 := Kw6.cell (by omega) b0
  replace b1 := Kw6.cell (by omega) b1
  replace q0 := Kw6.cell (by omega) q0
  replace f_q0 := Kw6.frzO (by omega) z_q f_q0
  replace q1 := Kw6.cell (by omega) q1
  replace f_q1 := Kw6.frzO (by omega) z_q f_q1
  replace a0 : w6.cell? ⟨w2.heap.size, 0, none⟩ = some (.int .i64 x) := by subst hW3; go_simp
  replace f_a0 : w6.frozen? ⟨w2.heap.size, 0, none⟩ = false := by subst hW3; first | (simp only [World.frozen?_setCell]; with_reducible assumption) | go_simp
  replace a1 : w6.cell? ⟨w2.heap.size, 1, none⟩ = some (.slice (some ⟨gN, 0, none⟩) ns.length r) := by subst hW3; go_simp
  replace f_a1 : w6.frozen? ⟨w2.heap.size, 1, none⟩ = false := by subst hW3; first | (simp only [World.frozen?_setCell]; with_reducible assumption) | go_simp
  replace ON := ON.chgN Kw6 (by omega)
  clear Kw6
  have z_b : w.heap.size < w6.heap.size := qB b0
  have z_q : w.heap.size + 1 < w6.heap.size := qB q0
  have z_a : w2.heap.size < w6.heap.size := qB a0
  have s_w6 : w.heap.size ≤ w6.heap.size := Xw6.size
  clear hW3
  generalize hW4 : ((w6.setCell ⟨w.heap.size + 1, 0, none⟩ (.int .i64 x)).setCell ⟨w.heap.size + 1, 1, none⟩ (.slice (some ⟨gN, 0, none⟩) ns.length r)) = w7 at *
  have Kw7 : Chg (w.heap.size + 1) (w.heap.size + 1 + 1) w6 w7 := by subst hW4; exact qCh
  have Xw7 : Rch rb w w7 := by subst hW4; exact qRt
  replace Rw5 := (Rd.set2 (a := ⟨w.heap.size + 1, 1, none⟩) (u := .slice (some ⟨gN, 0, none⟩) ns.length r) (show rb < w.heap.size + 1 by omega) (Rd.set2 (a := ⟨w.heap.size + 1, 0, none⟩) (u := .int .i64 x) (show rb < w.heap.size + 1 by omega) Rw5))
  rw [hW4] at Rw5
  replace b0 := Kw7.cell (by omega) b0
  replace b1 := Kw7.cell (by omega) b1
  replace q0 : w7.cell? ⟨w.heap.size + 1, 0, none⟩ = some (.int .i64 x) := by subst hW4; go_simp
  replace f_q0 : w7.frozen? ⟨w.heap.size + 1, 0, none⟩ = false := by subst hW4; first | (simp only [World.frozen?_setCell]; with_reducible assumption) | go_simp
  replace q1 : w7.cell? ⟨w.heap.size + 1, 1, none⟩ = some (.slice (some ⟨gN, 0, none⟩) ns.length r) := by subst hW4; go_simp
  replace f_q1 : w7.frozen? ⟨w.heap.size + 1, 1, none⟩ = false := by subst hW4; first | (simp only [World.frozen?_setCell]; with_reducible assumption) | go_simp
  replace a0 := Kw7.cell (by omega) a0
  replace f_a0 := Kw7.frzO (by omega) z_a f_a0
  replace a1 := Kw7.cell (by omega) a1
  replace f_a1 := Kw7.frzO (by omega) z_a f_a1
  replace ON := ON.chgN Kw7 (by omega)
  clear Kw7
  have z_b : w.heap.size < w7.heap.size := qB b0
  have z_q : w.heap.size + 1 < w7.heap.size := qB q0
  have z_a : w2.heap.size < w7.heap.size := qB a0
  have s_w7 : w.heap.size ≤ w7.heap.size := Xw7.size
  clear hW4
  refine bodyPost_ret (v := .agg #[.int .i64 x, .slice (some ⟨gN, 0, none⟩) ns.length r]) (by simp only [results, Tryd.results8]; go_simp) rfl ?_
  exact ⟨x, ns, _, _, rfl, (by omega), (by omega), (ON.ints (by first | omega | (simp; omega))).lower (by omega), Rw5.mono (by omega), Xw7⟩
 ·
  by_cases y1 : y = 1
  ·
   subst y1
   clear y0
   go_wp2_with (
    at_builtin
    refine wpList_app rfl (.tmp 20) (.tmp 21) rfl rfl rfl (ON.ext ((Ext.refl _).alloc _)) (Ints.one _ 0 _ (Nat.zero_le _)) (by simp <;> omega) (by simp <;> omega) ?_
    intro vw5 w5 ho hgr hbl hvb
    obtain ⟨gw5, nw5, cw5, rfl, hnw5, Gw5, Gw5'⟩ := ho.row2 (by simp)
    have Bw5 := own_or hvb
    simp only [World.size_alloc] at Bw5
    have Kw5 : Chg (gN) (gN + 1) w4 w5 := chg_grown hgr
    have Xw5 : Rch rb w w5 := Rch.below' Xw4 Kw5 (by omega)
    replace Rw4 := Rw4.chgO Kw5 (by omega)
    replace b0 := Kw5.cell (by omega) b0
    replace b1 := Kw5.cell (by omega) b1
    replace q0 := Kw5.cell (by omega) q0
    replace f_q0 := Kw5.frzO (by omega) z_q f_q0
    replace q1 := Kw5.cell (by omega) q1
    replace f_q1 := Kw5.frzO (by omega) z_q f_q1
    replace a0 := Kw5.cell (by omega) a0
    replace f_a0 := Kw5.frzO (by omega) z_a f_a0
    replace a1 := Kw5.cell (by omega) a1
    replace f_a1 := Kw5.frzO (by omega) z_a f_a1
    have z_b : w.heap.size < w5.heap.size := qB b0
    have z_q : w.heap.size + 1 < w5.heap.size := qB q0
    have z_a : w2.heap.size < w5.heap.size := qB a0
    clear ON
    have ON := ho
    have s_w5 : w.heap.size ≤ w5.heap.size := Xw5.size
    clear ho hgr hbl hvb Kw5)
   generalize hW5 : (w5.setCell ⟨w2.heap.size, 1, none⟩ (.slice (some ⟨gw5, 0, none⟩) nw5 cw5)) = w6 at *
   have Kw6 : Chg (w2.heap.size) (w2.heap.size + 1) w5 w6 := by subst hW5; exact qCh
   have Xw6 : Rch rb w w6 := by subst hW5; exact qRt
   replace Rw4 := (Rd.set2 (a := ⟨w2.heap.size, 1, none⟩) (u := .slice (some ⟨gw5, 0, none⟩) nw5 cw5) (show rb < w2.heap.size by omega) Rw4)
   rw [hW5] at Rw4
   replace b0 := Kw6.cell (by omega) b0
   replace b1 := Kw6.cell (by omega) b1
   replace q0 := Kw6.cell (by omega) q0
   replace f_q0 := Kw6.frzO (by omega) z_q f_q0
   replace q1 := Kw6.cell (by omega) q1
   replace f_q1 := Kw6.frzO (by omega) z_q f_q1
   replace a0 : w6.cell? ⟨w2.heap.size, 0, none⟩ = some (.int .i64 (kd : Int)) := by subst hW5; go_simp
   replace f_a0 : w6.frozen? ⟨w2.heap.size, 0, none⟩ = false := by subst hW5; first | (simp only [World.frozen?_setCell]; with_reducible assumption) | go_simp
   replace a1 : w6.cell? ⟨w2.heap.size, 1, none⟩ = some (.slice (some ⟨gw5, 0, none⟩) nw5 cw5) := by subst hW5; go_simp
   replace f_a1 : w6.frozen? ⟨w2.heap.size, 1, none⟩ = false := by subst hW5; first | (simp only [World.frozen?_setCell]; with_reducible assumption) | go_simp
   replace ON := ON.chgN Kw6 (by omega)
   clear Kw6
   have z_b : w.heap.size < w6.heap.size := qB b0
   have z_q : w.heap.size + 1 < w6.heap.size := qB q0
   have z_a : w2.heap.size < w6.heap.size := qB a0
   have s_w6 : w.heap.size ≤ w6.heap.size := Xw6.size
   clear hW5
   obtain ⟨u2, z2, e2⟩ := (ON.ints (by simp; omega)).form
   injection e2 with e2a e2b e2c
   subst e2b
   clear e2a e2c
   generalize hW6 : ((w6.setCell ⟨w.heap.size + 1, 0, none⟩ (.int .i64 (kd : Int))).setCell ⟨w.heap.size + 1, 1, none⟩ (.slice (some ⟨gw5, 0, none⟩) (ns ++ [1]).length cw5)) = w7 at *
   have Kw7 : Chg (w.heap.size + 1) (w.heap.size + 1 + 1) w6 w7 := by subst hW6; exact qCh
   have Xw7 : Rch rb w w7 := by subst hW6; exact qRt
   replace Rw4 := (Rd.set2 (a := ⟨w.heap.size + 1, 1, none⟩) (u := .slice (some ⟨gw5, 0, none⟩) (ns ++ [1]).length cw5) (show rb < w.heap.size + 1 by omega) (Rd.set2 (a := ⟨w.heap.size + 1, 0, none⟩) (u := .int .i64 (kd : Int)) (show rb < w.heap.size + 1 by omega) Rw4))
   rw [hW6] at Rw4
   replace b0 := Kw7.cell (by omega) b0
   replace b1 := Kw7.cell (by omega) b1
   replace q0 : w7.cell? ⟨w.heap.size + 1, 0, none⟩ = some (.int .i64 (kd : Int)) := by subst hW6; go_simp
   replace f_q0 : w7.frozen? ⟨w.heap.size + 1, 0, none⟩ = false := by subst hW6; first | (simp only [World.frozen?_setCell]; with_reducible assumption) | go_simp
   replace q1 : w7.cell? ⟨w.heap.size + 1, 1, none⟩ = some (.slice (some ⟨gw5, 0, none⟩) (ns ++ [1]).length cw5) := by subst hW6; go_simp
   replace f_q1 : w7.frozen? ⟨w.heap.size + 1, 1, none⟩ = false := by subst hW6; first | (simp only [World.frozen?_setCell]; with_reducible assumption) | go_simp
   replace a0 := Kw7.cell (by omega) a0
   replace f_a0 := Kw7.frzO (by omega) z_a f_a0
   replace a1 := Kw7.cell (by omega) a1
   replace f_a1 := Kw7.frzO (by omega) z_a f_a1
   replace ON := ON.chgN Kw7 (by omega)
   clear Kw7
   have z_b : w.heap.size < w7.heap.size := qB b0
   have z_q : w.heap.size + 1 < w7.heap.size := qB q0
   have z_a : w2.heap.size < w7.heap.size := qB a0
   have s_w7 : w.heap.size ≤ w7.heap.size := Xw7.size
   clear hW6
   refine bodyPost_ret (v := .agg #[.int .i64 (kd : Int), .slice (some ⟨gw5, 0, none⟩) (ns ++ [1]).length cw5]) (by simp only [results, Tryd.results8]; go_simp) rfl ?_
   exact ⟨(kd : Int), (ns ++ [1]), _, _, rfl, (by omega), (by simp; omega), (ON.ints (by first | omega | (simp; omega))).lower (by omega), Rw4.mono (by omega), Xw7⟩
  ·
   by_cases y2 : y = 2
   ·
    subst y2
    clear y0 y1
    obtain ⟨na0, f_na0⟩ := ON.cell 0 hpos
    obtain ⟨v0, hv0⟩ : ∃ v, ns.getD 0 0 = v := ⟨_, rfl⟩
    rw [hv0] at na0
    clear hv0
    have z_na : gN < w4.heap.size := qB na0
    go_wp2_with fail
    refine wp_region_tail (S := fun w' => w'.cell? ⟨w2.heap.size, 0, none⟩ = some (.int .i64 (kd : Int)) ∧ w'.cell? ⟨w2.heap.size, 1, none⟩ = some (.slice (some ⟨gN, 0, none⟩) ns.length r) ∧ w'.cell? ⟨gN, 0, none⟩ = some (.int .i64 v0)) (fun i => decide (6 ≤ i)) qKr ⟨a0, a1, na0⟩ (fun hHeld => ?_)
    refine qTk (v := ?_) 0 rfl (.inl ⟨by rfl, ?_⟩) ?_
    rotate_left
    ·
     (intro w hSw; (try dsimp only at hSw); go_simp; try with_reducible rfl)
    try simp only [Act.put, qa, qb, qc, qD, qE, qF]
    refine qTk (v := ?_) 1 rfl (.inl ⟨by rfl, ?_⟩) ?_
    rotate_left
    ·
     (intro w hSw; (try dsimp only at hSw); go_simp; try with_reducible rfl)
    try simp only [Act.put, qa, qb, qc, qD, qE, qF]
    refine qTk (v := ?_) 2 rfl (.inl ⟨by rfl, ?_⟩) ?_
    rotate_left
    ·
     (intro w hSw; (try dsimp only at hSw); go_simp; try with_reducible rfl)
    try simp only [Act.put, qa, qb, qc, qD, qE, qF]
    refine wpTail_one (i := 3) qKr rfl rfl (fun K hK => ?_)
    try simp only [Act.put, qa, qb, qc, qD, qE, qF]
    go_simp
    skip
    refine hK.out _ _ ⟨(show Ext w4 _ from qXt).cell a0, (show Ext w4 _ from qXt).cell a1, (show Ext w4 _ from qXt).cell na0⟩ (fun hHeld => ?_)
    clear hK K
    try simp only [Act.put, qa, qb, qc, qD, qE, qF]
    refine wpTail_one (i := 4) qKr rfl rfl (fun K hK => ?_)
    try simp only [Act.put, qa, qb, qc, qD, qE, qF]
    go_simp
    refine (oneLit_c #[.int .i64 (-101), .int .i64 101, .int .i64 (-1), .int .i64 100] 4 _ _ _ _ Rw4.drew (by omega) (by rfl) (by rfl) (by constructor <;> simp) (by first | rfl | simp)).mono ?_
    rintro e w5 ⟨x, rfl, hx, Rw5, Cw5⟩
    have Ew5 : Ext w4 (w4.drew.alloc (.cells #[.int .i64 (-101), .int .i64 101, .int .i64 (-1), .int .i64 100] 3)) := qXt
    have e_w5 := Ew5.size
    have zc_w5 := Cw5.size
    simp only [World.size_drew, World.size_alloc] at zc_w5
    have Xw5 : Rch rb w w5 := Rch.step (Rch.ext Xw4 Ew5) Cw5
    replace b0 := Cw5.cell (by omega) (Ew5.cell b0)
    replace b1 := Cw5.cell (by omega) (Ew5.cell b1)
    replace q0 := Cw5.cell (by omega) (Ew5.cell q0)
    replace f_q0 := Cw5.frzO (by omega) (by omega) (Ew5.frz z_q f_q0)
    replace q1 := Cw5.cell (by omega) (Ew5.cell q1)
    replace f_q1 := Cw5.frzO (by omega) (by omega) (Ew5.frz z_q f_q1)
    replace a0 := Cw5.cell (by omega) (Ew5.cell a0)
    replace f_a0 := Cw5.frzO (by omega) (by omega) (Ew5.frz z_a f_a0)
    replace a1 := Cw5.cell (by omega) (Ew5.cell a1)
    replace f_a1 := Cw5.frzO (by omega) (by omega) (Ew5.frz z_a f_a1)
    replace na0 := Cw5.cell (by omega) (Ew5.cell na0)
    replace f_na0 := Cw5.frzO (by omega) (by omega) (Ew5.frz z_na f_na0)
    have z_b : w.heap.size < w5.heap.size := qB b0
    have z_q : w.heap.size + 1 < w5.heap.size := qB q0
    have z_a : w2.heap.size < w5.heap.size := qB a0
    have z_na : gN < w5.heap.size := qB na0
    replace ON := (ON.ext Ew5).chgN Cw5 (by omega)
    have s_w5 : w.heap.size ≤ w5.heap.size := Xw5.size
    clear Rw4 Cw5 Ew5
    refine hK.out _ _ ⟨a0, a1, na0⟩ (fun hHeld => ?_)
    clear hK K
    try simp only [Act.put, qa, qb, qc, qD, qE, qF]
    refine qTk (v := ?_) 5 rfl (.inl ⟨by rfl, ?_⟩) ?_
    rotate_left
    ·
     (intro w hSw; (try dsimp only at hSw); go_simp; try with_reducible rfl)
    try simp only [Act.put, qa, qb, qc, qD, qE, qF]
    refine wpTail_last (i := 6) qKr rfl rfl (fun K hK => ?_)
    try simp only [Act.put, qa, qb, qc, qD, qE, qF]
    go_simp
    refine hK.out _ _ ?_
    clear hK K
    try simp only [Act.put, qa, qb, qc, qD, qE, qF]
    refine wpTail_done qKr ?_ _
    clear hHeld
    clear hx
    generalize hW7 : (w5.setCell ⟨gN, 0, none⟩ (.int .i64 x)) = w6 at *
    have Kw6 : Chg (gN) (gN + 1) w5 w6 := by subst hW7; exact qCh
    have Xw6 : Rch rb w w6 := by subst hW7; exact qRt
    replace Rw5 := (Rd.set2 (a := ⟨gN, 0, none⟩) (u := .int .i64 x) (show rb < gN by omega) Rw5)
    rw [hW7] at Rw5
    replace b0 := Kw6.cell (by omega) b0
    replace b1 := Kw6.cell (by omega) b1
    replace q0 := Kw6.cell (by omega) q0
    replace f_q0 := Kw6.frzO (by omega) z_q f_q0
    replace q1 := Kw6.cell (by omega) q1
    replace f_q1 := Kw6.frzO (by omega) z_q f_q1
    replace a0 := Kw6.cell (by omega) a0
    replace f_a0 := Kw6.frzO (by omega) z_a f_a0
    replace a1 := Kw6.cell (by omega) a1
    replace f_a1 := Kw6.frzO (by omega) z_a f_a1
    replace na0 : w6.cell? ⟨gN, 0, none⟩ = some (.int .i64 x) := by subst hW7; go_simp
    replace f_na0 : w6.frozen? ⟨gN, 0, none⟩ = false := by subst hW7; first | (simp only [World.frozen?_setCell]; with_reducible assumption) | go_simp
    have n_ON := ON.set 0 (x) (by first | omega | (simp; omega) | (rw [putUp_len]; simp; omega) | (rw [addUp_len]; omega))
    rw [hW7] at n_ON
    replace ON := n_ON
    clear n_ON
    clear Kw6
    have z_b : w.heap.size < w6.heap.size := qB b0
    have z_q : w.heap.size + 1 < w6.heap.size := qB q0
    have z_a : w2.heap.size < w6.heap.size := qB a0
    have z_na : gN < w6.heap.size := qB na0
    have s_w6 : w.heap.size ≤ w6.heap.size := Xw6.size
    clear hW7
    go_wp2_with fail
    generalize hW8 : ((w6.setCell ⟨w.heap.size + 1, 0, none⟩ (.int .i64 (kd : Int))).setCell ⟨w.heap.size + 1, 1, none⟩ (.slice (some ⟨gN, 0, none⟩) ns.length r)) = w7 at *
    have Kw7 : Chg (w.heap.size + 1) (w.heap.size + 1 + 1) w6 w7 := by subst hW8; exact qCh
    have Xw7 : Rch rb w w7 := by subst hW8; exact qRt
    replace Rw5 := (Rd.set2 (a := ⟨w.heap.size + 1, 1, none⟩) (u := .slice (some ⟨gN, 0, none⟩) ns.length r) (show rb < w.heap.size + 1 by omega) (Rd.set2 (a := ⟨w.heap.size + 1, 0, none⟩) (u := .int .i64 (kd : Int)) (show rb < w.heap.size + 1 by omega) Rw5))
    rw [hW8] at Rw5
    replace b0 := Kw7.cell (by omega) b0
    replace b1 := Kw7.cell (by omega) b1
    replace q0 : w7.cell? ⟨w.heap.size + 1, 0, none⟩ = some (.int .i64 (kd : Int)) := by subst hW8; go_simp
    replace f_q0 : w7.frozen? ⟨w.heap.size + 1, 0, none⟩ = false := by subst hW8; first | (simp only [World.frozen?_setCell]; with_reducible assumption) | go_simp
    replace q1 : w7.cell? ⟨w.heap.size + 1, 1, none⟩ = some (.slice (some ⟨gN, 0, none⟩) ns.length r) := by subst hW8; go_simp
    replace f_q1 : w7.frozen? ⟨w.heap.size + 1, 1, none⟩ = false := by subst hW8; first | (simp only [World.frozen?_setCell]; with_reducible assumption) | go_simp
    replace a0 := Kw7.cell (by omega) a0
    replace f_a0 := Kw7.frzO (by omega) z_a f_a0
    replace a1 := Kw7.cell (by omega) a1
    replace f_a1 := Kw7.frzO (by omega) z_a f_a1
    replace na0 := Kw7.cell (by omega) na0
    replace f_na0 := Kw7.frzO (by omega) z_na f_na0
    replace ON := ON.chgN Kw7 (by omega)
    clear Kw7
    have z_b : w.heap.size < w7.heap.size := qB b0
    have z_q : w.heap.size + 1 < w7.heap.size := qB q0
    have z_a : w2.heap.size < w7.heap.size := qB a0
    have z_na : gN < w7.heap.size := qB na0
    have s_w7 : w.heap.size ≤ w7.heap.size := Xw7.size
    clear hW8
    refine bodyPost_ret (v := .agg #[.int .i64 (kd : Int), .slice (some ⟨gN, 0, none⟩) ns.length r]) (by simp only [results, Tryd.results8]; go_simp) rfl ?_
    exact ⟨(kd : Int), ns.set 0 x, _, _, by rw [List.length_set], (by omega), (by simp; omega), (by rw [List.length_set]; exact (ON.ints (by first | omega | (simp; omega))).lower (by omega)), Rw5.mono (by omega), Xw7⟩
   ·
    have z0 : (y == 0) = false := by simpa using y0
    have z1 : (y == 1) = false := by simpa using y1
    have z2 : (y == 2) = false := by simpa using y2
    go_wp2_with fail
    generalize hW9 : ((w4.setCell ⟨w.heap.size + 1, 0, none⟩ (.int .i64 (kd : Int))).setCell ⟨w.heap.size + 1, 1, none⟩ (.slice (some ⟨gN, 0, none⟩) ns.length r)) = w5 at *
    have Kw5 : Chg (w.heap.size + 1) (w.heap.size + 1 + 1) w4 w5 := by subst hW9; exact qCh
    have Xw5 : Rch rb w w5 := by subst hW9; exact qRt
    replace Rw4 := (Rd.set2 (a := ⟨w.heap.size + 1, 1, none⟩) (u := .slice (some ⟨gN, 0, none⟩) ns.length r) (show rb < w.heap.size + 1 by omega) (Rd.set2 (a := ⟨w.heap.size + 1, 0, none⟩) (u := .int .i64 (kd : Int)) (show rb < w.heap.size + 1 by omega) Rw4))
    rw [hW9] at Rw4
    replace b0 := Kw5.cell (by omega) b0
    replace b1 := Kw5.cell (by omega) b1
    replace q0 : w5.cell? ⟨w.heap.size + 1, 0, none⟩ = some (.int .i64 (kd : Int)) := by subst hW9; go_simp
    replace f_q0 : w5.frozen? ⟨w.heap.size + 1, 0, none⟩ = false := by subst hW9; first | (simp only [World.frozen?_setCell]; with_reducible assumption) | go_simp
    replace q1 : w5.cell? ⟨w.heap.size + 1, 1, none⟩ = some (.slice (some ⟨gN, 0, none⟩) ns.length r) := by subst hW9; go_simp
    replace f_q1 : w5.frozen? ⟨w.heap.size + 1, 1, none⟩ = false := by subst hW9; first | (simp only [World.frozen?_setCell]; with_reducible assumption) | go_simp
    replace a0 := Kw5.cell (by omega) a0
    replace f_a0 := Kw5.frzO (by omega) z_a f_a0
    replace a1 := Kw5.cell (by omega) a1
    replace f_a1 := Kw5.frzO (by omega) z_a f_a1
    replace ON := ON.chgN Kw5 (by omega)
    clear Kw5
    have z_b : w.heap.size < w5.heap.size := qB b0
    have z_q : w.heap.size + 1 < w5.heap.size := qB q0
    have z_a : w2.heap.size < w5.heap.size := qB a0
    have s_w5 : w.heap.size ≤ w5.heap.size := Xw5.size
    clear hW9
    refine bodyPost_ret (v := .agg #[.int .i64 (kd : Int), .slice (some ⟨gN, 0, none⟩) ns.length r]) (by simp only [results, Tryd.results8]; go_simp) rfl ?_
    exact ⟨(kd : Int), ns, _, _, rfl, (by omega), (by omega), (ON.ints (by first | omega | (simp; omega))).lower (by omega), Rw4.mono (by omega), Xw5⟩

end Go.Proofs.YtgklaobfikbiiaaDoor

/- Words for memory: rows of records, told by cells. No condition. -/
namespace Go.Proofs.YtgklaobfikbiiaaDoor
open Go.RowKit
set_option linter.unusedVariables false
set_option maxRecDepth 100000

section
variable {w w' : World} {base E sz : Nat} {v : Value} {L : List (List Value)}
end
end Go.Proofs.YtgklaobfikbiiaaDoor

/- Words for memory: lists of records (Tensor). No condition. -/
namespace Go.Proofs.YtgklaobfikbiiaaDoor
open Go.RowKit
set_option linter.unusedVariables false
set_option maxRecDepth 100000

/-- a record -/
structure Ten where
  s : List Int
  t : List Int
def noTen : Ten := ⟨[], []⟩
def tenAt (rs : List Ten) (i : Nat) : Ten := rs.getD i noTen
/-- the slice value v reads as the records rs; its cells, and their rows', lie in blocks from lo on -/
def Tens (w : World) (lo : Nat) (v : Value) (rs : List Ten) : Prop :=
  ∃ a cap, v = .slice a rs.length cap ∧ rs.length ≤ cap ∧ cap ≤ maxLen ∧ (rs.length ≤ 1048576 ∧ (a = none → cap = 0)) ∧
    ∀ i, i < rs.length → ∃ bl off u1 c1 u2 c2, a = some ⟨bl, off, none⟩ ∧ lo ≤ bl ∧ w.cell? ⟨bl, off + i * 2, none⟩ = some (.slice u1 (tenAt rs i).s.length c1) ∧ w.cell? ⟨bl, off + i * 2 + 1, none⟩ = some (.slice u2 (tenAt rs i).t.length c2) ∧ Ints w lo (.slice u1 (tenAt rs i).s.length c1) (tenAt rs i).s ∧ Ints w lo (.slice u2 (tenAt rs i).t.length c2) (tenAt rs i).t
section
variable {w w' : World} {lo lo' : Nat} {v : Value} {rs : List Ten}
theorem Tens.ext (h : Tens w lo v rs) (hx : Ext w w') : Tens w' lo v rs := by
  obtain ⟨a, cap, hv, h1, h2, h3, h4⟩ := h
  refine ⟨a, cap, hv, h1, h2, h3, fun i hi => ?_⟩
  obtain ⟨bl, off, u1, c1, u2, c2, ha, hl, k0, k1, j1, j2⟩ := h4 i hi
  exact ⟨bl, off, u1, c1, u2, c2, ha, hl, hx.cell k0, hx.cell k1, j1.ext hx, j2.ext hx⟩
theorem Tens.lower (h : Tens w lo v rs) (hl : lo' ≤ lo) : Tens w lo' v rs := by
  obtain ⟨a, cap, hv, h1, h2, h3, h4⟩ := h
  refine ⟨a, cap, hv, h1, h2, h3, fun i hi => ?_⟩
  obtain ⟨bl, off, u1, c1, u2, c2, ha, hb, k0, k1, j1, j2⟩ := h4 i hi
  exact ⟨bl, off, u1, c1, u2, c2, ha, by omega, k0, k1, j1.lower hl, j2.lower hl⟩
theorem Tens.chg {l h' : Nat} (h : Tens w lo v rs) (k : Chg l h' w w') (hb : h' ≤ lo) : Tens w' lo v rs := by
  obtain ⟨a, cap, hv, h1, h2, h3, h4⟩ := h
  refine ⟨a, cap, hv, h1, h2, h3, fun i hi => ?_⟩
  obtain ⟨bl, off, u1, c1, u2, c2, ha, hb', k0, k1, j1, j2⟩ := h4 i hi
  exact ⟨bl, off, u1, c1, u2, c2, ha, hb', k.cell (.inr (by omega)) k0, k.cell (.inr (by omega)) k1, j1.chg k hb, j2.chg k hb⟩
theorem Tens.form (h : Tens w lo v rs) : ∃ a c, v = .slice a rs.length c := by obtain ⟨a, cap, rfl, _⟩ := h; exact ⟨_, _, rfl⟩
theorem Tens.len (h : Tens w lo v rs) : rs.length ≤ 1048576 := by obtain ⟨_, _, _, _, _, ⟨h, _⟩, _⟩ := h; exact h
theorem Tens.nil (w : World) (lo : Nat) : Tens w lo (.slice none 0 0) [] := ⟨none, 0, rfl, by simp, by simp, ⟨by simp, fun _ => rfl⟩, fun i hi => absurd hi (by simp)⟩
/-- the cells of one record -/
theorem Tens.at {a : Option Addr} {n c : Nat} (h : Tens w lo (.slice a n c) rs) (i : Nat) (hi : i < rs.length) : ∃ bl off u1 c1 u2 c2, a = some ⟨bl, off, none⟩ ∧ w.cell? ⟨bl, off + i * 2, none⟩ = some (.slice u1 (tenAt rs i).s.length c1) ∧ w.cell? ⟨bl, off + i * 2 + 1, none⟩ = some (.slice u2 (tenAt rs i).t.length c2) ∧ Ints w lo (.slice u1 (tenAt rs i).s.length c1) (tenAt rs i).s ∧ Ints w lo (.slice u2 (tenAt rs i).t.length c2) (tenAt rs i).t := by
  obtain ⟨a', cap, hv, h1, h2, h3, h4⟩ := h
  cases hv
  obtain ⟨bl, off, u1, c1, u2, c2, ha, hb, k⟩ := h4 i hi
  exact ⟨bl, off, u1, c1, u2, c2, ha, k⟩
end
end Go.Proofs.YtgklaobfikbiiaaDoor

/- Words for memory: lists of records (IntS). No condition. -/
namespace Go.Proofs.YtgklaobfikbiiaaDoor
open Go.RowKit
set_option linter.unusedVariables false
set_option maxRecDepth 100000

/-- a record -/
structure Lst where
  s : List Int
def noLst : Lst := ⟨[]⟩
def lstAt (rs : List Lst) (i : Nat) : Lst := rs.getD i noLst
/-- the slice value v reads as the records rs; its cells, and their rows', lie in blocks from lo on -/
def Lsts (w : World) (lo : Nat) (v : Value) (rs : List Lst) : Prop :=
  ∃ a cap, v = .slice a rs.length cap ∧ rs.length ≤ cap ∧ cap ≤ maxLen ∧ (rs.length ≤ 1048576 ∧ (a = none → cap = 0)) ∧
    ∀ i, i < rs.length → ∃ bl off u1 c1, a = some ⟨bl, off, none⟩ ∧ lo ≤ bl ∧ w.cell? ⟨bl, off + i, none⟩ = some (.slice u1 (lstAt rs i).s.length c1) ∧ Ints w lo (.slice u1 (lstAt rs i).s.length c1) (lstAt rs i).s
section
variable {w w' : World} {lo lo' : Nat} {v : Value} {rs : List Lst}
theorem Lsts.ext (h : Lsts w lo v rs) (hx : Ext w w') : Lsts w' lo v rs := by
  obtain ⟨a, cap, hv, h1, h2, h3, h4⟩ := h
  refine ⟨a, cap, hv, h1, h2, h3, fun i hi => ?_⟩
  obtain ⟨bl, off, u1, c1, ha, hl, k0, j1⟩ := h4 i hi
  exact ⟨bl, off, u1, c1, ha, hl, hx.cell k0, j1.ext hx⟩
theorem Lsts.lower (h : Lsts w lo v rs) (hl : lo' ≤ lo) : Lsts w lo' v rs := by
  obtain ⟨a, cap, hv, h1, h2, h3, h4⟩ := h
  refine ⟨a, cap, hv, h1, h2, h3, fun i hi => ?_⟩
  obtain ⟨bl, off, u1, c1, ha, hb, k0, j1⟩ := h4 i hi
  exact ⟨bl, off, u1, c1, ha, by omega, k0, j1.lower hl⟩
theorem Lsts.chg {l h' : Nat} (h : Lsts w lo v rs) (k : Chg l h' w w') (hb : h' ≤ lo) : Lsts w' lo v rs := by
  obtain ⟨a, cap, hv, h1, h2, h3, h4⟩ := h
  refine ⟨a, cap, hv, h1, h2, h3, fun i hi => ?_⟩
  obtain ⟨bl, off, u1, c1, ha, hb', k0, j1⟩ := h4 i hi
  exact ⟨bl, off, u1, c1, ha, hb', k.cell (.inr (by omega)) k0, j1.chg k hb⟩
theorem Lsts.form (h : Lsts w lo v rs) : ∃ a c, v = .slice a rs.length c := by obtain ⟨a, cap, rfl, _⟩ := h; exact ⟨_, _, rfl⟩
theorem Lsts.len (h : Lsts w lo v rs) : rs.length ≤ 1048576 := by obtain ⟨_, _, _, _, _, ⟨h, _⟩, _⟩ := h; exact h
theorem Lsts.nil (w : World) (lo : Nat) : Lsts w lo (.slice none 0 0) [] := ⟨none, 0, rfl, by simp, by simp, ⟨by simp, fun _ => rfl⟩, fun i hi => absurd hi (by simp)⟩
/-- the cells of one record -/
theorem Lsts.at {a : Option Addr} {n c : Nat} (h : Lsts w lo (.slice a n c) rs) (i : Nat) (hi : i < rs.length) : ∃ bl off u1 c1, a = some ⟨bl, off, none⟩ ∧ w.cell? ⟨bl, off + i, none⟩ = some (.slice u1 (lstAt rs i).s.length c1) ∧ Ints w lo (.slice u1 (lstAt rs i).s.length c1) (lstAt rs i).s := by
  obtain ⟨a', cap, hv, h1, h2, h3, h4⟩ := h
  cases hv
  obtain ⟨bl, off, u1, c1, ha, hb, k⟩ := h4 i hi
  exact ⟨bl, off, u1, c1, ha, k⟩
end
end Go.Proofs.YtgklaobfikbiiaaDoor

/- Plain laws: valid tensors, the extents of labels. No condition. -/
namespace Go.Proofs.YtgklaobfikbiiaaDoor
open Go.RowKit
set_option linter.unusedVariables false
set_option maxRecDepth 100000

theorem any_not (xs : List Int) (p : Int → Bool) : xs.any (fun x => !p x) = !xs.all p := by
  induction xs with
  | nil => rfl
  | cons a l ih => rw [List.any_cons, List.all_cons, ih]; cases p a <;> rfl
end Go.Proofs.YtgklaobfikbiiaaDoor

/- Walks: valid tensors, labels. -/
namespace Go.Proofs.YtgklaobfikbiiaaDoor
open Go.RowKit
set_option linter.unusedVariables false
set_option maxRecDepth 100000


end Go.Proofs.YtgklaobfikbiiaaDoor

/- Walks: valid acts. -/
namespace Go.Proofs.YtgklaobfikbiiaaDoor
open Go.RowKit
set_option linter.unusedVariables false
set_option maxRecDepth 100000

/-- an act is drawn -/
def PDA (w : World) (e : Ending) (w' : World) : Prop := ∃ (kd : Int) (ns : List Int) (p : Option Addr) (r : Nat), e = .returned (.agg #[.int .i64 kd, .slice p ns.length r]) ∧ (-1 ≤ kd ∧ kd ≤ 8) ∧ ns.length ≤ 5 ∧ Ints w' w.heap.size (.slice p ns.length r) ns ∧ Ext w w'
/-- the program's list of how many numbers an act of a kind has -/
def Glob (w : World) : Prop := ∀ i, i < 8 → w.cell? ⟨0, i, none⟩ = some (.int .i64 (needN i : Int))
theorem Glob.ext {w w' : World} (h : Glob w) (hx : Ext w w') : Glob w' := fun i hi => hx.cell (h i hi)
/-- the act is valid -/
def actB (kd : Int) (ns : List Int) : Bool := decide (0 ≤ kd ∧ kd ≤ 7 ∧ (ns.length : Int) = (needN kd.toNat : Int)) && ns.all (inB (-100) 100)
theorem actB_lo {kd : Int} {ns : List Int} (h : kd < 0) : actB kd ns = false := by unfold actB; rw [decide_eq_false (by omega)]; rfl
theorem actB_hi {kd : Int} {ns : List Int} (h : 7 < kd) : actB kd ns = false := by unfold actB; rw [decide_eq_false (by omega)]; rfl
theorem actB_no {q : Nat} {ns : List Int} (h : ¬ (ns.length : Int) = (needN q : Int)) : actB (q : Int) ns = false := by unfold actB; rw [Int.toNat_natCast, decide_eq_false (fun h7 => h h7.2.2)]; rfl
theorem actB_is {q : Nat} {ns : List Int} (hq : q ≤ 7) (h : (ns.length : Int) = (needN q : Int)) : actB (q : Int) ns = ns.all (inB (-100) 100) := by unfold actB; rw [Int.toNat_natCast, decide_eq_true ⟨by omega, by omega, h⟩]; rfl
theorem actF_c (w : World) : Asks 18 #[] w (fun x => !inB (-100) 100 x) := by
 refine ⟨⟨Tryd.f18, Tryd.func18, rfl, by decide +kernel⟩, fun x => ?_⟩
 rw [show (#[Value.int .i64 x] ++ #[]) = #[.int .i64 x] by simp]
 by_cases h : x < -100
 ·
  go_enter Tryd.func18, Tryd.ntmps18
  go_wp2_with fail
  go_ret
  exact ⟨by simp [inB]; intros; omega, rfl⟩
 ·
  have h' : ¬ (x < -100) := h
  by_cases h2 : 100 < x
  ·
   go_enter Tryd.func18, Tryd.ntmps18
   go_wp2_with fail
   go_ret
   exact ⟨by rw [show inB (-100) 100 x = false by unfold inB; simp; omega] <;> rfl, rfl⟩
  ·
   go_enter Tryd.func18, Tryd.ntmps18
   go_wp2_with fail
   go_ret
   exact ⟨by rw [show inB (-100) 100 x = true by unfold inB; simp; omega] <;> rfl, rfl⟩
theorem anyA_c (xs : List Int) (v : Value) (w : World) (lo : Nat) (hv : Ints w lo v xs) :
  Calls Tryd.prog 17 #[v, .func (.func 18) #[] #[]] w fun e w' => e = .returned (.bool (!xs.all (inB (-100) 100))) ∧ w = w' := by
 rw [← any_not]; exact containsFunc_c _ _ _ xs v w lo hv (actF_c w)
theorem inR_t (w : World) (x : Int) (h : 0 ≤ x ∧ x ≤ 7) : Calls Tryd.prog 19 #[.int .i64 x, .int .i64 0, .int .i64 7] w fun e w' => e = .returned (.bool true) ∧ Ext w w' :=
 (inRange_c x 0 7 w).mono fun e w' ⟨h1, h2⟩ => ⟨by rw [h1, show inB 0 7 x = true by unfold inB; simp; omega], by subst h2; exact Ext.refl _⟩
theorem inR_f (w : World) (x : Int) (h : ¬ (0 ≤ x ∧ x ≤ 7)) : Calls Tryd.prog 19 #[.int .i64 x, .int .i64 0, .int .i64 7] w fun e w' => e = .returned (.bool false) ∧ Ext w w' :=
 (inRange_c x 0 7 w).mono fun e w' ⟨h1, h2⟩ => ⟨by rw [h1, show inB 0 7 x = false by unfold inB; simp; omega], by subst h2; exact Ext.refl _⟩
theorem allI_x (xs : List Int) (v : Value) (w : World) (lo : Nat) (hv : Ints w lo v xs) : Calls Tryd.prog 21 #[v, .int .i64 (-100), .int .i64 100] w fun e w' => e = .returned (.bool (xs.all (inB (-100) 100))) ∧ Ext w w' :=
 (allIn_c xs v (-100) 100 w lo hv).mono fun e w' ⟨h1, h2⟩ => ⟨h1, by subst h2; exact Ext.refl _⟩
set_option maxHeartbeats 3200000 in
theorem needs_c (q : Nat) (w : World) (hq : q ≤ 7) : Calls Tryd.prog 20 #[.int .i64 (q : Int)] w fun e w' => e = .returned (.int .i64 (needN q : Int)) ∧ Ext w w' := by
 rcases (show q = 0 ∨ q = 1 ∨ q = 2 ∨ q = 3 ∨ q = 4 ∨ q = 5 ∨ q = 6 ∨ q = 7 by omega) with rfl | rfl | rfl | rfl | rfl | rfl | rfl | rfl
 ·
  go_enter Tryd.func20, Tryd.ntmps20
  go_wp2_with fail
  go_ret
  exact ⟨rfl, qXt⟩
 ·
  go_enter Tryd.func20, Tryd.ntmps20
  go_wp2_with fail
  go_ret
  exact ⟨rfl, qXt⟩
 ·
  go_enter Tryd.func20, Tryd.ntmps20
  go_wp2_with fail
  go_ret
  exact ⟨rfl, qXt⟩
 ·
  go_enter Tryd.func20, Tryd.ntmps20
  go_wp2_with fail
  go_ret
  exact ⟨rfl, qXt⟩
 ·
  go_enter Tryd.func20, Tryd.ntmps20
  go_wp2_with fail
  go_ret
  exact ⟨rfl, qXt⟩
 ·
  go_enter Tryd.func20, Tryd.ntmps20
  go_wp2_with fail
  go_ret
  exact ⟨rfl, qXt⟩
 ·
  go_enter Tryd.func20, Tryd.ntmps20
  go_wp2_with fail
  go_ret
  exact ⟨rfl, qXt⟩
 ·
  go_enter Tryd.func20, Tryd.ntmps20
  go_wp2_with fail
  go_ret
  exact ⟨rfl, qXt⟩
set_option maxHeartbeats 3200000 in
theorem drawValidAct_c (a : Option Addr) (n cap : Nat) (w : World) (hb : BysIn w a n cap) :
  Calls Tryd.prog 4 #[.slice a n cap] w (PDA w) := by
 go_enter Tryd.func4, Tryd.ntmps4
 go_wp2_with fail
 refine (newReader_c a n cap _ (hb.ext qXt)).mono ?_
 rintro e w1 ⟨rfl, hr, xw1⟩
 have Lw1 : Ext w w1 := Ext.trans qXt xw1
 have Xw1 : Ext w w1 := Lw1
 have q0 : w1.cell? ⟨w.heap.size, 0, none⟩ = some (.int .i64 0) := xw1.cell qCl
 have q1 : w1.cell? ⟨w.heap.size, 1, none⟩ = some (.slice none 0 0) := xw1.cell qCl
 have f_q0 : w1.frozen? ⟨w.heap.size, 0, none⟩ = false := xw1.frz (by simp <;> omega) qFz
 have f_q1 : w1.frozen? ⟨w.heap.size, 1, none⟩ = false := xw1.frz (by simp <;> omega) qFz
 have z_q : w.heap.size < w1.heap.size := qB q0
 have s_w1 : w.heap.size ≤ w1.heap.size := Xw1.size
 clear xw1
 simp only [World.size_alloc] at hr
 have z1 := hr.lt
 clear hb
 go_wp2_with fail
 refine (goodBuffer_c _ 0 _ hr (by omega)).mono ?_
 rintro e w2 ⟨cv, ev, cells, es, R, rfl, -, B, Rw2, Cw2⟩
 have zc_w2 := Cw2.size
 have Xw2 : Ext w w2 := Rch.toExt' Cw2 (by omega) (Xw1)
 replace q0 := Cw2.cell (by omega) q0
 replace f_q0 := Cw2.frzO (by omega) (by omega) f_q0
 replace q1 := Cw2.cell (by omega) q1
 replace f_q1 := Cw2.frzO (by omega) (by omega) f_q1
 have z_q : w.heap.size < w2.heap.size := qB q0
 have s_w2 : w.heap.size ≤ w2.heap.size := Xw2.size
 clear hr Cw2
 go_wp2_with fail
 refine (anyAct_c _ 100 _ cells es _ _ R _ B (by omega) Rw2 (by omega)).mono ?_
 rintro e w3 ⟨kd, ns, p, r, rfl, hkd, hns, i1, Rw3, Cw3⟩
 have zc_w3 := Cw3.size
 have Xw3 : Ext w w3 := Rch.toExt' Cw3 (by omega) (Xw2)
 replace q0 := Cw3.cell (by omega) q0
 replace f_q0 := Cw3.frzO (by omega) (by omega) f_q0
 replace q1 := Cw3.cell (by omega) q1
 replace f_q1 := Cw3.frzO (by omega) (by omega) f_q1
 have z_q : w.heap.size < w3.heap.size := qB q0
 replace B := B.chg Cw3 (by omega)
 have s_w3 : w.heap.size ≤ w3.heap.size := Xw3.size
 clear Rw2 Cw3
 clear B
 go_wp2_with fail
 generalize hW1 : ((w3.setCell ⟨w.heap.size, 0, none⟩ (.int .i64 kd)).setCell ⟨w.heap.size, 1, none⟩ (.slice p ns.length r)) = w4 at *
 have Kw4 : Chg (w.heap.size) (w.heap.size + 1) w3 w4 := by subst hW1; exact qCh
 have Xw4 : Ext w w4 := by subst hW1; exact qXt
 replace q0 : w4.cell? ⟨w.heap.size, 0, none⟩ = some (.int .i64 kd) := by subst hW1; go_simp
 replace f_q0 : w4.frozen? ⟨w.heap.size, 0, none⟩ = false := by subst hW1; first | (simp only [World.frozen?_setCell]; with_reducible assumption) | go_simp
 replace q1 : w4.cell? ⟨w.heap.size, 1, none⟩ = some (.slice p ns.length r) := by subst hW1; go_simp
 replace f_q1 : w4.frozen? ⟨w.heap.size, 1, none⟩ = false := by subst hW1; first | (simp only [World.frozen?_setCell]; with_reducible assumption) | go_simp
 replace i1 := i1.chg Kw4 (by omega)
 clear Kw4
 have z_q : w.heap.size < w4.heap.size := qB q0
 have s_w4 : w.heap.size ≤ w4.heap.size := Xw4.size
 clear hW1
 refine bodyPost_ret (v := .agg #[.int .i64 kd, .slice p ns.length r]) (by simp only [results, Tryd.results4]; go_simp) rfl ?_
 exact ⟨kd, ns, p, r, rfl, hkd, hns, i1.lower (by omega), Xw4⟩
set_option maxHeartbeats 3200000 in
theorem isAct_lo (kd : Int) (ns : List Int) (v : Value) (w : World) (lo : Nat) (hc : kd < 0) (h : Ints w lo v ns) :
  Calls Tryd.prog 10 #[.agg #[.int .i64 kd, v]] w (fun e w' => e = .returned (.bool (actB kd ns)) ∧ Ext w w') := by
 obtain ⟨p, r, rfl⟩ := h.form
 have hl := h.len
 go_enter Tryd.func10, Tryd.ntmps10
 go_wp2_with fail
 generalize hW2 : w.alloc (.cells #[.int .i64 kd, .slice p ns.length r] 25) = w1 at *
 have Lw1 : Ext w w1 := by subst hW2; exact qXt
 have Xw1 : Ext w w1 := by subst hW2; exact Lw1
 have b0 : w1.cell? ⟨w.heap.size, 0, none⟩ = some (.int .i64 kd) := by subst hW2; exact qCl
 have b1 : w1.cell? ⟨w.heap.size, 1, none⟩ = some (.slice p ns.length r) := by subst hW2; exact qCl
 have z_b : w.heap.size < w1.heap.size := qB b0
 have s_w1 : w.heap.size ≤ w1.heap.size := Xw1.size
 clear hW2
 refine wp_region_tail (S := fun w' => w'.cell? ⟨w.heap.size, 0, none⟩ = some (.int .i64 kd)) (fun i => decide (18 ≤ i)) qKr b0 (fun hHeld => ?_)
 refine qTk (v := ?_) 0 rfl (.inl ⟨by rfl, ?_⟩) ?_
 rotate_left
 ·
  (intro w hSw; (try dsimp only at hSw); go_simp; try with_reducible rfl)
 try simp only [Act.put, qa, qb, qc, qD, qE, qF]
 refine qTk (v := ?_) 1 rfl (.inl ⟨by rfl, ?_⟩) ?_
 rotate_left
 ·
  (intro w hSw; (try dsimp only at hSw); go_simp; try with_reducible rfl)
 try simp only [Act.put, qa, qb, qc, qD, qE, qF]
 refine qTk (v := ?_) 2 rfl (.inl ⟨by rfl, ?_⟩) ?_
 rotate_left
 ·
  (intro w hSw; (try dsimp only at hSw); go_simp; try with_reducible rfl)
 try simp only [Act.put, qa, qb, qc, qD, qE, qF]
 refine qTk (v := ?_) 3 rfl (.inl ⟨by rfl, ?_⟩) ?_
 rotate_left
 ·
  (intro w hSw; (try dsimp only at hSw); go_simp; try with_reducible rfl)
 try simp only [Act.put, qa, qb, qc, qD, qE, qF]
 refine qTs 4 rfl (.inr ⟨by rfl, rfl⟩) ?_
 try simp only [Act.put, qa, qb, qc, qD, qE, qF]
 refine qTs 5 rfl (.inr ⟨by rfl, rfl⟩) ?_
 try simp only [Act.put, qa, qb, qc, qD, qE, qF]
 refine qTs 6 rfl (.inr ⟨by rfl, rfl⟩) ?_
 try simp only [Act.put, qa, qb, qc, qD, qE, qF]
 refine qTk (v := ?_) 7 rfl (.inl ⟨by rfl, ?_⟩) ?_
 rotate_left
 ·
  (intro w hSw; (try dsimp only at hSw); go_simp; try with_reducible rfl)
 try simp only [Act.put, qa, qb, qc, qD, qE, qF]
 refine qTk (v := ?_) 8 rfl (.inl ⟨by rfl, ?_⟩) ?_
 rotate_left
 ·
  (intro w hSw; (try dsimp only at hSw); go_simp; try with_reducible rfl)
 try simp only [Act.put, qa, qb, qc, qD, qE, qF]
 refine qTs 9 rfl (.inr ⟨by rfl, rfl⟩) ?_
 try simp only [Act.put, qa, qb, qc, qD, qE, qF]
 refine qTs 10 rfl (.inr ⟨by rfl, rfl⟩) ?_
 try simp only [Act.put, qa, qb, qc, qD, qE, qF]
 refine qTs 11 rfl (.inr ⟨by rfl, rfl⟩) ?_
 try simp only [Act.put, qa, qb, qc, qD, qE, qF]
 refine qTs 12 rfl (.inr ⟨by rfl, rfl⟩) ?_
 try simp only [Act.put, qa, qb, qc, qD, qE, qF]
 refine qTs 13 rfl (.inr ⟨by rfl, rfl⟩) ?_
 try simp only [Act.put, qa, qb, qc, qD, qE, qF]
 refine qTs 14 rfl (.inr ⟨by rfl, rfl⟩) ?_
 try simp only [Act.put, qa, qb, qc, qD, qE, qF]
 refine qTs 15 rfl (.inr ⟨by rfl, rfl⟩) ?_
 try simp only [Act.put, qa, qb, qc, qD, qE, qF]
 refine qTs 16 rfl (.inr ⟨by rfl, rfl⟩) ?_
 try simp only [Act.put, qa, qb, qc, qD, qE, qF]
 refine qTk (v := ?_) 17 rfl (.inl ⟨by rfl, ?_⟩) ?_
 rotate_left
 ·
  (intro w hSw; (try dsimp only at hSw); go_simp; try with_reducible rfl)
 try simp only [Act.put, qa, qb, qc, qD, qE, qF]
 refine wpTail_done qKr ?_ _
 clear hHeld
 go_wp2_with fail
 go_ret
 exact ⟨by rw [actB_lo hc] <;> rfl, Xw1.trans qXt⟩
set_option maxHeartbeats 3200000 in
theorem isAct_hi (kd : Int) (ns : List Int) (v : Value) (w : World) (lo : Nat) (hc : 7 < kd) (hc0 : ¬ kd < 0) (h : Ints w lo v ns) :
  Calls Tryd.prog 10 #[.agg #[.int .i64 kd, v]] w (fun e w' => e = .returned (.bool (actB kd ns)) ∧ Ext w w') := by
 obtain ⟨p, r, rfl⟩ := h.form
 have hl := h.len
 go_enter Tryd.func10, Tryd.ntmps10
 go_wp2_with fail
 generalize hW3 : w.alloc (.cells #[.int .i64 kd, .slice p ns.length r] 25) = w1 at *
 have Lw1 : Ext w w1 := by subst hW3; exact qXt
 have Xw1 : Ext w w1 := by subst hW3; exact Lw1
 have b0 : w1.cell? ⟨w.heap.size, 0, none⟩ = some (.int .i64 kd) := by subst hW3; exact qCl
 have b1 : w1.cell? ⟨w.heap.size, 1, none⟩ = some (.slice p ns.length r) := by subst hW3; exact qCl
 have z_b : w.heap.size < w1.heap.size := qB b0
 have s_w1 : w.heap.size ≤ w1.heap.size := Xw1.size
 clear hW3
 have hd0 : decide (kd < 0) = false := decide_eq_false (by omega)
 refine wp_region_tail (S := fun w' => w'.cell? ⟨w.heap.size, 0, none⟩ = some (.int .i64 kd)) (fun i => decide (18 ≤ i)) qKr b0 (fun hHeld => ?_)
 refine qTk (v := ?_) 0 rfl (.inl ⟨by rfl, ?_⟩) ?_
 rotate_left
 ·
  (intro w hSw; (try dsimp only at hSw); go_simp; try with_reducible rfl)
 try simp only [Act.put, qa, qb, qc, qD, qE, qF]
 refine qTk (v := ?_) 1 rfl (.inl ⟨by rfl, ?_⟩) ?_
 rotate_left
 ·
  (intro w hSw; (try dsimp only at hSw); go_simp; try with_reducible rfl)
 try simp only [Act.put, qa, qb, qc, qD, qE, qF]
 refine qTk (v := ?_) 2 rfl (.inl ⟨by rfl, ?_⟩) ?_
 rotate_left
 ·
  (intro w hSw; (try dsimp only at hSw); go_simp; try with_reducible rfl)
 try simp only [Act.put, qa, qb, qc, qD, qE, qF]
 refine qTk (v := ?_) 3 rfl (.inl ⟨by rfl, ?_⟩) ?_
 rotate_left
 ·
  (intro w hSw; (try dsimp only at hSw); go_simp; try with_reducible rfl)
 try simp only [Act.put, qa, qb, qc, qD, qE, qF]
 refine qTk (v := ?_) 4 rfl (.inl ⟨by rfl, ?_⟩) ?_
 rotate_left
 ·
  (intro w hSw; (try dsimp only at hSw); go_simp; try with_reducible rfl)
 try simp only [Act.put, qa, qb, qc, qD, qE, qF]
 refine qTk (v := ?_) 5 rfl (.inl ⟨by rfl, ?_⟩) ?_
 rotate_left
 ·
  (intro w hSw; (try dsimp only at hSw); go_simp; try with_reducible rfl)
 try simp only [Act.put, qa, qb, qc, qD, qE, qF]
 refine qTk (v := ?_) 6 rfl (.inl ⟨by rfl, ?_⟩) ?_
 rotate_left
 ·
  (intro w hSw; (try dsimp only at hSw); go_simp; try with_reducible rfl)
 try simp only [Act.put, qa, qb, qc, qD, qE, qF]
 refine qTk (v := ?_) 7 rfl (.inl ⟨by rfl, ?_⟩) ?_
 rotate_left
 ·
  (intro w hSw; (try dsimp only at hSw); go_simp; try with_reducible rfl)
 try simp only [Act.put, qa, qb, qc, qD, qE, qF]
 refine qTk (v := ?_) 8 rfl (.inl ⟨by rfl, ?_⟩) ?_
 rotate_left
 ·
  (intro w hSw; (try dsimp only at hSw); go_simp; try with_reducible rfl)
 try simp only [Act.put, qa, qb, qc, qD, qE, qF]
 refine qTs 9 rfl (.inr ⟨by rfl, rfl⟩) ?_
 try simp only [Act.put, qa, qb, qc, qD, qE, qF]
 refine qTs 10 rfl (.inr ⟨by rfl, rfl⟩) ?_
 try simp only [Act.put, qa, qb, qc, qD, qE, qF]
 refine qTs 11 rfl (.inr ⟨by rfl, rfl⟩) ?_
 try simp only [Act.put, qa, qb, qc, qD, qE, qF]
 refine qTs 12 rfl (.inr ⟨by rfl, rfl⟩) ?_
 try simp only [Act.put, qa, qb, qc, qD, qE, qF]
 refine qTs 13 rfl (.inr ⟨by rfl, rfl⟩) ?_
 try simp only [Act.put, qa, qb, qc, qD, qE, qF]
 refine qTs 14 rfl (.inr ⟨by rfl, rfl⟩) ?_
 try simp only [Act.put, qa, qb, qc, qD, qE, qF]
 refine qTs 15 rfl (.inr ⟨by rfl, rfl⟩) ?_
 try simp only [Act.put, qa, qb, qc, qD, qE, qF]
 refine qTs 16 rfl (.inr ⟨by rfl, rfl⟩) ?_
 try simp only [Act.put, qa, qb, qc, qD, qE, qF]
 refine qTk (v := ?_) 17 rfl (.inl ⟨by rfl, ?_⟩) ?_
 rotate_left
 ·
  (intro w hSw; (try dsimp only at hSw); go_simp; try with_reducible rfl)
 try simp only [Act.put, qa, qb, qc, qD, qE, qF]
 refine wpTail_done qKr ?_ _
 clear hHeld
 go_wp2_with fail
 go_ret
 exact ⟨by rw [actB_hi hc] <;> rfl, Xw1.trans qXt⟩
set_option maxHeartbeats 3200000 in
theorem isAct_in (q : Nat) (ns : List Int) (v : Value) (w : World) (lo : Nat) (hq : q ≤ 7) (hG : Glob w) (h : Ints w lo v ns) :
  Calls Tryd.prog 10 #[.agg #[.int .i64 (q : Int), v]] w (fun e w' => e = .returned (.bool (actB (q : Int) ns)) ∧ Ext w w') := by
 obtain ⟨p, r, rfl⟩ := h.form
 have hl := h.len
 go_enter Tryd.func10, Tryd.ntmps10
 go_wp2_with fail
 generalize hW4 : w.alloc (.cells #[.int .i64 (q : Int), .slice p ns.length r] 25) = w1 at *
 have Lw1 : Ext w w1 := by subst hW4; exact qXt
 have Xw1 : Ext w w1 := by subst hW4; exact Lw1
 have b0 : w1.cell? ⟨w.heap.size, 0, none⟩ = some (.int .i64 (q : Int)) := by subst hW4; exact qCl
 have b1 : w1.cell? ⟨w.heap.size, 1, none⟩ = some (.slice p ns.length r) := by subst hW4; exact qCl
 have z_b : w.heap.size < w1.heap.size := qB b0
 have s_w1 : w.heap.size ≤ w1.heap.size := Xw1.size
 clear hW4
 have g0 := (hG.ext Xw1) q (by omega)
 have hq7 : (q : Int) < 8 := by omega
 have hq8 : ¬ (7 : Int) < (q : Int) := by omega
 generalize hN : (needN q : Int) = N at g0
 by_cases he : (ns.length : Int) = N
 ·
  have hx : ((ns.length : Int) != N) = false := by simpa using he
  have ha := actB_is (ns := ns) (q := q) (by omega) (he.trans hN.symm)
  replace ha := Lib.hid ha
  clear he hN
  refine wp_region_tail (S := fun w' => w'.cell? ⟨w.heap.size, 0, none⟩ = some (.int .i64 (q : Int)) ∧ w'.cell? ⟨w.heap.size, 1, none⟩ = some (.slice p ns.length r) ∧ w'.cell? ⟨0, q, none⟩ = some (.int .i64 N)) (fun i => decide (18 ≤ i)) qKr ⟨b0, b1, g0⟩ (fun hHeld => ?_)
  refine qTk (v := ?_) 0 rfl (.inl ⟨by rfl, ?_⟩) ?_
  rotate_left
  ·
   (intro w hSw; (try dsimp only at hSw); go_simp; try with_reducible rfl)
  try simp only [Act.put, qa, qb, qc, qD, qE, qF]
  refine qTk (v := ?_) 1 rfl (.inl ⟨by rfl, ?_⟩) ?_
  rotate_left
  ·
   (intro w hSw; (try dsimp only at hSw); go_simp; try with_reducible rfl)
  try simp only [Act.put, qa, qb, qc, qD, qE, qF]
  refine qTk (v := ?_) 2 rfl (.inl ⟨by rfl, ?_⟩) ?_
  rotate_left
  ·
   (intro w hSw; (try dsimp only at hSw); go_simp; try with_reducible rfl)
  try simp only [Act.put, qa, qb, qc, qD, qE, qF]
  refine qTk (v := ?_) 3 rfl (.inl ⟨by rfl, ?_⟩) ?_
  rotate_left
  ·
   (intro w hSw; (try dsimp only at hSw); go_simp; try with_reducible rfl)
  try simp only [Act.put, qa, qb, qc, qD, qE, qF]
  refine qTk (v := ?_) 4 rfl (.inl ⟨by rfl, ?_⟩) ?_
  rotate_left
  ·
   (intro w hSw; (try dsimp only at hSw); go_simp; try with_reducible rfl)
  try simp only [Act.put, qa, qb, qc, qD, qE, qF]
  refine qTk (v := ?_) 5 rfl (.inl ⟨by rfl, ?_⟩) ?_
  rotate_left
  ·
   (intro w hSw; (try dsimp only at hSw); go_simp; try with_reducible rfl)
  try simp only [Act.put, qa, qb, qc, qD, qE, qF]
  refine qTk (v := ?_) 6 rfl (.inl ⟨by rfl, ?_⟩) ?_
  rotate_left
  ·
   (intro w hSw; (try dsimp only at hSw); go_simp; try with_reducible rfl)
  try simp only [Act.put, qa, qb, qc, qD, qE, qF]
  refine qTk (v := ?_) 7 rfl (.inl ⟨by rfl, ?_⟩) ?_
  rotate_left
  ·
   (intro w hSw; (try dsimp only at hSw); go_simp; try with_reducible rfl)
  try simp only [Act.put, qa, qb, qc, qD, qE, qF]
  refine qTk (v := ?_) 8 rfl (.inl ⟨by rfl, ?_⟩) ?_
  rotate_left
  ·
   (intro w hSw; (try dsimp only at hSw); go_simp; try with_reducible rfl)
  try simp only [Act.put, qa, qb, qc, qD, qE, qF]
  refine qTk (v := ?_) 9 rfl (.inl ⟨by rfl, ?_⟩) ?_
  rotate_left
  ·
   (intro w hSw; (try dsimp only at hSw); go_simp; try with_reducible rfl)
  try simp only [Act.put, qa, qb, qc, qD, qE, qF]
  refine qTk (v := ?_) 10 rfl (.inl ⟨by rfl, ?_⟩) ?_
  rotate_left
  ·
   (intro w hSw; (try dsimp only at hSw); go_simp; try with_reducible rfl)
  try simp only [Act.put, qa, qb, qc, qD, qE, qF]
  refine qTk (v := ?_) 11 rfl (.inl ⟨by rfl, ?_⟩) ?_
  rotate_left
  ·
   (intro w hSw; (try dsimp only at hSw); go_simp; try with_reducible rfl)
  try simp only [Act.put, qa, qb, qc, qD, qE, qF]
  refine qTk (v := ?_) 12 rfl (.inl ⟨by rfl, ?_⟩) ?_
  rotate_left
  ·
   (intro w hSw; (try dsimp only at hSw); go_simp; try with_reducible rfl)
  try simp only [Act.put, qa, qb, qc, qD, qE, qF]
  refine qTk (v := ?_) 13 rfl (.inl ⟨by rfl, ?_⟩) ?_
  rotate_left
  ·
   (intro w hSw; (try dsimp only at hSw); go_simp; try with_reducible rfl)
  try simp only [Act.put, qa, qb, qc, qD, qE, qF]
  refine qTk (v := ?_) 14 rfl (.inl ⟨by rfl, ?_⟩) ?_
  rotate_left
  ·
   (intro w hSw; (try dsimp only at hSw); go_simp; try with_reducible rfl)
  try simp only [Act.put, qa, qb, qc, qD, qE, qF]
  refine qTk (v := ?_) 15 rfl (.inl ⟨by rfl, ?_⟩) ?_
  rotate_left
  ·
   (intro w hSw; (try dsimp only at hSw); go_simp; try with_reducible rfl)
  try simp only [Act.put, qa, qb, qc, qD, qE, qF]
  refine qTk (v := ?_) 16 rfl (.inl ⟨by rfl, ?_⟩) ?_
  rotate_left
  ·
   (intro w hSw; (try dsimp only at hSw); go_simp; try with_reducible rfl)
  try simp only [Act.put, qa, qb, qc, qD, qE, qF]
  refine qTk (v := ?_) 17 rfl (.inl ⟨by rfl, ?_⟩) ?_
  rotate_left
  ·
   (intro w hSw; (try dsimp only at hSw); go_simp; try with_reducible rfl)
  try simp only [Act.put, qa, qb, qc, qD, qE, qF]
  refine wpTail_done qKr ?_ _
  clear hHeld
  go_wp2_with fail
  refine (anyA_c ns _ _ _ (h.ext (Xw1.trans qXt))).mono ?_
  rintro e w9 ⟨rfl, rfl⟩
  go_wp2_with fail
  go_ret
  exact ⟨by rw [ha.out] <;> simp, Xw1.trans qXt⟩
 ·
  have hx : ((ns.length : Int) != N) = true := bne_iff_ne.mpr he
  have ha := actB_no (ns := ns) (q := q) (by rw [hN]; exact he)
  replace ha := Lib.hid ha
  clear he hN
  refine wp_region_tail (S := fun w' => w'.cell? ⟨w.heap.size, 0, none⟩ = some (.int .i64 (q : Int)) ∧ w'.cell? ⟨w.heap.size, 1, none⟩ = some (.slice p ns.length r) ∧ w'.cell? ⟨0, q, none⟩ = some (.int .i64 N)) (fun i => decide (18 ≤ i)) qKr ⟨b0, b1, g0⟩ (fun hHeld => ?_)
  refine qTk (v := ?_) 0 rfl (.inl ⟨by rfl, ?_⟩) ?_
  rotate_left
  ·
   (intro w hSw; (try dsimp only at hSw); go_simp; try with_reducible rfl)
  try simp only [Act.put, qa, qb, qc, qD, qE, qF]
  refine qTk (v := ?_) 1 rfl (.inl ⟨by rfl, ?_⟩) ?_
  rotate_left
  ·
   (intro w hSw; (try dsimp only at hSw); go_simp; try with_reducible rfl)
  try simp only [Act.put, qa, qb, qc, qD, qE, qF]
  refine qTk (v := ?_) 2 rfl (.inl ⟨by rfl, ?_⟩) ?_
  rotate_left
  ·
   (intro w hSw; (try dsimp only at hSw); go_simp; try with_reducible rfl)
  try simp only [Act.put, qa, qb, qc, qD, qE, qF]
  refine qTk (v := ?_) 3 rfl (.inl ⟨by rfl, ?_⟩) ?_
  rotate_left
  ·
   (intro w hSw; (try dsimp only at hSw); go_simp; try with_reducible rfl)
  try simp only [Act.put, qa, qb, qc, qD, qE, qF]
  refine qTk (v := ?_) 4 rfl (.inl ⟨by rfl, ?_⟩) ?_
  rotate_left
  ·
   (intro w hSw; (try dsimp only at hSw); go_simp; try with_reducible rfl)
  try simp only [Act.put, qa, qb, qc, qD, qE, qF]
  refine qTk (v := ?_) 5 rfl (.inl ⟨by rfl, ?_⟩) ?_
  rotate_left
  ·
   (intro w hSw; (try dsimp only at hSw); go_simp; try with_reducible rfl)
  try simp only [Act.put, qa, qb, qc, qD, qE, qF]
  refine qTk (v := ?_) 6 rfl (.inl ⟨by rfl, ?_⟩) ?_
  rotate_left
  ·
   (intro w hSw; (try dsimp only at hSw); go_simp; try with_reducible rfl)
  try simp only [Act.put, qa, qb, qc, qD, qE, qF]
  refine qTk (v := ?_) 7 rfl (.inl ⟨by rfl, ?_⟩) ?_
  rotate_left
  ·
   (intro w hSw; (try dsimp only at hSw); go_simp; try with_reducible rfl)
  try simp only [Act.put, qa, qb, qc, qD, qE, qF]
  refine qTk (v := ?_) 8 rfl (.inl ⟨by rfl, ?_⟩) ?_
  rotate_left
  ·
   (intro w hSw; (try dsimp only at hSw); go_simp; try with_reducible rfl)
  try simp only [Act.put, qa, qb, qc, qD, qE, qF]
  refine qTk (v := ?_) 9 rfl (.inl ⟨by rfl, ?_⟩) ?_
  rotate_left
  ·
   (intro w hSw; (try dsimp only at hSw); go_simp; try with_reducible rfl)
  try simp only [Act.put, qa, qb, qc, qD, qE, qF]
  refine qTk (v := ?_) 10 rfl (.inl ⟨by rfl, ?_⟩) ?_
  rotate_left
  ·
   (intro w hSw; (try dsimp only at hSw); go_simp; try with_reducible rfl)
  try simp only [Act.put, qa, qb, qc, qD, qE, qF]
  refine qTk (v := ?_) 11 rfl (.inl ⟨by rfl, ?_⟩) ?_
  rotate_left
  ·
   (intro w hSw; (try dsimp only at hSw); go_simp; try with_reducible rfl)
  try simp only [Act.put, qa, qb, qc, qD, qE, qF]
  refine qTk (v := ?_) 12 rfl (.inl ⟨by rfl, ?_⟩) ?_
  rotate_left
  ·
   (intro w hSw; (try dsimp only at hSw); go_simp; try with_reducible rfl)
  try simp only [Act.put, qa, qb, qc, qD, qE, qF]
  refine qTk (v := ?_) 13 rfl (.inl ⟨by rfl, ?_⟩) ?_
  rotate_left
  ·
   (intro w hSw; (try dsimp only at hSw); go_simp; try with_reducible rfl)
  try simp only [Act.put, qa, qb, qc, qD, qE, qF]
  refine qTk (v := ?_) 14 rfl (.inl ⟨by rfl, ?_⟩) ?_
  rotate_left
  ·
   (intro w hSw; (try dsimp only at hSw); go_simp; try with_reducible rfl)
  try simp only [Act.put, qa, qb, qc, qD, qE, qF]
  refine qTk (v := ?_) 15 rfl (.inl ⟨by rfl, ?_⟩) ?_
  rotate_left
  ·
   (intro w hSw; (try dsimp only at hSw); go_simp; try with_reducible rfl)
  try simp only [Act.put, qa, qb, qc, qD, qE, qF]
  refine qTk (v := ?_) 16 rfl (.inl ⟨by rfl, ?_⟩) ?_
  rotate_left
  ·
   (intro w hSw; (try dsimp only at hSw); go_simp; try with_reducible rfl)
  try simp only [Act.put, qa, qb, qc, qD, qE, qF]
  refine qTk (v := ?_) 17 rfl (.inl ⟨by rfl, ?_⟩) ?_
  rotate_left
  ·
   (intro w hSw; (try dsimp only at hSw); go_simp; try with_reducible rfl)
  try simp only [Act.put, qa, qb, qc, qD, qE, qF]
  refine wpTail_done qKr ?_ _
  clear hHeld
  go_wp2_with fail
  go_ret
  exact ⟨by rw [ha.out] <;> rfl, Xw1.trans qXt⟩
theorem nN_c {q : Nat} {N : Int} {f : Nat} {args : Array Value} {w : World} (hN : (needN q : Int) = N) (h : Calls Tryd.prog f args w (fun e w' => e = .returned (.int .i64 (needN q : Int)) ∧ Ext w w')) : Calls Tryd.prog f args w (fun e w' => e = .returned (.int .i64 N) ∧ Ext w w') := by subst hN; exact h
set_option maxHeartbeats 3200000 in
theorem validAct_out (kd : Int) (ns : List Int) (v : Value) (w : World) (lo : Nat) (hc : ¬ (0 ≤ kd ∧ kd ≤ 7)) (ha : actB kd ns = false) (h : Ints w lo v ns) :
  Calls Tryd.prog 11 #[.agg #[.int .i64 kd, v]] w (fun e w' => e = .returned (.bool (actB kd ns)) ∧ Ext w w') := by
 obtain ⟨p, r, rfl⟩ := h.form
 have hl := h.len
 go_enter Tryd.func11, Tryd.ntmps11
 go_wp2_with fail
 generalize hW5 : w.alloc (.cells #[.int .i64 kd, .slice p ns.length r] 25) = w1 at *
 have Lw1 : Ext w w1 := by subst hW5; exact qXt
 have Xw1 : Ext w w1 := by subst hW5; exact Lw1
 have b0 : w1.cell? ⟨w.heap.size, 0, none⟩ = some (.int .i64 kd) := by subst hW5; exact qCl
 have b1 : w1.cell? ⟨w.heap.size, 1, none⟩ = some (.slice p ns.length r) := by subst hW5; exact qCl
 have z_b : w.heap.size < w1.heap.size := qB b0
 have s_w1 : w.heap.size ≤ w1.heap.size := Xw1.size
 clear hW5
 refine wp_region_tail (S := fun w' => w'.cell? ⟨w.heap.size, 0, none⟩ = some (.int .i64 kd)) (fun i => decide (18 ≤ i)) qKr b0 (fun hHeld => ?_)
 refine qTk (v := ?_) 0 rfl (.inl ⟨by rfl, ?_⟩) ?_
 rotate_left
 ·
  (intro w hSw; (try dsimp only at hSw); go_simp; try with_reducible rfl)
 try simp only [Act.put, qa, qb, qc, qD, qE, qF]
 refine qTk (v := ?_) 1 rfl (.inl ⟨by rfl, ?_⟩) ?_
 rotate_left
 ·
  (intro w hSw; (try dsimp only at hSw); go_simp; try with_reducible rfl)
 try simp only [Act.put, qa, qb, qc, qD, qE, qF]
 refine wpTail_one (i := 2) qKr rfl rfl (fun K hK => ?_)
 try simp only [Act.put, qa, qb, qc, qD, qE, qF]
 go_simp
 refine (inR_f _ kd hc).mono ?_
 rintro e w2 ⟨rfl, xw2⟩
 have Lw2 : Ext w1 w2 := Ext.trans qXt xw2
 have Xw2 : Ext w w2 := Xw1.trans Lw2
 replace b0 := Lw2.cell b0
 replace b1 := Lw2.cell b1
 have z_b : w.heap.size < w2.heap.size := qB b0
 have s_w2 : w.heap.size ≤ w2.heap.size := Xw2.size
 clear xw2
 refine hK.out _ _ b0 (fun hHeld => ?_)
 clear hK K
 try simp only [Act.put, qa, qb, qc, qD, qE, qF]
 refine qTk (v := ?_) 3 rfl (.inl ⟨by rfl, ?_⟩) ?_
 rotate_left
 ·
  (intro w hSw; (try dsimp only at hSw); go_simp; try with_reducible rfl)
 try simp only [Act.put, qa, qb, qc, qD, qE, qF]
 refine qTs 4 rfl (.inr ⟨by rfl, rfl⟩) ?_
 try simp only [Act.put, qa, qb, qc, qD, qE, qF]
 refine qTs 5 rfl (.inr ⟨by rfl, rfl⟩) ?_
 try simp only [Act.put, qa, qb, qc, qD, qE, qF]
 refine qTs 6 rfl (.inr ⟨by rfl, rfl⟩) ?_
 try simp only [Act.put, qa, qb, qc, qD, qE, qF]
 refine qTs 7 rfl (.inr ⟨by rfl, rfl⟩) ?_
 try simp only [Act.put, qa, qb, qc, qD, qE, qF]
 refine qTs 8 rfl (.inr ⟨by rfl, rfl⟩) ?_
 try simp only [Act.put, qa, qb, qc, qD, qE, qF]
 refine qTs 9 rfl (.inr ⟨by rfl, rfl⟩) ?_
 try simp only [Act.put, qa, qb, qc, qD, qE, qF]
 refine qTs 10 rfl (.inr ⟨by rfl, rfl⟩) ?_
 try simp only [Act.put, qa, qb, qc, qD, qE, qF]
 refine qTk (v := ?_) 11 rfl (.inl ⟨by rfl, ?_⟩) ?_
 rotate_left
 ·
  (intro w hSw; (try dsimp only at hSw); go_simp; try with_reducible rfl)
 try simp only [Act.put, qa, qb, qc, qD, qE, qF]
 refine qTk (v := ?_) 12 rfl (.inl ⟨by rfl, ?_⟩) ?_
 rotate_left
 ·
  (intro w hSw; (try dsimp only at hSw); go_simp; try with_reducible rfl)
 try simp only [Act.put, qa, qb, qc, qD, qE, qF]
 refine qTs 13 rfl (.inr ⟨by rfl, rfl⟩) ?_
 try simp only [Act.put, qa, qb, qc, qD, qE, qF]
 refine qTs 14 rfl (.inr ⟨by rfl, rfl⟩) ?_
 try simp only [Act.put, qa, qb, qc, qD, qE, qF]
 refine qTs 15 rfl (.inr ⟨by rfl, rfl⟩) ?_
 try simp only [Act.put, qa, qb, qc, qD, qE, qF]
 refine qTk (v := ?_) 16 rfl (.inl ⟨by rfl, ?_⟩) ?_
 rotate_left
 ·
  (intro w hSw; (try dsimp only at hSw); go_simp; try with_reducible rfl)
 try simp only [Act.put, qa, qb, qc, qD, qE, qF]
 refine qTk (v := ?_) 17 rfl (.inl ⟨by rfl, ?_⟩) ?_
 rotate_left
 ·
  (intro w hSw; (try dsimp only at hSw); go_simp; try with_reducible rfl)
 try simp only [Act.put, qa, qb, qc, qD, qE, qF]
 refine wpTail_done qKr ?_ _
 clear hHeld
 go_wp2_with fail
 go_ret
 exact ⟨by rw [ha] <;> rfl, Xw2.trans qXt⟩
set_option maxHeartbeats 3200000 in
theorem validAct_in (q : Nat) (ns : List Int) (v : Value) (w : World) (lo : Nat) (hq : q ≤ 7) (h : Ints w lo v ns) :
  Calls Tryd.prog 11 #[.agg #[.int .i64 (q : Int), v]] w (fun e w' => e = .returned (.bool (actB (q : Int) ns)) ∧ Ext w w') := by
 obtain ⟨p, r, rfl⟩ := h.form
 have hl := h.len
 go_enter Tryd.func11, Tryd.ntmps11
 go_wp2_with fail
 generalize hW6 : w.alloc (.cells #[.int .i64 (q : Int), .slice p ns.length r] 25) = w1 at *
 have Lw1 : Ext w w1 := by subst hW6; exact qXt
 have Xw1 : Ext w w1 := by subst hW6; exact Lw1
 have b0 : w1.cell? ⟨w.heap.size, 0, none⟩ = some (.int .i64 (q : Int)) := by subst hW6; exact qCl
 have b1 : w1.cell? ⟨w.heap.size, 1, none⟩ = some (.slice p ns.length r) := by subst hW6; exact qCl
 have z_b : w.heap.size < w1.heap.size := qB b0
 have s_w1 : w.heap.size ≤ w1.heap.size := Xw1.size
 clear hW6
 by_cases he : (ns.length : Int) = (needN q : Int)
 ·
  have ha := actB_is (ns := ns) (q := q) (by omega) he
  replace ha := Lib.hid ha
  generalize hN : (needN q : Int) = N at he
  have hx : ((ns.length : Int) == N) = true := by simpa using he
  clear he
  replace hN := Lib.hid hN
  refine wp_region_tail (S := fun w' => w'.cell? ⟨w.heap.size, 0, none⟩ = some (.int .i64 (q : Int)) ∧ w'.cell? ⟨w.heap.size, 1, none⟩ = some (.slice p ns.length r)) (fun i => decide (18 ≤ i)) qKr ⟨b0, b1⟩ (fun hHeld => ?_)
  refine qTk (v := ?_) 0 rfl (.inl ⟨by rfl, ?_⟩) ?_
  rotate_left
  ·
   (intro w hSw; (try dsimp only at hSw); go_simp; try with_reducible rfl)
  try simp only [Act.put, qa, qb, qc, qD, qE, qF]
  refine qTk (v := ?_) 1 rfl (.inl ⟨by rfl, ?_⟩) ?_
  rotate_left
  ·
   (intro w hSw; (try dsimp only at hSw); go_simp; try with_reducible rfl)
  try simp only [Act.put, qa, qb, qc, qD, qE, qF]
  refine wpTail_one (i := 2) qKr rfl rfl (fun K hK => ?_)
  try simp only [Act.put, qa, qb, qc, qD, qE, qF]
  go_simp
  refine (inR_t _ (q : Int) ⟨by omega, by omega⟩).mono ?_
  rintro e w2 ⟨rfl, xw2⟩
  have Lw2 : Ext w1 w2 := Ext.trans qXt xw2
  have Xw2 : Ext w w2 := Xw1.trans Lw2
  replace b0 := Lw2.cell b0
  replace b1 := Lw2.cell b1
  have z_b : w.heap.size < w2.heap.size := qB b0
  have s_w2 : w.heap.size ≤ w2.heap.size := Xw2.size
  clear xw2
  refine hK.out _ _ ⟨b0, b1⟩ (fun hHeld => ?_)
  clear hK K
  try simp only [Act.put, qa, qb, qc, qD, qE, qF]
  refine qTk (v := ?_) 3 rfl (.inl ⟨by rfl, ?_⟩) ?_
  rotate_left
  ·
   (intro w hSw; (try dsimp only at hSw); go_simp; try with_reducible rfl)
  try simp only [Act.put, qa, qb, qc, qD, qE, qF]
  refine qTk (v := ?_) 4 rfl (.inl ⟨by rfl, ?_⟩) ?_
  rotate_left
  ·
   (intro w hSw; (try dsimp only at hSw); go_simp; try with_reducible rfl)
  try simp only [Act.put, qa, qb, qc, qD, qE, qF]
  refine qTk (v := ?_) 5 rfl (.inl ⟨by rfl, ?_⟩) ?_
  rotate_left
  ·
   (intro w hSw; (try dsimp only at hSw); go_simp; try with_reducible rfl)
  try simp only [Act.put, qa, qb, qc, qD, qE, qF]
  refine qTk (v := ?_) 6 rfl (.inl ⟨by rfl, ?_⟩) ?_
  rotate_left
  ·
   (intro w hSw; (try dsimp only at hSw); go_simp; try with_reducible rfl)
  try simp only [Act.put, qa, qb, qc, qD, qE, qF]
  refine qTk (v := ?_) 7 rfl (.inl ⟨by rfl, ?_⟩) ?_
  rotate_left
  ·
   (intro w hSw; (try dsimp only at hSw); go_simp; try with_reducible rfl)
  try simp only [Act.put, qa, qb, qc, qD, qE, qF]
  refine qTk (v := ?_) 8 rfl (.inl ⟨by rfl, ?_⟩) ?_
  rotate_left
  ·
   (intro w hSw; (try dsimp only at hSw); go_simp; try with_reducible rfl)
  try simp only [Act.put, qa, qb, qc, qD, qE, qF]
  refine wpTail_one (i := 9) qKr rfl rfl (fun K hK => ?_)
  try simp only [Act.put, qa, qb, qc, qD, qE, qF]
  go_simp
  refine (nN_c hN.out (needs_c q _ hq)).mono ?_
  rintro e w3 ⟨rfl, xw3⟩
  have Lw3 : Ext w2 w3 := Ext.trans qXt xw3
  have Xw3 : Ext w w3 := Xw2.trans Lw3
  replace b0 := Lw3.cell b0
  replace b1 := Lw3.cell b1
  have z_b : w.heap.size < w3.heap.size := qB b0
  have s_w3 : w.heap.size ≤ w3.heap.size := Xw3.size
  clear xw3
  refine hK.out _ _ ⟨b0, b1⟩ (fun hHeld => ?_)
  clear hK K
  try simp only [Act.put, qa, qb, qc, qD, qE, qF]
  refine qTk (v := ?_) 10 rfl (.inl ⟨by rfl, ?_⟩) ?_
  rotate_left
  ·
   (intro w hSw; (try dsimp only at hSw); go_simp; try with_reducible rfl)
  try simp only [Act.put, qa, qb, qc, qD, qE, qF]
  refine qTk (v := ?_) 11 rfl (.inl ⟨by rfl, ?_⟩) ?_
  rotate_left
  ·
   (intro w hSw; (try dsimp only at hSw); go_simp; try with_reducible rfl)
  try simp only [Act.put, qa, qb, qc, qD, qE, qF]
  refine qTk (v := ?_) 12 rfl (.inl ⟨by rfl, ?_⟩) ?_
  rotate_left
  ·
   (intro w hSw; (try dsimp only at hSw); go_simp; try with_reducible rfl)
  try simp only [Act.put, qa, qb, qc, qD, qE, qF]
  refine qTk (v := ?_) 13 rfl (.inl ⟨by rfl, ?_⟩) ?_
  rotate_left
  ·
   (intro w hSw; (try dsimp only at hSw); go_simp; try with_reducible rfl)
  try simp only [Act.put, qa, qb, qc, qD, qE, qF]
  refine qTk (v := ?_) 14 rfl (.inl ⟨by rfl, ?_⟩) ?_
  rotate_left
  ·
   (intro w hSw; (try dsimp only at hSw); go_simp; try with_reducible rfl)
  try simp only [Act.put, qa, qb, qc, qD, qE, qF]
  refine wpTail_one (i := 15) qKr rfl rfl (fun K hK => ?_)
  try simp only [Act.put, qa, qb, qc, qD, qE, qF]
  go_simp
  refine (allI_x ns _ _ _ (h.ext (by first | assumption | exact qXt))).mono ?_
  rintro e w4 ⟨rfl, xw4⟩
  have Lw4 : Ext w3 w4 := Ext.trans qXt xw4
  have Xw4 : Ext w w4 := Xw3.trans Lw4
  replace b0 := Lw4.cell b0
  replace b1 := Lw4.cell b1
  have z_b : w.heap.size < w4.heap.size := qB b0
  have s_w4 : w.heap.size ≤ w4.heap.size := Xw4.size
  clear xw4
  refine hK.out _ _ ⟨b0, b1⟩ (fun hHeld => ?_)
  clear hK K
  try simp only [Act.put, qa, qb, qc, qD, qE, qF]
  refine qTk (v := ?_) 16 rfl (.inl ⟨by rfl, ?_⟩) ?_
  rotate_left
  ·
   (intro w hSw; (try dsimp only at hSw); go_simp; try with_reducible rfl)
  try simp only [Act.put, qa, qb, qc, qD, qE, qF]
  refine qTk (v := ?_) 17 rfl (.inl ⟨by rfl, ?_⟩) ?_
  rotate_left
  ·
   (intro w hSw; (try dsimp only at hSw); go_simp; try with_reducible rfl)
  try simp only [Act.put, qa, qb, qc, qD, qE, qF]
  refine wpTail_done qKr ?_ _
  clear hHeld
  go_wp2_with fail
  go_ret
  exact ⟨by rw [ha.out] <;> rfl, Xw4.trans qXt⟩
 ·
  have ha := actB_no (ns := ns) (q := q) he
  replace ha := Lib.hid ha
  generalize hN : (needN q : Int) = N at he
  have hx : ((ns.length : Int) == N) = false := by simpa using he
  clear he
  replace hN := Lib.hid hN
  refine wp_region_tail (S := fun w' => w'.cell? ⟨w.heap.size, 0, none⟩ = some (.int .i64 (q : Int)) ∧ w'.cell? ⟨w.heap.size, 1, none⟩ = some (.slice p ns.length r)) (fun i => decide (18 ≤ i)) qKr ⟨b0, b1⟩ (fun hHeld => ?_)
  refine qTk (v := ?_) 0 rfl (.inl ⟨by rfl, ?_⟩) ?_
  rotate_left
  ·
   (intro w hSw; (try dsimp only at hSw); go_simp; try with_reducible rfl)
  try simp only [Act.put, qa, qb, qc, qD, qE, qF]
  refine qTk (v := ?_) 1 rfl (.inl ⟨by rfl, ?_⟩) ?_
  rotate_left
  ·
   (intro w hSw; (try dsimp only at hSw); go_simp; try with_reducible rfl)
  try simp only [Act.put, qa, qb, qc, qD, qE, qF]
  refine wpTail_one (i := 2) qKr rfl rfl (fun K hK => ?_)
  try simp only [Act.put, qa, qb, qc, qD, qE, qF]
  go_simp
  refine (inR_t _ (q : Int) ⟨by omega, by omega⟩).mono ?_
  rintro e w2 ⟨rfl, xw2⟩
  have Lw2 : Ext w1 w2 := Ext.trans qXt xw2
  have Xw2 : Ext w w2 := Xw1.trans Lw2
  replace b0 := Lw2.cell b0
  replace b1 := Lw2.cell b1
  have z_b : w.heap.size < w2.heap.size := qB b0
  have s_w2 : w.heap.size ≤ w2.heap.size := Xw2.size
  clear xw2
  refine hK.out _ _ ⟨b0, b1⟩ (fun hHeld => ?_)
  clear hK K
  try simp only [Act.put, qa, qb, qc, qD, qE, qF]
  refine qTk (v := ?_) 3 rfl (.inl ⟨by rfl, ?_⟩) ?_
  rotate_left
  ·
   (intro w hSw; (try dsimp only at hSw); go_simp; try with_reducible rfl)
  try simp only [Act.put, qa, qb, qc, qD, qE, qF]
  refine qTk (v := ?_) 4 rfl (.inl ⟨by rfl, ?_⟩) ?_
  rotate_left
  ·
   (intro w hSw; (try dsimp only at hSw); go_simp; try with_reducible rfl)
  try simp only [Act.put, qa, qb, qc, qD, qE, qF]
  refine qTk (v := ?_) 5 rfl (.inl ⟨by rfl, ?_⟩) ?_
  rotate_left
  ·
   (intro w hSw; (try dsimp only at hSw); go_simp; try with_reducible rfl)
  try simp only [Act.put, qa, qb, qc, qD, qE, qF]
  refine qTk (v := ?_) 6 rfl (.inl ⟨by rfl, ?_⟩) ?_
  rotate_left
  ·
   (intro w hSw; (try dsimp only at hSw); go_simp; try with_reducible rfl)
  try simp only [Act.put, qa, qb, qc, qD, qE, qF]
  refine qTk (v := ?_) 7 rfl (.inl ⟨by rfl, ?_⟩) ?_
  rotate_left
  ·
   (intro w hSw; (try dsimp only at hSw); go_simp; try with_reducible rfl)
  try simp only [Act.put, qa, qb, qc, qD, qE, qF]
  refine qTk (v := ?_) 8 rfl (.inl ⟨by rfl, ?_⟩) ?_
  rotate_left
  ·
   (intro w hSw; (try dsimp only at hSw); go_simp; try with_reducible rfl)
  try simp only [Act.put, qa, qb, qc, qD, qE, qF]
  refine wpTail_one (i := 9) qKr rfl rfl (fun K hK => ?_)
  try simp only [Act.put, qa, qb, qc, qD, qE, qF]
  go_simp
  refine (nN_c hN.out (needs_c q _ hq)).mono ?_
  rintro e w3 ⟨rfl, xw3⟩
  have Lw3 : Ext w2 w3 := Ext.trans qXt xw3
  have Xw3 : Ext w w3 := Xw2.trans Lw3
  replace b0 := Lw3.cell b0
  replace b1 := Lw3.cell b1
  have z_b : w.heap.size < w3.heap.size := qB b0
  have s_w3 : w.heap.size ≤ w3.heap.size := Xw3.size
  clear xw3
  refine hK.out _ _ ⟨b0, b1⟩ (fun hHeld => ?_)
  clear hK K
  try simp only [Act.put, qa, qb, qc, qD, qE, qF]
  refine qTk (v := ?_) 10 rfl (.inl ⟨by rfl, ?_⟩) ?_
  rotate_left
  ·
   (intro w hSw; (try dsimp only at hSw); go_simp; try with_reducible rfl)
  try simp only [Act.put, qa, qb, qc, qD, qE, qF]
  refine qTk (v := ?_) 11 rfl (.inl ⟨by rfl, ?_⟩) ?_
  rotate_left
  ·
   (intro w hSw; (try dsimp only at hSw); go_simp; try with_reducible rfl)
  try simp only [Act.put, qa, qb, qc, qD, qE, qF]
  refine qTk (v := ?_) 12 rfl (.inl ⟨by rfl, ?_⟩) ?_
  rotate_left
  ·
   (intro w hSw; (try dsimp only at hSw); go_simp; try with_reducible rfl)
  try simp only [Act.put, qa, qb, qc, qD, qE, qF]
  refine qTs 13 rfl (.inr ⟨by rfl, rfl⟩) ?_
  try simp only [Act.put, qa, qb, qc, qD, qE, qF]
  refine qTs 14 rfl (.inr ⟨by rfl, rfl⟩) ?_
  try simp only [Act.put, qa, qb, qc, qD, qE, qF]
  refine qTs 15 rfl (.inr ⟨by rfl, rfl⟩) ?_
  try simp only [Act.put, qa, qb, qc, qD, qE, qF]
  refine qTk (v := ?_) 16 rfl (.inl ⟨by rfl, ?_⟩) ?_
  rotate_left
  ·
   (intro w hSw; (try dsimp only at hSw); go_simp; try with_reducible rfl)
  try simp only [Act.put, qa, qb, qc, qD, qE, qF]
  refine qTk (v := ?_) 17 rfl (.inl ⟨by rfl, ?_⟩) ?_
  rotate_left
  ·
   (intro w hSw; (try dsimp only at hSw); go_simp; try with_reducible rfl)
  try simp only [Act.put, qa, qb, qc, qD, qE, qF]
  refine wpTail_done qKr ?_ _
  clear hHeld
  go_wp2_with fail
  go_ret
  exact ⟨by rw [ha.out] <;> rfl, Xw3.trans qXt⟩
theorem isAct_c (kd : Int) (ns : List Int) (v : Value) (w : World) (lo : Nat) (hG : Glob w) (h : Ints w lo v ns) :
  Calls Tryd.prog 10 #[.agg #[.int .i64 kd, v]] w (fun e w' => e = .returned (.bool (actB kd ns)) ∧ Ext w w') := by
 by_cases h1 : kd < 0
 ·
  exact isAct_lo kd ns v w lo h1 h
 ·
  by_cases h2 : 7 < kd
  ·
   exact isAct_hi kd ns v w lo h2 h1 h
  ·
   obtain ⟨q, rfl⟩ : ∃ q : Nat, kd = q := ⟨kd.toNat, by omega⟩
   exact isAct_in q ns v w lo (by omega) hG h
theorem validAct_c (kd : Int) (ns : List Int) (v : Value) (w : World) (lo : Nat) (h : Ints w lo v ns) :
  Calls Tryd.prog 11 #[.agg #[.int .i64 kd, v]] w (fun e w' => e = .returned (.bool (actB kd ns)) ∧ Ext w w') := by
 by_cases h1 : 0 ≤ kd ∧ kd ≤ 7
 ·
  obtain ⟨q, rfl⟩ : ∃ q : Nat, kd = q := ⟨kd.toNat, by omega⟩
  exact validAct_in q ns v w lo (by omega) h
 ·
  exact validAct_out kd ns v w lo h1 ((Int.lt_or_le kd 0).elim (fun h2 => actB_lo h2) (fun h2 => actB_hi (by omega))) h
set_option maxHeartbeats 1600000 in
theorem implValidAct_c (kd : Int) (ns : List Int) (v : Value) (w : World) (lo : Nat) (hG : Glob w) (h : Ints w lo v ns) :
  Calls Tryd.prog 5 #[.agg #[.int .i64 kd, v]] w (fun e w' => e = .returned (.bool (actB kd ns)) ∧ Ext w w') := by
 obtain ⟨p, r, rfl⟩ := h.form
 go_enter Tryd.func5, Tryd.ntmps5
 go_wp2_with fail
 refine (isAct_c kd ns _ _ lo (hG.ext qXt) (h.ext qXt)).mono ?_
 rintro e w1 ⟨rfl, x1⟩
 have X1 : Ext w w1 := Ext.trans qXt x1
 go_wp2_with fail
 go_ret
 exact ⟨rfl, X1⟩
set_option maxHeartbeats 1600000 in
theorem specValidAct_c (kd : Int) (ns : List Int) (v : Value) (w : World) (lo : Nat) (h : Ints w lo v ns) :
  Calls Tryd.prog 6 #[.agg #[.int .i64 kd, v]] w (fun e w' => e = .returned (.bool (actB kd ns)) ∧ Ext w w') := by
 obtain ⟨p, r, rfl⟩ := h.form
 go_enter Tryd.func6, Tryd.ntmps6
 go_wp2_with fail
 refine (validAct_c kd ns _ _ lo (h.ext qXt)).mono ?_
 rintro e w1 ⟨rfl, x1⟩
 have X1 : Ext w w1 := Ext.trans qXt x1
 go_wp2_with fail
 go_ret
 exact ⟨rfl, X1⟩

end Go.Proofs.YtgklaobfikbiiaaDoor

/- FnValidAct returns true for all bytes: no condition but what the program's own list holds. -/
namespace Go.Proofs.YtgklaobfikbiiaaDoor
open Go.RowKit
set_option linter.unusedVariables false
set_option maxRecDepth 100000

theorem actB_nil (kd : Int) : actB kd [] = false := by
  unfold actB
  rw [decide_eq_false (by have := needN_pos kd.toNat; intro h; have := h.2.2; simp at this; omega)]; rfl
theorem actB_zero {kd : Int} {ns : List Int} (h : actB kd ns = true) : actB kd (List.replicate ns.length 0) = true := by
  unfold actB at h ⊢
  rw [Bool.and_eq_true] at h
  rw [Bool.and_eq_true, List.length_replicate]
  refine ⟨h.1, ?_⟩
  rw [List.all_eq_true]
  intro x hx
  rw [List.eq_of_mem_replicate hx]; rfl
theorem vTo {kd : Int} {ns : List Int} {b : Bool} {f : Nat} {args : Array Value} {w : World} (hb : actB kd ns = b) (h : Calls Tryd.prog f args w (fun e w' => e = .returned (.bool (actB kd ns)) ∧ Ext w w')) : Calls Tryd.prog f args w (fun e w' => e = .returned (.bool b) ∧ Ext w w') := by subst hb; exact h
set_option maxHeartbeats 6400000 in
theorem lawFnValidAct_c (a : Option Addr) (n cap : Nat) (w : World) (hb : BysIn w a n cap) (hG : Glob w) :
    Calls Tryd.prog 3 #[.slice a n cap] w fun e w' => e = .returned (.bool true) ∧ Ext w w' := by
  have hcm := hb.1
  have hcm2 := hb.2.1
  unfold maxLen at hcm2
  by_cases hc1 : (1048576 : Int) < (n : Int)
  · go_enter Tryd.func3, Tryd.ntmps3
    go_wp2_with fail
    go_ret
    exact ⟨rfl, qXo⟩
  · skip
    go_enter Tryd.func3, Tryd.ntmps3
    go_wp2_with fail
    refine (drawValidAct_c a n cap _ (hb.ext qXt)).mono ?_
    rintro e w1 ⟨kd, ns, p, r, rfl, hkd, hns, i1, xw1⟩
    have Lw1 : Ext w w1 := Ext.trans qXt xw1
    have Xw1 : Ext w w1 := Lw1
    have s_w1 : w.heap.size ≤ w1.heap.size := Xw1.size
    clear xw1
    clear hb hcm hcm2
    go_wp2_with fail
    generalize hW1 : w1.alloc (.cells #[.int .i64 kd, .slice p ns.length r] 25) = w2 at *
    have Lw2 : Ext w1 w2 := by subst hW1; exact qXt
    have Xw2 : Ext w w2 := Xw1.trans Lw2
    have b0 : w2.cell? ⟨w1.heap.size, 0, none⟩ = some (.int .i64 kd) := by subst hW1; exact qCl
    have b1 : w2.cell? ⟨w1.heap.size, 1, none⟩ = some (.slice p ns.length r) := by subst hW1; exact qCl
    have z_b : w1.heap.size < w2.heap.size := qB b0
    replace i1 := i1.ext Lw2
    have s_w2 : w.heap.size ≤ w2.heap.size := Xw2.size
    clear hW1
    cases hv : actB kd ns
    · replace hv := Lib.hid hv
      refine (vTo hv.out (implValidAct_c kd ns _ _ _ (hG.ext (Xw2.trans qXt)) (i1.ext qXt))).mono ?_
      rintro e w3 ⟨rfl, xw3⟩
      have Lw3 : Ext w2 w3 := Ext.trans qXt xw3
      have Xw3 : Ext w w3 := Xw2.trans Lw3
      replace b0 := Lw3.cell b0
      replace b1 := Lw3.cell b1
      have z_b : w1.heap.size < w3.heap.size := qB b0
      replace i1 := i1.ext Lw3
      have s_w3 : w.heap.size ≤ w3.heap.size := Xw3.size
      clear xw3
      go_wp2_with fail
      refine (vTo hv.out (specValidAct_c kd ns _ _ _ (i1.ext qXt))).mono ?_
      rintro e w4 ⟨rfl, xw4⟩
      have Lw4 : Ext w3 w4 := Ext.trans qXt xw4
      have Xw4 : Ext w w4 := Xw3.trans Lw4
      replace b0 := Lw4.cell b0
      replace b1 := Lw4.cell b1
      have z_b : w1.heap.size < w4.heap.size := qB b0
      replace i1 := i1.ext Lw4
      have s_w4 : w.heap.size ≤ w4.heap.size := Xw4.size
      clear xw4
      go_wp2_with fail
      refine (vTo hv.out (specValidAct_c kd ns _ _ _ (i1.ext qXt))).mono ?_
      rintro e w5 ⟨rfl, xw5⟩
      have Lw5 : Ext w4 w5 := Ext.trans qXt xw5
      have Xw5 : Ext w w5 := Xw4.trans Lw5
      replace b0 := Lw5.cell b0
      replace b1 := Lw5.cell b1
      have z_b : w1.heap.size < w5.heap.size := qB b0
      replace i1 := i1.ext Lw5
      have s_w5 : w.heap.size ≤ w5.heap.size := Xw5.size
      clear xw5
      go_wp2_with fail
      go_ret
      exact ⟨rfl, Xw5.trans qXt⟩
    · replace hv := Lib.hid hv
      refine (vTo hv.out (implValidAct_c kd ns _ _ _ (hG.ext (Xw2.trans qXt)) (i1.ext qXt))).mono ?_
      rintro e w3 ⟨rfl, xw3⟩
      have Lw3 : Ext w2 w3 := Ext.trans qXt xw3
      have Xw3 : Ext w w3 := Xw2.trans Lw3
      replace b0 := Lw3.cell b0
      replace b1 := Lw3.cell b1
      have z_b : w1.heap.size < w3.heap.size := qB b0
      replace i1 := i1.ext Lw3
      have s_w3 : w.heap.size ≤ w3.heap.size := Xw3.size
      clear xw3
      go_wp2_with fail
      refine (vTo hv.out (specValidAct_c kd ns _ _ _ (i1.ext qXt))).mono ?_
      rintro e w4 ⟨rfl, xw4⟩
      have Lw4 : Ext w3 w4 := Ext.trans qXt xw4
      have Xw4 : Ext w w4 := Xw3.trans Lw4
      replace b0 := Lw4.cell b0
      replace b1 := Lw4.cell b1
      have z_b : w1.heap.size < w4.heap.size := qB b0
      replace i1 := i1.ext Lw4
      have s_w4 : w.heap.size ≤ w4.heap.size := Xw4.size
      clear xw4
      have h0 : actB kd [] = false := actB_nil kd
      have h9 := actB_zero hv.out
      replace h0 := Lib.hid h0
      replace h9 := Lib.hid h9
      have hmk := mk_ints ns.length (by omega)
      go_wp2_with fail
      refine wp_region_held_drew (S := fun w' => w'.cell? ⟨w1.heap.size, 0, none⟩ = some (.int .i64 kd) ∧ w'.cell? ⟨w1.heap.size, 1, none⟩ = some (.slice p ns.length r)) qKr ⟨b0, b1⟩ (fun hHeld => ?_)
      refine qHk (v := ?_) 0 rfl (.inl ⟨by rfl, ?_⟩) ?_
      rotate_left
      · (intro w hSw; (try dsimp only at hSw); go_simp; try with_reducible rfl)
      try simp only [Act.put, qa, qb, qc, qD, qE, qF]
      refine qHk (v := ?_) 1 rfl (.inl ⟨by rfl, ?_⟩) ?_
      rotate_left
      · (intro w hSw; (try dsimp only at hSw); go_simp; try with_reducible rfl)
      try simp only [Act.put, qa, qb, qc, qD, qE, qF]
      refine qHk (v := ?_) 2 rfl (.inl ⟨by rfl, ?_⟩) ?_
      rotate_left
      · (intro w hSw; (try dsimp only at hSw); go_simp; try with_reducible rfl)
      try simp only [Act.put, qa, qb, qc, qD, qE, qF]
      refine qHr 3 rfl (fun K hK => ?_)
      try simp only [Act.put, qa, qb, qc, qD, qE, qF]
      go_simp
      refine (vTo h0.out (implValidAct_c kd [] (.slice none 0 0) _ 0 (hG.ext (by first | exact Xw4 | exact Xw4.trans qXt)) (Ints.nil _ _ _ _ (by simp) (fun _ => rfl)))).mono ?_
      rintro e w5 ⟨rfl, xw5⟩
      have Lw5 : Ext w4 w5 := Ext.trans qXt xw5
      have Xw5 : Ext w w5 := Xw4.trans Lw5
      replace b0 := Lw5.cell b0
      replace b1 := Lw5.cell b1
      have z_b : w1.heap.size < w5.heap.size := qB b0
      replace i1 := i1.ext Lw5
      have s_w5 : w.heap.size ≤ w5.heap.size := Xw5.size
      clear xw5
      refine hK.out _ _ ⟨b0, b1⟩ (fun hHeld => ?_)
      clear hK K
      try simp only [Act.put, qa, qb, qc, qD, qE, qF]
      refine qHk (v := ?_) 4 rfl (.inl ⟨by rfl, ?_⟩) ?_
      rotate_left
      · (intro w hSw; (try dsimp only at hSw); go_simp; try with_reducible rfl)
      try simp only [Act.put, qa, qb, qc, qD, qE, qF]
      refine qHk (v := ?_) 5 rfl (.inl ⟨by rfl, ?_⟩) ?_
      rotate_left
      · (intro w hSw; (try dsimp only at hSw); go_simp; try with_reducible rfl)
      try simp only [Act.put, qa, qb, qc, qD, qE, qF]
      refine qHk (v := ?_) 6 rfl (.inl ⟨by rfl, ?_⟩) ?_
      rotate_left
      · (intro w hSw; (try dsimp only at hSw); go_simp; try with_reducible rfl)
      try simp only [Act.put, qa, qb, qc, qD, qE, qF]
      refine qHk (v := ?_) 7 rfl (.inl ⟨by rfl, ?_⟩) ?_
      rotate_left
      · (intro w hSw; (try dsimp only at hSw); go_simp; try with_reducible rfl)
      try simp only [Act.put, qa, qb, qc, qD, qE, qF]
      refine qHk (v := ?_) 8 rfl (.inl ⟨by rfl, ?_⟩) ?_
      rotate_left
      · (intro w hSw; (try dsimp only at hSw); go_simp; try with_reducible rfl)
      try simp only [Act.put, qa, qb, qc, qD, qE, qF]
      refine qHk (v := ?_) 9 rfl (.inl ⟨by rfl, ?_⟩) ?_
      rotate_left
      · (intro w hSw; (try dsimp only at hSw); go_simp; try with_reducible rfl)
      try simp only [Act.put, qa, qb, qc, qD, qE, qF]
      refine qHk (v := ?_) 10 rfl (.inl ⟨by rfl, ?_⟩) ?_
      rotate_left
      · (intro w hSw; (try dsimp only at hSw); go_simp; try with_reducible rfl)
      try simp only [Act.put, qa, qb, qc, qD, qE, qF]
      refine qHr 11 rfl (fun K hK => ?_)
      try simp only [Act.put, qa, qb, qc, qD, qE, qF]
      go_simp
      skip
      refine hK.out _ _ ⟨(show Ext w5 _ from qXt).cell b0, (show Ext w5 _ from qXt).cell b1⟩ (fun hHeld => ?_)
      clear hK K
      try simp only [Act.put, qa, qb, qc, qD, qE, qF]
      refine qHk (v := ?_) 12 rfl (.inl ⟨by rfl, ?_⟩) ?_
      rotate_left
      · (intro w hSw; (try dsimp only at hSw); go_simp; try with_reducible rfl)
      try simp only [Act.put, qa, qb, qc, qD, qE, qF]
      refine qHr 13 rfl (fun K hK => ?_)
      try simp only [Act.put, qa, qb, qc, qD, qE, qF]
      go_simp
      refine (vTo h9.out (implValidAct_c kd (List.replicate ns.length 0) _ _ 0 (hG.ext (by first | assumption | exact qXt)) (by simpa using ((OwnI.made _ 0 ns.length (Nat.zero_le _) (by omega)).ints (by simp; omega))))).mono ?_
      rintro e w6 ⟨rfl, xw6⟩
      have Lw6 : Ext w5 w6 := Ext.trans qXt xw6
      have Xw6 : Ext w w6 := Xw5.trans Lw6
      replace b0 := Lw6.cell b0
      replace b1 := Lw6.cell b1
      have z_b : w1.heap.size < w6.heap.size := qB b0
      replace i1 := i1.ext Lw6
      have s_w6 : w.heap.size ≤ w6.heap.size := Xw6.size
      clear xw6
      refine hK.out _ _ ⟨b0, b1⟩ (fun hHeld => ?_)
      clear hK K
      try simp only [Act.put, qa, qb, qc, qD, qE, qF]
      refine qHk (v := ?_) 14 rfl (.inl ⟨by rfl, ?_⟩) ?_
      rotate_left
      · (intro w hSw; (try dsimp only at hSw); go_simp; try with_reducible rfl)
      try simp only [Act.put, qa, qb, qc, qD, qE, qF]
      refine qHk (v := ?_) 15 rfl (.inl ⟨by rfl, ?_⟩) ?_
      rotate_left
      · (intro w hSw; (try dsimp only at hSw); go_simp; try with_reducible rfl)
      try simp only [Act.put, qa, qb, qc, qD, qE, qF]
      refine wpAnyH_done qKr ?_ _
      clear hHeld
      go_wp2_with fail
      go_ret
      exact ⟨rfl, Xw6.trans qXt⟩

end Go.Proofs.YtgklaobfikbiiaaDoor

/- The law FnValidAct holds for all bytes: the call returns true, its argument and the program's list read as they did; the list is what the program's text lays. -/
namespace Go.Proofs.YtgklaobfikbiiaaDoor.rowFnValidAct
open Go.ChangeShapes Go.WideShapes Go.ChangeAt Go.RowKit
set_option linter.unusedVariables false
set_option maxRecDepth 100000

theorem gN : Tryd.prog.globalNamed "loop.example/strideviews/impl.actCounts" = some 0 := by kernel_rfl
theorem gT : (Tryd.prog.globals[0]?).map (·.type) = some 43 := by kernel_rfl
theorem gU : Tryd.prog.underlying 43 = some (.array 8 3) := by kernel_rfl
theorem c1 : Tryd.prog.cellsOf 3 = 1 := by kernel_rfl
theorem c8 : Tryd.prog.cellsOf 43 = 8 := by kernel_rfl
def counts : List Value := [.int .i64 1, .int .i64 3, .int .i64 4, .int .i64 1, .int .i64 2, .int .i64 2, .int .i64 1, .int .i64 1]
def nums : List Int := [1, 3, 4, 1, 2, 2, 1, 1]
theorem one_of {l : List Value} {i : Nat} {x : Value} (h : (l.drop (i * 1)).take 1 = [x]) : l[i]? = some x := by
  have := congrArg (fun l : List Value => l[0]?) h
  simpa using this
/-- what the list holds -/
theorem var_of_laid {W : World} (h : laidMet Tryd.prog Rows.fnValidActRow.laid W) : W.var? Tryd.prog "loop.example/strideviews/impl.actCounts" = some counts.toArray := by
  obtain ⟨ps, ⟨g, t, cs, fuel, p, q, hg, ht, hvar, hd, _, _⟩, _⟩ := h
  obtain rfl := Option.some.inj (gN.symm.trans hg)
  obtain rfl := Option.some.inj (gT.symm.trans ht)
  obtain ⟨xs, m, -, hx, hl, hxl, he⟩ := DataW.trod_array gU hd
  rw [c8] at hl
  rw [c1] at he
  obtain ⟨hx1, -⟩ := Prod.mk.inj hx
  have hmap : xs.map (·.1) = [.lit (.int .i64 1), .lit (.int .i64 3), .lit (.int .i64 4), .lit (.int .i64 1), .lit (.int .i64 2), .lit (.int .i64 2), .lit (.int .i64 1), .lit (.int .i64 1)] := by
    unfold Rows.laid_loop_example_strideviews_impl_actCounts at hx1
    injection hx1 with h7
    exact h7.symm
  have key : ∀ i, i < 8 → cs.toList[i]? = some (.int .i64 (nums.getD i 0)) := by
    intro i hi
    have h1 := he i hi
    rw [List.getElem?_eq_getElem (by omega)] at h1
    obtain ⟨n, hc, hxe, _⟩ := DataW.trod_int Tryd.underlying3 h1
    have h2 : (xs.map (·.1))[i]? = some (.lit (.int .i64 n)) := by rw [List.getElem?_map, List.getElem?_eq_getElem (by omega), hxe]; rfl
    rw [hmap] at h2
    have h3 := one_of hc
    rcases (show i = 0 ∨ i = 1 ∨ i = 2 ∨ i = 3 ∨ i = 4 ∨ i = 5 ∨ i = 6 ∨ i = 7 by omega) with rfl | rfl | rfl | rfl | rfl | rfl | rfl | rfl <;>
      (simp at h2; subst h2; exact h3)
  have hcs : cs.toList = counts := by
    refine List.ext_getElem? fun i => ?_
    by_cases hi : i < 8
    · rw [key i hi]
      rcases (show i = 0 ∨ i = 1 ∨ i = 2 ∨ i = 3 ∨ i = 4 ∨ i = 5 ∨ i = 6 ∨ i = 7 by omega) with rfl | rfl | rfl | rfl | rfl | rfl | rfl | rfl <;> rfl
    · rw [List.getElem?_eq_none (by omega), List.getElem?_eq_none (by simp [counts]; omega)]
  rw [hvar, ← hcs]
theorem glob_of {W : World} (h : W.var? Tryd.prog "loop.example/strideviews/impl.actCounts" = some counts.toArray) : Glob W := by
  intro i hi
  rw [World.var?_cell gN h i]
  rcases (show i = 0 ∨ i = 1 ∨ i = 2 ∨ i = 3 ∨ i = 4 ∨ i = 5 ∨ i = 6 ∨ i = 7 by omega) with rfl | rfl | rfl | rfl | rfl | rfl | rfl | rfl <;> rfl
/-- the settled world, the list laid -/
noncomputable def laidWorld (os : Os) : World :=
  let w0 := World.holding Tryd.prog os ⟨#[], #[], []⟩
  { w0 with heap := w0.heap.modify 0 fun
      | .cells _ t frozen => .cells counts.toArray t frozen
      | o => o }
theorem laid_met (os : Os) (args : Array Value) : laidMet Tryd.prog Rows.fnValidActRow.laid ((laidWorld os).forCall (fun _ _ => 0) ⟨#[], args, []⟩).memory :=
  laidMet_of_run (ps := [.cell 0 0, .cell 0 1, .cell 0 2, .cell 0 3, .cell 0 4, .cell 0 5, .cell 0 6, .cell 0 7]) 8 qKr qKr qKr
theorem var?_below {P : Program} {B g : Nat} {W W' : World} {n : String} {cs : Array Value} (h : Below B W W') (hg : P.globalNamed n = some g) (hgB : g < B) (hv : W.var? P n = some cs) : W'.var? P n = some cs := by
  unfold World.var? at hv ⊢
  simp only [hg, Option.bind_some] at hv ⊢
  rw [h.block g hgB]
  exact hv

set_option maxHeartbeats 2000000 in
theorem lifted (os : Os) (started : os.Started) (H : Type) (enc : TypeId × Value → H) :
    ReturnsInHanded {} Tryd.checked os 3 .any (fun w args => (Rows.fnValidActSpec.pre enc Tryd.prog Tryd.f3 Rows.fnValidActRow.domain false w args ∧ laidMet Tryd.prog Rows.fnValidActRow.laid w) ∧ sizedMet enc Tryd.prog Tryd.f3 (OpenSpec.ofChange Rows.fnValidActSpec) false w args)
      (Rows.fnValidActSpec.post enc Tryd.prog Tryd.f3 false true false false) := by
  refine returnsInHanded_of_change_and (C := Tryd.checked) (X := fun w _ => laidMet Tryd.prog Rows.fnValidActRow.laid w) (fun _ _ _ hh h => h.of_heap hh) own started qKr Tryd.func3
    (ChangeSpec.witness_at (enc := enc) (C := Tryd.checked) (os := os) (X := fun w _ => laidMet Tryd.prog Rows.fnValidActRow.laid w) false (laidWorld os) #[.slice none 0 0] 16 rfl qKr qKr qKr qKr qKr (laid_met os _)) ?_
  intro W base args ds gs before hval0 hW hcnd _ hL _
  have hval : ∀ (j : Nat) t v, Tryd.f3.params[j]? = some t → args[j]? = some v → Value.okWide Tryd.prog W .any base t v := hval0
  have hW' := hW
  obtain ⟨p, q, hA0, hV0, rfl, hfz, hnd⟩ := hW
  have hA : DataW.TrodAll enc Tryd.prog W 0 (fun _ => true) true Tryd.f3.params.toList args.toList ds p := hA0
  have hV : DataW.TrodVars enc Tryd.prog W (fun _ => true) ["loop.example/strideviews/impl.actCounts"] gs q := hV0
  rw [Tryd.params3] at hA hval
  obtain ⟨v0, vs0, d0, ds0, p0, q0, hargs0, rfl, rfl, h0, r0⟩ := trodAll_cons hA
  obtain ⟨rfl, rfl, rfl⟩ := trodAll_nil r0
  obtain rfl : args = #[v0] := by cases args; simp_all
  obtain ⟨g, t, cs, fuel, d, p', rfl, hg, ht, hvar, hd, rfl⟩ := trodVars_one hV
  obtain rfl := Option.some.inj (gN.symm.trans hg)
  obtain rfl := Option.some.inj (gT.symm.trans ht)
  have hv8 := var_of_laid hL
  obtain rfl : cs = counts.toArray := Option.some.inj (hvar.symm.trans hv8)
  have hG := glob_of hv8
  have h0lt : 0 < W.heap.size := qB (hG 0 (by omega))
  have hltv : ∀ x ∈ p', x.block < W.heap.size := fun x hx => hW'.lt x (List.mem_append_right _ (List.mem_append_right _ hx))
  obtain ⟨a0, len0, cap0, rfl⟩ := okWide_slice Tryd.underlying22 (hval 0 22 v0 rfl rfl)
  have k0 := h0
  have lt0 : ∀ x ∈ p0, x.block < W.heap.size := by obtain ⟨m, hm⟩ := k0; exact DataW.trod_lt m _ _ _ hm
  have w0 : BysIn W a0 len0 cap0 := by
    obtain ⟨fuel, hf⟩ := h0
    rcases open_ints Tryd.underlying22 Tryd.underlying5 qKr hf with ⟨hcs, _⟩ | ⟨x, l, c, zs, hcs, _, hl, hm, hz, _, hcell, hwz⟩
    · simp [Value.cells] at hcs
      obtain ⟨rfl, rfl, rfl⟩ := hcs
      exact ⟨Nat.le_refl _, by simp, fun i hi => absurd hi (by simp)⟩
    · simp [Value.cells] at hcs
      obtain ⟨rfl, rfl, rfl⟩ := hcs
      have hzl : zs.length = cap0 := by simpa using hz
      exact bys_of_cells hl hm hzl hcell hwz
  clear hA0 hval0 hV0
  refine (lawFnValidAct_c a0 len0 cap0 W w0 hG).mono fun e W' ⟨he, bel⟩ => ?_
  subst he
  have hcv : (Value.agg counts.toArray).cells.toList = counts := by kernel_rfl
  obtain ⟨fuel', hd'⟩ := Below.trod laidOut qKr (of_decide_eq_true qKr) (v := .agg counts.toArray) (⟨fuel, by rw [hcv]; exact hd⟩ : DataW.Trod enc Tryd.prog W 0 (fun _ => true) true 43 (.agg counts.toArray) d p') bel hltv
  rw [hcv] at hd'
  have hv' := trodVars_mk1 (enc := enc) (spare := fun b => decide (b < W.heap.size)) gN gT (var?_below bel gN h0lt hv8) hd'
  exact ⟨_, rfl, _, _, _, [], _, _, hW', trodAll_mk1 (shut_bool Tryd.underlying4 _), (trodAll_cons_mk (Below.trod laidOut qKr (of_decide_eq_true qKr) k0 bel lt0) trodAll_mk0), hv', Below.frame bel _, fun h => by cases h⟩

set_option maxHeartbeats 2000000 in
theorem closed : joinedFacts Tryd.checked.prog 3 Tryd.f3 Rows.fnValidActSpec Rows.fnValidActRow = true :=
  facts.all qKr qKr qKr qKr qKr (by as_aux_lemma => kernel_rfl) (by as_aux_lemma => kernel_rfl) (by as_aux_lemma => kernel_rfl) (by as_aux_lemma => kernel_rfl)
    (by as_aux_lemma => kernel_rfl) (by as_aux_lemma => kernel_rfl) rfl rfl rfl rfl qKr qKr (by as_aux_lemma => kernel_rfl) (by as_aux_lemma => kernel_rfl)

theorem named : Tryd.pinned.checked.prog.funcNamed Rows.fnValidActRow.func = some 3 := by kernel_rfl

theorem over : Rows.fnValidActRow.holds Tryd.pinned (OpenSpec.ofChange Rows.fnValidActSpec) :=
  OpenClaim.holds_of_wide 3 Tryd.f3 rfl rfl rfl rfl rfl rfl rfl ⟨rfl, rfl, rfl, rfl, rfl⟩ rfl rfl rfl rfl rfl named Tryd.func3 closed
    (of_decide_eq_true qKr) (by unfold Func.isWrapper; exact ⟨rfl, rfl⟩)
    (fun os started H enc _ => lifted os started H enc)

theorem proved : Rows.FnValidActCardSaid :=
  Claim7.holds_tied_plain_at .later [] [.data] true (true, "4b3211d6a82b88db9d0de7247b49f5031d48d99c93e0de750bbb84db6000826b") false
    over (fun _ h => by cases h) qKr (fun _ h => by cases h) fnValidAct_row_tie rfl ⟨rfl, rfl⟩ qKr rfl
    (fun f fn hf hfn => by
      obtain rfl : f = 3 := Option.some.inj (named.symm.trans hf) |>.symm
      obtain rfl : fn = Tryd.f3 := (Option.some.inj (Tryd.func3.symm.trans hfn)).symm
      exact ⟨by kernel_rfl, fun j t ht => by
        rw [Tryd.params3] at ht
        have h3 : t = 22 := by
          rcases j with _ | j
          · simpa using ht.symm
          · simp at ht
        subst h3
        exact (show Tryd.prog.wantsStandIn 22 = false by kernel_rfl)⟩)
    qKr

end Go.Proofs.YtgklaobfikbiiaaDoor.rowFnValidAct
