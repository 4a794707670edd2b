/- Texts of these proofs put together: SvI, GenB, GenC, GenD, SvJ, SvL, SvK, SvM, Open, OpenB, DrA, DrB, Facts. No condition. -/
import Derived.Test.YtpgkhjmboiepcaaM2
import Derived.Test.YtpgkhjmboiepcaaM1
import Derived.Test.YtpgkhjmboiepcaaRows
import Derived.WalkKit
import Derived.ProofKit
import Derived.OpenShut
import Derived.ShutString
import Derived.ChangeOld
import Derived.Below
import Derived.Lib.SmallJoins
import Derived.KernelRfl
import Derived.JoinedOf
set_option linter.unusedVariables false
set_option linter.unusedSimpArgs false
/- Walks: WindowsOf of the reference. -/
namespace Go.Proofs.Ytpgkhjmboiepcaa
open Go.RowKit
set_option linter.unusedVariables false
set_option maxRecDepth 100000

set_option maxHeartbeats 6400000 in
theorem specWindowsOf_c (b1 : Int) (u1 v1 : Value) (s1 t1 : List Int) (d sz : Int) (w : World) (l1 m1 : Nat) (h1 : Ints w l1 u1 s1) (k1 : Ints w m1 v1 t1) (hsz : -1000000 ≤ sz ∧ sz ≤ 1000000) :
  Calls Try.prog 130 #[.agg #[.int .i64 b1, u1, v1], .int .i64 d, .int .i64 sz] w (PVB w (winV b1 s1 t1 d sz)) := by
 have hlen1 := ints_len h1
 have hlen2 := ints_len k1
 obtain ⟨a1, cp1, rfl⟩ := h1.form
 obtain ⟨a2, cp2, rfl⟩ := k1.form
 cases ha : viewB b1 s1 t1
 ·
  have hr : Hid (winV b1 s1 t1 d sz = noV) := Lib.hid (by unfold winV; rw [ha]; rfl)
  replace ha := Lib.hid ha
  go_enter Try.func130, Try.ntmps130
  go_wp2_with fail
  refine (validView_c b1 _ _ s1 t1 _ l1 m1 (h1.ext qXt) (k1.ext qXt)).mono ?_
  rintro e w1 ⟨rfl, xw1⟩
  have Lw1 : Ext w w1 := Ext.trans qXt xw1
  have Xw1 : Ext w w1 := Lw1
  have va0 : w1.cell? ⟨w.heap.size, 0, none⟩ = some (.int .i64 b1) := xw1.cell qCl
  have va1 : w1.cell? ⟨w.heap.size, 1, none⟩ = some (.slice a1 s1.length cp1) := xw1.cell qCl
  have va2 : w1.cell? ⟨w.heap.size, 2, none⟩ = some (.slice a2 t1.length cp2) := xw1.cell qCl
  have q0 : w1.cell? ⟨w.heap.size + 1, 0, none⟩ = some (.int .i64 0) := xw1.cell qCl
  have q1 : w1.cell? ⟨w.heap.size + 1, 1, none⟩ = some (.slice none 0 0) := xw1.cell qCl
  have q2 : w1.cell? ⟨w.heap.size + 1, 2, none⟩ = some (.slice none 0 0) := xw1.cell qCl
  have f_q0 : w1.frozen? ⟨w.heap.size + 1, 0, none⟩ = false := xw1.frz (by simp <;> omega) qFz
  have f_q1 : w1.frozen? ⟨w.heap.size + 1, 1, none⟩ = false := xw1.frz (by simp <;> omega) qFz
  have f_q2 : w1.frozen? ⟨w.heap.size + 1, 2, none⟩ = false := xw1.frz (by simp <;> omega) qFz
  have z_va : w.heap.size < w1.heap.size := qB va0
  have z_q : w.heap.size + 1 < w1.heap.size := qB q0
  have s_w1 : w.heap.size ≤ w1.heap.size := Xw1.size
  clear xw1
  rw [ha.out]
  go_wp2_with fail
  refine bodyPost_ret (v := .tuple #[.agg #[.int .i64 0, .slice none 0 0, .slice none 0 0], .bool false]) (by simp only [results, Try.results130]; go_simp) rfl ?_
  exact PVB.no hr.out qXt
 ·
  have ht := (viewB_in ha).2.1
  have j4 := (shapeB_in (viewB_in ha).1).1
  have ht4 : t1.length ≤ 4 := by omega
  have j5 := Lib.hid (shapeB_in (viewB_in ha).1).2.1
  cases hb : inB 0 ((s1.length : Int) - 1) d
  ·
   have hr : Hid (winV b1 s1 t1 d sz = noV) := Lib.hid (by unfold winV; rw [ha, hb]; rfl)
   replace ha := Lib.hid ha
   replace hb := Lib.hid hb
   replace ht := Lib.hid ht
   go_enter Try.func130, Try.ntmps130
   go_wp2_with fail
   refine (validView_c b1 _ _ s1 t1 _ l1 m1 (h1.ext qXt) (k1.ext qXt)).mono ?_
   rintro e w1 ⟨rfl, xw1⟩
   have Lw1 : Ext w w1 := Ext.trans qXt xw1
   have Xw1 : Ext w w1 := Lw1
   have va0 : w1.cell? ⟨w.heap.size, 0, none⟩ = some (.int .i64 b1) := xw1.cell qCl
   have va1 : w1.cell? ⟨w.heap.size, 1, none⟩ = some (.slice a1 s1.length cp1) := xw1.cell qCl
   have va2 : w1.cell? ⟨w.heap.size, 2, none⟩ = some (.slice a2 t1.length cp2) := xw1.cell qCl
   have q0 : w1.cell? ⟨w.heap.size + 1, 0, none⟩ = some (.int .i64 0) := xw1.cell qCl
   have q1 : w1.cell? ⟨w.heap.size + 1, 1, none⟩ = some (.slice none 0 0) := xw1.cell qCl
   have q2 : w1.cell? ⟨w.heap.size + 1, 2, none⟩ = some (.slice none 0 0) := xw1.cell qCl
   have f_q0 : w1.frozen? ⟨w.heap.size + 1, 0, none⟩ = false := xw1.frz (by simp <;> omega) qFz
   have f_q1 : w1.frozen? ⟨w.heap.size + 1, 1, none⟩ = false := xw1.frz (by simp <;> omega) qFz
   have f_q2 : w1.frozen? ⟨w.heap.size + 1, 2, none⟩ = false := xw1.frz (by simp <;> omega) qFz
   have z_va : w.heap.size < w1.heap.size := qB va0
   have z_q : w.heap.size + 1 < w1.heap.size := qB q0
   have s_w1 : w.heap.size ≤ w1.heap.size := Xw1.size
   clear xw1
   rw [ha.out]
   go_wp2_with fail
   refine (isDim_c b1 _ _ s1 t1 d _ l1 m1 (h1.ext (Xw1.trans qXt)) (k1.ext (Xw1.trans qXt)) (by omega)).mono ?_
   rintro e w2 ⟨rfl, xw2⟩
   have Lw2 : Ext w1 w2 := Ext.trans qXt xw2
   have Xw2 : Ext w w2 := Xw1.trans Lw2
   replace va0 := Lw2.cell va0
   replace va1 := Lw2.cell va1
   replace va2 := Lw2.cell va2
   replace q0 := Lw2.cell q0
   replace q1 := Lw2.cell q1
   replace q2 := Lw2.cell q2
   replace f_q0 := Lw2.frz z_q f_q0
   replace f_q1 := Lw2.frz z_q f_q1
   replace f_q2 := Lw2.frz z_q f_q2
   have z_va : w.heap.size < w2.heap.size := qB va0
   have z_q : w.heap.size + 1 < w2.heap.size := qB q0
   have s_w2 : w.heap.size ≤ w2.heap.size := Xw2.size
   clear xw2
   rw [hb.out]
   go_wp2_with fail
   refine bodyPost_ret (v := .tuple #[.agg #[.int .i64 0, .slice none 0 0, .slice none 0 0], .bool false]) (by simp only [results, Try.results130]; go_simp) rfl ?_
   exact PVB.no hr.out qXt
  ·
   have hd : 0 ≤ d ∧ d < s1.length := by simp [inB] at hb; omega
   obtain ⟨n, rfl⟩ : ∃ n : Nat, d = n := ⟨d.toNat, by omega⟩
   have hd1 : n < s1.length := by omega
   have hd2 : n < t1.length := by omega
   have hI1 : (n : Int) < s1.length := by omega
   have hI2 : (n : Int) < t1.length := by omega
   have he := j5.out _ (getD_mem hd1)
   have hne1 : s1 ≠ [] := fun h => by rw [h] at hd1; simp at hd1
   have hne2 : t1 ≠ [] := fun h => by rw [h] at hd2; simp at hd2
   cases hc : inB 1 (s1.getD n 0) sz
   ·
    have hr : Hid (winV b1 s1 t1 n sz = noV) := Lib.hid (by unfold winV; rw [ha, hb, Int.toNat_natCast, hc]; rfl)
    replace ha := Lib.hid ha
    replace hb := Lib.hid hb
    replace hc := Lib.hid hc
    replace ht := Lib.hid ht
    obtain ⟨bs, os, rfl, ea0⟩ := h1.at n hd1
    have y_ea : bs < w.heap.size := qB ea0
    have z_ea := y_ea
    generalize hge : s1.getD n 0 = e at *
    replace hge := Lib.hid hge
    go_enter Try.func130, Try.ntmps130
    go_wp2_with fail
    refine (validView_c b1 _ _ s1 t1 _ l1 m1 (h1.ext qXt) (k1.ext qXt)).mono ?_
    rintro e w1 ⟨rfl, xw1⟩
    have Lw1 : Ext w w1 := Ext.trans qXt xw1
    have Xw1 : Ext w w1 := Lw1
    replace ea0 := Lw1.cell ea0
    have va0 : w1.cell? ⟨w.heap.size, 0, none⟩ = some (.int .i64 b1) := xw1.cell qCl
    have va1 : w1.cell? ⟨w.heap.size, 1, none⟩ = some (.slice (some ⟨bs, os, none⟩) s1.length cp1) := xw1.cell qCl
    have va2 : w1.cell? ⟨w.heap.size, 2, none⟩ = some (.slice a2 t1.length cp2) := xw1.cell qCl
    have q0 : w1.cell? ⟨w.heap.size + 1, 0, none⟩ = some (.int .i64 0) := xw1.cell qCl
    have q1 : w1.cell? ⟨w.heap.size + 1, 1, none⟩ = some (.slice none 0 0) := xw1.cell qCl
    have q2 : w1.cell? ⟨w.heap.size + 1, 2, none⟩ = some (.slice none 0 0) := xw1.cell qCl
    have f_q0 : w1.frozen? ⟨w.heap.size + 1, 0, none⟩ = false := xw1.frz (by simp <;> omega) qFz
    have f_q1 : w1.frozen? ⟨w.heap.size + 1, 1, none⟩ = false := xw1.frz (by simp <;> omega) qFz
    have f_q2 : w1.frozen? ⟨w.heap.size + 1, 2, none⟩ = false := xw1.frz (by simp <;> omega) qFz
    have z_ea : bs < w1.heap.size := qB ea0
    have z_va : w.heap.size < w1.heap.size := qB va0
    have z_q : w.heap.size + 1 < w1.heap.size := qB q0
    have s_w1 : w.heap.size ≤ w1.heap.size := Xw1.size
    clear xw1
    rw [ha.out]
    go_wp2_with fail
    refine (isDim_c b1 _ _ s1 t1 n _ l1 m1 (h1.ext (Xw1.trans qXt)) (k1.ext (Xw1.trans qXt)) (by omega)).mono ?_
    rintro e w2 ⟨rfl, xw2⟩
    have Lw2 : Ext w1 w2 := Ext.trans qXt xw2
    have Xw2 : Ext w w2 := Xw1.trans Lw2
    replace ea0 := Lw2.cell ea0
    replace va0 := Lw2.cell va0
    replace va1 := Lw2.cell va1
    replace va2 := Lw2.cell va2
    replace q0 := Lw2.cell q0
    replace q1 := Lw2.cell q1
    replace q2 := Lw2.cell q2
    replace f_q0 := Lw2.frz z_q f_q0
    replace f_q1 := Lw2.frz z_q f_q1
    replace f_q2 := Lw2.frz z_q f_q2
    have z_ea : bs < w2.heap.size := qB ea0
    have z_va : w.heap.size < w2.heap.size := qB va0
    have z_q : w.heap.size + 1 < w2.heap.size := qB q0
    have s_w2 : w.heap.size ≤ w2.heap.size := Xw2.size
    clear xw2
    rw [hb.out]
    go_wp2_with fail
    refine (inRange_c sz 1 e _).mono ?_
    rintro e w' ⟨rfl, rfl⟩
    rw [hc.out]
    go_wp2_with fail
    refine bodyPost_ret (v := .tuple #[.agg #[.int .i64 0, .slice none 0 0, .slice none 0 0], .bool false]) (by simp only [results, Try.results130]; go_simp) rfl ?_
    exact PVB.no hr.out qXt
   ·
    have hr0 : Hid (winV b1 s1 t1 n sz = madeV b1 (s1.set n (s1.getD n 0 - sz + 1) ++ [sz]) (t1 ++ [t1.getD n 0])) := Lib.hid (by unfold winV; rw [ha, hb, Int.toNat_natCast, hc]; rfl)
    obtain ⟨x, hr⟩ : ∃ x, madeV b1 (s1.set n (s1.getD n 0 - sz + 1) ++ [sz]) (t1 ++ [t1.getD n 0]) = x := ⟨_, rfl⟩
    obtain ⟨mb, ms, mt, mk⟩ := x
    have hmd : ∀ (W : World) (x1 x2 : Value) (l m : Nat), Ints W l x1 (s1.set n (s1.getD n 0 - sz + 1) ++ [sz]) → Ints W m x2 (t1 ++ [t1.getD n 0]) → Calls Try.prog 59 #[.agg #[.int .i64 b1, x1, x2]] W (PVB W (madeV b1 (s1.set n (s1.getD n 0 - sz + 1) ++ [sz]) (t1 ++ [t1.getD n 0]))) := fun W x1 x2 l m i j => made_c _ _ _ _ _ W l m i j
    rw [hr] at hmd
    replace hmd := Lib.hid hmd
    replace hr := Lib.hid hr
    have hsz1 : 1 ≤ sz ∧ sz ≤ s1.getD n 0 := by unfold inB at hc; exact of_decide_eq_true hc
    replace ha := Lib.hid ha
    replace hb := Lib.hid hb
    replace hc := Lib.hid hc
    replace ht := Lib.hid ht
    obtain ⟨bs, os, rfl, ea0⟩ := h1.at n hd1
    have y_ea : bs < w.heap.size := qB ea0
    have z_ea := y_ea
    obtain ⟨bt, ot, rfl, eb0⟩ := k1.at n hd2
    have y_eb : bt < w.heap.size := qB eb0
    have z_eb := y_eb
    generalize hge : s1.getD n 0 = e at *
    replace hge := Lib.hid hge
    generalize hgx : t1.getD n 0 = x at *
    replace hgx := Lib.hid hgx
    go_enter Try.func130, Try.ntmps130
    go_wp2_with fail
    refine (validView_c b1 _ _ s1 t1 _ l1 m1 (h1.ext qXt) (k1.ext qXt)).mono ?_
    rintro e w1 ⟨rfl, xw1⟩
    have Lw1 : Ext w w1 := Ext.trans qXt xw1
    have Xw1 : Ext w w1 := Lw1
    replace ea0 := Lw1.cell ea0
    replace eb0 := Lw1.cell eb0
    have va0 : w1.cell? ⟨w.heap.size, 0, none⟩ = some (.int .i64 b1) := xw1.cell qCl
    have va1 : w1.cell? ⟨w.heap.size, 1, none⟩ = some (.slice (some ⟨bs, os, none⟩) s1.length cp1) := xw1.cell qCl
    have va2 : w1.cell? ⟨w.heap.size, 2, none⟩ = some (.slice (some ⟨bt, ot, none⟩) t1.length cp2) := xw1.cell qCl
    have q0 : w1.cell? ⟨w.heap.size + 1, 0, none⟩ = some (.int .i64 0) := xw1.cell qCl
    have q1 : w1.cell? ⟨w.heap.size + 1, 1, none⟩ = some (.slice none 0 0) := xw1.cell qCl
    have q2 : w1.cell? ⟨w.heap.size + 1, 2, none⟩ = some (.slice none 0 0) := xw1.cell qCl
    have f_q0 : w1.frozen? ⟨w.heap.size + 1, 0, none⟩ = false := xw1.frz (by simp <;> omega) qFz
    have f_q1 : w1.frozen? ⟨w.heap.size + 1, 1, none⟩ = false := xw1.frz (by simp <;> omega) qFz
    have f_q2 : w1.frozen? ⟨w.heap.size + 1, 2, none⟩ = false := xw1.frz (by simp <;> omega) qFz
    have z_ea : bs < w1.heap.size := qB ea0
    have z_eb : bt < w1.heap.size := qB eb0
    have z_va : w.heap.size < w1.heap.size := qB va0
    have z_q : w.heap.size + 1 < w1.heap.size := qB q0
    have s_w1 : w.heap.size ≤ w1.heap.size := Xw1.size
    clear xw1
    rw [ha.out]
    go_wp2_with fail
    refine (isDim_c b1 _ _ s1 t1 n _ l1 m1 (h1.ext (Xw1.trans qXt)) (k1.ext (Xw1.trans qXt)) (by omega)).mono ?_
    rintro e w2 ⟨rfl, xw2⟩
    have Lw2 : Ext w1 w2 := Ext.trans qXt xw2
    have Xw2 : Ext w w2 := Xw1.trans Lw2
    replace ea0 := Lw2.cell ea0
    replace eb0 := Lw2.cell eb0
    replace va0 := Lw2.cell va0
    replace va1 := Lw2.cell va1
    replace va2 := Lw2.cell va2
    replace q0 := Lw2.cell q0
    replace q1 := Lw2.cell q1
    replace q2 := Lw2.cell q2
    replace f_q0 := Lw2.frz z_q f_q0
    replace f_q1 := Lw2.frz z_q f_q1
    replace f_q2 := Lw2.frz z_q f_q2
    have z_ea : bs < w2.heap.size := qB ea0
    have z_eb : bt < w2.heap.size := qB eb0
    have z_va : w.heap.size < w2.heap.size := qB va0
    have z_q : w.heap.size + 1 < w2.heap.size := qB q0
    have s_w2 : w.heap.size ≤ w2.heap.size := Xw2.size
    clear xw2
    rw [hb.out]
    go_wp2_with fail
    refine (inRange_c sz 1 e _).mono ?_
    rintro e w' ⟨rfl, rfl⟩
    rw [hc.out]
    go_wp2_with fail
    refine (scopyView_c b1 _ _ s1 t1 _ l1 m1 (h1.ext (Xw2.trans qXt)) (k1.ext (Xw2.trans qXt))).mono ?_
    rintro e w3 ⟨x1, x2, rfl, -, -, o1, o2, od, xw3⟩
    have Lw3 : Ext w2 w3 := Ext.trans qXt xw3
    have Xw3 : Ext w w3 := Xw2.trans Lw3
    replace ea0 := Lw3.cell ea0
    replace eb0 := Lw3.cell eb0
    replace va0 := Lw3.cell va0
    replace va1 := Lw3.cell va1
    replace va2 := Lw3.cell va2
    replace q0 := Lw3.cell q0
    replace q1 := Lw3.cell q1
    replace q2 := Lw3.cell q2
    replace f_q0 := Lw3.frz z_q f_q0
    replace f_q1 := Lw3.frz z_q f_q1
    replace f_q2 := Lw3.frz z_q f_q2
    have z_ea : bs < w3.heap.size := qB ea0
    have z_eb : bt < w3.heap.size := qB eb0
    have z_va : w.heap.size < w3.heap.size := qB va0
    have z_q : w.heap.size + 1 < w3.heap.size := qB q0
    have s_w3 : w.heap.size ≤ w3.heap.size := Xw3.size
    clear xw3
    have O1 := (o1.ofNe hne1).lower (show w.heap.size + 2 ≤ _ by omega)
    have O2 := (o2.ofNe hne2).lower (show w.heap.size + 2 ≤ _ by omega)
    clear o1 o2
    obtain ⟨g1, r1, rfl, G1, G1'⟩ := O1.row hne1
    obtain ⟨g2, r2, rfl, G2, G2'⟩ := O2.row hne2
    have hgg : g1 ≠ g2 := fun h => od hne1 hne2 (by rw [h]; rfl)
    clear od
    go_wp2_with fail
    generalize hW1 : w3.alloc (.cells #[.int .i64 b1, .slice (some ⟨g1, 0, none⟩) s1.length r1, .slice (some ⟨g2, 0, none⟩) t1.length r2] 25) = w4 at *
    have Lw4 : Ext w3 w4 := by subst hW1; exact qXt
    have Xw4 : Ext w w4 := Xw3.trans Lw4
    replace ea0 := Lw4.cell ea0
    replace eb0 := Lw4.cell eb0
    replace va0 := Lw4.cell va0
    replace va1 := Lw4.cell va1
    replace va2 := Lw4.cell va2
    replace q0 := Lw4.cell q0
    replace q1 := Lw4.cell q1
    replace q2 := Lw4.cell q2
    replace f_q0 := Lw4.frz z_q f_q0
    replace f_q1 := Lw4.frz z_q f_q1
    replace f_q2 := Lw4.frz z_q f_q2
    have yo0 : w4.cell? ⟨w3.heap.size, 0, none⟩ = some (.int .i64 b1) := by subst hW1; exact qCl
    have yo1 : w4.cell? ⟨w3.heap.size, 1, none⟩ = some (.slice (some ⟨g1, 0, none⟩) s1.length r1) := by subst hW1; exact qCl
    have yo2 : w4.cell? ⟨w3.heap.size, 2, none⟩ = some (.slice (some ⟨g2, 0, none⟩) t1.length r2) := by subst hW1; exact qCl
    have f_yo0 : w4.frozen? ⟨w3.heap.size, 0, none⟩ = false := by subst hW1; exact qFz
    have f_yo1 : w4.frozen? ⟨w3.heap.size, 1, none⟩ = false := by subst hW1; exact qFz
    have f_yo2 : w4.frozen? ⟨w3.heap.size, 2, none⟩ = false := by subst hW1; exact qFz
    have z_ea : bs < w4.heap.size := qB ea0
    have z_eb : bt < w4.heap.size := qB eb0
    have z_va : w.heap.size < w4.heap.size := qB va0
    have z_q : w.heap.size + 1 < w4.heap.size := qB q0
    have z_yo : w3.heap.size < w4.heap.size := qB yo0
    replace O1 := O1.ext Lw4
    replace O2 := O2.ext Lw4
    have s_w4 : w.heap.size ≤ w4.heap.size := Xw4.size
    clear hW1
    have A1 := O1.cell n hd1
    obtain ⟨A1a, A1b⟩ := A1
    have hw0 : IntKind.i64.wrap (e - sz) = e - sz := IntWalk.i64_in _ (by omega)
    have hw1 : IntKind.i64.wrap (e - sz + 1) = e - sz + 1 := IntWalk.i64_in _ (by omega)
    refine wp_region_tail (S := fun w' => w'.cell? ⟨bs, os + n, none⟩ = some (.int .i64 e) ∧ w'.cell? ⟨w.heap.size, 1, none⟩ = some (.slice (some ⟨bs, os, none⟩) s1.length cp1) ∧ w'.cell? ⟨w3.heap.size, 1, none⟩ = some (.slice (some ⟨g1, 0, none⟩) s1.length r1)) (fun i => decide (12 ≤ i)) qKr ⟨ea0, va1, yo1⟩ (fun hHeld => ?_)
    refine qTk (v := ?_) 0 rfl (.inl ⟨by rfl, ?_⟩) ?_
    rotate_left
    ·
     (intro w hSw; (try dsimp only at hSw); go_simp; try with_reducible rfl)
    try simp only [Act.put, qa, qb, qc, qD, qE, qF]
    refine qTk (v := ?_) 1 rfl (.inl ⟨by rfl, ?_⟩) ?_
    rotate_left
    ·
     (intro w hSw; (try dsimp only at hSw); go_simp; try with_reducible rfl)
    try simp only [Act.put, qa, qb, qc, qD, qE, qF]
    refine qTk (v := ?_) 2 rfl (.inl ⟨by rfl, ?_⟩) ?_
    rotate_left
    ·
     (intro w hSw; (try dsimp only at hSw); go_simp; try with_reducible rfl)
    try simp only [Act.put, qa, qb, qc, qD, qE, qF]
    refine qTk (v := ?_) 3 rfl (.inl ⟨by rfl, ?_⟩) ?_
    rotate_left
    ·
     (intro w hSw; (try dsimp only at hSw); go_simp; try with_reducible rfl)
    try simp only [Act.put, qa, qb, qc, qD, qE, qF]
    refine qTk (v := ?_) 4 rfl (.inl ⟨by rfl, ?_⟩) ?_
    rotate_left
    ·
     (intro w hSw; (try dsimp only at hSw); go_simp; try with_reducible rfl)
    try simp only [Act.put, qa, qb, qc, qD, qE, qF]
    refine qTk (v := ?_) 5 rfl (.inl ⟨by rfl, ?_⟩) ?_
    rotate_left
    ·
     (intro w hSw; (try dsimp only at hSw); go_simp; try with_reducible rfl)
    try simp only [Act.put, qa, qb, qc, qD, qE, qF]
    refine qTk (v := ?_) 6 rfl (.inl ⟨by rfl, ?_⟩) ?_
    rotate_left
    ·
     (intro w hSw; (try dsimp only at hSw); go_simp; try with_reducible rfl)
    try simp only [Act.put, qa, qb, qc, qD, qE, qF]
    refine qTk (v := ?_) 7 rfl (.inl ⟨by rfl, ?_⟩) ?_
    rotate_left
    ·
     (intro w hSw; (try dsimp only at hSw); go_simp; try with_reducible rfl)
    try simp only [Act.put, qa, qb, qc, qD, qE, qF]
    refine qTk (v := ?_) 8 rfl (.inl ⟨by rfl, ?_⟩) ?_
    rotate_left
    ·
     (intro w hSw; (try dsimp only at hSw); go_simp; try with_reducible rfl)
    try simp only [Act.put, qa, qb, qc, qD, qE, qF]
    refine qTk (v := ?_) 9 rfl (.inl ⟨by rfl, ?_⟩) ?_
    rotate_left
    ·
     (intro w hSw; (try dsimp only at hSw); go_simp; try with_reducible rfl)
    try simp only [Act.put, qa, qb, qc, qD, qE, qF]
    refine qTk (v := ?_) 10 rfl (.inl ⟨by rfl, ?_⟩) ?_
    rotate_left
    ·
     (intro w hSw; (try dsimp only at hSw); go_simp; try with_reducible rfl)
    try simp only [Act.put, qa, qb, qc, qD, qE, qF]
    refine qTk (v := ?_) 11 rfl (.inl ⟨by rfl, ?_⟩) ?_
    rotate_left
    ·
     (intro w hSw; (try dsimp only at hSw); go_simp; try with_reducible rfl)
    try simp only [Act.put, qa, qb, qc, qD, qE, qF]
    refine wpTail_last (i := 12) qKr rfl rfl (fun K hK => ?_)
    try simp only [Act.put, qa, qb, qc, qD, qE, qF]
    go_simp
    refine hK.out _ _ ?_
    clear hK K
    try simp only [Act.put, qa, qb, qc, qD, qE, qF]
    refine wpTail_done qKr ?_ _
    clear hHeld hw0 hw1
    generalize hW2 : ((w4.setCell ⟨g1, n, none⟩ (.int .i64 (e - sz + 1))).drew) = w5 at *
    have Kw5 : Chg (g1) (g1 + 1) w4 w5 := by subst hW2; exact qCh
    have Xw5 : Ext w w5 := by subst hW2; exact qXt
    replace ea0 := Kw5.cell (by omega) ea0
    replace eb0 := Kw5.cell (by omega) eb0
    replace va0 := Kw5.cell (by omega) va0
    replace va1 := Kw5.cell (by omega) va1
    replace va2 := Kw5.cell (by omega) va2
    replace q0 := Kw5.cell (by omega) q0
    replace f_q0 := Kw5.frzO (by omega) z_q f_q0
    replace q1 := Kw5.cell (by omega) q1
    replace f_q1 := Kw5.frzO (by omega) z_q f_q1
    replace q2 := Kw5.cell (by omega) q2
    replace f_q2 := Kw5.frzO (by omega) z_q f_q2
    replace yo0 := Kw5.cell (by omega) yo0
    replace f_yo0 := Kw5.frzO (by omega) z_yo f_yo0
    replace yo1 := Kw5.cell (by omega) yo1
    replace f_yo1 := Kw5.frzO (by omega) z_yo f_yo1
    replace yo2 := Kw5.cell (by omega) yo2
    replace f_yo2 := Kw5.frzO (by omega) z_yo f_yo2
    have n_O1 := O1.setD n (e - sz + 1) (by first | omega | (simp; omega))
    rw [hW2] at n_O1
    replace O1 := n_O1
    clear n_O1
    replace O2 := O2.chgN Kw5 (by omega)
    clear Kw5
    have z_ea : bs < w5.heap.size := qB ea0
    have z_eb : bt < w5.heap.size := qB eb0
    have z_va : w.heap.size < w5.heap.size := qB va0
    have z_q : w.heap.size + 1 < w5.heap.size := qB q0
    have z_yo : w3.heap.size < w5.heap.size := qB yo0
    have s_w5 : w.heap.size ≤ w5.heap.size := Xw5.size
    clear hW2
    clear A1a A1b
    go_wp2_with (
     at_builtin
     refine wpList_app rfl (.tmp 44) (.tmp 46) rfl rfl rfl (O1.ext ((Ext.refl _).alloc _)) (Ints.one _ 0 _ (Nat.zero_le _)) (by simp <;> omega) (by simp <;> omega) ?_
     intro vw6 w6 ho hgr hbl hvb
     obtain ⟨gw6, nw6, cw6, rfl, hnw6, Gw6, Gw6'⟩ := ho.row2 (by simp)
     have Bw6 := own_or hvb
     simp only [World.size_alloc] at Bw6
     have Kw6 : Chg (g1) (g1 + 1) w5 w6 := chg_grown hgr
     have Xw6 : Ext w w6 := Ext.chg (lo := g1) (hi := g1 + 1) Xw5 Kw6 (by omega)
     replace ea0 := Kw6.cell (by omega) ea0
     replace eb0 := Kw6.cell (by omega) eb0
     replace va0 := Kw6.cell (by omega) va0
     replace va1 := Kw6.cell (by omega) va1
     replace va2 := Kw6.cell (by omega) va2
     replace q0 := Kw6.cell (by omega) q0
     replace f_q0 := Kw6.frzO (by omega) z_q f_q0
     replace q1 := Kw6.cell (by omega) q1
     replace f_q1 := Kw6.frzO (by omega) z_q f_q1
     replace q2 := Kw6.cell (by omega) q2
     replace f_q2 := Kw6.frzO (by omega) z_q f_q2
     replace yo0 := Kw6.cell (by omega) yo0
     replace f_yo0 := Kw6.frzO (by omega) z_yo f_yo0
     replace yo1 := Kw6.cell (by omega) yo1
     replace f_yo1 := Kw6.frzO (by omega) z_yo f_yo1
     replace yo2 := Kw6.cell (by omega) yo2
     replace f_yo2 := Kw6.frzO (by omega) z_yo f_yo2
     have z_ea : bs < w6.heap.size := qB ea0
     have z_eb : bt < w6.heap.size := qB eb0
     have z_va : w.heap.size < w6.heap.size := qB va0
     have z_q : w.heap.size + 1 < w6.heap.size := qB q0
     have z_yo : w3.heap.size < w6.heap.size := qB yo0
     replace O2 := O2.chgN Kw6 (by omega)
     clear O1
     have O1 := ho
     have s_w6 : w.heap.size ≤ w6.heap.size := Xw6.size
     clear ho hgr hbl hvb Kw6)
    generalize hW3 : (w6.setCell ⟨w3.heap.size, 1, none⟩ (.slice (some ⟨gw6, 0, none⟩) nw6 cw6)) = w7 at *
    have Kw7 : Chg (w3.heap.size) (w3.heap.size + 1) w6 w7 := by subst hW3; exact qCh
    have Xw7 : Ext w w7 := by subst hW3; exact qXt
    replace ea0 := Kw7.cell (by omega) ea0
    replace eb0 := Kw7.cell (by omega) eb0
    replace va0 := Kw7.cell (by omega) va0
    replace va1 := Kw7.cell (by omega) va1
    replace va2 := Kw7.cell (by omega) va2
    replace q0 := Kw7.cell (by omega) q0
    replace f_q0 := Kw7.frzO (by omega) z_q f_q0
    replace q1 := Kw7.cell (by omega) q1
    replace f_q1 := Kw7.frzO (by omega) z_q f_q1
    replace q2 := Kw7.cell (by omega) q2
    replace f_q2 := Kw7.frzO (by omega) z_q f_q2
    replace yo0 : w7.cell? ⟨w3.heap.size, 0, none⟩ = some (.int .i64 b1) := by subst hW3; go_simp
    replace f_yo0 : w7.frozen? ⟨w3.heap.size, 0, none⟩ = false := by subst hW3; go_simp
    replace yo1 : w7.cell? ⟨w3.heap.size, 1, none⟩ = some (.slice (some ⟨gw6, 0, none⟩) nw6 cw6) := by subst hW3; go_simp
    replace f_yo1 : w7.frozen? ⟨w3.heap.size, 1, none⟩ = false := by subst hW3; go_simp
    replace yo2 : w7.cell? ⟨w3.heap.size, 2, none⟩ = some (.slice (some ⟨g2, 0, none⟩) t1.length r2) := by subst hW3; go_simp
    replace f_yo2 : w7.frozen? ⟨w3.heap.size, 2, none⟩ = false := by subst hW3; go_simp
    replace O1 := O1.chgN Kw7 (by omega)
    replace O2 := O2.chgN Kw7 (by omega)
    clear Kw7
    have z_ea : bs < w7.heap.size := qB ea0
    have z_eb : bt < w7.heap.size := qB eb0
    have z_va : w.heap.size < w7.heap.size := qB va0
    have z_q : w.heap.size + 1 < w7.heap.size := qB q0
    have z_yo : w3.heap.size < w7.heap.size := qB yo0
    have s_w7 : w.heap.size ≤ w7.heap.size := Xw7.size
    clear hW3
    go_wp2_with fail
    refine wp_region_tail (S := fun w' => w'.cell? ⟨bt, ot + n, none⟩ = some (.int .i64 x) ∧ w'.cell? ⟨w.heap.size, 2, none⟩ = some (.slice (some ⟨bt, ot, none⟩) t1.length cp2) ∧ w'.cell? ⟨w3.heap.size, 2, none⟩ = some (.slice (some ⟨g2, 0, none⟩) t1.length r2)) (fun i => decide (10 ≤ i)) qKr ⟨eb0, va2, yo2⟩ (fun hHeld => ?_)
    refine qTk (v := ?_) 0 rfl (.inl ⟨by rfl, ?_⟩) ?_
    rotate_left
    ·
     (intro w hSw; (try dsimp only at hSw); go_simp; try with_reducible rfl)
    try simp only [Act.put, qa, qb, qc, qD, qE, qF]
    refine qTk (v := ?_) 1 rfl (.inl ⟨by rfl, ?_⟩) ?_
    rotate_left
    ·
     (intro w hSw; (try dsimp only at hSw); go_simp; try with_reducible rfl)
    try simp only [Act.put, qa, qb, qc, qD, qE, qF]
    refine qTk (v := ?_) 2 rfl (.inl ⟨by rfl, ?_⟩) ?_
    rotate_left
    ·
     (intro w hSw; (try dsimp only at hSw); go_simp; try with_reducible rfl)
    try simp only [Act.put, qa, qb, qc, qD, qE, qF]
    refine qTk (v := ?_) 3 rfl (.inl ⟨by rfl, ?_⟩) ?_
    rotate_left
    ·
     (intro w hSw; (try dsimp only at hSw); go_simp; try with_reducible rfl)
    try simp only [Act.put, qa, qb, qc, qD, qE, qF]
    refine qTk (v := ?_) 4 rfl (.inl ⟨by rfl, ?_⟩) ?_
    rotate_left
    ·
     (intro w hSw; (try dsimp only at hSw); go_simp; try with_reducible rfl)
    try simp only [Act.put, qa, qb, qc, qD, qE, qF]
    refine qTk (v := ?_) 5 rfl (.inl ⟨by rfl, ?_⟩) ?_
    rotate_left
    ·
     (intro w hSw; (try dsimp only at hSw); go_simp; try with_reducible rfl)
    try simp only [Act.put, qa, qb, qc, qD, qE, qF]
    refine qTk (v := ?_) 6 rfl (.inl ⟨by rfl, ?_⟩) ?_
    rotate_left
    ·
     (intro w hSw; (try dsimp only at hSw); go_simp; try with_reducible rfl)
    try simp only [Act.put, qa, qb, qc, qD, qE, qF]
    refine wpTail_one (i := 7) qKr rfl rfl (fun K hK => ?_)
    try simp only [Act.put, qa, qb, qc, qD, qE, qF]
    go_simp
    refine hK.out _ _ ⟨Ext.cell (w := w7) qXt eb0, Ext.cell (w := w7) qXt va2, Ext.cell (w := w7) qXt yo2⟩ (fun hHeld => ?_)
    clear hK K
    try simp only [Act.put, qa, qb, qc, qD, qE, qF]
    refine wpTail_one (i := 8) qKr rfl rfl (fun K hK => ?_)
    have EE : Ext w7 ((w7.drew).alloc (.cells #[.int .i64 (x)] 3)) := qXt
    have SS : Ints ((w7.drew).alloc (.cells #[.int .i64 (x)] 3)) 0 (.slice (some ⟨w7.heap.size, 0, none⟩) 1 1) [x] := by simpa using Ints.one w7.drew 0 (x) (Nat.zero_le _)
    refine step_app rfl (.tmp 50) (.tmp 56) rfl rfl rfl (by exact O2.ext EE) (by exact SS) (by simp <;> omega) (by simp <;> omega) ?_
    intro vw8 w8 ho hgr hbl hvb
    obtain ⟨gw8, nw8, cw8, rfl, hnw8, Gw8, Gw8'⟩ := ho.row2 (by simp)
    have Bw8 := own_or hvb
    simp only [World.size_alloc, World.size_drew] at Bw8
    have Kw8 : Chg (g2) (g2 + 1) w7 w8 := chg_grownD hgr
    have Xw8 : Ext w w8 := Ext.chg (lo := g2) (hi := g2 + 1) Xw7 Kw8 (by omega)
    replace ea0 := Kw8.cell (by omega) ea0
    replace eb0 := Kw8.cell (by omega) eb0
    replace va0 := Kw8.cell (by omega) va0
    replace va1 := Kw8.cell (by omega) va1
    replace va2 := Kw8.cell (by omega) va2
    replace q0 := Kw8.cell (by omega) q0
    replace f_q0 := Kw8.frzO (by omega) z_q f_q0
    replace q1 := Kw8.cell (by omega) q1
    replace f_q1 := Kw8.frzO (by omega) z_q f_q1
    replace q2 := Kw8.cell (by omega) q2
    replace f_q2 := Kw8.frzO (by omega) z_q f_q2
    replace yo0 := Kw8.cell (by omega) yo0
    replace f_yo0 := Kw8.frzO (by omega) z_yo f_yo0
    replace yo1 := Kw8.cell (by omega) yo1
    replace f_yo1 := Kw8.frzO (by omega) z_yo f_yo1
    replace yo2 := Kw8.cell (by omega) yo2
    replace f_yo2 := Kw8.frzO (by omega) z_yo f_yo2
    have z_ea : bs < w8.heap.size := qB ea0
    have z_eb : bt < w8.heap.size := qB eb0
    have z_va : w.heap.size < w8.heap.size := qB va0
    have z_q : w.heap.size + 1 < w8.heap.size := qB q0
    have z_yo : w3.heap.size < w8.heap.size := qB yo0
    replace O1 := O1.chgN Kw8 (by omega)
    clear O2
    have O2 := ho
    have s_w8 : w.heap.size ≤ w8.heap.size := Xw8.size
    clear ho hgr hbl hvb Kw8
    clear EE SS
    refine hK.out _ _ ⟨eb0, va2, yo2⟩ (fun hHeld => ?_)
    clear hK K
    try simp only [Act.put, qa, qb, qc, qD, qE, qF]
    refine qTk (v := ?_) 9 rfl (.inl ⟨by rfl, ?_⟩) ?_
    rotate_left
    ·
     (intro w hSw; (try dsimp only at hSw); go_simp; try with_reducible rfl)
    try simp only [Act.put, qa, qb, qc, qD, qE, qF]
    refine wpTail_last (i := 10) qKr rfl rfl (fun K hK => ?_)
    try simp only [Act.put, qa, qb, qc, qD, qE, qF]
    go_simp
    refine hK.out _ _ ?_
    clear hK K
    try simp only [Act.put, qa, qb, qc, qD, qE, qF]
    refine wpTail_done qKr ?_ _
    clear hHeld
    generalize hW4 : (w8.setCell ⟨w3.heap.size, 2, none⟩ (.slice (some ⟨gw8, 0, none⟩) nw8 cw8)) = w9 at *
    have Kw9 : Chg (w3.heap.size) (w3.heap.size + 1) w8 w9 := by subst hW4; exact qCh
    have Xw9 : Ext w w9 := by subst hW4; exact qXt
    replace ea0 := Kw9.cell (by omega) ea0
    replace eb0 := Kw9.cell (by omega) eb0
    replace va0 := Kw9.cell (by omega) va0
    replace va1 := Kw9.cell (by omega) va1
    replace va2 := Kw9.cell (by omega) va2
    replace q0 := Kw9.cell (by omega) q0
    replace f_q0 := Kw9.frzO (by omega) z_q f_q0
    replace q1 := Kw9.cell (by omega) q1
    replace f_q1 := Kw9.frzO (by omega) z_q f_q1
    replace q2 := Kw9.cell (by omega) q2
    replace f_q2 := Kw9.frzO (by omega) z_q f_q2
    replace yo0 : w9.cell? ⟨w3.heap.size, 0, none⟩ = some (.int .i64 b1) := by subst hW4; go_simp
    replace f_yo0 : w9.frozen? ⟨w3.heap.size, 0, none⟩ = false := by subst hW4; go_simp
    replace yo1 : w9.cell? ⟨w3.heap.size, 1, none⟩ = some (.slice (some ⟨gw6, 0, none⟩) nw6 cw6) := by subst hW4; go_simp
    replace f_yo1 : w9.frozen? ⟨w3.heap.size, 1, none⟩ = false := by subst hW4; go_simp
    replace yo2 : w9.cell? ⟨w3.heap.size, 2, none⟩ = some (.slice (some ⟨gw8, 0, none⟩) nw8 cw8) := by subst hW4; go_simp
    replace f_yo2 : w9.frozen? ⟨w3.heap.size, 2, none⟩ = false := by subst hW4; go_simp
    replace O1 := O1.chgN Kw9 (by omega)
    replace O2 := O2.chgN Kw9 (by omega)
    clear Kw9
    have z_ea : bs < w9.heap.size := qB ea0
    have z_eb : bt < w9.heap.size := qB eb0
    have z_va : w.heap.size < w9.heap.size := qB va0
    have z_q : w.heap.size + 1 < w9.heap.size := qB q0
    have z_yo : w3.heap.size < w9.heap.size := qB yo0
    have s_w9 : w.heap.size ≤ w9.heap.size := Xw9.size
    clear hW4
    have i1 := O1.ints (by simp <;> omega)
    have i2 := O2.ints (by simp <;> omega)
    clear O1 O2
    go_wp2_with fail
    refine (hmd.out _ _ _ _ _ (i1.ext qXt) (i2.ext qXt)).mono ?_
    rintro e w10 ⟨y1, y2, rfl, j1, j2, o1, o2, od, xw10⟩
    have Lw10 : Ext w9 w10 := Ext.trans qXt xw10
    have Xw10 : Ext w w10 := Xw9.trans Lw10
    replace ea0 := Lw10.cell ea0
    replace eb0 := Lw10.cell eb0
    replace va0 := Lw10.cell va0
    replace va1 := Lw10.cell va1
    replace va2 := Lw10.cell va2
    replace q0 := Lw10.cell q0
    replace q1 := Lw10.cell q1
    replace q2 := Lw10.cell q2
    replace f_q0 := Lw10.frz z_q f_q0
    replace f_q1 := Lw10.frz z_q f_q1
    replace f_q2 := Lw10.frz z_q f_q2
    replace yo0 := Lw10.cell yo0
    replace yo1 := Lw10.cell yo1
    replace yo2 := Lw10.cell yo2
    replace f_yo0 := Lw10.frz z_yo f_yo0
    replace f_yo1 := Lw10.frz z_yo f_yo1
    replace f_yo2 := Lw10.frz z_yo f_yo2
    have z_ea : bs < w10.heap.size := qB ea0
    have z_eb : bt < w10.heap.size := qB eb0
    have z_va : w.heap.size < w10.heap.size := qB va0
    have z_q : w.heap.size + 1 < w10.heap.size := qB q0
    have z_yo : w3.heap.size < w10.heap.size := qB yo0
    have s_w10 : w.heap.size ≤ w10.heap.size := Xw10.size
    clear xw10
    have hl1 := ints_len j1
    have hl2 := ints_len j2
    clear j1 j2
    replace o1 := o1.lower (show w.heap.size + 2 ≤ _ by first | (simp; done) | (simp; omega) | omega)
    replace o2 := o2.lower (show w.heap.size + 2 ≤ _ by first | (simp; done) | (simp; omega) | omega)
    obtain ⟨p1, n1, r1, rfl⟩ := o1.form
    obtain ⟨p2, n2, r2, rfl⟩ := o2.form
    clear i1 i2 hmd
    go_wp2_with fail
    generalize hW5 : (((w10.setCell ⟨w.heap.size + 1, 0, none⟩ (.int .i64 mb)).setCell ⟨w.heap.size + 1, 1, none⟩ (.slice p1 n1 r1)).setCell ⟨w.heap.size + 1, 2, none⟩ (.slice p2 n2 r2)) = w11 at *
    have Kw11 : Chg (w.heap.size + 1) (w.heap.size + 1 + 1) w10 w11 := by subst hW5; exact qCh
    have Xw11 : Ext w w11 := by subst hW5; exact qXt
    replace ea0 := Kw11.cell (by omega) ea0
    replace eb0 := Kw11.cell (by omega) eb0
    replace va0 := Kw11.cell (by omega) va0
    replace va1 := Kw11.cell (by omega) va1
    replace va2 := Kw11.cell (by omega) va2
    replace q0 : w11.cell? ⟨w.heap.size + 1, 0, none⟩ = some (.int .i64 mb) := by subst hW5; go_simp
    replace f_q0 : w11.frozen? ⟨w.heap.size + 1, 0, none⟩ = false := by subst hW5; go_simp
    replace q1 : w11.cell? ⟨w.heap.size + 1, 1, none⟩ = some (.slice p1 n1 r1) := by subst hW5; go_simp
    replace f_q1 : w11.frozen? ⟨w.heap.size + 1, 1, none⟩ = false := by subst hW5; go_simp
    replace q2 : w11.cell? ⟨w.heap.size + 1, 2, none⟩ = some (.slice p2 n2 r2) := by subst hW5; go_simp
    replace f_q2 : w11.frozen? ⟨w.heap.size + 1, 2, none⟩ = false := by subst hW5; go_simp
    replace yo0 := Kw11.cell (by omega) yo0
    replace f_yo0 := Kw11.frzO (by omega) z_yo f_yo0
    replace yo1 := Kw11.cell (by omega) yo1
    replace f_yo1 := Kw11.frzO (by omega) z_yo f_yo1
    replace yo2 := Kw11.cell (by omega) yo2
    replace f_yo2 := Kw11.frzO (by omega) z_yo f_yo2
    replace o1 := o1.chg Kw11 (by omega)
    replace o2 := o2.chg Kw11 (by omega)
    clear Kw11
    have z_ea : bs < w11.heap.size := qB ea0
    have z_eb : bt < w11.heap.size := qB eb0
    have z_va : w.heap.size < w11.heap.size := qB va0
    have z_q : w.heap.size + 1 < w11.heap.size := qB q0
    have z_yo : w3.heap.size < w11.heap.size := qB yo0
    have s_w11 : w.heap.size ≤ w11.heap.size := Xw11.size
    clear hW5
    refine bodyPost_ret (v := .tuple #[.agg #[.int .i64 mb, .slice p1 n1 r1, .slice p2 n2 r2], .bool mk]) (by simp only [results, Try.results130]; go_simp) rfl ?_
    exact PVB.any (hr0.out.trans hr.out) (o1.lower (by omega)) (o2.lower (by omega)) od hl1 hl2 Xw11


end Go.Proofs.Ytpgkhjmboiepcaa

/- Walks: drawn ranges and slices. -/
namespace Go.Proofs.Ytpgkhjmboiepcaa
open Go.RowKit
set_option linter.unusedVariables false
set_option maxRecDepth 100000

end Go.Proofs.Ytpgkhjmboiepcaa

/- Walks: drawn slices. -/
namespace Go.Proofs.Ytpgkhjmboiepcaa
open Go.RowKit
set_option linter.unusedVariables false
set_option maxRecDepth 100000

/-- a slice at a block -/
def SlAt (w : World) (g : Nat) : Prop := ∃ (F T B : Int) (hf ht : Bool), w.cell? ⟨g, 0, none⟩ = some (.int .i64 F) ∧ w.cell? ⟨g, 1, none⟩ = some (.int .i64 T) ∧ w.cell? ⟨g, 2, none⟩ = some (.int .i64 B) ∧ w.cell? ⟨g, 3, none⟩ = some (.bool hf) ∧ w.cell? ⟨g, 4, none⟩ = some (.bool ht) ∧
 w.frozen? ⟨g, 0, none⟩ = false ∧ w.frozen? ⟨g, 1, none⟩ = false ∧ w.frozen? ⟨g, 2, none⟩ = false ∧ w.frozen? ⟨g, 3, none⟩ = false ∧ w.frozen? ⟨g, 4, none⟩ = false
theorem SlAt.lt {w : World} {g : Nat} (h : SlAt w g) : g < w.heap.size := by obtain ⟨F, T, B, hf, ht, h, _⟩ := h; exact qB h

set_option maxHeartbeats 6400000 in
theorem someSlice_c (rb k : Nat) (w : World) (hr : Rd w rb k) (hk : k ≤ 900000) :
  Calls Try.prog 125 #[.pointer (some ⟨rb, 0, none⟩)] w (fun e w' => ∃ (F T B : Int) (hf ht : Bool), e = .returned (.agg #[.int .i64 F, .int .i64 T, .int .i64 B, .bool hf, .bool ht]) ∧ Rd w' rb (k + 12) ∧ Chg rb (rb + 1) w w') := by
 have hlt := hr.lt
 have X := Rch.refl rb w
 go_enter Try.func125, Try.ntmps125
 go_wp2_with fail
 refine (oneLit_c _ _ _ rb _ _ (by repeat (first | (with_reducible exact hr) | (with_reducible apply Rd.drewN) | (with_reducible apply Rd.drew) | (with_reducible apply Rd.alloc) | ((with_reducible apply Rd.set2); (· first | assumption | (simp; omega) | (simp; done) | omega)))) (by omega) (by rfl) (by rfl) (by constructor <;> simp) (by first | rfl | simp)).mono ?_; rintro e w1 ⟨x1, rfl, hxm, hr, hC⟩; have X : Rch rb w w1 := Rch.step (by (try change Rch rb w _); repeat (first | (with_reducible exact X) | (with_reducible exact Rch.refl _ _) | (with_reducible apply Rch.drewN) | (with_reducible apply Rch.drew) | (with_reducible apply Rch.alloc) | (with_reducible refine Rch.set ?_ (by first | assumption | (simp <;> omega) | omega) _))) hC; have S := hC.size; (try simp at S); have zz : w.heap.size < w1.heap.size := (by omega); have zl := Nat.le_of_lt zz; have cc := hC.cell (b := w.heap.size) (o := 0) (.inr (by omega)) qGs; have ff : w1.frozen? ⟨w.heap.size, 0, none⟩ = false := (Rch.frule hC w.heap.size 0 (by omega) (by first | (simp <;> omega) | omega)).trans qFz; have cc := hC.cell (b := w.heap.size) (o := 1) (.inr (by omega)) qGs; have ff : w1.frozen? ⟨w.heap.size, 1, none⟩ = false := (Rch.frule hC w.heap.size 1 (by omega) (by first | (simp <;> omega) | omega)).trans qFz; have cc := hC.cell (b := w.heap.size) (o := 2) (.inr (by omega)) qGs; have ff : w1.frozen? ⟨w.heap.size, 2, none⟩ = false := (Rch.frule hC w.heap.size 2 (by omega) (by first | (simp <;> omega) | omega)).trans qFz; have cc := hC.cell (b := w.heap.size) (o := 3) (.inr (by omega)) qGs; have ff : w1.frozen? ⟨w.heap.size, 3, none⟩ = false := (Rch.frule hC w.heap.size 3 (by omega) (by first | (simp <;> omega) | omega)).trans qFz; have cc := hC.cell (b := w.heap.size) (o := 4) (.inr (by omega)) qGs; have ff : w1.frozen? ⟨w.heap.size, 4, none⟩ = false := (Rch.frule hC w.heap.size 4 (by omega) (by first | (simp <;> omega) | omega)).trans qFz; clear hC
 have h1 : rb < w1.heap.size := by omega
 go_wp2_with fail
 refine (pick1_c _ rb _ _ (by repeat (first | (with_reducible exact hr) | (with_reducible apply Rd.drewN) | (with_reducible apply Rd.drew) | (with_reducible apply Rd.alloc) | ((with_reducible apply Rd.set2); (· first | assumption | (simp; omega) | (simp; done) | omega)))) (by omega) (by omega)).mono ?_; rintro e w2 ⟨x2, rfl, ⟨hx0, hx1⟩, hr, hC⟩; have X : Rch rb w w2 := Rch.step (by (try change Rch rb w _); repeat (first | (with_reducible exact X) | (with_reducible exact Rch.refl _ _) | (with_reducible apply Rch.drewN) | (with_reducible apply Rch.drew) | (with_reducible apply Rch.alloc) | (with_reducible refine Rch.set ?_ (by first | assumption | (simp <;> omega) | omega) _))) hC; have S := hC.size; (try simp at S); have zz : w.heap.size < w2.heap.size := (by omega); have zl := Nat.le_of_lt zz; have cc := hC.cell (b := w.heap.size) (o := 0) (.inr (by omega)) qGs; have ff : w2.frozen? ⟨w.heap.size, 0, none⟩ = false := (Rch.frule hC w.heap.size 0 (by omega) (by first | (simp <;> omega) | omega)).trans qFz; have cc := hC.cell (b := w.heap.size) (o := 1) (.inr (by omega)) qGs; have ff : w2.frozen? ⟨w.heap.size, 1, none⟩ = false := (Rch.frule hC w.heap.size 1 (by omega) (by first | (simp <;> omega) | omega)).trans qFz; have cc := hC.cell (b := w.heap.size) (o := 2) (.inr (by omega)) qGs; have ff : w2.frozen? ⟨w.heap.size, 2, none⟩ = false := (Rch.frule hC w.heap.size 2 (by omega) (by first | (simp <;> omega) | omega)).trans qFz; have cc := hC.cell (b := w.heap.size) (o := 3) (.inr (by omega)) qGs; have ff : w2.frozen? ⟨w.heap.size, 3, none⟩ = false := (Rch.frule hC w.heap.size 3 (by omega) (by first | (simp <;> omega) | omega)).trans qFz; have cc := hC.cell (b := w.heap.size) (o := 4) (.inr (by omega)) qGs; have ff : w2.frozen? ⟨w.heap.size, 4, none⟩ = false := (Rch.frule hC w.heap.size 4 (by omega) (by first | (simp <;> omega) | omega)).trans qFz; have zz : w1.heap.size < w2.heap.size := (by omega); have zl := Nat.le_of_lt zz; have cc := hC.cell (b := w1.heap.size) (o := 0) (.inr (by omega)) qGs; have ff : w2.frozen? ⟨w1.heap.size, 0, none⟩ = false := (Rch.frule hC w1.heap.size 0 (by omega) (by first | (simp <;> omega) | omega)).trans qFz; have cc := hC.cell (b := w1.heap.size) (o := 1) (.inr (by omega)) qGs; have ff : w2.frozen? ⟨w1.heap.size, 1, none⟩ = false := (Rch.frule hC w1.heap.size 1 (by omega) (by first | (simp <;> omega) | omega)).trans qFz; have cc := hC.cell (b := w1.heap.size) (o := 2) (.inr (by omega)) qGs; have ff : w2.frozen? ⟨w1.heap.size, 2, none⟩ = false := (Rch.frule hC w1.heap.size 2 (by omega) (by first | (simp <;> omega) | omega)).trans qFz; have cc := hC.cell (b := w1.heap.size) (o := 3) (.inr (by omega)) qGs; have ff : w2.frozen? ⟨w1.heap.size, 3, none⟩ = false := (Rch.frule hC w1.heap.size 3 (by omega) (by first | (simp <;> omega) | omega)).trans qFz; have cc := hC.cell (b := w1.heap.size) (o := 4) (.inr (by omega)) qGs; have ff : w2.frozen? ⟨w1.heap.size, 4, none⟩ = false := (Rch.frule hC w1.heap.size 4 (by omega) (by first | (simp <;> omega) | omega)).trans qFz; clear hC
 go_upto_if 10 with fail
 go_cut [] (fun wx => SlAt wx w1.heap.size ∧ SlAt wx w.heap.size ∧ Rd wx rb (k+4) ∧ Rch rb w wx)
 case first =>
  go_wp2_with (first | (go_at_call 52; refine (pick1_c _ rb _ _ (by repeat (first | (with_reducible exact hr) | (with_reducible apply Rd.drewN) | (with_reducible apply Rd.drew) | (with_reducible apply Rd.alloc) | ((with_reducible apply Rd.set2); (· first | assumption | (simp; omega) | (simp; done) | omega)))) (by omega) (by omega)).mono ?_; rintro e wn ⟨x, rfl, ⟨hx0, hx1⟩, hr, hC⟩; have X : Rch rb w wn := Rch.step (by (try change Rch rb w _); repeat (first | (with_reducible exact X) | (with_reducible exact Rch.refl _ _) | (with_reducible apply Rch.drewN) | (with_reducible apply Rch.drew) | (with_reducible apply Rch.alloc) | (with_reducible refine Rch.set ?_ (by first | assumption | (simp <;> omega) | omega) _))) hC; have S := hC.size; (try simp at S); have zz : w.heap.size < wn.heap.size := (by omega); have zl := Nat.le_of_lt zz; have cc := hC.cell (b := w.heap.size) (o := 0) (.inr (by omega)) qGs; have ff : wn.frozen? ⟨w.heap.size, 0, none⟩ = false := (Rch.frule hC w.heap.size 0 (by omega) (by first | (simp <;> omega) | omega)).trans qFz; have cc := hC.cell (b := w.heap.size) (o := 1) (.inr (by omega)) qGs; have ff : wn.frozen? ⟨w.heap.size, 1, none⟩ = false := (Rch.frule hC w.heap.size 1 (by omega) (by first | (simp <;> omega) | omega)).trans qFz; have cc := hC.cell (b := w.heap.size) (o := 2) (.inr (by omega)) qGs; have ff : wn.frozen? ⟨w.heap.size, 2, none⟩ = false := (Rch.frule hC w.heap.size 2 (by omega) (by first | (simp <;> omega) | omega)).trans qFz; have cc := hC.cell (b := w.heap.size) (o := 3) (.inr (by omega)) qGs; have ff : wn.frozen? ⟨w.heap.size, 3, none⟩ = false := (Rch.frule hC w.heap.size 3 (by omega) (by first | (simp <;> omega) | omega)).trans qFz; have cc := hC.cell (b := w.heap.size) (o := 4) (.inr (by omega)) qGs; have ff : wn.frozen? ⟨w.heap.size, 4, none⟩ = false := (Rch.frule hC w.heap.size 4 (by omega) (by first | (simp <;> omega) | omega)).trans qFz; have zz : w1.heap.size < wn.heap.size := (by omega); have zl := Nat.le_of_lt zz; have cc := hC.cell (b := w1.heap.size) (o := 0) (.inr (by omega)) qGs; have ff : wn.frozen? ⟨w1.heap.size, 0, none⟩ = false := (Rch.frule hC w1.heap.size 0 (by omega) (by first | (simp <;> omega) | omega)).trans qFz; have cc := hC.cell (b := w1.heap.size) (o := 1) (.inr (by omega)) qGs; have ff : wn.frozen? ⟨w1.heap.size, 1, none⟩ = false := (Rch.frule hC w1.heap.size 1 (by omega) (by first | (simp <;> omega) | omega)).trans qFz; have cc := hC.cell (b := w1.heap.size) (o := 2) (.inr (by omega)) qGs; have ff : wn.frozen? ⟨w1.heap.size, 2, none⟩ = false := (Rch.frule hC w1.heap.size 2 (by omega) (by first | (simp <;> omega) | omega)).trans qFz; have cc := hC.cell (b := w1.heap.size) (o := 3) (.inr (by omega)) qGs; have ff : wn.frozen? ⟨w1.heap.size, 3, none⟩ = false := (Rch.frule hC w1.heap.size 3 (by omega) (by first | (simp <;> omega) | omega)).trans qFz; have cc := hC.cell (b := w1.heap.size) (o := 4) (.inr (by omega)) qGs; have ff : wn.frozen? ⟨w1.heap.size, 4, none⟩ = false := (Rch.frule hC w1.heap.size 4 (by omega) (by first | (simp <;> omega) | omega)).trans qFz; clear hC) | (go_at_call 51; refine (oneLit_c _ _ _ rb _ _ (by repeat (first | (with_reducible exact hr) | (with_reducible apply Rd.drewN) | (with_reducible apply Rd.drew) | (with_reducible apply Rd.alloc) | ((with_reducible apply Rd.set2); (· first | assumption | (simp; omega) | (simp; done) | omega)))) (by omega) (by rfl) (by rfl) (by constructor <;> simp) (by first | rfl | simp)).mono ?_; rintro e wn ⟨x, rfl, hxm, hr, hC⟩; have X : Rch rb w wn := Rch.step (by (try change Rch rb w _); repeat (first | (with_reducible exact X) | (with_reducible exact Rch.refl _ _) | (with_reducible apply Rch.drewN) | (with_reducible apply Rch.drew) | (with_reducible apply Rch.alloc) | (with_reducible refine Rch.set ?_ (by first | assumption | (simp <;> omega) | omega) _))) hC; have S := hC.size; (try simp at S); have zz : w.heap.size < wn.heap.size := (by omega); have zl := Nat.le_of_lt zz; have cc := hC.cell (b := w.heap.size) (o := 0) (.inr (by omega)) qGs; have ff : wn.frozen? ⟨w.heap.size, 0, none⟩ = false := (Rch.frule hC w.heap.size 0 (by omega) (by first | (simp <;> omega) | omega)).trans qFz; have cc := hC.cell (b := w.heap.size) (o := 1) (.inr (by omega)) qGs; have ff : wn.frozen? ⟨w.heap.size, 1, none⟩ = false := (Rch.frule hC w.heap.size 1 (by omega) (by first | (simp <;> omega) | omega)).trans qFz; have cc := hC.cell (b := w.heap.size) (o := 2) (.inr (by omega)) qGs; have ff : wn.frozen? ⟨w.heap.size, 2, none⟩ = false := (Rch.frule hC w.heap.size 2 (by omega) (by first | (simp <;> omega) | omega)).trans qFz; have cc := hC.cell (b := w.heap.size) (o := 3) (.inr (by omega)) qGs; have ff : wn.frozen? ⟨w.heap.size, 3, none⟩ = false := (Rch.frule hC w.heap.size 3 (by omega) (by first | (simp <;> omega) | omega)).trans qFz; have cc := hC.cell (b := w.heap.size) (o := 4) (.inr (by omega)) qGs; have ff : wn.frozen? ⟨w.heap.size, 4, none⟩ = false := (Rch.frule hC w.heap.size 4 (by omega) (by first | (simp <;> omega) | omega)).trans qFz; have zz : w1.heap.size < wn.heap.size := (by omega); have zl := Nat.le_of_lt zz; have cc := hC.cell (b := w1.heap.size) (o := 0) (.inr (by omega)) qGs; have ff : wn.frozen? ⟨w1.heap.size, 0, none⟩ = false := (Rch.frule hC w1.heap.size 0 (by omega) (by first | (simp <;> omega) | omega)).trans qFz; have cc := hC.cell (b := w1.heap.size) (o := 1) (.inr (by omega)) qGs; have ff : wn.frozen? ⟨w1.heap.size, 1, none⟩ = false := (Rch.frule hC w1.heap.size 1 (by omega) (by first | (simp <;> omega) | omega)).trans qFz; have cc := hC.cell (b := w1.heap.size) (o := 2) (.inr (by omega)) qGs; have ff : wn.frozen? ⟨w1.heap.size, 2, none⟩ = false := (Rch.frule hC w1.heap.size 2 (by omega) (by first | (simp <;> omega) | omega)).trans qFz; have cc := hC.cell (b := w1.heap.size) (o := 3) (.inr (by omega)) qGs; have ff : wn.frozen? ⟨w1.heap.size, 3, none⟩ = false := (Rch.frule hC w1.heap.size 3 (by omega) (by first | (simp <;> omega) | omega)).trans qFz; have cc := hC.cell (b := w1.heap.size) (o := 4) (.inr (by omega)) qGs; have ff : wn.frozen? ⟨w1.heap.size, 4, none⟩ = false := (Rch.frule hC w1.heap.size 4 (by omega) (by first | (simp <;> omega) | omega)).trans qFz; clear hC))
  all_goals
   go_meet
   case rel => exact ⟨⟨_, _, _, _, _, qGs, qGs, qGs, qGs, qGs, (by first | (go_simp; done) | (simp; done) | assumption), (by first | (go_simp; done) | (simp; done) | assumption), (by first | (go_simp; done) | (simp; done) | assumption), (by first | (go_simp; done) | (simp; done) | assumption), (by first | (go_simp; done) | (simp; done) | assumption)⟩, ⟨_, _, _, _, _, qGs, qGs, qGs, qGs, qGs, (by first | (go_simp; done) | (simp; done) | assumption), (by first | (go_simp; done) | (simp; done) | assumption), (by first | (go_simp; done) | (simp; done) | assumption), (by first | (go_simp; done) | (simp; done) | assumption), (by first | (go_simp; done) | (simp; done) | assumption)⟩, Rd.mono (by repeat (first | (with_reducible exact hr) | (with_reducible apply Rd.drewN) | (with_reducible apply Rd.drew) | (with_reducible apply Rd.alloc) | ((with_reducible apply Rd.set2); (· first | assumption | (simp; omega) | (simp; done) | omega)))) (by omega), (by (try change Rch rb w _); repeat (first | (with_reducible exact X) | (with_reducible exact Rch.refl _ _) | (with_reducible apply Rch.drewN) | (with_reducible apply Rch.drew) | (with_reducible apply Rch.alloc) | (with_reducible refine Rch.set ?_ (by first | assumption | (simp <;> omega) | omega) _)))⟩
 case rest =>
  obtain ⟨g1, g2, hr, X⟩ := hcut
  have z1 := g1.lt
  have z2 := g2.lt
  obtain ⟨F, T, B, hf, ht, c0, c1, c2, c3, c4, f0, f1, f2, f3, f4⟩ := g1
  obtain ⟨F', T', B', hf', ht', c0', c1', c2', c3', c4', f0', f1', f2', f3', f4'⟩ := g2
  go_wp2_with fail
  refine (pick1_c _ rb _ _ (by repeat (first | (with_reducible exact hr) | (with_reducible apply Rd.drewN) | (with_reducible apply Rd.drew) | (with_reducible apply Rd.alloc) | ((with_reducible apply Rd.set2); (· first | assumption | (simp; omega) | (simp; done) | omega)))) (by omega) (by omega)).mono ?_; rintro e w3 ⟨x3, rfl, ⟨hx0, hx1⟩, hr, hC⟩; have X : Rch rb w w3 := Rch.step (by (try change Rch rb w _); repeat (first | (with_reducible exact X) | (with_reducible exact Rch.refl _ _) | (with_reducible apply Rch.drewN) | (with_reducible apply Rch.drew) | (with_reducible apply Rch.alloc) | (with_reducible refine Rch.set ?_ (by first | assumption | (simp <;> omega) | omega) _))) hC; have S := hC.size; (try simp at S); have zz : w.heap.size < w3.heap.size := (by omega); have zl := Nat.le_of_lt zz; have cc := hC.cell (b := w.heap.size) (o := 0) (.inr (by omega)) qGs; have ff : w3.frozen? ⟨w.heap.size, 0, none⟩ = false := (Rch.frule hC w.heap.size 0 (by omega) (by first | (simp <;> omega) | omega)).trans qFz; have cc := hC.cell (b := w.heap.size) (o := 1) (.inr (by omega)) qGs; have ff : w3.frozen? ⟨w.heap.size, 1, none⟩ = false := (Rch.frule hC w.heap.size 1 (by omega) (by first | (simp <;> omega) | omega)).trans qFz; have cc := hC.cell (b := w.heap.size) (o := 2) (.inr (by omega)) qGs; have ff : w3.frozen? ⟨w.heap.size, 2, none⟩ = false := (Rch.frule hC w.heap.size 2 (by omega) (by first | (simp <;> omega) | omega)).trans qFz; have cc := hC.cell (b := w.heap.size) (o := 3) (.inr (by omega)) qGs; have ff : w3.frozen? ⟨w.heap.size, 3, none⟩ = false := (Rch.frule hC w.heap.size 3 (by omega) (by first | (simp <;> omega) | omega)).trans qFz; have cc := hC.cell (b := w.heap.size) (o := 4) (.inr (by omega)) qGs; have ff : w3.frozen? ⟨w.heap.size, 4, none⟩ = false := (Rch.frule hC w.heap.size 4 (by omega) (by first | (simp <;> omega) | omega)).trans qFz; have zz : w1.heap.size < w3.heap.size := (by omega); have zl := Nat.le_of_lt zz; have cc := hC.cell (b := w1.heap.size) (o := 0) (.inr (by omega)) qGs; have ff : w3.frozen? ⟨w1.heap.size, 0, none⟩ = false := (Rch.frule hC w1.heap.size 0 (by omega) (by first | (simp <;> omega) | omega)).trans qFz; have cc := hC.cell (b := w1.heap.size) (o := 1) (.inr (by omega)) qGs; have ff : w3.frozen? ⟨w1.heap.size, 1, none⟩ = false := (Rch.frule hC w1.heap.size 1 (by omega) (by first | (simp <;> omega) | omega)).trans qFz; have cc := hC.cell (b := w1.heap.size) (o := 2) (.inr (by omega)) qGs; have ff : w3.frozen? ⟨w1.heap.size, 2, none⟩ = false := (Rch.frule hC w1.heap.size 2 (by omega) (by first | (simp <;> omega) | omega)).trans qFz; have cc := hC.cell (b := w1.heap.size) (o := 3) (.inr (by omega)) qGs; have ff : w3.frozen? ⟨w1.heap.size, 3, none⟩ = false := (Rch.frule hC w1.heap.size 3 (by omega) (by first | (simp <;> omega) | omega)).trans qFz; have cc := hC.cell (b := w1.heap.size) (o := 4) (.inr (by omega)) qGs; have ff : w3.frozen? ⟨w1.heap.size, 4, none⟩ = false := (Rch.frule hC w1.heap.size 4 (by omega) (by first | (simp <;> omega) | omega)).trans qFz; clear hC
  clear c0 c1 c2 c3 c4 f0 f1 f2 f3 f4 c0' c1' c2' c3' c4' f0' f1' f2' f3' f4'
  go_upto_if 20 with fail
  go_cut [] (fun wx => SlAt wx w1.heap.size ∧ SlAt wx w.heap.size ∧ Rd wx rb (k+7) ∧ Rch rb w wx)
  case first =>
   go_wp2_with (first | (go_at_call 52; refine (pick1_c _ rb _ _ (by repeat (first | (with_reducible exact hr) | (with_reducible apply Rd.drewN) | (with_reducible apply Rd.drew) | (with_reducible apply Rd.alloc) | ((with_reducible apply Rd.set2); (· first | assumption | (simp; omega) | (simp; done) | omega)))) (by omega) (by omega)).mono ?_; rintro e wn ⟨x, rfl, ⟨hx0, hx1⟩, hr, hC⟩; have X : Rch rb w wn := Rch.step (by (try change Rch rb w _); repeat (first | (with_reducible exact X) | (with_reducible exact Rch.refl _ _) | (with_reducible apply Rch.drewN) | (with_reducible apply Rch.drew) | (with_reducible apply Rch.alloc) | (with_reducible refine Rch.set ?_ (by first | assumption | (simp <;> omega) | omega) _))) hC; have S := hC.size; (try simp at S); have zz : w.heap.size < wn.heap.size := (by omega); have zl := Nat.le_of_lt zz; have cc := hC.cell (b := w.heap.size) (o := 0) (.inr (by omega)) qGs; have ff : wn.frozen? ⟨w.heap.size, 0, none⟩ = false := (Rch.frule hC w.heap.size 0 (by omega) (by first | (simp <;> omega) | omega)).trans qFz; have cc := hC.cell (b := w.heap.size) (o := 1) (.inr (by omega)) qGs; have ff : wn.frozen? ⟨w.heap.size, 1, none⟩ = false := (Rch.frule hC w.heap.size 1 (by omega) (by first | (simp <;> omega) | omega)).trans qFz; have cc := hC.cell (b := w.heap.size) (o := 2) (.inr (by omega)) qGs; have ff : wn.frozen? ⟨w.heap.size, 2, none⟩ = false := (Rch.frule hC w.heap.size 2 (by omega) (by first | (simp <;> omega) | omega)).trans qFz; have cc := hC.cell (b := w.heap.size) (o := 3) (.inr (by omega)) qGs; have ff : wn.frozen? ⟨w.heap.size, 3, none⟩ = false := (Rch.frule hC w.heap.size 3 (by omega) (by first | (simp <;> omega) | omega)).trans qFz; have cc := hC.cell (b := w.heap.size) (o := 4) (.inr (by omega)) qGs; have ff : wn.frozen? ⟨w.heap.size, 4, none⟩ = false := (Rch.frule hC w.heap.size 4 (by omega) (by first | (simp <;> omega) | omega)).trans qFz; have zz : w1.heap.size < wn.heap.size := (by omega); have zl := Nat.le_of_lt zz; have cc := hC.cell (b := w1.heap.size) (o := 0) (.inr (by omega)) qGs; have ff : wn.frozen? ⟨w1.heap.size, 0, none⟩ = false := (Rch.frule hC w1.heap.size 0 (by omega) (by first | (simp <;> omega) | omega)).trans qFz; have cc := hC.cell (b := w1.heap.size) (o := 1) (.inr (by omega)) qGs; have ff : wn.frozen? ⟨w1.heap.size, 1, none⟩ = false := (Rch.frule hC w1.heap.size 1 (by omega) (by first | (simp <;> omega) | omega)).trans qFz; have cc := hC.cell (b := w1.heap.size) (o := 2) (.inr (by omega)) qGs; have ff : wn.frozen? ⟨w1.heap.size, 2, none⟩ = false := (Rch.frule hC w1.heap.size 2 (by omega) (by first | (simp <;> omega) | omega)).trans qFz; have cc := hC.cell (b := w1.heap.size) (o := 3) (.inr (by omega)) qGs; have ff : wn.frozen? ⟨w1.heap.size, 3, none⟩ = false := (Rch.frule hC w1.heap.size 3 (by omega) (by first | (simp <;> omega) | omega)).trans qFz; have cc := hC.cell (b := w1.heap.size) (o := 4) (.inr (by omega)) qGs; have ff : wn.frozen? ⟨w1.heap.size, 4, none⟩ = false := (Rch.frule hC w1.heap.size 4 (by omega) (by first | (simp <;> omega) | omega)).trans qFz; clear hC) | (go_at_call 51; refine (oneLit_c _ _ _ rb _ _ (by repeat (first | (with_reducible exact hr) | (with_reducible apply Rd.drewN) | (with_reducible apply Rd.drew) | (with_reducible apply Rd.alloc) | ((with_reducible apply Rd.set2); (· first | assumption | (simp; omega) | (simp; done) | omega)))) (by omega) (by rfl) (by rfl) (by constructor <;> simp) (by first | rfl | simp)).mono ?_; rintro e wn ⟨x, rfl, hxm, hr, hC⟩; have X : Rch rb w wn := Rch.step (by (try change Rch rb w _); repeat (first | (with_reducible exact X) | (with_reducible exact Rch.refl _ _) | (with_reducible apply Rch.drewN) | (with_reducible apply Rch.drew) | (with_reducible apply Rch.alloc) | (with_reducible refine Rch.set ?_ (by first | assumption | (simp <;> omega) | omega) _))) hC; have S := hC.size; (try simp at S); have zz : w.heap.size < wn.heap.size := (by omega); have zl := Nat.le_of_lt zz; have cc := hC.cell (b := w.heap.size) (o := 0) (.inr (by omega)) qGs; have ff : wn.frozen? ⟨w.heap.size, 0, none⟩ = false := (Rch.frule hC w.heap.size 0 (by omega) (by first | (simp <;> omega) | omega)).trans qFz; have cc := hC.cell (b := w.heap.size) (o := 1) (.inr (by omega)) qGs; have ff : wn.frozen? ⟨w.heap.size, 1, none⟩ = false := (Rch.frule hC w.heap.size 1 (by omega) (by first | (simp <;> omega) | omega)).trans qFz; have cc := hC.cell (b := w.heap.size) (o := 2) (.inr (by omega)) qGs; have ff : wn.frozen? ⟨w.heap.size, 2, none⟩ = false := (Rch.frule hC w.heap.size 2 (by omega) (by first | (simp <;> omega) | omega)).trans qFz; have cc := hC.cell (b := w.heap.size) (o := 3) (.inr (by omega)) qGs; have ff : wn.frozen? ⟨w.heap.size, 3, none⟩ = false := (Rch.frule hC w.heap.size 3 (by omega) (by first | (simp <;> omega) | omega)).trans qFz; have cc := hC.cell (b := w.heap.size) (o := 4) (.inr (by omega)) qGs; have ff : wn.frozen? ⟨w.heap.size, 4, none⟩ = false := (Rch.frule hC w.heap.size 4 (by omega) (by first | (simp <;> omega) | omega)).trans qFz; have zz : w1.heap.size < wn.heap.size := (by omega); have zl := Nat.le_of_lt zz; have cc := hC.cell (b := w1.heap.size) (o := 0) (.inr (by omega)) qGs; have ff : wn.frozen? ⟨w1.heap.size, 0, none⟩ = false := (Rch.frule hC w1.heap.size 0 (by omega) (by first | (simp <;> omega) | omega)).trans qFz; have cc := hC.cell (b := w1.heap.size) (o := 1) (.inr (by omega)) qGs; have ff : wn.frozen? ⟨w1.heap.size, 1, none⟩ = false := (Rch.frule hC w1.heap.size 1 (by omega) (by first | (simp <;> omega) | omega)).trans qFz; have cc := hC.cell (b := w1.heap.size) (o := 2) (.inr (by omega)) qGs; have ff : wn.frozen? ⟨w1.heap.size, 2, none⟩ = false := (Rch.frule hC w1.heap.size 2 (by omega) (by first | (simp <;> omega) | omega)).trans qFz; have cc := hC.cell (b := w1.heap.size) (o := 3) (.inr (by omega)) qGs; have ff : wn.frozen? ⟨w1.heap.size, 3, none⟩ = false := (Rch.frule hC w1.heap.size 3 (by omega) (by first | (simp <;> omega) | omega)).trans qFz; have cc := hC.cell (b := w1.heap.size) (o := 4) (.inr (by omega)) qGs; have ff : wn.frozen? ⟨w1.heap.size, 4, none⟩ = false := (Rch.frule hC w1.heap.size 4 (by omega) (by first | (simp <;> omega) | omega)).trans qFz; clear hC))
   all_goals
    go_meet
    case rel => exact ⟨⟨_, _, _, _, _, qGs, qGs, qGs, qGs, qGs, (by first | (go_simp; done) | (simp; done) | assumption), (by first | (go_simp; done) | (simp; done) | assumption), (by first | (go_simp; done) | (simp; done) | assumption), (by first | (go_simp; done) | (simp; done) | assumption), (by first | (go_simp; done) | (simp; done) | assumption)⟩, ⟨_, _, _, _, _, qGs, qGs, qGs, qGs, qGs, (by first | (go_simp; done) | (simp; done) | assumption), (by first | (go_simp; done) | (simp; done) | assumption), (by first | (go_simp; done) | (simp; done) | assumption), (by first | (go_simp; done) | (simp; done) | assumption), (by first | (go_simp; done) | (simp; done) | assumption)⟩, Rd.mono (by repeat (first | (with_reducible exact hr) | (with_reducible apply Rd.drewN) | (with_reducible apply Rd.drew) | (with_reducible apply Rd.alloc) | ((with_reducible apply Rd.set2); (· first | assumption | (simp; omega) | (simp; done) | omega)))) (by omega), (by (try change Rch rb w _); repeat (first | (with_reducible exact X) | (with_reducible exact Rch.refl _ _) | (with_reducible apply Rch.drewN) | (with_reducible apply Rch.drew) | (with_reducible apply Rch.alloc) | (with_reducible refine Rch.set ?_ (by first | assumption | (simp <;> omega) | omega) _)))⟩
  case rest =>
   obtain ⟨g1, g2, hr, X⟩ := hcut
   have z1 := g1.lt
   have z2 := g2.lt
   obtain ⟨F, T, B, hf, ht, c0, c1, c2, c3, c4, f0, f1, f2, f3, f4⟩ := g1
   obtain ⟨F', T', B', hf', ht', c0', c1', c2', c3', c4', f0', f1', f2', f3', f4'⟩ := g2
   go_wp2_with fail
   refine (pick1_c _ rb _ _ (by repeat (first | (with_reducible exact hr) | (with_reducible apply Rd.drewN) | (with_reducible apply Rd.drew) | (with_reducible apply Rd.alloc) | ((with_reducible apply Rd.set2); (· first | assumption | (simp; omega) | (simp; done) | omega)))) (by omega) (by omega)).mono ?_; rintro e w4 ⟨x4, rfl, ⟨hx0, hx1⟩, hr, hC⟩; have X : Rch rb w w4 := Rch.step (by (try change Rch rb w _); repeat (first | (with_reducible exact X) | (with_reducible exact Rch.refl _ _) | (with_reducible apply Rch.drewN) | (with_reducible apply Rch.drew) | (with_reducible apply Rch.alloc) | (with_reducible refine Rch.set ?_ (by first | assumption | (simp <;> omega) | omega) _))) hC; have S := hC.size; (try simp at S); have zz : w.heap.size < w4.heap.size := (by omega); have zl := Nat.le_of_lt zz; have cc := hC.cell (b := w.heap.size) (o := 0) (.inr (by omega)) qGs; have ff : w4.frozen? ⟨w.heap.size, 0, none⟩ = false := (Rch.frule hC w.heap.size 0 (by omega) (by first | (simp <;> omega) | omega)).trans qFz; have cc := hC.cell (b := w.heap.size) (o := 1) (.inr (by omega)) qGs; have ff : w4.frozen? ⟨w.heap.size, 1, none⟩ = false := (Rch.frule hC w.heap.size 1 (by omega) (by first | (simp <;> omega) | omega)).trans qFz; have cc := hC.cell (b := w.heap.size) (o := 2) (.inr (by omega)) qGs; have ff : w4.frozen? ⟨w.heap.size, 2, none⟩ = false := (Rch.frule hC w.heap.size 2 (by omega) (by first | (simp <;> omega) | omega)).trans qFz; have cc := hC.cell (b := w.heap.size) (o := 3) (.inr (by omega)) qGs; have ff : w4.frozen? ⟨w.heap.size, 3, none⟩ = false := (Rch.frule hC w.heap.size 3 (by omega) (by first | (simp <;> omega) | omega)).trans qFz; have cc := hC.cell (b := w.heap.size) (o := 4) (.inr (by omega)) qGs; have ff : w4.frozen? ⟨w.heap.size, 4, none⟩ = false := (Rch.frule hC w.heap.size 4 (by omega) (by first | (simp <;> omega) | omega)).trans qFz; have zz : w1.heap.size < w4.heap.size := (by omega); have zl := Nat.le_of_lt zz; have cc := hC.cell (b := w1.heap.size) (o := 0) (.inr (by omega)) qGs; have ff : w4.frozen? ⟨w1.heap.size, 0, none⟩ = false := (Rch.frule hC w1.heap.size 0 (by omega) (by first | (simp <;> omega) | omega)).trans qFz; have cc := hC.cell (b := w1.heap.size) (o := 1) (.inr (by omega)) qGs; have ff : w4.frozen? ⟨w1.heap.size, 1, none⟩ = false := (Rch.frule hC w1.heap.size 1 (by omega) (by first | (simp <;> omega) | omega)).trans qFz; have cc := hC.cell (b := w1.heap.size) (o := 2) (.inr (by omega)) qGs; have ff : w4.frozen? ⟨w1.heap.size, 2, none⟩ = false := (Rch.frule hC w1.heap.size 2 (by omega) (by first | (simp <;> omega) | omega)).trans qFz; have cc := hC.cell (b := w1.heap.size) (o := 3) (.inr (by omega)) qGs; have ff : w4.frozen? ⟨w1.heap.size, 3, none⟩ = false := (Rch.frule hC w1.heap.size 3 (by omega) (by first | (simp <;> omega) | omega)).trans qFz; have cc := hC.cell (b := w1.heap.size) (o := 4) (.inr (by omega)) qGs; have ff : w4.frozen? ⟨w1.heap.size, 4, none⟩ = false := (Rch.frule hC w1.heap.size 4 (by omega) (by first | (simp <;> omega) | omega)).trans qFz; clear hC
   clear c0 c1 c2 c3 c4 f0 f1 f2 f3 f4 c0' c1' c2' c3' c4' f0' f1' f2' f3' f4'
   go_upto_block 0 with fail
   go_cut [] (fun wx => SlAt wx w1.heap.size ∧ SlAt wx w.heap.size ∧ Rd wx rb (k+9) ∧ Rch rb w wx)
   case first =>
    go_wp2_with (first | (go_at_call 51; refine (oneLit_c _ _ _ rb _ _ (by repeat (first | (with_reducible exact hr) | (with_reducible apply Rd.drewN) | (with_reducible apply Rd.drew) | (with_reducible apply Rd.alloc) | ((with_reducible apply Rd.set2); (· first | assumption | (simp; omega) | (simp; done) | omega)))) (by omega) (by rfl) (by rfl) (by constructor <;> simp) (by first | rfl | simp)).mono ?_; rintro e wn ⟨x, rfl, hxm, hr, hC⟩; have X : Rch rb w wn := Rch.step (by (try change Rch rb w _); repeat (first | (with_reducible exact X) | (with_reducible exact Rch.refl _ _) | (with_reducible apply Rch.drewN) | (with_reducible apply Rch.drew) | (with_reducible apply Rch.alloc) | (with_reducible refine Rch.set ?_ (by first | assumption | (simp <;> omega) | omega) _))) hC; have S := hC.size; (try simp at S); have zz : w.heap.size < wn.heap.size := (by omega); have zl := Nat.le_of_lt zz; have cc := hC.cell (b := w.heap.size) (o := 0) (.inr (by omega)) qGs; have ff : wn.frozen? ⟨w.heap.size, 0, none⟩ = false := (Rch.frule hC w.heap.size 0 (by omega) (by first | (simp <;> omega) | omega)).trans qFz; have cc := hC.cell (b := w.heap.size) (o := 1) (.inr (by omega)) qGs; have ff : wn.frozen? ⟨w.heap.size, 1, none⟩ = false := (Rch.frule hC w.heap.size 1 (by omega) (by first | (simp <;> omega) | omega)).trans qFz; have cc := hC.cell (b := w.heap.size) (o := 2) (.inr (by omega)) qGs; have ff : wn.frozen? ⟨w.heap.size, 2, none⟩ = false := (Rch.frule hC w.heap.size 2 (by omega) (by first | (simp <;> omega) | omega)).trans qFz; have cc := hC.cell (b := w.heap.size) (o := 3) (.inr (by omega)) qGs; have ff : wn.frozen? ⟨w.heap.size, 3, none⟩ = false := (Rch.frule hC w.heap.size 3 (by omega) (by first | (simp <;> omega) | omega)).trans qFz; have cc := hC.cell (b := w.heap.size) (o := 4) (.inr (by omega)) qGs; have ff : wn.frozen? ⟨w.heap.size, 4, none⟩ = false := (Rch.frule hC w.heap.size 4 (by omega) (by first | (simp <;> omega) | omega)).trans qFz; have zz : w1.heap.size < wn.heap.size := (by omega); have zl := Nat.le_of_lt zz; have cc := hC.cell (b := w1.heap.size) (o := 0) (.inr (by omega)) qGs; have ff : wn.frozen? ⟨w1.heap.size, 0, none⟩ = false := (Rch.frule hC w1.heap.size 0 (by omega) (by first | (simp <;> omega) | omega)).trans qFz; have cc := hC.cell (b := w1.heap.size) (o := 1) (.inr (by omega)) qGs; have ff : wn.frozen? ⟨w1.heap.size, 1, none⟩ = false := (Rch.frule hC w1.heap.size 1 (by omega) (by first | (simp <;> omega) | omega)).trans qFz; have cc := hC.cell (b := w1.heap.size) (o := 2) (.inr (by omega)) qGs; have ff : wn.frozen? ⟨w1.heap.size, 2, none⟩ = false := (Rch.frule hC w1.heap.size 2 (by omega) (by first | (simp <;> omega) | omega)).trans qFz; have cc := hC.cell (b := w1.heap.size) (o := 3) (.inr (by omega)) qGs; have ff : wn.frozen? ⟨w1.heap.size, 3, none⟩ = false := (Rch.frule hC w1.heap.size 3 (by omega) (by first | (simp <;> omega) | omega)).trans qFz; have cc := hC.cell (b := w1.heap.size) (o := 4) (.inr (by omega)) qGs; have ff : wn.frozen? ⟨w1.heap.size, 4, none⟩ = false := (Rch.frule hC w1.heap.size 4 (by omega) (by first | (simp <;> omega) | omega)).trans qFz; clear hC))
    all_goals
     go_meet
     case rel => exact ⟨⟨_, _, _, _, _, qGs, qGs, qGs, qGs, qGs, (by first | (go_simp; done) | (simp; done) | assumption), (by first | (go_simp; done) | (simp; done) | assumption), (by first | (go_simp; done) | (simp; done) | assumption), (by first | (go_simp; done) | (simp; done) | assumption), (by first | (go_simp; done) | (simp; done) | assumption)⟩, ⟨_, _, _, _, _, qGs, qGs, qGs, qGs, qGs, (by first | (go_simp; done) | (simp; done) | assumption), (by first | (go_simp; done) | (simp; done) | assumption), (by first | (go_simp; done) | (simp; done) | assumption), (by first | (go_simp; done) | (simp; done) | assumption), (by first | (go_simp; done) | (simp; done) | assumption)⟩, Rd.mono (by repeat (first | (with_reducible exact hr) | (with_reducible apply Rd.drewN) | (with_reducible apply Rd.drew) | (with_reducible apply Rd.alloc) | ((with_reducible apply Rd.set2); (· first | assumption | (simp; omega) | (simp; done) | omega)))) (by omega), (by (try change Rch rb w _); repeat (first | (with_reducible exact X) | (with_reducible exact Rch.refl _ _) | (with_reducible apply Rch.drewN) | (with_reducible apply Rch.drew) | (with_reducible apply Rch.alloc) | (with_reducible refine Rch.set ?_ (by first | assumption | (simp <;> omega) | omega) _)))⟩
   case rest =>
    obtain ⟨g1, g2, hr, X⟩ := hcut
    have z1 := g1.lt
    have z2 := g2.lt
    obtain ⟨F, T, B, hf, ht, c0, c1, c2, c3, c4, f0, f1, f2, f3, f4⟩ := g1
    obtain ⟨F', T', B', hf', ht', c0', c1', c2', c3', c4', f0', f1', f2', f3', f4'⟩ := g2
    go_wp2_with fail
    refine bodyPost_ret (v := .agg #[.int .i64 F, .int .i64 T, .int .i64 B, .bool hf, .bool ht]) (by simp only [results, Try.results125]; go_simp) rfl ⟨_, _, _, _, _, rfl, Rd.mono (by repeat (first | (with_reducible exact hr) | (with_reducible apply Rd.drewN) | (with_reducible apply Rd.drew) | (with_reducible apply Rd.alloc) | ((with_reducible apply Rd.set2); (· first | assumption | (simp; omega) | (simp; done) | omega)))) (by omega), (by (try change Rch rb w _); repeat (first | (with_reducible exact X) | (with_reducible exact Rch.refl _ _) | (with_reducible apply Rch.drewN) | (with_reducible apply Rch.drew) | (with_reducible apply Rch.alloc) | (with_reducible refine Rch.set ?_ (by first | assumption | (simp <;> omega) | omega) _)))⟩

end Go.Proofs.Ytpgkhjmboiepcaa

/- Walks: drawn shapes. -/
namespace Go.Proofs.Ytpgkhjmboiepcaa
open Go.RowKit
set_option linter.unusedVariables false
set_option maxRecDepth 100000

theorem Below.chg {B : Nat} {a b : World} (h : Below B a b) : Chg B a.heap.size a b :=
  ⟨h.os, h.tape, h.output, h.size, fun k hk hd => by
    rcases hd with hd | hd
    · exact h.block k hd
    · omega⟩
theorem Rd.below {B : Nat} {a b : World} {rb k : Nat} (h : Rd a rb k) (hb : Below B a b) (hl : rb < B) : Rd b rb k := h.chgO (Below.chg hb) hl
theorem Rch.below {rb : Nat} {w a b : World} (h : Chg rb (rb + 1) w a) (hb : Below w.heap.size a b) : Chg rb (rb + 1) w b :=
  ⟨hb.os.trans h.os, hb.tape.trans h.tape, hb.output.trans h.output, Nat.le_trans h.size hb.size, fun k hk hd => (hb.block k hk).trans (h.block k hk hd)⟩

set_option maxHeartbeats 3200000 in
theorem goodShape_c (rb k : Nat) (w : World) (hr : Rd w rb k) (hk : k ≤ 900000) :
    Calls Try.prog 123 #[.pointer (some ⟨rb, 0, none⟩)] w (fun e w' => ∃ v xs, e = .returned v ∧ OwnI w' w.heap.size v xs ∧ xs.length ≤ 4 ∧ Rd w' rb (k + 8) ∧ Chg rb (rb + 1) w w') := by
  have hlt := hr.lt
  go_enter Try.func123, Try.ntmps123
  go_wp2_with fail
  refine (oneLit_c _ _ _ rb _ _ (by repeat (first | (with_reducible exact hr) | (with_reducible apply Rd.drewN) | (with_reducible apply Rd.drew) | (with_reducible apply Rd.alloc) | ((with_reducible apply Rd.set2); (· first | assumption | (simp; omega) | (simp; done) | omega)))) (by omega) (by rfl) (by rfl) (by constructor <;> simp) (by first | rfl | simp)).mono ?_
  rintro e w1 ⟨n, rfl, hn, hr1, hC1⟩
  have hn' : 0 ≤ n ∧ n ≤ 4 := by simp [litL] at hn; omega
  clear hn
  obtain ⟨m, rfl⟩ : ∃ m : Nat, n = m := ⟨n.toNat, by omega⟩
  have ho1 : OwnI w1 w.heap.size (.slice (some ⟨w.heap.size, 0, none⟩) 0 0) [] := ((OwnI.lit0 w w.heap.size (Nat.le_refl _)).ext qXo).chg hC1 hlt
  have hX1 : Chg rb (rb + 1) w w1 := Chg.trans (Chg.of_ext qXo) hC1
  clear hC1
  go_wp2_with fail
  go_loopw [3, 4] (fun v i wr => ∃ (q m : Nat) (xs : List Int), i = .int .i64 m ∧ xs.length + m ≤ 4 ∧ OwnI wr w.heap.size v xs ∧ Rd wr rb q ∧ q + m ≤ k + 6 ∧ Chg rb (rb + 1) w wr) (fun _ i _ => (intOf i).toNat)
  case atStart => exact ⟨k + 1, m, [], rfl, by simp; omega, ho1, hr1, by omega, hX1⟩
  case round =>
    obtain ⟨q, m, xs, rfl, hl, ho, hr, hq, hX⟩ := hrel
    have hz : w.heap.size ≤ wr.heap.size := hX.size
    cases m with
    | succ m =>
      have hI : (0 : Int) < ((m + 1 : Nat) : Int) := by omega
      have hI2 : ((m + 1 : Nat) : Int) - 1 = (m : Int) := by omega
      go_wp2_with fail
      refine (oneLit_c _ _ _ rb _ _ (by repeat (first | (with_reducible exact hr) | (with_reducible apply Rd.drewN) | (with_reducible apply Rd.drew) | (with_reducible apply Rd.alloc) | ((with_reducible apply Rd.set2); (· first | assumption | (simp; omega) | (simp; done) | omega)))) (by omega) (by rfl) (by rfl) (by constructor <;> simp) (by first | rfl | simp)).mono ?_
      rintro e w2 ⟨x, rfl, hx, hr2, hC2⟩
      have ho2 := (ho.ext qXo).chg hC2 hlt
      have hX2 : Chg rb (rb + 1) w w2 := (hX.ext qXo).trans hC2
      have hz2 : w.heap.size ≤ w2.heap.size := hX2.size
      have i2 := ho2.ints (by omega)
      clear hC2 hX ho hr hx
      go_wp2_with fail
      refine (count_c xs _ _ _ i2).mono ?_
      rintro e w' ⟨rfl, rfl⟩
      clear i2
      replace ho2 := Lib.hid ho2
      replace hX2 := Lib.hid hX2
      replace hr2 := Lib.hid hr2
      generalize countL xs = cc
      go_wp2_with (at_builtin; refine wpList_app rfl (.tmp 22) (.tmp 24) rfl rfl rfl (ho2.out.ext ((Ext.refl _).alloc _)) (Ints.one _ 0 _ (Nat.zero_le _)) (by simp only [List.length_cons, List.length_nil]; omega) (by simp; omega) ?_; intro v' w3 ho3 _ hb3 _; replace ho3 := Lib.hid ho3)
      · go_roundw
        case rel => exact ⟨q + 1, m, xs ++ [x], by first | rfl | go_num, by simp; omega, ho3.out, (hr2.out.alloc _).below hb3 hlt, by omega, Rch.below (hX2.out.ext qXo) hb3⟩
        case measure => simp [intOf]
      · go_roundw
        case rel => exact ⟨q + 1, m, xs, by first | rfl | go_num, by omega, ho2.out, hr2.out, by omega, hX2.out⟩
        case measure => simp [intOf]
    | zero =>
      replace ho := Lib.hid ho
      replace hX := Lib.hid hX
      go_wp2_with fail
      go_ret
      exact ⟨_, xs, rfl, ho.out, by omega, hr.mono (by omega), hX.out⟩

end Go.Proofs.Ytpgkhjmboiepcaa

/- Words for drawn views: a view in a block, with rows of its own. No condition. -/
namespace Go.Proofs.Ytpgkhjmboiepcaa
open Go.RowKit
set_option linter.unusedVariables false
set_option maxRecDepth 100000

/-- a view lies in block g; its rows are the call's own, from block B on, not g -/
structure VAt (B g : Nat) (w : World) (b : Int) (u v : Value) (s t : List Int) : Prop where
  c0 : w.cell? ⟨g, 0, none⟩ = some (.int .i64 b)
  c1 : w.cell? ⟨g, 1, none⟩ = some u
  c2 : w.cell? ⟨g, 2, none⟩ = some v
  f0 : w.frozen? ⟨g, 0, none⟩ = false
  f1 : w.frozen? ⟨g, 1, none⟩ = false
  f2 : w.frozen? ⟨g, 2, none⟩ = false
  o1 : OwnZ w B u s
  o2 : OwnZ w B v t
  sep : s ≠ [] → t ≠ [] → u.ownBlock ≠ v.ownBlock
  n1 : s ≠ [] → u.ownBlock ≠ some g
  n2 : t ≠ [] → v.ownBlock ≠ some g
  fit : t.length = s.length
  le : s.length ≤ 4
section
variable {B g rb lo hi : Nat} {w w' : World} {b : Int} {u v : Value} {s t : List Int}
theorem VAt.lt (h : VAt B g w b u v s t) : g < w.heap.size := qB h.c0
theorem VAt.ext (h : VAt B g w b u v s t) (x : Ext w w') : VAt B g w' b u v s t :=
  ⟨x.cell h.c0, x.cell h.c1, x.cell h.c2, x.frz h.lt h.f0, x.frz h.lt h.f1, x.frz h.lt h.f2, h.o1.ext x, h.o2.ext x, h.sep, h.n1, h.n2, h.fit, h.le⟩
theorem VAt.rch (h : VAt B g w b u v s t) (k : Chg rb (rb + 1) w w') (h1 : rb < B) (h2 : rb < g) : VAt B g w' b u v s t :=
  ⟨k.cell (by omega) h.c0, k.cell (by omega) h.c1, k.cell (by omega) h.c2, k.frzO (by omega) h.lt h.f0, k.frzO (by omega) h.lt h.f1, k.frzO (by omega) h.lt h.f2, h.o1.chg k (by omega), h.o2.chg k (by omega), h.sep, h.n1, h.n2, h.fit, h.le⟩
/-- another block has turned, behind the rows and the view -/
theorem VAt.chgB (h : VAt B g w b u v s t) (k : Chg lo hi w w') (hg : g < lo) (h1 : s ≠ [] → ∀ q, u.ownBlock = some q → q < lo) (h2 : t ≠ [] → ∀ q, v.ownBlock = some q → q < lo) : VAt B g w' b u v s t :=
  ⟨k.cell (by omega) h.c0, k.cell (by omega) h.c1, k.cell (by omega) h.c2, k.frzO (by omega) h.lt h.f0, k.frzO (by omega) h.lt h.f1, k.frzO (by omega) h.lt h.f2, h.o1.chgB k h1, h.o2.chgB k h2, h.sep, h.n1, h.n2, h.fit, h.le⟩
/-- another block has turned, ahead of the rows, not the view's -/
theorem VAt.chg (h : VAt B g w b u v s t) (k : Chg lo hi w w') (hg : g < lo ∨ hi ≤ g) (hb : hi ≤ B) : VAt B g w' b u v s t :=
  ⟨k.cell hg h.c0, k.cell hg h.c1, k.cell hg h.c2, k.frzO hg h.lt h.f0, k.frzO hg h.lt h.f1, k.frzO hg h.lt h.f2, h.o1.chg k hb, h.o2.chg k hb, h.sep, h.n1, h.n2, h.fit, h.le⟩
theorem VAt.lower (h : VAt B g w b u v s t) {B' : Nat} (hb : B' ≤ B) : VAt B' g w b u v s t := ⟨h.c0, h.c1, h.c2, h.f0, h.f1, h.f2, h.o1.lower hb, h.o2.lower hb, h.sep, h.n1, h.n2, h.fit, h.le⟩
theorem VAt.new (b : Int) (o1 : OwnZ w B u s) (o2 : OwnZ w B v t) (hs : s ≠ [] → t ≠ [] → u.ownBlock ≠ v.ownBlock) (hf : t.length = s.length) (hl : s.length ≤ 4) : VAt B w.heap.size (w.alloc (.cells #[.int .i64 b, u, v] 25)) b u v s t :=
  ⟨by simp, by simp, by simp, by simp, by simp, by simp, o1.ext ((Ext.refl w).alloc _), o2.ext ((Ext.refl w).alloc _), hs, (fun h e => by have := o1.bound h _ e; omega), (fun h e => by have := o2.bound h _ e; omega), hf, hl⟩
theorem VAt.setBase (h : VAt B g w b u v s t) (x : Int) : VAt B g (w.setCell ⟨g, 0, none⟩ (.int .i64 x)) x u v s t := by
  have k : Chg g (g + 1) w (w.setCell ⟨g, 0, none⟩ (.int .i64 x)) := (Chg.refl g (g + 1) w).setCell (p := ⟨g, 0, none⟩) (Nat.le_refl _) (Nat.lt_succ_self _) _
  obtain ⟨c0, c1, c2, f0, f1, f2, o1, o2, hs, n1, n2, hf, hl⟩ := h
  have kz : ∀ {y : Value} {xs : List Int}, OwnZ w B y xs → (xs ≠ [] → y.ownBlock ≠ some g) → OwnZ (w.setCell ⟨g, 0, none⟩ (.int .i64 x)) B y xs := by
    intro y xs o n
    rcases o with ho | ho
    · exact .inl ho
    · by_cases hx : xs = []
      · subst hx
        have : y.ownBlock ≠ some g ∨ y.ownBlock = some g := by by_cases h : y.ownBlock = some g; exact .inr h; exact .inl h
        rcases ho.2 with h2 | ⟨g', cap, cur, rfl, hb, hh, r⟩
        · exact .inr ⟨ho.1, .inl h2⟩
        · refine .inl ⟨rfl, some ⟨g', 0, none⟩, cap, rfl, r.2.1, fun h => by cases h⟩
      · obtain ⟨g', cap, e, _⟩ := ho.row hx
        subst e
        have : g' ≠ g := fun h => n hx (by rw [h]; rfl)
        exact .inr (ho.chgN k (by omega))
  exact ⟨by go_simp, by go_simp, by go_simp, by go_simp, by go_simp, by go_simp, kz o1 n1, kz o2 n2, hs, n1, n2, hf, hl⟩
end
/-- a view is stored into a block that lies ahead of its rows -/
theorem VAt.put {B g : Nat} {w : World} {b b0 : Int} {u v u0 v0 : Value} {s t : List Int} (c0 : w.cell? ⟨g, 0, none⟩ = some (.int .i64 b0)) (c1 : w.cell? ⟨g, 1, none⟩ = some u0) (c2 : w.cell? ⟨g, 2, none⟩ = some v0)
    (f0 : w.frozen? ⟨g, 0, none⟩ = false) (f1 : w.frozen? ⟨g, 1, none⟩ = false) (f2 : w.frozen? ⟨g, 2, none⟩ = false) (o1 : OwnZ w B u s) (o2 : OwnZ w B v t) (hs : s ≠ [] → t ≠ [] → u.ownBlock ≠ v.ownBlock) (hf : t.length = s.length) (hl : s.length ≤ 4) (hg : g < B) :
    VAt B g (((w.setCell ⟨g, 0, none⟩ (.int .i64 b)).setCell ⟨g, 1, none⟩ u).setCell ⟨g, 2, none⟩ v) b u v s t := by
  have k := Chg.three (lo := g) w (.int .i64 b) u v
  have m1 : s ≠ [] → u.ownBlock ≠ some g := fun h e => by obtain ⟨q, e2, h2, _⟩ := o1.lt h; rw [e2] at e; cases e; omega
  have m2 : t ≠ [] → v.ownBlock ≠ some g := fun h e => by obtain ⟨q, e2, h2, _⟩ := o2.lt h; rw [e2] at e; cases e; omega
  exact ⟨by go_simp, by go_simp, by go_simp, by go_simp, by go_simp, by go_simp, o1.chg k (by omega), o2.chg k (by omega), hs, m1, m2, hf, hl⟩

/-- a view that is told to be one has a dimension -/
def VBool.live (x : VBool) : Prop := x.2.2.2 = true → x.2.1 ≠ []
theorem noV_live : VBool.live noV := fun h => by cases h
theorem madeV_live {b : Int} {s t : List Int} (h : s ≠ []) : VBool.live (madeV b s t) := by
  unfold madeV; split
  · exact fun _ => h
  · exact noV_live
theorem sliceV_live {b : Int} {s t : List Int} {d F T B : Int} {hf ht : Bool} (h : s ≠ []) : VBool.live (sliceV b s t d F T B hf ht) := by
  unfold sliceV; split
  · exact fun _ h2 => h (by simpa [cutS] using h2)
  · exact noV_live
theorem permV_live {b : Int} {s t ord : List Int} (h : s ≠ []) : VBool.live (permV b s t ord) := by
  unfold permV; split
  · rename_i hh
    simp only [Bool.and_eq_true, orderB, decide_eq_true_eq] at hh
    refine madeV_live fun h2 => h ?_
    have h3 := congrArg List.length h2
    rw [takL_len] at h3
    have := hh.2.1
    exact List.eq_nil_of_length_eq_zero (by simp at h3; rw [h3] at this; simp at this; omega)
  · exact noV_live
theorem addV_live {b : Int} {s t : List Int} {d : Int} : VBool.live (addV b s t d) := by
  unfold addV; split
  · exact madeV_live (by simp [insL])
  · exact noV_live
theorem winV_live {b : Int} {s t : List Int} {d n : Int} : VBool.live (winV b s t d n) := by
  unfold winV; split
  · exact madeV_live (by simp)
  · exact noV_live
/-- a call hands back a view with a bool: as many strides as extents, no more than four -/
def PFit (w : World) (e : Ending) (w' : World) : Prop :=
  ∃ (b : Int) (s t : List Int) (ok : Bool) (p1 p2 : Option Addr) (n1 r1 n2 r2 : Nat), e = .returned (.tuple #[.agg #[.int .i64 b, .slice p1 n1 r1, .slice p2 n2 r2], .bool ok]) ∧ OwnZ w' w.heap.size (.slice p1 n1 r1) s ∧ OwnZ w' w.heap.size (.slice p2 n2 r2) t ∧
    (s ≠ [] → t ≠ [] → (Value.slice p1 n1 r1).ownBlock ≠ (Value.slice p2 n2 r2).ownBlock) ∧ t.length = s.length ∧ (s.length ≤ 4 ∧ (ok = true → s ≠ [])) ∧ Ext w w'
theorem PFit.of {w w' : World} {e : Ending} {x : VBool} (h : PVB w x e w') (hf : x.fit) (hv : x.live) : PFit w e w' := by
  obtain ⟨b, s, t, ok⟩ := x
  obtain ⟨sh, st, rfl, -, -, o1, o2, od, xx⟩ := h
  obtain ⟨p1, n1, r1, rfl⟩ := o1.form
  obtain ⟨p2, n2, r2, rfl⟩ := o2.form
  exact ⟨b, s, t, ok, p1, p2, n1, r1, n2, r2, rfl, o1, o2, od, hf.1, ⟨hf.2, hv⟩, xx⟩
theorem newT_len (xs : List Int) : (newT xs).length = (newS xs).length := by
  unfold newT newS; split
  · split
    · simp
    · rw [rowS_len]
  · rfl
theorem newS_le {xs : List Int} (h : xs.length ≤ 4) : (newS xs).length ≤ 4 := by unfold newS; split; exact h; simp

theorem OwnZ.setRow {B g n c d : Nat} {w : World} {xs : List Int} (h : OwnZ w B (.slice (some ⟨g, 0, none⟩) n c) xs) (hd : d < xs.length) (x : Int) : OwnZ (w.setCell ⟨g, d, none⟩ (.int .i64 x)) B (.slice (some ⟨g, 0, none⟩) n c) (xs.set d x) :=
  .inr ((h.ofNe (by intro h; subst h; simp at hd)).set d x hd)
theorem OwnZ.otherRow {B g d : Nat} {w : World} {y : Value} {xs : List Int} (h : OwnZ w B y xs) (hne : xs ≠ [] → y.ownBlock ≠ some g) (x : Value) (hy : xs = [] → ∃ a c, y = .slice a 0 c ∧ c ≤ maxLen ∧ (a = none → c = 0)) : OwnZ (w.setCell ⟨g, d, none⟩ x) B y xs := by
  by_cases hx : xs = []
  · subst hx; obtain ⟨a, c, e, h1, h2⟩ := hy rfl; exact .inl ⟨rfl, a, c, e, h1, h2⟩
  · obtain ⟨g', cap, e, _⟩ := (h.ofNe hx).row hx
    subst e
    have k : Chg g (g + 1) w (w.setCell ⟨g, d, none⟩ x) := (Chg.refl g (g + 1) w).setCell (p := ⟨g, d, none⟩) (Nat.le_refl _) (Nat.lt_succ_self _) _
    have : g' ≠ g := fun h => hne hx (by rw [h]; rfl)
    exact .inr ((h.ofNe hx).chgN k (by omega))
theorem VAt.setT {B g g2 n2 r2 d : Nat} {w : World} {b : Int} {u : Value} {s t : List Int} (h : VAt B g w b u (.slice (some ⟨g2, 0, none⟩) n2 r2) s t) (hd : d < t.length) (x : Int) : VAt B g (w.setCell ⟨g2, d, none⟩ (.int .i64 x)) b u (.slice (some ⟨g2, 0, none⟩) n2 r2) s (t.set d x) := by
  have hne : t ≠ [] := by intro h; subst h; simp at hd
  have hg : g2 ≠ g := fun e => h.n2 hne (by rw [e]; rfl)
  have k : Chg g2 (g2 + 1) w (w.setCell ⟨g2, d, none⟩ (.int .i64 x)) := (Chg.refl g2 (g2 + 1) w).setCell (p := ⟨g2, d, none⟩) (Nat.le_refl _) (Nat.lt_succ_self _) _
  have hset : t.set d x ≠ [] := by intro e; have := congrArg List.length e; simp at this; exact hne (by simpa using this)
  have hsn : s ≠ [] := by intro e; have := h.fit; rw [e] at this; exact hne (List.eq_nil_of_length_eq_zero this)
  refine ⟨k.cell (by omega) h.c0, k.cell (by omega) h.c1, k.cell (by omega) h.c2, k.frzO (by omega) h.lt h.f0, k.frzO (by omega) h.lt h.f1, k.frzO (by omega) h.lt h.f2, ?_, h.o2.setRow hd x, fun a _ => h.sep a hne, h.n1, fun _ => h.n2 hne, by rw [List.length_set]; exact h.fit, h.le⟩
  exact h.o1.otherRow (fun a e => h.sep a hne (by rw [e]; rfl)) _ (fun e => absurd e hsn)

/-- the state behind the choice of the next view -/
def NextAt (rb q gn gv : Nat) (w : World) (b : Int) (u v : Value) (s t : List Int) (ok : Value) (wx : World) : Prop :=
  ∃ (o : Bool) (b' : Int) (s' t' : List Int) (p1 p2 : Option Addr) (m1 r1 m2 r2 : Nat), ok = .bool o ∧ (o = true → s' ≠ []) ∧ VAt (gn + 1) gn wx b' (.slice p1 m1 r1) (.slice p2 m2 r2) s' t' ∧ VAt (w.heap.size + 1) gv wx b u v s t ∧
    VAt (w.heap.size + 1) w.heap.size wx 0 (.slice none 0 0) (.slice none 0 0) [] [] ∧ Rd wx rb (q + 20) ∧ Rch rb w wx
theorem NextAt.put {rb q gn gv B0 B m1 r1 m2 r2 : Nat} {w w12 : World} {b bn b' : Int} {u v un vn : Value} {p1 p2 : Option Addr} {s t sn tn s' t' : List Int} (o : Bool) (VN : VAt B0 gn w12 bn un vn sn tn) (V : VAt (w.heap.size + 1) gv w12 b u v s t)
    (Q : VAt (w.heap.size + 1) w.heap.size w12 0 (.slice none 0 0) (.slice none 0 0) [] []) (hr : Rd w12 rb (q + 20)) (X : Rch rb w w12) (h1 : rb < w.heap.size) (h2 : w.heap.size < gv) (h3 : gv < gn)
    (hb1 : s ≠ [] → ∀ g, u.ownBlock = some g → g < gn) (hb2 : t ≠ [] → ∀ g, v.ownBlock = some g → g < gn) (o1 : OwnZ w12 B (.slice p1 m1 r1) s') (o2 : OwnZ w12 B (.slice p2 m2 r2) t') (hs : s' ≠ [] → t' ≠ [] → (Value.slice p1 m1 r1).ownBlock ≠ (Value.slice p2 m2 r2).ownBlock) (hf : t'.length = s'.length) (hl : s'.length ≤ 4 ∧ (o = true → s' ≠ [])) (hB : gn < B) :
    NextAt rb q gn gv w b u v s t (.bool o) (((w12.setCell ⟨gn, 0, none⟩ (.int .i64 b')).setCell ⟨gn, 1, none⟩ (.slice p1 m1 r1)).setCell ⟨gn, 2, none⟩ (.slice p2 m2 r2)) :=
  ⟨o, b', s', t', p1, p2, m1, r1, m2, r2, rfl, hl.2, VAt.put VN.c0 VN.c1 VN.c2 VN.f0 VN.f1 VN.f2 (o1.lower hB) (o2.lower hB) hs hf hl.1 (Nat.lt_succ_self _), V.chgB (Chg.three w12 _ _ _) h3 hb1 hb2,
    Q.chgB (Chg.three w12 _ _ _) (by omega) (fun h => absurd rfl h) (fun h => absurd rfl h),
    Rd.set2 (show rb < gn by omega) (Rd.set2 (show rb < gn by omega) (Rd.set2 (show rb < gn by omega) hr)),
    ((X.set (show w.heap.size ≤ gn by omega) _).set (show w.heap.size ≤ gn by omega) _).set (show w.heap.size ≤ gn by omega) _⟩

end Go.Proofs.Ytpgkhjmboiepcaa

/- Walks: NewView of the reference: an empty row of strides has no capacity. -/
namespace Go.Proofs.Ytpgkhjmboiepcaa
open Go.RowKit
set_option linter.unusedVariables false
set_option maxRecDepth 100000

set_option maxHeartbeats 800000 in
theorem srowStrides2_c (xs : List Int) (v : Value) (w : World) (lo : Nat) (hv : Ints w lo v xs) (hs : Small xs) :
    Calls Try.prog 143 #[v] w (fun e w' => ∃ c, e = .returned (.slice (some ⟨w.heap.size, 0, none⟩) (rowS xs).length c) ∧ ((rowS xs).length = 0 → c = 0) ∧ Ints w' w.heap.size (.slice (some ⟨w.heap.size, 0, none⟩) (rowS xs).length c) (rowS xs) ∧ OwnZ w' w.heap.size (.slice (some ⟨w.heap.size, 0, none⟩) (rowS xs).length c) (rowS xs) ∧ Ext w w') := by
  obtain ⟨a, cap, rfl, hlc, hcm, ⟨hlen, _⟩, hc⟩ := hv
  obtain ⟨i0, hi, hz0, hz1, hz2⟩ := info_parts infoInt
  have hsb := Lib.hid (fun j : Nat => (hs.drop j).count)
  have hse := Lib.hid hs.2
  clear hs
  go_enter Try.func143, Try.ntmps143
  go_wp2_with (at_make; refine wpList_make_full _ rfl _ _ 23 rfl w.heap.size 3 i0 (.int .i64 0) 1 Try.underlying23 hi hz0 hz1 .i64 .i64 _ _ xs.length rfl rfl rfl rfl (by rw [hz2]; omega) (by unfold maxLen; omega) (Nat.le_refl _) ?_)
  intro w1 hown hgr
  have hx : Ext w w1 := (Ext.refl w).grown hgr (by simp)
  rw [made_ints] at hown
  clear hgr
  go_wp2_with fail
  go_loopw [4, 5] (fun kk i wr => ∃ j : Nat, j ≤ xs.length ∧ i = .int .i64 ((j : Int) - 1) ∧ kk = .int .i64 (prodL (xs.drop j)) ∧
      wr.ownsRow w.heap.size 3 1 (.slice (some ⟨w.heap.size, 0, none⟩) xs.length xs.length) xs.length ((List.replicate j 0 ++ rowS (xs.drop j)).map (Value.int .i64)) ∧ Ext w wr)
    (fun _ i _ => (intOf i + 1).toNat)
  case atStart => exact ⟨xs.length, Nat.le_refl _, by go_num, by simp [prodL], by simpa [rowS] using hown, hx⟩
  case round =>
    obtain ⟨j, hj, rfl, rfl, ho, hxr⟩ := hrel
    cases j with
    | zero =>
      go_wp2_with fail
      go_ret
      have hO : OwnI wr w.heap.size (.slice (some ⟨w.heap.size, 0, none⟩) xs.length xs.length) (rowS xs) := by unfold OwnI; rw [rowS_len]; simpa using ho
      have hz : (rowS xs).length = xs.length := rowS_len xs
      exact ⟨xs.length, (by rw [hz]; rfl), (fun h => by omega), by rw [hz]; exact hO.ints (by omega), by rw [hz]; exact hO.z, hxr⟩
    | succ m =>
      rw [show ((m + 1 : Nat) : Int) - 1 = (m : Int) by omega]
      obtain ⟨b, off, rfl, _, hcell, _⟩ := hc m (by omega)
      have hcell' := hxr.cell hcell
      have hbl : b < w.heap.size := qB hcell
      have hne : b ≠ w.heap.size := by omega
      have hne2 : w.heap.size ≠ b := by omega
      obtain ⟨hoc, hof⟩ := own_cell ho m (by omega)
      have hb1 := hsb.out (m+1)
      have he := hse.out (xs.getD m 0) (by simp [show m < xs.length by omega])
      have hp := prodL_drop xs m (by omega)
      have hpb : 0 ≤ prodL (xs.drop (m+1)) ∧ prodL (xs.drop (m+1)) ≤ 12960000 := by rw [← hb1.1]; exact ⟨hb1.2.1, hb1.2.2.1⟩
      have hmb := mul_bd2 he.1 he.2 hpb.1 hpb.2
      have hst := Lib.hid (own_set ho m (prodL (xs.drop (m+1))) (by omega))
      have hrs := Lib.hid (rowS_drop xs m (by omega))
      have hmI : (m : Int) < xs.length := by omega
      have hp' := Lib.hid hp
      generalize hg : xs.getD m 0 = q at *
      replace hg := Lib.hid hg
      have W1 : IntKind.i64.wrap (prodL (xs.drop (m+1)) * q) = prodL (xs.drop (m+1)) * q := IntWalk.i64_in _ (by omega)
      clear hc ho hb1 hp he
      go_wp2_with fail
      go_roundw
      case rel =>
        refine ⟨m, by omega, rfl, by rw [hp'.out, Int.mul_comm], ?_, hxr.setCell (Nat.le_refl _) _⟩
        have := hst.out
        rw [hrs.out]
        rw [set_rep] at this
        simpa using this
      case measure => simp [intOf]

def PViewE (w : World) (b : Int) (s t : List Int) (e : Ending) (w' : World) : Prop := PView w b s t e w' ∧ (t = [] → ∃ b' u a, e = .returned (.agg #[b', u, .slice a 0 0]))
set_option maxHeartbeats 3200000 in
theorem newView2_c (xs : List Int) (v : Value) (w : World) (lo : Nat) (hv : Ints w lo v xs) :
    Calls Try.prog 122 #[v] w (PViewE w 0 (newS xs) (newT xs)) := by
  have hlen := ints_len hv
  cases h1 : shapeB xs
  · have hS := Lib.hid (show newS xs = [] by unfold newS; rw [h1]; rfl)
    have hT := Lib.hid (show newT xs = [] by unfold newT; rw [h1]; rfl)
    go_enter Try.func122, Try.ntmps122
    go_wp2_with fail
    refine (validShape_c xs _ _ lo (hv.ext qXo)).mono ?_
    rintro e w' ⟨rfl, rfl⟩
    rw [h1]
    go_wp2_with fail
    refine bodyPost_ret (v := .agg #[.int .i64 0, .slice none 0 0, .slice none 0 0]) (by simp only [results, Try.results122]; go_simp) rfl ?_
    rw [hS.out, hT.out]
    exact ⟨PView.no qXt, fun _ => ⟨_, _, none, rfl⟩⟩
  · have hsm := Lib.hid (Small.of h1)
    have hS := Lib.hid (show newS xs = xs by unfold newS; rw [h1]; rfl)
    by_cases h2 : countL xs = 0
    · have hT := Lib.hid (show newT xs = List.replicate xs.length 0 by unfold newT; rw [h1, if_pos rfl, if_pos h2])
      have h1' := Lib.hid h1
      have h2' := Lib.hid h2
      have hmk := mk_ints xs.length hlen
      clear h1 h2
      obtain ⟨a, c, rfl⟩ := hv.form
      go_enter Try.func122, Try.ntmps122
      go_wp2_with fail
      refine (validShape_c xs _ _ lo (hv.ext qXo)).mono ?_
      rintro e w' ⟨rfl, rfl⟩
      rw [h1'.out]
      go_wp2_with fail
      refine (count_c xs _ _ lo (hv.ext qXo)).mono ?_
      rintro e w' ⟨rfl, rfl⟩
      rw [h2'.out]
      go_wp2_with fail
      have hx0 : Ext w (w.alloc (.cells #[.int .i64 0, .slice none 0 0, .slice none 0 0] 25)) := (Ext.refl _).alloc _
      have k0 : (w.alloc (.cells #[.int .i64 0, .slice none 0 0, .slice none 0 0] 25)).cell? ⟨w.heap.size, 0, none⟩ = some (.int .i64 0) := by simp
      have k1 : (w.alloc (.cells #[.int .i64 0, .slice none 0 0, .slice none 0 0] 25)).cell? ⟨w.heap.size, 1, none⟩ = some (.slice none 0 0) := by simp
      have k2 : (w.alloc (.cells #[.int .i64 0, .slice none 0 0, .slice none 0 0] 25)).cell? ⟨w.heap.size, 2, none⟩ = some (.slice none 0 0) := by simp
      have f0 : (w.alloc (.cells #[.int .i64 0, .slice none 0 0, .slice none 0 0] 25)).frozen? ⟨w.heap.size, 0, none⟩ = false := by simp
      have f1 : (w.alloc (.cells #[.int .i64 0, .slice none 0 0, .slice none 0 0] 25)).frozen? ⟨w.heap.size, 1, none⟩ = false := by simp
      have f2 : (w.alloc (.cells #[.int .i64 0, .slice none 0 0, .slice none 0 0] 25)).frozen? ⟨w.heap.size, 2, none⟩ = false := by simp
      have z0 : w.heap.size < (w.alloc (.cells #[.int .i64 0, .slice none 0 0, .slice none 0 0] 25)).heap.size := by simp
      revert hx0 k0 k1 k2 f0 f1 f2 z0
      generalize w.alloc (.cells #[.int .i64 0, .slice none 0 0, .slice none 0 0] 25) = w0
      intro hx0 k0 k1 k2 f0 f1 f2 z0
      go_region_held3 (fun _ => True) (trivial)
        (first | (go_at_call 42; refine (copyInts_c xs _ _ lo (hv.ext (hx0.trans qXo))).mono ?_; rintro e w1 ⟨v1, rfl, hi1, ho1, hx1⟩; obtain ⟨p1, q1, s1, rfl⟩ := ho1.form; have X1 : Ext w0 w1 := Ext.trans qXo hx1; have R1 := X1.rule; have F1 := X1.frule; have Z1 := Nat.lt_of_lt_of_le z0 X1.size; have l0 := X1.cell k0; have l1 := X1.cell k1; have l2 := X1.cell k2; have g0 := X1.frz z0 f0; have g1 := X1.frz z0 f1; have g2 := X1.frz z0 f2))
      · go_wp2_with fail
        refine bodyPost_ret (v := .agg #[.int .i64 0, .slice p1 q1 s1, .slice (some ⟨w1.heap.size, 0, none⟩) xs.length xs.length]) (by simp only [results, Try.results122]; go_simp) rfl ?_
        rw [hS.out, hT.out]
        have XX : Ext w w1 := hx0.trans X1
        obtain ⟨n1, rfl⟩ : ∃ n, q1 = n := ⟨_, rfl⟩
        have hb1 := ho1.bound
        have ho2 := fun x y z => (OwnI.made (((w1.setCell ⟨w.heap.size, 0, none⟩ x).setCell ⟨w.heap.size, 1, none⟩ y).setCell ⟨w.heap.size, 2, none⟩ z) w1.heap.size xs.length (by simp) hlen).z
        simp only [World.size_setCell] at ho2
        refine ⟨?_, fun h => ⟨_, _, _, by rw [show xs.length = 0 by simpa using congrArg List.length h]⟩⟩
        exact PView.two (b1 := w.heap.size + 1) (b2 := w1.heap.size) (m := w1.heap.size) (((ho1.lower (by simp <;> omega)).chg (Chg.three _ _ _ _) (Nat.le_refl _)).ext ((Ext.refl _).alloc _)) (ho2 _ _ _) (by omega) (by omega) (.inl ⟨hb1, Nat.le_refl _⟩) hlen (by simp; exact hlen) qXt
      · go_wp2_with fail
        refine bodyPost_ret (v := .agg #[.int .i64 0, .slice p1 q1 s1, .slice (some ⟨w0.heap.size, 0, none⟩) xs.length xs.length]) (by simp only [results, Try.results122]; go_simp) rfl ?_
        rw [hS.out, hT.out]
        have XX : Ext w w1 := hx0.trans X1
        have ho2 := ((OwnI.made w0 w0.heap.size xs.length (Nat.le_refl _) hlen).z).ext (show Ext _ w1 from Ext.trans qXo hx1)
        refine ⟨?_, fun h => ⟨_, _, _, by rw [show xs.length = 0 by simpa using congrArg List.length h]⟩⟩
        exact PView.two (b1 := w0.heap.size + 1) (b2 := w0.heap.size) (m := w0.heap.size + 1) ((ho1.lower (by simp)).chg (Chg.three _ _ _ _) (by omega)) (ho2.chg (Chg.three _ _ _ _) z0) (by omega) (by omega) (.inr ⟨fun _ g hg => by simp [Value.ownBlock] at hg; omega, Nat.le_refl _⟩) hlen (by simp; exact hlen) qXt
    · have hT := Lib.hid (show newT xs = rowS xs by unfold newT; rw [h1, if_pos rfl, if_neg h2])
      have h1' := Lib.hid h1
      have h2' : (countL xs == 0) = false := by simpa using h2
      clear h1 h2
      obtain ⟨a, c, rfl⟩ := hv.form
      go_enter Try.func122, Try.ntmps122
      go_wp2_with fail
      refine (validShape_c xs _ _ lo (hv.ext qXo)).mono ?_
      rintro e w' ⟨rfl, rfl⟩
      rw [h1'.out]
      go_wp2_with fail
      refine (count_c xs _ _ lo (hv.ext qXo)).mono ?_
      rintro e w' ⟨rfl, rfl⟩
      go_wp2_with fail
      refine (copyInts_c xs _ _ lo (hv.ext qXo)).mono ?_
      rintro e w1 ⟨v1, rfl, i1, o1, x1⟩
      have X1 : Ext w w1 := Ext.trans qXo x1
      obtain ⟨a1, c1, rfl⟩ := i1.form
      have k0 := x1.cell (p := ⟨w.heap.size, 0, none⟩) (v := .int .i64 0) (by simp)
      have k1 := x1.cell (p := ⟨w.heap.size, 1, none⟩) (v := .slice none 0 0) (by simp)
      have k2 := x1.cell (p := ⟨w.heap.size, 2, none⟩) (v := .slice none 0 0) (by simp)
      have f0 : w1.frozen? ⟨w.heap.size, 0, none⟩ = false := x1.frz (by simp) (by simp)
      have f1 : w1.frozen? ⟨w.heap.size, 1, none⟩ = false := x1.frz (by simp) (by simp)
      have f2 : w1.frozen? ⟨w.heap.size, 2, none⟩ = false := x1.frz (by simp) (by simp)
      have z1 : w.heap.size < w1.heap.size := qB k0
      go_wp2_with fail
      refine (srowStrides2_c xs _ _ lo (hv.ext X1) hsm.out).mono ?_
      rintro e w2 ⟨c2, rfl, hcz, i2, o2, x2⟩
      replace hcz := Lib.hid hcz
      replace k0 := x2.cell k0
      replace k1 := x2.cell k1
      replace k2 := x2.cell k2
      replace f0 := x2.frz z1 f0
      replace f1 := x2.frz z1 f1
      replace f2 := x2.frz z1 f2
      have hb1 := o1.bound
      have o1' := o1.ext x2
      have z2 : w.heap.size < w2.heap.size := by have := x2.size; omega
      clear i1 i2
      go_wp2_with fail
      refine bodyPost_ret (v := .agg #[.int .i64 0, .slice a1 xs.length c1, .slice (some ⟨w1.heap.size, 0, none⟩) (rowS xs).length c2]) (by simp only [results, Try.results122]; go_simp) rfl ?_
      rw [hS.out, hT.out]
      have X2 : Ext w w2 := X1.trans x2
      have K : Chg w.heap.size (w.heap.size + 1) w2 (((w2.setCell ⟨w.heap.size, 0, none⟩ (.int .i64 0)).setCell ⟨w.heap.size, 1, none⟩ (.slice a1 xs.length c1)).setCell ⟨w.heap.size, 2, none⟩ (.slice (some ⟨w1.heap.size, 0, none⟩) (rowS xs).length c2)) :=
        (((Chg.refl _ _ _).setCell (p := ⟨w.heap.size, 0, none⟩) (Nat.le_refl _) (Nat.lt_succ_self _) _).setCell (p := ⟨w.heap.size, 1, none⟩) (Nat.le_refl _) (Nat.lt_succ_self _) _).setCell (p := ⟨w.heap.size, 2, none⟩) (Nat.le_refl _) (Nat.lt_succ_self _) _
      refine ⟨?_, fun h => ⟨_, _, _, by rw [hcz.out (by rw [h]; rfl), show (rowS xs).length = 0 by rw [h]; rfl]⟩⟩
      exact PView.two (b1 := w.heap.size + 1) (b2 := w1.heap.size) (m := w1.heap.size) ((o1'.lower (by simp)).chg K (Nat.le_refl _)) (o2.chg K z1) (by omega) (by omega) (.inl ⟨hb1, Nat.le_refl _⟩) hlen (by rw [rowS_len]; exact hlen) qXt

/-- strides of an empty shape: none, and no capacity -/
theorem PViewE.open {w w' : World} {b : Int} {s t : List Int} {e : Ending} (h : PViewE w b s t e w') : ∃ (p1 p2 : Option Addr) (n1 r1 n2 r2 : Nat), e = .returned (.agg #[.int .i64 b, .slice p1 n1 r1, .slice p2 n2 r2]) ∧ OwnZ w' w.heap.size (.slice p1 n1 r1) s ∧ OwnZ w' w.heap.size (.slice p2 n2 r2) t ∧
    (s ≠ [] → t ≠ [] → (Value.slice p1 n1 r1).ownBlock ≠ (Value.slice p2 n2 r2).ownBlock) ∧ (t = [] → n2 = 0 ∧ r2 = 0) ∧ Ext w w' := by
  obtain ⟨⟨sh, st, rfl, -, -, o1, o2, od, x⟩, hE⟩ := h
  obtain ⟨p1, n1, r1, rfl⟩ := o1.form
  obtain ⟨p2, n2, r2, rfl⟩ := o2.form
  refine ⟨p1, p2, n1, r1, n2, r2, rfl, o1, o2, od, fun ht => ?_, x⟩
  obtain ⟨b', u, a, h⟩ := hE ht
  simp at h
  exact ⟨h.2.2.2.1, h.2.2.2.2⟩

end Go.Proofs.Ytpgkhjmboiepcaa

/- Walks: a drawn view. -/
namespace Go.Proofs.Ytpgkhjmboiepcaa
open Go.RowKit
set_option linter.unusedVariables false
set_option maxRecDepth 100000


/-- a drawn view comes back -/
def GView (rb k : Nat) (w : World) (e : Ending) (w' : World) : Prop := ∃ (b : Int) (s t : List Int) (p1 p2 : Option Addr) (n1 r1 n2 r2 : Nat), e = .returned (.agg #[.int .i64 b, .slice p1 n1 r1, .slice p2 n2 r2]) ∧
 OwnZ w' w.heap.size (.slice p1 n1 r1) s ∧ OwnZ w' w.heap.size (.slice p2 n2 r2) t ∧ (s ≠ [] → t ≠ [] → (Value.slice p1 n1 r1).ownBlock ≠ (Value.slice p2 n2 r2).ownBlock) ∧ t.length = s.length ∧ (s.length ≤ 4 ∧ (s = [] → n2 = 0 ∧ r2 = 0)) ∧ Rd w' rb k ∧ Chg rb (rb + 1) w w'
theorem VAt.open {B g : Nat} {w : World} {b : Int} {u v : Value} {s t : List Int} (h : VAt B g w b u v s t) : ∃ a1 c1 a2 c2, u = .slice a1 s.length c1 ∧ v = .slice a2 t.length c2 := by
 obtain ⟨a1, c1, h1⟩ := (h.o1.ints (by have := h.le; omega)).form
 obtain ⟨a2, c2, h2⟩ := (h.o2.ints (by have := h.le; have := h.fit; omega)).form
 exact ⟨a1, c1, a2, c2, h1, h2⟩

set_option maxHeartbeats 6400000 in
theorem goodView_c (rb k : Nat) (w : World) (hr : Rd w rb k) (hk : k ≤ 800000) :
  Calls Try.prog 105 #[.pointer (some ⟨rb, 0, none⟩)] w (GView rb (k + 200) w) := by
 have hlt := hr.lt
 have X := Rch.refl rb w
 go_enter Try.func105, Try.ntmps105
 go_wp2_with fail
 have Q : VAt (w.heap.size + 1) w.heap.size (w.alloc (.cells #[.int .i64 0, .slice none 0 0, .slice none 0 0] 25)) 0 (.slice none 0 0) (.slice none 0 0) [] [] :=
  VAt.new 0 (.inl ⟨rfl, none, 0, rfl, by simp, fun _ => rfl⟩) (.inl ⟨rfl, none, 0, rfl, by simp, fun _ => rfl⟩) (fun h => absurd rfl h) rfl (by simp)
 refine (goodShape_c rb _ _ (by repeat (first | (with_reducible exact hr) | (with_reducible apply Rd.drewN) | (with_reducible apply Rd.drew) | (with_reducible apply Rd.alloc) | ((with_reducible apply Rd.set2); (· first | assumption | (simp; omega) | (simp; done) | omega)))) (by omega)).mono ?_
 rintro e w1 ⟨v0, xs, rfl, o0, hl0, hr1, C1⟩
 have X1 : Rch rb w w1 := Rch.step (by (try change Rch rb w _); repeat (first | (with_reducible exact X) | (with_reducible exact Rch.refl _ _) | (with_reducible apply Rch.drewN) | (with_reducible apply Rch.drew) | (with_reducible apply Rch.alloc) | (with_reducible refine Rch.set ?_ (by first | assumption | (simp <;> omega) | omega) _))) C1
 have hs1 := X1.size
 replace Q := Q.rch C1 (by omega) (by omega)
 have i0 := o0.ints (by omega)
 clear o0 hr X
 go_wp2_with fail
 refine (newView2_c xs _ _ _ i0).mono ?_
 intro e w2 hE
 obtain ⟨a1, a2, n1, c1, n2, c2, rfl, o1, o2, od, hN, x2⟩ := hE.open
 have hN2 : Hid (newS xs = [] → n2 = 0 ∧ c2 = 0) := Lib.hid (fun h => hN (List.eq_nil_of_length_eq_zero (by rw [newT_len, h]; rfl)))
 clear hN hE
 have hr2 := hr1.ext x2
 have X2 : Rch rb w w2 := X1.ext x2
 have hs2 := x2.size
 replace Q := Q.ext x2
 have hq1 := Q.lt
 have V : VAt (w.heap.size + 1) w2.heap.size (w2.alloc (.cells #[.int .i64 0, .slice a1 n1 c1, .slice a2 n2 c2] 25)) 0 (.slice a1 n1 c1) (.slice a2 n2 c2) (newS xs) (newT xs) :=
  VAt.new 0 (o1.lower (by have := C1.size; simp at this; omega)) (o2.lower (by have := C1.size; simp at this; omega)) od (newT_len xs) (newS_le hl0)
 replace Q := Q.ext (show Ext w2 (w2.alloc (.cells #[.int .i64 0, .slice a1 n1 c1, .slice a2 n2 c2] 25)) from qXt)
 have hr3 : Rd (w2.alloc (.cells #[.int .i64 0, .slice a1 n1 c1, .slice a2 n2 c2] 25)) rb (k + 8) := hr2.alloc _
 have X3 : Rch rb w (w2.alloc (.cells #[.int .i64 0, .slice a1 n1 c1, .slice a2 n2 c2] 25)) := X2.alloc _
 clear o1 o2 od i0 x2 X1 X2 hr1 hr2 C1
 go_wp2_with fail
 generalize w2.alloc (.cells #[.int .i64 0, .slice a1 n1 c1, .slice a2 n2 c2] 25) = w3 at *
 generalize newS xs = s at *
 generalize newT xs = t at *
 have hgv : w.heap.size < w2.heap.size := by omega
 generalize w2.heap.size = gv at *
 refine (pick1_c 10 rb _ _ hr3 (by omega) (by omega)).mono ?_
 rintro e w4 ⟨x4, rfl, hx4, hr4, C4⟩
 have X4 := Rch.step X3 C4
 replace V := V.rch C4 (by omega) (by omega)
 replace Q := Q.rch C4 (by omega) (by omega)
 clear C4 X3 hr3
 go_wp2_with fail
 refine (oneLit_c _ _ _ rb _ _ hr4 (by omega) (by rfl) (by rfl) (by constructor <;> simp) (by first | rfl | simp)).mono ?_
 rintro e w5 ⟨x5, rfl, -, hr5, C5⟩
 have X5 := Rch.step (Rch.alloc X4 _) C5
 replace V := (V.ext ((Ext.refl w4).alloc _)).rch C5 (by omega) (by omega)
 replace Q := (Q.ext ((Ext.refl w4).alloc _)).rch C5 (by omega) (by omega)
 clear C5 X4 hr4 hx4
 have cv0 := V.c0
 have cv1 := V.c1
 have cv2 := V.c2
 have f_cv0 := V.f0
 have f_cv1 := V.f1
 have f_cv2 := V.f2
 have z_cv := V.lt
 go_wp2_with fail
 clear cv0 cv1 cv2 f_cv0 f_cv1 f_cv2
 have zq := Q.lt
 replace Q := Q.chgB ((Chg.refl gv (gv + 1) w5).setCell (p := ⟨gv, 0, none⟩) (Nat.le_refl _) (Nat.lt_succ_self _) (.int .i64 x5)) (by omega) (fun h => absurd rfl h) (fun h => absurd rfl h)
 replace V := V.setBase x5
 generalize hW1 : w5.setCell ⟨gv, 0, none⟩ (.int .i64 x5) = w6 at *
 have hr6 : Rd w6 rb (k + 8 + 1 + 1) := by subst hW1; exact Rd.set2 (show rb < gv by omega) hr5
 have X6 : Rch rb w w6 := by subst hW1; exact X5.set (show w.heap.size ≤ gv by omega) _
 clear hW1
 clear X5 hr5
 refine (pick1_c 4 rb _ _ hr6 (by omega) (by omega)).mono ?_
 rintro e w7 ⟨x7, rfl, hx7, hr7, C7⟩
 have X7 := Rch.step X6 C7
 replace V := V.rch C7 (by omega) (by omega)
 replace Q := Q.rch C7 (by omega) (by omega)
 clear C7 X6 hr6
 obtain ⟨m0, rfl⟩ : ∃ m : Nat, x7 = m := ⟨x7.toNat, by omega⟩
 go_wp2_with fail
 go_loopw [4] (fun i wr => ∃ (m q : Nat) (b : Int) (s t : List Int) (a1 a2 : Option Addr) (n1 c1 n2 c2 : Nat), i = .int .i64 m ∧ (s = [] → n2 = 0 ∧ c2 = 0) ∧ VAt (w.heap.size + 1) gv wr b (.slice a1 n1 c1) (.slice a2 n2 c2) s t ∧ VAt (w.heap.size + 1) w.heap.size wr 0 (.slice none 0 0) (.slice none 0 0) [] [] ∧ Rd wr rb q ∧ q + 40 * m ≤ k + 180 ∧ Rch rb w wr) (fun i _ => (intOf i).toNat)
 case atStart => exact ⟨m0, _, _, _, _, _, _, _, _, _, _, rfl, hN2.out, V, Q, hr7, by omega, X7⟩
 case round =>
  clear V Q hr7 X7
  obtain ⟨m, q, b, s, t, a1, a2, n1, c1, n2, c2, rfl, hN, V, Q, hr, hqm, X⟩ := hrel
  replace hN := Lib.hid hN
  obtain ⟨a1', c1', a2', c2', e1, e2⟩ := V.open
  cases e1; cases e2
  have hl4 := V.le
  have hfit := Lib.hid V.fit
  have hsX := X.size
  by_cases hgo : 0 < m ∧ s ≠ []
  ·
   obtain ⟨hm0, hne⟩ := hgo
   obtain ⟨m', rfl⟩ : ∃ m' : Nat, m = m' + 1 := ⟨m - 1, by omega⟩
   have hmI : (0 : Int) < ((m' + 1 : Nat) : Int) := by omega
   have hsl : 0 < s.length := by cases s; exact absurd rfl hne; simp
   have hsI : (0 : Int) < (s.length : Int) := by omega
   have hmI2 : ((m' + 1 : Nat) : Int) - 1 = (m' : Int) := by omega
   replace hne := Lib.hid hne
   clear hm0
   have cv0 := V.c0
   have cv1 := V.c1
   have cv2 := V.c2
   have f_cv0 := V.f0
   have f_cv1 := V.f1
   have f_cv2 := V.f2
   have z_cv := V.lt
   go_wp2_with fail
   refine (pick1_c (s.length : Int) rb _ _ hr (by omega) (by omega)).mono ?_
   rintro e w8 ⟨d, rfl, hd, hr8, C8⟩
   clear cv0 cv1 cv2 f_cv0 f_cv1 f_cv2
   replace X := Rch.step X C8
   replace V := V.rch C8 (by omega) (by omega)
   replace Q := Q.rch C8 (by omega) (by omega)
   clear C8 hr
   obtain ⟨d, rfl⟩ : ∃ n : Nat, d = n := ⟨d.toNat, by omega⟩
   have hds : d < s.length := by omega
   have hdt : d < t.length := by have := hfit.out; omega
   have cv0 := V.c0
   have cv1 := V.c1
   have cv2 := V.c2
   have f_cv0 := V.f0
   have f_cv1 := V.f1
   have f_cv2 := V.f2
   have z_cv := V.lt
   go_wp2_with fail
   have hb1 := V.o1.bound
   have hb2 := V.o2.bound
   have hgvn := V.lt
   have VN := VAt.new (B := w.heap.size + 1) b V.o1 V.o2 V.sep hfit.out hl4
   generalize hW2 : w8.alloc (.cells #[.int .i64 b, .slice a1 s.length c1, .slice a2 t.length c2] 25) = w9 at *
   have E8 : Ext w8 w9 := by subst hW2; exact qXt
   clear cv0 cv1 cv2 f_cv0 f_cv1 f_cv2
   replace V := V.ext E8
   replace Q := Q.ext E8
   replace X := X.ext E8
   replace hr8 := hr8.ext E8
   clear E8
   clear hW2
   generalize w8.heap.size = gn at *
   have hgn : rb < gn := by omega
   refine (pick1_c 6 rb _ _ hr8 (by omega) (by omega)).mono ?_
   rintro e w10 ⟨x, rfl, hx, hr10, C10⟩
   replace X := Rch.step X C10
   replace V := V.rch C10 (by omega) (by omega)
   replace Q := Q.rch C10 (by omega) (by omega)
   replace VN := VN.rch C10 (by omega) (by omega)
   clear C10 hr8
   go_upto_block 2 with fail
   go_cut [7] (fun s7 wx => NextAt rb q gn gv w b (.slice a1 s.length c1) (.slice a2 t.length c2) s t s7 wx)
   case first =>
    have hx6 : x = 0 ∨ x = 1 ∨ x = 2 ∨ x = 3 ∨ x = 4 ∨ x = 5 := by omega
    clear hx
    replace hb1 := Lib.hid hb1
    replace hb2 := Lib.hid hb2
    rcases hx6 with rfl | rfl | rfl | rfl | rfl | rfl
    ·
     have cv0 := V.c0
     have cv1 := V.c1
     have cv2 := V.c2
     go_wp2_with fail
     refine wp_region_held_drew (S := fun w' => w'.cell? ⟨gv, 0, none⟩ = some (.int .i64 b) ∧ w'.cell? ⟨gv, 1, none⟩ = some (.slice a1 s.length c1) ∧ w'.cell? ⟨gv, 2, none⟩ = some (.slice a2 t.length c2)) qKr ⟨cv0, cv1, cv2⟩ (fun hHeld => ?_)
     replace V := V.ext (show Ext w10 w10.drew from qXt)
     replace Q := Q.ext (show Ext w10 w10.drew from qXt)
     replace VN := VN.ext (show Ext w10 w10.drew from qXt)
     replace X := X.ext (show Ext w10 w10.drew from qXt)
     have hne1 : gv ≠ gn := by omega
     have hne2 : gn ≠ gv := by omega
     refine qHk (v := ?_) 0 rfl (.inl ⟨by rfl, ?_⟩) ?_
     rotate_left
     ·
      (intro w hSw; (try dsimp only at hSw); go_simp; try with_reducible rfl)
     try simp only [Act.put, qa, qb, qc, qD, qE, qF]
     refine qHk (v := ?_) 1 rfl (.inl ⟨by rfl, ?_⟩) ?_
     rotate_left
     ·
      (intro w hSw; (try dsimp only at hSw); go_simp; try with_reducible rfl)
     try simp only [Act.put, qa, qb, qc, qD, qE, qF]
     refine qHk (v := ?_) 2 rfl (.inl ⟨by rfl, ?_⟩) ?_
     rotate_left
     ·
      (intro w hSw; (try dsimp only at hSw); go_simp; try with_reducible rfl)
     try simp only [Act.put, qa, qb, qc, qD, qE, qF]
     refine qHr 3 rfl (fun K hK => ?_)
     try simp only [Act.put, qa, qb, qc, qD, qE, qF]
     go_simp
     refine (someSlice_c rb _ _ (hr10.drew) (by omega)).mono ?_
     rintro e w11 ⟨F, T, B, fh, th, rfl, hr11, C11⟩
     replace X := Rch.step X C11
     replace V := V.rch C11 (by omega) (by omega)
     replace Q := Q.rch C11 (by omega) (by omega)
     replace VN := VN.rch C11 (by omega) (by omega)
     clear C11
     have cv0 := V.c0
     have cv1 := V.c1
     have cv2 := V.c2
     refine hK.out _ _ ⟨cv0, cv1, cv2⟩ (fun hHeld => ?_)
     clear hK K
     try simp only [Act.put, qa, qb, qc, qD, qE, qF]
     refine qHr 4 rfl (fun K hK => ?_)
     try simp only [Act.put, qa, qb, qc, qD, qE, qF]
     go_simp
     have zn := VN.lt
     refine ((specSliceDim_c b _ _ s t d F T B fh th _ _ _ (V.o1.ints (by omega)) (V.o2.ints (by have := hfit.out; omega))).mono (fun _ _ h => PFit.of h (sliceV_fit ..) (sliceV_live hne.out))).mono ?_
     rintro e w12 ⟨b2, s2, t2, ok, p1, p2, m1, r1, m2, r2, rfl, o1, o2, od, hf2, hl2, x12⟩
     replace V := V.ext x12
     replace Q := Q.ext x12
     replace VN := VN.ext x12
     replace X := X.ext x12
     have hrN := hr11.ext x12
     have cv0 := V.c0
     have cv1 := V.c1
     have cv2 := V.c2
     refine hK.out _ _ ⟨cv0, cv1, cv2⟩ (fun hHeld => ?_)
     clear hK K
     try simp only [Act.put, qa, qb, qc, qD, qE, qF]
     refine qHk (v := ?_) 5 rfl (.inl ⟨by rfl, ?_⟩) ?_
     rotate_left
     ·
      (intro w hSw; (try dsimp only at hSw); go_simp; try with_reducible rfl)
     try simp only [Act.put, qa, qb, qc, qD, qE, qF]
     refine qHk (v := ?_) 6 rfl (.inl ⟨by rfl, ?_⟩) ?_
     rotate_left
     ·
      (intro w hSw; (try dsimp only at hSw); go_simp; try with_reducible rfl)
     try simp only [Act.put, qa, qb, qc, qD, qE, qF]
     refine qHk (v := ?_) 7 rfl (.inl ⟨by rfl, ?_⟩) ?_
     rotate_left
     ·
      (intro w hSw; (try dsimp only at hSw); go_simp; try with_reducible rfl)
     try simp only [Act.put, qa, qb, qc, qD, qE, qF]
     have vn0 := VN.c0
     have vn1 := VN.c1
     have vn2 := VN.c2
     have f_vn0 := VN.f0
     have f_vn1 := VN.f1
     have f_vn2 := VN.f2
     have z_vn := VN.lt
     refine qHr 8 rfl (fun K hK => ?_)
     try simp only [Act.put, qa, qb, qc, qD, qE, qF]
     go_simp
     refine hK.out _ _ ⟨(by go_simp), (by go_simp), (by go_simp)⟩ (fun hHeld => ?_)
     clear hK K
     try simp only [Act.put, qa, qb, qc, qD, qE, qF]
     refine qHk (v := ?_) 9 rfl (.inl ⟨by rfl, ?_⟩) ?_
     rotate_left
     ·
      (intro w hSw; (try dsimp only at hSw); go_simp; try with_reducible rfl)
     try simp only [Act.put, qa, qb, qc, qD, qE, qF]
     clear hne1 hne2
     refine wpAnyH_done qKr ?_ _
     clear hHeld
     clear vn0 vn1 vn2 f_vn0 f_vn1 f_vn2
     repeat go_step
     go_meet
     case rel => exact NextAt.put _ VN V Q (hrN.mono (by omega)) X hlt hgv hgvn hb1.out hb2.out o1 o2 od hf2 hl2 (by first | omega | (simp; omega))
    ·
     have zn := VN.lt
     have cv0 := V.c0
     have cv1 := V.c1
     have cv2 := V.c2
     go_wp2_with fail
     refine ((specFlipDim_c b _ _ s t d _ _ _ (V.o1.ints (by omega)) (V.o2.ints (by have := hfit.out; omega))).mono (fun _ _ h => PFit.of h (sliceV_fit ..) (sliceV_live hne.out))).mono ?_
     rintro e w12 ⟨b2, s2, t2, ok, p1, p2, m1, r1, m2, r2, rfl, o1, o2, od, hf2, hl2, x12⟩
     replace V := V.ext x12
     replace Q := Q.ext x12
     replace VN := VN.ext x12
     replace X := X.ext x12
     have hrN := hr10.ext x12
     clear cv0 cv1 cv2
     have vn0 := VN.c0
     have vn1 := VN.c1
     have vn2 := VN.c2
     have f_vn0 := VN.f0
     have f_vn1 := VN.f1
     have f_vn2 := VN.f2
     have z_vn := VN.lt
     go_wp2_with fail
     clear vn0 vn1 vn2 f_vn0 f_vn1 f_vn2
     go_meet
     case rel => exact NextAt.put _ VN V Q (hrN.mono (by omega)) X hlt hgv hgvn hb1.out hb2.out o1 o2 od hf2 hl2 (by first | omega | (simp; omega))
    ·
     have cv0 := V.c0
     have cv1 := V.c1
     have cv2 := V.c2
     go_wp2_with fail
     refine wp_region_held_drew (S := fun w' => w'.cell? ⟨gv, 0, none⟩ = some (.int .i64 b) ∧ w'.cell? ⟨gv, 1, none⟩ = some (.slice a1 s.length c1) ∧ w'.cell? ⟨gv, 2, none⟩ = some (.slice a2 t.length c2)) qKr ⟨cv0, cv1, cv2⟩ (fun hHeld => ?_)
     replace V := V.ext (show Ext w10 w10.drew from qXt)
     replace Q := Q.ext (show Ext w10 w10.drew from qXt)
     replace VN := VN.ext (show Ext w10 w10.drew from qXt)
     replace X := X.ext (show Ext w10 w10.drew from qXt)
     have hne1 : gv ≠ gn := by omega
     have hne2 : gn ≠ gv := by omega
     refine qHk (v := ?_) 0 rfl (.inl ⟨by rfl, ?_⟩) ?_
     rotate_left
     ·
      (intro w hSw; (try dsimp only at hSw); go_simp; try with_reducible rfl)
     try simp only [Act.put, qa, qb, qc, qD, qE, qF]
     refine qHk (v := ?_) 1 rfl (.inl ⟨by rfl, ?_⟩) ?_
     rotate_left
     ·
      (intro w hSw; (try dsimp only at hSw); go_simp; try with_reducible rfl)
     try simp only [Act.put, qa, qb, qc, qD, qE, qF]
     refine qHk (v := ?_) 2 rfl (.inl ⟨by rfl, ?_⟩) ?_
     rotate_left
     ·
      (intro w hSw; (try dsimp only at hSw); go_simp; try with_reducible rfl)
     try simp only [Act.put, qa, qb, qc, qD, qE, qF]
     refine qHk (v := ?_) 3 rfl (.inl ⟨by rfl, ?_⟩) ?_
     rotate_left
     ·
      (intro w hSw; (try dsimp only at hSw); go_simp; try with_reducible rfl)
     try simp only [Act.put, qa, qb, qc, qD, qE, qF]
     refine qHr 4 rfl (fun K hK => ?_)
     try simp only [Act.put, qa, qb, qc, qD, qE, qF]
     go_simp
     refine (supTo_c s.length _ (by omega)).mono ?_
     rintro e w11 ⟨v11, rfl, i11, -, x11⟩
     replace V := V.ext x11
     replace Q := Q.ext x11
     replace VN := VN.ext x11
     replace X := X.ext x11
     have hr11 := (hr10.drew).ext x11
     obtain ⟨ap, np, cp, rfl⟩ := i11.any
     have cv0 := V.c0
     have cv1 := V.c1
     have cv2 := V.c2
     refine hK.out _ _ ⟨cv0, cv1, cv2⟩ (fun hHeld => ?_)
     clear hK K
     try simp only [Act.put, qa, qb, qc, qD, qE, qF]
     refine qHr 5 rfl (fun K hK => ?_)
     try simp only [Act.put, qa, qb, qc, qD, qE, qF]
     go_simp
     refine (reversed_c _ _ _ _ i11).mono ?_
     rintro e w13 ⟨v13, rfl, i13, -, x13⟩
     replace V := V.ext x13
     replace Q := Q.ext x13
     replace VN := VN.ext x13
     replace X := X.ext x13
     have hr13 := hr11.ext x13
     obtain ⟨aq, nq, cq, rfl⟩ := i13.any
     have cv0 := V.c0
     have cv1 := V.c1
     have cv2 := V.c2
     refine hK.out _ _ ⟨cv0, cv1, cv2⟩ (fun hHeld => ?_)
     clear hK K
     try simp only [Act.put, qa, qb, qc, qD, qE, qF]
     refine qHr 6 rfl (fun K hK => ?_)
     try simp only [Act.put, qa, qb, qc, qD, qE, qF]
     go_simp
     have zn := VN.lt
     refine ((specPermuteDims_c b _ _ s t _ _ _ _ _ (V.o1.ints (by omega)) (V.o2.ints (by have := hfit.out; omega)) _ i13).mono (fun _ _ h => PFit.of h (permV_fit ..) (permV_live hne.out))).mono ?_
     rintro e w12 ⟨b2, s2, t2, ok, p1, p2, m1, r1, m2, r2, rfl, o1, o2, od, hf2, hl2, x12⟩
     replace V := V.ext x12
     replace Q := Q.ext x12
     replace VN := VN.ext x12
     replace X := X.ext x12
     have hrN := hr13.ext x12
     have cv0 := V.c0
     have cv1 := V.c1
     have cv2 := V.c2
     refine hK.out _ _ ⟨cv0, cv1, cv2⟩ (fun hHeld => ?_)
     clear hK K
     try simp only [Act.put, qa, qb, qc, qD, qE, qF]
     refine qHk (v := ?_) 7 rfl (.inl ⟨by rfl, ?_⟩) ?_
     rotate_left
     ·
      (intro w hSw; (try dsimp only at hSw); go_simp; try with_reducible rfl)
     try simp only [Act.put, qa, qb, qc, qD, qE, qF]
     refine qHk (v := ?_) 8 rfl (.inl ⟨by rfl, ?_⟩) ?_
     rotate_left
     ·
      (intro w hSw; (try dsimp only at hSw); go_simp; try with_reducible rfl)
     try simp only [Act.put, qa, qb, qc, qD, qE, qF]
     refine qHk (v := ?_) 9 rfl (.inl ⟨by rfl, ?_⟩) ?_
     rotate_left
     ·
      (intro w hSw; (try dsimp only at hSw); go_simp; try with_reducible rfl)
     try simp only [Act.put, qa, qb, qc, qD, qE, qF]
     have vn0 := VN.c0
     have vn1 := VN.c1
     have vn2 := VN.c2
     have f_vn0 := VN.f0
     have f_vn1 := VN.f1
     have f_vn2 := VN.f2
     have z_vn := VN.lt
     refine qHr 10 rfl (fun K hK => ?_)
     try simp only [Act.put, qa, qb, qc, qD, qE, qF]
     go_simp
     refine hK.out _ _ ⟨(by go_simp), (by go_simp), (by go_simp)⟩ (fun hHeld => ?_)
     clear hK K
     try simp only [Act.put, qa, qb, qc, qD, qE, qF]
     refine qHk (v := ?_) 11 rfl (.inl ⟨by rfl, ?_⟩) ?_
     rotate_left
     ·
      (intro w hSw; (try dsimp only at hSw); go_simp; try with_reducible rfl)
     try simp only [Act.put, qa, qb, qc, qD, qE, qF]
     clear hne1 hne2
     refine wpAnyH_done qKr ?_ _
     clear hHeld
     clear vn0 vn1 vn2 f_vn0 f_vn1 f_vn2
     repeat go_step
     go_meet
     case rel => exact NextAt.put _ VN V Q (hrN.mono (by omega)) X hlt hgv hgvn hb1.out hb2.out o1 o2 od hf2 hl2 (by first | omega | (simp; omega))
    ·
     have cv0 := V.c0
     have cv1 := V.c1
     have cv2 := V.c2
     go_wp2_with fail
     refine wp_region_held_drew (S := fun w' => w'.cell? ⟨gv, 0, none⟩ = some (.int .i64 b) ∧ w'.cell? ⟨gv, 1, none⟩ = some (.slice a1 s.length c1) ∧ w'.cell? ⟨gv, 2, none⟩ = some (.slice a2 t.length c2)) qKr ⟨cv0, cv1, cv2⟩ (fun hHeld => ?_)
     replace V := V.ext (show Ext w10 w10.drew from qXt)
     replace Q := Q.ext (show Ext w10 w10.drew from qXt)
     replace VN := VN.ext (show Ext w10 w10.drew from qXt)
     replace X := X.ext (show Ext w10 w10.drew from qXt)
     have hne1 : gv ≠ gn := by omega
     have hne2 : gn ≠ gv := by omega
     refine qHk (v := ?_) 0 rfl (.inl ⟨by rfl, ?_⟩) ?_
     rotate_left
     ·
      (intro w hSw; (try dsimp only at hSw); go_simp; try with_reducible rfl)
     try simp only [Act.put, qa, qb, qc, qD, qE, qF]
     refine qHk (v := ?_) 1 rfl (.inl ⟨by rfl, ?_⟩) ?_
     rotate_left
     ·
      (intro w hSw; (try dsimp only at hSw); go_simp; try with_reducible rfl)
     try simp only [Act.put, qa, qb, qc, qD, qE, qF]
     refine qHk (v := ?_) 2 rfl (.inl ⟨by rfl, ?_⟩) ?_
     rotate_left
     ·
      (intro w hSw; (try dsimp only at hSw); go_simp; try with_reducible rfl)
     try simp only [Act.put, qa, qb, qc, qD, qE, qF]
     refine qHr 3 rfl (fun K hK => ?_)
     try simp only [Act.put, qa, qb, qc, qD, qE, qF]
     go_simp
     refine (pick1_c 3 rb _ _ (hr10.drew) (by omega) (by omega)).mono ?_
     rintro e w11 ⟨y, rfl, hy, hr11, C11⟩
     replace X := Rch.step X C11
     replace V := V.rch C11 (by omega) (by omega)
     replace Q := Q.rch C11 (by omega) (by omega)
     replace VN := VN.rch C11 (by omega) (by omega)
     clear C11
     have hw1 : IntKind.i64.wrap (1 + y) = 1 + y := IntWalk.i64_in _ (by omega)
     have cv0 := V.c0
     have cv1 := V.c1
     have cv2 := V.c2
     refine hK.out _ _ ⟨cv0, cv1, cv2⟩ (fun hHeld => ?_)
     clear hK K
     try simp only [Act.put, qa, qb, qc, qD, qE, qF]
     refine qHk (v := ?_) 4 rfl (.inl ⟨by rfl, ?_⟩) ?_
     rotate_left
     ·
      (intro w hSw; (try dsimp only at hSw); go_simp; try with_reducible rfl)
     try simp only [Act.put, qa, qb, qc, qD, qE, qF]
     refine qHr 5 rfl (fun K hK => ?_)
     try simp only [Act.put, qa, qb, qc, qD, qE, qF]
     go_simp
     have zn := VN.lt
     refine ((specWindowsOf_c b _ _ s t d (1 + y) _ _ _ (V.o1.ints (by omega)) (V.o2.ints (by have := hfit.out; omega)) (by omega)).mono (fun _ _ h => PFit.of h (winV_fit ..) (winV_live))).mono ?_
     clear hw1
     rintro e w12 ⟨b2, s2, t2, ok, p1, p2, m1, r1, m2, r2, rfl, o1, o2, od, hf2, hl2, x12⟩
     replace V := V.ext x12
     replace Q := Q.ext x12
     replace VN := VN.ext x12
     replace X := X.ext x12
     have hrN := hr11.ext x12
     have cv0 := V.c0
     have cv1 := V.c1
     have cv2 := V.c2
     refine hK.out _ _ ⟨cv0, cv1, cv2⟩ (fun hHeld => ?_)
     clear hK K
     try simp only [Act.put, qa, qb, qc, qD, qE, qF]
     refine qHk (v := ?_) 6 rfl (.inl ⟨by rfl, ?_⟩) ?_
     rotate_left
     ·
      (intro w hSw; (try dsimp only at hSw); go_simp; try with_reducible rfl)
     try simp only [Act.put, qa, qb, qc, qD, qE, qF]
     refine qHk (v := ?_) 7 rfl (.inl ⟨by rfl, ?_⟩) ?_
     rotate_left
     ·
      (intro w hSw; (try dsimp only at hSw); go_simp; try with_reducible rfl)
     try simp only [Act.put, qa, qb, qc, qD, qE, qF]
     refine qHk (v := ?_) 8 rfl (.inl ⟨by rfl, ?_⟩) ?_
     rotate_left
     ·
      (intro w hSw; (try dsimp only at hSw); go_simp; try with_reducible rfl)
     try simp only [Act.put, qa, qb, qc, qD, qE, qF]
     have vn0 := VN.c0
     have vn1 := VN.c1
     have vn2 := VN.c2
     have f_vn0 := VN.f0
     have f_vn1 := VN.f1
     have f_vn2 := VN.f2
     have z_vn := VN.lt
     refine qHr 9 rfl (fun K hK => ?_)
     try simp only [Act.put, qa, qb, qc, qD, qE, qF]
     go_simp
     refine hK.out _ _ ⟨(by go_simp), (by go_simp), (by go_simp)⟩ (fun hHeld => ?_)
     clear hK K
     try simp only [Act.put, qa, qb, qc, qD, qE, qF]
     refine qHk (v := ?_) 10 rfl (.inl ⟨by rfl, ?_⟩) ?_
     rotate_left
     ·
      (intro w hSw; (try dsimp only at hSw); go_simp; try with_reducible rfl)
     try simp only [Act.put, qa, qb, qc, qD, qE, qF]
     clear hne1 hne2
     refine wpAnyH_done qKr ?_ _
     clear hHeld
     clear vn0 vn1 vn2 f_vn0 f_vn1 f_vn2
     repeat go_step
     go_meet
     case rel => exact NextAt.put _ VN V Q (hrN.mono (by omega)) X hlt hgv hgvn hb1.out hb2.out o1 o2 od hf2 hl2 (by first | omega | (simp; omega))
    ·
     have zn := VN.lt
     have cv0 := V.c0
     have cv1 := V.c1
     have cv2 := V.c2
     go_wp2_with fail
     refine ((specAddDim_c b _ _ s t d _ _ _ (V.o1.ints (by omega)) (V.o2.ints (by have := hfit.out; omega))).mono (fun _ _ h => PFit.of h (addV_fit ..) (addV_live))).mono ?_
     rintro e w12 ⟨b2, s2, t2, ok, p1, p2, m1, r1, m2, r2, rfl, o1, o2, od, hf2, hl2, x12⟩
     replace V := V.ext x12
     replace Q := Q.ext x12
     replace VN := VN.ext x12
     replace X := X.ext x12
     have hrN := hr10.ext x12
     clear cv0 cv1 cv2
     have vn0 := VN.c0
     have vn1 := VN.c1
     have vn2 := VN.c2
     have f_vn0 := VN.f0
     have f_vn1 := VN.f1
     have f_vn2 := VN.f2
     have z_vn := VN.lt
     go_wp2_with fail
     clear vn0 vn1 vn2 f_vn0 f_vn1 f_vn2
     go_meet
     case rel => exact NextAt.put _ VN V Q (hrN.mono (by omega)) X hlt hgv hgvn hb1.out hb2.out o1 o2 od hf2 hl2 (by first | omega | (simp; omega))
    ·
     have zn := VN.lt
     have hdI0 : (0 : Int) ≤ (d : Int) := by omega
     have hdtI : (d : Int) < (t.length : Int) := by omega
     have hnet : t ≠ [] := by intro h; subst h; simp at hdt
     have cv0 := V.c0
     have cv1 := V.c1
     have cv2 := V.c2
     go_wp2_with fail
     refine (scopyView_c b _ _ s t _ _ _ (V.o1.ints (by omega)) (V.o2.ints (by have := hfit.out; omega))).mono ?_
     rintro e w12 ⟨sh2, st2, rfl, -, -, o1, o2, od, x12⟩
     replace V := V.ext x12
     replace Q := Q.ext x12
     replace VN := VN.ext x12
     replace X := X.ext x12
     have hr12 := hr10.ext x12
     clear cv0 cv1 cv2 x12 hr10
     obtain ⟨p1, m1, r1, rfl⟩ := o1.form
     obtain ⟨g2, r2, rfl, G2, -⟩ := (o2.ofNe hnet).row hnet
     have vn0 := VN.c0
     have vn1 := VN.c1
     have vn2 := VN.c2
     have f_vn0 := VN.f0
     have f_vn1 := VN.f1
     have f_vn2 := VN.f2
     have z_vn := VN.lt
     go_wp2_with fail
     clear vn0 vn1 vn2 f_vn0 f_vn1 f_vn2
     replace VN := VAt.put (B := gn + 1) (b := b) VN.c0 VN.c1 VN.c2 VN.f0 VN.f1 VN.f2 (o1.lower (by omega)) (o2.lower (by omega)) od hfit.out hl4 (Nat.lt_succ_self _)
     replace V := V.chgB (Chg.three (lo := gn) w12 (.int .i64 b) (.slice p1 m1 r1) (.slice (some ⟨g2, 0, none⟩) t.length r2)) hgvn hb1.out hb2.out
     replace Q := Q.chgB (Chg.three (lo := gn) w12 (.int .i64 b) (.slice p1 m1 r1) (.slice (some ⟨g2, 0, none⟩) t.length r2)) (by omega) (fun h => absurd rfl h) (fun h => absurd rfl h)
     replace X := ((X.set (a := ⟨gn, 0, none⟩) (show w.heap.size ≤ gn by omega) (.int .i64 b)).set (a := ⟨gn, 1, none⟩) (show w.heap.size ≤ gn by omega) (.slice p1 m1 r1)).set (a := ⟨gn, 2, none⟩) (show w.heap.size ≤ gn by omega) (.slice (some ⟨g2, 0, none⟩) t.length r2)
     replace hr12 := Rd.set2 (a := ⟨gn, 2, none⟩) (u := .slice (some ⟨g2, 0, none⟩) t.length r2) (show rb < gn by omega) (Rd.set2 (a := ⟨gn, 1, none⟩) (u := .slice p1 m1 r1) (show rb < gn by omega) (Rd.set2 (a := ⟨gn, 0, none⟩) (u := .int .i64 b) (show rb < gn by omega) hr12))
     clear o1 o2 od
     generalize ((w12.setCell ⟨gn, 0, none⟩ (.int .i64 b)).setCell ⟨gn, 1, none⟩ (.slice p1 m1 r1)).setCell ⟨gn, 2, none⟩ (.slice (some ⟨g2, 0, none⟩) t.length r2) = w13 at *
     have vn2 := VN.c2
     refine wp_region_tail (S := fun w' => w'.cell? ⟨gn, 2, none⟩ = some (.slice (some ⟨g2, 0, none⟩) t.length r2)) (fun i => decide (7 ≤ i)) qKr vn2 (fun hHeld => ?_)
     refine qTk (v := ?_) 0 rfl (.inl ⟨by rfl, ?_⟩) ?_
     rotate_left
     ·
      (intro w hSw; (try dsimp only at hSw); go_simp; try with_reducible rfl)
     try simp only [Act.put, qa, qb, qc, qD, qE, qF]
     refine qTk (v := ?_) 1 rfl (.inl ⟨by rfl, ?_⟩) ?_
     rotate_left
     ·
      (intro w hSw; (try dsimp only at hSw); go_simp; try with_reducible rfl)
     try simp only [Act.put, qa, qb, qc, qD, qE, qF]
     refine qTk (v := ?_) 2 rfl (.inl ⟨by rfl, ?_⟩) ?_
     rotate_left
     ·
      (intro w hSw; (try dsimp only at hSw); go_simp; try with_reducible rfl)
     try simp only [Act.put, qa, qb, qc, qD, qE, qF]
     refine qTk (v := ?_) 3 rfl (.inl ⟨by rfl, ?_⟩) ?_
     rotate_left
     ·
      (intro w hSw; (try dsimp only at hSw); go_simp; try with_reducible rfl)
     try simp only [Act.put, qa, qb, qc, qD, qE, qF]
     refine wpTail_one (i := 4) qKr rfl rfl (fun K hK => ?_)
     try simp only [Act.put, qa, qb, qc, qD, qE, qF]
     go_simp
     have EE : Ext w13 (w13.drew.alloc (.cells #[.int .i64 0, .int .i64 2, .int .i64 3, .int .i64 1, .int .i64 (-1), .int .i64 5] 3)) := qXt
     refine hK.out _ _ (EE.cell vn2) (fun hHeld => ?_)
     clear hK K
     try simp only [Act.put, qa, qb, qc, qD, qE, qF]
     refine wpTail_one (i := 5) qKr rfl rfl (fun K hK => ?_)
     try simp only [Act.put, qa, qb, qc, qD, qE, qF]
     go_simp
     refine (oneLit_c _ _ _ rb _ _ hr12.drew (by omega) (by rfl) (by rfl) (by constructor <;> simp) (by first | rfl | simp)).mono ?_
     rintro e w14 ⟨y, rfl, -, hr14, C14⟩
     replace X := Rch.step (X.ext EE) C14
     replace V := (V.ext EE).rch C14 (by omega) (by omega)
     replace Q := (Q.ext EE).rch C14 (by omega) (by omega)
     replace VN := (VN.ext EE).rch C14 (by omega) (by omega)
     clear C14 EE hr12
     replace vn2 := VN.c2
     refine hK.out _ _ vn2 (fun hHeld => ?_)
     clear hK K
     try simp only [Act.put, qa, qb, qc, qD, qE, qF]
     refine qTk (v := ?_) 6 rfl (.inl ⟨by rfl, ?_⟩) ?_
     rotate_left
     ·
      (intro w hSw; (try dsimp only at hSw); go_simp; try with_reducible rfl)
     try simp only [Act.put, qa, qb, qc, qD, qE, qF]
     obtain ⟨A1, A2⟩ := (VN.o2.ofNe hnet).cell d hdt
     refine wpTail_last (i := 7) qKr rfl rfl (fun K hK => ?_)
     try simp only [Act.put, qa, qb, qc, qD, qE, qF]
     go_simp
     refine hK.out _ _ ?_
     clear hK K
     try simp only [Act.put, qa, qb, qc, qD, qE, qF]
     refine wpTail_done qKr ?_ _
     clear hHeld A1 A2 vn2
     replace V := V.chgB ((Chg.refl g2 (g2 + 1) w14).setCell (p := ⟨g2, d, none⟩) (Nat.le_refl _) (Nat.lt_succ_self _) (.int .i64 y)) (by omega) (fun h q hq => by have := hb1.out h q hq; omega) (fun h q hq => by have := hb2.out h q hq; omega)
     replace Q := Q.chgB ((Chg.refl g2 (g2 + 1) w14).setCell (p := ⟨g2, d, none⟩) (Nat.le_refl _) (Nat.lt_succ_self _) (.int .i64 y)) (by omega) (fun h => absurd rfl h) (fun h => absurd rfl h)
     replace VN := VN.setT hdt y
     replace X := X.set (a := ⟨g2, d, none⟩) (show w.heap.size ≤ g2 by omega) (.int .i64 y)
     replace hr14 := Rd.set2 (a := ⟨g2, d, none⟩) (u := .int .i64 y) (show rb < g2 by omega) hr14
     generalize w14.setCell ⟨g2, d, none⟩ (.int .i64 y) = w15 at *
     go_wp2_with fail
     go_meet
     case rel => exact ⟨true, b, s, t.set d y, _, _, _, _, _, _, rfl, fun _ => hne.out, VN, V, Q, hr14.mono (by omega), X⟩
   case rest =>
    obtain ⟨o, b2, s2, t2, p1, p2, m1, r1, m2, r2, rfl, hlive, VN, V, Q, hr, X⟩ := hcut
    replace hlive := Lib.hid hlive
    cases o
    ·
     go_wp2_with fail
     go_roundw
     case rel => exact ⟨m', q + 20, b, s, t, a1, a2, _, c1, _, c2, by first | rfl | go_num, fun h => absurd h hne.out, V, Q, hr, by omega, X⟩
     case measure => simp [intOf]
    ·
     have le2 := VN.le
     have fit2 := Lib.hid VN.fit
     have vn0 := VN.c0
     have vn1 := VN.c1
     have vn2 := VN.c2
     have f_vn0 := VN.f0
     have f_vn1 := VN.f1
     have f_vn2 := VN.f2
     have z_vn := VN.lt
     go_wp2_with fail
     refine (validView_c b2 _ _ s2 t2 _ _ _ (VN.o1.ints (by omega)) (VN.o2.ints (by have := fit2.out; omega))).mono ?_
     rintro e w20 ⟨rfl, x20⟩
     clear vn0 vn1 vn2 f_vn0 f_vn1 f_vn2
     replace V := V.ext x20
     replace Q := Q.ext x20
     replace VN := VN.ext x20
     replace X := X.ext x20
     replace hr := hr.ext x20
     clear x20
     generalize viewB b2 s2 t2 = vb
     cases vb
     ·
      go_wp2_with fail
      go_roundw
      case rel => exact ⟨m', q + 20, b, s, t, a1, a2, _, c1, _, c2, by first | rfl | go_num, fun h => absurd h hne.out, V, Q, hr, by omega, X⟩
      case measure => simp [intOf]
     ·
      have vn0 := VN.c0
      have vn1 := VN.c1
      have vn2 := VN.c2
      have f_vn0 := VN.f0
      have f_vn1 := VN.f1
      have f_vn2 := VN.f2
      have z_vn := VN.lt
      have cv0 := V.c0
      have cv1 := V.c1
      have cv2 := V.c2
      have f_cv0 := V.f0
      have f_cv1 := V.f1
      have f_cv2 := V.f2
      have z_cv := V.lt
      go_wp2_with fail
      clear vn0 vn1 vn2 f_vn0 f_vn1 f_vn2
      clear cv0 cv1 cv2 f_cv0 f_cv1 f_cv2
      go_roundw
      case rel => exact ⟨m', q + 20, b2, s2, t2, p1, p2, m1, r1, m2, r2, by first | rfl | go_num, fun h => absurd h (hlive.out (by first | rfl | trivial)), (VAt.put (B := gn + 1) V.c0 V.c1 V.c2 V.f0 V.f1 V.f2 VN.o1 VN.o2 VN.sep VN.fit VN.le (by omega)).lower (by omega), Q.chgB (Chg.three _ _ _ _) (by omega) (fun h => absurd rfl h) (fun h => absurd rfl h), Rd.set2 (show rb < gv by omega) (Rd.set2 (show rb < gv by omega) (Rd.set2 (show rb < gv by omega) hr)), by omega, ((X.set (show w.heap.size ≤ gv by omega) _).set (show w.heap.size ≤ gv by omega) _).set (show w.heap.size ≤ gv by omega) _⟩
      case measure => simp [intOf]
  ·
   have hex : m = 0 ∨ (0 < m ∧ s.length = 0) := by
    by_cases h0 : m = 0
    ·
     exact .inl h0
    ·
     refine .inr ⟨by omega, ?_⟩
     apply Classical.byContradiction
     intro h; exact hgo ⟨by omega, fun h2 => h (by rw [h2]; rfl)⟩
   clear hgo
   rcases hex with rfl | ⟨hm0, hs0⟩
   ·
    have hmI : ¬ (0 : Int) < ((0 : Nat) : Int) := by omega
    have cv0 := V.c0
    have cv1 := V.c1
    have cv2 := V.c2
    have f_cv0 := V.f0
    have f_cv1 := V.f1
    have f_cv2 := V.f2
    have z_cv := V.lt
    go_wp2_with fail
    refine (validView_c b _ _ s t _ _ _ (V.o1.ints (by omega)) (V.o2.ints (by have := hfit.out; omega))).mono ?_
    rintro e w20 ⟨rfl, x20⟩
    clear cv0 cv1 cv2 f_cv0 f_cv1 f_cv2
    replace V := V.ext x20
    replace Q := Q.ext x20
    replace X := X.ext x20
    replace hr := hr.ext x20
    clear x20
    have hzw := Q.lt
    generalize viewB b s t = vb
    cases vb
    ·
     have cv0 := V.c0
     have cv1 := V.c1
     have cv2 := V.c2
     have f_cv0 := V.f0
     have f_cv1 := V.f1
     have f_cv2 := V.f2
     have z_cv := V.lt
     have cq0 := Q.c0
     have cq1 := Q.c1
     have cq2 := Q.c2
     have f_cq0 := Q.f0
     have f_cq1 := Q.f1
     have f_cq2 := Q.f2
     have z_cq := Q.lt
     have hq1 : w.heap.size ≠ gv := by omega
     have hq2 : gv ≠ w.heap.size := by omega
     go_wp2_with fail
     clear cv0 cv1 cv2 f_cv0 f_cv1 f_cv2
     clear cq0 cq1 cq2 f_cq0 f_cq1 f_cq2
     replace V := V.setBase 0
     replace Q := Q.chgB ((Chg.refl gv (gv + 1) w20).setCell (p := ⟨gv, 0, none⟩) (Nat.le_refl _) (Nat.lt_succ_self _) (.int .i64 0)) (by omega) (fun h => absurd rfl h) (fun h => absurd rfl h)
     replace X := X.set (a := ⟨gv, 0, none⟩) (show w.heap.size ≤ gv by omega) (.int .i64 0)
     replace hr := Rd.set2 (a := ⟨gv, 0, none⟩) (u := .int .i64 0) (show rb < gv by omega) hr
     generalize w20.setCell ⟨gv, 0, none⟩ (.int .i64 0) = w21 at *
     have cq0 := Q.c0
     have cq1 := Q.c1
     have cq2 := Q.c2
     have f_cq0 := Q.f0
     have f_cq1 := Q.f1
     have f_cq2 := Q.f2
     have z_cq := Q.lt
     refine bodyPost_ret (v := .agg #[.int .i64 0, .slice a1 s.length c1, .slice a2 t.length c2]) (by simp only [results, Try.results105]; go_simp) rfl ?_
     clear cq0 cq1 cq2 f_cq0 f_cq1 f_cq2
     replace V := V.chg (Chg.three (lo := w.heap.size) w21 (.int .i64 0) (.slice a1 s.length c1) (.slice a2 t.length c2)) (by omega) (Nat.le_refl _)
     replace X := ((X.set (a := ⟨w.heap.size, 0, none⟩) (show w.heap.size ≤ w.heap.size by omega) (.int .i64 0)).set (a := ⟨w.heap.size, 1, none⟩) (show w.heap.size ≤ w.heap.size by omega) (.slice a1 s.length c1)).set (a := ⟨w.heap.size, 2, none⟩) (show w.heap.size ≤ w.heap.size by omega) (.slice a2 t.length c2)
     replace hr := Rd.set2 (a := ⟨w.heap.size, 2, none⟩) (u := .slice a2 t.length c2) (show rb < w.heap.size by omega) (Rd.set2 (a := ⟨w.heap.size, 1, none⟩) (u := .slice a1 s.length c1) (show rb < w.heap.size by omega) (Rd.set2 (a := ⟨w.heap.size, 0, none⟩) (u := .int .i64 0) (show rb < w.heap.size by omega) hr))
     generalize ((w21.setCell ⟨w.heap.size, 0, none⟩ (.int .i64 0)).setCell ⟨w.heap.size, 1, none⟩ (.slice a1 s.length c1)).setCell ⟨w.heap.size, 2, none⟩ (.slice a2 t.length c2) = w30 at *
     exact ⟨0, s, t, a1, a2, _, c1, _, c2, rfl, V.o1.lower (by omega), V.o2.lower (by omega), V.sep, V.fit, ⟨V.le, hN.out⟩, hr.mono (by omega), X⟩
    ·
     have cv0 := V.c0
     have cv1 := V.c1
     have cv2 := V.c2
     have f_cv0 := V.f0
     have f_cv1 := V.f1
     have f_cv2 := V.f2
     have z_cv := V.lt
     have cq0 := Q.c0
     have cq1 := Q.c1
     have cq2 := Q.c2
     have f_cq0 := Q.f0
     have f_cq1 := Q.f1
     have f_cq2 := Q.f2
     have z_cq := Q.lt
     have hq1 : w.heap.size ≠ gv := by omega
     have hq2 : gv ≠ w.heap.size := by omega
     go_wp2_with fail
     clear cv0 cv1 cv2 f_cv0 f_cv1 f_cv2
     refine bodyPost_ret (v := .agg #[.int .i64 b, .slice a1 s.length c1, .slice a2 t.length c2]) (by simp only [results, Try.results105]; go_simp) rfl ?_
     clear cq0 cq1 cq2 f_cq0 f_cq1 f_cq2
     replace V := V.chg (Chg.three (lo := w.heap.size) w20 (.int .i64 b) (.slice a1 s.length c1) (.slice a2 t.length c2)) (by omega) (Nat.le_refl _)
     replace X := ((X.set (a := ⟨w.heap.size, 0, none⟩) (show w.heap.size ≤ w.heap.size by omega) (.int .i64 b)).set (a := ⟨w.heap.size, 1, none⟩) (show w.heap.size ≤ w.heap.size by omega) (.slice a1 s.length c1)).set (a := ⟨w.heap.size, 2, none⟩) (show w.heap.size ≤ w.heap.size by omega) (.slice a2 t.length c2)
     replace hr := Rd.set2 (a := ⟨w.heap.size, 2, none⟩) (u := .slice a2 t.length c2) (show rb < w.heap.size by omega) (Rd.set2 (a := ⟨w.heap.size, 1, none⟩) (u := .slice a1 s.length c1) (show rb < w.heap.size by omega) (Rd.set2 (a := ⟨w.heap.size, 0, none⟩) (u := .int .i64 b) (show rb < w.heap.size by omega) hr))
     generalize ((w20.setCell ⟨w.heap.size, 0, none⟩ (.int .i64 b)).setCell ⟨w.heap.size, 1, none⟩ (.slice a1 s.length c1)).setCell ⟨w.heap.size, 2, none⟩ (.slice a2 t.length c2) = w30 at *
     exact ⟨b, s, t, a1, a2, _, c1, _, c2, rfl, V.o1.lower (by omega), V.o2.lower (by omega), V.sep, V.fit, ⟨V.le, hN.out⟩, hr.mono (by omega), X⟩
   ·
    have hmI : (0 : Int) < (m : Int) := by omega
    have hsI : ¬ (0 : Int) < (s.length : Int) := by omega
    clear hs0
    have cv0 := V.c0
    have cv1 := V.c1
    have cv2 := V.c2
    have f_cv0 := V.f0
    have f_cv1 := V.f1
    have f_cv2 := V.f2
    have z_cv := V.lt
    go_wp2_with fail
    refine (validView_c b _ _ s t _ _ _ (V.o1.ints (by omega)) (V.o2.ints (by have := hfit.out; omega))).mono ?_
    rintro e w20 ⟨rfl, x20⟩
    clear cv0 cv1 cv2 f_cv0 f_cv1 f_cv2
    replace V := V.ext x20
    replace Q := Q.ext x20
    replace X := X.ext x20
    replace hr := hr.ext x20
    clear x20
    have hzw := Q.lt
    generalize viewB b s t = vb
    cases vb
    ·
     have cv0 := V.c0
     have cv1 := V.c1
     have cv2 := V.c2
     have f_cv0 := V.f0
     have f_cv1 := V.f1
     have f_cv2 := V.f2
     have z_cv := V.lt
     have cq0 := Q.c0
     have cq1 := Q.c1
     have cq2 := Q.c2
     have f_cq0 := Q.f0
     have f_cq1 := Q.f1
     have f_cq2 := Q.f2
     have z_cq := Q.lt
     have hq1 : w.heap.size ≠ gv := by omega
     have hq2 : gv ≠ w.heap.size := by omega
     go_wp2_with fail
     clear cv0 cv1 cv2 f_cv0 f_cv1 f_cv2
     clear cq0 cq1 cq2 f_cq0 f_cq1 f_cq2
     replace V := V.setBase 0
     replace Q := Q.chgB ((Chg.refl gv (gv + 1) w20).setCell (p := ⟨gv, 0, none⟩) (Nat.le_refl _) (Nat.lt_succ_self _) (.int .i64 0)) (by omega) (fun h => absurd rfl h) (fun h => absurd rfl h)
     replace X := X.set (a := ⟨gv, 0, none⟩) (show w.heap.size ≤ gv by omega) (.int .i64 0)
     replace hr := Rd.set2 (a := ⟨gv, 0, none⟩) (u := .int .i64 0) (show rb < gv by omega) hr
     generalize w20.setCell ⟨gv, 0, none⟩ (.int .i64 0) = w21 at *
     have cq0 := Q.c0
     have cq1 := Q.c1
     have cq2 := Q.c2
     have f_cq0 := Q.f0
     have f_cq1 := Q.f1
     have f_cq2 := Q.f2
     have z_cq := Q.lt
     refine bodyPost_ret (v := .agg #[.int .i64 0, .slice a1 s.length c1, .slice a2 t.length c2]) (by simp only [results, Try.results105]; go_simp) rfl ?_
     clear cq0 cq1 cq2 f_cq0 f_cq1 f_cq2
     replace V := V.chg (Chg.three (lo := w.heap.size) w21 (.int .i64 0) (.slice a1 s.length c1) (.slice a2 t.length c2)) (by omega) (Nat.le_refl _)
     replace X := ((X.set (a := ⟨w.heap.size, 0, none⟩) (show w.heap.size ≤ w.heap.size by omega) (.int .i64 0)).set (a := ⟨w.heap.size, 1, none⟩) (show w.heap.size ≤ w.heap.size by omega) (.slice a1 s.length c1)).set (a := ⟨w.heap.size, 2, none⟩) (show w.heap.size ≤ w.heap.size by omega) (.slice a2 t.length c2)
     replace hr := Rd.set2 (a := ⟨w.heap.size, 2, none⟩) (u := .slice a2 t.length c2) (show rb < w.heap.size by omega) (Rd.set2 (a := ⟨w.heap.size, 1, none⟩) (u := .slice a1 s.length c1) (show rb < w.heap.size by omega) (Rd.set2 (a := ⟨w.heap.size, 0, none⟩) (u := .int .i64 0) (show rb < w.heap.size by omega) hr))
     generalize ((w21.setCell ⟨w.heap.size, 0, none⟩ (.int .i64 0)).setCell ⟨w.heap.size, 1, none⟩ (.slice a1 s.length c1)).setCell ⟨w.heap.size, 2, none⟩ (.slice a2 t.length c2) = w30 at *
     exact ⟨0, s, t, a1, a2, _, c1, _, c2, rfl, V.o1.lower (by omega), V.o2.lower (by omega), V.sep, V.fit, ⟨V.le, hN.out⟩, hr.mono (by omega), X⟩
    ·
     have cv0 := V.c0
     have cv1 := V.c1
     have cv2 := V.c2
     have f_cv0 := V.f0
     have f_cv1 := V.f1
     have f_cv2 := V.f2
     have z_cv := V.lt
     have cq0 := Q.c0
     have cq1 := Q.c1
     have cq2 := Q.c2
     have f_cq0 := Q.f0
     have f_cq1 := Q.f1
     have f_cq2 := Q.f2
     have z_cq := Q.lt
     have hq1 : w.heap.size ≠ gv := by omega
     have hq2 : gv ≠ w.heap.size := by omega
     go_wp2_with fail
     clear cv0 cv1 cv2 f_cv0 f_cv1 f_cv2
     refine bodyPost_ret (v := .agg #[.int .i64 b, .slice a1 s.length c1, .slice a2 t.length c2]) (by simp only [results, Try.results105]; go_simp) rfl ?_
     clear cq0 cq1 cq2 f_cq0 f_cq1 f_cq2
     replace V := V.chg (Chg.three (lo := w.heap.size) w20 (.int .i64 b) (.slice a1 s.length c1) (.slice a2 t.length c2)) (by omega) (Nat.le_refl _)
     replace X := ((X.set (a := ⟨w.heap.size, 0, none⟩) (show w.heap.size ≤ w.heap.size by omega) (.int .i64 b)).set (a := ⟨w.heap.size, 1, none⟩) (show w.heap.size ≤ w.heap.size by omega) (.slice a1 s.length c1)).set (a := ⟨w.heap.size, 2, none⟩) (show w.heap.size ≤ w.heap.size by omega) (.slice a2 t.length c2)
     replace hr := Rd.set2 (a := ⟨w.heap.size, 2, none⟩) (u := .slice a2 t.length c2) (show rb < w.heap.size by omega) (Rd.set2 (a := ⟨w.heap.size, 1, none⟩) (u := .slice a1 s.length c1) (show rb < w.heap.size by omega) (Rd.set2 (a := ⟨w.heap.size, 0, none⟩) (u := .int .i64 b) (show rb < w.heap.size by omega) hr))
     generalize ((w20.setCell ⟨w.heap.size, 0, none⟩ (.int .i64 b)).setCell ⟨w.heap.size, 1, none⟩ (.slice a1 s.length c1)).setCell ⟨w.heap.size, 2, none⟩ (.slice a2 t.length c2) = w30 at *
     exact ⟨b, s, t, a1, a2, _, c1, _, c2, rfl, V.o1.lower (by omega), V.o2.lower (by omega), V.sep, V.fit, ⟨V.le, hN.out⟩, hr.mono (by omega), X⟩


end Go.Proofs.Ytpgkhjmboiepcaa

/- Walks: a drawn view that may be no view. -/
namespace Go.Proofs.Ytpgkhjmboiepcaa
open Go.RowKit
set_option linter.unusedVariables false
set_option maxRecDepth 100000


theorem OwnZ.chgI {lo hi B : Nat} {w w' : World} {y : Value} {xs : List Int} (h : OwnZ w B y xs) (k : Chg lo hi w w') (hne : xs ≠ [] → ∀ g, y.ownBlock = some g → g < lo ∨ hi ≤ g) : OwnZ w' B y xs := by
 rcases h with ho | ho
 ·
  exact .inl ho
 ·
  by_cases hx : xs = []
  ·
   subst hx
   rcases ho.2 with ⟨h2, _⟩ | ⟨g', cap, cur, rfl, hb, hh, r⟩
   ·
    subst h2; exact .inl ⟨rfl, none, 0, rfl, by simp, fun _ => rfl⟩
   ·
    exact .inl ⟨rfl, some ⟨g', 0, none⟩, cap, rfl, r.2.1, fun h => by cases h⟩
  ·
   obtain ⟨g', cap, e, _⟩ := ho.row hx
   subst e
   exact .inr (ho.chgN k (hne hx g' rfl))
theorem Rch.below' {rb lo hi : Nat} {w a b : World} (h : Chg rb (rb + 1) w a) (k : Chg lo hi a b) (hl : w.heap.size ≤ lo) : Chg rb (rb + 1) w b :=
 ⟨k.os.trans h.os, k.tape.trans h.tape, k.output.trans h.output, Nat.le_trans h.size k.size, fun i hi2 hd => (k.block i (Nat.lt_of_lt_of_le hi2 h.size) (.inl (by omega))).trans (h.block i hi2 hd)⟩
/-- a view that need be none lies in block gv -/
def SAt (rb q gv : Nat) (w wx : World) : Prop := ∃ (b : Int) (s t : List Int) (p1 p2 : Option Addr) (n1 r1 n2 r2 : Nat), wx.cell? ⟨gv, 0, none⟩ = some (.int .i64 b) ∧ wx.cell? ⟨gv, 1, none⟩ = some (.slice p1 n1 r1) ∧ wx.cell? ⟨gv, 2, none⟩ = some (.slice p2 n2 r2) ∧
 OwnZ wx (w.heap.size + 1) (.slice p1 n1 r1) s ∧ OwnZ wx (w.heap.size + 1) (.slice p2 n2 r2) t ∧ (s.length ≤ 4 ∧ t.length ≤ 5) ∧ VAt (w.heap.size + 1) w.heap.size wx 0 (.slice none 0 0) (.slice none 0 0) [] [] ∧ Rd wx rb q ∧ Rch rb w wx
def SView (rb k : Nat) (w : World) (e : Ending) (w' : World) : Prop := ∃ (b : Int) (s t : List Int) (p1 p2 : Option Addr) (n1 r1 n2 r2 : Nat), e = .returned (.agg #[.int .i64 b, .slice p1 n1 r1, .slice p2 n2 r2]) ∧
 Ints w' w.heap.size (.slice p1 n1 r1) s ∧ Ints w' w.heap.size (.slice p2 n2 r2) t ∧ s.length ≤ 4 ∧ t.length ≤ 5 ∧ Rd w' rb k ∧ Chg rb (rb + 1) w w'
theorem SAt.of {rb q gv : Nat} {w wx : World} {b : Int} {p1 p2 : Option Addr} {n1 r1 n2 r2 : Nat} {s t : List Int} (V : VAt (w.heap.size + 1) gv wx b (.slice p1 n1 r1) (.slice p2 n2 r2) s t) (Q : VAt (w.heap.size + 1) w.heap.size wx 0 (.slice none 0 0) (.slice none 0 0) [] []) (hr : Rd wx rb q) (X : Rch rb w wx) : SAt rb q gv w wx :=
 ⟨b, s, t, p1, p2, n1, r1, n2, r2, V.c0, V.c1, V.c2, V.o1, V.o2, ⟨V.le, by have := V.fit; have := V.le; omega⟩, Q, hr, X⟩
theorem SAt.put {rb q gv : Nat} {w w9 : World} {b : Int} {p1 p2 : Option Addr} {n1 r1 n2 r2 : Nat} {v2 : Value} {s t : List Int} (c0 : w9.cell? ⟨gv, 0, none⟩ = some (.int .i64 b)) (c1 : w9.cell? ⟨gv, 1, none⟩ = some (.slice p1 n1 r1)) (c2 : w9.cell? ⟨gv, 2, none⟩ = some v2) (f2 : w9.frozen? ⟨gv, 2, none⟩ = false)
  (o1 : OwnZ w9 (w.heap.size + 1) (.slice p1 n1 r1) s) (o2 : OwnZ w9 (w.heap.size + 1) (.slice p2 n2 r2) t) (m1 : s ≠ [] → ∀ g, (Value.slice p1 n1 r1).ownBlock = some g → g ≠ gv) (m2 : ∀ g, (Value.slice p2 n2 r2).ownBlock = some g → g ≠ gv) (hl : s.length ≤ 4 ∧ t.length ≤ 5)
  (Q : VAt (w.heap.size + 1) w.heap.size w9 0 (.slice none 0 0) (.slice none 0 0) [] []) (hr : Rd w9 rb q) (X : Rch rb w w9) (hg : w.heap.size < gv) (hrb : rb < w.heap.size) : SAt rb q gv w (w9.setCell ⟨gv, 2, none⟩ (.slice p2 n2 r2)) := by
 have k : Chg gv (gv + 1) w9 (w9.setCell ⟨gv, 2, none⟩ (.slice p2 n2 r2)) := (Chg.refl gv (gv + 1) w9).setCell (p := ⟨gv, 2, none⟩) (Nat.le_refl _) (Nat.lt_succ_self _) _
 exact ⟨b, s, t, p1, p2, n1, r1, n2, r2, by go_simp, by go_simp, by go_simp, o1.chgI k (fun h g hg' => by have := m1 h g hg'; omega), o2.chgI k (fun _ g hg' => by have := m2 g hg'; omega), hl,
  Q.chgB k (by omega) (fun h => absurd rfl h) (fun h => absurd rfl h), Rd.set2 (show rb < gv by omega) hr, X.set (show w.heap.size ≤ gv by omega) _⟩

set_option maxHeartbeats 6400000 in
theorem someView_c (rb k : Nat) (w : World) (hr : Rd w rb k) (hk : k ≤ 700000) :
  Calls Try.prog 78 #[.pointer (some ⟨rb, 0, none⟩)] w (SView rb (k + 210) w) := by
 have hlt := hr.lt
 have X := Rch.refl rb w
 go_enter Try.func78, Try.ntmps78
 go_wp2_with fail
 have Q : VAt (w.heap.size + 1) w.heap.size (w.alloc (.cells #[.int .i64 0, .slice none 0 0, .slice none 0 0] 25)) 0 (.slice none 0 0) (.slice none 0 0) [] [] :=
  VAt.new 0 (.inl ⟨rfl, none, 0, rfl, by simp, fun _ => rfl⟩) (.inl ⟨rfl, none, 0, rfl, by simp, fun _ => rfl⟩) (fun h => absurd rfl h) rfl (by simp)
 refine (goodView_c rb k _ (hr.alloc _) (by omega)).mono ?_
 rintro e w1 ⟨b, s, t, p1, p2, n1, r1, n2, r2, rfl, o1, o2, od, hf, ⟨hl, hN⟩, hr1, C1⟩
 have X1 : Rch rb w w1 := Rch.step (by (try change Rch rb w _); repeat (first | (with_reducible exact X) | (with_reducible exact Rch.refl _ _) | (with_reducible apply Rch.drewN) | (with_reducible apply Rch.drew) | (with_reducible apply Rch.alloc) | (with_reducible refine Rch.set ?_ (by first | assumption | (simp <;> omega) | omega) _))) C1
 have hs1 := C1.size
 simp only [World.size_alloc] at hs1 o1 o2
 replace Q := Q.rch C1 (by omega) (by omega)
 clear C1 X hr
 have V : VAt (w.heap.size + 1) w1.heap.size (w1.alloc (.cells #[.int .i64 b, .slice p1 n1 r1, .slice p2 n2 r2] 25)) b (.slice p1 n1 r1) (.slice p2 n2 r2) s t := VAt.new b o1 o2 od hf hl
 have E1 : Ext w1 (w1.alloc (.cells #[.int .i64 b, .slice p1 n1 r1, .slice p2 n2 r2] 25)) := qXt
 replace Q := Q.ext E1
 have X2 := X1.ext E1
 have hr2 := hr1.ext E1
 clear E1 o1 o2 X1 hr1
 replace od := Lib.hid od
 replace hf := Lib.hid hf
 replace hN := Lib.hid hN
 go_wp2_with fail
 generalize w1.alloc (.cells #[.int .i64 b, .slice p1 n1 r1, .slice p2 n2 r2] 25) = w2 at *
 have hgv : w.heap.size < w1.heap.size := by omega
 generalize w1.heap.size = gv at *
 refine (pick1_c 24 rb _ _ hr2 (by omega) (by omega)).mono ?_
 rintro e w3 ⟨x, rfl, hx, hr3, C3⟩
 have X3 := Rch.step X2 C3
 replace V := V.rch C3 (by omega) (by omega)
 replace Q := Q.rch C3 (by omega) (by omega)
 clear C3 X2 hr2
 go_upto_block 0 with fail
 go_cut [] (fun wx => SAt rb (k + 205) gv w wx)
 case first =>
  have hx6 : x = 0 ∨ x = 1 ∨ x = 2 ∨ 3 ≤ x := by omega
  clear hx
  rcases hx6 with rfl | rfl | rfl | hx3
  ·
   have cv0 := V.c0
   have cv1 := V.c1
   have cv2 := V.c2
   have f_cv0 := V.f0
   have f_cv1 := V.f1
   have f_cv2 := V.f2
   have z_cv := V.lt
   go_wp2_with fail
   refine (oneLit_c _ _ _ rb _ _ hr3 (by omega) (by rfl) (by rfl) (by constructor <;> simp) (by first | rfl | simp)).mono ?_
   rintro e w5 ⟨x5, rfl, -, hr5, C5⟩
   clear cv0 cv1 cv2 f_cv0 f_cv1 f_cv2
   have X5 := Rch.step (Rch.alloc X3 _) C5
   replace V := (V.ext ((Ext.refl w3).alloc _)).rch C5 (by omega) (by omega)
   replace Q := (Q.ext ((Ext.refl w3).alloc _)).rch C5 (by omega) (by omega)
   clear C5 X3 hr3
   have cv0 := V.c0
   have cv1 := V.c1
   have cv2 := V.c2
   have f_cv0 := V.f0
   have f_cv1 := V.f1
   have f_cv2 := V.f2
   have z_cv := V.lt
   go_wp2_with fail
   clear cv0 cv1 cv2 f_cv0 f_cv1 f_cv2
   replace Q := Q.chgB ((Chg.refl gv (gv + 1) w5).setCell (p := ⟨gv, 0, none⟩) (Nat.le_refl _) (Nat.lt_succ_self _) (.int .i64 x5)) (by omega) (fun h => absurd rfl h) (fun h => absurd rfl h)
   replace V := V.setBase x5
   replace hr5 := Rd.set2 (a := ⟨gv, 0, none⟩) (u := .int .i64 x5) (show rb < gv by omega) hr5
   replace X5 := X5.set (a := ⟨gv, 0, none⟩) (show w.heap.size ≤ gv by omega) (.int .i64 x5)
   generalize w5.setCell ⟨gv, 0, none⟩ (.int .i64 x5) = w6 at *
   go_meet
   case rel => exact SAt.of V Q (hr5.mono (by omega)) X5
  ·
   by_cases ht : t = []
   ·
    have hse : s = [] := List.eq_nil_of_length_eq_zero (by have := hf.out; rw [ht] at this; simpa using this.symm)
    obtain ⟨hn2, hr2'⟩ := hN.out hse
    subst hn2
    subst hr2'
    have hm2 : Hid (s ≠ [] → ∀ g, (Value.slice p1 n1 r1).ownBlock = some g → g ≠ gv) := Lib.hid (fun h g hg h2 => V.n1 h (by rw [hg, h2]))
    have o1 := V.o1
    have hv := V.lt
    have zw := X3.size
    clear hse
    replace ht := Lib.hid ht
    have cv0 := V.c0
    have cv1 := V.c1
    have cv2 := V.c2
    have f_cv0 := V.f0
    have f_cv1 := V.f1
    have f_cv2 := V.f2
    have z_cv := V.lt
    clear V
    have main : ∀ (v9 : Value) (w9 : World) (B9 : Nat), w3.heap.size ≤ B9 → OwnZ w9 B9 v9 [1] → Ext w3 w9 → ∃ g9 n9 c9, v9 = .slice (some ⟨g9, 0, none⟩) n9 c9 ∧ w9.cell? ⟨gv, 0, none⟩ = some (.int .i64 b) ∧ w9.cell? ⟨gv, 1, none⟩ = some (.slice p1 n1 r1) ∧ w9.cell? ⟨gv, 2, none⟩ = some (.slice p2 0 0) ∧ w9.frozen? ⟨gv, 2, none⟩ = false ∧ SAt rb (k + 205) gv w (w9.setCell ⟨gv, 2, none⟩ (.slice (some ⟨g9, 0, none⟩) n9 c9)) := by
     intro v9 w9 B9 hB ho E9
     obtain ⟨g9, n9, c9, rfl, hn9, G9, G9'⟩ := (ho.ofNe (by simp)).row2 (by simp)
     refine ⟨g9, n9, c9, rfl, E9.cell cv0, E9.cell cv1, E9.cell cv2, E9.frz hv f_cv2, ?_⟩
     exact SAt.put (E9.cell cv0) (E9.cell cv1) (E9.cell cv2) (E9.frz hv f_cv2) (o1.ext E9) (ho.lower (by omega)) hm2.out (fun g hg => by have h7 : some g9 = some g := hg; cases h7; omega) ⟨hl, by simp⟩ (Q.ext E9) ((hr3.ext E9).mono (by omega)) (X3.ext E9) hgv hlt
    replace main := Lib.hid main
    clear o1 Q hr3 X3
    cases p2 with
    | none =>
     go_wp2_with (
      at_builtin
      refine wpList_app rfl (.tmp 17) (.tmp 18) rfl rfl rfl (OwnI.nil _ w3.heap.size) (Ints.one _ 0 _ (Nat.zero_le _)) (by simp <;> omega) (by simp <;> omega) ?_
      intro v9 w9 ho hgr hbl hvb
      obtain ⟨g9, n9, c9, rfl, e0, e1, e2, e3, hS⟩ := main.out v9 w9 _ (Nat.le_refl _) ho.z (Ext.below (show Ext w3 _ from qXt) hbl (Nat.le_refl _))
      clear ho hgr hbl hvb cv0 cv1 cv2 f_cv0 f_cv1 f_cv2
      replace hS := Lib.hid hS)
     go_meet
     case rel => exact hS.out
    | some ad =>
     go_wp2_with (
      at_builtin
      refine wpList_app0 rfl (.tmp 17) (.tmp 18) ad rfl rfl rfl (Ints.one _ 0 _ (Nat.zero_le _)) ?_
      intro v9 w9 ho x9 hvb
      obtain ⟨g9, n9, c9, rfl, e0, e1, e2, e3, hS⟩ := main.out v9 w9 _ (by simp) ho (Ext.trans (show Ext w3 _ from qXt) x9)
      clear ho x9 hvb cv0 cv1 cv2 f_cv0 f_cv1 f_cv2
      replace hS := Lib.hid hS)
     go_meet
     case rel => exact hS.out
   ·
    obtain ⟨g2, c2, e2, G2, G2'⟩ := (V.o2.ofNe ht).row ht
    obtain ⟨rfl, rfl, rfl⟩ : p2 = some ⟨g2, 0, none⟩ ∧ n2 = t.length ∧ r2 = c2 := by simp at e2; exact e2
    have O2 := V.o2.ofNe ht
    have hgne : g2 ≠ gv := fun h => V.n2 ht (by rw [h]; rfl)
    have hlt5 : t.length ≤ 4 := by have := hf.out; omega
    replace e2 := Lib.hid e2
    have cv0 := V.c0
    have cv1 := V.c1
    have cv2 := V.c2
    have f_cv0 := V.f0
    have f_cv1 := V.f1
    have f_cv2 := V.f2
    have z_cv := V.lt
    have hm1 : Hid (s ≠ [] → ∀ g, (Value.slice p1 n1 r1).ownBlock = some g → g < g2 ∨ g2 + 1 ≤ g) := by
     refine Lib.hid (fun h g hg => ?_)
     have : g ≠ g2 := fun h2 => V.sep h ht (by rw [hg, h2]; rfl)
     omega
    have hm2 : Hid (s ≠ [] → ∀ g, (Value.slice p1 n1 r1).ownBlock = some g → g ≠ gv) := Lib.hid (fun h g hg h2 => V.n1 h (by rw [hg, h2]))
    have o1 := V.o1
    have hq := Q.lt
    have hv := V.lt
    replace ht := Lib.hid ht
    clear V
    go_wp2_with (
     at_builtin
     refine wpList_app rfl (.tmp 17) (.tmp 18) rfl rfl rfl (O2.ext ((Ext.refl _).alloc _)) (Ints.one _ 0 _ (Nat.zero_le _)) (by simp <;> omega) (by simp <;> omega) ?_
     intro v9 w9 ho hgr hbl hvb
     obtain ⟨g9, n9, c9, rfl, hn9, G9, G9'⟩ := ho.row2 (by simp)
     have B9 := own_or hvb
     simp only [World.size_alloc] at B9
     have K9 : Chg g2 (g2 + 1) w3 w9 := chg_grown hgr
     have cv0 := K9.cell (by omega) cv0
     have cv1 := K9.cell (by omega) cv1
     have cv2 := K9.cell (by omega) cv2
     have f_cv2 := K9.frzO (by omega) hv f_cv2
     replace o1 := o1.chgI K9 hm1.out
     replace Q := Q.chgB K9 (by omega) (fun h => absurd rfl h) (fun h => absurd rfl h)
     replace hr3 := hr3.chgO K9 (by omega)
     have X9 : Rch rb w w9 := Rch.below' X3 K9 (by omega)
     clear hgr hbl hvb K9 X3)
    go_meet
    case rel => exact SAt.put cv0 cv1 cv2 f_cv2 o1 ho.z hm2.out (fun g hg => by have : some g9 = some g := hg; cases this; omega) ⟨hl, by simp; omega⟩ Q (hr3.mono (by omega)) X9 hgv hlt
  ·
   by_cases ht : t = []
   ·
    have hse : s = [] := List.eq_nil_of_length_eq_zero (by have := hf.out; rw [ht] at this; simpa using this.symm)
    obtain ⟨hn2, hr2'⟩ := hN.out hse
    subst hn2
    subst hr2'
    clear hse
    replace ht := Lib.hid ht
    have cv0 := V.c0
    have cv1 := V.c1
    have cv2 := V.c2
    have f_cv0 := V.f0
    have f_cv1 := V.f1
    have f_cv2 := V.f2
    have z_cv := V.lt
    go_wp2_with fail
    go_meet
    case rel => exact SAt.of V Q (hr3.mono (by omega)) X3
   ·
    obtain ⟨g2, c2, e2, G2, G2'⟩ := (V.o2.ofNe ht).row ht
    obtain ⟨rfl, rfl, rfl⟩ : p2 = some ⟨g2, 0, none⟩ ∧ n2 = t.length ∧ r2 = c2 := by simp at e2; exact e2
    have hgne : g2 ≠ gv := fun h => V.n2 ht (by rw [h]; rfl)
    have hlt0 : 0 < t.length := by cases t; exact absurd rfl ht; simp
    have hltI : (0 : Int) < (t.length : Int) := by omega
    replace e2 := Lib.hid e2
    have htH := Lib.hid ht
    clear ht
    have cv0 := V.c0
    have cv1 := V.c1
    have cv2 := V.c2
    have f_cv0 := V.f0
    have f_cv1 := V.f1
    have f_cv2 := V.f2
    have z_cv := V.lt
    go_wp2_with fail
    clear cv0 cv1 f_cv0 f_cv1 f_cv2
    refine wp_region_tail (S := fun w' => w'.cell? ⟨gv, 2, none⟩ = some (.slice (some ⟨g2, 0, none⟩) t.length r2)) (fun i => decide (6 ≤ i)) qKr cv2 (fun hHeld => ?_)
    refine qTk (v := ?_) 0 rfl (.inl ⟨by rfl, ?_⟩) ?_
    rotate_left
    ·
     (intro w hSw; (try dsimp only at hSw); go_simp; try with_reducible rfl)
    try simp only [Act.put, qa, qb, qc, qD, qE, qF]
    refine qTk (v := ?_) 1 rfl (.inl ⟨by rfl, ?_⟩) ?_
    rotate_left
    ·
     (intro w hSw; (try dsimp only at hSw); go_simp; try with_reducible rfl)
    try simp only [Act.put, qa, qb, qc, qD, qE, qF]
    refine qTk (v := ?_) 2 rfl (.inl ⟨by rfl, ?_⟩) ?_
    rotate_left
    ·
     (intro w hSw; (try dsimp only at hSw); go_simp; try with_reducible rfl)
    try simp only [Act.put, qa, qb, qc, qD, qE, qF]
    refine wpTail_one (i := 3) qKr rfl rfl (fun K hK => ?_)
    try simp only [Act.put, qa, qb, qc, qD, qE, qF]
    go_simp
    have EE : Ext w3 (w3.drew.alloc (.cells #[.int .i64 61, .int .i64 (-61), .int .i64 60] 3)) := qXt
    refine hK.out _ _ (EE.cell cv2) (fun hHeld => ?_)
    clear hK K
    try simp only [Act.put, qa, qb, qc, qD, qE, qF]
    refine wpTail_one (i := 4) qKr rfl rfl (fun K hK => ?_)
    try simp only [Act.put, qa, qb, qc, qD, qE, qF]
    go_simp
    refine (oneLit_c _ _ _ rb _ _ hr3.drew (by omega) (by rfl) (by rfl) (by constructor <;> simp) (by first | rfl | simp)).mono ?_
    rintro e w14 ⟨y, rfl, -, hr14, C14⟩
    have X14 := Rch.step (X3.ext EE) C14
    replace V := (V.ext EE).rch C14 (by omega) (by omega)
    replace Q := (Q.ext EE).rch C14 (by omega) (by omega)
    clear C14 EE hr3 X3
    replace cv2 := V.c2
    refine hK.out _ _ cv2 (fun hHeld => ?_)
    clear hK K
    try simp only [Act.put, qa, qb, qc, qD, qE, qF]
    refine qTk (v := ?_) 5 rfl (.inl ⟨by rfl, ?_⟩) ?_
    rotate_left
    ·
     (intro w hSw; (try dsimp only at hSw); go_simp; try with_reducible rfl)
    try simp only [Act.put, qa, qb, qc, qD, qE, qF]
    obtain ⟨A1, A2⟩ := (V.o2.ofNe htH.out).cell 0 hlt0
    refine wpTail_last (i := 6) qKr rfl rfl (fun K hK => ?_)
    try simp only [Act.put, qa, qb, qc, qD, qE, qF]
    go_simp
    refine hK.out _ _ ?_
    clear hK K
    try simp only [Act.put, qa, qb, qc, qD, qE, qF]
    refine wpTail_done qKr ?_ _
    clear hHeld A1 A2 cv2
    replace Q := Q.chgB ((Chg.refl g2 (g2 + 1) w14).setCell (p := ⟨g2, 0, none⟩) (Nat.le_refl _) (Nat.lt_succ_self _) (.int .i64 y)) (by omega) (fun h => absurd rfl h) (fun h => absurd rfl h)
    replace V := V.setT hlt0 y
    replace X14 := X14.set (a := ⟨g2, 0, none⟩) (show w.heap.size ≤ g2 by omega) (.int .i64 y)
    replace hr14 := Rd.set2 (a := ⟨g2, 0, none⟩) (u := .int .i64 y) (show rb < g2 by omega) hr14
    generalize w14.setCell ⟨g2, 0, none⟩ (.int .i64 y) = w15 at *
    repeat go_step
    go_meet
    case rel => exact SAt.of V Q (hr14.mono (by omega)) X14
  ·
   go_wp2_with fail
   go_meet
   case rel => exact SAt.of V Q (hr3.mono (by omega)) X3
 case rest =>
  obtain ⟨b, s, t, p1, p2, n1, r1, n2, r2, c0, c1, c2, o1, o2, ⟨l1, l2⟩, Q, hr, X⟩ := hcut
  have zv : gv < wc.heap.size := qB c0
  have cq0 := Q.c0
  have cq1 := Q.c1
  have cq2 := Q.c2
  have f_cq0 := Q.f0
  have f_cq1 := Q.f1
  have f_cq2 := Q.f2
  have z_cq := Q.lt
  go_wp2_with fail
  refine bodyPost_ret (v := .agg #[.int .i64 b, .slice p1 n1 r1, .slice p2 n2 r2]) (by simp only [results, Try.results78]; go_simp) rfl ?_
  have K := Chg.three (lo := w.heap.size) wc (.int .i64 b) (.slice p1 n1 r1) (.slice p2 n2 r2)
  replace o1 := o1.chg K (Nat.le_refl _)
  replace o2 := o2.chg K (Nat.le_refl _)
  replace X := ((X.set (a := ⟨w.heap.size, 0, none⟩) (show w.heap.size ≤ w.heap.size by omega) (.int .i64 b)).set (a := ⟨w.heap.size, 1, none⟩) (show w.heap.size ≤ w.heap.size by omega) (.slice p1 n1 r1)).set (a := ⟨w.heap.size, 2, none⟩) (show w.heap.size ≤ w.heap.size by omega) (.slice p2 n2 r2)
  replace hr := Rd.set2 (a := ⟨w.heap.size, 2, none⟩) (u := .slice p2 n2 r2) (show rb < w.heap.size by omega) (Rd.set2 (a := ⟨w.heap.size, 1, none⟩) (u := .slice p1 n1 r1) (show rb < w.heap.size by omega) (Rd.set2 (a := ⟨w.heap.size, 0, none⟩) (u := .int .i64 b) (show rb < w.heap.size by omega) hr))
  clear K
  generalize ((wc.setCell ⟨w.heap.size, 0, none⟩ (.int .i64 b)).setCell ⟨w.heap.size, 1, none⟩ (.slice p1 n1 r1)).setCell ⟨w.heap.size, 2, none⟩ (.slice p2 n2 r2) = w30 at *
  exact ⟨b, s, t, p1, p2, n1, r1, n2, r2, rfl, (o1.ints (by omega)).lower (by omega), (o2.ints (by omega)).lower (by omega), l1, l2, hr.mono (by omega), X⟩

end Go.Proofs.Ytpgkhjmboiepcaa

/- What the arguments of a law read as, when they are opened: ints, lists of ints, views. -/
namespace Go.Proofs.Ytpgkhjmboiepcaa
open Go.ChangeShapes Go.WideShapes Go.ChangeAt Go.RowKit Go.Joins
set_option linter.unusedVariables false
set_option maxRecDepth 100000

theorem own : ownKnob Try.prog.godebug = none := by kernel_rfl
theorem laidOut : laidOutB Try.prog = true := by kernel_rfl
/-- a slice of ints that came in -/
def RawIn (w : World) (v : Value) (xs : List Int) : Prop := Raw w v xs ∧ xs.length ≤ maxLen

section
variable {H : Type} {enc : TypeId × Value → H} {w : World} {base : Nat} {spare : Nat → Bool} {held : Bool} {fuel : Nat}

theorem RawIn.form {v : Value} {xs : List Int} (h : RawIn w v xs) : ∃ a cap, v = .slice a xs.length cap := by
  obtain ⟨⟨a, cap, hv, _⟩, _⟩ := h; exact ⟨a, cap, hv⟩

end

end Go.Proofs.Ytpgkhjmboiepcaa

/- What the argument of a law on drawn data reads as, when it is opened: a slice of bytes. -/
namespace Go.Proofs.Ytpgkhjmboiepcaa
open Go.ChangeShapes Go.WideShapes Go.ChangeAt Go.RowKit Go.Joins
set_option linter.unusedVariables false

theorem bys_of_cells {W : World} {x : Addr} {n cap : Nat} {zs : List Int} (hl : n ≤ cap) (hm : cap ≤ maxLen) (hz : zs.length = cap) (hcell : ∀ i, i < zs.length → W.cell? (x.add i) = some (.int .u8 (zs.getD i 0))) (hwz : ∀ m ∈ zs, (Lit.int .u8 m).wf = true) : BysIn W (some x) n cap := by
  refine ⟨hl, hm, fun i hi => ?_⟩
  obtain ⟨b, off, spot⟩ := x
  have h0 := hcell 0 (by omega)
  have hspot : spot = none := by simpa [Addr.add] using World.cell?_spot h0
  subst hspot
  have hc := hcell i (by omega)
  have e : (⟨b, off, none⟩ : Addr).add i = ⟨b, off + i, none⟩ := by unfold Addr.add; split <;> simp_all
  rw [e] at hc
  have hw := hwz (zs.getD i 0) (by simp [show i < zs.length by omega])
  refine ⟨b, off, _, rfl, hc, ?_⟩
  have := bounds_u8 hw
  omega

end Go.Proofs.Ytpgkhjmboiepcaa

/- Walks: drawn arguments: a view; a view and a size. -/
namespace Go.Proofs.Ytpgkhjmboiepcaa
open Go.RowKit
set_option linter.unusedVariables false
set_option maxRecDepth 100000


end Go.Proofs.Ytpgkhjmboiepcaa

/- Walks: drawn memories, views of memories, values. -/
namespace Go.Proofs.Ytpgkhjmboiepcaa
open Go.RowKit
set_option linter.unusedVariables false
set_option maxRecDepth 100000

theorem Ints.len_eq {w : World} {lo : Nat} {p : Option Addr} {n r : Nat} {s : List Int} (h : Ints w lo (.slice p n r) s) : n = s.length := by
  obtain ⟨a, c, e⟩ := h.form; simp at e; exact e.2.1
def PMem (rb k : Nat) (w : World) (e : Ending) (w' : World) : Prop := ∃ v xs, e = .returned v ∧ OwnI w' w.heap.size v xs ∧ xs.length ≤ 60 ∧ Rd w' rb k ∧ Chg rb (rb + 1) w w'
set_option maxHeartbeats 3200000 in
theorem someMemory_c (rb k : Nat) (w : World) (hr : Rd w rb k) (hk : k ≤ 700000) :
    Calls Try.prog 77 #[.pointer (some ⟨rb, 0, none⟩)] w (PMem rb (k + 70) w) := by
  have hlt := hr.lt
  go_enter Try.func77, Try.ntmps77
  go_wp2_with fail
  refine (oneLit_c _ _ _ rb _ _ (by repeat (first | (with_reducible exact hr) | (with_reducible apply Rd.drewN) | (with_reducible apply Rd.drew) | (with_reducible apply Rd.alloc) | ((with_reducible apply Rd.set2); (· first | assumption | (simp; omega) | (simp; done) | omega)))) (by omega) (by rfl) (by rfl) (by constructor <;> simp) (by first | rfl | simp)).mono ?_
  rintro e w1 ⟨n, rfl, hn, hr1, hC1⟩
  have hn' : 5 ≤ n ∧ n ≤ 60 := by simp [litL] at hn; omega
  clear hn
  obtain ⟨m, rfl⟩ : ∃ m : Nat, n = m := ⟨n.toNat, by omega⟩
  have ho1 : OwnI w1 w.heap.size (.slice (some ⟨w.heap.size, 0, none⟩) 0 0) [] := ((OwnI.lit0 w w.heap.size (Nat.le_refl _)).ext qXo).chg hC1 hlt
  have hX1 : Chg rb (rb + 1) w w1 := Chg.trans (Chg.of_ext qXo) hC1
  clear hC1
  go_wp2_with fail
  go_loopw [3, 4] (fun v i wr => ∃ (q m : Nat) (xs : List Int), i = .int .i64 m ∧ (xs.length + m ≤ 60 ∧ 1 ≤ xs.length + m) ∧ OwnI wr w.heap.size v xs ∧ Rd wr rb q ∧ q + m ≤ k + 62 ∧ Chg rb (rb + 1) w wr) (fun _ i _ => (intOf i).toNat)
  case atStart => exact ⟨k + 1, m, [], rfl, by simp; omega, ho1, hr1, by omega, hX1⟩
  case round =>
    obtain ⟨q, m, xs, rfl, hl, ho, hr, hq, hX⟩ := hrel
    have hz : w.heap.size ≤ wr.heap.size := hX.size
    cases m with
    | succ m =>
      have hI : (0 : Int) < ((m + 1 : Nat) : Int) := by omega
      have hI2 : ((m + 1 : Nat) : Int) - 1 = (m : Int) := by omega
      go_wp2_with fail
      refine (pick1_c _ rb _ _ hr (by omega) (by omega)).mono ?_
      rintro e w2 ⟨x, rfl, hx, hr2, hC2⟩
      have ho2 := ho.chg hC2 hlt
      have hX2 : Chg rb (rb + 1) w w2 := hX.trans hC2
      have hz2 : w.heap.size ≤ w2.heap.size := hX2.size
      clear hC2 hX ho hr hx
      replace ho2 := Lib.hid ho2
      replace hX2 := Lib.hid hX2
      replace hr2 := Lib.hid hr2
      go_wp2_with (at_builtin; refine wpList_app rfl (.tmp 13) (.tmp 16) rfl rfl rfl (ho2.out.ext ((Ext.refl _).alloc _)) (Ints.one _ 0 _ (Nat.zero_le _)) (by simp only [List.length_cons, List.length_nil]; omega) (by simp; omega) ?_; intro v' w3 ho3 _ hb3 _; replace ho3 := Lib.hid ho3)
      go_roundw
      case rel => exact ⟨q + 1, m, xs ++ [x], by first | rfl | go_num, by simp; omega, ho3.out, (hr2.out.alloc _).below hb3 hlt, by omega, Rch.below (hX2.out.ext qXo) hb3⟩
      case measure => simp [intOf]
    | zero =>
      have hne : xs ≠ [] := by intro h; subst h; simp at hl
      obtain ⟨g, n2, c, rfl, hn2, G, G'⟩ := ho.row2 hne
      have hlx : 0 < xs.length := by omega
      have hnI : Hid ((0 : Int) < (n2 : Int)) := Lib.hid (by have := hn2.out; omega)
      replace hne := Lib.hid hne
      go_wp2_with fail
      refine (pick1_c _ rb _ _ hr (by omega) (by omega)).mono ?_
      rintro e w2 ⟨x, rfl, hx, hr2, hC2⟩
      have ho2 := ho.chg hC2 hlt
      have hX2 : Chg rb (rb + 1) w w2 := hX.trans hC2
      clear hC2 hX ho hr hx
      by_cases hx0 : x = 0
      · subst hx0
        go_wp2_with fail
        refine (oneLit_c _ _ _ rb _ _ (by exact hr2) (by omega) (by rfl) (by rfl) (by constructor <;> simp) (by first | rfl | simp)).mono ?_
        rintro e w3 ⟨y, rfl, hy, hr3, hC3⟩
        have ho3 := (ho2.ext qXo).chg hC3 hlt
        have hX3 : Chg rb (rb + 1) w w3 := (hX2.ext qXo).trans hC3
        have hz3 := hX3.size
        clear hC3 hX2 ho2 hr2 hy
        obtain ⟨A1, A2⟩ := ho3.cell 0 hlx
        have hnI' := hnI.out
        replace ho3 := Lib.hid ho3
        go_wp2_with fail
        go_ret
        exact ⟨_, xs.set 0 y, rfl, ho3.out.set 0 y hlx, by simp; omega, (Rd.set2 (by simp; omega) hr3).mono (by omega), Rch.set hX3 (by simp; omega) _⟩
      · have hxe : (x == 0) = false := by simpa using hx0
        replace hx0 := Lib.hid hx0
        replace ho2 := Lib.hid ho2
        go_wp2_with fail
        go_ret
        exact ⟨_, xs, rfl, ho2.out, by omega, hr2.mono (by omega), hX2⟩

/-- a memory and a view are drawn -/
def PMV (lo : Nat) (e : Ending) (w' : World) : Prop := ∃ (mem : List Int) (p0 : Option Addr) (n0 r0 : Nat) (b : Int) (s t : List Int) (p1 p2 : Option Addr) (n1 r1 n2 r2 : Nat), e = .returned (.tuple #[.slice p0 n0 r0, .agg #[.int .i64 b, .slice p1 n1 r1, .slice p2 n2 r2]]) ∧ mem.length ≤ 60 ∧
  Ints w' lo (.slice p0 n0 r0) mem ∧ Ints w' lo (.slice p1 n1 r1) s ∧ Ints w' lo (.slice p2 n2 r2) t ∧ s.length ≤ 4 ∧ t.length ≤ 5
set_option maxHeartbeats 3200000 in
theorem memView_c (rb k : Nat) (w : World) (hr : Rd w rb k) (hk : k ≤ 600000) :
    Calls Try.prog 37 #[.pointer (some ⟨rb, 0, none⟩)] w (fun e w' => PMV w.heap.size e w' ∧ Rd w' rb (k + 280) ∧ Chg rb (rb + 1) w w') := by
  have hlt := hr.lt
  go_enter Try.func37, Try.ntmps37
  go_wp2_with fail
  refine (someMemory_c rb k _ (hr.alloc _) (by omega)).mono ?_
  rintro e w1 ⟨v, mem, rfl, o0, hml, hr1, C1⟩
  have i0 := (o0.ints (by omega)).lower (show w.heap.size + 1 ≤ _ by simp)
  clear o0
  obtain ⟨p0, n0, r0, rfl⟩ := i0.any
  have E0 : Ext w (w.alloc (.cells #[.int .i64 0, .slice none 0 0, .slice none 0 0] 25)) := qXt
  have X1 : Chg rb (rb + 1) w w1 := (Chg.of_ext E0).trans C1
  have q0 : w1.cell? ⟨w.heap.size, 0, none⟩ = some (.int .i64 0) := C1.cell (.inr (by omega)) (by simp)
  have q1 : w1.cell? ⟨w.heap.size, 1, none⟩ = some (.slice none 0 0) := C1.cell (.inr (by omega)) (by simp)
  have q2 : w1.cell? ⟨w.heap.size, 2, none⟩ = some (.slice none 0 0) := C1.cell (.inr (by omega)) (by simp)
  have f0 : w1.frozen? ⟨w.heap.size, 0, none⟩ = false := C1.frzO (.inr (by omega)) (by simp) (by simp)
  have f1 : w1.frozen? ⟨w.heap.size, 1, none⟩ = false := C1.frzO (.inr (by omega)) (by simp) (by simp)
  have f2 : w1.frozen? ⟨w.heap.size, 2, none⟩ = false := C1.frzO (.inr (by omega)) (by simp) (by simp)
  have z1 : w.heap.size < w1.heap.size := qB q0
  clear C1 E0 hr
  go_wp2_with fail
  refine (someView_c _ _ _ hr1 (by omega)).mono ?_
  rintro e w2 ⟨b, s, t, p1, p2, n1, r1, n2, r2, rfl, i1, i2, l1, l2, hr2, C⟩
  have X2 : Chg rb (rb + 1) w w2 := X1.trans C
  replace i0 := i0.chg C (by omega)
  replace q0 := C.cell (.inr (by omega)) q0
  replace q1 := C.cell (.inr (by omega)) q1
  replace q2 := C.cell (.inr (by omega)) q2
  replace f0 := C.frzO (.inr (by omega)) (by omega) f0
  replace f1 := C.frzO (.inr (by omega)) (by omega) f1
  replace f2 := C.frzO (.inr (by omega)) (by omega) f2
  have z2 : w.heap.size < w2.heap.size := qB q0
  have z12 := C.size
  clear C X1 hr1
  go_wp2_with fail
  refine bodyPost_ret (v := .tuple #[.slice p0 n0 r0, .agg #[.int .i64 b, .slice p1 n1 r1, .slice p2 n2 r2]]) (by simp only [results, Try.results37]; go_simp) rfl ?_
  have K := Chg.three (lo := w.heap.size) w2 (.int .i64 b) (.slice p1 n1 r1) (.slice p2 n2 r2)
  replace i1 := i1.chg K (by omega)
  replace i2 := i2.chg K (by omega)
  exact ⟨⟨mem, p0, n0, r0, b, s, t, p1, p2, n1, r1, n2, r2, rfl, hml, (i0.chg K (by omega)).lower (by omega), i1.lower (by omega), i2.lower (by omega), l1, l2⟩, (Rd.set2 (by simp; omega) (Rd.set2 (by simp; omega) (Rd.set2 (by simp; omega) hr2))).mono (by omega), Rch.set (Rch.set (Rch.set X2 (by simp) _) (by simp) _) (by simp) _⟩
def PMemView (w : World) (e : Ending) (w' : World) : Prop := PMV w.heap.size e w' ∧ Ext w w'

end Go.Proofs.Ytpgkhjmboiepcaa

/- What the joined form asks of the PROGRAM, whatever the function: each its own theorem. The head's long line of names is cut behind its third word first: read whole it outgrows the kernel's memory. -/
namespace Go.Proofs.Ytpgkhjmboiepcaa.facts

theorem words_ne : ∀ l : List Char, wordsSigns l ≠ []
  | [] => by simp [wordsSigns]
  | c :: r => by
    unfold wordsSigns
    split
    · simp
    · simp
    · split <;> simp

theorem words_app (b : List Char) : ∀ a : List Char, wordsSigns (a ++ Char.ofNat 32 :: b) = wordsSigns a ++ wordsSigns b
  | [] => by rw [List.nil_append]; rfl
  | c :: r => by
    have ih := words_app b r
    by_cases h : c = Char.ofNat 32
    · subst h
      have e : ∀ l : List Char, wordsSigns (Char.ofNat 32 :: l) = [] :: wordsSigns l := fun l => rfl
      rw [List.cons_append, e, e, ih]; rfl
    · have e : ∀ l : List Char, wordsSigns (c :: l) = match wordsSigns l with | w :: ws => (c :: w) :: ws | [] => [[c]] := by
        intro l
        conv => lhs; unfold wordsSigns
        split
        · rename_i h1; cases h1
        · rename_i h1; cases h1; exact absurd rfl h
        · rename_i h1; cases h1; rfl
      rw [List.cons_append, e, e, ih]
      cases hr : wordsSigns r with
      | nil => exact absurd hr (words_ne r)
      | cons w ws => simp

theorem cut_at {l : List Char} (h : (l.drop 76).head? = some (Char.ofNat 32)) : l = l.take 76 ++ Char.ofNat 32 :: l.drop 77 := by
  have e := List.take_append_drop 76 l
  cases hd : l.drop 76 with
  | nil => rw [hd] at h; cases h
  | cons c r =>
    rw [hd] at h
    have hc : c = Char.ofNat 32 := Option.some.inj h
    have : l.drop 77 = r := by
      have := congrArg (List.drop 1) hd
      simpa [List.drop_drop] using this
    rw [this, ← hc, ← hd]; exact e.symm

set_option maxRecDepth 100000 in
theorem order : ∃ l, Try.checked.prog.initOrder = String.ofList l ∧ (l.drop 76).head? = some (Char.ofNat 32) ∧ ∀ W, behindMainWord (wordsSigns (l.take 76) ++ W) = "cut".toList :: W := by
  unfold Try.checked Try.prog
  refine ⟨_, rfl, ?_, ?_⟩
  · kernel_rfl
  · intro W; kernel_rfl

theorem behind_all : ∃ W, behindMainWord (wordsSigns Try.checked.prog.initOrder.toList) = "cut".toList :: W := by
  obtain ⟨l, e, h1, h2⟩ := order
  refine ⟨wordsSigns (l.drop 77), ?_⟩
  rw [e, String.toList_ofList, cut_at h1, words_app, ← cut_at h1]
  exact h2 _

theorem strip (W : List (List Char)) : stripLifts liftWords ("cut".toList :: W) = ([], "cut".toList :: W) := by kernel_rfl

theorem lifts : Try.checked.prog.headLifts = [] := by
  unfold Program.headLifts
  obtain ⟨W, e⟩ := behind_all
  rw [e, strip]
  kernel_rfl

theorem laysLater : Try.checked.prog.laysLater = false := by kernel_rfl
theorem bearsReflect : Try.checked.prog.bearsReflect = false := by kernel_rfl
theorem doorFits : Try.checked.prog.doorFits [] = true := by kernel_rfl

theorem mayEnter_of {P : Program} {W : List (List Char)} (e : behindMainWord (wordsSigns P.initOrder.toList) = "cut".toList :: W) (h1 : P.laysLater = false) (h2 : P.bearsReflect = false) (h3 : P.doorFits [] = true) : P.mayEnter = true := by
  unfold Program.mayEnter
  rw [e]
  simp only [strip, h1, h2, h3]
  kernel_rfl

theorem mayEnter : Try.checked.prog.mayEnter = true := by
  obtain ⟨W, e⟩ := behind_all
  exact mayEnter_of e laysLater bearsReflect doorFits

theorem liftsFinal_of {P : Program} {W : List (List Char)} (e : behindMainWord (wordsSigns P.initOrder.toList) = "cut".toList :: W) (h : P.headLifts = []) : P.liftsFinal = false := by
  unfold Program.liftsFinal
  rw [e, h]
  kernel_rfl

theorem liftsFinal : Try.checked.prog.liftsFinal = false := by
  obtain ⟨W, e⟩ := behind_all
  exact liftsFinal_of e lifts

theorem make_of {P : Program} {W : List (List Char)} (e : behindMainWord (wordsSigns P.initOrder.toList) = "cut".toList :: W) : P.make = some .cut := by
  unfold Program.make
  rw [e]
  kernel_rfl

theorem make : Try.checked.prog.make = some .cut := by
  obtain ⟨W, e⟩ := behind_all
  exact make_of e

theorem laid : laidOutB Try.checked.prog = true := by kernel_rfl
theorem mapped : mapsRowed Try.checked.prog = true := by kernel_rfl
theorem stops : Try.checked.prog.stops = [] := by kernel_rfl
theorem stopKnobs : Try.checked.prog.stopKnobs = [] := by kernel_rfl
theorem stopsHeard : Try.checked.prog.stopsHeard = true := by kernel_rfl
theorem plainKeys : Try.checked.prog.plainKeys = true := by kernel_rfl

set_option maxRecDepth 100000 in
theorem all {f : FuncId} {fn : Func} {s : ChangeSpec} {c : OpenClaim}
    (h1 : c.wf (OpenSpec.ofChange s) = true) (h2 : fn.params.all (Try.checked.prog.readableRec ·) = true) (h3 : namedTie Try.checked.prog c.named s.vars = true)
    (h4 : (c.stops == []) = true) (h5 : (c.knobs == []) = true)
    (h6 : (c.inPlace == Try.checked.prog.inPlace f) = true) (h7 : (c.unfollowed == Try.checked.prog.unfollowed f) = true) (h8 : (c.recurses == Try.checked.prog.recurses f) = true) (h9 : (c.named == Try.checked.prog.varsNamed f) = true)
    (h10 : (c.maps == (fn.params.toList ++ s.plain.varTypes Try.checked.prog).any (Try.checked.prog.mapsRec ·) && (c.ifaces == (fn.params.toList ++ s.plain.varTypes Try.checked.prog).any (Try.checked.prog.ifacesRec ·)) && (c.mapsOut == Try.checked.prog.mapsAmong fn.resultTypes.toList) &&
      (c.loops == (fn.params.toList ++ s.plain.varTypes Try.checked.prog).any (Try.checked.prog.loopsFrom ·)) && (c.wideKeys == (fn.params.toList ++ s.plain.varTypes Try.checked.prog ++ fn.resultTypes.toList).any (Try.checked.prog.wideKeysFrom ·))) = true)
    (h11 : (s.vars.all (Try.checked.prog.varReadable ·) && fn.resultTypes.all (fun t => Try.checked.prog.readableRec t && decide (t < Try.checked.prog.types.size)) && (c.ifacesOut == fn.resultTypes.toList.any (Try.checked.prog.ifacesRec ·)) && (c.loopsOut == fn.resultTypes.toList.any (Try.checked.prog.loopsFrom ·))) = true)
    (h12 : c.plainKeys = true) (h13 : c.shortTexts.isNone = true) (h14 : c.lifted = false) (h15 : c.make = .cut)
    (h16 : (c.kinds == (if c.domain.isEmpty then [] else fn.params.toList.map fun t => match Try.checked.prog.underlying t with | some (.int k) => some k | _ => none)) = true) (h17 : (c.pinned == c.pinnedBy) = true)
    (h18 : (c.veiled == (fn.params.toList ++ s.plain.varTypes Try.checked.prog ++ fn.resultTypes.toList).any (Try.checked.prog.veiledRec ·)) = true)
    (h19 : c.veiledFits Try.checked.prog fn.params.toList (fn.params.toList ++ s.plain.varTypes Try.checked.prog ++ fn.resultTypes.toList) = true) :
    joinedFacts Try.checked.prog f fn s c = true := by
  unfold joinedFacts
  simp only [Bool.and_eq_true] at h10 h11 ⊢
  obtain ⟨⟨⟨⟨a1, a2⟩, a3⟩, a4⟩, a5⟩ := h10
  obtain ⟨⟨⟨b1, b2⟩, b3⟩, b4⟩ := h11
  refine ⟨⟨⟨⟨⟨⟨⟨⟨⟨⟨⟨⟨⟨⟨⟨⟨⟨⟨⟨⟨⟨⟨⟨⟨⟨⟨⟨⟨⟨⟨⟨h1, laid⟩, mapped⟩, h2⟩, h3⟩, h4⟩, ?_⟩, h5⟩, ?_⟩, h6⟩, h7⟩, h8⟩, h9⟩, a1⟩, a2⟩, a3⟩, a4⟩, a5⟩, b1⟩, b2⟩, b3⟩, b4⟩, ?_⟩, h13⟩, stopsHeard⟩, mayEnter⟩, ?_⟩, ?_⟩, h16⟩, h17⟩, h18⟩, h19⟩
  · rw [stops]; rfl
  · rw [stopKnobs]; rfl
  · rw [plainKeys, h12]; rfl
  · rw [liftsFinal, h14]; rfl
  · rw [make, h15]; exact beq_self_eq_true _

end Go.Proofs.Ytpgkhjmboiepcaa.facts
