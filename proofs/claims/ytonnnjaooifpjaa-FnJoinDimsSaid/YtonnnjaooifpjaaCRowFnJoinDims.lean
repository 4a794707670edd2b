/- Texts of these proofs put together: LawFnJoinDims, RowFnJoinDims. No condition. -/
import Derived.Test.YtonnnjaooifpjaaD1RowFnJoinDims
import Derived.Test.YtonnnjaooifpjaaD2RowFnJoinDims
import Derived.Test.YtonnnjaooifpjaaD3RowFnJoinDims
import Derived.Test.YtonnnjaooifpjaaM4
set_option linter.unusedVariables false
set_option linter.unusedSimpArgs false
/- FnJoinDims returns true for all bytes: no condition. -/
namespace Go.Proofs.Ytonnnjaooifpjaa
open Go.RowKit
set_option linter.unusedVariables false
set_option maxRecDepth 100000


theorem jn_true {b : Int} {s t : List Int} {D : Nat} {PB : Int} {PS PT : List Int} (h : jnV b s t (D : Int) = (PB, PS, PT, true)) (hv : viewB b s t = true) (hd : D + 1 < s.length) (hc : ¬ cntA s = 0) :
  s.getD D 0 = 1 ∨ s.getD (D + 1) 0 = 1 ∨ t.getD D 0 = t.getD (D + 1) 0 * s.getD (D + 1) 0 := by
 have hdim : dimB b s t (D : Int) = true := by unfold dimB inB; rw [hv]; simp; omega
 rw [jn_yes hdim hd rfl rfl rfl] at h
 rw [cntA_of (viewB_in hv).1] at hc
 exact (join_law hv hd hc).1 (by rw [h])
theorem jn_false {b : Int} {s t : List Int} {D : Nat} {PB : Int} {PS PT : List Int} (h : jnV b s t (D : Int) = (PB, PS, PT, false)) (hv : viewB b s t = true) (hd : D + 1 < s.length) (hc : ¬ cntA s = 0) :
  ¬ (s.getD D 0 = 1 ∨ s.getD (D + 1) 0 = 1 ∨ t.getD D 0 = t.getD (D + 1) 0 * s.getD (D + 1) 0) := by
 have hdim : dimB b s t (D : Int) = true := by unfold dimB inB; rw [hv]; simp; omega
 rw [jn_yes hdim hd rfl rfl rfl] at h
 rw [cntA_of (viewB_in hv).1] at hc
 intro hx
 have := (join_law hv hd hc).2 hx
 rw [h] at this; cases this

set_option maxHeartbeats 6400000 in
theorem lawFnJoinDims_c (a : Option Addr) (n cap : Nat) (w : World) (hb : BysIn w a n cap) :
  Calls Try.prog 5 #[.slice a n cap] w fun e w' => e = .returned (.bool true) ∧ Ext w w' := by
 have hcm := hb.1
 have hcm2 := hb.2.1
 unfold maxLen at hcm2
 go_enter Try.func5, Try.ntmps5
 by_cases hc1 : (1048576 : Int) < (n : Int)
 ·
  go_wp2_with fail
  go_ret
  exact ⟨rfl, qXo⟩
 ·
  go_wp2_with fail
  refine (drawJoinDims_c a n cap _ hb).mono ?_
  rintro e w1 ⟨b, s, t, p1, p2, r1, r2, d, rfl, i1, i2, l1, l2, hd5, xw1⟩
  have Lw1 : Ext w w1 := Ext.trans qXt xw1
  have Xw1 : Ext w w1 := Lw1
  have s_w1 : w.heap.size ≤ w1.heap.size := Xw1.size
  clear xw1
  clear hb
  obtain ⟨PB, PS, PT, PO, hP⟩ : ∃ PB PS PT PO, jnV b s t d = (PB, PS, PT, PO) := ⟨_, _, _, _, rfl⟩
  by_cases hdn : d < 0
  ·
   cases PO
   ·
    replace hP := Lib.hid hP
    go_wp2_with fail
    refine (pvx_eq hP.out (implJoinDims_c b (.slice p1 s.length r1) (.slice p2 t.length r2) s t d _ _ _ (i1.ext qXt) (i2.ext qXt))).mono ?_
    rintro e w2 ⟨fv3u, fv3v, rfl, i4u, i4v, xw2⟩
    have Lw2 : Ext w1 w2 := Ext.trans qXt xw2
    have Xw2 : Ext w w2 := Xw1.trans Lw2
    have b20 : w2.cell? ⟨w1.heap.size, 0, none⟩ = some (.int .i64 b) := xw2.cell qCl
    have b21 : w2.cell? ⟨w1.heap.size, 1, none⟩ = some (.slice p1 s.length r1) := xw2.cell qCl
    have b22 : w2.cell? ⟨w1.heap.size, 2, none⟩ = some (.slice p2 t.length r2) := xw2.cell qCl
    have z_b2 : w1.heap.size < w2.heap.size := qB b20
    replace i1 := i1.ext Lw2
    replace i2 := i2.ext Lw2
    have s_w2 : w.heap.size ≤ w2.heap.size := Xw2.size
    clear xw2
    try simp only [World.size_alloc, World.size_drew] at i4u
    try simp only [World.size_alloc, World.size_drew] at i4v
    obtain ⟨afv3u, cfv3u, rfl⟩ := i4u.form
    obtain ⟨afv3v, cfv3v, rfl⟩ := i4v.form
    go_wp2_with fail
    refine (pvx_eq hP.out (specJoinDims_c b (.slice p1 s.length r1) (.slice p2 t.length r2) s t d _ _ _ (i1.ext qXt) (i2.ext qXt))).mono ?_
    rintro e w3 ⟨fv6u, fv6v, rfl, i7u, i7v, xw3⟩
    have Lw3 : Ext w2 w3 := Ext.trans qXt xw3
    have Xw3 : Ext w w3 := Xw2.trans Lw3
    replace b20 := Lw3.cell b20
    replace b21 := Lw3.cell b21
    replace b22 := Lw3.cell b22
    have b50 : w3.cell? ⟨w2.heap.size, 0, none⟩ = some (.int .i64 PB) := xw3.cell qCl
    have b51 : w3.cell? ⟨w2.heap.size, 1, none⟩ = some (.slice afv3u PS.length cfv3u) := xw3.cell qCl
    have b52 : w3.cell? ⟨w2.heap.size, 2, none⟩ = some (.slice afv3v PT.length cfv3v) := xw3.cell qCl
    have z_b2 : w1.heap.size < w3.heap.size := qB b20
    have z_b5 : w2.heap.size < w3.heap.size := qB b50
    replace i1 := i1.ext Lw3
    replace i2 := i2.ext Lw3
    replace i4u := i4u.ext Lw3
    replace i4v := i4v.ext Lw3
    have s_w3 : w.heap.size ≤ w3.heap.size := Xw3.size
    clear xw3
    try simp only [World.size_alloc, World.size_drew] at i7u
    try simp only [World.size_alloc, World.size_drew] at i7v
    obtain ⟨afv6u, cfv6u, rfl⟩ := i7u.form
    obtain ⟨afv6v, cfv6v, rfl⟩ := i7v.form
    go_wp2_with fail
    refine (leqView_c PB (.slice afv3u PS.length cfv3u) (.slice afv3v PT.length cfv3v) (.slice afv6u PS.length cfv6u) (.slice afv6v PT.length cfv6v) PS PT _ _ _ _ _ (i4u.ext qXt) (i4v.ext qXt) (i7u.ext qXt) (i7v.ext qXt)).mono ?_
    rintro e w4 ⟨rfl, xw4⟩
    have Lw4 : Ext w3 w4 := Ext.trans qXt xw4
    have Xw4 : Ext w w4 := Xw3.trans Lw4
    replace b20 := Lw4.cell b20
    replace b21 := Lw4.cell b21
    replace b22 := Lw4.cell b22
    replace b50 := Lw4.cell b50
    replace b51 := Lw4.cell b51
    replace b52 := Lw4.cell b52
    have b80 : w4.cell? ⟨w3.heap.size, 0, none⟩ = some (.int .i64 PB) := xw4.cell qCl
    have b81 : w4.cell? ⟨w3.heap.size, 1, none⟩ = some (.slice afv6u PS.length cfv6u) := xw4.cell qCl
    have b82 : w4.cell? ⟨w3.heap.size, 2, none⟩ = some (.slice afv6v PT.length cfv6v) := xw4.cell qCl
    have z_b2 : w1.heap.size < w4.heap.size := qB b20
    have z_b5 : w2.heap.size < w4.heap.size := qB b50
    have z_b8 : w3.heap.size < w4.heap.size := qB b80
    replace i1 := i1.ext Lw4
    replace i2 := i2.ext Lw4
    replace i4u := i4u.ext Lw4
    replace i4v := i4v.ext Lw4
    replace i7u := i7u.ext Lw4
    replace i7v := i7v.ext Lw4
    have s_w4 : w.heap.size ≤ w4.heap.size := Xw4.size
    clear xw4
    go_wp2_with fail
    refine (implValidView_c b (.slice p1 s.length r1) (.slice p2 t.length r2) s t _ _ _ (i1.ext qXt) (i2.ext qXt)).mono ?_
    rintro e w5 ⟨rfl, xw5⟩
    have Lw5 : Ext w4 w5 := Ext.trans qXt xw5
    have Xw5 : Ext w w5 := Xw4.trans Lw5
    replace b20 := Lw5.cell b20
    replace b21 := Lw5.cell b21
    replace b22 := Lw5.cell b22
    replace b50 := Lw5.cell b50
    replace b51 := Lw5.cell b51
    replace b52 := Lw5.cell b52
    replace b80 := Lw5.cell b80
    replace b81 := Lw5.cell b81
    replace b82 := Lw5.cell b82
    have z_b2 : w1.heap.size < w5.heap.size := qB b20
    have z_b5 : w2.heap.size < w5.heap.size := qB b50
    have z_b8 : w3.heap.size < w5.heap.size := qB b80
    replace i1 := i1.ext Lw5
    replace i2 := i2.ext Lw5
    replace i4u := i4u.ext Lw5
    replace i4v := i4v.ext Lw5
    replace i7u := i7u.ext Lw5
    replace i7v := i7v.ext Lw5
    have s_w5 : w.heap.size ≤ w5.heap.size := Xw5.size
    clear xw5
    cases hB9 : viewB b s t
    ·
     replace hB9 := Lib.hid hB9
     go_wp2_with fail
     refine (leqView_c PB (.slice afv3u PS.length cfv3u) (.slice afv3v PT.length cfv3v) (.slice afv6u PS.length cfv6u) (.slice afv6v PT.length cfv6v) PS PT _ _ _ _ _ (i4u.ext qXt) (i4v.ext qXt) (i7u.ext qXt) (i7v.ext qXt)).mono ?_
     rintro e w6 ⟨rfl, xw6⟩
     have Lw6 : Ext w5 w6 := Ext.trans qXt xw6
     have Xw6 : Ext w w6 := Xw5.trans Lw6
     replace b20 := Lw6.cell b20
     replace b21 := Lw6.cell b21
     replace b22 := Lw6.cell b22
     replace b50 := Lw6.cell b50
     replace b51 := Lw6.cell b51
     replace b52 := Lw6.cell b52
     replace b80 := Lw6.cell b80
     replace b81 := Lw6.cell b81
     replace b82 := Lw6.cell b82
     have z_b2 : w1.heap.size < w6.heap.size := qB b20
     have z_b5 : w2.heap.size < w6.heap.size := qB b50
     have z_b8 : w3.heap.size < w6.heap.size := qB b80
     replace i1 := i1.ext Lw6
     replace i2 := i2.ext Lw6
     replace i4u := i4u.ext Lw6
     replace i4v := i4v.ext Lw6
     replace i7u := i7u.ext Lw6
     replace i7v := i7v.ext Lw6
     have s_w6 : w.heap.size ≤ w6.heap.size := Xw6.size
     clear xw6
     go_wp2_with fail
     go_ret
     exact ⟨rfl, (Xw6.trans qXt)⟩
    ·
     replace hB9 := Lib.hid hB9
     go_wp2_with fail
     refine (leqView_c PB (.slice afv3u PS.length cfv3u) (.slice afv3v PT.length cfv3v) (.slice afv6u PS.length cfv6u) (.slice afv6v PT.length cfv6v) PS PT _ _ _ _ _ (i4u.ext qXt) (i4v.ext qXt) (i7u.ext qXt) (i7v.ext qXt)).mono ?_
     rintro e w6 ⟨rfl, xw6⟩
     have Lw6 : Ext w5 w6 := Ext.trans qXt xw6
     have Xw6 : Ext w w6 := Xw5.trans Lw6
     replace b20 := Lw6.cell b20
     replace b21 := Lw6.cell b21
     replace b22 := Lw6.cell b22
     replace b50 := Lw6.cell b50
     replace b51 := Lw6.cell b51
     replace b52 := Lw6.cell b52
     replace b80 := Lw6.cell b80
     replace b81 := Lw6.cell b81
     replace b82 := Lw6.cell b82
     have z_b2 : w1.heap.size < w6.heap.size := qB b20
     have z_b5 : w2.heap.size < w6.heap.size := qB b50
     have z_b8 : w3.heap.size < w6.heap.size := qB b80
     replace i1 := i1.ext Lw6
     replace i2 := i2.ext Lw6
     replace i4u := i4u.ext Lw6
     replace i4v := i4v.ext Lw6
     replace i7u := i7u.ext Lw6
     replace i7v := i7v.ext Lw6
     have s_w6 : w.heap.size ≤ w6.heap.size := Xw6.size
     clear xw6
     go_wp2_with fail
     go_ret
     exact ⟨rfl, (Xw6.trans qXt)⟩
   ·
    replace hP := Lib.hid hP
    go_wp2_with fail
    refine (pvx_eq hP.out (implJoinDims_c b (.slice p1 s.length r1) (.slice p2 t.length r2) s t d _ _ _ (i1.ext qXt) (i2.ext qXt))).mono ?_
    rintro e w2 ⟨fv11u, fv11v, rfl, i12u, i12v, xw2⟩
    have Lw2 : Ext w1 w2 := Ext.trans qXt xw2
    have Xw2 : Ext w w2 := Xw1.trans Lw2
    have b100 : w2.cell? ⟨w1.heap.size, 0, none⟩ = some (.int .i64 b) := xw2.cell qCl
    have b101 : w2.cell? ⟨w1.heap.size, 1, none⟩ = some (.slice p1 s.length r1) := xw2.cell qCl
    have b102 : w2.cell? ⟨w1.heap.size, 2, none⟩ = some (.slice p2 t.length r2) := xw2.cell qCl
    have z_b10 : w1.heap.size < w2.heap.size := qB b100
    replace i1 := i1.ext Lw2
    replace i2 := i2.ext Lw2
    have s_w2 : w.heap.size ≤ w2.heap.size := Xw2.size
    clear xw2
    try simp only [World.size_alloc, World.size_drew] at i12u
    try simp only [World.size_alloc, World.size_drew] at i12v
    obtain ⟨afv11u, cfv11u, rfl⟩ := i12u.form
    obtain ⟨afv11v, cfv11v, rfl⟩ := i12v.form
    go_wp2_with fail
    refine (pvx_eq hP.out (specJoinDims_c b (.slice p1 s.length r1) (.slice p2 t.length r2) s t d _ _ _ (i1.ext qXt) (i2.ext qXt))).mono ?_
    rintro e w3 ⟨fv14u, fv14v, rfl, i15u, i15v, xw3⟩
    have Lw3 : Ext w2 w3 := Ext.trans qXt xw3
    have Xw3 : Ext w w3 := Xw2.trans Lw3
    replace b100 := Lw3.cell b100
    replace b101 := Lw3.cell b101
    replace b102 := Lw3.cell b102
    have b130 : w3.cell? ⟨w2.heap.size, 0, none⟩ = some (.int .i64 PB) := xw3.cell qCl
    have b131 : w3.cell? ⟨w2.heap.size, 1, none⟩ = some (.slice afv11u PS.length cfv11u) := xw3.cell qCl
    have b132 : w3.cell? ⟨w2.heap.size, 2, none⟩ = some (.slice afv11v PT.length cfv11v) := xw3.cell qCl
    have z_b10 : w1.heap.size < w3.heap.size := qB b100
    have z_b13 : w2.heap.size < w3.heap.size := qB b130
    replace i1 := i1.ext Lw3
    replace i2 := i2.ext Lw3
    replace i12u := i12u.ext Lw3
    replace i12v := i12v.ext Lw3
    have s_w3 : w.heap.size ≤ w3.heap.size := Xw3.size
    clear xw3
    try simp only [World.size_alloc, World.size_drew] at i15u
    try simp only [World.size_alloc, World.size_drew] at i15v
    obtain ⟨afv14u, cfv14u, rfl⟩ := i15u.form
    obtain ⟨afv14v, cfv14v, rfl⟩ := i15v.form
    go_wp2_with fail
    refine (leqView_c PB (.slice afv11u PS.length cfv11u) (.slice afv11v PT.length cfv11v) (.slice afv14u PS.length cfv14u) (.slice afv14v PT.length cfv14v) PS PT _ _ _ _ _ (i12u.ext qXt) (i12v.ext qXt) (i15u.ext qXt) (i15v.ext qXt)).mono ?_
    rintro e w4 ⟨rfl, xw4⟩
    have Lw4 : Ext w3 w4 := Ext.trans qXt xw4
    have Xw4 : Ext w w4 := Xw3.trans Lw4
    replace b100 := Lw4.cell b100
    replace b101 := Lw4.cell b101
    replace b102 := Lw4.cell b102
    replace b130 := Lw4.cell b130
    replace b131 := Lw4.cell b131
    replace b132 := Lw4.cell b132
    have b160 : w4.cell? ⟨w3.heap.size, 0, none⟩ = some (.int .i64 PB) := xw4.cell qCl
    have b161 : w4.cell? ⟨w3.heap.size, 1, none⟩ = some (.slice afv14u PS.length cfv14u) := xw4.cell qCl
    have b162 : w4.cell? ⟨w3.heap.size, 2, none⟩ = some (.slice afv14v PT.length cfv14v) := xw4.cell qCl
    have z_b10 : w1.heap.size < w4.heap.size := qB b100
    have z_b13 : w2.heap.size < w4.heap.size := qB b130
    have z_b16 : w3.heap.size < w4.heap.size := qB b160
    replace i1 := i1.ext Lw4
    replace i2 := i2.ext Lw4
    replace i12u := i12u.ext Lw4
    replace i12v := i12v.ext Lw4
    replace i15u := i15u.ext Lw4
    replace i15v := i15v.ext Lw4
    have s_w4 : w.heap.size ≤ w4.heap.size := Xw4.size
    clear xw4
    go_wp2_with fail
    refine (implValidView_c b (.slice p1 s.length r1) (.slice p2 t.length r2) s t _ _ _ (i1.ext qXt) (i2.ext qXt)).mono ?_
    rintro e w5 ⟨rfl, xw5⟩
    have Lw5 : Ext w4 w5 := Ext.trans qXt xw5
    have Xw5 : Ext w w5 := Xw4.trans Lw5
    replace b100 := Lw5.cell b100
    replace b101 := Lw5.cell b101
    replace b102 := Lw5.cell b102
    replace b130 := Lw5.cell b130
    replace b131 := Lw5.cell b131
    replace b132 := Lw5.cell b132
    replace b160 := Lw5.cell b160
    replace b161 := Lw5.cell b161
    replace b162 := Lw5.cell b162
    have z_b10 : w1.heap.size < w5.heap.size := qB b100
    have z_b13 : w2.heap.size < w5.heap.size := qB b130
    have z_b16 : w3.heap.size < w5.heap.size := qB b160
    replace i1 := i1.ext Lw5
    replace i2 := i2.ext Lw5
    replace i12u := i12u.ext Lw5
    replace i12v := i12v.ext Lw5
    replace i15u := i15u.ext Lw5
    replace i15v := i15v.ext Lw5
    have s_w5 : w.heap.size ≤ w5.heap.size := Xw5.size
    clear xw5
    cases hB17 : viewB b s t
    ·
     replace hB17 := Lib.hid hB17
     go_wp2_with fail
     refine (leqView_c PB (.slice afv11u PS.length cfv11u) (.slice afv11v PT.length cfv11v) (.slice afv14u PS.length cfv14u) (.slice afv14v PT.length cfv14v) PS PT _ _ _ _ _ (i12u.ext qXt) (i12v.ext qXt) (i15u.ext qXt) (i15v.ext qXt)).mono ?_
     rintro e w6 ⟨rfl, xw6⟩
     have Lw6 : Ext w5 w6 := Ext.trans qXt xw6
     have Xw6 : Ext w w6 := Xw5.trans Lw6
     replace b100 := Lw6.cell b100
     replace b101 := Lw6.cell b101
     replace b102 := Lw6.cell b102
     replace b130 := Lw6.cell b130
     replace b131 := Lw6.cell b131
     replace b132 := Lw6.cell b132
     replace b160 := Lw6.cell b160
     replace b161 := Lw6.cell b161
     replace b162 := Lw6.cell b162
     have z_b10 : w1.heap.size < w6.heap.size := qB b100
     have z_b13 : w2.heap.size < w6.heap.size := qB b130
     have z_b16 : w3.heap.size < w6.heap.size := qB b160
     replace i1 := i1.ext Lw6
     replace i2 := i2.ext Lw6
     replace i12u := i12u.ext Lw6
     replace i12v := i12v.ext Lw6
     replace i15u := i15u.ext Lw6
     replace i15v := i15v.ext Lw6
     have s_w6 : w.heap.size ≤ w6.heap.size := Xw6.size
     clear xw6
     go_wp2_with fail
     go_ret
     exact ⟨rfl, (Xw6.trans qXt)⟩
    ·
     replace hB17 := Lib.hid hB17
     go_wp2_with fail
     refine (leqView_c PB (.slice afv11u PS.length cfv11u) (.slice afv11v PT.length cfv11v) (.slice afv14u PS.length cfv14u) (.slice afv14v PT.length cfv14v) PS PT _ _ _ _ _ (i12u.ext qXt) (i12v.ext qXt) (i15u.ext qXt) (i15v.ext qXt)).mono ?_
     rintro e w6 ⟨rfl, xw6⟩
     have Lw6 : Ext w5 w6 := Ext.trans qXt xw6
     have Xw6 : Ext w w6 := Xw5.trans Lw6
     replace b100 := Lw6.cell b100
     replace b101 := Lw6.cell b101
     replace b102 := Lw6.cell b102
     replace b130 := Lw6.cell b130
     replace b131 := Lw6.cell b131
     replace b132 := Lw6.cell b132
     replace b160 := Lw6.cell b160
     replace b161 := Lw6.cell b161
     replace b162 := Lw6.cell b162
     have z_b10 : w1.heap.size < w6.heap.size := qB b100
     have z_b13 : w2.heap.size < w6.heap.size := qB b130
     have z_b16 : w3.heap.size < w6.heap.size := qB b160
     replace i1 := i1.ext Lw6
     replace i2 := i2.ext Lw6
     replace i12u := i12u.ext Lw6
     replace i12v := i12v.ext Lw6
     replace i15u := i15u.ext Lw6
     replace i15v := i15v.ext Lw6
     have s_w6 : w.heap.size ≤ w6.heap.size := Xw6.size
     clear xw6
     go_wp2_with fail
     go_ret
     exact ⟨rfl, (Xw6.trans qXt)⟩
  ·
   cases PO
   ·
    obtain ⟨D, rfl⟩ : ∃ D : Nat, d = D := ⟨d.toNat, by omega⟩
    have hD10 : (0 : Int) ≤ (D : Int) + 1 := by omega
    have hD1t : ((D : Int) + 1).toNat = D + 1 := by omega
    have hDb : D ≤ 5 := by omega
    have hj := Lib.hid (jn_false hP)
    replace hP := Lib.hid hP
    go_wp2_with fail
    refine (pvx_eq hP.out (implJoinDims_c b (.slice p1 s.length r1) (.slice p2 t.length r2) s t (D : Int) _ _ _ (i1.ext qXt) (i2.ext qXt))).mono ?_
    rintro e w2 ⟨fv19u, fv19v, rfl, i20u, i20v, xw2⟩
    have Lw2 : Ext w1 w2 := Ext.trans qXt xw2
    have Xw2 : Ext w w2 := Xw1.trans Lw2
    have b180 : w2.cell? ⟨w1.heap.size, 0, none⟩ = some (.int .i64 b) := xw2.cell qCl
    have b181 : w2.cell? ⟨w1.heap.size, 1, none⟩ = some (.slice p1 s.length r1) := xw2.cell qCl
    have b182 : w2.cell? ⟨w1.heap.size, 2, none⟩ = some (.slice p2 t.length r2) := xw2.cell qCl
    have z_b18 : w1.heap.size < w2.heap.size := qB b180
    replace i1 := i1.ext Lw2
    replace i2 := i2.ext Lw2
    have s_w2 : w.heap.size ≤ w2.heap.size := Xw2.size
    clear xw2
    try simp only [World.size_alloc, World.size_drew] at i20u
    try simp only [World.size_alloc, World.size_drew] at i20v
    obtain ⟨afv19u, cfv19u, rfl⟩ := i20u.form
    obtain ⟨afv19v, cfv19v, rfl⟩ := i20v.form
    go_wp2_with fail
    refine (pvx_eq hP.out (specJoinDims_c b (.slice p1 s.length r1) (.slice p2 t.length r2) s t (D : Int) _ _ _ (i1.ext qXt) (i2.ext qXt))).mono ?_
    rintro e w3 ⟨fv22u, fv22v, rfl, i23u, i23v, xw3⟩
    have Lw3 : Ext w2 w3 := Ext.trans qXt xw3
    have Xw3 : Ext w w3 := Xw2.trans Lw3
    replace b180 := Lw3.cell b180
    replace b181 := Lw3.cell b181
    replace b182 := Lw3.cell b182
    have b210 : w3.cell? ⟨w2.heap.size, 0, none⟩ = some (.int .i64 PB) := xw3.cell qCl
    have b211 : w3.cell? ⟨w2.heap.size, 1, none⟩ = some (.slice afv19u PS.length cfv19u) := xw3.cell qCl
    have b212 : w3.cell? ⟨w2.heap.size, 2, none⟩ = some (.slice afv19v PT.length cfv19v) := xw3.cell qCl
    have z_b18 : w1.heap.size < w3.heap.size := qB b180
    have z_b21 : w2.heap.size < w3.heap.size := qB b210
    replace i1 := i1.ext Lw3
    replace i2 := i2.ext Lw3
    replace i20u := i20u.ext Lw3
    replace i20v := i20v.ext Lw3
    have s_w3 : w.heap.size ≤ w3.heap.size := Xw3.size
    clear xw3
    try simp only [World.size_alloc, World.size_drew] at i23u
    try simp only [World.size_alloc, World.size_drew] at i23v
    obtain ⟨afv22u, cfv22u, rfl⟩ := i23u.form
    obtain ⟨afv22v, cfv22v, rfl⟩ := i23v.form
    go_wp2_with fail
    refine (leqView_c PB (.slice afv19u PS.length cfv19u) (.slice afv19v PT.length cfv19v) (.slice afv22u PS.length cfv22u) (.slice afv22v PT.length cfv22v) PS PT _ _ _ _ _ (i20u.ext qXt) (i20v.ext qXt) (i23u.ext qXt) (i23v.ext qXt)).mono ?_
    rintro e w4 ⟨rfl, xw4⟩
    have Lw4 : Ext w3 w4 := Ext.trans qXt xw4
    have Xw4 : Ext w w4 := Xw3.trans Lw4
    replace b180 := Lw4.cell b180
    replace b181 := Lw4.cell b181
    replace b182 := Lw4.cell b182
    replace b210 := Lw4.cell b210
    replace b211 := Lw4.cell b211
    replace b212 := Lw4.cell b212
    have b240 : w4.cell? ⟨w3.heap.size, 0, none⟩ = some (.int .i64 PB) := xw4.cell qCl
    have b241 : w4.cell? ⟨w3.heap.size, 1, none⟩ = some (.slice afv22u PS.length cfv22u) := xw4.cell qCl
    have b242 : w4.cell? ⟨w3.heap.size, 2, none⟩ = some (.slice afv22v PT.length cfv22v) := xw4.cell qCl
    have z_b18 : w1.heap.size < w4.heap.size := qB b180
    have z_b21 : w2.heap.size < w4.heap.size := qB b210
    have z_b24 : w3.heap.size < w4.heap.size := qB b240
    replace i1 := i1.ext Lw4
    replace i2 := i2.ext Lw4
    replace i20u := i20u.ext Lw4
    replace i20v := i20v.ext Lw4
    replace i23u := i23u.ext Lw4
    replace i23v := i23v.ext Lw4
    have s_w4 : w.heap.size ≤ w4.heap.size := Xw4.size
    clear xw4
    go_wp2_with fail
    refine (implValidView_c b (.slice p1 s.length r1) (.slice p2 t.length r2) s t _ _ _ (i1.ext qXt) (i2.ext qXt)).mono ?_
    rintro e w5 ⟨rfl, xw5⟩
    have Lw5 : Ext w4 w5 := Ext.trans qXt xw5
    have Xw5 : Ext w w5 := Xw4.trans Lw5
    replace b180 := Lw5.cell b180
    replace b181 := Lw5.cell b181
    replace b182 := Lw5.cell b182
    replace b210 := Lw5.cell b210
    replace b211 := Lw5.cell b211
    replace b212 := Lw5.cell b212
    replace b240 := Lw5.cell b240
    replace b241 := Lw5.cell b241
    replace b242 := Lw5.cell b242
    have z_b18 : w1.heap.size < w5.heap.size := qB b180
    have z_b21 : w2.heap.size < w5.heap.size := qB b210
    have z_b24 : w3.heap.size < w5.heap.size := qB b240
    replace i1 := i1.ext Lw5
    replace i2 := i2.ext Lw5
    replace i20u := i20u.ext Lw5
    replace i20v := i20v.ext Lw5
    replace i23u := i23u.ext Lw5
    replace i23v := i23v.ext Lw5
    have s_w5 : w.heap.size ≤ w5.heap.size := Xw5.size
    clear xw5
    cases hB25 : viewB b s t
    ·
     replace hB25 := Lib.hid hB25
     go_wp2_with fail
     refine (leqView_c PB (.slice afv19u PS.length cfv19u) (.slice afv19v PT.length cfv19v) (.slice afv22u PS.length cfv22u) (.slice afv22v PT.length cfv22v) PS PT _ _ _ _ _ (i20u.ext qXt) (i20v.ext qXt) (i23u.ext qXt) (i23v.ext qXt)).mono ?_
     rintro e w6 ⟨rfl, xw6⟩
     have Lw6 : Ext w5 w6 := Ext.trans qXt xw6
     have Xw6 : Ext w w6 := Xw5.trans Lw6
     replace b180 := Lw6.cell b180
     replace b181 := Lw6.cell b181
     replace b182 := Lw6.cell b182
     replace b210 := Lw6.cell b210
     replace b211 := Lw6.cell b211
     replace b212 := Lw6.cell b212
     replace b240 := Lw6.cell b240
     replace b241 := Lw6.cell b241
     replace b242 := Lw6.cell b242
     have z_b18 : w1.heap.size < w6.heap.size := qB b180
     have z_b21 : w2.heap.size < w6.heap.size := qB b210
     have z_b24 : w3.heap.size < w6.heap.size := qB b240
     replace i1 := i1.ext Lw6
     replace i2 := i2.ext Lw6
     replace i20u := i20u.ext Lw6
     replace i20v := i20v.ext Lw6
     replace i23u := i23u.ext Lw6
     replace i23v := i23v.ext Lw6
     have s_w6 : w.heap.size ≤ w6.heap.size := Xw6.size
     clear xw6
     go_wp2_with fail
     go_ret
     exact ⟨rfl, (Xw6.trans qXt)⟩
    ·
     replace hB25 := Lib.hid hB25
     by_cases hc26 : (D : Int) < (0 : Int)
     ·
      go_wp2_with fail
      refine (leqView_c PB (.slice afv19u PS.length cfv19u) (.slice afv19v PT.length cfv19v) (.slice afv22u PS.length cfv22u) (.slice afv22v PT.length cfv22v) PS PT _ _ _ _ _ (i20u.ext qXt) (i20v.ext qXt) (i23u.ext qXt) (i23v.ext qXt)).mono ?_
      rintro e w6 ⟨rfl, xw6⟩
      have Lw6 : Ext w5 w6 := Ext.trans qXt xw6
      have Xw6 : Ext w w6 := Xw5.trans Lw6
      replace b180 := Lw6.cell b180
      replace b181 := Lw6.cell b181
      replace b182 := Lw6.cell b182
      replace b210 := Lw6.cell b210
      replace b211 := Lw6.cell b211
      replace b212 := Lw6.cell b212
      replace b240 := Lw6.cell b240
      replace b241 := Lw6.cell b241
      replace b242 := Lw6.cell b242
      have z_b18 : w1.heap.size < w6.heap.size := qB b180
      have z_b21 : w2.heap.size < w6.heap.size := qB b210
      have z_b24 : w3.heap.size < w6.heap.size := qB b240
      replace i1 := i1.ext Lw6
      replace i2 := i2.ext Lw6
      replace i20u := i20u.ext Lw6
      replace i20v := i20v.ext Lw6
      replace i23u := i23u.ext Lw6
      replace i23v := i23v.ext Lw6
      have s_w6 : w.heap.size ≤ w6.heap.size := Xw6.size
      clear xw6
      go_wp2_with fail
      go_ret
      exact ⟨rfl, (Xw6.trans qXt)⟩
     ·
      by_cases hc27 : (s.length : Int) ≤ ((D : Int) + 1 : Int)
      ·
       go_wp2_with fail
       refine (leqView_c PB (.slice afv19u PS.length cfv19u) (.slice afv19v PT.length cfv19v) (.slice afv22u PS.length cfv22u) (.slice afv22v PT.length cfv22v) PS PT _ _ _ _ _ (i20u.ext qXt) (i20v.ext qXt) (i23u.ext qXt) (i23v.ext qXt)).mono ?_
       rintro e w6 ⟨rfl, xw6⟩
       have Lw6 : Ext w5 w6 := Ext.trans qXt xw6
       have Xw6 : Ext w w6 := Xw5.trans Lw6
       replace b180 := Lw6.cell b180
       replace b181 := Lw6.cell b181
       replace b182 := Lw6.cell b182
       replace b210 := Lw6.cell b210
       replace b211 := Lw6.cell b211
       replace b212 := Lw6.cell b212
       replace b240 := Lw6.cell b240
       replace b241 := Lw6.cell b241
       replace b242 := Lw6.cell b242
       have z_b18 : w1.heap.size < w6.heap.size := qB b180
       have z_b21 : w2.heap.size < w6.heap.size := qB b210
       have z_b24 : w3.heap.size < w6.heap.size := qB b240
       replace i1 := i1.ext Lw6
       replace i2 := i2.ext Lw6
       replace i20u := i20u.ext Lw6
       replace i20v := i20v.ext Lw6
       replace i23u := i23u.ext Lw6
       replace i23v := i23v.ext Lw6
       have s_w6 : w.heap.size ≤ w6.heap.size := Xw6.size
       clear xw6
       go_wp2_with fail
       go_ret
       exact ⟨rfl, (Xw6.trans qXt)⟩
      ·
       go_wp2_with fail
       refine (implCountOf_c s (.slice p1 s.length r1) _ _ (i1.ext qXt)).mono ?_
       rintro e w' ⟨rfl, rfl⟩
       by_cases hc28 : (cntA s : Int) = (0 : Int)
       ·
        have hc28e : ((cntA s : Int) == (0 : Int)) = true := by simpa using hc28
        have hc28n : ((cntA s : Int) != (0 : Int)) = false := by simpa using hc28
        replace hc28 := Lib.hid hc28
        go_wp2_with fail
        refine (leqView_c PB (.slice afv19u PS.length cfv19u) (.slice afv19v PT.length cfv19v) (.slice afv22u PS.length cfv22u) (.slice afv22v PT.length cfv22v) PS PT _ _ _ _ _ (i20u.ext qXt) (i20v.ext qXt) (i23u.ext qXt) (i23v.ext qXt)).mono ?_
        rintro e w6 ⟨rfl, xw6⟩
        have Lw6 : Ext w5 w6 := Ext.trans qXt xw6
        have Xw6 : Ext w w6 := Xw5.trans Lw6
        replace b180 := Lw6.cell b180
        replace b181 := Lw6.cell b181
        replace b182 := Lw6.cell b182
        replace b210 := Lw6.cell b210
        replace b211 := Lw6.cell b211
        replace b212 := Lw6.cell b212
        replace b240 := Lw6.cell b240
        replace b241 := Lw6.cell b241
        replace b242 := Lw6.cell b242
        have z_b18 : w1.heap.size < w6.heap.size := qB b180
        have z_b21 : w2.heap.size < w6.heap.size := qB b210
        have z_b24 : w3.heap.size < w6.heap.size := qB b240
        replace i1 := i1.ext Lw6
        replace i2 := i2.ext Lw6
        replace i20u := i20u.ext Lw6
        replace i20v := i20v.ext Lw6
        replace i23u := i23u.ext Lw6
        replace i23v := i23v.ext Lw6
        have s_w6 : w.heap.size ≤ w6.heap.size := Xw6.size
        clear xw6
        go_wp2_with fail
        go_ret
        exact ⟨rfl, (Xw6.trans qXt)⟩
       ·
        have hc28e : ((cntA s : Int) == (0 : Int)) = false := by simpa using hc28
        have hc28n : ((cntA s : Int) != (0 : Int)) = true := by simpa using hc28
        replace hc28 := Lib.hid hc28
        have hN_e31 : D < s.length := (by omega)
        have hI_e31 : (D : Int) < (s.length : Int) := by omega
        obtain ⟨bl29, ol30, rfl, e310⟩ := i1.at D (by omega)
        obtain ⟨v32, hv32⟩ : ∃ v, s.getD D 0 = v := ⟨_, rfl⟩
        rw [hv32] at e310
        replace hv32 := Lib.hid hv32
        have y_e31 : bl29 < w5.heap.size := qB e310
        have z_e31 := y_e31
        have h60v32 := (view_small hB25.out).2 _ (getD_mem (show D < s.length by omega))
        rw [hv32.out] at h60v32
        by_cases hc33 : (v32 : Int) = (1 : Int)
        ·
         have hc33e : ((v32 : Int) == (1 : Int)) = true := by simpa using hc33
         have hc33n : ((v32 : Int) != (1 : Int)) = false := by simpa using hc33
         replace hc33 := Lib.hid hc33
         go_wp2_with fail
         exfalso
         have h7 := hj.out hB25.out (by omega) hc28.out
         have h8v32 := hv32.out
         rw [h8v32] at h7
         have := hc33.out
         omega
        ·
         have hc33e : ((v32 : Int) == (1 : Int)) = false := by simpa using hc33
         have hc33n : ((v32 : Int) != (1 : Int)) = true := by simpa using hc33
         replace hc33 := Lib.hid hc33
         have hN_e36 : D + 1 < s.length := (by omega)
         have hI_e36 : (D + 1 : Int) < (s.length : Int) := by omega
         obtain ⟨b_e36, o_e36, h_e36, e360⟩ := i1.at (D + 1) (by omega)
         cases h_e36
         obtain ⟨v37, hv37⟩ : ∃ v, s.getD (D + 1) 0 = v := ⟨_, rfl⟩
         rw [hv37] at e360
         replace hv37 := Lib.hid hv37
         have y_e36 : bl29 < w5.heap.size := qB e360
         have z_e36 := y_e36
         have h60v37 := (view_small hB25.out).2 _ (getD_mem (show D + 1 < s.length by omega))
         rw [hv37.out] at h60v37
         by_cases hc38 : (v37 : Int) = (1 : Int)
         ·
          have hc38e : ((v37 : Int) == (1 : Int)) = true := by simpa using hc38
          have hc38n : ((v37 : Int) != (1 : Int)) = false := by simpa using hc38
          replace hc38 := Lib.hid hc38
          go_wp2_with fail
          exfalso
          have h7 := hj.out hB25.out (by omega) hc28.out
          have h8v32 := hv32.out
          rw [h8v32] at h7
          have h8v37 := hv37.out
          rw [h8v37] at h7
          have := hc33.out
          have := hc38.out
          omega
         ·
          have hc38e : ((v37 : Int) == (1 : Int)) = false := by simpa using hc38
          have hc38n : ((v37 : Int) != (1 : Int)) = true := by simpa using hc38
          replace hc38 := Lib.hid hc38
          go_wp2_with fail
          have hN_e41 : D < t.length := (by have := (vw hB25.out).1; omega)
          have hI_e41 : (D : Int) < (t.length : Int) := by omega
          obtain ⟨bl39, ol40, rfl, e410⟩ := i2.at D (by have := (vw hB25.out).1; omega)
          obtain ⟨v42, hv42⟩ : ∃ v, t.getD D 0 = v := ⟨_, rfl⟩
          rw [hv42] at e410
          replace hv42 := Lib.hid hv42
          have y_e41 : bl39 < w5.heap.size := qB e410
          have z_e41 := y_e41
          have h60v42 := (viewB_in hB25.out).2.2.2.1 _ (getD_mem (show D < t.length by have := (vw hB25.out).1; omega))
          rw [hv42.out] at h60v42
          have hN_e45 : D + 1 < t.length := (by have := (vw hB25.out).1; omega)
          have hI_e45 : (D + 1 : Int) < (t.length : Int) := by omega
          obtain ⟨b_e45, o_e45, h_e45, e450⟩ := i2.at (D + 1) (by have := (vw hB25.out).1; omega)
          cases h_e45
          obtain ⟨v46, hv46⟩ : ∃ v, t.getD (D + 1) 0 = v := ⟨_, rfl⟩
          rw [hv46] at e450
          replace hv46 := Lib.hid hv46
          have y_e45 : bl39 < w5.heap.size := qB e450
          have z_e45 := y_e45
          have h60v46 := (viewB_in hB25.out).2.2.2.1 _ (getD_mem (show D + 1 < t.length by have := (vw hB25.out).1; omega))
          rw [hv46.out] at h60v46
          have hmb := mul_bd (x := v37) (t := v46) h60v37.1 h60v37.2 (show (0 : Int) ≤ 60 by omega) h60v46.1 h60v46.2
          rw [Int.mul_comm v37 v46] at hmb
          refine wp_region_tail (S := fun w' => w'.cell? ⟨w1.heap.size, 1, none⟩ = some (.slice (some ⟨bl29, ol30, none⟩) s.length r1) ∧ w'.cell? ⟨w1.heap.size, 2, none⟩ = some (.slice (some ⟨bl39, ol40, none⟩) t.length r2) ∧ w'.cell? ⟨bl29, ol30 + (D + 1), none⟩ = some (.int .i64 v37) ∧ w'.cell? ⟨bl39, ol40 + D, none⟩ = some (.int .i64 v42) ∧ w'.cell? ⟨bl39, ol40 + (D + 1), none⟩ = some (.int .i64 v46)) (fun i => decide (22 ≤ i)) qKr ⟨b181, b182, e360, e410, e450⟩ (fun hHeld => ?_)
          refine qTk (v := ?_) 0 rfl (.inl ⟨by rfl, ?_⟩) ?_
          rotate_left
          ·
           (intro w hSw; (try dsimp only at hSw); go_simp; try with_reducible rfl)
          try simp only [Act.put, qa, qb, qc, qD, qE, qF]
          refine qTk (v := ?_) 1 rfl (.inl ⟨by rfl, ?_⟩) ?_
          rotate_left
          ·
           (intro w hSw; (try dsimp only at hSw); go_simp; try with_reducible rfl)
          try simp only [Act.put, qa, qb, qc, qD, qE, qF]
          refine qTk (v := ?_) 2 rfl (.inl ⟨by rfl, ?_⟩) ?_
          rotate_left
          ·
           (intro w hSw; (try dsimp only at hSw); go_simp; try with_reducible rfl)
          try simp only [Act.put, qa, qb, qc, qD, qE, qF]
          refine qTk (v := ?_) 3 rfl (.inl ⟨by rfl, ?_⟩) ?_
          rotate_left
          ·
           (intro w hSw; (try dsimp only at hSw); go_simp; try with_reducible rfl)
          try simp only [Act.put, qa, qb, qc, qD, qE, qF]
          refine qTk (v := ?_) 4 rfl (.inl ⟨by rfl, ?_⟩) ?_
          rotate_left
          ·
           (intro w hSw; (try dsimp only at hSw); go_simp; try with_reducible rfl)
          try simp only [Act.put, qa, qb, qc, qD, qE, qF]
          refine qTk (v := ?_) 5 rfl (.inl ⟨by rfl, ?_⟩) ?_
          rotate_left
          ·
           (intro w hSw; (try dsimp only at hSw); go_simp; try with_reducible rfl)
          try simp only [Act.put, qa, qb, qc, qD, qE, qF]
          refine qTk (v := ?_) 6 rfl (.inl ⟨by rfl, ?_⟩) ?_
          rotate_left
          ·
           (intro w hSw; (try dsimp only at hSw); go_simp; try with_reducible rfl)
          try simp only [Act.put, qa, qb, qc, qD, qE, qF]
          refine qTk (v := ?_) 7 rfl (.inl ⟨by rfl, ?_⟩) ?_
          rotate_left
          ·
           (intro w hSw; (try dsimp only at hSw); go_simp; try with_reducible rfl)
          try simp only [Act.put, qa, qb, qc, qD, qE, qF]
          refine qTk (v := ?_) 8 rfl (.inl ⟨by rfl, ?_⟩) ?_
          rotate_left
          ·
           (intro w hSw; (try dsimp only at hSw); go_simp; try with_reducible rfl)
          try simp only [Act.put, qa, qb, qc, qD, qE, qF]
          have hw53 : IntKind.i64.wrap ((D : Int) + 1) = (D : Int) + 1 := IntWalk.i64_in _ (by omega)
          refine qTk (v := ?_) 9 rfl (.inl ⟨by rfl, ?_⟩) ?_
          rotate_left
          ·
           (intro w hSw; (try dsimp only at hSw); go_simp; try with_reducible rfl)
          try simp only [Act.put, qa, qb, qc, qD, qE, qF]
          refine qTk (v := ?_) 10 rfl (.inl ⟨by rfl, ?_⟩) ?_
          rotate_left
          ·
           (intro w hSw; (try dsimp only at hSw); go_simp; try with_reducible rfl)
          try simp only [Act.put, qa, qb, qc, qD, qE, qF]
          refine qTk (v := ?_) 11 rfl (.inl ⟨by rfl, ?_⟩) ?_
          rotate_left
          ·
           (intro w hSw; (try dsimp only at hSw); go_simp; try with_reducible rfl)
          try simp only [Act.put, qa, qb, qc, qD, qE, qF]
          refine qTk (v := ?_) 12 rfl (.inl ⟨by rfl, ?_⟩) ?_
          rotate_left
          ·
           (intro w hSw; (try dsimp only at hSw); go_simp; try with_reducible rfl)
          try simp only [Act.put, qa, qb, qc, qD, qE, qF]
          refine qTk (v := ?_) 13 rfl (.inl ⟨by rfl, ?_⟩) ?_
          rotate_left
          ·
           (intro w hSw; (try dsimp only at hSw); go_simp; try with_reducible rfl)
          try simp only [Act.put, qa, qb, qc, qD, qE, qF]
          refine qTk (v := ?_) 14 rfl (.inl ⟨by rfl, ?_⟩) ?_
          rotate_left
          ·
           (intro w hSw; (try dsimp only at hSw); go_simp; try with_reducible rfl)
          try simp only [Act.put, qa, qb, qc, qD, qE, qF]
          have hw57 : IntKind.i64.wrap ((D : Int) + 1) = (D : Int) + 1 := IntWalk.i64_in _ (by omega)
          refine qTk (v := ?_) 15 rfl (.inl ⟨by rfl, ?_⟩) ?_
          rotate_left
          ·
           (intro w hSw; (try dsimp only at hSw); go_simp; try with_reducible rfl)
          try simp only [Act.put, qa, qb, qc, qD, qE, qF]
          refine qTk (v := ?_) 16 rfl (.inl ⟨by rfl, ?_⟩) ?_
          rotate_left
          ·
           (intro w hSw; (try dsimp only at hSw); go_simp; try with_reducible rfl)
          try simp only [Act.put, qa, qb, qc, qD, qE, qF]
          refine qTk (v := ?_) 17 rfl (.inl ⟨by rfl, ?_⟩) ?_
          rotate_left
          ·
           (intro w hSw; (try dsimp only at hSw); go_simp; try with_reducible rfl)
          try simp only [Act.put, qa, qb, qc, qD, qE, qF]
          have hw61 : IntKind.i64.wrap (v46 * v37) = v46 * v37 := IntWalk.i64_in _ (by omega)
          refine qTk (v := ?_) 18 rfl (.inl ⟨by rfl, ?_⟩) ?_
          rotate_left
          ·
           (intro w hSw; (try dsimp only at hSw); go_simp; try with_reducible rfl)
          try simp only [Act.put, qa, qb, qc, qD, qE, qF]
          by_cases hc62 : (v42 : Int) = (v46 * v37 : Int)
          ·
           have hc62e : ((v42 : Int) == (v46 * v37 : Int)) = true := by simpa using hc62
           have hc62n : ((v42 : Int) != (v46 * v37 : Int)) = false := by simpa using hc62
           replace hc62 := Lib.hid hc62
           refine qTk (v := ?_) 19 rfl (.inl ⟨by rfl, ?_⟩) ?_
           rotate_left
           ·
            (intro w hSw; (try dsimp only at hSw); go_simp; try with_reducible rfl)
           try simp only [Act.put, qa, qb, qc, qD, qE, qF]
           refine qTk (v := ?_) 20 rfl (.inl ⟨by rfl, ?_⟩) ?_
           rotate_left
           ·
            (intro w hSw; (try dsimp only at hSw); go_simp; try with_reducible rfl)
           try simp only [Act.put, qa, qb, qc, qD, qE, qF]
           refine qTk (v := ?_) 21 rfl (.inl ⟨by rfl, ?_⟩) ?_
           rotate_left
           ·
            (intro w hSw; (try dsimp only at hSw); go_simp; try with_reducible rfl)
           try simp only [Act.put, qa, qb, qc, qD, qE, qF]
           refine wpTail_done qKr ?_ _
           clear hHeld hw53 hw57 hw61
           go_wp2_with fail
           exfalso
           have h7 := hj.out hB25.out (by omega) hc28.out
           have h8v32 := hv32.out
           rw [h8v32] at h7
           have h8v37 := hv37.out
           rw [h8v37] at h7
           have h8v42 := hv42.out
           rw [h8v42] at h7
           have h8v46 := hv46.out
           rw [h8v46] at h7
           have := hc33.out
           have := hc38.out
           have := hc62.out
           omega
          ·
           have hc62e : ((v42 : Int) == (v46 * v37 : Int)) = false := by simpa using hc62
           have hc62n : ((v42 : Int) != (v46 * v37 : Int)) = true := by simpa using hc62
           replace hc62 := Lib.hid hc62
           refine qTk (v := ?_) 19 rfl (.inl ⟨by rfl, ?_⟩) ?_
           rotate_left
           ·
            (intro w hSw; (try dsimp only at hSw); go_simp; try with_reducible rfl)
           try simp only [Act.put, qa, qb, qc, qD, qE, qF]
           refine qTk (v := ?_) 20 rfl (.inl ⟨by rfl, ?_⟩) ?_
           rotate_left
           ·
            (intro w hSw; (try dsimp only at hSw); go_simp; try with_reducible rfl)
           try simp only [Act.put, qa, qb, qc, qD, qE, qF]
           refine qTk (v := ?_) 21 rfl (.inl ⟨by rfl, ?_⟩) ?_
           rotate_left
           ·
            (intro w hSw; (try dsimp only at hSw); go_simp; try with_reducible rfl)
           try simp only [Act.put, qa, qb, qc, qD, qE, qF]
           refine wpTail_done qKr ?_ _
           clear hHeld hw53 hw57 hw61
           go_wp2_with fail
           go_ret
           exact ⟨rfl, (Xw5.trans qXt)⟩
   ·
    obtain ⟨D, rfl⟩ : ∃ D : Nat, d = D := ⟨d.toNat, by omega⟩
    have hD10 : (0 : Int) ≤ (D : Int) + 1 := by omega
    have hD1t : ((D : Int) + 1).toNat = D + 1 := by omega
    have hDb : D ≤ 5 := by omega
    have hj := Lib.hid (jn_true hP)
    replace hP := Lib.hid hP
    go_wp2_with fail
    refine (pvx_eq hP.out (implJoinDims_c b (.slice p1 s.length r1) (.slice p2 t.length r2) s t (D : Int) _ _ _ (i1.ext qXt) (i2.ext qXt))).mono ?_
    rintro e w2 ⟨fv64u, fv64v, rfl, i65u, i65v, xw2⟩
    have Lw2 : Ext w1 w2 := Ext.trans qXt xw2
    have Xw2 : Ext w w2 := Xw1.trans Lw2
    have b630 : w2.cell? ⟨w1.heap.size, 0, none⟩ = some (.int .i64 b) := xw2.cell qCl
    have b631 : w2.cell? ⟨w1.heap.size, 1, none⟩ = some (.slice p1 s.length r1) := xw2.cell qCl
    have b632 : w2.cell? ⟨w1.heap.size, 2, none⟩ = some (.slice p2 t.length r2) := xw2.cell qCl
    have z_b63 : w1.heap.size < w2.heap.size := qB b630
    replace i1 := i1.ext Lw2
    replace i2 := i2.ext Lw2
    have s_w2 : w.heap.size ≤ w2.heap.size := Xw2.size
    clear xw2
    try simp only [World.size_alloc, World.size_drew] at i65u
    try simp only [World.size_alloc, World.size_drew] at i65v
    obtain ⟨afv64u, cfv64u, rfl⟩ := i65u.form
    obtain ⟨afv64v, cfv64v, rfl⟩ := i65v.form
    go_wp2_with fail
    refine (pvx_eq hP.out (specJoinDims_c b (.slice p1 s.length r1) (.slice p2 t.length r2) s t (D : Int) _ _ _ (i1.ext qXt) (i2.ext qXt))).mono ?_
    rintro e w3 ⟨fv67u, fv67v, rfl, i68u, i68v, xw3⟩
    have Lw3 : Ext w2 w3 := Ext.trans qXt xw3
    have Xw3 : Ext w w3 := Xw2.trans Lw3
    replace b630 := Lw3.cell b630
    replace b631 := Lw3.cell b631
    replace b632 := Lw3.cell b632
    have b660 : w3.cell? ⟨w2.heap.size, 0, none⟩ = some (.int .i64 PB) := xw3.cell qCl
    have b661 : w3.cell? ⟨w2.heap.size, 1, none⟩ = some (.slice afv64u PS.length cfv64u) := xw3.cell qCl
    have b662 : w3.cell? ⟨w2.heap.size, 2, none⟩ = some (.slice afv64v PT.length cfv64v) := xw3.cell qCl
    have z_b63 : w1.heap.size < w3.heap.size := qB b630
    have z_b66 : w2.heap.size < w3.heap.size := qB b660
    replace i1 := i1.ext Lw3
    replace i2 := i2.ext Lw3
    replace i65u := i65u.ext Lw3
    replace i65v := i65v.ext Lw3
    have s_w3 : w.heap.size ≤ w3.heap.size := Xw3.size
    clear xw3
    try simp only [World.size_alloc, World.size_drew] at i68u
    try simp only [World.size_alloc, World.size_drew] at i68v
    obtain ⟨afv67u, cfv67u, rfl⟩ := i68u.form
    obtain ⟨afv67v, cfv67v, rfl⟩ := i68v.form
    go_wp2_with fail
    refine (leqView_c PB (.slice afv64u PS.length cfv64u) (.slice afv64v PT.length cfv64v) (.slice afv67u PS.length cfv67u) (.slice afv67v PT.length cfv67v) PS PT _ _ _ _ _ (i65u.ext qXt) (i65v.ext qXt) (i68u.ext qXt) (i68v.ext qXt)).mono ?_
    rintro e w4 ⟨rfl, xw4⟩
    have Lw4 : Ext w3 w4 := Ext.trans qXt xw4
    have Xw4 : Ext w w4 := Xw3.trans Lw4
    replace b630 := Lw4.cell b630
    replace b631 := Lw4.cell b631
    replace b632 := Lw4.cell b632
    replace b660 := Lw4.cell b660
    replace b661 := Lw4.cell b661
    replace b662 := Lw4.cell b662
    have b690 : w4.cell? ⟨w3.heap.size, 0, none⟩ = some (.int .i64 PB) := xw4.cell qCl
    have b691 : w4.cell? ⟨w3.heap.size, 1, none⟩ = some (.slice afv67u PS.length cfv67u) := xw4.cell qCl
    have b692 : w4.cell? ⟨w3.heap.size, 2, none⟩ = some (.slice afv67v PT.length cfv67v) := xw4.cell qCl
    have z_b63 : w1.heap.size < w4.heap.size := qB b630
    have z_b66 : w2.heap.size < w4.heap.size := qB b660
    have z_b69 : w3.heap.size < w4.heap.size := qB b690
    replace i1 := i1.ext Lw4
    replace i2 := i2.ext Lw4
    replace i65u := i65u.ext Lw4
    replace i65v := i65v.ext Lw4
    replace i68u := i68u.ext Lw4
    replace i68v := i68v.ext Lw4
    have s_w4 : w.heap.size ≤ w4.heap.size := Xw4.size
    clear xw4
    go_wp2_with fail
    refine (implValidView_c b (.slice p1 s.length r1) (.slice p2 t.length r2) s t _ _ _ (i1.ext qXt) (i2.ext qXt)).mono ?_
    rintro e w5 ⟨rfl, xw5⟩
    have Lw5 : Ext w4 w5 := Ext.trans qXt xw5
    have Xw5 : Ext w w5 := Xw4.trans Lw5
    replace b630 := Lw5.cell b630
    replace b631 := Lw5.cell b631
    replace b632 := Lw5.cell b632
    replace b660 := Lw5.cell b660
    replace b661 := Lw5.cell b661
    replace b662 := Lw5.cell b662
    replace b690 := Lw5.cell b690
    replace b691 := Lw5.cell b691
    replace b692 := Lw5.cell b692
    have z_b63 : w1.heap.size < w5.heap.size := qB b630
    have z_b66 : w2.heap.size < w5.heap.size := qB b660
    have z_b69 : w3.heap.size < w5.heap.size := qB b690
    replace i1 := i1.ext Lw5
    replace i2 := i2.ext Lw5
    replace i65u := i65u.ext Lw5
    replace i65v := i65v.ext Lw5
    replace i68u := i68u.ext Lw5
    replace i68v := i68v.ext Lw5
    have s_w5 : w.heap.size ≤ w5.heap.size := Xw5.size
    clear xw5
    cases hB70 : viewB b s t
    ·
     replace hB70 := Lib.hid hB70
     go_wp2_with fail
     refine (leqView_c PB (.slice afv64u PS.length cfv64u) (.slice afv64v PT.length cfv64v) (.slice afv67u PS.length cfv67u) (.slice afv67v PT.length cfv67v) PS PT _ _ _ _ _ (i65u.ext qXt) (i65v.ext qXt) (i68u.ext qXt) (i68v.ext qXt)).mono ?_
     rintro e w6 ⟨rfl, xw6⟩
     have Lw6 : Ext w5 w6 := Ext.trans qXt xw6
     have Xw6 : Ext w w6 := Xw5.trans Lw6
     replace b630 := Lw6.cell b630
     replace b631 := Lw6.cell b631
     replace b632 := Lw6.cell b632
     replace b660 := Lw6.cell b660
     replace b661 := Lw6.cell b661
     replace b662 := Lw6.cell b662
     replace b690 := Lw6.cell b690
     replace b691 := Lw6.cell b691
     replace b692 := Lw6.cell b692
     have z_b63 : w1.heap.size < w6.heap.size := qB b630
     have z_b66 : w2.heap.size < w6.heap.size := qB b660
     have z_b69 : w3.heap.size < w6.heap.size := qB b690
     replace i1 := i1.ext Lw6
     replace i2 := i2.ext Lw6
     replace i65u := i65u.ext Lw6
     replace i65v := i65v.ext Lw6
     replace i68u := i68u.ext Lw6
     replace i68v := i68v.ext Lw6
     have s_w6 : w.heap.size ≤ w6.heap.size := Xw6.size
     clear xw6
     go_wp2_with fail
     go_ret
     exact ⟨rfl, (Xw6.trans qXt)⟩
    ·
     replace hB70 := Lib.hid hB70
     by_cases hc71 : (D : Int) < (0 : Int)
     ·
      go_wp2_with fail
      refine (leqView_c PB (.slice afv64u PS.length cfv64u) (.slice afv64v PT.length cfv64v) (.slice afv67u PS.length cfv67u) (.slice afv67v PT.length cfv67v) PS PT _ _ _ _ _ (i65u.ext qXt) (i65v.ext qXt) (i68u.ext qXt) (i68v.ext qXt)).mono ?_
      rintro e w6 ⟨rfl, xw6⟩
      have Lw6 : Ext w5 w6 := Ext.trans qXt xw6
      have Xw6 : Ext w w6 := Xw5.trans Lw6
      replace b630 := Lw6.cell b630
      replace b631 := Lw6.cell b631
      replace b632 := Lw6.cell b632
      replace b660 := Lw6.cell b660
      replace b661 := Lw6.cell b661
      replace b662 := Lw6.cell b662
      replace b690 := Lw6.cell b690
      replace b691 := Lw6.cell b691
      replace b692 := Lw6.cell b692
      have z_b63 : w1.heap.size < w6.heap.size := qB b630
      have z_b66 : w2.heap.size < w6.heap.size := qB b660
      have z_b69 : w3.heap.size < w6.heap.size := qB b690
      replace i1 := i1.ext Lw6
      replace i2 := i2.ext Lw6
      replace i65u := i65u.ext Lw6
      replace i65v := i65v.ext Lw6
      replace i68u := i68u.ext Lw6
      replace i68v := i68v.ext Lw6
      have s_w6 : w.heap.size ≤ w6.heap.size := Xw6.size
      clear xw6
      go_wp2_with fail
      go_ret
      exact ⟨rfl, (Xw6.trans qXt)⟩
     ·
      by_cases hc72 : (s.length : Int) ≤ ((D : Int) + 1 : Int)
      ·
       go_wp2_with fail
       refine (leqView_c PB (.slice afv64u PS.length cfv64u) (.slice afv64v PT.length cfv64v) (.slice afv67u PS.length cfv67u) (.slice afv67v PT.length cfv67v) PS PT _ _ _ _ _ (i65u.ext qXt) (i65v.ext qXt) (i68u.ext qXt) (i68v.ext qXt)).mono ?_
       rintro e w6 ⟨rfl, xw6⟩
       have Lw6 : Ext w5 w6 := Ext.trans qXt xw6
       have Xw6 : Ext w w6 := Xw5.trans Lw6
       replace b630 := Lw6.cell b630
       replace b631 := Lw6.cell b631
       replace b632 := Lw6.cell b632
       replace b660 := Lw6.cell b660
       replace b661 := Lw6.cell b661
       replace b662 := Lw6.cell b662
       replace b690 := Lw6.cell b690
       replace b691 := Lw6.cell b691
       replace b692 := Lw6.cell b692
       have z_b63 : w1.heap.size < w6.heap.size := qB b630
       have z_b66 : w2.heap.size < w6.heap.size := qB b660
       have z_b69 : w3.heap.size < w6.heap.size := qB b690
       replace i1 := i1.ext Lw6
       replace i2 := i2.ext Lw6
       replace i65u := i65u.ext Lw6
       replace i65v := i65v.ext Lw6
       replace i68u := i68u.ext Lw6
       replace i68v := i68v.ext Lw6
       have s_w6 : w.heap.size ≤ w6.heap.size := Xw6.size
       clear xw6
       go_wp2_with fail
       go_ret
       exact ⟨rfl, (Xw6.trans qXt)⟩
      ·
       go_wp2_with fail
       refine (implCountOf_c s (.slice p1 s.length r1) _ _ (i1.ext qXt)).mono ?_
       rintro e w' ⟨rfl, rfl⟩
       by_cases hc73 : (cntA s : Int) = (0 : Int)
       ·
        have hc73e : ((cntA s : Int) == (0 : Int)) = true := by simpa using hc73
        have hc73n : ((cntA s : Int) != (0 : Int)) = false := by simpa using hc73
        replace hc73 := Lib.hid hc73
        go_wp2_with fail
        refine (leqView_c PB (.slice afv64u PS.length cfv64u) (.slice afv64v PT.length cfv64v) (.slice afv67u PS.length cfv67u) (.slice afv67v PT.length cfv67v) PS PT _ _ _ _ _ (i65u.ext qXt) (i65v.ext qXt) (i68u.ext qXt) (i68v.ext qXt)).mono ?_
        rintro e w6 ⟨rfl, xw6⟩
        have Lw6 : Ext w5 w6 := Ext.trans qXt xw6
        have Xw6 : Ext w w6 := Xw5.trans Lw6
        replace b630 := Lw6.cell b630
        replace b631 := Lw6.cell b631
        replace b632 := Lw6.cell b632
        replace b660 := Lw6.cell b660
        replace b661 := Lw6.cell b661
        replace b662 := Lw6.cell b662
        replace b690 := Lw6.cell b690
        replace b691 := Lw6.cell b691
        replace b692 := Lw6.cell b692
        have z_b63 : w1.heap.size < w6.heap.size := qB b630
        have z_b66 : w2.heap.size < w6.heap.size := qB b660
        have z_b69 : w3.heap.size < w6.heap.size := qB b690
        replace i1 := i1.ext Lw6
        replace i2 := i2.ext Lw6
        replace i65u := i65u.ext Lw6
        replace i65v := i65v.ext Lw6
        replace i68u := i68u.ext Lw6
        replace i68v := i68v.ext Lw6
        have s_w6 : w.heap.size ≤ w6.heap.size := Xw6.size
        clear xw6
        go_wp2_with fail
        go_ret
        exact ⟨rfl, (Xw6.trans qXt)⟩
       ·
        have hc73e : ((cntA s : Int) == (0 : Int)) = false := by simpa using hc73
        have hc73n : ((cntA s : Int) != (0 : Int)) = true := by simpa using hc73
        replace hc73 := Lib.hid hc73
        have hN_e76 : D < s.length := (by omega)
        have hI_e76 : (D : Int) < (s.length : Int) := by omega
        obtain ⟨bl74, ol75, rfl, e760⟩ := i1.at D (by omega)
        obtain ⟨v77, hv77⟩ : ∃ v, s.getD D 0 = v := ⟨_, rfl⟩
        rw [hv77] at e760
        replace hv77 := Lib.hid hv77
        have y_e76 : bl74 < w5.heap.size := qB e760
        have z_e76 := y_e76
        have h60v77 := (view_small hB70.out).2 _ (getD_mem (show D < s.length by omega))
        rw [hv77.out] at h60v77
        by_cases hc78 : (v77 : Int) = (1 : Int)
        ·
         have hc78e : ((v77 : Int) == (1 : Int)) = true := by simpa using hc78
         have hc78n : ((v77 : Int) != (1 : Int)) = false := by simpa using hc78
         replace hc78 := Lib.hid hc78
         go_wp2_with fail
         go_ret
         exact ⟨rfl, (Xw5.trans qXt)⟩
        ·
         have hc78e : ((v77 : Int) == (1 : Int)) = false := by simpa using hc78
         have hc78n : ((v77 : Int) != (1 : Int)) = true := by simpa using hc78
         replace hc78 := Lib.hid hc78
         have hN_e81 : D + 1 < s.length := (by omega)
         have hI_e81 : (D + 1 : Int) < (s.length : Int) := by omega
         obtain ⟨b_e81, o_e81, h_e81, e810⟩ := i1.at (D + 1) (by omega)
         cases h_e81
         obtain ⟨v82, hv82⟩ : ∃ v, s.getD (D + 1) 0 = v := ⟨_, rfl⟩
         rw [hv82] at e810
         replace hv82 := Lib.hid hv82
         have y_e81 : bl74 < w5.heap.size := qB e810
         have z_e81 := y_e81
         have h60v82 := (view_small hB70.out).2 _ (getD_mem (show D + 1 < s.length by omega))
         rw [hv82.out] at h60v82
         by_cases hc83 : (v82 : Int) = (1 : Int)
         ·
          have hc83e : ((v82 : Int) == (1 : Int)) = true := by simpa using hc83
          have hc83n : ((v82 : Int) != (1 : Int)) = false := by simpa using hc83
          replace hc83 := Lib.hid hc83
          go_wp2_with fail
          go_ret
          exact ⟨rfl, (Xw5.trans qXt)⟩
         ·
          have hc83e : ((v82 : Int) == (1 : Int)) = false := by simpa using hc83
          have hc83n : ((v82 : Int) != (1 : Int)) = true := by simpa using hc83
          replace hc83 := Lib.hid hc83
          go_wp2_with fail
          have hN_e86 : D < t.length := (by have := (vw hB70.out).1; omega)
          have hI_e86 : (D : Int) < (t.length : Int) := by omega
          obtain ⟨bl84, ol85, rfl, e860⟩ := i2.at D (by have := (vw hB70.out).1; omega)
          obtain ⟨v87, hv87⟩ : ∃ v, t.getD D 0 = v := ⟨_, rfl⟩
          rw [hv87] at e860
          replace hv87 := Lib.hid hv87
          have y_e86 : bl84 < w5.heap.size := qB e860
          have z_e86 := y_e86
          have h60v87 := (viewB_in hB70.out).2.2.2.1 _ (getD_mem (show D < t.length by have := (vw hB70.out).1; omega))
          rw [hv87.out] at h60v87
          have hN_e90 : D + 1 < t.length := (by have := (vw hB70.out).1; omega)
          have hI_e90 : (D + 1 : Int) < (t.length : Int) := by omega
          obtain ⟨b_e90, o_e90, h_e90, e900⟩ := i2.at (D + 1) (by have := (vw hB70.out).1; omega)
          cases h_e90
          obtain ⟨v91, hv91⟩ : ∃ v, t.getD (D + 1) 0 = v := ⟨_, rfl⟩
          rw [hv91] at e900
          replace hv91 := Lib.hid hv91
          have y_e90 : bl84 < w5.heap.size := qB e900
          have z_e90 := y_e90
          have h60v91 := (viewB_in hB70.out).2.2.2.1 _ (getD_mem (show D + 1 < t.length by have := (vw hB70.out).1; omega))
          rw [hv91.out] at h60v91
          have hmb := mul_bd (x := v82) (t := v91) h60v82.1 h60v82.2 (show (0 : Int) ≤ 60 by omega) h60v91.1 h60v91.2
          rw [Int.mul_comm v82 v91] at hmb
          refine wp_region_tail (S := fun w' => w'.cell? ⟨w1.heap.size, 1, none⟩ = some (.slice (some ⟨bl74, ol75, none⟩) s.length r1) ∧ w'.cell? ⟨w1.heap.size, 2, none⟩ = some (.slice (some ⟨bl84, ol85, none⟩) t.length r2) ∧ w'.cell? ⟨bl74, ol75 + (D + 1), none⟩ = some (.int .i64 v82) ∧ w'.cell? ⟨bl84, ol85 + D, none⟩ = some (.int .i64 v87) ∧ w'.cell? ⟨bl84, ol85 + (D + 1), none⟩ = some (.int .i64 v91)) (fun i => decide (22 ≤ i)) qKr ⟨b631, b632, e810, e860, e900⟩ (fun hHeld => ?_)
          refine qTk (v := ?_) 0 rfl (.inl ⟨by rfl, ?_⟩) ?_
          rotate_left
          ·
           (intro w hSw; (try dsimp only at hSw); go_simp; try with_reducible rfl)
          try simp only [Act.put, qa, qb, qc, qD, qE, qF]
          refine qTk (v := ?_) 1 rfl (.inl ⟨by rfl, ?_⟩) ?_
          rotate_left
          ·
           (intro w hSw; (try dsimp only at hSw); go_simp; try with_reducible rfl)
          try simp only [Act.put, qa, qb, qc, qD, qE, qF]
          refine qTk (v := ?_) 2 rfl (.inl ⟨by rfl, ?_⟩) ?_
          rotate_left
          ·
           (intro w hSw; (try dsimp only at hSw); go_simp; try with_reducible rfl)
          try simp only [Act.put, qa, qb, qc, qD, qE, qF]
          refine qTk (v := ?_) 3 rfl (.inl ⟨by rfl, ?_⟩) ?_
          rotate_left
          ·
           (intro w hSw; (try dsimp only at hSw); go_simp; try with_reducible rfl)
          try simp only [Act.put, qa, qb, qc, qD, qE, qF]
          refine qTk (v := ?_) 4 rfl (.inl ⟨by rfl, ?_⟩) ?_
          rotate_left
          ·
           (intro w hSw; (try dsimp only at hSw); go_simp; try with_reducible rfl)
          try simp only [Act.put, qa, qb, qc, qD, qE, qF]
          refine qTk (v := ?_) 5 rfl (.inl ⟨by rfl, ?_⟩) ?_
          rotate_left
          ·
           (intro w hSw; (try dsimp only at hSw); go_simp; try with_reducible rfl)
          try simp only [Act.put, qa, qb, qc, qD, qE, qF]
          refine qTk (v := ?_) 6 rfl (.inl ⟨by rfl, ?_⟩) ?_
          rotate_left
          ·
           (intro w hSw; (try dsimp only at hSw); go_simp; try with_reducible rfl)
          try simp only [Act.put, qa, qb, qc, qD, qE, qF]
          refine qTk (v := ?_) 7 rfl (.inl ⟨by rfl, ?_⟩) ?_
          rotate_left
          ·
           (intro w hSw; (try dsimp only at hSw); go_simp; try with_reducible rfl)
          try simp only [Act.put, qa, qb, qc, qD, qE, qF]
          refine qTk (v := ?_) 8 rfl (.inl ⟨by rfl, ?_⟩) ?_
          rotate_left
          ·
           (intro w hSw; (try dsimp only at hSw); go_simp; try with_reducible rfl)
          try simp only [Act.put, qa, qb, qc, qD, qE, qF]
          have hw98 : IntKind.i64.wrap ((D : Int) + 1) = (D : Int) + 1 := IntWalk.i64_in _ (by omega)
          refine qTk (v := ?_) 9 rfl (.inl ⟨by rfl, ?_⟩) ?_
          rotate_left
          ·
           (intro w hSw; (try dsimp only at hSw); go_simp; try with_reducible rfl)
          try simp only [Act.put, qa, qb, qc, qD, qE, qF]
          refine qTk (v := ?_) 10 rfl (.inl ⟨by rfl, ?_⟩) ?_
          rotate_left
          ·
           (intro w hSw; (try dsimp only at hSw); go_simp; try with_reducible rfl)
          try simp only [Act.put, qa, qb, qc, qD, qE, qF]
          refine qTk (v := ?_) 11 rfl (.inl ⟨by rfl, ?_⟩) ?_
          rotate_left
          ·
           (intro w hSw; (try dsimp only at hSw); go_simp; try with_reducible rfl)
          try simp only [Act.put, qa, qb, qc, qD, qE, qF]
          refine qTk (v := ?_) 12 rfl (.inl ⟨by rfl, ?_⟩) ?_
          rotate_left
          ·
           (intro w hSw; (try dsimp only at hSw); go_simp; try with_reducible rfl)
          try simp only [Act.put, qa, qb, qc, qD, qE, qF]
          refine qTk (v := ?_) 13 rfl (.inl ⟨by rfl, ?_⟩) ?_
          rotate_left
          ·
           (intro w hSw; (try dsimp only at hSw); go_simp; try with_reducible rfl)
          try simp only [Act.put, qa, qb, qc, qD, qE, qF]
          refine qTk (v := ?_) 14 rfl (.inl ⟨by rfl, ?_⟩) ?_
          rotate_left
          ·
           (intro w hSw; (try dsimp only at hSw); go_simp; try with_reducible rfl)
          try simp only [Act.put, qa, qb, qc, qD, qE, qF]
          have hw102 : IntKind.i64.wrap ((D : Int) + 1) = (D : Int) + 1 := IntWalk.i64_in _ (by omega)
          refine qTk (v := ?_) 15 rfl (.inl ⟨by rfl, ?_⟩) ?_
          rotate_left
          ·
           (intro w hSw; (try dsimp only at hSw); go_simp; try with_reducible rfl)
          try simp only [Act.put, qa, qb, qc, qD, qE, qF]
          refine qTk (v := ?_) 16 rfl (.inl ⟨by rfl, ?_⟩) ?_
          rotate_left
          ·
           (intro w hSw; (try dsimp only at hSw); go_simp; try with_reducible rfl)
          try simp only [Act.put, qa, qb, qc, qD, qE, qF]
          refine qTk (v := ?_) 17 rfl (.inl ⟨by rfl, ?_⟩) ?_
          rotate_left
          ·
           (intro w hSw; (try dsimp only at hSw); go_simp; try with_reducible rfl)
          try simp only [Act.put, qa, qb, qc, qD, qE, qF]
          have hw106 : IntKind.i64.wrap (v91 * v82) = v91 * v82 := IntWalk.i64_in _ (by omega)
          refine qTk (v := ?_) 18 rfl (.inl ⟨by rfl, ?_⟩) ?_
          rotate_left
          ·
           (intro w hSw; (try dsimp only at hSw); go_simp; try with_reducible rfl)
          try simp only [Act.put, qa, qb, qc, qD, qE, qF]
          by_cases hc107 : (v87 : Int) = (v91 * v82 : Int)
          ·
           have hc107e : ((v87 : Int) == (v91 * v82 : Int)) = true := by simpa using hc107
           have hc107n : ((v87 : Int) != (v91 * v82 : Int)) = false := by simpa using hc107
           replace hc107 := Lib.hid hc107
           refine qTk (v := ?_) 19 rfl (.inl ⟨by rfl, ?_⟩) ?_
           rotate_left
           ·
            (intro w hSw; (try dsimp only at hSw); go_simp; try with_reducible rfl)
           try simp only [Act.put, qa, qb, qc, qD, qE, qF]
           refine qTk (v := ?_) 20 rfl (.inl ⟨by rfl, ?_⟩) ?_
           rotate_left
           ·
            (intro w hSw; (try dsimp only at hSw); go_simp; try with_reducible rfl)
           try simp only [Act.put, qa, qb, qc, qD, qE, qF]
           refine qTk (v := ?_) 21 rfl (.inl ⟨by rfl, ?_⟩) ?_
           rotate_left
           ·
            (intro w hSw; (try dsimp only at hSw); go_simp; try with_reducible rfl)
           try simp only [Act.put, qa, qb, qc, qD, qE, qF]
           refine wpTail_done qKr ?_ _
           clear hHeld hw98 hw102 hw106
           go_wp2_with fail
           go_ret
           exact ⟨rfl, (Xw5.trans qXt)⟩
          ·
           have hc107e : ((v87 : Int) == (v91 * v82 : Int)) = false := by simpa using hc107
           have hc107n : ((v87 : Int) != (v91 * v82 : Int)) = true := by simpa using hc107
           replace hc107 := Lib.hid hc107
           refine qTk (v := ?_) 19 rfl (.inl ⟨by rfl, ?_⟩) ?_
           rotate_left
           ·
            (intro w hSw; (try dsimp only at hSw); go_simp; try with_reducible rfl)
           try simp only [Act.put, qa, qb, qc, qD, qE, qF]
           refine qTk (v := ?_) 20 rfl (.inl ⟨by rfl, ?_⟩) ?_
           rotate_left
           ·
            (intro w hSw; (try dsimp only at hSw); go_simp; try with_reducible rfl)
           try simp only [Act.put, qa, qb, qc, qD, qE, qF]
           refine qTk (v := ?_) 21 rfl (.inl ⟨by rfl, ?_⟩) ?_
           rotate_left
           ·
            (intro w hSw; (try dsimp only at hSw); go_simp; try with_reducible rfl)
           try simp only [Act.put, qa, qb, qc, qD, qE, qF]
           refine wpTail_done qKr ?_ _
           clear hHeld hw98 hw102 hw106
           go_wp2_with fail
           exfalso
           have h7 := hj.out hB70.out (by omega) hc73.out
           have h8v77 := hv77.out
           rw [h8v77] at h7
           have h8v82 := hv82.out
           rw [h8v82] at h7
           have h8v87 := hv87.out
           rw [h8v87] at h7
           have h8v91 := hv91.out
           rw [h8v91] at h7
           have := hc78.out
           have := hc83.out
           have := hc107.out
           omega


end Go.Proofs.Ytonnnjaooifpjaa

/- The law FnJoinDims holds for all bytes: the call returns true, and its argument reads as it did. No condition. -/
namespace Go.Proofs.Ytonnnjaooifpjaa.rowFnJoinDims
open Go.ChangeShapes Go.WideShapes Go.ChangeAt Go.RowKit
set_option linter.unusedVariables false

set_option maxHeartbeats 1000000 in
set_option maxRecDepth 100000 in
theorem lifted (os : Os) (started : os.Started) (H : Type) (enc : TypeId × Value → H) :
    ReturnsInHanded {} Try.checked os 5 .any (Rows.fnJoinDimsSpec.pre6 enc Try.prog Try.f5 Rows.fnJoinDimsRow.domain false) (Rows.fnJoinDimsSpec.post enc Try.prog Try.f5 false true false false) := by
  refine returnsInHanded_of_change (C := Try.checked) own started qKr Try.func5
    (ChangeSpec.witness6 (enc := enc) (C := Try.checked) false ⟨#[], #[.slice none 0 0], []⟩ 8 qKr qKr qKr qKr) ?_
  intro W base args ds gs before hval0 hW hcnd _
  have hval : ∀ (j : Nat) t v, Try.f5.params[j]? = some t → args[j]? = some v → Value.okWide Try.prog W .any base t v := hval0
  have hW' := hW
  obtain ⟨p, q, hA0, hV, rfl, hfz, hnd⟩ := hW
  have hA : DataW.TrodAll enc Try.prog W 0 (fun _ => true) true Try.f5.params.toList args.toList ds p := hA0
  rw [Try.params5] at hA hval
  obtain ⟨v0, vs0, d0, ds0, p0, q0, hargs0, rfl, rfl, h0, r0⟩ := trodAll_cons hA
  obtain ⟨rfl, rfl, rfl⟩ := trodAll_nil r0
  obtain rfl : args = #[v0] := by cases args; simp_all
  obtain ⟨rfl, rfl⟩ := trodVars_none hV
  obtain ⟨a0, len0, cap0, rfl⟩ := okWide_slice Try.underlying22 (hval 0 22 v0 rfl rfl)
  have k0 := h0
  have lt0 : ∀ x ∈ p0, x.block < W.heap.size := by obtain ⟨m, hm⟩ := k0; exact DataW.trod_lt m _ _ _ hm
  have w0 : BysIn W a0 len0 cap0 := by
    obtain ⟨fuel, hf⟩ := h0
    rcases open_ints Try.underlying22 Try.underlying5 qKr hf with ⟨hcs, _⟩ | ⟨x, l, c, zs, hcs, _, hl, hm, hz, _, hcell, hwz⟩
    · simp [Value.cells] at hcs
      obtain ⟨rfl, rfl, rfl⟩ := hcs
      exact ⟨Nat.le_refl _, by simp, fun i hi => absurd hi (by simp)⟩
    · simp [Value.cells] at hcs
      obtain ⟨rfl, rfl, rfl⟩ := hcs
      have hzl : zs.length = cap0 := by simpa using hz
      exact bys_of_cells hl hm hzl hcell hwz
  clear hA0 hval0
  refine (lawFnJoinDims_c a0 len0 cap0 W w0).mono fun e W' ⟨he, bel⟩ => ?_
  subst he
  exact ⟨_, rfl, _, _, _, [], _, [], hW', trodAll_mk1 (shut_bool Try.underlying4 _), (trodAll_cons_mk (Below.trod laidOut qKr (of_decide_eq_true qKr) k0 bel lt0) trodAll_mk0), rfl, Below.frame bel _, fun h => by cases h⟩

set_option maxHeartbeats 2000000 in
theorem closed : joinedFacts Try.checked.prog 5 Try.f5 Rows.fnJoinDimsSpec Rows.fnJoinDimsRow = true :=
  facts.all qKr qKr qKr qKr qKr (by as_aux_lemma => kernel_rfl) (by as_aux_lemma => kernel_rfl) (by as_aux_lemma => kernel_rfl) (by as_aux_lemma => kernel_rfl)
    (by as_aux_lemma => kernel_rfl) (by as_aux_lemma => kernel_rfl) rfl rfl rfl rfl qKr qKr (by as_aux_lemma => kernel_rfl) (by as_aux_lemma => kernel_rfl)

theorem named : Try.pinned.checked.prog.funcNamed Rows.fnJoinDimsRow.func = some 5 := by kernel_rfl

theorem over : Rows.fnJoinDimsRow.holds Try.pinned (OpenSpec.ofChange Rows.fnJoinDimsSpec) :=
  OpenClaim.holds_of_wide 5 Try.f5 rfl rfl rfl rfl rfl rfl rfl ⟨rfl, rfl, rfl, rfl, rfl⟩ rfl rfl rfl rfl rfl named Try.func5 closed
    (of_decide_eq_true qKr) (by unfold Func.isWrapper; exact ⟨rfl, rfl⟩)
    (fun os started H enc _ => lifted os started H enc)

theorem proved : Rows.FnJoinDimsSaid := over

end Go.Proofs.Ytonnnjaooifpjaa.rowFnJoinDims
