/- Texts of these proofs put together: LawFnSliceDimTwice, RowFnSliceDimTwice. No condition. -/
import Derived.Test.YtonnnjaooifpjaaD1RowFnSliceDimTwice
import Derived.Test.YtonnnjaooifpjaaD2RowFnSliceDimTwice
import Derived.Test.YtonnnjaooifpjaaM2
import Derived.Test.YtonnnjaooifpjaaM4
set_option linter.unusedVariables false
set_option linter.unusedSimpArgs false
/- FnSliceDimTwice returns true for all bytes: no condition. -/
namespace Go.Proofs.Ytonnnjaooifpjaa
open Go.RowKit
set_option linter.unusedVariables false
set_option maxRecDepth 100000

set_option maxHeartbeats 6400000 in
theorem lawFnSliceDimTwice_c (a : Option Addr) (n cap : Nat) (w : World) (hb : BysIn w a n cap) :
  Calls Try.prog 9 #[.slice a n cap] w fun e w' => e = .returned (.bool true) ∧ Ext w w' := by
 have hcm := hb.1
 have hcm2 := hb.2.1
 unfold maxLen at hcm2
 go_enter Try.func9, Try.ntmps9
 by_cases hc1 : (1048576 : Int) < (n : Int)
 ·
  go_wp2_with fail
  go_ret
  exact ⟨rfl, qXo⟩
 ·
  go_wp2_with fail
  refine (drawSliceDim_c a n cap _ hb).mono ?_
  rintro e w1 ⟨b, s, t, p1, p2, r1, r2, d, F, T, B, hf, ht, rfl, i1, i2, l1, l2, hd5, xw1⟩
  have Lw1 : Ext w w1 := Ext.trans qXt xw1
  have Xw1 : Ext w w1 := Lw1
  have s_w1 : w.heap.size ≤ w1.heap.size := Xw1.size
  clear xw1
  clear hb
  obtain ⟨PB, PS, PT, PO, hP⟩ : ∃ PB PS PT PO, sliceV b s t d F T B hf ht = (PB, PS, PT, PO) := ⟨_, _, _, _, rfl⟩
  cases PO
  ·
   replace hP := Lib.hid hP
   go_wp2_with fail
   refine (pvx_eq hP.out (implSliceDim_c b (.slice p1 s.length r1) (.slice p2 t.length r2) s t d F T B hf ht _ _ _ (i1.ext qXt) (i2.ext qXt))).mono ?_
   rintro e w2 ⟨fv4u, fv4v, rfl, i5u, i5v, xw2⟩
   have Lw2 : Ext w1 w2 := Ext.trans qXt xw2
   have Xw2 : Ext w w2 := Xw1.trans Lw2
   have b20 : w2.cell? ⟨w1.heap.size, 0, none⟩ = some (.int .i64 b) := xw2.cell qCl
   have b21 : w2.cell? ⟨w1.heap.size, 1, none⟩ = some (.slice p1 s.length r1) := xw2.cell qCl
   have b22 : w2.cell? ⟨w1.heap.size, 2, none⟩ = some (.slice p2 t.length r2) := xw2.cell qCl
   have b30 : w2.cell? ⟨w1.heap.size + 1, 0, none⟩ = some (.int .i64 F) := xw2.cell qCl
   have b31 : w2.cell? ⟨w1.heap.size + 1, 1, none⟩ = some (.int .i64 T) := xw2.cell qCl
   have b32 : w2.cell? ⟨w1.heap.size + 1, 2, none⟩ = some (.int .i64 B) := xw2.cell qCl
   have b33 : w2.cell? ⟨w1.heap.size + 1, 3, none⟩ = some (.bool hf) := xw2.cell qCl
   have b34 : w2.cell? ⟨w1.heap.size + 1, 4, none⟩ = some (.bool ht) := xw2.cell qCl
   have z_b2 : w1.heap.size < w2.heap.size := qB b20
   have z_b3 : w1.heap.size + 1 < w2.heap.size := qB b30
   replace i1 := i1.ext Lw2
   replace i2 := i2.ext Lw2
   have s_w2 : w.heap.size ≤ w2.heap.size := Xw2.size
   clear xw2
   try simp only [World.size_alloc, World.size_drew] at i5u
   try simp only [World.size_alloc, World.size_drew] at i5v
   obtain ⟨afv4u, cfv4u, rfl⟩ := i5u.form
   obtain ⟨afv4v, cfv4v, rfl⟩ := i5v.form
   go_wp2_with fail
   refine (pv_eq hP.out (specSliceDim_c b (.slice p1 s.length r1) (.slice p2 t.length r2) s t d F T B hf ht _ _ _ (i1.ext qXt) (i2.ext qXt))).mono ?_
   rintro e w3 ⟨fv7u, fv7v, rfl, i8u, i8v, -, -, -, xw3⟩
   have Lw3 : Ext w2 w3 := Ext.trans qXt xw3
   have Xw3 : Ext w w3 := Xw2.trans Lw3
   replace b20 := Lw3.cell b20
   replace b21 := Lw3.cell b21
   replace b22 := Lw3.cell b22
   replace b30 := Lw3.cell b30
   replace b31 := Lw3.cell b31
   replace b32 := Lw3.cell b32
   replace b33 := Lw3.cell b33
   replace b34 := Lw3.cell b34
   have b60 : w3.cell? ⟨w2.heap.size, 0, none⟩ = some (.int .i64 PB) := xw3.cell qCl
   have b61 : w3.cell? ⟨w2.heap.size, 1, none⟩ = some (.slice afv4u PS.length cfv4u) := xw3.cell qCl
   have b62 : w3.cell? ⟨w2.heap.size, 2, none⟩ = some (.slice afv4v PT.length cfv4v) := xw3.cell qCl
   have z_b2 : w1.heap.size < w3.heap.size := qB b20
   have z_b3 : w1.heap.size + 1 < w3.heap.size := qB b30
   have z_b6 : w2.heap.size < w3.heap.size := qB b60
   replace i1 := i1.ext Lw3
   replace i2 := i2.ext Lw3
   replace i5u := i5u.ext Lw3
   replace i5v := i5v.ext Lw3
   have s_w3 : w.heap.size ≤ w3.heap.size := Xw3.size
   clear xw3
   try simp only [World.size_alloc, World.size_drew] at i8u
   try simp only [World.size_alloc, World.size_drew] at i8v
   obtain ⟨afv7u, cfv7u, rfl⟩ := i8u.form
   obtain ⟨afv7v, cfv7v, rfl⟩ := i8v.form
   go_wp2_with fail
   refine (leqView_c PB (.slice afv4u PS.length cfv4u) (.slice afv4v PT.length cfv4v) (.slice afv7u PS.length cfv7u) (.slice afv7v PT.length cfv7v) PS PT _ _ _ _ _ (i5u.ext qXt) (i5v.ext qXt) (i8u.ext qXt) (i8v.ext qXt)).mono ?_
   rintro e w4 ⟨rfl, xw4⟩
   have Lw4 : Ext w3 w4 := Ext.trans qXt xw4
   have Xw4 : Ext w w4 := Xw3.trans Lw4
   replace b20 := Lw4.cell b20
   replace b21 := Lw4.cell b21
   replace b22 := Lw4.cell b22
   replace b30 := Lw4.cell b30
   replace b31 := Lw4.cell b31
   replace b32 := Lw4.cell b32
   replace b33 := Lw4.cell b33
   replace b34 := Lw4.cell b34
   replace b60 := Lw4.cell b60
   replace b61 := Lw4.cell b61
   replace b62 := Lw4.cell b62
   have b90 : w4.cell? ⟨w3.heap.size, 0, none⟩ = some (.int .i64 PB) := xw4.cell qCl
   have b91 : w4.cell? ⟨w3.heap.size, 1, none⟩ = some (.slice afv7u PS.length cfv7u) := xw4.cell qCl
   have b92 : w4.cell? ⟨w3.heap.size, 2, none⟩ = some (.slice afv7v PT.length cfv7v) := xw4.cell qCl
   have z_b2 : w1.heap.size < w4.heap.size := qB b20
   have z_b3 : w1.heap.size + 1 < w4.heap.size := qB b30
   have z_b6 : w2.heap.size < w4.heap.size := qB b60
   have z_b9 : w3.heap.size < w4.heap.size := qB b90
   replace i1 := i1.ext Lw4
   replace i2 := i2.ext Lw4
   replace i5u := i5u.ext Lw4
   replace i5v := i5v.ext Lw4
   replace i8u := i8u.ext Lw4
   replace i8v := i8v.ext Lw4
   have s_w4 : w.heap.size ≤ w4.heap.size := Xw4.size
   clear xw4
   go_wp2_with fail
   refine (leqView_c PB (.slice afv4u PS.length cfv4u) (.slice afv4v PT.length cfv4v) (.slice afv7u PS.length cfv7u) (.slice afv7v PT.length cfv7v) PS PT _ _ _ _ _ (i5u.ext qXt) (i5v.ext qXt) (i8u.ext qXt) (i8v.ext qXt)).mono ?_
   rintro e w5 ⟨rfl, xw5⟩
   have Lw5 : Ext w4 w5 := Ext.trans qXt xw5
   have Xw5 : Ext w w5 := Xw4.trans Lw5
   replace b20 := Lw5.cell b20
   replace b21 := Lw5.cell b21
   replace b22 := Lw5.cell b22
   replace b30 := Lw5.cell b30
   replace b31 := Lw5.cell b31
   replace b32 := Lw5.cell b32
   replace b33 := Lw5.cell b33
   replace b34 := Lw5.cell b34
   replace b60 := Lw5.cell b60
   replace b61 := Lw5.cell b61
   replace b62 := Lw5.cell b62
   replace b90 := Lw5.cell b90
   replace b91 := Lw5.cell b91
   replace b92 := Lw5.cell b92
   have z_b2 : w1.heap.size < w5.heap.size := qB b20
   have z_b3 : w1.heap.size + 1 < w5.heap.size := qB b30
   have z_b6 : w2.heap.size < w5.heap.size := qB b60
   have z_b9 : w3.heap.size < w5.heap.size := qB b90
   replace i1 := i1.ext Lw5
   replace i2 := i2.ext Lw5
   replace i5u := i5u.ext Lw5
   replace i5v := i5v.ext Lw5
   replace i8u := i8u.ext Lw5
   replace i8v := i8v.ext Lw5
   have s_w5 : w.heap.size ≤ w5.heap.size := Xw5.size
   clear xw5
   go_wp2_with fail
   go_ret
   exact ⟨rfl, (Xw5.trans qXt)⟩
  ·
   obtain ⟨D, rfl, hDs, hvv, hsl, he60, hl60, hin, X, N1, N2, N3, hX, hbb, hN, QB, QS, QT, hq1, hq2, hq3⟩ := twice_law hP
   obtain ⟨E, hEE⟩ : ∃ E, s.getD D 0 = E := ⟨_, rfl⟩
   rw [hEE] at he60 hl60 hin hX
   obtain ⟨L, hLL⟩ : ∃ L, idxS E F T B hf ht = L := ⟨_, rfl⟩
   rw [hLL] at hl60 hin hX
   obtain ⟨KK, hKK⟩ : ∃ K, idxS (L.length : Int) (-1) 0 (-2) true false = K := ⟨_, rfl⟩
   rw [hKK] at hin hX
   obtain ⟨M2, hM⟩ : ∃ M, (if N2 = -1 then 0 else N2) = M := ⟨_, rfl⟩
   obtain ⟨g, hg⟩ : ∃ g, (!decide (N2 = -1)) = g := ⟨_, rfl⟩
   rw [hM, hg] at hq2
   have hn60 : inB 0 60 E = true := by unfold inB; simp; omega
   replace hEE := Lib.hid hEE
   replace hLL := Lib.hid hLL
   replace hKK := Lib.hid hKK
   replace hX := Lib.hid hX
   replace hin := Lib.hid hin
   replace hbb := Lib.hid hbb
   replace hN := Lib.hid hN
   replace hM := Lib.hid hM
   replace hg := Lib.hid hg
   replace hq1 := Lib.hid hq1
   replace hq2 := Lib.hid hq2
   replace hq3 := Lib.hid hq3
   replace hn60 := Lib.hid hn60
   replace hsl := Lib.hid hsl
   replace hP := Lib.hid hP
   go_wp2_with fail
   refine (pvx_eq hP.out (implSliceDim_c b (.slice p1 s.length r1) (.slice p2 t.length r2) s t (D : Int) F T B hf ht _ _ _ (i1.ext qXt) (i2.ext qXt))).mono ?_
   rintro e w2 ⟨fv12u, fv12v, rfl, i13u, i13v, xw2⟩
   have Lw2 : Ext w1 w2 := Ext.trans qXt xw2
   have Xw2 : Ext w w2 := Xw1.trans Lw2
   have b100 : w2.cell? ⟨w1.heap.size, 0, none⟩ = some (.int .i64 b) := xw2.cell qCl
   have b101 : w2.cell? ⟨w1.heap.size, 1, none⟩ = some (.slice p1 s.length r1) := xw2.cell qCl
   have b102 : w2.cell? ⟨w1.heap.size, 2, none⟩ = some (.slice p2 t.length r2) := xw2.cell qCl
   have b110 : w2.cell? ⟨w1.heap.size + 1, 0, none⟩ = some (.int .i64 F) := xw2.cell qCl
   have b111 : w2.cell? ⟨w1.heap.size + 1, 1, none⟩ = some (.int .i64 T) := xw2.cell qCl
   have b112 : w2.cell? ⟨w1.heap.size + 1, 2, none⟩ = some (.int .i64 B) := xw2.cell qCl
   have b113 : w2.cell? ⟨w1.heap.size + 1, 3, none⟩ = some (.bool hf) := xw2.cell qCl
   have b114 : w2.cell? ⟨w1.heap.size + 1, 4, none⟩ = some (.bool ht) := xw2.cell qCl
   have z_b10 : w1.heap.size < w2.heap.size := qB b100
   have z_b11 : w1.heap.size + 1 < w2.heap.size := qB b110
   replace i1 := i1.ext Lw2
   replace i2 := i2.ext Lw2
   have s_w2 : w.heap.size ≤ w2.heap.size := Xw2.size
   clear xw2
   try simp only [World.size_alloc, World.size_drew] at i13u
   try simp only [World.size_alloc, World.size_drew] at i13v
   obtain ⟨afv12u, cfv12u, rfl⟩ := i13u.form
   obtain ⟨afv12v, cfv12v, rfl⟩ := i13v.form
   go_wp2_with fail
   refine (pv_eq hP.out (specSliceDim_c b (.slice p1 s.length r1) (.slice p2 t.length r2) s t (D : Int) F T B hf ht _ _ _ (i1.ext qXt) (i2.ext qXt))).mono ?_
   rintro e w3 ⟨fv15u, fv15v, rfl, i16u, i16v, -, -, -, xw3⟩
   have Lw3 : Ext w2 w3 := Ext.trans qXt xw3
   have Xw3 : Ext w w3 := Xw2.trans Lw3
   replace b100 := Lw3.cell b100
   replace b101 := Lw3.cell b101
   replace b102 := Lw3.cell b102
   replace b110 := Lw3.cell b110
   replace b111 := Lw3.cell b111
   replace b112 := Lw3.cell b112
   replace b113 := Lw3.cell b113
   replace b114 := Lw3.cell b114
   have b140 : w3.cell? ⟨w2.heap.size, 0, none⟩ = some (.int .i64 PB) := xw3.cell qCl
   have b141 : w3.cell? ⟨w2.heap.size, 1, none⟩ = some (.slice afv12u PS.length cfv12u) := xw3.cell qCl
   have b142 : w3.cell? ⟨w2.heap.size, 2, none⟩ = some (.slice afv12v PT.length cfv12v) := xw3.cell qCl
   have z_b10 : w1.heap.size < w3.heap.size := qB b100
   have z_b11 : w1.heap.size + 1 < w3.heap.size := qB b110
   have z_b14 : w2.heap.size < w3.heap.size := qB b140
   replace i1 := i1.ext Lw3
   replace i2 := i2.ext Lw3
   replace i13u := i13u.ext Lw3
   replace i13v := i13v.ext Lw3
   have s_w3 : w.heap.size ≤ w3.heap.size := Xw3.size
   clear xw3
   try simp only [World.size_alloc, World.size_drew] at i16u
   try simp only [World.size_alloc, World.size_drew] at i16v
   obtain ⟨afv15u, cfv15u, rfl⟩ := i16u.form
   obtain ⟨afv15v, cfv15v, rfl⟩ := i16v.form
   go_wp2_with fail
   refine (leqView_c PB (.slice afv12u PS.length cfv12u) (.slice afv12v PT.length cfv12v) (.slice afv15u PS.length cfv15u) (.slice afv15v PT.length cfv15v) PS PT _ _ _ _ _ (i13u.ext qXt) (i13v.ext qXt) (i16u.ext qXt) (i16v.ext qXt)).mono ?_
   rintro e w4 ⟨rfl, xw4⟩
   have Lw4 : Ext w3 w4 := Ext.trans qXt xw4
   have Xw4 : Ext w w4 := Xw3.trans Lw4
   replace b100 := Lw4.cell b100
   replace b101 := Lw4.cell b101
   replace b102 := Lw4.cell b102
   replace b110 := Lw4.cell b110
   replace b111 := Lw4.cell b111
   replace b112 := Lw4.cell b112
   replace b113 := Lw4.cell b113
   replace b114 := Lw4.cell b114
   replace b140 := Lw4.cell b140
   replace b141 := Lw4.cell b141
   replace b142 := Lw4.cell b142
   have b170 : w4.cell? ⟨w3.heap.size, 0, none⟩ = some (.int .i64 PB) := xw4.cell qCl
   have b171 : w4.cell? ⟨w3.heap.size, 1, none⟩ = some (.slice afv15u PS.length cfv15u) := xw4.cell qCl
   have b172 : w4.cell? ⟨w3.heap.size, 2, none⟩ = some (.slice afv15v PT.length cfv15v) := xw4.cell qCl
   have z_b10 : w1.heap.size < w4.heap.size := qB b100
   have z_b11 : w1.heap.size + 1 < w4.heap.size := qB b110
   have z_b14 : w2.heap.size < w4.heap.size := qB b140
   have z_b17 : w3.heap.size < w4.heap.size := qB b170
   replace i1 := i1.ext Lw4
   replace i2 := i2.ext Lw4
   replace i13u := i13u.ext Lw4
   replace i13v := i13v.ext Lw4
   replace i16u := i16u.ext Lw4
   replace i16v := i16v.ext Lw4
   have s_w4 : w.heap.size ≤ w4.heap.size := Xw4.size
   clear xw4
   go_wp2_with fail
   refine (pvx_eq hq1.out (implSliceDim_c PB (.slice afv12u PS.length cfv12u) (.slice afv12v PT.length cfv12v) PS PT (D : Int) (-1) 0 (-2) true false _ _ _ (i13u.ext qXt) (i13v.ext qXt))).mono ?_
   rintro e w5 ⟨fv19u, fv19v, rfl, i20u, i20v, xw5⟩
   have Lw5 : Ext w4 w5 := Ext.trans qXt xw5
   have Xw5 : Ext w w5 := Xw4.trans Lw5
   replace b100 := Lw5.cell b100
   replace b101 := Lw5.cell b101
   replace b102 := Lw5.cell b102
   replace b110 := Lw5.cell b110
   replace b111 := Lw5.cell b111
   replace b112 := Lw5.cell b112
   replace b113 := Lw5.cell b113
   replace b114 := Lw5.cell b114
   replace b140 := Lw5.cell b140
   replace b141 := Lw5.cell b141
   replace b142 := Lw5.cell b142
   replace b170 := Lw5.cell b170
   replace b171 := Lw5.cell b171
   replace b172 := Lw5.cell b172
   have b180 : w5.cell? ⟨w4.heap.size, 0, none⟩ = some (.int .i64 (-1)) := xw5.cell qCl
   have b181 : w5.cell? ⟨w4.heap.size, 1, none⟩ = some (.int .i64 0) := xw5.cell qCl
   have b182 : w5.cell? ⟨w4.heap.size, 2, none⟩ = some (.int .i64 (-2)) := xw5.cell qCl
   have b183 : w5.cell? ⟨w4.heap.size, 3, none⟩ = some (.bool true) := xw5.cell qCl
   have b184 : w5.cell? ⟨w4.heap.size, 4, none⟩ = some (.bool false) := xw5.cell qCl
   have z_b10 : w1.heap.size < w5.heap.size := qB b100
   have z_b11 : w1.heap.size + 1 < w5.heap.size := qB b110
   have z_b14 : w2.heap.size < w5.heap.size := qB b140
   have z_b17 : w3.heap.size < w5.heap.size := qB b170
   have z_b18 : w4.heap.size < w5.heap.size := qB b180
   replace i1 := i1.ext Lw5
   replace i2 := i2.ext Lw5
   replace i13u := i13u.ext Lw5
   replace i13v := i13v.ext Lw5
   replace i16u := i16u.ext Lw5
   replace i16v := i16v.ext Lw5
   have s_w5 : w.heap.size ≤ w5.heap.size := Xw5.size
   clear xw5
   try simp only [World.size_alloc, World.size_drew] at i20u
   try simp only [World.size_alloc, World.size_drew] at i20v
   obtain ⟨afv19u, cfv19u, rfl⟩ := i20u.form
   obtain ⟨afv19v, cfv19v, rfl⟩ := i20v.form
   go_wp2_with fail
   generalize hW1 : w5.alloc (.cells #[.int .i64 QB, .slice afv19u QS.length cfv19u, .slice afv19v QT.length cfv19v] 25) = w6 at *
   have Lw6 : Ext w5 w6 := by subst hW1; exact qXt
   have Xw6 : Ext w w6 := Xw5.trans Lw6
   replace b100 := Lw6.cell b100
   replace b101 := Lw6.cell b101
   replace b102 := Lw6.cell b102
   replace b110 := Lw6.cell b110
   replace b111 := Lw6.cell b111
   replace b112 := Lw6.cell b112
   replace b113 := Lw6.cell b113
   replace b114 := Lw6.cell b114
   replace b140 := Lw6.cell b140
   replace b141 := Lw6.cell b141
   replace b142 := Lw6.cell b142
   replace b170 := Lw6.cell b170
   replace b171 := Lw6.cell b171
   replace b172 := Lw6.cell b172
   replace b180 := Lw6.cell b180
   replace b181 := Lw6.cell b181
   replace b182 := Lw6.cell b182
   replace b183 := Lw6.cell b183
   replace b184 := Lw6.cell b184
   have b210 : w6.cell? ⟨w5.heap.size, 0, none⟩ = some (.int .i64 QB) := by subst hW1; exact qCl
   have b211 : w6.cell? ⟨w5.heap.size, 1, none⟩ = some (.slice afv19u QS.length cfv19u) := by subst hW1; exact qCl
   have b212 : w6.cell? ⟨w5.heap.size, 2, none⟩ = some (.slice afv19v QT.length cfv19v) := by subst hW1; exact qCl
   have z_b10 : w1.heap.size < w6.heap.size := qB b100
   have z_b11 : w1.heap.size + 1 < w6.heap.size := qB b110
   have z_b14 : w2.heap.size < w6.heap.size := qB b140
   have z_b17 : w3.heap.size < w6.heap.size := qB b170
   have z_b18 : w4.heap.size < w6.heap.size := qB b180
   have z_b21 : w5.heap.size < w6.heap.size := qB b210
   replace i1 := i1.ext Lw6
   replace i2 := i2.ext Lw6
   replace i13u := i13u.ext Lw6
   replace i13v := i13v.ext Lw6
   replace i16u := i16u.ext Lw6
   replace i16v := i16v.ext Lw6
   replace i20u := i20u.ext Lw6
   replace i20v := i20v.ext Lw6
   have s_w6 : w.heap.size ≤ w6.heap.size := Xw6.size
   clear hW1
   have hN_e24 : D < s.length := hDs
   have hI_e24 : (D : Int) < (s.length : Int) := by omega
   obtain ⟨bl22, ol23, rfl, e240⟩ := i1.at D hDs
   obtain ⟨v25, hv25⟩ : ∃ v, s.getD D 0 = v := ⟨_, rfl⟩
   rw [hv25] at e240
   replace hv25 := Lib.hid hv25
   have y_e24 : bl22 < w6.heap.size := qB e240
   have z_e24 := y_e24
   obtain rfl : E = v25 := hEE.out.symm.trans hv25.out
   go_cut [13, 14] (fun s13 s14 wx => ∃ (g : Nat) (afv29u : Option Addr) (cfv29u : Nat) (afv29v : Option Addr) (cfv29v : Nat), s13 = .pointer (some ⟨g, 0, none⟩) ∧ s14 = .bool true ∧ Ext w6 wx ∧ w6.heap.size ≤ g ∧ wx.cell? ⟨g, 0, none⟩ = some (.int .i64 QB) ∧ wx.cell? ⟨g, 1, none⟩ = some (.slice afv29u QS.length cfv29u) ∧ wx.cell? ⟨g, 2, none⟩ = some (.slice afv29v QT.length cfv29v) ∧ wx.frozen? ⟨g, 0, none⟩ = false ∧ wx.frozen? ⟨g, 1, none⟩ = false ∧ wx.frozen? ⟨g, 2, none⟩ = false ∧ Ints wx w6.heap.size (.slice afv29u QS.length cfv29u) QS ∧ Ints wx w6.heap.size (.slice afv29v QT.length cfv29v) QT)
   case first =>
    have BD10 : Ext w6 w6 := Ext.refl _
    refine wp_region_held_drew (S := fun w' => w'.cell? ⟨w1.heap.size, 0, none⟩ = some (.int .i64 b) ∧ w'.cell? ⟨w1.heap.size, 1, none⟩ = some (.slice (some ⟨bl22, ol23, none⟩) s.length r1) ∧ w'.cell? ⟨w1.heap.size, 2, none⟩ = some (.slice p2 t.length r2) ∧ w'.cell? ⟨w1.heap.size + 1, 0, none⟩ = some (.int .i64 F) ∧ w'.cell? ⟨w1.heap.size + 1, 1, none⟩ = some (.int .i64 T) ∧ w'.cell? ⟨w1.heap.size + 1, 2, none⟩ = some (.int .i64 B) ∧ w'.cell? ⟨w1.heap.size + 1, 3, none⟩ = some (.bool hf) ∧ w'.cell? ⟨w1.heap.size + 1, 4, none⟩ = some (.bool ht) ∧ w'.cell? ⟨w2.heap.size, 0, none⟩ = some (.int .i64 PB) ∧ w'.cell? ⟨w2.heap.size, 1, none⟩ = some (.slice afv12u PS.length cfv12u) ∧ w'.cell? ⟨w2.heap.size, 2, none⟩ = some (.slice afv12v PT.length cfv12v) ∧ w'.cell? ⟨w3.heap.size, 0, none⟩ = some (.int .i64 PB) ∧ w'.cell? ⟨w3.heap.size, 1, none⟩ = some (.slice afv15u PS.length cfv15u) ∧ w'.cell? ⟨w3.heap.size, 2, none⟩ = some (.slice afv15v PT.length cfv15v) ∧ w'.cell? ⟨w4.heap.size, 0, none⟩ = some (.int .i64 (-1)) ∧ w'.cell? ⟨w4.heap.size, 1, none⟩ = some (.int .i64 0) ∧ w'.cell? ⟨w4.heap.size, 2, none⟩ = some (.int .i64 (-2)) ∧ w'.cell? ⟨w4.heap.size, 3, none⟩ = some (.bool true) ∧ w'.cell? ⟨w4.heap.size, 4, none⟩ = some (.bool false) ∧ w'.cell? ⟨w5.heap.size, 0, none⟩ = some (.int .i64 QB) ∧ w'.cell? ⟨w5.heap.size, 1, none⟩ = some (.slice afv19u QS.length cfv19u) ∧ w'.cell? ⟨w5.heap.size, 2, none⟩ = some (.slice afv19v QT.length cfv19v) ∧ w'.cell? ⟨bl22, ol23 + D, none⟩ = some (.int .i64 E)) qKr ⟨b100, b101, b102, b110, b111, b112, b113, b114, b140, b141, b142, b170, b171, b172, b180, b181, b182, b183, b184, b210, b211, b212, e240⟩ (fun hHeld => ?_)
    refine qHk (v := ?_) 0 rfl (.inl ⟨by rfl, ?_⟩) ?_
    rotate_left
    ·
     (intro w hSw; (try dsimp only at hSw); go_simp; try with_reducible rfl)
    try simp only [Act.put, qa, qb, qc, qD, qE, qF]
    refine qHk (v := ?_) 1 rfl (.inl ⟨by rfl, ?_⟩) ?_
    rotate_left
    ·
     (intro w hSw; (try dsimp only at hSw); go_simp; try with_reducible rfl)
    try simp only [Act.put, qa, qb, qc, qD, qE, qF]
    refine qHk (v := ?_) 2 rfl (.inl ⟨by rfl, ?_⟩) ?_
    rotate_left
    ·
     (intro w hSw; (try dsimp only at hSw); go_simp; try with_reducible rfl)
    try simp only [Act.put, qa, qb, qc, qD, qE, qF]
    refine qHk (v := ?_) 3 rfl (.inl ⟨by rfl, ?_⟩) ?_
    rotate_left
    ·
     (intro w hSw; (try dsimp only at hSw); go_simp; try with_reducible rfl)
    try simp only [Act.put, qa, qb, qc, qD, qE, qF]
    refine qHk (v := ?_) 4 rfl (.inl ⟨by rfl, ?_⟩) ?_
    rotate_left
    ·
     (intro w hSw; (try dsimp only at hSw); go_simp; try with_reducible rfl)
    try simp only [Act.put, qa, qb, qc, qD, qE, qF]
    refine qHk (v := ?_) 5 rfl (.inl ⟨by rfl, ?_⟩) ?_
    rotate_left
    ·
     (intro w hSw; (try dsimp only at hSw); go_simp; try with_reducible rfl)
    try simp only [Act.put, qa, qb, qc, qD, qE, qF]
    refine qHk (v := ?_) 6 rfl (.inl ⟨by rfl, ?_⟩) ?_
    rotate_left
    ·
     (intro w hSw; (try dsimp only at hSw); go_simp; try with_reducible rfl)
    try simp only [Act.put, qa, qb, qc, qD, qE, qF]
    refine qHk (v := ?_) 7 rfl (.inl ⟨by rfl, ?_⟩) ?_
    rotate_left
    ·
     (intro w hSw; (try dsimp only at hSw); go_simp; try with_reducible rfl)
    try simp only [Act.put, qa, qb, qc, qD, qE, qF]
    refine qHk (v := ?_) 8 rfl (.inl ⟨by rfl, ?_⟩) ?_
    rotate_left
    ·
     (intro w hSw; (try dsimp only at hSw); go_simp; try with_reducible rfl)
    try simp only [Act.put, qa, qb, qc, qD, qE, qF]
    refine wpAnyH_ready (rs := [9, 14]) qKr (by simp) ?_
    refine AllReadyH.cons rfl (fun K hK => ?_) (AllReadyH.cons rfl (fun K hK => ?_) AllReadyH.nil)
    ·
     try simp only [Act.put, qa, qb, qc, qD, qE, qF]
     go_simp
     refine (implMergeSlices_e E F T B hf ht (-1) 0 (-2) true false L KK X N1 N2 N3 M2 g _ hn60.out he60 hsl.out (by decide) hLL hKK hX hl60 hin hbb hN hM hg).mono ?_
     rintro e w7 ⟨rfl, xw7⟩
     have Lw7 : Ext w6 w7 := Ext.trans qXt xw7
     have Xw7 : Ext w w7 := Xw6.trans Lw7
     replace b100 := Lw7.cell b100
     replace b101 := Lw7.cell b101
     replace b102 := Lw7.cell b102
     replace b110 := Lw7.cell b110
     replace b111 := Lw7.cell b111
     replace b112 := Lw7.cell b112
     replace b113 := Lw7.cell b113
     replace b114 := Lw7.cell b114
     replace b140 := Lw7.cell b140
     replace b141 := Lw7.cell b141
     replace b142 := Lw7.cell b142
     replace b170 := Lw7.cell b170
     replace b171 := Lw7.cell b171
     replace b172 := Lw7.cell b172
     replace b180 := Lw7.cell b180
     replace b181 := Lw7.cell b181
     replace b182 := Lw7.cell b182
     replace b183 := Lw7.cell b183
     replace b184 := Lw7.cell b184
     replace b210 := Lw7.cell b210
     replace b211 := Lw7.cell b211
     replace b212 := Lw7.cell b212
     replace e240 := Lw7.cell e240
     have z_b10 : w1.heap.size < w7.heap.size := qB b100
     have z_b11 : w1.heap.size + 1 < w7.heap.size := qB b110
     have z_b14 : w2.heap.size < w7.heap.size := qB b140
     have z_b17 : w3.heap.size < w7.heap.size := qB b170
     have z_b18 : w4.heap.size < w7.heap.size := qB b180
     have z_b21 : w5.heap.size < w7.heap.size := qB b210
     have z_e24 : bl22 < w7.heap.size := qB e240
     replace i1 := i1.ext Lw7
     replace i2 := i2.ext Lw7
     replace i13u := i13u.ext Lw7
     replace i13v := i13v.ext Lw7
     replace i16u := i16u.ext Lw7
     replace i16v := i16v.ext Lw7
     replace i20u := i20u.ext Lw7
     replace i20v := i20v.ext Lw7
     have s_w7 : w.heap.size ≤ w7.heap.size := Xw7.size
     have BD10_w7 : Ext w6 w7 := BD10.trans Lw7
     clear xw7
     have zD_w7 := (BD10_w7).size
     refine hK.out _ _ ⟨b100, b101, b102, b110, b111, b112, b113, b114, b140, b141, b142, b170, b171, b172, b180, b181, b182, b183, b184, b210, b211, b212, e240⟩ (fun hHeld => ?_)
     clear hK K
     try simp only [Act.put, qa, qb, qc, qD, qE, qF]
     refine wpAnyH_ready (rs := [10, 14]) qKr (by simp) ?_
     refine AllReadyH.cons rfl (fun K hK => ?_) (AllReadyH.cons rfl (fun K hK => ?_) AllReadyH.nil)
     ·
      try simp only [Act.put, qa, qb, qc, qD, qE, qF]
      go_simp
      refine (pvx_eq hq2.out (implSliceDim_c b (.slice (some ⟨bl22, ol23, none⟩) s.length r1) (.slice p2 t.length r2) s t (D : Int) N1 M2 N3 true g _ _ _ (i1.ext qXt) (i2.ext qXt))).mono ?_
      rintro e w8 ⟨fv29u, fv29v, rfl, i30u, i30v, xw8⟩
      have Lw8 : Ext w7 w8 := Ext.trans qXt xw8
      have Xw8 : Ext w w8 := Xw7.trans Lw8
      replace b100 := Lw8.cell b100
      replace b101 := Lw8.cell b101
      replace b102 := Lw8.cell b102
      replace b110 := Lw8.cell b110
      replace b111 := Lw8.cell b111
      replace b112 := Lw8.cell b112
      replace b113 := Lw8.cell b113
      replace b114 := Lw8.cell b114
      replace b140 := Lw8.cell b140
      replace b141 := Lw8.cell b141
      replace b142 := Lw8.cell b142
      replace b170 := Lw8.cell b170
      replace b171 := Lw8.cell b171
      replace b172 := Lw8.cell b172
      replace b180 := Lw8.cell b180
      replace b181 := Lw8.cell b181
      replace b182 := Lw8.cell b182
      replace b183 := Lw8.cell b183
      replace b184 := Lw8.cell b184
      replace b210 := Lw8.cell b210
      replace b211 := Lw8.cell b211
      replace b212 := Lw8.cell b212
      replace e240 := Lw8.cell e240
      have z_b10 : w1.heap.size < w8.heap.size := qB b100
      have z_b11 : w1.heap.size + 1 < w8.heap.size := qB b110
      have z_b14 : w2.heap.size < w8.heap.size := qB b140
      have z_b17 : w3.heap.size < w8.heap.size := qB b170
      have z_b18 : w4.heap.size < w8.heap.size := qB b180
      have z_b21 : w5.heap.size < w8.heap.size := qB b210
      have z_e24 : bl22 < w8.heap.size := qB e240
      replace i1 := i1.ext Lw8
      replace i2 := i2.ext Lw8
      replace i13u := i13u.ext Lw8
      replace i13v := i13v.ext Lw8
      replace i16u := i16u.ext Lw8
      replace i16v := i16v.ext Lw8
      replace i20u := i20u.ext Lw8
      replace i20v := i20v.ext Lw8
      have s_w8 : w.heap.size ≤ w8.heap.size := Xw8.size
      have BD10_w8 : Ext w6 w8 := BD10_w7.trans Lw8
      clear xw8
      try simp only [World.size_alloc, World.size_drew] at i30u
      try simp only [World.size_alloc, World.size_drew] at i30v
      obtain ⟨afv29u, cfv29u, rfl⟩ := i30u.form
      obtain ⟨afv29v, cfv29v, rfl⟩ := i30v.form
      have zD_w8 := (BD10_w8).size
      refine hK.out _ _ ⟨b100, b101, b102, b110, b111, b112, b113, b114, b140, b141, b142, b170, b171, b172, b180, b181, b182, b183, b184, b210, b211, b212, e240⟩ (fun hHeld => ?_)
      clear hK K
      try simp only [Act.put, qa, qb, qc, qD, qE, qF]
      refine qHk (v := ?_) 11 rfl (.inl ⟨by rfl, ?_⟩) ?_
      rotate_left
      ·
       (intro w hSw; (try dsimp only at hSw); go_simp; try with_reducible rfl)
      try simp only [Act.put, qa, qb, qc, qD, qE, qF]
      refine qHk (v := ?_) 12 rfl (.inl ⟨by rfl, ?_⟩) ?_
      rotate_left
      ·
       (intro w hSw; (try dsimp only at hSw); go_simp; try with_reducible rfl)
      try simp only [Act.put, qa, qb, qc, qD, qE, qF]
      refine qHk (v := ?_) 13 rfl (.inl ⟨by rfl, ?_⟩) ?_
      rotate_left
      ·
       (intro w hSw; (try dsimp only at hSw); go_simp; try with_reducible rfl)
      try simp only [Act.put, qa, qb, qc, qD, qE, qF]
      refine qHr 14 rfl (fun K hK => ?_)
      try simp only [Act.put, qa, qb, qc, qD, qE, qF]
      go_simp
      have Q31_b100 := Lib.hid b100
      have Q31_b101 := Lib.hid b101
      have Q31_b102 := Lib.hid b102
      have Q31_zb10 := z_b10
      have Q31_b110 := Lib.hid b110
      have Q31_b111 := Lib.hid b111
      have Q31_b112 := Lib.hid b112
      have Q31_b113 := Lib.hid b113
      have Q31_b114 := Lib.hid b114
      have Q31_zb11 := z_b11
      have Q31_b140 := Lib.hid b140
      have Q31_b141 := Lib.hid b141
      have Q31_b142 := Lib.hid b142
      have Q31_zb14 := z_b14
      have Q31_b170 := Lib.hid b170
      have Q31_b171 := Lib.hid b171
      have Q31_b172 := Lib.hid b172
      have Q31_zb17 := z_b17
      have Q31_b180 := Lib.hid b180
      have Q31_b181 := Lib.hid b181
      have Q31_b182 := Lib.hid b182
      have Q31_b183 := Lib.hid b183
      have Q31_b184 := Lib.hid b184
      have Q31_zb18 := z_b18
      have Q31_b210 := Lib.hid b210
      have Q31_b211 := Lib.hid b211
      have Q31_b212 := Lib.hid b212
      have Q31_zb21 := z_b21
      have Q31_e240 := Lib.hid e240
      have Q31_ze24 := z_e24
      have Q31_i1 := Lib.hid i1
      have Q31_i2 := Lib.hid i2
      have Q31_i13u := Lib.hid i13u
      have Q31_i13v := Lib.hid i13v
      have Q31_i16u := Lib.hid i16u
      have Q31_i16v := Lib.hid i16v
      have Q31_i20u := Lib.hid i20u
      have Q31_i20v := Lib.hid i20v
      have Q31_i30u := Lib.hid i30u
      have Q31_i30v := Lib.hid i30v
      have BL32 : Ext w8 w8 := Ext.refl _
      have Q33_b100 := Lib.hid b100
      have Q33_b101 := Lib.hid b101
      have Q33_b102 := Lib.hid b102
      have Q33_zb10 := z_b10
      have Q33_b110 := Lib.hid b110
      have Q33_b111 := Lib.hid b111
      have Q33_b112 := Lib.hid b112
      have Q33_b113 := Lib.hid b113
      have Q33_b114 := Lib.hid b114
      have Q33_zb11 := z_b11
      have Q33_b140 := Lib.hid b140
      have Q33_b141 := Lib.hid b141
      have Q33_b142 := Lib.hid b142
      have Q33_zb14 := z_b14
      have Q33_b170 := Lib.hid b170
      have Q33_b171 := Lib.hid b171
      have Q33_b172 := Lib.hid b172
      have Q33_zb17 := z_b17
      have Q33_b180 := Lib.hid b180
      have Q33_b181 := Lib.hid b181
      have Q33_b182 := Lib.hid b182
      have Q33_b183 := Lib.hid b183
      have Q33_b184 := Lib.hid b184
      have Q33_zb18 := z_b18
      have Q33_b210 := Lib.hid b210
      have Q33_b211 := Lib.hid b211
      have Q33_b212 := Lib.hid b212
      have Q33_zb21 := z_b21
      have Q33_e240 := Lib.hid e240
      have Q33_ze24 := z_e24
      have Q33_i1 := Lib.hid i1
      have Q33_i2 := Lib.hid i2
      have Q33_i13u := Lib.hid i13u
      have Q33_i13v := Lib.hid i13v
      have Q33_i16u := Lib.hid i16u
      have Q33_i16v := Lib.hid i16v
      have Q33_i20u := Lib.hid i20u
      have Q33_i20v := Lib.hid i20v
      have Q33_i30u := Lib.hid i30u
      have Q33_i30v := Lib.hid i30v
      have BL34 : Ext w8 w8 := Ext.refl _
      refine hK.out _ _ ⟨(show Ext w8 _ from qXt).cell b100, (show Ext w8 _ from qXt).cell b101, (show Ext w8 _ from qXt).cell b102, (show Ext w8 _ from qXt).cell b110, (show Ext w8 _ from qXt).cell b111, (show Ext w8 _ from qXt).cell b112, (show Ext w8 _ from qXt).cell b113, (show Ext w8 _ from qXt).cell b114, (show Ext w8 _ from qXt).cell b140, (show Ext w8 _ from qXt).cell b141, (show Ext w8 _ from qXt).cell b142, (show Ext w8 _ from qXt).cell b170, (show Ext w8 _ from qXt).cell b171, (show Ext w8 _ from qXt).cell b172, (show Ext w8 _ from qXt).cell b180, (show Ext w8 _ from qXt).cell b181, (show Ext w8 _ from qXt).cell b182, (show Ext w8 _ from qXt).cell b183, (show Ext w8 _ from qXt).cell b184, (show Ext w8 _ from qXt).cell b210, (show Ext w8 _ from qXt).cell b211, (show Ext w8 _ from qXt).cell b212, (show Ext w8 _ from qXt).cell e240⟩ (fun hHeld => ?_)
      clear hK K
      try simp only [Act.put, qa, qb, qc, qD, qE, qF]
      refine qHr 15 rfl (fun K hK => ?_)
      try simp only [Act.put, qa, qb, qc, qD, qE, qF]
      go_simp
      generalize hW2 : w8.alloc (.cells #[.int .i64 QB, .slice afv29u QS.length cfv29u, .slice afv29v QT.length cfv29v] 25) = w9 at *
      have Lw9 : Ext w8 w9 := by subst hW2; exact qXt
      have Xw9 : Ext w w9 := Xw8.trans Lw9
      replace b100 := Lw9.cell b100
      replace b101 := Lw9.cell b101
      replace b102 := Lw9.cell b102
      replace b110 := Lw9.cell b110
      replace b111 := Lw9.cell b111
      replace b112 := Lw9.cell b112
      replace b113 := Lw9.cell b113
      replace b114 := Lw9.cell b114
      replace b140 := Lw9.cell b140
      replace b141 := Lw9.cell b141
      replace b142 := Lw9.cell b142
      replace b170 := Lw9.cell b170
      replace b171 := Lw9.cell b171
      replace b172 := Lw9.cell b172
      replace b180 := Lw9.cell b180
      replace b181 := Lw9.cell b181
      replace b182 := Lw9.cell b182
      replace b183 := Lw9.cell b183
      replace b184 := Lw9.cell b184
      replace b210 := Lw9.cell b210
      replace b211 := Lw9.cell b211
      replace b212 := Lw9.cell b212
      replace e240 := Lw9.cell e240
      have b350 : w9.cell? ⟨w8.heap.size, 0, none⟩ = some (.int .i64 QB) := by subst hW2; exact qCl
      have b351 : w9.cell? ⟨w8.heap.size, 1, none⟩ = some (.slice afv29u QS.length cfv29u) := by subst hW2; exact qCl
      have b352 : w9.cell? ⟨w8.heap.size, 2, none⟩ = some (.slice afv29v QT.length cfv29v) := by subst hW2; exact qCl
      have f_b350 : w9.frozen? ⟨w8.heap.size, 0, none⟩ = false := by subst hW2; exact qFz
      have f_b351 : w9.frozen? ⟨w8.heap.size, 1, none⟩ = false := by subst hW2; exact qFz
      have f_b352 : w9.frozen? ⟨w8.heap.size, 2, none⟩ = false := by subst hW2; exact qFz
      have z_b10 : w1.heap.size < w9.heap.size := qB b100
      have z_b11 : w1.heap.size + 1 < w9.heap.size := qB b110
      have z_b14 : w2.heap.size < w9.heap.size := qB b140
      have z_b17 : w3.heap.size < w9.heap.size := qB b170
      have z_b18 : w4.heap.size < w9.heap.size := qB b180
      have z_b21 : w5.heap.size < w9.heap.size := qB b210
      have z_e24 : bl22 < w9.heap.size := qB e240
      have z_b35 : w8.heap.size < w9.heap.size := qB b350
      replace i1 := i1.ext Lw9
      replace i2 := i2.ext Lw9
      replace i13u := i13u.ext Lw9
      replace i13v := i13v.ext Lw9
      replace i16u := i16u.ext Lw9
      replace i16v := i16v.ext Lw9
      replace i20u := i20u.ext Lw9
      replace i20v := i20v.ext Lw9
      replace i30u := i30u.ext Lw9
      replace i30v := i30v.ext Lw9
      have s_w9 : w.heap.size ≤ w9.heap.size := Xw9.size
      have BD10_w9 : Ext w6 w9 := BD10_w8.trans Lw9
      have BL32_w9 : Ext w8 w9 := BL32.trans Lw9
      have BL34_w9 : Ext w8 w9 := BL34.trans Lw9
      clear hW2
      refine hK.out _ _ ⟨b100, b101, b102, b110, b111, b112, b113, b114, b140, b141, b142, b170, b171, b172, b180, b181, b182, b183, b184, b210, b211, b212, e240⟩ (fun hHeld => ?_)
      clear hK K
      try simp only [Act.put, qa, qb, qc, qD, qE, qF]
      refine qHk (v := ?_) 16 rfl (.inl ⟨by rfl, ?_⟩) ?_
      rotate_left
      ·
       (intro w hSw; (try dsimp only at hSw); go_simp; try with_reducible rfl)
      try simp only [Act.put, qa, qb, qc, qD, qE, qF]
      refine wpAnyH_done qKr ?_ _
      clear hHeld
      go_step
      go_step
      go_meet
      case rel => exact ⟨_, _, _, _, _, rfl, rfl, BD10_w9, (by omega), b350, b351, b352, f_b350, f_b351, f_b352, i30u.lower (by omega), i30v.lower (by omega)⟩
     ·
      try simp only [Act.put, qa, qb, qc, qD, qE, qF]
      go_simp
      have Q36_b100 := Lib.hid b100
      have Q36_b101 := Lib.hid b101
      have Q36_b102 := Lib.hid b102
      have Q36_zb10 := z_b10
      have Q36_b110 := Lib.hid b110
      have Q36_b111 := Lib.hid b111
      have Q36_b112 := Lib.hid b112
      have Q36_b113 := Lib.hid b113
      have Q36_b114 := Lib.hid b114
      have Q36_zb11 := z_b11
      have Q36_b140 := Lib.hid b140
      have Q36_b141 := Lib.hid b141
      have Q36_b142 := Lib.hid b142
      have Q36_zb14 := z_b14
      have Q36_b170 := Lib.hid b170
      have Q36_b171 := Lib.hid b171
      have Q36_b172 := Lib.hid b172
      have Q36_zb17 := z_b17
      have Q36_b180 := Lib.hid b180
      have Q36_b181 := Lib.hid b181
      have Q36_b182 := Lib.hid b182
      have Q36_b183 := Lib.hid b183
      have Q36_b184 := Lib.hid b184
      have Q36_zb18 := z_b18
      have Q36_b210 := Lib.hid b210
      have Q36_b211 := Lib.hid b211
      have Q36_b212 := Lib.hid b212
      have Q36_zb21 := z_b21
      have Q36_e240 := Lib.hid e240
      have Q36_ze24 := z_e24
      have Q36_i1 := Lib.hid i1
      have Q36_i2 := Lib.hid i2
      have Q36_i13u := Lib.hid i13u
      have Q36_i13v := Lib.hid i13v
      have Q36_i16u := Lib.hid i16u
      have Q36_i16v := Lib.hid i16v
      have Q36_i20u := Lib.hid i20u
      have Q36_i20v := Lib.hid i20v
      have BL37 : Ext w7 w7 := Ext.refl _
      have Q38_b100 := Lib.hid b100
      have Q38_b101 := Lib.hid b101
      have Q38_b102 := Lib.hid b102
      have Q38_zb10 := z_b10
      have Q38_b110 := Lib.hid b110
      have Q38_b111 := Lib.hid b111
      have Q38_b112 := Lib.hid b112
      have Q38_b113 := Lib.hid b113
      have Q38_b114 := Lib.hid b114
      have Q38_zb11 := z_b11
      have Q38_b140 := Lib.hid b140
      have Q38_b141 := Lib.hid b141
      have Q38_b142 := Lib.hid b142
      have Q38_zb14 := z_b14
      have Q38_b170 := Lib.hid b170
      have Q38_b171 := Lib.hid b171
      have Q38_b172 := Lib.hid b172
      have Q38_zb17 := z_b17
      have Q38_b180 := Lib.hid b180
      have Q38_b181 := Lib.hid b181
      have Q38_b182 := Lib.hid b182
      have Q38_b183 := Lib.hid b183
      have Q38_b184 := Lib.hid b184
      have Q38_zb18 := z_b18
      have Q38_b210 := Lib.hid b210
      have Q38_b211 := Lib.hid b211
      have Q38_b212 := Lib.hid b212
      have Q38_zb21 := z_b21
      have Q38_e240 := Lib.hid e240
      have Q38_ze24 := z_e24
      have Q38_i1 := Lib.hid i1
      have Q38_i2 := Lib.hid i2
      have Q38_i13u := Lib.hid i13u
      have Q38_i13v := Lib.hid i13v
      have Q38_i16u := Lib.hid i16u
      have Q38_i16v := Lib.hid i16v
      have Q38_i20u := Lib.hid i20u
      have Q38_i20v := Lib.hid i20v
      have BL39 : Ext w7 w7 := Ext.refl _
      refine hK.out _ _ ⟨(show Ext w7 _ from qXt).cell b100, (show Ext w7 _ from qXt).cell b101, (show Ext w7 _ from qXt).cell b102, (show Ext w7 _ from qXt).cell b110, (show Ext w7 _ from qXt).cell b111, (show Ext w7 _ from qXt).cell b112, (show Ext w7 _ from qXt).cell b113, (show Ext w7 _ from qXt).cell b114, (show Ext w7 _ from qXt).cell b140, (show Ext w7 _ from qXt).cell b141, (show Ext w7 _ from qXt).cell b142, (show Ext w7 _ from qXt).cell b170, (show Ext w7 _ from qXt).cell b171, (show Ext w7 _ from qXt).cell b172, (show Ext w7 _ from qXt).cell b180, (show Ext w7 _ from qXt).cell b181, (show Ext w7 _ from qXt).cell b182, (show Ext w7 _ from qXt).cell b183, (show Ext w7 _ from qXt).cell b184, (show Ext w7 _ from qXt).cell b210, (show Ext w7 _ from qXt).cell b211, (show Ext w7 _ from qXt).cell b212, (show Ext w7 _ from qXt).cell e240⟩ (fun hHeld => ?_)
      clear hK K
      try simp only [Act.put, qa, qb, qc, qD, qE, qF]
      refine qHr 10 rfl (fun K hK => ?_)
      try simp only [Act.put, qa, qb, qc, qD, qE, qF]
      go_simp
      refine (pvx_eq hq2.out (implSliceDim_c b (.slice (some ⟨bl22, ol23, none⟩) s.length r1) (.slice p2 t.length r2) s t (D : Int) N1 M2 N3 true g _ _ _ (i1.ext qXt) (i2.ext qXt))).mono ?_
      rintro e w8 ⟨fv41u, fv41v, rfl, i42u, i42v, xw8⟩
      have Lw8 : Ext w7 w8 := Ext.trans qXt xw8
      have Xw8 : Ext w w8 := Xw7.trans Lw8
      replace b100 := Lw8.cell b100
      replace b101 := Lw8.cell b101
      replace b102 := Lw8.cell b102
      replace b110 := Lw8.cell b110
      replace b111 := Lw8.cell b111
      replace b112 := Lw8.cell b112
      replace b113 := Lw8.cell b113
      replace b114 := Lw8.cell b114
      replace b140 := Lw8.cell b140
      replace b141 := Lw8.cell b141
      replace b142 := Lw8.cell b142
      replace b170 := Lw8.cell b170
      replace b171 := Lw8.cell b171
      replace b172 := Lw8.cell b172
      replace b180 := Lw8.cell b180
      replace b181 := Lw8.cell b181
      replace b182 := Lw8.cell b182
      replace b183 := Lw8.cell b183
      replace b184 := Lw8.cell b184
      replace b210 := Lw8.cell b210
      replace b211 := Lw8.cell b211
      replace b212 := Lw8.cell b212
      replace e240 := Lw8.cell e240
      have b400 : w8.cell? ⟨w7.heap.size, 0, none⟩ = some (.int .i64 0) := xw8.cell qCl
      have b401 : w8.cell? ⟨w7.heap.size, 1, none⟩ = some (.slice none 0 0) := xw8.cell qCl
      have b402 : w8.cell? ⟨w7.heap.size, 2, none⟩ = some (.slice none 0 0) := xw8.cell qCl
      have f_b400 : w8.frozen? ⟨w7.heap.size, 0, none⟩ = false := xw8.frz (by simp <;> omega) qFz
      have f_b401 : w8.frozen? ⟨w7.heap.size, 1, none⟩ = false := xw8.frz (by simp <;> omega) qFz
      have f_b402 : w8.frozen? ⟨w7.heap.size, 2, none⟩ = false := xw8.frz (by simp <;> omega) qFz
      have z_b10 : w1.heap.size < w8.heap.size := qB b100
      have z_b11 : w1.heap.size + 1 < w8.heap.size := qB b110
      have z_b14 : w2.heap.size < w8.heap.size := qB b140
      have z_b17 : w3.heap.size < w8.heap.size := qB b170
      have z_b18 : w4.heap.size < w8.heap.size := qB b180
      have z_b21 : w5.heap.size < w8.heap.size := qB b210
      have z_e24 : bl22 < w8.heap.size := qB e240
      have z_b40 : w7.heap.size < w8.heap.size := qB b400
      replace i1 := i1.ext Lw8
      replace i2 := i2.ext Lw8
      replace i13u := i13u.ext Lw8
      replace i13v := i13v.ext Lw8
      replace i16u := i16u.ext Lw8
      replace i16v := i16v.ext Lw8
      replace i20u := i20u.ext Lw8
      replace i20v := i20v.ext Lw8
      have s_w8 : w.heap.size ≤ w8.heap.size := Xw8.size
      have BD10_w8 : Ext w6 w8 := BD10_w7.trans Lw8
      have BL37_w8 : Ext w7 w8 := BL37.trans Lw8
      have BL39_w8 : Ext w7 w8 := BL39.trans Lw8
      clear xw8
      try simp only [World.size_alloc, World.size_drew] at i42u
      try simp only [World.size_alloc, World.size_drew] at i42v
      obtain ⟨afv41u, cfv41u, rfl⟩ := i42u.form
      obtain ⟨afv41v, cfv41v, rfl⟩ := i42v.form
      have zD_w8 := (BD10_w8).size
      refine hK.out _ _ ⟨b100, b101, b102, b110, b111, b112, b113, b114, b140, b141, b142, b170, b171, b172, b180, b181, b182, b183, b184, b210, b211, b212, e240⟩ (fun hHeld => ?_)
      clear hK K
      try simp only [Act.put, qa, qb, qc, qD, qE, qF]
      refine qHk (v := ?_) 11 rfl (.inl ⟨by rfl, ?_⟩) ?_
      rotate_left
      ·
       (intro w hSw; (try dsimp only at hSw); go_simp; try with_reducible rfl)
      try simp only [Act.put, qa, qb, qc, qD, qE, qF]
      refine qHk (v := ?_) 12 rfl (.inl ⟨by rfl, ?_⟩) ?_
      rotate_left
      ·
       (intro w hSw; (try dsimp only at hSw); go_simp; try with_reducible rfl)
      try simp only [Act.put, qa, qb, qc, qD, qE, qF]
      refine qHk (v := ?_) 13 rfl (.inl ⟨by rfl, ?_⟩) ?_
      rotate_left
      ·
       (intro w hSw; (try dsimp only at hSw); go_simp; try with_reducible rfl)
      try simp only [Act.put, qa, qb, qc, qD, qE, qF]
      refine qHr 15 rfl (fun K hK => ?_)
      try simp only [Act.put, qa, qb, qc, qD, qE, qF]
      go_simp
      generalize hW3 : (((w8.setCell ⟨w7.heap.size, 0, none⟩ (.int .i64 QB)).setCell ⟨w7.heap.size, 1, none⟩ (.slice afv41u QS.length cfv41u)).setCell ⟨w7.heap.size, 2, none⟩ (.slice afv41v QT.length cfv41v)) = w9 at *
      have Kw9 : Chg (w7.heap.size) (w7.heap.size + 1) w8 w9 := by subst hW3; exact qCh
      have Xw9 : Ext w w9 := by subst hW3; exact qXt
      have BD10_w9 : Ext w6 w9 := by subst hW3; exact qXt
      have BL37_w9 : Ext w7 w9 := by subst hW3; exact qXt
      replace b100 := BL37_w9.cell Q36_b100.out
      replace b101 := BL37_w9.cell Q36_b101.out
      replace b102 := BL37_w9.cell Q36_b102.out
      replace b110 := BL37_w9.cell Q36_b110.out
      replace b111 := BL37_w9.cell Q36_b111.out
      replace b112 := BL37_w9.cell Q36_b112.out
      replace b113 := BL37_w9.cell Q36_b113.out
      replace b114 := BL37_w9.cell Q36_b114.out
      replace b140 := BL37_w9.cell Q36_b140.out
      replace b141 := BL37_w9.cell Q36_b141.out
      replace b142 := BL37_w9.cell Q36_b142.out
      replace b170 := BL37_w9.cell Q36_b170.out
      replace b171 := BL37_w9.cell Q36_b171.out
      replace b172 := BL37_w9.cell Q36_b172.out
      replace b180 := BL37_w9.cell Q36_b180.out
      replace b181 := BL37_w9.cell Q36_b181.out
      replace b182 := BL37_w9.cell Q36_b182.out
      replace b183 := BL37_w9.cell Q36_b183.out
      replace b184 := BL37_w9.cell Q36_b184.out
      replace b210 := BL37_w9.cell Q36_b210.out
      replace b211 := BL37_w9.cell Q36_b211.out
      replace b212 := BL37_w9.cell Q36_b212.out
      replace e240 := BL37_w9.cell Q36_e240.out
      replace b400 : w9.cell? ⟨w7.heap.size, 0, none⟩ = some (.int .i64 QB) := by subst hW3; go_simp
      replace f_b400 : w9.frozen? ⟨w7.heap.size, 0, none⟩ = false := by subst hW3; first | (simp only [World.frozen?_setCell]; with_reducible assumption) | go_simp
      replace b401 : w9.cell? ⟨w7.heap.size, 1, none⟩ = some (.slice afv41u QS.length cfv41u) := by subst hW3; go_simp
      replace f_b401 : w9.frozen? ⟨w7.heap.size, 1, none⟩ = false := by subst hW3; first | (simp only [World.frozen?_setCell]; with_reducible assumption) | go_simp
      replace b402 : w9.cell? ⟨w7.heap.size, 2, none⟩ = some (.slice afv41v QT.length cfv41v) := by subst hW3; go_simp
      replace f_b402 : w9.frozen? ⟨w7.heap.size, 2, none⟩ = false := by subst hW3; first | (simp only [World.frozen?_setCell]; with_reducible assumption) | go_simp
      replace i1 := (Q36_i1.out).ext BL37_w9
      replace i2 := (Q36_i2.out).ext BL37_w9
      replace i13u := (Q36_i13u.out).ext BL37_w9
      replace i13v := (Q36_i13v.out).ext BL37_w9
      replace i16u := (Q36_i16u.out).ext BL37_w9
      replace i16v := (Q36_i16v.out).ext BL37_w9
      replace i20u := (Q36_i20u.out).ext BL37_w9
      replace i20v := (Q36_i20v.out).ext BL37_w9
      replace i42u := i42u.chg Kw9 (by omega)
      replace i42v := i42v.chg Kw9 (by omega)
      clear Kw9
      have z_b10 : w1.heap.size < w9.heap.size := qB b100
      have z_b11 : w1.heap.size + 1 < w9.heap.size := qB b110
      have z_b14 : w2.heap.size < w9.heap.size := qB b140
      have z_b17 : w3.heap.size < w9.heap.size := qB b170
      have z_b18 : w4.heap.size < w9.heap.size := qB b180
      have z_b21 : w5.heap.size < w9.heap.size := qB b210
      have z_e24 : bl22 < w9.heap.size := qB e240
      have z_b40 : w7.heap.size < w9.heap.size := qB b400
      have s_w9 : w.heap.size ≤ w9.heap.size := Xw9.size
      clear hW3
      refine hK.out _ _ ⟨b100, b101, b102, b110, b111, b112, b113, b114, b140, b141, b142, b170, b171, b172, b180, b181, b182, b183, b184, b210, b211, b212, e240⟩ (fun hHeld => ?_)
      clear hK K
      try simp only [Act.put, qa, qb, qc, qD, qE, qF]
      refine qHk (v := ?_) 16 rfl (.inl ⟨by rfl, ?_⟩) ?_
      rotate_left
      ·
       (intro w hSw; (try dsimp only at hSw); go_simp; try with_reducible rfl)
      try simp only [Act.put, qa, qb, qc, qD, qE, qF]
      refine wpAnyH_done qKr ?_ _
      clear hHeld
      go_step
      go_step
      go_meet
      case rel => exact ⟨_, _, _, _, _, rfl, rfl, BD10_w9, (by omega), b400, b401, b402, f_b400, f_b401, f_b402, i42u.lower (by omega), i42v.lower (by omega)⟩
    ·
     try simp only [Act.put, qa, qb, qc, qD, qE, qF]
     go_simp
     have Q43_b100 := Lib.hid b100
     have Q43_b101 := Lib.hid b101
     have Q43_b102 := Lib.hid b102
     have Q43_zb10 := z_b10
     have Q43_b110 := Lib.hid b110
     have Q43_b111 := Lib.hid b111
     have Q43_b112 := Lib.hid b112
     have Q43_b113 := Lib.hid b113
     have Q43_b114 := Lib.hid b114
     have Q43_zb11 := z_b11
     have Q43_b140 := Lib.hid b140
     have Q43_b141 := Lib.hid b141
     have Q43_b142 := Lib.hid b142
     have Q43_zb14 := z_b14
     have Q43_b170 := Lib.hid b170
     have Q43_b171 := Lib.hid b171
     have Q43_b172 := Lib.hid b172
     have Q43_zb17 := z_b17
     have Q43_b180 := Lib.hid b180
     have Q43_b181 := Lib.hid b181
     have Q43_b182 := Lib.hid b182
     have Q43_b183 := Lib.hid b183
     have Q43_b184 := Lib.hid b184
     have Q43_zb18 := z_b18
     have Q43_b210 := Lib.hid b210
     have Q43_b211 := Lib.hid b211
     have Q43_b212 := Lib.hid b212
     have Q43_zb21 := z_b21
     have Q43_e240 := Lib.hid e240
     have Q43_ze24 := z_e24
     have Q43_i1 := Lib.hid i1
     have Q43_i2 := Lib.hid i2
     have Q43_i13u := Lib.hid i13u
     have Q43_i13v := Lib.hid i13v
     have Q43_i16u := Lib.hid i16u
     have Q43_i16v := Lib.hid i16v
     have Q43_i20u := Lib.hid i20u
     have Q43_i20v := Lib.hid i20v
     have BL44 : Ext w6 w6 := Ext.refl _
     have Q45_b100 := Lib.hid b100
     have Q45_b101 := Lib.hid b101
     have Q45_b102 := Lib.hid b102
     have Q45_zb10 := z_b10
     have Q45_b110 := Lib.hid b110
     have Q45_b111 := Lib.hid b111
     have Q45_b112 := Lib.hid b112
     have Q45_b113 := Lib.hid b113
     have Q45_b114 := Lib.hid b114
     have Q45_zb11 := z_b11
     have Q45_b140 := Lib.hid b140
     have Q45_b141 := Lib.hid b141
     have Q45_b142 := Lib.hid b142
     have Q45_zb14 := z_b14
     have Q45_b170 := Lib.hid b170
     have Q45_b171 := Lib.hid b171
     have Q45_b172 := Lib.hid b172
     have Q45_zb17 := z_b17
     have Q45_b180 := Lib.hid b180
     have Q45_b181 := Lib.hid b181
     have Q45_b182 := Lib.hid b182
     have Q45_b183 := Lib.hid b183
     have Q45_b184 := Lib.hid b184
     have Q45_zb18 := z_b18
     have Q45_b210 := Lib.hid b210
     have Q45_b211 := Lib.hid b211
     have Q45_b212 := Lib.hid b212
     have Q45_zb21 := z_b21
     have Q45_e240 := Lib.hid e240
     have Q45_ze24 := z_e24
     have Q45_i1 := Lib.hid i1
     have Q45_i2 := Lib.hid i2
     have Q45_i13u := Lib.hid i13u
     have Q45_i13v := Lib.hid i13v
     have Q45_i16u := Lib.hid i16u
     have Q45_i16v := Lib.hid i16v
     have Q45_i20u := Lib.hid i20u
     have Q45_i20v := Lib.hid i20v
     have BL46 : Ext w6 w6 := Ext.refl _
     refine hK.out _ _ ⟨(show Ext w6 _ from qXt).cell b100, (show Ext w6 _ from qXt).cell b101, (show Ext w6 _ from qXt).cell b102, (show Ext w6 _ from qXt).cell b110, (show Ext w6 _ from qXt).cell b111, (show Ext w6 _ from qXt).cell b112, (show Ext w6 _ from qXt).cell b113, (show Ext w6 _ from qXt).cell b114, (show Ext w6 _ from qXt).cell b140, (show Ext w6 _ from qXt).cell b141, (show Ext w6 _ from qXt).cell b142, (show Ext w6 _ from qXt).cell b170, (show Ext w6 _ from qXt).cell b171, (show Ext w6 _ from qXt).cell b172, (show Ext w6 _ from qXt).cell b180, (show Ext w6 _ from qXt).cell b181, (show Ext w6 _ from qXt).cell b182, (show Ext w6 _ from qXt).cell b183, (show Ext w6 _ from qXt).cell b184, (show Ext w6 _ from qXt).cell b210, (show Ext w6 _ from qXt).cell b211, (show Ext w6 _ from qXt).cell b212, (show Ext w6 _ from qXt).cell e240⟩ (fun hHeld => ?_)
     clear hK K
     try simp only [Act.put, qa, qb, qc, qD, qE, qF]
     refine qHr 9 rfl (fun K hK => ?_)
     try simp only [Act.put, qa, qb, qc, qD, qE, qF]
     go_simp
     refine (implMergeSlices_e E F T B hf ht (-1) 0 (-2) true false L KK X N1 N2 N3 M2 g _ hn60.out he60 hsl.out (by decide) hLL hKK hX hl60 hin hbb hN hM hg).mono ?_
     rintro e w7 ⟨rfl, xw7⟩
     have Lw7 : Ext w6 w7 := Ext.trans qXt xw7
     have Xw7 : Ext w w7 := Xw6.trans Lw7
     replace b100 := Lw7.cell b100
     replace b101 := Lw7.cell b101
     replace b102 := Lw7.cell b102
     replace b110 := Lw7.cell b110
     replace b111 := Lw7.cell b111
     replace b112 := Lw7.cell b112
     replace b113 := Lw7.cell b113
     replace b114 := Lw7.cell b114
     replace b140 := Lw7.cell b140
     replace b141 := Lw7.cell b141
     replace b142 := Lw7.cell b142
     replace b170 := Lw7.cell b170
     replace b171 := Lw7.cell b171
     replace b172 := Lw7.cell b172
     replace b180 := Lw7.cell b180
     replace b181 := Lw7.cell b181
     replace b182 := Lw7.cell b182
     replace b183 := Lw7.cell b183
     replace b184 := Lw7.cell b184
     replace b210 := Lw7.cell b210
     replace b211 := Lw7.cell b211
     replace b212 := Lw7.cell b212
     replace e240 := Lw7.cell e240
     have b470 : w7.cell? ⟨w6.heap.size, 0, none⟩ = some (.int .i64 0) := xw7.cell qCl
     have b471 : w7.cell? ⟨w6.heap.size, 1, none⟩ = some (.slice none 0 0) := xw7.cell qCl
     have b472 : w7.cell? ⟨w6.heap.size, 2, none⟩ = some (.slice none 0 0) := xw7.cell qCl
     have f_b470 : w7.frozen? ⟨w6.heap.size, 0, none⟩ = false := xw7.frz (by simp <;> omega) qFz
     have f_b471 : w7.frozen? ⟨w6.heap.size, 1, none⟩ = false := xw7.frz (by simp <;> omega) qFz
     have f_b472 : w7.frozen? ⟨w6.heap.size, 2, none⟩ = false := xw7.frz (by simp <;> omega) qFz
     have z_b10 : w1.heap.size < w7.heap.size := qB b100
     have z_b11 : w1.heap.size + 1 < w7.heap.size := qB b110
     have z_b14 : w2.heap.size < w7.heap.size := qB b140
     have z_b17 : w3.heap.size < w7.heap.size := qB b170
     have z_b18 : w4.heap.size < w7.heap.size := qB b180
     have z_b21 : w5.heap.size < w7.heap.size := qB b210
     have z_e24 : bl22 < w7.heap.size := qB e240
     have z_b47 : w6.heap.size < w7.heap.size := qB b470
     replace i1 := i1.ext Lw7
     replace i2 := i2.ext Lw7
     replace i13u := i13u.ext Lw7
     replace i13v := i13v.ext Lw7
     replace i16u := i16u.ext Lw7
     replace i16v := i16v.ext Lw7
     replace i20u := i20u.ext Lw7
     replace i20v := i20v.ext Lw7
     have s_w7 : w.heap.size ≤ w7.heap.size := Xw7.size
     have BD10_w7 : Ext w6 w7 := BD10.trans Lw7
     have BL44_w7 : Ext w6 w7 := BL44.trans Lw7
     have BL46_w7 : Ext w6 w7 := BL46.trans Lw7
     clear xw7
     have zD_w7 := (BD10_w7).size
     refine hK.out _ _ ⟨b100, b101, b102, b110, b111, b112, b113, b114, b140, b141, b142, b170, b171, b172, b180, b181, b182, b183, b184, b210, b211, b212, e240⟩ (fun hHeld => ?_)
     clear hK K
     try simp only [Act.put, qa, qb, qc, qD, qE, qF]
     refine qHr 10 rfl (fun K hK => ?_)
     try simp only [Act.put, qa, qb, qc, qD, qE, qF]
     go_simp
     refine (pvx_eq hq2.out (implSliceDim_c b (.slice (some ⟨bl22, ol23, none⟩) s.length r1) (.slice p2 t.length r2) s t (D : Int) N1 M2 N3 true g _ _ _ (i1.ext qXt) (i2.ext qXt))).mono ?_
     rintro e w8 ⟨fv48u, fv48v, rfl, i49u, i49v, xw8⟩
     have Lw8 : Ext w7 w8 := Ext.trans qXt xw8
     have Xw8 : Ext w w8 := Xw7.trans Lw8
     replace b100 := Lw8.cell b100
     replace b101 := Lw8.cell b101
     replace b102 := Lw8.cell b102
     replace b110 := Lw8.cell b110
     replace b111 := Lw8.cell b111
     replace b112 := Lw8.cell b112
     replace b113 := Lw8.cell b113
     replace b114 := Lw8.cell b114
     replace b140 := Lw8.cell b140
     replace b141 := Lw8.cell b141
     replace b142 := Lw8.cell b142
     replace b170 := Lw8.cell b170
     replace b171 := Lw8.cell b171
     replace b172 := Lw8.cell b172
     replace b180 := Lw8.cell b180
     replace b181 := Lw8.cell b181
     replace b182 := Lw8.cell b182
     replace b183 := Lw8.cell b183
     replace b184 := Lw8.cell b184
     replace b210 := Lw8.cell b210
     replace b211 := Lw8.cell b211
     replace b212 := Lw8.cell b212
     replace e240 := Lw8.cell e240
     replace b470 := Lw8.cell b470
     replace b471 := Lw8.cell b471
     replace b472 := Lw8.cell b472
     replace f_b470 := Lw8.frz z_b47 f_b470
     replace f_b471 := Lw8.frz z_b47 f_b471
     replace f_b472 := Lw8.frz z_b47 f_b472
     have z_b10 : w1.heap.size < w8.heap.size := qB b100
     have z_b11 : w1.heap.size + 1 < w8.heap.size := qB b110
     have z_b14 : w2.heap.size < w8.heap.size := qB b140
     have z_b17 : w3.heap.size < w8.heap.size := qB b170
     have z_b18 : w4.heap.size < w8.heap.size := qB b180
     have z_b21 : w5.heap.size < w8.heap.size := qB b210
     have z_e24 : bl22 < w8.heap.size := qB e240
     have z_b47 : w6.heap.size < w8.heap.size := qB b470
     replace i1 := i1.ext Lw8
     replace i2 := i2.ext Lw8
     replace i13u := i13u.ext Lw8
     replace i13v := i13v.ext Lw8
     replace i16u := i16u.ext Lw8
     replace i16v := i16v.ext Lw8
     replace i20u := i20u.ext Lw8
     replace i20v := i20v.ext Lw8
     have s_w8 : w.heap.size ≤ w8.heap.size := Xw8.size
     have BD10_w8 : Ext w6 w8 := BD10_w7.trans Lw8
     have BL44_w8 : Ext w6 w8 := BL44_w7.trans Lw8
     have BL46_w8 : Ext w6 w8 := BL46_w7.trans Lw8
     clear xw8
     try simp only [World.size_alloc, World.size_drew] at i49u
     try simp only [World.size_alloc, World.size_drew] at i49v
     obtain ⟨afv48u, cfv48u, rfl⟩ := i49u.form
     obtain ⟨afv48v, cfv48v, rfl⟩ := i49v.form
     have zD_w8 := (BD10_w8).size
     refine hK.out _ _ ⟨b100, b101, b102, b110, b111, b112, b113, b114, b140, b141, b142, b170, b171, b172, b180, b181, b182, b183, b184, b210, b211, b212, e240⟩ (fun hHeld => ?_)
     clear hK K
     try simp only [Act.put, qa, qb, qc, qD, qE, qF]
     refine qHk (v := ?_) 11 rfl (.inl ⟨by rfl, ?_⟩) ?_
     rotate_left
     ·
      (intro w hSw; (try dsimp only at hSw); go_simp; try with_reducible rfl)
     try simp only [Act.put, qa, qb, qc, qD, qE, qF]
     refine qHk (v := ?_) 12 rfl (.inl ⟨by rfl, ?_⟩) ?_
     rotate_left
     ·
      (intro w hSw; (try dsimp only at hSw); go_simp; try with_reducible rfl)
     try simp only [Act.put, qa, qb, qc, qD, qE, qF]
     refine qHk (v := ?_) 13 rfl (.inl ⟨by rfl, ?_⟩) ?_
     rotate_left
     ·
      (intro w hSw; (try dsimp only at hSw); go_simp; try with_reducible rfl)
     try simp only [Act.put, qa, qb, qc, qD, qE, qF]
     refine qHr 15 rfl (fun K hK => ?_)
     try simp only [Act.put, qa, qb, qc, qD, qE, qF]
     go_simp
     generalize hW4 : (((w8.setCell ⟨w6.heap.size, 0, none⟩ (.int .i64 QB)).setCell ⟨w6.heap.size, 1, none⟩ (.slice afv48u QS.length cfv48u)).setCell ⟨w6.heap.size, 2, none⟩ (.slice afv48v QT.length cfv48v)) = w9 at *
     have Kw9 : Chg (w6.heap.size) (w6.heap.size + 1) w8 w9 := by subst hW4; exact qCh
     have Xw9 : Ext w w9 := by subst hW4; exact qXt
     have BD10_w9 : Ext w6 w9 := by subst hW4; exact qXt
     have BL44_w9 : Ext w6 w9 := by subst hW4; exact qXt
     replace b100 := BL44_w9.cell Q43_b100.out
     replace b101 := BL44_w9.cell Q43_b101.out
     replace b102 := BL44_w9.cell Q43_b102.out
     replace b110 := BL44_w9.cell Q43_b110.out
     replace b111 := BL44_w9.cell Q43_b111.out
     replace b112 := BL44_w9.cell Q43_b112.out
     replace b113 := BL44_w9.cell Q43_b113.out
     replace b114 := BL44_w9.cell Q43_b114.out
     replace b140 := BL44_w9.cell Q43_b140.out
     replace b141 := BL44_w9.cell Q43_b141.out
     replace b142 := BL44_w9.cell Q43_b142.out
     replace b170 := BL44_w9.cell Q43_b170.out
     replace b171 := BL44_w9.cell Q43_b171.out
     replace b172 := BL44_w9.cell Q43_b172.out
     replace b180 := BL44_w9.cell Q43_b180.out
     replace b181 := BL44_w9.cell Q43_b181.out
     replace b182 := BL44_w9.cell Q43_b182.out
     replace b183 := BL44_w9.cell Q43_b183.out
     replace b184 := BL44_w9.cell Q43_b184.out
     replace b210 := BL44_w9.cell Q43_b210.out
     replace b211 := BL44_w9.cell Q43_b211.out
     replace b212 := BL44_w9.cell Q43_b212.out
     replace e240 := BL44_w9.cell Q43_e240.out
     replace b470 : w9.cell? ⟨w6.heap.size, 0, none⟩ = some (.int .i64 QB) := by subst hW4; go_simp
     replace f_b470 : w9.frozen? ⟨w6.heap.size, 0, none⟩ = false := by subst hW4; first | (simp only [World.frozen?_setCell]; with_reducible assumption) | go_simp
     replace b471 : w9.cell? ⟨w6.heap.size, 1, none⟩ = some (.slice afv48u QS.length cfv48u) := by subst hW4; go_simp
     replace f_b471 : w9.frozen? ⟨w6.heap.size, 1, none⟩ = false := by subst hW4; first | (simp only [World.frozen?_setCell]; with_reducible assumption) | go_simp
     replace b472 : w9.cell? ⟨w6.heap.size, 2, none⟩ = some (.slice afv48v QT.length cfv48v) := by subst hW4; go_simp
     replace f_b472 : w9.frozen? ⟨w6.heap.size, 2, none⟩ = false := by subst hW4; first | (simp only [World.frozen?_setCell]; with_reducible assumption) | go_simp
     replace i1 := (Q43_i1.out).ext BL44_w9
     replace i2 := (Q43_i2.out).ext BL44_w9
     replace i13u := (Q43_i13u.out).ext BL44_w9
     replace i13v := (Q43_i13v.out).ext BL44_w9
     replace i16u := (Q43_i16u.out).ext BL44_w9
     replace i16v := (Q43_i16v.out).ext BL44_w9
     replace i20u := (Q43_i20u.out).ext BL44_w9
     replace i20v := (Q43_i20v.out).ext BL44_w9
     replace i49u := i49u.chg Kw9 (by omega)
     replace i49v := i49v.chg Kw9 (by omega)
     clear Kw9
     have z_b10 : w1.heap.size < w9.heap.size := qB b100
     have z_b11 : w1.heap.size + 1 < w9.heap.size := qB b110
     have z_b14 : w2.heap.size < w9.heap.size := qB b140
     have z_b17 : w3.heap.size < w9.heap.size := qB b170
     have z_b18 : w4.heap.size < w9.heap.size := qB b180
     have z_b21 : w5.heap.size < w9.heap.size := qB b210
     have z_e24 : bl22 < w9.heap.size := qB e240
     have z_b47 : w6.heap.size < w9.heap.size := qB b470
     have s_w9 : w.heap.size ≤ w9.heap.size := Xw9.size
     clear hW4
     refine hK.out _ _ ⟨b100, b101, b102, b110, b111, b112, b113, b114, b140, b141, b142, b170, b171, b172, b180, b181, b182, b183, b184, b210, b211, b212, e240⟩ (fun hHeld => ?_)
     clear hK K
     try simp only [Act.put, qa, qb, qc, qD, qE, qF]
     refine qHk (v := ?_) 16 rfl (.inl ⟨by rfl, ?_⟩) ?_
     rotate_left
     ·
      (intro w hSw; (try dsimp only at hSw); go_simp; try with_reducible rfl)
     try simp only [Act.put, qa, qb, qc, qD, qE, qF]
     refine wpAnyH_done qKr ?_ _
     clear hHeld
     go_step
     go_step
     go_meet
     case rel => exact ⟨_, _, _, _, _, rfl, rfl, BD10_w9, (by omega), b470, b471, b472, f_b470, f_b471, f_b472, i49u.lower (by omega), i49v.lower (by omega)⟩
   case rest =>
    generalize wc = wc51 at hcut ⊢
    obtain ⟨g52, af56, cf57, af58, cf59, rfl, rfl, xx53, hg_b50, b500, b501, b502, f_b500, f_b501, f_b502, i54, i55⟩ := hcut
    have Lwc51 : Ext w6 wc51 := Ext.trans qXt xx53
    have Xwc51 : Ext w wc51 := Xw6.trans Lwc51
    replace b100 := Lwc51.cell b100
    replace b101 := Lwc51.cell b101
    replace b102 := Lwc51.cell b102
    replace b110 := Lwc51.cell b110
    replace b111 := Lwc51.cell b111
    replace b112 := Lwc51.cell b112
    replace b113 := Lwc51.cell b113
    replace b114 := Lwc51.cell b114
    replace b140 := Lwc51.cell b140
    replace b141 := Lwc51.cell b141
    replace b142 := Lwc51.cell b142
    replace b170 := Lwc51.cell b170
    replace b171 := Lwc51.cell b171
    replace b172 := Lwc51.cell b172
    replace b180 := Lwc51.cell b180
    replace b181 := Lwc51.cell b181
    replace b182 := Lwc51.cell b182
    replace b183 := Lwc51.cell b183
    replace b184 := Lwc51.cell b184
    replace b210 := Lwc51.cell b210
    replace b211 := Lwc51.cell b211
    replace b212 := Lwc51.cell b212
    replace e240 := Lwc51.cell e240
    have z_b10 : w1.heap.size < wc51.heap.size := qB b100
    have z_b11 : w1.heap.size + 1 < wc51.heap.size := qB b110
    have z_b14 : w2.heap.size < wc51.heap.size := qB b140
    have z_b17 : w3.heap.size < wc51.heap.size := qB b170
    have z_b18 : w4.heap.size < wc51.heap.size := qB b180
    have z_b21 : w5.heap.size < wc51.heap.size := qB b210
    have z_e24 : bl22 < wc51.heap.size := qB e240
    replace i1 := i1.ext Lwc51
    replace i2 := i2.ext Lwc51
    replace i13u := i13u.ext Lwc51
    replace i13v := i13v.ext Lwc51
    replace i16u := i16u.ext Lwc51
    replace i16v := i16v.ext Lwc51
    replace i20u := i20u.ext Lwc51
    replace i20v := i20v.ext Lwc51
    have s_wc51 : w.heap.size ≤ wc51.heap.size := Xwc51.size
    clear xx53
    have z_b50 : g52 < wc51.heap.size := qB b500
    go_wp2_with fail
    refine (implSameView_c QB (.slice af56 QS.length cf57) (.slice af58 QT.length cf59) QS QT QB (.slice afv19u QS.length cfv19u) (.slice afv19v QT.length cfv19v) QS QT _ _ _ (i54.ext qXt) (i55.ext qXt) _ _ (i20u.ext qXt) (i20v.ext qXt)).mono ?_
    rintro e w7 ⟨rfl, xw7⟩
    have Lw7 : Ext wc51 w7 := Ext.trans qXt xw7
    have Xw7 : Ext w w7 := Xwc51.trans Lw7
    replace b100 := Lw7.cell b100
    replace b101 := Lw7.cell b101
    replace b102 := Lw7.cell b102
    replace b110 := Lw7.cell b110
    replace b111 := Lw7.cell b111
    replace b112 := Lw7.cell b112
    replace b113 := Lw7.cell b113
    replace b114 := Lw7.cell b114
    replace b140 := Lw7.cell b140
    replace b141 := Lw7.cell b141
    replace b142 := Lw7.cell b142
    replace b170 := Lw7.cell b170
    replace b171 := Lw7.cell b171
    replace b172 := Lw7.cell b172
    replace b180 := Lw7.cell b180
    replace b181 := Lw7.cell b181
    replace b182 := Lw7.cell b182
    replace b183 := Lw7.cell b183
    replace b184 := Lw7.cell b184
    replace b210 := Lw7.cell b210
    replace b211 := Lw7.cell b211
    replace b212 := Lw7.cell b212
    replace e240 := Lw7.cell e240
    replace b500 := Lw7.cell b500
    replace b501 := Lw7.cell b501
    replace b502 := Lw7.cell b502
    replace f_b500 := Lw7.frz z_b50 f_b500
    replace f_b501 := Lw7.frz z_b50 f_b501
    replace f_b502 := Lw7.frz z_b50 f_b502
    have z_b10 : w1.heap.size < w7.heap.size := qB b100
    have z_b11 : w1.heap.size + 1 < w7.heap.size := qB b110
    have z_b14 : w2.heap.size < w7.heap.size := qB b140
    have z_b17 : w3.heap.size < w7.heap.size := qB b170
    have z_b18 : w4.heap.size < w7.heap.size := qB b180
    have z_b21 : w5.heap.size < w7.heap.size := qB b210
    have z_e24 : bl22 < w7.heap.size := qB e240
    have z_b50 : g52 < w7.heap.size := qB b500
    replace i1 := i1.ext Lw7
    replace i2 := i2.ext Lw7
    replace i13u := i13u.ext Lw7
    replace i13v := i13v.ext Lw7
    replace i16u := i16u.ext Lw7
    replace i16v := i16v.ext Lw7
    replace i20u := i20u.ext Lw7
    replace i20v := i20v.ext Lw7
    replace i54 := i54.ext Lw7
    replace i55 := i55.ext Lw7
    have s_w7 : w.heap.size ≤ w7.heap.size := Xw7.size
    clear xw7
    rw [hq3.out]
    go_wp2_with fail
    go_ret
    exact ⟨rfl, (Xw7.trans qXt)⟩


end Go.Proofs.Ytonnnjaooifpjaa

/- The law FnSliceDimTwice holds for all bytes: the call returns true, and its argument reads as it did. No condition. -/
namespace Go.Proofs.Ytonnnjaooifpjaa.rowFnSliceDimTwice
open Go.ChangeShapes Go.WideShapes Go.ChangeAt Go.RowKit
set_option linter.unusedVariables false

set_option maxHeartbeats 1000000 in
set_option maxRecDepth 100000 in
theorem lifted (os : Os) (started : os.Started) (H : Type) (enc : TypeId × Value → H) :
    ReturnsInHanded {} Try.checked os 9 .any (Rows.fnSliceDimTwiceSpec.pre6 enc Try.prog Try.f9 Rows.fnSliceDimTwiceRow.domain false) (Rows.fnSliceDimTwiceSpec.post enc Try.prog Try.f9 false true false false) := by
  refine returnsInHanded_of_change (C := Try.checked) own started qKr Try.func9
    (ChangeSpec.witness6 (enc := enc) (C := Try.checked) false ⟨#[], #[.slice none 0 0], []⟩ 8 qKr qKr qKr qKr) ?_
  intro W base args ds gs before hval0 hW hcnd _
  have hval : ∀ (j : Nat) t v, Try.f9.params[j]? = some t → args[j]? = some v → Value.okWide Try.prog W .any base t v := hval0
  have hW' := hW
  obtain ⟨p, q, hA0, hV, rfl, hfz, hnd⟩ := hW
  have hA : DataW.TrodAll enc Try.prog W 0 (fun _ => true) true Try.f9.params.toList args.toList ds p := hA0
  rw [Try.params9] at hA hval
  obtain ⟨v0, vs0, d0, ds0, p0, q0, hargs0, rfl, rfl, h0, r0⟩ := trodAll_cons hA
  obtain ⟨rfl, rfl, rfl⟩ := trodAll_nil r0
  obtain rfl : args = #[v0] := by cases args; simp_all
  obtain ⟨rfl, rfl⟩ := trodVars_none hV
  obtain ⟨a0, len0, cap0, rfl⟩ := okWide_slice Try.underlying22 (hval 0 22 v0 rfl rfl)
  have k0 := h0
  have lt0 : ∀ x ∈ p0, x.block < W.heap.size := by obtain ⟨m, hm⟩ := k0; exact DataW.trod_lt m _ _ _ hm
  have w0 : BysIn W a0 len0 cap0 := by
    obtain ⟨fuel, hf⟩ := h0
    rcases open_ints Try.underlying22 Try.underlying5 qKr hf with ⟨hcs, _⟩ | ⟨x, l, c, zs, hcs, _, hl, hm, hz, _, hcell, hwz⟩
    · simp [Value.cells] at hcs
      obtain ⟨rfl, rfl, rfl⟩ := hcs
      exact ⟨Nat.le_refl _, by simp, fun i hi => absurd hi (by simp)⟩
    · simp [Value.cells] at hcs
      obtain ⟨rfl, rfl, rfl⟩ := hcs
      have hzl : zs.length = cap0 := by simpa using hz
      exact bys_of_cells hl hm hzl hcell hwz
  clear hA0 hval0
  refine (lawFnSliceDimTwice_c a0 len0 cap0 W w0).mono fun e W' ⟨he, bel⟩ => ?_
  subst he
  exact ⟨_, rfl, _, _, _, [], _, [], hW', trodAll_mk1 (shut_bool Try.underlying4 _), (trodAll_cons_mk (Below.trod laidOut qKr (of_decide_eq_true qKr) k0 bel lt0) trodAll_mk0), rfl, Below.frame bel _, fun h => by cases h⟩

set_option maxHeartbeats 2000000 in
theorem closed : joinedFacts Try.checked.prog 9 Try.f9 Rows.fnSliceDimTwiceSpec Rows.fnSliceDimTwiceRow = true :=
  facts.all qKr qKr qKr qKr qKr (by as_aux_lemma => kernel_rfl) (by as_aux_lemma => kernel_rfl) (by as_aux_lemma => kernel_rfl) (by as_aux_lemma => kernel_rfl)
    (by as_aux_lemma => kernel_rfl) (by as_aux_lemma => kernel_rfl) rfl rfl rfl rfl qKr qKr (by as_aux_lemma => kernel_rfl) (by as_aux_lemma => kernel_rfl)

theorem named : Try.pinned.checked.prog.funcNamed Rows.fnSliceDimTwiceRow.func = some 9 := by kernel_rfl

theorem over : Rows.fnSliceDimTwiceRow.holds Try.pinned (OpenSpec.ofChange Rows.fnSliceDimTwiceSpec) :=
  OpenClaim.holds_of_wide 9 Try.f9 rfl rfl rfl rfl rfl rfl rfl ⟨rfl, rfl, rfl, rfl, rfl⟩ rfl rfl rfl rfl rfl named Try.func9 closed
    (of_decide_eq_true qKr) (by unfold Func.isWrapper; exact ⟨rfl, rfl⟩)
    (fun os started H enc _ => lifted os started H enc)

theorem proved : Rows.FnSliceDimTwiceSaid := over

end Go.Proofs.Ytonnnjaooifpjaa.rowFnSliceDimTwice
