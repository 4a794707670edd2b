/- Texts of these proofs put together: BufF, BufU, BufV, BufG, BufQ, BufW, SvL, SvK, SvM, BufI, CpyA, BufL, BufT, LawResizeBuffer, RowResizeBuffer. No condition. -/
import Derived.Test.YtfbbnbpobojboaaD1RowResizeBuffer
import Derived.Test.YtfbbnbpobojboaaM1
import Derived.Laws.CopyOwn
set_option linter.unusedVariables false
set_option linter.unusedSimpArgs false
/- Walks: copies of buffers. -/
namespace Go.Proofs.Ytfbbnbpobojboaa
open Go.RowKit
set_option linter.unusedVariables false
set_option maxRecDepth 100000

set_option maxHeartbeats 3200000 in
theorem implCopyBuffer_c (cells : List Int) (es : List Exp) (cv ev : Value) (w : World) (l1 l2 : Nat) (h1 : Ints w l1 cv cells) (h2 : Exps w l2 ev es) :
  Calls Try.prog 85 #[.agg #[cv, ev]] w (PBuf w cells es) := by
 obtain ⟨p0, c0, rfl⟩ := h1.form
 obtain ⟨p1, c1, rfl⟩ := h2.form
 have he1 := h2.len
 have hc1 := h1.len
 go_enter Try.func85, Try.ntmps85
 go_upto_region 1 with fail
 generalize hW1 : (w.alloc (.cells #[.slice p0 cells.length c0, .slice p1 es.length c1] 32)).alloc (.cells #[.slice none 0 0, .slice none 0 0] 32) = w1 at *
 have Lw1 : Ext w w1 := by subst hW1; exact qXt
 have Xw1 : Ext w w1 := by subst hW1; exact Lw1
 have b10 : w1.cell? ⟨w.heap.size, 0, none⟩ = some (.slice p0 cells.length c0) := by subst hW1; exact qCl
 have b11 : w1.cell? ⟨w.heap.size, 1, none⟩ = some (.slice p1 es.length c1) := by subst hW1; exact qCl
 have b20 : w1.cell? ⟨w.heap.size + 1, 0, none⟩ = some (.slice none 0 0) := by subst hW1; exact qCl
 have b21 : w1.cell? ⟨w.heap.size + 1, 1, none⟩ = some (.slice none 0 0) := by subst hW1; exact qCl
 have f_b20 : w1.frozen? ⟨w.heap.size + 1, 0, none⟩ = false := by subst hW1; exact qFz
 have f_b21 : w1.frozen? ⟨w.heap.size + 1, 1, none⟩ = false := by subst hW1; exact qFz
 have z_b1 : w.heap.size < w1.heap.size := qB b10
 have z_b2 : w.heap.size + 1 < w1.heap.size := qB b20
 have s_w1 : w.heap.size ≤ w1.heap.size := Xw1.size
 clear hW1
 have Q7_b10 := Lib.hid b10
 have Q7_b11 := Lib.hid b11
 have Q7_zb1 := z_b1
 have Q7_b20 := Lib.hid b20
 have Q7_f_b20 := Lib.hid f_b20
 have Q7_b21 := Lib.hid b21
 have Q7_f_b21 := Lib.hid f_b21
 have Q7_zb2 := z_b2
 have BL8 : Ext w1 w1 := Ext.refl _
 have hln3 : cells.length ≤ 4194304 := ((h1.ext Xw1)).len
 go_wp2_with (at_builtin; refine wpList_app0O rfl (.tmp 6) (.tmp 8) rfl rfl rfl (OwnI.lit0 (w1) w1.heap.size (by simp)) (by simp) ((h1.ext Xw1).ext qXt) ?_)
 intro gr5 rr6 w2 O4 xw2 hg7 Ggr5'
 replace xw2 : Ext w1 w2 := Ext.trans qXt xw2
 have Ggr5 : w1.heap.size ≤ gr5 := by (try simp only [World.size_alloc, World.size_drew] at hg7); omega
 clear hg7
 have Lw2 : Ext w1 w2 := Ext.trans qXt xw2
 have Xw2 : Ext w w2 := Xw1.trans Lw2
 replace b10 := Lw2.cell b10
 replace b11 := Lw2.cell b11
 replace b20 := Lw2.cell b20
 replace b21 := Lw2.cell b21
 replace f_b20 := Lw2.frz z_b2 f_b20
 replace f_b21 := Lw2.frz z_b2 f_b21
 have z_b1 : w.heap.size < w2.heap.size := qB b10
 have z_b2 : w.heap.size + 1 < w2.heap.size := qB b20
 have s_w2 : w.heap.size ≤ w2.heap.size := Xw2.size
 have BL8_w2 : Ext w1 w2 := BL8.trans Lw2
 clear xw2
 have Q9_b10 := Lib.hid b10
 have Q9_b11 := Lib.hid b11
 have Q9_zb1 := z_b1
 have Q9_b20 := Lib.hid b20
 have Q9_f_b20 := Lib.hid f_b20
 have Q9_b21 := Lib.hid b21
 have Q9_f_b21 := Lib.hid f_b21
 have Q9_zb2 := z_b2
 have Q9_O4 := Lib.hid O4
 have BL10 : Ext w2 w2 := Ext.refl _
 go_wp2_with fail
 generalize hW2 : w2.alloc (.cells #[.slice (some ⟨gr5, 0, none⟩) cells.length rr6, .slice none 0 0] 32) = w3 at *
 have Lw3 : Ext w2 w3 := by subst hW2; exact qXt
 have Xw3 : Ext w w3 := Xw2.trans Lw3
 replace b10 := Lw3.cell b10
 replace b11 := Lw3.cell b11
 replace b20 := Lw3.cell b20
 replace b21 := Lw3.cell b21
 replace f_b20 := Lw3.frz z_b2 f_b20
 replace f_b21 := Lw3.frz z_b2 f_b21
 have b110 : w3.cell? ⟨w2.heap.size, 0, none⟩ = some (.slice (some ⟨gr5, 0, none⟩) cells.length rr6) := by subst hW2; exact qCl
 have b111 : w3.cell? ⟨w2.heap.size, 1, none⟩ = some (.slice none 0 0) := by subst hW2; exact qCl
 have f_b110 : w3.frozen? ⟨w2.heap.size, 0, none⟩ = false := by subst hW2; exact qFz
 have f_b111 : w3.frozen? ⟨w2.heap.size, 1, none⟩ = false := by subst hW2; exact qFz
 have z_b1 : w.heap.size < w3.heap.size := qB b10
 have z_b2 : w.heap.size + 1 < w3.heap.size := qB b20
 have z_b11 : w2.heap.size < w3.heap.size := qB b110
 replace O4 := O4.ext Lw3
 have s_w3 : w.heap.size ≤ w3.heap.size := Xw3.size
 have BL8_w3 : Ext w1 w3 := BL8_w2.trans Lw3
 have BL10_w3 : Ext w2 w3 := BL10.trans Lw3
 have q_w3 : w3.heap.size ≤ w2.heap.size + 1 := by subst hW2; simp
 clear hW2
 have yE_b1 := z_b1
 have yE_b2 := z_b2
 have yE_b11 := z_b11
 go_loopw [14] (fun i wr => ∃ (k : Nat) (gv : Value) (R : Nat → Value), k ≤ es.length ∧ i = .int .i64 k ∧ ExpR wr w3.heap.size gv (es.take k) R ∧ Ext w wr ∧ OwnI wr w.heap.size (.slice (some ⟨gr5, 0, none⟩) cells.length rr6) cells ∧ wr.cell? ⟨w.heap.size, 0, none⟩ = some (.slice p0 cells.length c0) ∧ wr.cell? ⟨w.heap.size, 1, none⟩ = some (.slice p1 es.length c1) ∧ wr.cell? ⟨w.heap.size + 1, 0, none⟩ = some (.slice none 0 0) ∧ wr.cell? ⟨w.heap.size + 1, 1, none⟩ = some (.slice none 0 0) ∧ wr.frozen? ⟨w.heap.size + 1, 0, none⟩ = false ∧ wr.frozen? ⟨w.heap.size + 1, 1, none⟩ = false ∧ wr.cell? ⟨w2.heap.size, 0, none⟩ = some (.slice (some ⟨gr5, 0, none⟩) cells.length rr6) ∧ wr.cell? ⟨w2.heap.size, 1, none⟩ = some (gv) ∧ wr.frozen? ⟨w2.heap.size, 0, none⟩ = false ∧ wr.frozen? ⟨w2.heap.size, 1, none⟩ = false) (fun i _ => es.length - (intOf i).toNat)
 case atStart => exact ⟨0, _, fun _ => .slice none 0 0, Nat.zero_le _, rfl, ExpR.nil _ _ _, (Xw3.trans qXt), O4.lower (by omega), b10, b11, b20, b21, f_b20, f_b21, b110, b111, f_b110, f_b111⟩
 case round =>
  clear O4
  obtain ⟨k, gv, R, hk, rfl, hE, Xr, O4, b10, b11, b20, b21, f_b20, f_b21, b110, b111, f_b110, f_b111⟩ := hrel
  have z_b1 : w.heap.size < wr.heap.size := qB b10
  have z_b2 : w.heap.size + 1 < wr.heap.size := qB b20
  have z_b11 : w2.heap.size < wr.heap.size := qB b110
  obtain ⟨ga, gc, hgv⟩ := hE.len
  rw [List.length_take, Nat.min_eq_left hk] at hgv
  subst hgv
  have s_wr : w.heap.size ≤ wr.heap.size := Xr.size
  have hBr : w3.heap.size ≤ wr.heap.size := by omega
  by_cases hlt : k < es.length
  ·
   have hkI : (k : Int) < es.length := by omega
   have hN_x12 : k < es.length := (by omega)
   have hI_x12 : (k : Int) < (es.length : Int) := by omega
   obtain ⟨bl25, ol26, u19, c20, u21, c22, rfl, x120, x121, x122, x123, x124, i23, i24⟩ := (h2.ext Xr).at k hN_x12
   obtain ⟨X18, hX18⟩ : ∃ x, expAt es k = x := ⟨_, rfl⟩
   rw [hX18] at x120 x121 x122 x123 x124 i23 i24
   obtain ⟨P13, B14, S15, T16, O17⟩ := X18
   dsimp only at x120 x121 x122 x123 x124 i23 i24
   replace hX18 := Lib.hid hX18
   have hLS15 := i23.len
   have hLT16 := i24.len
   have z_x12 : bl25 < wr.heap.size := qB x120
   have Q27_b10 := Lib.hid b10
   have Q27_b11 := Lib.hid b11
   have Q27_zb1 := z_b1
   have Q27_b20 := Lib.hid b20
   have Q27_f_b20 := Lib.hid f_b20
   have Q27_b21 := Lib.hid b21
   have Q27_f_b21 := Lib.hid f_b21
   have Q27_zb2 := z_b2
   have Q27_b110 := Lib.hid b110
   have Q27_f_b110 := Lib.hid f_b110
   have Q27_b111 := Lib.hid b111
   have Q27_f_b111 := Lib.hid f_b111
   have Q27_zb11 := z_b11
   have Q27_x120 := Lib.hid x120
   have Q27_x121 := Lib.hid x121
   have Q27_x122 := Lib.hid x122
   have Q27_x123 := Lib.hid x123
   have Q27_x124 := Lib.hid x124
   have Q27_zx12 := z_x12
   have Q27_hE := Lib.hid hE
   have Q27_O4 := Lib.hid O4
   have Q27_i23 := Lib.hid i23
   have Q27_i24 := Lib.hid i24
   have BL28 : Ext wr wr := Ext.refl _
   go_upto_region 5 with fail
   generalize hW3 : wr.alloc (.cells #[.int .i64 P13, .int .i64 B14, .slice u19 S15.length c20, .slice u21 T16.length c22, .bool O17] 89) = w4 at *
   have Lw4 : Ext wr w4 := by subst hW3; exact qXt
   have Xw4 : Ext w w4 := Xr.trans Lw4
   replace b10 := Lw4.cell b10
   replace b11 := Lw4.cell b11
   replace b20 := Lw4.cell b20
   replace b21 := Lw4.cell b21
   replace f_b20 := Lw4.frz z_b2 f_b20
   replace f_b21 := Lw4.frz z_b2 f_b21
   replace b110 := Lw4.cell b110
   replace b111 := Lw4.cell b111
   replace f_b110 := Lw4.frz z_b11 f_b110
   replace f_b111 := Lw4.frz z_b11 f_b111
   replace x120 := Lw4.cell x120
   replace x121 := Lw4.cell x121
   replace x122 := Lw4.cell x122
   replace x123 := Lw4.cell x123
   replace x124 := Lw4.cell x124
   have b290 : w4.cell? ⟨wr.heap.size, 0, none⟩ = some (.int .i64 P13) := by subst hW3; exact qCl
   have b291 : w4.cell? ⟨wr.heap.size, 1, none⟩ = some (.int .i64 B14) := by subst hW3; exact qCl
   have b292 : w4.cell? ⟨wr.heap.size, 2, none⟩ = some (.slice u19 S15.length c20) := by subst hW3; exact qCl
   have b293 : w4.cell? ⟨wr.heap.size, 3, none⟩ = some (.slice u21 T16.length c22) := by subst hW3; exact qCl
   have b294 : w4.cell? ⟨wr.heap.size, 4, none⟩ = some (.bool O17) := by subst hW3; exact qCl
   have f_b290 : w4.frozen? ⟨wr.heap.size, 0, none⟩ = false := by subst hW3; exact qFz
   have f_b291 : w4.frozen? ⟨wr.heap.size, 1, none⟩ = false := by subst hW3; exact qFz
   have f_b292 : w4.frozen? ⟨wr.heap.size, 2, none⟩ = false := by subst hW3; exact qFz
   have f_b293 : w4.frozen? ⟨wr.heap.size, 3, none⟩ = false := by subst hW3; exact qFz
   have f_b294 : w4.frozen? ⟨wr.heap.size, 4, none⟩ = false := by subst hW3; exact qFz
   have z_b1 : w.heap.size < w4.heap.size := qB b10
   have z_b2 : w.heap.size + 1 < w4.heap.size := qB b20
   have z_b11 : w2.heap.size < w4.heap.size := qB b110
   have z_x12 : bl25 < w4.heap.size := qB x120
   have z_b29 : wr.heap.size < w4.heap.size := qB b290
   replace hE := hE.ext Lw4
   replace O4 := O4.ext Lw4
   replace i23 := i23.ext Lw4
   replace i24 := i24.ext Lw4
   have s_w4 : w.heap.size ≤ w4.heap.size := Xw4.size
   have BL28_w4 : Ext wr w4 := BL28.trans Lw4
   clear hW3
   go_wp2_with fail
   have Q36_b10 := Lib.hid b10
   have Q36_b11 := Lib.hid b11
   have Q36_zb1 := z_b1
   have Q36_b20 := Lib.hid b20
   have Q36_f_b20 := Lib.hid f_b20
   have Q36_b21 := Lib.hid b21
   have Q36_f_b21 := Lib.hid f_b21
   have Q36_zb2 := z_b2
   have Q36_b110 := Lib.hid b110
   have Q36_f_b110 := Lib.hid f_b110
   have Q36_b111 := Lib.hid b111
   have Q36_f_b111 := Lib.hid f_b111
   have Q36_zb11 := z_b11
   have Q36_x120 := Lib.hid x120
   have Q36_x121 := Lib.hid x121
   have Q36_x122 := Lib.hid x122
   have Q36_x123 := Lib.hid x123
   have Q36_x124 := Lib.hid x124
   have Q36_zx12 := z_x12
   have Q36_b290 := Lib.hid b290
   have Q36_f_b290 := Lib.hid f_b290
   have Q36_b291 := Lib.hid b291
   have Q36_f_b291 := Lib.hid f_b291
   have Q36_b292 := Lib.hid b292
   have Q36_f_b292 := Lib.hid f_b292
   have Q36_b293 := Lib.hid b293
   have Q36_f_b293 := Lib.hid f_b293
   have Q36_b294 := Lib.hid b294
   have Q36_f_b294 := Lib.hid f_b294
   have Q36_zb29 := z_b29
   have Q36_hE := Lib.hid hE
   have Q36_O4 := Lib.hid O4
   have Q36_i23 := Lib.hid i23
   have Q36_i24 := Lib.hid i24
   have BL37 : Ext w4 w4 := Ext.refl _
   refine (copyViewO_c B14 (.slice u19 S15.length c20) (.slice u21 T16.length c22) S15 T16 _ _ _ (i23.ext qXt) (i24.ext qXt)).mono ?_
   rintro e w5 ⟨gr30, gr31, rr32, rr33, rfl, O34, O35, Ggr30, Ggr30', Ggr31, Ggr31', hggr30, xw5⟩
   have Lw5 : Ext w4 w5 := Ext.trans qXt xw5
   have Xw5 : Ext w w5 := Xw4.trans Lw5
   replace b10 := Lw5.cell b10
   replace b11 := Lw5.cell b11
   replace b20 := Lw5.cell b20
   replace b21 := Lw5.cell b21
   replace f_b20 := Lw5.frz z_b2 f_b20
   replace f_b21 := Lw5.frz z_b2 f_b21
   replace b110 := Lw5.cell b110
   replace b111 := Lw5.cell b111
   replace f_b110 := Lw5.frz z_b11 f_b110
   replace f_b111 := Lw5.frz z_b11 f_b111
   replace x120 := Lw5.cell x120
   replace x121 := Lw5.cell x121
   replace x122 := Lw5.cell x122
   replace x123 := Lw5.cell x123
   replace x124 := Lw5.cell x124
   replace b290 := Lw5.cell b290
   replace b291 := Lw5.cell b291
   replace b292 := Lw5.cell b292
   replace b293 := Lw5.cell b293
   replace b294 := Lw5.cell b294
   replace f_b290 := Lw5.frz z_b29 f_b290
   replace f_b291 := Lw5.frz z_b29 f_b291
   replace f_b292 := Lw5.frz z_b29 f_b292
   replace f_b293 := Lw5.frz z_b29 f_b293
   replace f_b294 := Lw5.frz z_b29 f_b294
   have z_b1 : w.heap.size < w5.heap.size := qB b10
   have z_b2 : w.heap.size + 1 < w5.heap.size := qB b20
   have z_b11 : w2.heap.size < w5.heap.size := qB b110
   have z_x12 : bl25 < w5.heap.size := qB x120
   have z_b29 : wr.heap.size < w5.heap.size := qB b290
   replace hE := hE.ext Lw5
   replace O4 := O4.ext Lw5
   replace i23 := i23.ext Lw5
   replace i24 := i24.ext Lw5
   have s_w5 : w.heap.size ≤ w5.heap.size := Xw5.size
   have BL28_w5 : Ext wr w5 := BL28_w4.trans Lw5
   have BL37_w5 : Ext w4 w5 := BL37.trans Lw5
   clear xw5
   go_upto_region 6 with fail
   generalize hW4 : (((w5.setCell ⟨wr.heap.size, 1, none⟩ (.int .i64 B14)).setCell ⟨wr.heap.size, 2, none⟩ (.slice (some ⟨gr30, 0, none⟩) S15.length rr32)).setCell ⟨wr.heap.size, 3, none⟩ (.slice (some ⟨gr31, 0, none⟩) T16.length rr33)) = w6 at *
   have Kw6 : Chg (wr.heap.size) (wr.heap.size + 1) w5 w6 := by subst hW4; exact qCh
   have Xw6 : Ext w w6 := by subst hW4; exact qXt
   have BL28_w6 : Ext wr w6 := by subst hW4; exact qXt
   replace b10 := BL28_w6.cell Q27_b10.out
   replace b11 := BL28_w6.cell Q27_b11.out
   replace b20 := BL28_w6.cell Q27_b20.out
   replace f_b20 := BL28_w6.frz Q27_zb2 Q27_f_b20.out
   replace b21 := BL28_w6.cell Q27_b21.out
   replace f_b21 := BL28_w6.frz Q27_zb2 Q27_f_b21.out
   replace b110 := BL28_w6.cell Q27_b110.out
   replace f_b110 := BL28_w6.frz Q27_zb11 Q27_f_b110.out
   replace b111 := BL28_w6.cell Q27_b111.out
   replace f_b111 := BL28_w6.frz Q27_zb11 Q27_f_b111.out
   replace x120 := BL28_w6.cell Q27_x120.out
   replace x121 := BL28_w6.cell Q27_x121.out
   replace x122 := BL28_w6.cell Q27_x122.out
   replace x123 := BL28_w6.cell Q27_x123.out
   replace x124 := BL28_w6.cell Q27_x124.out
   replace b290 : w6.cell? ⟨wr.heap.size, 0, none⟩ = some (.int .i64 P13) := by subst hW4; go_simp
   replace f_b290 : w6.frozen? ⟨wr.heap.size, 0, none⟩ = false := by subst hW4; first | (simp only [World.frozen?_setCell]; with_reducible assumption) | go_simp
   replace b291 : w6.cell? ⟨wr.heap.size, 1, none⟩ = some (.int .i64 B14) := by subst hW4; go_simp
   replace f_b291 : w6.frozen? ⟨wr.heap.size, 1, none⟩ = false := by subst hW4; first | (simp only [World.frozen?_setCell]; with_reducible assumption) | go_simp
   replace b292 : w6.cell? ⟨wr.heap.size, 2, none⟩ = some (.slice (some ⟨gr30, 0, none⟩) S15.length rr32) := by subst hW4; go_simp
   replace f_b292 : w6.frozen? ⟨wr.heap.size, 2, none⟩ = false := by subst hW4; first | (simp only [World.frozen?_setCell]; with_reducible assumption) | go_simp
   replace b293 : w6.cell? ⟨wr.heap.size, 3, none⟩ = some (.slice (some ⟨gr31, 0, none⟩) T16.length rr33) := by subst hW4; go_simp
   replace f_b293 : w6.frozen? ⟨wr.heap.size, 3, none⟩ = false := by subst hW4; first | (simp only [World.frozen?_setCell]; with_reducible assumption) | go_simp
   replace b294 : w6.cell? ⟨wr.heap.size, 4, none⟩ = some (.bool O17) := by subst hW4; go_simp
   replace f_b294 : w6.frozen? ⟨wr.heap.size, 4, none⟩ = false := by subst hW4; first | (simp only [World.frozen?_setCell]; with_reducible assumption) | go_simp
   replace hE := (Q27_hE.out).ext BL28_w6
   replace O4 := O4.chgN Kw6 (by omega)
   replace i23 := (Q27_i23.out).ext BL28_w6
   replace i24 := (Q27_i24.out).ext BL28_w6
   replace O34 := O34.chgN Kw6 (by omega)
   replace O35 := O35.chgN Kw6 (by omega)
   clear Kw6
   have z_b1 : w.heap.size < w6.heap.size := qB b10
   have z_b2 : w.heap.size + 1 < w6.heap.size := qB b20
   have z_b11 : w2.heap.size < w6.heap.size := qB b110
   have z_x12 : bl25 < w6.heap.size := qB x120
   have z_b29 : wr.heap.size < w6.heap.size := qB b290
   have s_w6 : w.heap.size ≤ w6.heap.size := Xw6.size
   clear hW4
   have zBL := (BL28_w6).size
   have EE : Ext w6 (w6.alloc (.cells #[.int .i64 P13, .int .i64 B14, .slice (some ⟨gr30, 0, none⟩) S15.length rr32, .slice (some ⟨gr31, 0, none⟩) T16.length rr33, .bool O17] TEXPORT)) := qXt
   have SS : SrcR (w6.alloc (.cells #[.int .i64 P13, .int .i64 B14, .slice (some ⟨gr30, 0, none⟩) S15.length rr32, .slice (some ⟨gr31, 0, none⟩) T16.length rr33, .bool O17] TEXPORT)) 5 (.slice (some ⟨w6.heap.size, 0, none⟩) 1 1) 1 [.int .i64 P13, .int .i64 B14, .slice (some ⟨gr30, 0, none⟩) S15.length rr32, .slice (some ⟨gr31, 0, none⟩) T16.length rr33, .bool O17] := src_one w6 _ rfl (by intro u hu; simp only [List.mem_cons, List.not_mem_nil, or_false] at hu; rcases hu with rfl | rfl | rfl | rfl | rfl <;> rfl)
   go_wp2_with (
    at_builtin
    refine wpList_appC Try.underlying30 infoExp rfl (by decide) rfl (.tmp 23) (.tmp 25) rfl rfl rfl (hE.row.ext EE) SS (by rw [cellsE_len]; simp; omega) (by rw [cellsE_len]; simp; omega) (by simp <;> omega) ?_
    intro vw7 w7 ho hgr hbl hv
    have hS : ExpR w7 (w3.heap.size) vw7 ((es.take k) ++ [⟨P13, B14, S15, T16, O17⟩]) (extR R (es.take k).length (.slice (some ⟨gr30, 0, none⟩) S15.length rr32) (.slice (some ⟨gr31, 0, none⟩) T16.length rr33)) := ExpR.snoc Q27_hE.out (Ext.trans BL28_w6 EE) ((O34.ext EE).lower (by omega)).z ((O35.ext EE).lower (by omega)).z (by dsimp only; omega) (by dsimp only; omega) (fun _ _ h => by have h9 : gr30 = gr31 := Option.some.inj h; omega) (fun _ g h => by have h9 : gr30 = g := Option.some.inj h; omega) (fun _ g h => by have h9 : gr31 = g := Option.some.inj h; omega) ho hgr hv
    obtain ⟨pa38, pc39, hpv⟩ := hS.len
    rw [List.length_append, List.length_singleton, List.length_take, Nat.min_eq_left hk] at hpv
    subst hpv
    have Xw7 : Ext w w7 := Ext.below (Xw6.trans EE) hbl (by omega)
    clear x120 x121 x122 x123 x124
    clear b290 b291 b292 b293 b294 f_b290 f_b291 f_b292 f_b293 f_b294
    replace b10 := below_cell hbl (by omega) (EE.cell b10)
    replace b11 := below_cell hbl (by omega) (EE.cell b11)
    replace b20 := below_cell hbl (by omega) (EE.cell b20)
    replace f_b20 := below_frz hbl (by omega) (EE.frz z_b2 f_b20)
    replace b21 := below_cell hbl (by omega) (EE.cell b21)
    replace f_b21 := below_frz hbl (by omega) (EE.frz z_b2 f_b21)
    replace b110 := below_cell hbl (by omega) (EE.cell b110)
    replace f_b110 := below_frz hbl (by omega) (EE.frz z_b11 f_b110)
    replace b111 := below_cell hbl (by omega) (EE.cell b111)
    replace f_b111 := below_frz hbl (by omega) (EE.frz z_b11 f_b111)
    have z_b1 : w.heap.size < w7.heap.size := qB b10
    have z_b2 : w.heap.size + 1 < w7.heap.size := qB b20
    have z_b11 : w2.heap.size < w7.heap.size := qB b110
    replace O4 := (O4.ext EE).chgN (Below.chg hbl) (.inl (by omega))
    clear i23
    clear i24
    clear O34
    clear O35
    clear hE
    have hE := hS
    have hzb := hbl.size
    simp only [World.size_alloc] at hzb
    clear ho hbl EE SS hgr hv hS zBL
    have s_w7 : w.heap.size ≤ w7.heap.size := Xw7.size)
   go_upto_region 7 with fail
   generalize hW5 : (w7.setCell ⟨w2.heap.size, 1, none⟩ (.slice pa38 (k + 1) pc39)) = w8 at *
   have Kw8 : Chg (w2.heap.size) (w2.heap.size + 1) w7 w8 := by subst hW5; exact qCh
   have Xw8 : Ext w w8 := by subst hW5; exact qXt
   replace b10 := Kw8.cell (by omega) b10
   replace b11 := Kw8.cell (by omega) b11
   replace b20 := Kw8.cell (by omega) b20
   replace f_b20 := Kw8.frzO (by omega) z_b2 f_b20
   replace b21 := Kw8.cell (by omega) b21
   replace f_b21 := Kw8.frzO (by omega) z_b2 f_b21
   replace b110 : w8.cell? ⟨w2.heap.size, 0, none⟩ = some (.slice (some ⟨gr5, 0, none⟩) cells.length rr6) := by subst hW5; go_simp
   replace f_b110 : w8.frozen? ⟨w2.heap.size, 0, none⟩ = false := by subst hW5; first | (simp only [World.frozen?_setCell]; with_reducible assumption) | go_simp
   replace b111 : w8.cell? ⟨w2.heap.size, 1, none⟩ = some (.slice pa38 (k + 1) pc39) := by subst hW5; go_simp
   replace f_b111 : w8.frozen? ⟨w2.heap.size, 1, none⟩ = false := by subst hW5; first | (simp only [World.frozen?_setCell]; with_reducible assumption) | go_simp
   replace hE := hE.chg Kw8 (by omega)
   replace O4 := O4.chgN Kw8 (by omega)
   clear Kw8
   have z_b1 : w.heap.size < w8.heap.size := qB b10
   have z_b2 : w.heap.size + 1 < w8.heap.size := qB b20
   have z_b11 : w2.heap.size < w8.heap.size := qB b110
   have s_w8 : w.heap.size ≤ w8.heap.size := Xw8.size
   clear hW5
   go_wp2_with fail
   go_roundw
   case rel => exact ⟨k + 1, _, _, by omega, by go_num, (by rw [take_expAt hlt, hX18.out]; exact hE), Xw8, O4, b10, b11, b20, b21, f_b20, f_b21, b110, b111, f_b110, f_b111⟩
   case measure => simp [intOf]; omega
  ·
   obtain rfl : k = es.length := by omega
   have hkI : ¬ (es.length : Int) < es.length := by omega
   go_wp2_with fail
   generalize hW6 : ((wr.setCell ⟨w.heap.size + 1, 0, none⟩ (.slice (some ⟨gr5, 0, none⟩) cells.length rr6)).setCell ⟨w.heap.size + 1, 1, none⟩ (.slice ga es.length gc)) = w4 at *
   have Kw4 : Chg (w.heap.size + 1) (w.heap.size + 1 + 1) wr w4 := by subst hW6; exact qCh
   have Xw4 : Ext w w4 := by subst hW6; exact qXt
   replace b10 := Kw4.cell (by omega) b10
   replace b11 := Kw4.cell (by omega) b11
   replace b20 : w4.cell? ⟨w.heap.size + 1, 0, none⟩ = some (.slice (some ⟨gr5, 0, none⟩) cells.length rr6) := by subst hW6; go_simp
   replace f_b20 : w4.frozen? ⟨w.heap.size + 1, 0, none⟩ = false := by subst hW6; first | (simp only [World.frozen?_setCell]; with_reducible assumption) | go_simp
   replace b21 : w4.cell? ⟨w.heap.size + 1, 1, none⟩ = some (.slice ga es.length gc) := by subst hW6; go_simp
   replace f_b21 : w4.frozen? ⟨w.heap.size + 1, 1, none⟩ = false := by subst hW6; first | (simp only [World.frozen?_setCell]; with_reducible assumption) | go_simp
   replace b110 := Kw4.cell (by omega) b110
   replace f_b110 := Kw4.frzO (by omega) z_b11 f_b110
   replace b111 := Kw4.cell (by omega) b111
   replace f_b111 := Kw4.frzO (by omega) z_b11 f_b111
   replace hE := hE.chg Kw4 (by omega)
   replace O4 := O4.chgN Kw4 (by omega)
   clear Kw4
   have z_b1 : w.heap.size < w4.heap.size := qB b10
   have z_b2 : w.heap.size + 1 < w4.heap.size := qB b20
   have z_b11 : w2.heap.size < w4.heap.size := qB b110
   have s_w4 : w.heap.size ≤ w4.heap.size := Xw4.size
   clear hW6
   refine bodyPost_ret (v := .agg #[.slice (some ⟨gr5, 0, none⟩) cells.length rr6, .slice ga es.length gc]) (by simp only [results, Try.results85]; go_simp) rfl ?_
   rw [List.take_of_length_le (Nat.le_refl _)] at hE
   refine ⟨.slice (some ⟨gr5, 0, none⟩) cells.length rr6, .slice ga es.length gc, R, rfl, ⟨(O4.lower (by omega)).z, hE.lower (by omega), hc1, he1, fun _ h => ?_, fun p hp hs _ h => ?_⟩, (Xw4.trans qXt)⟩
   ·
    have h8 := (hE.blk gr5 h.symm).1
    omega
   ·
    obtain ⟨g, hg, hg1, -⟩ := hE.nblk p hp hs
    rw [hg] at h
    have h9 : g = gr5 := Option.some.inj h
    omega

set_option maxHeartbeats 3200000 in
theorem specCopyBuffer_c (cells : List Int) (es : List Exp) (cv ev : Value) (w : World) (l1 l2 : Nat) (h1 : Ints w l1 cv cells) (h2 : Exps w l2 ev es) :
  Calls Try.prog 82 #[.agg #[cv, ev]] w (PBuf w cells es) := by
 obtain ⟨p0, c0, rfl⟩ := h1.form
 obtain ⟨p1, c1, rfl⟩ := h2.form
 have he1 := h2.len
 have hc1 := h1.len
 go_enter Try.func82, Try.ntmps82
 go_upto_region 1 with fail
 generalize hW7 : (w.alloc (.cells #[.slice p0 cells.length c0, .slice p1 es.length c1] 32)).alloc (.cells #[.slice none 0 0, .slice none 0 0] 32) = w1 at *
 have Lw1 : Ext w w1 := by subst hW7; exact qXt
 have Xw1 : Ext w w1 := by subst hW7; exact Lw1
 have b10 : w1.cell? ⟨w.heap.size, 0, none⟩ = some (.slice p0 cells.length c0) := by subst hW7; exact qCl
 have b11 : w1.cell? ⟨w.heap.size, 1, none⟩ = some (.slice p1 es.length c1) := by subst hW7; exact qCl
 have b20 : w1.cell? ⟨w.heap.size + 1, 0, none⟩ = some (.slice none 0 0) := by subst hW7; exact qCl
 have b21 : w1.cell? ⟨w.heap.size + 1, 1, none⟩ = some (.slice none 0 0) := by subst hW7; exact qCl
 have f_b20 : w1.frozen? ⟨w.heap.size + 1, 0, none⟩ = false := by subst hW7; exact qFz
 have f_b21 : w1.frozen? ⟨w.heap.size + 1, 1, none⟩ = false := by subst hW7; exact qFz
 have z_b1 : w.heap.size < w1.heap.size := qB b10
 have z_b2 : w.heap.size + 1 < w1.heap.size := qB b20
 have s_w1 : w.heap.size ≤ w1.heap.size := Xw1.size
 clear hW7
 go_wp2_with fail
 have Q6_b10 := Lib.hid b10
 have Q6_b11 := Lib.hid b11
 have Q6_zb1 := z_b1
 have Q6_b20 := Lib.hid b20
 have Q6_f_b20 := Lib.hid f_b20
 have Q6_b21 := Lib.hid b21
 have Q6_f_b21 := Lib.hid f_b21
 have Q6_zb2 := z_b2
 have BL7 : Ext w1 w1 := Ext.refl _
 refine (copyIntsO_c (.slice p0 cells.length c0) cells _ _ (h1.ext (Xw1.trans qXt))).mono ?_
 rintro e w2 ⟨gr4, rr5, rfl, O3, Ggr4, Ggr4', xw2⟩
 have Lw2 : Ext w1 w2 := Ext.trans qXt xw2
 have Xw2 : Ext w w2 := Xw1.trans Lw2
 replace b10 := Lw2.cell b10
 replace b11 := Lw2.cell b11
 replace b20 := Lw2.cell b20
 replace b21 := Lw2.cell b21
 replace f_b20 := Lw2.frz z_b2 f_b20
 replace f_b21 := Lw2.frz z_b2 f_b21
 have z_b1 : w.heap.size < w2.heap.size := qB b10
 have z_b2 : w.heap.size + 1 < w2.heap.size := qB b20
 have s_w2 : w.heap.size ≤ w2.heap.size := Xw2.size
 have BL7_w2 : Ext w1 w2 := BL7.trans Lw2
 clear xw2
 have Q8_b10 := Lib.hid b10
 have Q8_b11 := Lib.hid b11
 have Q8_zb1 := z_b1
 have Q8_b20 := Lib.hid b20
 have Q8_f_b20 := Lib.hid f_b20
 have Q8_b21 := Lib.hid b21
 have Q8_f_b21 := Lib.hid f_b21
 have Q8_zb2 := z_b2
 have Q8_O3 := Lib.hid O3
 have BL9 : Ext w2 w2 := Ext.refl _
 go_wp2_with fail
 generalize hW8 : w2.alloc (.cells #[.slice (some ⟨gr4, 0, none⟩) cells.length rr5, .slice none 0 0] 32) = w3 at *
 have Lw3 : Ext w2 w3 := by subst hW8; exact qXt
 have Xw3 : Ext w w3 := Xw2.trans Lw3
 replace b10 := Lw3.cell b10
 replace b11 := Lw3.cell b11
 replace b20 := Lw3.cell b20
 replace b21 := Lw3.cell b21
 replace f_b20 := Lw3.frz z_b2 f_b20
 replace f_b21 := Lw3.frz z_b2 f_b21
 have b100 : w3.cell? ⟨w2.heap.size, 0, none⟩ = some (.slice (some ⟨gr4, 0, none⟩) cells.length rr5) := by subst hW8; exact qCl
 have b101 : w3.cell? ⟨w2.heap.size, 1, none⟩ = some (.slice none 0 0) := by subst hW8; exact qCl
 have f_b100 : w3.frozen? ⟨w2.heap.size, 0, none⟩ = false := by subst hW8; exact qFz
 have f_b101 : w3.frozen? ⟨w2.heap.size, 1, none⟩ = false := by subst hW8; exact qFz
 have z_b1 : w.heap.size < w3.heap.size := qB b10
 have z_b2 : w.heap.size + 1 < w3.heap.size := qB b20
 have z_b10 : w2.heap.size < w3.heap.size := qB b100
 replace O3 := O3.ext Lw3
 have s_w3 : w.heap.size ≤ w3.heap.size := Xw3.size
 have BL7_w3 : Ext w1 w3 := BL7_w2.trans Lw3
 have BL9_w3 : Ext w2 w3 := BL9.trans Lw3
 have q_w3 : w3.heap.size ≤ w2.heap.size + 1 := by subst hW8; simp
 clear hW8
 have yE_b1 := z_b1
 have yE_b2 := z_b2
 have yE_b10 := z_b10
 go_loopw [4] (fun i wr => ∃ (k : Nat) (gv : Value) (R : Nat → Value), k ≤ es.length ∧ i = .int .i64 k ∧ ExpR wr w3.heap.size gv (es.take k) R ∧ Ext w wr ∧ OwnI wr w.heap.size (.slice (some ⟨gr4, 0, none⟩) cells.length rr5) cells ∧ wr.cell? ⟨w.heap.size, 0, none⟩ = some (.slice p0 cells.length c0) ∧ wr.cell? ⟨w.heap.size, 1, none⟩ = some (.slice p1 es.length c1) ∧ wr.cell? ⟨w.heap.size + 1, 0, none⟩ = some (.slice none 0 0) ∧ wr.cell? ⟨w.heap.size + 1, 1, none⟩ = some (.slice none 0 0) ∧ wr.frozen? ⟨w.heap.size + 1, 0, none⟩ = false ∧ wr.frozen? ⟨w.heap.size + 1, 1, none⟩ = false ∧ wr.cell? ⟨w2.heap.size, 0, none⟩ = some (.slice (some ⟨gr4, 0, none⟩) cells.length rr5) ∧ wr.cell? ⟨w2.heap.size, 1, none⟩ = some (gv) ∧ wr.frozen? ⟨w2.heap.size, 0, none⟩ = false ∧ wr.frozen? ⟨w2.heap.size, 1, none⟩ = false) (fun i _ => es.length - (intOf i).toNat)
 case atStart => exact ⟨0, _, fun _ => .slice none 0 0, Nat.zero_le _, rfl, ExpR.nil _ _ _, (Xw3.trans qXt), O3.lower (by omega), b10, b11, b20, b21, f_b20, f_b21, b100, b101, f_b100, f_b101⟩
 case round =>
  clear O3
  obtain ⟨k, gv, R, hk, rfl, hE, Xr, O3, b10, b11, b20, b21, f_b20, f_b21, b100, b101, f_b100, f_b101⟩ := hrel
  have z_b1 : w.heap.size < wr.heap.size := qB b10
  have z_b2 : w.heap.size + 1 < wr.heap.size := qB b20
  have z_b10 : w2.heap.size < wr.heap.size := qB b100
  obtain ⟨ga, gc, hgv⟩ := hE.len
  rw [List.length_take, Nat.min_eq_left hk] at hgv
  subst hgv
  have s_wr : w.heap.size ≤ wr.heap.size := Xr.size
  have hBr : w3.heap.size ≤ wr.heap.size := by omega
  by_cases hlt : k < es.length
  ·
   have hkI : (k : Int) < es.length := by omega
   have hN_x11 : k < es.length := (by omega)
   have hI_x11 : (k : Int) < (es.length : Int) := by omega
   obtain ⟨bl24, ol25, u18, c19, u20, c21, rfl, x110, x111, x112, x113, x114, i22, i23⟩ := (h2.ext Xr).at k hN_x11
   obtain ⟨X17, hX17⟩ : ∃ x, expAt es k = x := ⟨_, rfl⟩
   rw [hX17] at x110 x111 x112 x113 x114 i22 i23
   obtain ⟨P12, B13, S14, T15, O16⟩ := X17
   dsimp only at x110 x111 x112 x113 x114 i22 i23
   replace hX17 := Lib.hid hX17
   have hLS14 := i22.len
   have hLT15 := i23.len
   have z_x11 : bl24 < wr.heap.size := qB x110
   have Q26_b10 := Lib.hid b10
   have Q26_b11 := Lib.hid b11
   have Q26_zb1 := z_b1
   have Q26_b20 := Lib.hid b20
   have Q26_f_b20 := Lib.hid f_b20
   have Q26_b21 := Lib.hid b21
   have Q26_f_b21 := Lib.hid f_b21
   have Q26_zb2 := z_b2
   have Q26_b100 := Lib.hid b100
   have Q26_f_b100 := Lib.hid f_b100
   have Q26_b101 := Lib.hid b101
   have Q26_f_b101 := Lib.hid f_b101
   have Q26_zb10 := z_b10
   have Q26_x110 := Lib.hid x110
   have Q26_x111 := Lib.hid x111
   have Q26_x112 := Lib.hid x112
   have Q26_x113 := Lib.hid x113
   have Q26_x114 := Lib.hid x114
   have Q26_zx11 := z_x11
   have Q26_hE := Lib.hid hE
   have Q26_O3 := Lib.hid O3
   have Q26_i22 := Lib.hid i22
   have Q26_i23 := Lib.hid i23
   have BL27 : Ext wr wr := Ext.refl _
   go_upto_region 6 with fail
   generalize hW9 : wr.alloc (.cells #[.int .i64 P12, .int .i64 B13, .slice u18 S14.length c19, .slice u20 T15.length c21, .bool O16] 89) = w4 at *
   have Lw4 : Ext wr w4 := by subst hW9; exact qXt
   have Xw4 : Ext w w4 := Xr.trans Lw4
   replace b10 := Lw4.cell b10
   replace b11 := Lw4.cell b11
   replace b20 := Lw4.cell b20
   replace b21 := Lw4.cell b21
   replace f_b20 := Lw4.frz z_b2 f_b20
   replace f_b21 := Lw4.frz z_b2 f_b21
   replace b100 := Lw4.cell b100
   replace b101 := Lw4.cell b101
   replace f_b100 := Lw4.frz z_b10 f_b100
   replace f_b101 := Lw4.frz z_b10 f_b101
   replace x110 := Lw4.cell x110
   replace x111 := Lw4.cell x111
   replace x112 := Lw4.cell x112
   replace x113 := Lw4.cell x113
   replace x114 := Lw4.cell x114
   have b280 : w4.cell? ⟨wr.heap.size, 0, none⟩ = some (.int .i64 P12) := by subst hW9; exact qCl
   have b281 : w4.cell? ⟨wr.heap.size, 1, none⟩ = some (.int .i64 B13) := by subst hW9; exact qCl
   have b282 : w4.cell? ⟨wr.heap.size, 2, none⟩ = some (.slice u18 S14.length c19) := by subst hW9; exact qCl
   have b283 : w4.cell? ⟨wr.heap.size, 3, none⟩ = some (.slice u20 T15.length c21) := by subst hW9; exact qCl
   have b284 : w4.cell? ⟨wr.heap.size, 4, none⟩ = some (.bool O16) := by subst hW9; exact qCl
   have f_b280 : w4.frozen? ⟨wr.heap.size, 0, none⟩ = false := by subst hW9; exact qFz
   have f_b281 : w4.frozen? ⟨wr.heap.size, 1, none⟩ = false := by subst hW9; exact qFz
   have f_b282 : w4.frozen? ⟨wr.heap.size, 2, none⟩ = false := by subst hW9; exact qFz
   have f_b283 : w4.frozen? ⟨wr.heap.size, 3, none⟩ = false := by subst hW9; exact qFz
   have f_b284 : w4.frozen? ⟨wr.heap.size, 4, none⟩ = false := by subst hW9; exact qFz
   have z_b1 : w.heap.size < w4.heap.size := qB b10
   have z_b2 : w.heap.size + 1 < w4.heap.size := qB b20
   have z_b10 : w2.heap.size < w4.heap.size := qB b100
   have z_x11 : bl24 < w4.heap.size := qB x110
   have z_b28 : wr.heap.size < w4.heap.size := qB b280
   replace hE := hE.ext Lw4
   replace O3 := O3.ext Lw4
   replace i22 := i22.ext Lw4
   replace i23 := i23.ext Lw4
   have s_w4 : w.heap.size ≤ w4.heap.size := Xw4.size
   have BL27_w4 : Ext wr w4 := BL27.trans Lw4
   clear hW9
   go_wp2_with fail
   have Q35_b10 := Lib.hid b10
   have Q35_b11 := Lib.hid b11
   have Q35_zb1 := z_b1
   have Q35_b20 := Lib.hid b20
   have Q35_f_b20 := Lib.hid f_b20
   have Q35_b21 := Lib.hid b21
   have Q35_f_b21 := Lib.hid f_b21
   have Q35_zb2 := z_b2
   have Q35_b100 := Lib.hid b100
   have Q35_f_b100 := Lib.hid f_b100
   have Q35_b101 := Lib.hid b101
   have Q35_f_b101 := Lib.hid f_b101
   have Q35_zb10 := z_b10
   have Q35_x110 := Lib.hid x110
   have Q35_x111 := Lib.hid x111
   have Q35_x112 := Lib.hid x112
   have Q35_x113 := Lib.hid x113
   have Q35_x114 := Lib.hid x114
   have Q35_zx11 := z_x11
   have Q35_b280 := Lib.hid b280
   have Q35_f_b280 := Lib.hid f_b280
   have Q35_b281 := Lib.hid b281
   have Q35_f_b281 := Lib.hid f_b281
   have Q35_b282 := Lib.hid b282
   have Q35_f_b282 := Lib.hid f_b282
   have Q35_b283 := Lib.hid b283
   have Q35_f_b283 := Lib.hid f_b283
   have Q35_b284 := Lib.hid b284
   have Q35_f_b284 := Lib.hid f_b284
   have Q35_zb28 := z_b28
   have Q35_hE := Lib.hid hE
   have Q35_O3 := Lib.hid O3
   have Q35_i22 := Lib.hid i22
   have Q35_i23 := Lib.hid i23
   have BL36 : Ext w4 w4 := Ext.refl _
   refine (scopyViewO_c B13 (.slice u18 S14.length c19) (.slice u20 T15.length c21) S14 T15 _ _ _ (i22.ext qXt) (i23.ext qXt)).mono ?_
   rintro e w5 ⟨gr29, gr30, rr31, rr32, rfl, O33, O34, Ggr29, Ggr29', Ggr30, Ggr30', hggr29, xw5⟩
   have Lw5 : Ext w4 w5 := Ext.trans qXt xw5
   have Xw5 : Ext w w5 := Xw4.trans Lw5
   replace b10 := Lw5.cell b10
   replace b11 := Lw5.cell b11
   replace b20 := Lw5.cell b20
   replace b21 := Lw5.cell b21
   replace f_b20 := Lw5.frz z_b2 f_b20
   replace f_b21 := Lw5.frz z_b2 f_b21
   replace b100 := Lw5.cell b100
   replace b101 := Lw5.cell b101
   replace f_b100 := Lw5.frz z_b10 f_b100
   replace f_b101 := Lw5.frz z_b10 f_b101
   replace x110 := Lw5.cell x110
   replace x111 := Lw5.cell x111
   replace x112 := Lw5.cell x112
   replace x113 := Lw5.cell x113
   replace x114 := Lw5.cell x114
   replace b280 := Lw5.cell b280
   replace b281 := Lw5.cell b281
   replace b282 := Lw5.cell b282
   replace b283 := Lw5.cell b283
   replace b284 := Lw5.cell b284
   replace f_b280 := Lw5.frz z_b28 f_b280
   replace f_b281 := Lw5.frz z_b28 f_b281
   replace f_b282 := Lw5.frz z_b28 f_b282
   replace f_b283 := Lw5.frz z_b28 f_b283
   replace f_b284 := Lw5.frz z_b28 f_b284
   have z_b1 : w.heap.size < w5.heap.size := qB b10
   have z_b2 : w.heap.size + 1 < w5.heap.size := qB b20
   have z_b10 : w2.heap.size < w5.heap.size := qB b100
   have z_x11 : bl24 < w5.heap.size := qB x110
   have z_b28 : wr.heap.size < w5.heap.size := qB b280
   replace hE := hE.ext Lw5
   replace O3 := O3.ext Lw5
   replace i22 := i22.ext Lw5
   replace i23 := i23.ext Lw5
   have s_w5 : w.heap.size ≤ w5.heap.size := Xw5.size
   have BL27_w5 : Ext wr w5 := BL27_w4.trans Lw5
   have BL36_w5 : Ext w4 w5 := BL36.trans Lw5
   clear xw5
   go_upto_region 7 with fail
   generalize hW10 : (((w5.setCell ⟨wr.heap.size, 1, none⟩ (.int .i64 B13)).setCell ⟨wr.heap.size, 2, none⟩ (.slice (some ⟨gr29, 0, none⟩) S14.length rr31)).setCell ⟨wr.heap.size, 3, none⟩ (.slice (some ⟨gr30, 0, none⟩) T15.length rr32)) = w6 at *
   have Kw6 : Chg (wr.heap.size) (wr.heap.size + 1) w5 w6 := by subst hW10; exact qCh
   have Xw6 : Ext w w6 := by subst hW10; exact qXt
   have BL27_w6 : Ext wr w6 := by subst hW10; exact qXt
   replace b10 := BL27_w6.cell Q26_b10.out
   replace b11 := BL27_w6.cell Q26_b11.out
   replace b20 := BL27_w6.cell Q26_b20.out
   replace f_b20 := BL27_w6.frz Q26_zb2 Q26_f_b20.out
   replace b21 := BL27_w6.cell Q26_b21.out
   replace f_b21 := BL27_w6.frz Q26_zb2 Q26_f_b21.out
   replace b100 := BL27_w6.cell Q26_b100.out
   replace f_b100 := BL27_w6.frz Q26_zb10 Q26_f_b100.out
   replace b101 := BL27_w6.cell Q26_b101.out
   replace f_b101 := BL27_w6.frz Q26_zb10 Q26_f_b101.out
   replace x110 := BL27_w6.cell Q26_x110.out
   replace x111 := BL27_w6.cell Q26_x111.out
   replace x112 := BL27_w6.cell Q26_x112.out
   replace x113 := BL27_w6.cell Q26_x113.out
   replace x114 := BL27_w6.cell Q26_x114.out
   replace b280 : w6.cell? ⟨wr.heap.size, 0, none⟩ = some (.int .i64 P12) := by subst hW10; go_simp
   replace f_b280 : w6.frozen? ⟨wr.heap.size, 0, none⟩ = false := by subst hW10; first | (simp only [World.frozen?_setCell]; with_reducible assumption) | go_simp
   replace b281 : w6.cell? ⟨wr.heap.size, 1, none⟩ = some (.int .i64 B13) := by subst hW10; go_simp
   replace f_b281 : w6.frozen? ⟨wr.heap.size, 1, none⟩ = false := by subst hW10; first | (simp only [World.frozen?_setCell]; with_reducible assumption) | go_simp
   replace b282 : w6.cell? ⟨wr.heap.size, 2, none⟩ = some (.slice (some ⟨gr29, 0, none⟩) S14.length rr31) := by subst hW10; go_simp
   replace f_b282 : w6.frozen? ⟨wr.heap.size, 2, none⟩ = false := by subst hW10; first | (simp only [World.frozen?_setCell]; with_reducible assumption) | go_simp
   replace b283 : w6.cell? ⟨wr.heap.size, 3, none⟩ = some (.slice (some ⟨gr30, 0, none⟩) T15.length rr32) := by subst hW10; go_simp
   replace f_b283 : w6.frozen? ⟨wr.heap.size, 3, none⟩ = false := by subst hW10; first | (simp only [World.frozen?_setCell]; with_reducible assumption) | go_simp
   replace b284 : w6.cell? ⟨wr.heap.size, 4, none⟩ = some (.bool O16) := by subst hW10; go_simp
   replace f_b284 : w6.frozen? ⟨wr.heap.size, 4, none⟩ = false := by subst hW10; first | (simp only [World.frozen?_setCell]; with_reducible assumption) | go_simp
   replace hE := (Q26_hE.out).ext BL27_w6
   replace O3 := O3.chgN Kw6 (by omega)
   replace i22 := (Q26_i22.out).ext BL27_w6
   replace i23 := (Q26_i23.out).ext BL27_w6
   replace O33 := O33.chgN Kw6 (by omega)
   replace O34 := O34.chgN Kw6 (by omega)
   clear Kw6
   have z_b1 : w.heap.size < w6.heap.size := qB b10
   have z_b2 : w.heap.size + 1 < w6.heap.size := qB b20
   have z_b10 : w2.heap.size < w6.heap.size := qB b100
   have z_x11 : bl24 < w6.heap.size := qB x110
   have z_b28 : wr.heap.size < w6.heap.size := qB b280
   have s_w6 : w.heap.size ≤ w6.heap.size := Xw6.size
   clear hW10
   have zBL := (BL27_w6).size
   have EE : Ext w6 (w6.alloc (.cells #[.int .i64 P12, .int .i64 B13, .slice (some ⟨gr29, 0, none⟩) S14.length rr31, .slice (some ⟨gr30, 0, none⟩) T15.length rr32, .bool O16] TEXPORT)) := qXt
   have SS : SrcR (w6.alloc (.cells #[.int .i64 P12, .int .i64 B13, .slice (some ⟨gr29, 0, none⟩) S14.length rr31, .slice (some ⟨gr30, 0, none⟩) T15.length rr32, .bool O16] TEXPORT)) 5 (.slice (some ⟨w6.heap.size, 0, none⟩) 1 1) 1 [.int .i64 P12, .int .i64 B13, .slice (some ⟨gr29, 0, none⟩) S14.length rr31, .slice (some ⟨gr30, 0, none⟩) T15.length rr32, .bool O16] := src_one w6 _ rfl (by intro u hu; simp only [List.mem_cons, List.not_mem_nil, or_false] at hu; rcases hu with rfl | rfl | rfl | rfl | rfl <;> rfl)
   go_wp2_with (
    at_builtin
    refine wpList_appC Try.underlying30 infoExp rfl (by decide) rfl (.tmp 27) (.tmp 29) rfl rfl rfl (hE.row.ext EE) SS (by rw [cellsE_len]; simp; omega) (by rw [cellsE_len]; simp; omega) (by simp <;> omega) ?_
    intro vw7 w7 ho hgr hbl hv
    have hS : ExpR w7 (w3.heap.size) vw7 ((es.take k) ++ [⟨P12, B13, S14, T15, O16⟩]) (extR R (es.take k).length (.slice (some ⟨gr29, 0, none⟩) S14.length rr31) (.slice (some ⟨gr30, 0, none⟩) T15.length rr32)) := ExpR.snoc Q26_hE.out (Ext.trans BL27_w6 EE) ((O33.ext EE).lower (by omega)).z ((O34.ext EE).lower (by omega)).z (by dsimp only; omega) (by dsimp only; omega) (fun _ _ h => by have h9 : gr29 = gr30 := Option.some.inj h; omega) (fun _ g h => by have h9 : gr29 = g := Option.some.inj h; omega) (fun _ g h => by have h9 : gr30 = g := Option.some.inj h; omega) ho hgr hv
    obtain ⟨pa37, pc38, hpv⟩ := hS.len
    rw [List.length_append, List.length_singleton, List.length_take, Nat.min_eq_left hk] at hpv
    subst hpv
    have Xw7 : Ext w w7 := Ext.below (Xw6.trans EE) hbl (by omega)
    clear x110 x111 x112 x113 x114
    clear b280 b281 b282 b283 b284 f_b280 f_b281 f_b282 f_b283 f_b284
    replace b10 := below_cell hbl (by omega) (EE.cell b10)
    replace b11 := below_cell hbl (by omega) (EE.cell b11)
    replace b20 := below_cell hbl (by omega) (EE.cell b20)
    replace f_b20 := below_frz hbl (by omega) (EE.frz z_b2 f_b20)
    replace b21 := below_cell hbl (by omega) (EE.cell b21)
    replace f_b21 := below_frz hbl (by omega) (EE.frz z_b2 f_b21)
    replace b100 := below_cell hbl (by omega) (EE.cell b100)
    replace f_b100 := below_frz hbl (by omega) (EE.frz z_b10 f_b100)
    replace b101 := below_cell hbl (by omega) (EE.cell b101)
    replace f_b101 := below_frz hbl (by omega) (EE.frz z_b10 f_b101)
    have z_b1 : w.heap.size < w7.heap.size := qB b10
    have z_b2 : w.heap.size + 1 < w7.heap.size := qB b20
    have z_b10 : w2.heap.size < w7.heap.size := qB b100
    replace O3 := (O3.ext EE).chgN (Below.chg hbl) (.inl (by omega))
    clear i22
    clear i23
    clear O33
    clear O34
    clear hE
    have hE := hS
    have hzb := hbl.size
    simp only [World.size_alloc] at hzb
    clear ho hbl EE SS hgr hv hS zBL
    have s_w7 : w.heap.size ≤ w7.heap.size := Xw7.size)
   go_wp2_with fail
   generalize hW11 : (w7.setCell ⟨w2.heap.size, 1, none⟩ (.slice pa37 (k + 1) pc38)) = w8 at *
   have Kw8 : Chg (w2.heap.size) (w2.heap.size + 1) w7 w8 := by subst hW11; exact qCh
   have Xw8 : Ext w w8 := by subst hW11; exact qXt
   replace b10 := Kw8.cell (by omega) b10
   replace b11 := Kw8.cell (by omega) b11
   replace b20 := Kw8.cell (by omega) b20
   replace f_b20 := Kw8.frzO (by omega) z_b2 f_b20
   replace b21 := Kw8.cell (by omega) b21
   replace f_b21 := Kw8.frzO (by omega) z_b2 f_b21
   replace b100 : w8.cell? ⟨w2.heap.size, 0, none⟩ = some (.slice (some ⟨gr4, 0, none⟩) cells.length rr5) := by subst hW11; go_simp
   replace f_b100 : w8.frozen? ⟨w2.heap.size, 0, none⟩ = false := by subst hW11; first | (simp only [World.frozen?_setCell]; with_reducible assumption) | go_simp
   replace b101 : w8.cell? ⟨w2.heap.size, 1, none⟩ = some (.slice pa37 (k + 1) pc38) := by subst hW11; go_simp
   replace f_b101 : w8.frozen? ⟨w2.heap.size, 1, none⟩ = false := by subst hW11; first | (simp only [World.frozen?_setCell]; with_reducible assumption) | go_simp
   replace hE := hE.chg Kw8 (by omega)
   replace O3 := O3.chgN Kw8 (by omega)
   clear Kw8
   have z_b1 : w.heap.size < w8.heap.size := qB b10
   have z_b2 : w.heap.size + 1 < w8.heap.size := qB b20
   have z_b10 : w2.heap.size < w8.heap.size := qB b100
   have s_w8 : w.heap.size ≤ w8.heap.size := Xw8.size
   clear hW11
   go_roundw
   case rel => exact ⟨k + 1, _, _, by omega, by go_num, (by rw [take_expAt hlt, hX17.out]; exact hE), Xw8, O3, b10, b11, b20, b21, f_b20, f_b21, b100, b101, f_b100, f_b101⟩
   case measure => simp [intOf]; omega
  ·
   obtain rfl : k = es.length := by omega
   have hkI : ¬ (es.length : Int) < es.length := by omega
   go_wp2_with fail
   generalize hW12 : ((wr.setCell ⟨w.heap.size + 1, 0, none⟩ (.slice (some ⟨gr4, 0, none⟩) cells.length rr5)).setCell ⟨w.heap.size + 1, 1, none⟩ (.slice ga es.length gc)) = w4 at *
   have Kw4 : Chg (w.heap.size + 1) (w.heap.size + 1 + 1) wr w4 := by subst hW12; exact qCh
   have Xw4 : Ext w w4 := by subst hW12; exact qXt
   replace b10 := Kw4.cell (by omega) b10
   replace b11 := Kw4.cell (by omega) b11
   replace b20 : w4.cell? ⟨w.heap.size + 1, 0, none⟩ = some (.slice (some ⟨gr4, 0, none⟩) cells.length rr5) := by subst hW12; go_simp
   replace f_b20 : w4.frozen? ⟨w.heap.size + 1, 0, none⟩ = false := by subst hW12; first | (simp only [World.frozen?_setCell]; with_reducible assumption) | go_simp
   replace b21 : w4.cell? ⟨w.heap.size + 1, 1, none⟩ = some (.slice ga es.length gc) := by subst hW12; go_simp
   replace f_b21 : w4.frozen? ⟨w.heap.size + 1, 1, none⟩ = false := by subst hW12; first | (simp only [World.frozen?_setCell]; with_reducible assumption) | go_simp
   replace b100 := Kw4.cell (by omega) b100
   replace f_b100 := Kw4.frzO (by omega) z_b10 f_b100
   replace b101 := Kw4.cell (by omega) b101
   replace f_b101 := Kw4.frzO (by omega) z_b10 f_b101
   replace hE := hE.chg Kw4 (by omega)
   replace O3 := O3.chgN Kw4 (by omega)
   clear Kw4
   have z_b1 : w.heap.size < w4.heap.size := qB b10
   have z_b2 : w.heap.size + 1 < w4.heap.size := qB b20
   have z_b10 : w2.heap.size < w4.heap.size := qB b100
   have s_w4 : w.heap.size ≤ w4.heap.size := Xw4.size
   clear hW12
   refine bodyPost_ret (v := .agg #[.slice (some ⟨gr4, 0, none⟩) cells.length rr5, .slice ga es.length gc]) (by simp only [results, Try.results82]; go_simp) rfl ?_
   rw [List.take_of_length_le (Nat.le_refl _)] at hE
   refine ⟨.slice (some ⟨gr4, 0, none⟩) cells.length rr5, .slice ga es.length gc, R, rfl, ⟨(O3.lower (by omega)).z, hE.lower (by omega), hc1, he1, fun _ h => ?_, fun p hp hs _ h => ?_⟩, (Xw4.trans qXt)⟩
   ·
    have h8 := (hE.blk gr4 h.symm).1
    omega
   ·
    obtain ⟨g, hg, hg1, -⟩ := hE.nblk p hp hs
    rw [hg] at h
    have h9 : g = gr4 := Option.some.inj h
    omega


end Go.Proofs.Ytfbbnbpobojboaa

/- Walks of the laws' own helpers on buffers: equal buffers. -/
namespace Go.Proofs.Ytfbbnbpobojboaa
open Go.RowKit
set_option linter.unusedVariables false
set_option maxRecDepth 100000

set_option maxHeartbeats 1600000 in
theorem eqExport_c (p b : Int) (u1 v1 u2 v2 : Value) (s t : List Int) (o : Bool) (w : World) (l1 l2 l3 l4 : Nat) (h1 : Ints w l1 u1 s) (h2 : Ints w l2 v1 t) (h3 : Ints w l3 u2 s) (h4 : Ints w l4 v2 t) :
    Calls Try.prog 127 #[.agg #[.int .i64 p, .int .i64 b, u1, v1, .bool o], .agg #[.int .i64 p, .int .i64 b, u2, v2, .bool o]] w fun e w' => e = .returned (.bool true) ∧ Ext w w' := by
  obtain ⟨a1, c1, rfl⟩ := h1.form
  obtain ⟨a2, c2, rfl⟩ := h2.form
  obtain ⟨a3, c3, rfl⟩ := h3.form
  obtain ⟨a4, c4, rfl⟩ := h4.form
  go_enter Try.func127, Try.ntmps127
  go_wp2_with fail
  refine (eqView_c b _ _ _ _ s t _ _ _ _ _ (h1.ext qXt) (h2.ext qXt) (h3.ext qXt) (h4.ext qXt)).mono ?_
  rintro e w1 ⟨rfl, x1⟩
  have X1 : Ext w w1 := Ext.trans qXt x1
  have k0 : w1.cell? ⟨w.heap.size, 4, none⟩ = some (.bool o) := x1.cell qCl
  have k1 : w1.cell? ⟨w.heap.size + 1, 4, none⟩ = some (.bool o) := x1.cell qCl
  clear x1 h1 h2 h3 h4
  cases o
  · go_wp2_with fail
    go_ret
    exact ⟨rfl, X1⟩
  · go_wp2_with fail
    go_ret
    exact ⟨rfl, X1⟩
set_option maxHeartbeats 1600000 in
theorem eqExportS_c (es : List Exp) (v1 v2 : Value) (w : World) (l1 l2 : Nat) (h1 : Exps w l1 v1 es) (h2 : Exps w l2 v2 es) :
    Calls Try.prog 71 #[v1, v2] w fun e w' => e = .returned (.bool true) ∧ Ext w w' := by
  obtain ⟨a1, c1, rfl⟩ := h1.form
  obtain ⟨a2, c2, rfl⟩ := h2.form
  have hl := h1.len
  go_enter Try.func71, Try.ntmps71
  go_wp2_with fail
  go_loopw [5] (fun i wr => ∃ (k : Nat), k ≤ es.length ∧ i = .int .i64 k ∧ Ext w wr) (fun i _ => es.length - (intOf i).toNat)
  case atStart => exact ⟨0, Nat.zero_le _, rfl, qXt⟩
  case round =>
    obtain ⟨k, hk, rfl, Xr⟩ := hrel
    by_cases hlt : k < es.length
    · have hkI : (k : Int) < es.length := by omega
      obtain ⟨b1, o1, u1, d1, u2, d2, rfl, x0, x1, x2, x3, x4, i1, i2⟩ := (h1.ext Xr).at k hlt
      obtain ⟨b2, o2, u3, d3, u4, d4, rfl, y0, y1, y2, y3, y4, i3, i4⟩ := (h2.ext Xr).at k hlt
      have G1 := Lib.hid h1
      have G2 := Lib.hid h2
      clear h1 h2
      obtain ⟨X18, hX18⟩ : ∃ x, expAt es k = x := ⟨_, rfl⟩
      rw [hX18] at x0 x1 x2 x3 x4 i1 i2 y0 y1 y2 y3 y4 i3 i4
      obtain ⟨P13, B14, S15, T16, O17⟩ := X18
      dsimp only at x0 x1 x2 x3 x4 i1 i2 y0 y1 y2 y3 y4 i3 i4
      clear hX18
      replace i1 := Lib.hid i1
      replace i2 := Lib.hid i2
      replace i3 := Lib.hid i3
      replace i4 := Lib.hid i4
      go_wp2_with fail
      go_region_with (first
        | (go_at_call 127; refine (eqExport_c P13 B14 _ _ _ _ S15 T16 O17 _ _ _ _ _ (i1.out.ext qXt) (i2.out.ext qXt) (i3.out.ext qXt) (i4.out.ext qXt)).mono ?_; rintro e w1 ⟨rfl, x⟩; have X1 : Ext w w1 := Xr.trans (Ext.trans qXt x)))
      all_goals (
        go_wp2_with fail
        go_roundw
        case rel => exact ⟨k + 1, by omega, by go_num, X1⟩
        case measure => simp [intOf]; omega)
    · obtain rfl : k = es.length := by omega
      go_wp2_with fail
      go_ret
      exact ⟨rfl, Xr⟩
set_option maxHeartbeats 1600000 in
theorem eqBuffer_c (cells : List Int) (es : List Exp) (cv1 ev1 cv2 ev2 : Value) (w : World) (l1 l2 l3 l4 : Nat) (h1 : Ints w l1 cv1 cells) (h2 : Exps w l2 ev1 es) (h3 : Ints w l3 cv2 cells) (h4 : Exps w l4 ev2 es) :
    Calls Try.prog 19 #[.agg #[cv1, ev1], .agg #[cv2, ev2]] w fun e w' => e = .returned (.bool true) ∧ Ext w w' := by
  obtain ⟨a1, c1, rfl⟩ := h1.form
  obtain ⟨a2, c2, rfl⟩ := h2.form
  obtain ⟨a3, c3, rfl⟩ := h3.form
  obtain ⟨a4, c4, rfl⟩ := h4.form
  go_enter Try.func19, Try.ntmps19
  go_wp2_with fail
  refine (eqIntS_c cells _ _ _ _ _ (h1.ext qXt) (h3.ext qXt)).mono ?_
  rintro e w1 ⟨rfl, n1, rfl⟩
  have X1 : Ext w (World.drewN ((w.alloc (.cells #[.slice a1 cells.length c1, .slice a2 es.length c2] 32)).alloc (.cells #[.slice a3 cells.length c3, .slice a4 es.length c4] 32)) n1) := qXt
  go_wp2_with fail
  refine (eqExportS_c es _ _ _ _ _ (h2.ext qXt) (h4.ext qXt)).mono ?_
  rintro e w2 ⟨rfl, x2⟩
  have X2 : Ext w w2 := Ext.trans qXt x2
  go_wp2_with fail
  go_ret
  exact ⟨rfl, X2⟩
end Go.Proofs.Ytfbbnbpobojboaa

/- Walks of the laws' own helpers on buffers: marks. -/
namespace Go.Proofs.Ytfbbnbpobojboaa
open Go.RowKit
set_option linter.unusedVariables false
set_option maxRecDepth 100000

/-- the mark at the start of an export -/
def kE (k : Int) (es : List Exp) : Nat → Int
  | 0 => k
  | i + 1 => kE k es i + 3 + (expAt es i).s.length + (expAt es i).t.length
theorem kE_mono (k : Int) (es : List Exp) (i j : Nat) (h : i ≤ j) : kE k es i ≤ kE k es j := by
  induction j with
  | zero => obtain rfl : i = 0 := by omega
            exact Int.le_refl _
  | succ j ih =>
    by_cases hi : i = j + 1
    · subst hi; exact Int.le_refl _
    · have := ih (by omega)
      show _ ≤ kE k es j + 3 + _ + _
      omega
/-- a marked export -/
def mkE (k : Int) (es : List Exp) (i : Nat) : Exp :=
  ⟨kE k es i, kE k es i + 1, ksL (kE k es i + 1 + 1) (expAt es i).s.length, ksL (kE k es i + 1 + 1 + (expAt es i).s.length) (expAt es i).t.length,
    decide ((kE k es i + 1 + 1 + (expAt es i).s.length + (expAt es i).t.length) % 3 = 0)⟩
/-- the first n exports marked -/
def mixE (k : Int) (es : List Exp) (n : Nat) : List Exp := (List.range n).map (mkE k es) ++ es.drop n
theorem mixE_zero (k : Int) (es : List Exp) : mixE k es 0 = es := by simp [mixE]
theorem mixE_len (k : Int) (es : List Exp) (n : Nat) (h : n ≤ es.length) : (mixE k es n).length = es.length := by simp [mixE]; omega
theorem mixE_at (k : Int) (es : List Exp) (n i : Nat) (h : n ≤ es.length) : expAt (mixE k es n) i = if i < n then mkE k es i else expAt es i := by
  unfold expAt mixE
  by_cases hi : i < n
  · rw [if_pos hi, List.getD_eq_getElem?_getD, List.getElem?_append_left (by simpa using hi)]; simp [hi]
  · rw [if_neg hi, List.getD_eq_getElem?_getD, List.getElem?_append_right (by simp; omega)]
    simp only [List.length_map, List.length_range, List.getElem?_drop]
    rw [show n + (i - n) = i by omega, List.getD_eq_getElem?_getD]
theorem mixE_succ (k : Int) (es : List Exp) (n : Nat) (h : n < es.length) : mixE k es (n + 1) = (mixE k es n).set n (mkE k es n) := by
  refine List.ext_getElem (by rw [List.length_set, mixE_len k es _ h, mixE_len k es _ (by omega)]) fun i h1 h2 => ?_
  rw [mixE_len k es _ h] at h1
  have a := mixE_at k es (n+1) i h
  have b := expAt_set (mixE k es n) n (mkE k es n) i (by rw [mixE_len k es _ (by omega)]; exact h)
  rw [mixE_at k es n i (by omega)] at b
  rw [← expAt_get (by rw [mixE_len k es _ h]; exact h1), ← expAt_get (by rw [List.length_set, mixE_len k es _ (by omega)]; exact h1), a, b]
  by_cases hi : i = n
  · subst hi; simp
  · by_cases h3 : i < n
    · rw [if_pos (by omega), if_neg hi, if_pos h3]
    · rw [if_neg (by omega), if_neg hi, if_neg h3]

set_option maxHeartbeats 1600000 in
theorem heldExportS_c (es : List Exp) (k : Int) (v : Value) (w : World) (lo : Nat) (hv : Exps w lo v (mixE k es es.length)) (hm : ∀ i, i < es.length → (expAt es i).s.length ≤ 4194304 ∧ (expAt es i).t.length ≤ 4194304) (hk : 0 ≤ k) (hk2 : kE k es es.length ≤ 100000000) :
    Calls Try.prog 73 #[v, .int .i64 k] w fun e w' => e = .returned (.int .i64 (kE k es es.length)) ∧ Ext w w' := by
  obtain ⟨a1, c1, rfl⟩ := hv.form
  have hl := hv.len
  have hL := mixE_len k es es.length (Nat.le_refl _)
  rw [hL] at hl
  go_enter Try.func73, Try.ntmps73
  go_wp2_with fail
  go_loopw [1, 5] (fun kk i wr => ∃ (n : Nat), n ≤ es.length ∧ i = .int .i64 n ∧ kk = .int .i64 (kE k es n) ∧ Ext w wr) (fun _ i _ => es.length - (intOf i).toNat)
  case atStart => exact ⟨0, Nat.zero_le _, rfl, rfl, qXt⟩
  case round =>
    obtain ⟨n, hn, rfl, rfl, Xr⟩ := hrel
    have hk0 : 0 ≤ kE k es n := Int.le_trans hk (kE_mono k es 0 n (Nat.zero_le _))
    by_cases hlt : n < es.length
    · have hkI : (n : Int) < es.length := by omega
      have hs1 : kE k es (n + 1) = kE k es n + 3 + (expAt es n).s.length + (expAt es n).t.length := rfl
      have hs2 := kE_mono k es (n + 1) es.length hlt
      obtain ⟨hm1, hm2⟩ := hm n hlt
      obtain ⟨b1, o1, u1, d1, u2, d2, rfl, x0, x1, x2, x3, x4, i1, i2⟩ := (hv.ext Xr).at n (by rw [hL]; exact hlt)
      rw [mixE_at k es es.length n (Nat.le_refl _), if_pos hlt] at x0 x1 x2 x3 x4 i1 i2
      dsimp only [mkE] at x0 x1 x2 x3 x4 i1 i2
      rw [ksL_len] at x2 x3 i1 i2
      rw [hL]
      generalize (expAt es n).s.length = S at *
      generalize (expAt es n).t.length = T at *
      generalize hK : kE k es n = Kn at *
      clear hm
      go_wp2_with fail
      refine (heldIntS_c S _ _ _ _ i1 (by omega) (by omega)).mono ?_
      rintro e w' ⟨rfl, rfl⟩
      go_wp2_with fail
      refine (heldIntS_c T _ _ _ _ i2 (by omega) (by omega)).mono ?_
      rintro e w' ⟨rfl, rfl⟩
      go_wp2_with fail
      · rename_i h
        exfalso
        by_cases hx : (Kn + 1 + 1 + S + T) % 3 = 0 <;> simp [hx] at h
      · go_roundw
        case rel => exact ⟨n + 1, by omega, by go_num, by rw [hs1]; congr 1; omega, Xr⟩
        case measure => simp [intOf]; omega
    · obtain rfl : n = es.length := by omega
      go_wp2_with fail
      go_ret
      exact ⟨rfl, Xr⟩
set_option maxHeartbeats 1600000 in
theorem heldBuffer_c (n : Nat) (es : List Exp) (k : Int) (cv ev : Value) (w : World) (l1 l2 : Nat) (hc : Ints w l1 cv (ksL k n)) (hv : Exps w l2 ev (mixE (k + n) es es.length)) (hm : ∀ i, i < es.length → (expAt es i).s.length ≤ 4194304 ∧ (expAt es i).t.length ≤ 4194304) (hk : 0 ≤ k) (hk2 : kE (k + n) es es.length ≤ 100000000) :
    Calls Try.prog 23 #[.agg #[cv, ev], .int .i64 k] w fun e w' => e = .returned (.int .i64 (kE (k + n) es es.length)) ∧ Ext w w' := by
  obtain ⟨a1, c1, rfl⟩ := hc.form
  obtain ⟨a2, c2, rfl⟩ := hv.form
  have h0 : k + n ≤ kE (k + n) es es.length := kE_mono (k + n) es 0 es.length (Nat.zero_le _)
  rw [ksL_len] at *
  rw [mixE_len _ es es.length (Nat.le_refl _)] at *
  go_enter Try.func23, Try.ntmps23
  go_wp2_with fail
  refine (heldIntS_c n _ _ _ _ (hc.ext qXt) (by omega) (by omega)).mono ?_
  rintro e w' ⟨rfl, rfl⟩
  go_wp2_with fail
  refine (heldExportS_c es _ _ _ _ (hv.ext qXt) hm (by omega) hk2).mono ?_
  rintro e w1 ⟨rfl, x1⟩
  have X1 : Ext w w1 := Ext.trans qXt x1
  generalize hKE : kE (k + n) es es.length = KE at *
  go_wp2_with fail
  go_ret
  exact ⟨by rw [hKE]; rfl, X1⟩
end Go.Proofs.Ytfbbnbpobojboaa

/- Answers that are buffers: plain words and laws. No condition. -/
namespace Go.Proofs.Ytfbbnbpobojboaa
open Go.RowKit
set_option linter.unusedVariables false
set_option maxRecDepth 100000

/-- a buffer with a bool -/
abbrev BBool := List Int × List Exp × Bool
def noBuf : BBool := ([], [], false)
def PBX (w : World) (x : BBool) : Ending → World → Prop := PBufB w x.1 x.2.1 x.2.2
theorem PBX.no {w w' : World} {x : BBool} (h : x = noBuf) (hx : Ext w w') : PBX w x (.returned (.tuple #[.agg #[.slice none 0 0, .slice none 0 0], .bool false])) w' := by
  subst h; exact PBufB.no hx
theorem PBX.yes {w w' : World} {x : BBool} {cells : List Int} {es : List Exp} {cv ev : Value} {R : Nat → Value} (h : x = (cells, es, true)) (hb : BufR w' w.heap.size cv ev cells es R) (hx : Ext w w') :
    PBX w x (.returned (.tuple #[.agg #[cv, ev], .bool true])) w' := by
  subst h; exact ⟨cv, ev, R, rfl, hb, hx⟩
theorem pbx_eq {w w0 : World} {x : BBool} {B : List Int} {S : List Exp} {o : Bool} {f : Nat} {args : Array Value} (he : x = (B, S, o)) (h : Calls Try.prog f args w (PBX w0 x)) : Calls Try.prog f args w (PBufB w0 B S o) := by subst he; exact h
/-- a buffer of few numbers -/
structure SmallB (x : BBool) : Prop where
  cl : x.1.length ≤ 60
  el : x.2.1.length ≤ 9
  rows : ∀ i, i < x.2.1.length → (expAt x.2.1 i).s.length ≤ 4 ∧ (expAt x.2.1 i).t.length ≤ 4
theorem kE_le (k : Int) (es : List Exp) (n : Nat) (h : ∀ i, i < n → (expAt es i).s.length ≤ 4 ∧ (expAt es i).t.length ≤ 4) : kE k es n ≤ k + 11 * n := by
  induction n with
  | zero => simp [kE]
  | succ n ih =>
    have h1 := ih fun i hi => h i (by omega)
    have h2 := h n (by omega)
    unfold kE; omega
theorem kE_size (k : Int) (es : List Exp) (n : Nat) : kE k es n = k + 3 * n + sizeE es n := by
  induction n with
  | zero => simp [kE, sizeE]
  | succ n ih => unfold kE sizeE; rw [ih]; omega
theorem SmallB.kE {x : BBool} (h : SmallB x) : Go.Proofs.Ytfbbnbpobojboaa.kE (1 + x.1.length) x.2.1 x.2.1.length ≤ 100000000 := by
  have := kE_le (1 + x.1.length) x.2.1 x.2.1.length h.rows
  have := h.cl
  have := h.el
  omega
theorem SmallB.no {x : BBool} (h : x = noBuf) : SmallB x := by subst h; exact ⟨by simp [noBuf], by simp [noBuf], fun i hi => absurd hi (by simp [noBuf])⟩
theorem viewB_len {b : Int} {s t : List Int} (h : viewB b s t = true) : s.length ≤ 4 ∧ t.length ≤ 4 := by
  have h1 := viewB_in h
  have h2 := (shapeB_in h1.1).1
  have h3 := h1.2.1
  omega
theorem expsB_at {cells : List Int} {es : List Exp} {n : Nat} (h : expsB cells es n = true) (i : Nat) (hi : i < n) : expB cells es i = true := by
  unfold expsB at h
  rw [List.all_eq_true] at h
  exact h i (List.mem_range.2 hi)
theorem bufB_in {cells : List Int} {es : List Exp} (h : bufB cells es = true) : memB cells = true ∧ cells.length ≤ 60 ∧ es.length ≤ 8 ∧ ∀ i, i < es.length → expB cells es i = true := by
  unfold bufB at h
  simp only [Bool.and_eq_true, decide_eq_true_eq] at h
  have hm := h.1.1
  unfold memB at hm
  simp only [Bool.and_eq_true, decide_eq_true_eq] at hm
  exact ⟨h.1.1, hm.1, h.1.2, fun i hi => expsB_at h.2 i hi⟩
theorem expB_view {cells : List Int} {es : List Exp} {i : Nat} (h : expB cells es i = true) : viewB (expAt es i).b (expAt es i).s (expAt es i).t = true := by
  unfold expB at h
  simp only [Bool.and_eq_true] at h
  exact h.1.2
theorem bufB_rows {cells : List Int} {es : List Exp} (h : bufB cells es = true) (i : Nat) (hi : i < es.length) : (expAt es i).s.length ≤ 4 ∧ (expAt es i).t.length ≤ 4 := viewB_len (expB_view ((bufB_in h).2.2.2 i hi))
theorem smallB_cells {cells : List Int} {es : List Exp} (h : bufB cells es = true) (c2 : List Int) (hc : c2.length ≤ 60) : SmallB (c2, es, true) := by
  obtain ⟨-, h1, h2, -⟩ := bufB_in h
  exact ⟨hc, by show es.length ≤ 9; omega, fun i hi => bufB_rows h i hi⟩
/-- the first n numbers of a list, and 0 where there are none -/
def fitL (xs : List Int) (n : Nat) : List Int := xs.take n ++ List.replicate (n - xs.length) 0
theorem fitL_len (xs : List Int) (n : Nat) : (fitL xs n).length = n := by unfold fitL; simp; omega
/-- ResizeBuffer -/
def resA (cells : List Int) (es : List Exp) (n : Int) : BBool :=
  if bufB cells es && (inB 0 60 n && decide ((selL opP es es.length).length = 0)) then (fitL cells n.toNat, es, true) else noBuf
theorem resA_small (cells : List Int) (es : List Exp) (n : Int) : SmallB (resA cells es n) := by
  unfold resA
  split
  · rename_i h
    simp only [Bool.and_eq_true, inB, decide_eq_true_eq] at h
    exact smallB_cells h.1 _ (by rw [fitL_len]; omega)
  · exact SmallB.no rfl
end Go.Proofs.Ytfbbnbpobojboaa

/- Walks of the laws' own helpers on buffers: conversions. -/
namespace Go.Proofs.Ytfbbnbpobojboaa
open Go.RowKit
set_option linter.unusedVariables false
set_option maxRecDepth 100000

theorem made_flat (zs : List Value) (sz : Nat) (hz : zs.length = sz) (hsz : 0 < sz) (n : Nat) : (madeCells zs.toArray (n * sz)).toList = (List.replicate n zs).flatten := by
 have hall : ∀ c ∈ List.replicate n zs, c.length = sz := fun c hc => by rw [List.eq_of_mem_replicate hc]; exact hz
 refine List.ext_getElem (by rw [flat_len hall]; simp [size_madeCells]) fun i h1 h2 => ?_
 have h : i < n * sz := by simpa [size_madeCells] using h1
 have e : i / sz * sz + i % sz = i := by rw [Nat.mul_comm]; exact Nat.div_add_mod i sz
 have h3 : i / sz < n := Nat.div_lt_of_lt_mul (by rw [Nat.mul_comm]; exact h)
 have h4 : i % sz < sz := Nat.mod_lt _ hsz
 have k := flat_get hall (i / sz) (i % sz) (by simpa using h3) h4
 rw [e, List.getElem?_eq_getElem h2, List.getElem_replicate, List.getElem?_eq_getElem (by omega)] at k
 rw [Option.some.inj k]
 simp [madeCells, hz]
 rw [List.getElem?_eq_getElem (by omega)]; rfl
theorem expAt_rep (n i : Nat) : expAt (List.replicate n noE) i = noE := by
 unfold expAt
 rw [List.getD_eq_getElem?_getD, List.getElem?_replicate]
 split <;> rfl
theorem rowAt_rep (n p : Nat) : rowAt (List.replicate n noE) p = [] := by unfold rowAt; rw [expAt_rep]; split <;> rfl
theorem cellsE_rep (n : Nat) : cellsE (List.replicate n noE) (fun _ => .slice none 0 0) = List.replicate n [.int .i64 0, .int .i64 0, .slice none 0 0, .slice none 0 0, .bool false] := by
 refine List.ext_getElem (by rw [cellsE_len]; simp) fun i h1 h2 => ?_
 rw [cellsE_get, List.getElem_replicate, expAt_rep]; rfl
theorem own_nil (w : World) (lo : Nat) : OwnZ w lo (.slice none 0 0) [] := .inl ⟨rfl, none, 0, rfl, by simp, fun _ => rfl⟩
/-- n exports of zeros -/
theorem ExpR.made {w : World} {lo g n c : Nat} (h : w.ownsRow lo TEXPORT 5 (.slice (some ⟨g, 0, none⟩) n c) n (madeCells #[.int .i64 0, .int .i64 0, .slice none 0 0, .slice none 0 0, .bool false] (n * 5)).toList) :
  ExpR w lo (.slice (some ⟨g, 0, none⟩) n c) (List.replicate n noE) (fun _ => .slice none 0 0) := by
 have e := made_flat [.int .i64 0, .int .i64 0, .slice none 0 0, .slice none 0 0, .bool false] 5 rfl (by omega) n
 change (madeCells #[.int .i64 0, .int .i64 0, .slice none 0 0, .slice none 0 0, .bool false] (n * 5)).toList = _ at e
 rw [e] at h
 refine ⟨⟨?_, fun c hc => ?_⟩, fun p _ => by rw [rowAt_rep]; exact own_nil _ _, fun p _ => by rw [rowAt_rep]; simp, fun p q _ _ hs => absurd (rowAt_rep n p) hs, fun p _ hs => absurd (rowAt_rep n p) hs⟩
 ·
  rw [cellsE_rep, List.length_replicate]; exact h
 ·
  rw [cellsE_rep] at hc; rw [List.eq_of_mem_replicate hc]; rfl
def putR (R : Nat → Value) (k : Nat) (u1 u2 : Value) (p : Nat) : Value := if p = 2 * k then u1 else if p = 2 * k + 1 then u2 else R p
theorem putR_a {R : Nat → Value} {k : Nat} {u1 u2 : Value} : putR R k u1 u2 (2 * k) = u1 := by unfold putR; rw [if_pos rfl]
theorem putR_b {R : Nat → Value} {k : Nat} {u1 u2 : Value} : putR R k u1 u2 (2 * k + 1) = u2 := by unfold putR; rw [if_neg (by omega), if_pos rfl]
theorem putR_o {R : Nat → Value} {k : Nat} {u1 u2 : Value} {p : Nat} (h : p / 2 ≠ k) : putR R k u1 u2 p = R p := by unfold putR; rw [if_neg (by omega), if_neg (by omega)]
section
variable {w w' W : World} {lo : Nat} {es : List Exp} {R : Nat → Value}
/-- the cells of an export in a row of one's own -/
theorem ExpR.cells {g n c : Nat} (h : ExpR w lo (.slice (some ⟨g, 0, none⟩) n c) es R) (hn : n = es.length) (i j : Nat) (hi : i < es.length) (hj : j < 5) :
  w.cell? ⟨g, i * 5 + j, none⟩ = (eCells (expAt es i) (R (2 * i)) (R (2 * i + 1)))[j]? ∧ w.frozen? ⟨g, i * 5 + j, none⟩ = false := by
 subst hn
 have hr := h.row
 have e1 : (.slice (some ⟨g, 0, none⟩) es.length c : Value) = .slice (some ⟨g, 0, none⟩) (cellsE es R).length c := by rw [cellsE_len]
 rw [e1] at hr
 have := hr.cell i j (by rw [cellsE_len]; exact hi) hj
 rw [cellsE_get] at this
 exact this
theorem OwnC.setN {base E sz g n c : Nat} {L : List (List Value)} (h : OwnC w base E sz (.slice (some ⟨g, 0, none⟩) n c) L) (hn : n = L.length) (i j : Nat) (hi : i < L.length) (hj : j < sz) (x : Value) :
  OwnC (w.setCell ⟨g, i * sz + j, none⟩ x) base E sz (.slice (some ⟨g, 0, none⟩) n c) (L.set i ((L[i]).set j x)) := by subst hn; exact h.set i j hi hj x
theorem OwnC.put5 {base E g n c : Nat} {L : List (List Value)} (h : OwnC w base E 5 (.slice (some ⟨g, 0, none⟩) n c) L) (hn : n = L.length) (i : Nat) (hi : i < L.length) (x0 x1 x2 x3 x4 : Value) :
  OwnC (((((w.setCell ⟨g, i * 5, none⟩ x0).setCell ⟨g, i * 5 + 1, none⟩ x1).setCell ⟨g, i * 5 + 2, none⟩ x2).setCell ⟨g, i * 5 + 3, none⟩ x3).setCell ⟨g, i * 5 + 4, none⟩ x4) base E 5 (.slice (some ⟨g, 0, none⟩) n c) (L.set i [x0, x1, x2, x3, x4]) := by
 have hl : L[i].length = 5 := h.2 _ (List.getElem_mem hi)
 obtain ⟨y0, y1, y2, y3, y4, hy⟩ : ∃ y0 y1 y2 y3 y4, L[i] = [y0, y1, y2, y3, y4] := by
  match hL : L[i], hl with
  | [a, b, c, d, e], _ => exact ⟨a, b, c, d, e, rfl⟩
 have r1 := h.setN hn i 0 hi (by omega) x0
 have r2 := r1.setN (by simpa using hn) i 1 (by simpa using hi) (by omega) x1
 have r3 := r2.setN (by simpa using hn) i 2 (by simpa using hi) (by omega) x2
 have r4 := r3.setN (by simpa using hn) i 3 (by simpa using hi) (by omega) x3
 have r5 := r4.setN (by simpa using hn) i 4 (by simpa using hi) (by omega) x4
 simp only [List.getElem_set_self, List.set_set, hy] at r5
 exact r5
/-- an export is written, with rows that came up later than all others -/
theorem ExpR.put {w0 : World} {g c : Nat} {e : Exp} {u1 u2 : Value} (h0 : ExpR w0 lo (.slice (some ⟨g, 0, none⟩) es.length c) es R) (hx : Ext w0 W) (k : Nat) (hk : k < es.length) (o1 : OwnZ W lo u1 e.s) (o2 : OwnZ W lo u2 e.t)
  (l1 : e.s.length ≤ 4194304) (l2 : e.t.length ≤ 4194304) (hd : e.s ≠ [] → e.t ≠ [] → u1.ownBlock ≠ u2.ownBlock) (m1 : e.s ≠ [] → ∀ b, u1.ownBlock = some b → w0.heap.size ≤ b) (m2 : e.t ≠ [] → ∀ b, u2.ownBlock = some b → w0.heap.size ≤ b) :
  ExpR (((((W.setCell ⟨g, k * 5, none⟩ (.int .i64 e.par)).setCell ⟨g, k * 5 + 1, none⟩ (.int .i64 e.b)).setCell ⟨g, k * 5 + 2, none⟩ u1).setCell ⟨g, k * 5 + 3, none⟩ u2).setCell ⟨g, k * 5 + 4, none⟩ (.bool e.op)) lo
   (.slice (some ⟨g, 0, none⟩) es.length c) (es.set k e) (putR R k u1 u2) := by
 have h := h0.ext hx
 have hgl := (h0.blk g rfl).2
 have hk' : k < (cellsE es R).length := by rw [cellsE_len]; exact hk
 have hr := h.row.put5 (cellsE_len es R).symm k hk' (.int .i64 e.par) (.int .i64 e.b) u1 u2 (.bool e.op)
 have hC : Chg g (g + 1) W (((((W.setCell ⟨g, k * 5, none⟩ (.int .i64 e.par)).setCell ⟨g, k * 5 + 1, none⟩ (.int .i64 e.b)).setCell ⟨g, k * 5 + 2, none⟩ u1).setCell ⟨g, k * 5 + 3, none⟩ u2).setCell ⟨g, k * 5 + 4, none⟩ (.bool e.op)) := qCh
 generalize (((((W.setCell ⟨g, k * 5, none⟩ (.int .i64 e.par)).setCell ⟨g, k * 5 + 1, none⟩ (.int .i64 e.b)).setCell ⟨g, k * 5 + 2, none⟩ u1).setCell ⟨g, k * 5 + 3, none⟩ u2).setCell ⟨g, k * 5 + 4, none⟩ (.bool e.op)) = W2 at *
 have hgr : W.grownBy W2 (some g) := ⟨hC.os, hC.tape, hC.output, hC.size, fun b hb hne => hC.block b hb (by
  rcases Nat.lt_or_ge b g with h | h
  ·
   exact .inl h
  ·
   exact .inr (by have : b ≠ g := fun h0 => hne (by rw [h0]); omega))⟩
 have n1 : e.s ≠ [] → u1.ownBlock ≠ some g := fun hs he => by have := m1 hs g he; omega
 have n2 : e.t ≠ [] → u2.ownBlock ≠ some g := fun hs he => by have := m2 hs g he; omega
 have hrow : ∀ p, p / 2 ≠ k → rowAt (es.set k e) p = rowAt es p := fun p hp => by unfold rowAt; simp only [expAt_set es k e _ hk, if_neg hp]
 have hra : rowAt (es.set k e) (2 * k) = e.s := by rw [rowAt_even, expAt_set es k e k hk, if_pos rfl]
 have hrb : rowAt (es.set k e) (2 * k + 1) = e.t := by rw [rowAt_odd, expAt_set es k e k hk, if_pos rfl]
 have old : ∀ p, p < 2 * es.length → rowAt es p ≠ [] → (e.s ≠ [] → (R p).ownBlock ≠ u1.ownBlock) ∧ (e.t ≠ [] → (R p).ownBlock ≠ u2.ownBlock) := fun p hp hs => by
  obtain ⟨b, hb1, -, hlt⟩ := h0.nblk p hp hs
  refine ⟨fun he h2 => ?_, fun he h2 => ?_⟩
  ·
   have := m1 he b (by rw [← h2]; exact hb1); omega
  ·
   have := m2 he b (by rw [← h2]; exact hb1); omega
 have three : ∀ p, p = 2 * k ∨ p = 2 * k + 1 ∨ p / 2 ≠ k := fun p => by omega
 refine ⟨?_, ?_, ?_, ?_, ?_⟩
 ·
  have e2 : cellsE (es.set k e) (putR R k u1 u2) = (cellsE es R).set k [.int .i64 e.par, .int .i64 e.b, u1, u2, .bool e.op] := by
   refine List.ext_getElem (by rw [List.length_set, cellsE_len, cellsE_len, List.length_set]) fun j h1 h2 => ?_
   rw [cellsE_get, List.getElem_set, expAt_set es k e j hk]
   by_cases hj : k = j
   ·
    subst hj; rw [if_pos rfl, if_pos rfl, putR_a, putR_b]; rfl
   ·
    rw [if_neg (by omega), if_neg hj, cellsE_get, putR_o (by omega), putR_o (by omega)]
  rw [e2]; exact hr
 ·
  intro p hp
  rw [List.length_set] at hp
  rcases three p with rfl | rfl | h3
  ·
   rw [putR_a, hra]; exact o1.keptG l1 hgr n1
  ·
   rw [putR_b, hrb]; exact o2.keptG l2 hgr n2
  ·
   rw [putR_o h3, hrow p h3]; exact (h.nest p hp).keptG (h.lens p hp) hgr (fun hs => h.off p hp hs)
 ·
  intro p hp
  rw [List.length_set] at hp
  rcases three p with rfl | rfl | h3
  ·
   rw [hra]; exact l1
  ·
   rw [hrb]; exact l2
  ·
   rw [hrow p h3]; exact h.lens p hp
 ·
  intro p q hpq hq
  rw [List.length_set] at hq
  rcases three p with rfl | rfl | h3
  ·
   rcases three q with rfl | rfl | h4
   ·
    omega
   ·
    rw [putR_a, putR_b, hra, hrb]; exact hd
   ·
    rw [putR_a, hra, putR_o h4, hrow q h4]
    exact fun he hs h2 => (old q hq hs).1 he h2.symm
  ·
   rcases three q with rfl | rfl | h4
   ·
    omega
   ·
    omega
   ·
    rw [putR_b, hrb, putR_o h4, hrow q h4]
    exact fun he hs h2 => (old q hq hs).2 he h2.symm
  ·
   rcases three q with rfl | rfl | h4
   ·
    rw [putR_a, hra, putR_o h3, hrow p h3]
    exact fun hs he => (old p (by omega) hs).1 he
   ·
    rw [putR_b, hrb, putR_o h3, hrow p h3]
    exact fun hs he => (old p (by omega) hs).2 he
   ·
    rw [putR_o h3, hrow p h3, putR_o h4, hrow q h4]
    exact h.apart p q hpq hq
 ·
  intro p hp
  rw [List.length_set] at hp
  rcases three p with rfl | rfl | h3
  ·
   rw [putR_a, hra]; exact n1
  ·
   rw [putR_b, hrb]; exact n2
  ·
   rw [putR_o h3, hrow p h3]; exact h.off p hp
end

/-- a call hands back a new export -/
def PExp (w : World) (x : Exp) (e : Ending) (w' : World) : Prop := ∃ u1 c1 u2 c2, e = .returned (.agg #[.int .i64 x.par, .int .i64 x.b, .slice u1 x.s.length c1, .slice u2 x.t.length c2, .bool x.op]) ∧ OwnZ w' w.heap.size (.slice u1 x.s.length c1) x.s ∧ OwnZ w' w.heap.size (.slice u2 x.t.length c2) x.t ∧
 (x.s ≠ [] → x.t ≠ [] → (Value.slice u1 x.s.length c1).ownBlock ≠ (Value.slice u2 x.t.length c2).ownBlock) ∧ Ext w w'
set_option maxHeartbeats 1600000 in
theorem toExport_c (x : Exp) (a1 a2 : Option Addr) (c1 c2 : Nat) (w : World) (h1 : Raw w (.slice a1 x.s.length c1) x.s) (h2 : Raw w (.slice a2 x.t.length c2) x.t) (m1 : x.s.length ≤ 4194304) (m2 : x.t.length ≤ 4194304) :
  Calls Try.prog 121 #[.agg #[.int .i64 x.par, .int .i64 x.b, .slice a1 x.s.length c1, .slice a2 x.t.length c2, .bool x.op]] w (PExp w x) := by
 obtain ⟨p, b, s, t, o⟩ := x
 dsimp only at h1 h2 m1 m2 ⊢
 go_enter Try.func121, Try.ntmps121
 go_wp2_with fail
 refine (toView_c b _ _ s t _ (h1.ext qXt) (h2.ext qXt) m1 m2).mono ?_
 rintro e w1 ⟨u, v, rfl, iu, iv, ou, ov, hd, x1⟩
 obtain ⟨u1, k1, rfl⟩ := iu.form
 obtain ⟨u2, k2, rfl⟩ := iv.form
 have X1 : Ext w w1 := Ext.trans qXt x1
 have o4 : w1.cell? ⟨w.heap.size, 4, none⟩ = some (.bool o) := x1.cell qCl
 have q0 : w1.cell? ⟨w.heap.size + 1, 0, none⟩ = some (.int .i64 0) := x1.cell qCl
 have q1 : w1.cell? ⟨w.heap.size + 1, 1, none⟩ = some (.int .i64 0) := x1.cell qCl
 have q2 : w1.cell? ⟨w.heap.size + 1, 2, none⟩ = some (.slice none 0 0) := x1.cell qCl
 have q3 : w1.cell? ⟨w.heap.size + 1, 3, none⟩ = some (.slice none 0 0) := x1.cell qCl
 have q4 : w1.cell? ⟨w.heap.size + 1, 4, none⟩ = some (.bool false) := x1.cell qCl
 have y0 : w1.cell? ⟨w.heap.size + 1 + 1, 0, none⟩ = some (.int .i64 p) := x1.cell qCl
 have y1 : w1.cell? ⟨w.heap.size + 1 + 1, 1, none⟩ = some (.int .i64 0) := x1.cell qCl
 have y2 : w1.cell? ⟨w.heap.size + 1 + 1, 2, none⟩ = some (.slice none 0 0) := x1.cell qCl
 have y3 : w1.cell? ⟨w.heap.size + 1 + 1, 3, none⟩ = some (.slice none 0 0) := x1.cell qCl
 have y4 : w1.cell? ⟨w.heap.size + 1 + 1, 4, none⟩ = some (.bool false) := x1.cell qCl
 have fq0 : w1.frozen? ⟨w.heap.size + 1, 0, none⟩ = false := x1.frz (by simp <;> omega) qFz
 have fq1 : w1.frozen? ⟨w.heap.size + 1, 1, none⟩ = false := x1.frz (by simp <;> omega) qFz
 have fq2 : w1.frozen? ⟨w.heap.size + 1, 2, none⟩ = false := x1.frz (by simp <;> omega) qFz
 have fq3 : w1.frozen? ⟨w.heap.size + 1, 3, none⟩ = false := x1.frz (by simp <;> omega) qFz
 have fq4 : w1.frozen? ⟨w.heap.size + 1, 4, none⟩ = false := x1.frz (by simp <;> omega) qFz
 have fy0 : w1.frozen? ⟨w.heap.size + 1 + 1, 0, none⟩ = false := x1.frz (by simp <;> omega) qFz
 have fy1 : w1.frozen? ⟨w.heap.size + 1 + 1, 1, none⟩ = false := x1.frz (by simp <;> omega) qFz
 have fy2 : w1.frozen? ⟨w.heap.size + 1 + 1, 2, none⟩ = false := x1.frz (by simp <;> omega) qFz
 have fy3 : w1.frozen? ⟨w.heap.size + 1 + 1, 3, none⟩ = false := x1.frz (by simp <;> omega) qFz
 have fy4 : w1.frozen? ⟨w.heap.size + 1 + 1, 4, none⟩ = false := x1.frz (by simp <;> omega) qFz
 have z1 : w.heap.size + 1 + 1 < w1.heap.size := qB y0
 replace ou := ou.lower (base' := w.heap.size + 1 + 1 + 1) (by first | (simp; done) | (simp; omega))
 replace ov := ov.lower (base' := w.heap.size + 1 + 1 + 1) (by first | (simp; done) | (simp; omega))
 clear x1 iu iv h1 h2
 go_wp2_with fail
 refine bodyPost_ret (v := .agg #[.int .i64 p, .int .i64 b, .slice u1 s.length k1, .slice u2 t.length k2, .bool o]) (by simp only [results, Try.results121]; go_simp) rfl ?_
 refine ⟨u1, k1, u2, k2, rfl, ?_, ?_, hd, qXt⟩
 ·
  show OwnZ _ _ (.slice u1 s.length k1) s
  exact (ou.chg (lo := w.heap.size + 1) (hi := w.heap.size + 1 + 1 + 1) qCh (Nat.le_refl _)).lower (by omega)
 ·
  show OwnZ _ _ (.slice u2 t.length k2) t
  exact (ov.chg (lo := w.heap.size + 1) (hi := w.heap.size + 1 + 1 + 1) qCh (Nat.le_refl _)).lower (by omega)
/-- a call hands back new exports -/
def PExpS (w : World) (es : List Exp) (e : Ending) (w' : World) : Prop := ∃ v R, e = .returned v ∧ ExpR w' w.heap.size v es R ∧ Ext w w'
theorem fill_len (es : List Exp) (k : Nat) (h : k ≤ es.length) : (es.take k ++ List.replicate (es.length - k) noE).length = es.length := by simp; omega
theorem fill_set (es : List Exp) (k : Nat) (h : k < es.length) : (es.take k ++ List.replicate (es.length - k) noE).set k (expAt es k) = es.take (k+1) ++ List.replicate (es.length - (k+1)) noE := by
 rw [take_expAt h, show es.length - k = (es.length - (k+1)) + 1 by omega, List.replicate_succ]
 rw [List.set_append_right _ _ (by simp; omega), show k - (es.take k).length = 0 by simp; omega, List.set_cons_zero, List.append_assoc]; rfl
set_option maxHeartbeats 3200000 in
theorem toExportS_c (es : List Exp) (v : Value) (w : World) (hv : RawE w v es) (hl : es.length ≤ 1048576) (hm : ∀ i, i < es.length → (expAt es i).s.length ≤ 1048576 ∧ (expAt es i).t.length ≤ 1048576) :
  Calls Try.prog 65 #[v] w (PExpS w es) := by
 obtain ⟨a, cap, rfl, _, hc⟩ := hv
 obtain ⟨i0, hi, hz0, hz1, hz2⟩ := info_parts infoExp
 go_enter Try.func65, Try.ntmps65
 go_wp2_with (at_make; refine wpList_make_full _ rfl _ _ 30 rfl w.heap.size TEXPORT i0 (.agg #[.int .i64 0, .int .i64 0, .slice none 0 0, .slice none 0 0, .bool false]) 5 Try.underlying30 hi hz0 hz1 .i64 .i64 _ _ es.length rfl rfl rfl rfl (by rw [hz2]; omega) (by unfold maxLen; omega) (Nat.le_refl _) ?_)
 intro w1 hown hgr
 have hx : Ext w w1 := (Ext.refl w).grown hgr (by simp)
 have hE := ExpR.made hown
 clear hgr hown hi hz0 hz1 hz2
 go_wp2_with fail
 go_loopw [4] (fun i wr => ∃ (k : Nat) (R : Nat → Value), k ≤ es.length ∧ i = .int .i64 k ∧ ExpR wr w.heap.size (.slice (some ⟨w.heap.size, 0, none⟩) es.length es.length) (es.take k ++ List.replicate (es.length - k) noE) R ∧ Ext w wr) (fun i _ => es.length - (intOf i).toNat)
 case atStart => exact ⟨0, _, Nat.zero_le _, rfl, by simpa using hE, hx⟩
 case round =>
  clear hE hx
  obtain ⟨k, R, hk, rfl, hE, Xr⟩ := hrel
  by_cases hlt : k < es.length
  ·
   have hkI : (k : Int) < es.length := by omega
   obtain ⟨bl, off, u1, c1, u2, c2, rfl, k0, k1, k2, k3, k4, r1, r2, -⟩ := hc k hlt
   obtain ⟨n1, n2⟩ := hm k hlt
   replace k0 := Xr.cell k0
   replace k1 := Xr.cell k1
   replace k2 := Xr.cell k2
   replace k3 := Xr.cell k3
   replace k4 := Xr.cell k4
   replace r1 := r1.ext Xr
   replace r2 := r2.ext Xr
   clear hc hm
   have hfl := fill_len es k hk
   have hgw : w.heap.size < wr.heap.size := (hE.blk _ rfl).2
   go_wp2_with fail
   refine (toExport_c (expAt es k) _ _ _ _ _ (r1.ext qXt) (r2.ext qXt) (by omega) (by omega)).mono ?_
   rintro e w2 ⟨v1, d1, v2, d2, rfl, o1, o2, hd, x2⟩
   have E2 : Ext wr w2 := Ext.trans qXt x2
   have X2 : Ext w w2 := Xr.trans E2
   have cl := fun j hj => (hE.ext E2).cells hfl.symm k j (by omega) hj
   have g0 := (cl 0 (by omega)).1
   have g1 := (cl 1 (by omega)).1
   have g2 := (cl 2 (by omega)).1
   have g3 := (cl 3 (by omega)).1
   have g4 := (cl 4 (by omega)).1
   have f0 := (cl 0 (by omega)).2
   have f1 := (cl 1 (by omega)).2
   have f2 := (cl 2 (by omega)).2
   have f3 := (cl 3 (by omega)).2
   have f4 := (cl 4 (by omega)).2
   simp only [eCells, Nat.add_zero, List.getElem?_cons_zero, List.getElem?_cons_succ] at g0 g1 g2 g3 g4 f0
   have hp := ExpR.put (c := es.length) (e := expAt es k) (by rw [hfl]; exact hE) E2 k (by omega) (o1.lower (by omega)) (o2.lower (by omega)) (by omega) (by omega) hd (fun hs b hb => by obtain ⟨b', hb', hle, -⟩ := o1.lt hs; rw [hb'] at hb; have := Option.some.inj hb; omega) (fun hs b hb => by obtain ⟨b', hb', hle, -⟩ := o2.lt hs; rw [hb'] at hb; have := Option.some.inj hb; omega)
   rw [hfl, fill_set es k hlt] at hp
   replace hp := Lib.hid hp
   clear cl hE o1 o2 hd r1 r2
   generalize (expAt (es.take k ++ List.replicate (es.length - k) noE) k) = Z at g0 g1 g2 g3 g4
   generalize (R (2 * k)) = Z1 at g2
   generalize (R (2 * k + 1)) = Z2 at g3
   go_wp2_with fail
   go_roundw
   case rel => exact ⟨k + 1, _, by omega, by go_num, hp.out, qXt⟩
   case measure => simp [intOf]; omega
  ·
   obtain rfl : k = es.length := by omega
   go_wp2_with fail
   go_ret
   simp only [List.take_length, Nat.sub_self, List.replicate_zero, List.append_nil] at hE
   exact ⟨_, R, rfl, hE, Xr⟩
end Go.Proofs.Ytfbbnbpobojboaa

/- Walks of the laws' own helpers on buffers: marks are written. -/
namespace Go.Proofs.Ytfbbnbpobojboaa
open Go.RowKit
set_option linter.unusedVariables false
set_option maxRecDepth 100000

section
variable {w w' : World} {lo : Nat} {ev : Value} {es : List Exp} {R : Nat → Value}
theorem expAt_setS (es : List Exp) (i : Nat) (e : Exp) (hi : i < es.length) : expAt (es.set i e) i = e := by rw [expAt_set es i e i hi, if_pos rfl]
theorem ExpR.storeN {a n c : Nat} (h : ExpR w lo (.slice (some ⟨a, 0, none⟩) n c) es R) (hn : n = es.length) (i j : Nat) (hi : i < es.length) (hj : j < 5) (x : Value) (e : Exp) (hs : e.s = (expAt es i).s) (ht : e.t = (expAt es i).t)
  (he : (eCells (expAt es i) (R (2 * i)) (R (2 * i + 1))).set j x = eCells e (R (2 * i)) (R (2 * i + 1))) : ExpR (w.setCell ⟨a, i * 5 + j, none⟩ x) lo (.slice (some ⟨a, 0, none⟩) n c) (es.set i e) R := by
 subst hn; exact h.store i j hi hj x e hs ht he
/-- the parent and the base are written -/
theorem ExpR.mark2 {a n c : Nat} (h : ExpR w lo (.slice (some ⟨a, 0, none⟩) n c) es R) (hn : n = es.length) (i : Nat) (hi : i < es.length) (p b : Int) :
  ExpR ((w.setCell ⟨a, i * 5, none⟩ (.int .i64 p)).setCell ⟨a, i * 5 + 1, none⟩ (.int .i64 b)) lo (.slice (some ⟨a, 0, none⟩) n c) (es.set i ⟨p, b, (expAt es i).s, (expAt es i).t, (expAt es i).op⟩) R := by
 have r1 := h.storeN hn i 0 hi (by omega) (.int .i64 p) ⟨p, (expAt es i).b, (expAt es i).s, (expAt es i).t, (expAt es i).op⟩ rfl rfl rfl
 have e1 := expAt_setS es i ⟨p, (expAt es i).b, (expAt es i).s, (expAt es i).t, (expAt es i).op⟩ hi
 have r2 := r1.storeN (by simpa using hn) i 1 (by simpa using hi) (by omega) (.int .i64 b) ⟨p, b, (expAt es i).s, (expAt es i).t, (expAt es i).op⟩ (by rw [e1]) (by rw [e1]) (by rw [e1]; rfl)
 rw [List.set_set] at r2
 exact r2
/-- whether it is open is written -/
theorem ExpR.markO {a n c : Nat} (h : ExpR w lo (.slice (some ⟨a, 0, none⟩) n c) es R) (hn : n = es.length) (i : Nat) (hi : i < es.length) (o : Bool) :
  ExpR (w.setCell ⟨a, i * 5 + 4, none⟩ (.bool o)) lo (.slice (some ⟨a, 0, none⟩) n c) (es.set i ⟨(expAt es i).par, (expAt es i).b, (expAt es i).s, (expAt es i).t, o⟩) R :=
 h.storeN hn i 4 hi (by omega) (.bool o) _ rfl rfl rfl
theorem set_expAt (es : List Exp) (i : Nat) (hi : i < es.length) : es.set i (expAt es i) = es := by
 rw [expAt_get hi, List.set_getElem_self]
/-- the shape is written -/
theorem ExpR.markS (h : ExpR w lo ev es R) (i : Nat) (hi : i < es.length) (xs : List Int) (hl : xs.length = (expAt es i).s.length) (o : OwnZ w' lo (R (2 * i)) xs) (hg : w.grownBy w' (R (2 * i)).ownBlock) (he : (expAt es i).s = [] → w = w') :
  ExpR w' lo ev (es.set i ⟨(expAt es i).par, (expAt es i).b, xs, (expAt es i).t, (expAt es i).op⟩) R := by
 by_cases hs : (expAt es i).s = []
 ·
  obtain rfl := he hs
  have : xs = [] := List.eq_nil_of_length_eq_zero (by rw [hl, hs]; rfl)
  have e : (⟨(expAt es i).par, (expAt es i).b, xs, (expAt es i).t, (expAt es i).op⟩ : Exp) = expAt es i := by rw [this]; conv => rhs; rw [show expAt es i = ⟨(expAt es i).par, (expAt es i).b, (expAt es i).s, (expAt es i).t, (expAt es i).op⟩ from rfl, hs]
  rw [e, set_expAt es i hi]
  exact h
 ·
  have hr : rowAt es (2 * i) ≠ [] := by rw [rowAt_even]; exact hs
  have o2 := h.nest (2 * i + 1) (by omega)
  have l2 := h.lens (2 * i + 1) (by omega)
  have ap := h.apart (2 * i) (2 * i + 1) (by omega) (by omega) hr
  rw [rowAt_odd] at o2 l2 ap
  exact h.rowset i hi _ o (o2.keptG l2 hg (fun ht hh => ap ht hh.symm)) hl rfl rfl rfl rfl (2 * i) (.inl rfl) hr hg
/-- the strides are written -/
theorem ExpR.markT (h : ExpR w lo ev es R) (i : Nat) (hi : i < es.length) (xs : List Int) (hl : xs.length = (expAt es i).t.length) (o : OwnZ w' lo (R (2 * i + 1)) xs) (hg : w.grownBy w' (R (2 * i + 1)).ownBlock) (he : (expAt es i).t = [] → w = w') :
  ExpR w' lo ev (es.set i ⟨(expAt es i).par, (expAt es i).b, (expAt es i).s, xs, (expAt es i).op⟩) R := by
 by_cases hs : (expAt es i).t = []
 ·
  obtain rfl := he hs
  have : xs = [] := List.eq_nil_of_length_eq_zero (by rw [hl, hs]; rfl)
  have e : (⟨(expAt es i).par, (expAt es i).b, (expAt es i).s, xs, (expAt es i).op⟩ : Exp) = expAt es i := by rw [this]; conv => rhs; rw [show expAt es i = ⟨(expAt es i).par, (expAt es i).b, (expAt es i).s, (expAt es i).t, (expAt es i).op⟩ from rfl, hs]
  rw [e, set_expAt es i hi]
  exact h
 ·
  have hr : rowAt es (2 * i + 1) ≠ [] := by rw [rowAt_odd]; exact hs
  have o2 := h.nest (2 * i) (by omega)
  have l2 := h.lens (2 * i) (by omega)
  have ap := fun h1 => h.apart (2 * i) (2 * i + 1) (by omega) (by omega) h1 hr
  rw [rowAt_even] at o2 l2 ap
  exact h.rowset i hi _ (o2.keptG l2 hg (fun ht hh => ap ht hh)) o rfl hl rfl rfl rfl (2 * i + 1) (.inr rfl) hr hg
end
theorem grown_set (w : World) (a o : Nat) (x : Value) : w.grownBy (w.setCell ⟨a, o, none⟩ x) (some a) := by
 have hk : Chg a (a + 1) w (w.setCell ⟨a, o, none⟩ x) := Chg.setCell (p := ⟨a, o, none⟩) (Chg.refl _ _ _) (Nat.le_refl _) (Nat.lt_succ_self _) x
 exact ⟨hk.os, hk.tape, hk.output, hk.size, fun b hb hne => hk.block b hb (by
  rcases Nat.lt_or_ge b a with h | h
  ·
   exact .inl h
  ·
   exact .inr (by have : b ≠ a := fun h0 => hne (by rw [h0]); omega))⟩
/-- ints that lie elsewhere than exports -/
structure Aside (w : World) (lo : Nat) (ev : Value) (es : List Exp) (R : Nat → Value) (cv : Value) (xs : List Int) : Prop where
 own : OwnZ w lo cv xs
 len : xs.length ≤ 4194304
 row : xs ≠ [] → cv.ownBlock ≠ ev.ownBlock
 nest : ∀ p, p < 2 * es.length → rowAt es p ≠ [] → xs ≠ [] → (R p).ownBlock ≠ cv.ownBlock
theorem Aside.set {w : World} {lo a n c : Nat} {es : List Exp} {R : Nat → Value} {cv : Value} {xs : List Int} (h : Aside w lo (.slice (some ⟨a, 0, none⟩) n c) es R cv xs) (o : Nat) (x : Value) : Aside (w.setCell ⟨a, o, none⟩ x) lo (.slice (some ⟨a, 0, none⟩) n c) es R cv xs :=
 ⟨h.own.keptG h.len (grown_set w a o x) h.row, h.len, h.row, h.nest⟩
theorem Aside.kept {w w' : World} {lo : Nat} {ev : Value} {es : List Exp} {R : Nat → Value} {cv : Value} {xs : List Int} (h : Aside w lo ev es R cv xs) (p : Nat) (hp : p < 2 * es.length) (hg : w.grownBy w' (R p).ownBlock) (he : rowAt es p = [] → w = w') : Aside w' lo ev es R cv xs := by
 by_cases hr : rowAt es p = []
 ·
  obtain rfl := he hr; exact h
 ·
  exact ⟨h.own.keptG h.len hg (fun hx hh => h.nest p hp hr hx hh.symm), h.len, h.row, h.nest⟩
theorem Aside.ext {w w' : World} {lo : Nat} {ev : Value} {es : List Exp} {R : Nat → Value} {cv : Value} {xs : List Int} (h : Aside w lo ev es R cv xs) (hx : Ext w w') : Aside w' lo ev es R cv xs := ⟨h.own.ext hx, h.len, h.row, h.nest⟩
/-- all blocks of exports lie below hi -/
structure BelowE (hi : Nat) (ev : Value) (es : List Exp) (R : Nat → Value) : Prop where
 row : ∀ g, ev.ownBlock = some g → g < hi
 nest : ∀ p, p < 2 * es.length → rowAt es p ≠ [] → ∀ g, (R p).ownBlock = some g → g < hi
theorem ExpR.below {w : World} {lo : Nat} {ev : Value} {es : List Exp} {R : Nat → Value} (h : ExpR w lo ev es R) : BelowE w.heap.size ev es R :=
 ⟨fun g hg => (h.blk g hg).2, fun p hp hn g hg => (h.nest p hp).bound hn g hg⟩
theorem mixE_row (k : Int) (es : List Exp) (n i : Nat) (h : n ≤ i) (hn : n ≤ es.length) : rowAt (mixE k es n) (2 * i) = (expAt es i).s ∧ rowAt (mixE k es n) (2 * i + 1) = (expAt es i).t := by
 rw [rowAt_even, rowAt_odd, mixE_at k es n i hn, if_neg (by omega)]; exact ⟨rfl, rfl⟩

set_option maxHeartbeats 3200000 in
theorem markExportS_c (es : List Exp) (R : Nat → Value) (k : Int) (v : Value) (w : World) (lo hi : Nat) (cv : Value) (xs : List Int) (hv : ExpR w lo v es R) (hA : Aside w lo v es R cv xs) (hb : BelowE hi v es R) (hl : es.length ≤ 1048576) (hk : 0 ≤ k) (hk2 : kE k es es.length ≤ 100000000) :
  Calls Try.prog 72 #[v, .int .i64 k] w fun e w' => e = .returned (.int .i64 (kE k es es.length)) ∧ ExpR w' lo v (mixE k es es.length) R ∧ Chg lo hi w w' ∧ OwnZ w' lo cv xs := by
 obtain ⟨a1, c1, rfl⟩ := hv.len
 go_enter Try.func72, Try.ntmps72
 go_wp2_with fail
 go_loopw [1, 5] (fun kk i wr => ∃ (n : Nat), n ≤ es.length ∧ i = .int .i64 n ∧ kk = .int .i64 (kE k es n) ∧ ExpR wr lo (.slice a1 es.length c1) (mixE k es n) R ∧ Chg lo hi w wr ∧ Aside wr lo (.slice a1 es.length c1) es R cv xs) (fun _ i _ => es.length - (intOf i).toNat)
 case atStart => exact ⟨0, Nat.zero_le _, rfl, rfl, by rw [mixE_zero]; exact hv.ext qXt, Chg.of_ext qXt, hA.ext qXt⟩
 case round =>
  obtain ⟨n, hn, rfl, rfl, hE, Xr, Q0⟩ := hrel
  clear hA
  have hk0 : 0 ≤ kE k es n := Int.le_trans hk (kE_mono k es 0 n (Nat.zero_le _))
  by_cases hlt : n < es.length
  ·
   have hkI : (n : Int) < es.length := by omega
   have hs1 : kE k es (n + 1) = kE k es n + 3 + (expAt es n).s.length + (expAt es n).t.length := rfl
   have hs2 := kE_mono k es (n + 1) es.length hlt
   have hmk : mkE k es n = mkE k es n := rfl
   have hml := mixE_len k es n hn
   have hne : es ≠ [] := by intro h; rw [h] at hlt; exact absurd hlt (by simp)
   obtain ⟨g, c, hva, hgo, hgl, hgs, hcc, hcm⟩ := hv.big hne
   injection hva with ha _ hc
   subst ha
   subst hc
   have hgh : g < hi := hb.row g rfl
   have hnl : n < (mixE k es n).length := by rw [hml]; exact hlt
   have hat := mixE_at k es n n hn
   rw [if_neg (by omega)] at hat
   obtain ⟨rr1, rr2⟩ := mixE_row k es n n (Nat.le_refl _) hn
   have cl := fun j hj => hE.cells hml.symm n j hnl hj
   have n1 := hE.nest (2 * n) (by omega)
   have n2 := hE.nest (2 * n + 1) (by omega)
   have m1 := hE.lens (2 * n) (by omega)
   have m2 := hE.lens (2 * n + 1) (by omega)
   rw [rr1] at n1 m1
   rw [rr2] at n2 m2
   obtain ⟨u1, d1, hR1⟩ := (n1.ints m1).form
   obtain ⟨u2, d2, hR2⟩ := (n2.ints m2).form
   have g0 := (cl 0 (by omega)).1
   have g1 := (cl 1 (by omega)).1
   have g2 := (cl 2 (by omega)).1
   have g3 := (cl 3 (by omega)).1
   have g4 := (cl 4 (by omega)).1
   have f0 := (cl 0 (by omega)).2
   have f1 := (cl 1 (by omega)).2
   have f4 := (cl 4 (by omega)).2
   rw [hat, hR1, hR2] at g0 g1 g2 g3 g4
   simp only [eCells, Nat.add_zero, List.getElem?_cons_zero, List.getElem?_cons_succ] at g0 g1 g2 g3 g4 f0
   have hE1 := hE.mark2 hml.symm n hnl (kE k es n) (kE k es n + 1)
   have hW1 : ∃ W1, W1 = (wr.setCell ⟨g, n * 5, none⟩ (.int .i64 (kE k es n))).setCell ⟨g, n * 5 + 1, none⟩ (.int .i64 (kE k es n + 1)) := ⟨_, rfl⟩
   obtain ⟨W1, hW1⟩ := hW1
   rw [← hW1, hat] at hE1
   have X1 : Chg lo hi w W1 := by rw [hW1]; exact (Xr.setCell (p := ⟨g, n * 5, none⟩) hgl hgh _).setCell (p := ⟨g, n * 5 + 1, none⟩) hgl hgh _
   have Q1 : Aside W1 lo (.slice (some ⟨g, 0, none⟩) es.length c1) es R cv xs := by rw [hW1]; exact (Q0.set _ _).set _ _
   replace Q1 := Lib.hid Q1
   clear Q0
   have o1 := hE1.nest (2 * n) (by rw [List.length_set, hml]; omega)
   rw [rowAt_even, expAt_setS _ _ _ hnl] at o1
   replace o1 := Lib.hid o1
   replace hE1 := Lib.hid hE1
   replace hE := Lib.hid hE
   clear cl
   go_wp2_with fail
   rw [← hW1]
   clear hW1
   have q1 := o1.out
   rw [hR1] at q1
   refine (markZ_c (expAt es n).s _ _ W1 lo hi q1 (fun hs b hbb => hb.nest (2 * n) (by omega) (by rw [rowAt_even]; exact hs) b (by rw [hR1]; exact hbb)) m1 (by omega) (by omega)).mono ?_
   rintro e W2 ⟨rfl, o2, K2, G2, E2⟩
   rw [← hR1] at o2 G2
   have hE2 := hE1.out.markS n (by rw [List.length_set]; exact hnl) _ (by rw [ksL_len, expAt_setS _ _ _ hnl]) o2 G2 (fun h => E2 (by rw [expAt_setS _ _ _ hnl] at h; exact h))
   rw [expAt_setS _ _ _ hnl, List.set_set] at hE2
   dsimp only at hE2
   have X2 := X1.trans K2
   have Q2 := Q1.out.kept (2 * n) (by omega) G2 (fun h => E2 (by rw [rowAt_even] at h; exact h))
   replace Q2 := Lib.hid Q2
   clear Q1
   have o3 := hE2.nest (2 * n + 1) (by rw [List.length_set, hml]; omega)
   rw [rowAt_odd, expAt_setS _ _ _ hnl] at o3
   have c2 := hE2.cells (by rw [List.length_set, hml]) n 3 (by rw [List.length_set]; exact hnl) (by omega)
   have c4 := hE2.cells (by rw [List.length_set, hml]) n 4 (by rw [List.length_set]; exact hnl) (by omega)
   rw [expAt_setS _ _ _ hnl, hR1, hR2] at c2 c4
   obtain ⟨g3', -⟩ := c2
   simp only [eCells, List.getElem?_cons_zero, List.getElem?_cons_succ] at g3'
   clear c4 g0 g1 g2 g3 g4 f0 f1 f4 hE1 o1 q1 o2 hE K2
   replace hE2 := Lib.hid hE2
   replace o3 := Lib.hid o3
   go_wp2_with fail
   have q3 := o3.out
   rw [hR2] at q3
   refine (markZ_c (expAt es n).t _ _ W2 lo hi q3 (fun hs b hbb => hb.nest (2 * n + 1) (by omega) (by rw [rowAt_odd]; exact hs) b (by rw [hR2]; exact hbb)) m2 (by omega) (by omega)).mono ?_
   rintro e W3 ⟨rfl, o4, K4, G4, E4⟩
   rw [← hR2] at o4 G4
   have hE3 := hE2.out.markT n (by rw [List.length_set]; exact hnl) _ (by rw [ksL_len, expAt_setS _ _ _ hnl]) o4 G4 (fun h => E4 (by rw [expAt_setS _ _ _ hnl] at h; exact h))
   rw [expAt_setS _ _ _ hnl, List.set_set] at hE3
   dsimp only at hE3
   have X3 := X2.trans K4
   have Q3 := Q2.out.kept (2 * n + 1) (by omega) G4 (fun h => E4 (by rw [rowAt_odd] at h; exact h))
   have Q4 := Q3.set (n * 5 + 4) (.bool (decide ((kE k es n + 1 + 1 + (expAt es n).s.length + (expAt es n).t.length) % 3 = 0)))
   clear Q2 Q3
   have c4 := hE3.cells (by rw [List.length_set, hml]) n 4 (by rw [List.length_set]; exact hnl) (by omega)
   rw [expAt_setS _ _ _ hnl] at c4
   obtain ⟨g4', f4'⟩ := c4
   simp only [eCells, List.getElem?_cons_zero, List.getElem?_cons_succ] at g4'
   have hE4 := hE3.markO (by rw [List.length_set, hml]) n (by rw [List.length_set]; exact hnl) (decide ((kE k es n + 1 + 1 + (expAt es n).s.length + (expAt es n).t.length) % 3 = 0))
   rw [expAt_setS _ _ _ hnl, List.set_set] at hE4
   have hms := mixE_succ k es n hlt
   unfold mkE at hms
   dsimp only at hE4
   rw [← hms] at hE4
   have X4 := X3.setCell (p := ⟨g, n * 5 + 4, none⟩) hgl hgh (.bool (decide ((kE k es n + 1 + 1 + (expAt es n).s.length + (expAt es n).t.length) % 3 = 0)))
   replace hE4 := Lib.hid hE4
   clear hE2 hE3 o3 q3 o4 G4 E4 G2 E2 hms g3'
   go_wp2_with fail
   go_roundw
   case rel => exact ⟨n + 1, by omega, by go_num, by rw [hs1]; congr 1; omega, hE4.out, X4, Q4⟩
   case measure => simp [intOf]; omega
  ·
   obtain rfl : n = es.length := by omega
   go_wp2_with fail
   go_ret
   exact ⟨rfl, hE, Xr, Q0.own⟩
/-- all blocks of a buffer lie below hi -/
structure BelowB (hi : Nat) (cv ev : Value) (cells : List Int) (es : List Exp) (R : Nat → Value) : Prop where
 cel : cells ≠ [] → ∀ g, cv.ownBlock = some g → g < hi
 ex : BelowE hi ev es R
theorem BufR.below {w : World} {lo : Nat} {cv ev : Value} {cells : List Int} {es : List Exp} {R : Nat → Value} (h : BufR w lo cv ev cells es R) : BelowB w.heap.size cv ev cells es R := ⟨h.cel.bound, h.ex.below⟩
theorem ExpR.keptG {w w' : World} {lo : Nat} {ev : Value} {es : List Exp} {R : Nat → Value} {row : Option Nat} (h : ExpR w lo ev es R) (hg : w.grownBy w' row) (h1 : ev.ownBlock = none ∨ ev.ownBlock ≠ row) (h2 : ∀ p, p < 2 * es.length → rowAt es p ≠ [] → (R p).ownBlock ≠ row) : ExpR w' lo ev es R :=
 ⟨h.row.kept hg h1, fun p hp => (h.nest p hp).keptG (h.lens p hp) hg (h2 p hp), h.lens, h.apart, h.off⟩
set_option maxHeartbeats 1600000 in
theorem markBuffer_c (cells : List Int) (es : List Exp) (R : Nat → Value) (k : Int) (cv ev : Value) (w : World) (lo hi : Nat) (hv : BufR w lo cv ev cells es R) (hb : BelowB hi cv ev cells es R) (hw : hi ≤ w.heap.size) (hk : 0 ≤ k) (hk2 : kE (k + cells.length) es es.length ≤ 100000000) :
  Calls Try.prog 21 #[.agg #[cv, ev], .int .i64 k] w fun e w' => e = .returned (.int .i64 (kE (k + cells.length) es es.length)) ∧ BufR w' lo cv ev (ksL k cells.length) (mixE (k + cells.length) es es.length) R ∧ Chg lo hi w w' := by
 have hcl := hv.cl
 have hel := hv.el
 obtain ⟨p0, c0, rfl⟩ := (hv.cel.ints hcl).form
 obtain ⟨p1, c1, rfl⟩ := hv.ex.len
 have h0 : k + cells.length ≤ kE (k + cells.length) es es.length := kE_mono (k + cells.length) es 0 es.length (Nat.zero_le _)
 have X0 : Ext w (w.alloc (.cells #[.slice p0 cells.length c0, .slice p1 es.length c1] 32)) := qXt
 go_enter Try.func21, Try.ntmps21
 go_wp2_with fail
 refine (markZ_c cells _ k _ lo hi (hv.cel.ext qXt) hb.cel hcl (by omega) (by omega)).mono ?_
 rintro e w1 ⟨rfl, o1, K1, G1, E1⟩
 have b1 : w1.cell? ⟨w.heap.size, 1, none⟩ = some (.slice p1 es.length c1) := K1.cell (.inr hw) qCl
 have K2 : Chg lo hi w w1 := (Chg.of_ext X0).trans K1
 have hne : cells ≠ [] → ksL k cells.length ≠ [] := fun h h2 => h (List.eq_nil_of_length_eq_zero (by rw [← ksL_len k cells.length, h2]; rfl))
 have hen : ksL k cells.length ≠ [] → cells ≠ [] := fun h h2 => h (by rw [h2]; rfl)
 have x1 : ExpR w1 lo (.slice p1 es.length c1) es R := by
  by_cases hc : cells = []
  ·
   have := E1 hc
   rw [← this]
   exact hv.ex.ext X0
  ·
   exact (hv.ex.ext X0).keptG G1 (.inr (fun h => hv.offc hc h.symm)) (fun p hp hn => hv.offr p hp hn hc)
 have A1 : Aside w1 lo (.slice p1 es.length c1) es R (.slice p0 cells.length c0) (ksL k cells.length) := ⟨o1, by rw [ksL_len]; exact hcl, fun h => hv.offc (hen h), fun p hp hn h => hv.offr p hp hn (hen h)⟩
 clear G1 E1 o1 K1
 go_wp2_with fail
 refine (markExportS_c es R _ _ _ lo hi _ _ x1 A1 hb.ex hel (by omega) hk2).mono ?_
 rintro e w2 ⟨rfl, x2, K3, o2⟩
 have K4 := K2.trans K3
 have hml := mixE_len (k + cells.length) es es.length (Nat.le_refl _)
 have hrow : ∀ p, p < 2 * es.length → rowAt (mixE (k + cells.length) es es.length) p ≠ [] → rowAt es p ≠ [] := fun p hp h h2 => by
  apply h
  have e := mixE_at (k + cells.length) es es.length (p / 2) (Nat.le_refl _)
  rw [if_pos (show p / 2 < es.length by omega)] at e
  unfold rowAt at h2 ⊢
  rw [e]
  by_cases hp2 : p % 2 = 0
  ·
   rw [if_pos hp2] at h2 ⊢; unfold mkE; dsimp only; rw [h2]; rfl
  ·
   rw [if_neg hp2] at h2 ⊢; unfold mkE; dsimp only; rw [h2]; rfl
 generalize hKE : kE (k + cells.length) es es.length = KE at *
 go_wp2_with fail
 go_ret
 exact ⟨by rw [hKE]; rfl, ⟨o2, x2, by rw [ksL_len]; exact hcl, by rw [hml]; exact hel, fun h => hv.offc (hen h), fun p hp hn h => hv.offr p (by omega) (hrow p (by omega) hn) (hen h)⟩, K4⟩
end Go.Proofs.Ytfbbnbpobojboaa

/- Walks: NewView of the reference: an empty row of strides has no capacity. -/
namespace Go.Proofs.Ytfbbnbpobojboaa
open Go.RowKit
set_option linter.unusedVariables false
set_option maxRecDepth 100000

def PViewE (w : World) (b : Int) (s t : List Int) (e : Ending) (w' : World) : Prop := PView w b s t e w' ∧ (t = [] → ∃ b' u a, e = .returned (.agg #[b', u, .slice a 0 0]))
/-- strides of an empty shape: none, and no capacity -/
theorem PViewE.open {w w' : World} {b : Int} {s t : List Int} {e : Ending} (h : PViewE w b s t e w') : ∃ (p1 p2 : Option Addr) (n1 r1 n2 r2 : Nat), e = .returned (.agg #[.int .i64 b, .slice p1 n1 r1, .slice p2 n2 r2]) ∧ OwnZ w' w.heap.size (.slice p1 n1 r1) s ∧ OwnZ w' w.heap.size (.slice p2 n2 r2) t ∧
    (s ≠ [] → t ≠ [] → (Value.slice p1 n1 r1).ownBlock ≠ (Value.slice p2 n2 r2).ownBlock) ∧ (t = [] → n2 = 0 ∧ r2 = 0) ∧ Ext w w' := by
  obtain ⟨⟨sh, st, rfl, -, -, o1, o2, od, x⟩, hE⟩ := h
  obtain ⟨p1, n1, r1, rfl⟩ := o1.form
  obtain ⟨p2, n2, r2, rfl⟩ := o2.form
  refine ⟨p1, p2, n1, r1, n2, r2, rfl, o1, o2, od, fun ht => ?_, x⟩
  obtain ⟨b', u, a, h⟩ := hE ht
  simp at h
  exact ⟨h.2.2.2.1, h.2.2.2.2⟩

end Go.Proofs.Ytfbbnbpobojboaa

/- Walks: a drawn view. -/
namespace Go.Proofs.Ytfbbnbpobojboaa
open Go.RowKit
set_option linter.unusedVariables false
set_option maxRecDepth 100000


theorem VAt.open {B g : Nat} {w : World} {b : Int} {u v : Value} {s t : List Int} (h : VAt B g w b u v s t) : ∃ a1 c1 a2 c2, u = .slice a1 s.length c1 ∧ v = .slice a2 t.length c2 := by
  obtain ⟨a1, c1, h1⟩ := (h.o1.ints (by have := h.le; omega)).form
  obtain ⟨a2, c2, h2⟩ := (h.o2.ints (by have := h.le; have := h.fit; omega)).form
  exact ⟨a1, c1, a2, c2, h1, h2⟩

end Go.Proofs.Ytfbbnbpobojboaa

/- Walks: a drawn view that may be no view. -/
namespace Go.Proofs.Ytfbbnbpobojboaa
open Go.RowKit
set_option linter.unusedVariables false
set_option maxRecDepth 100000


theorem OwnZ.chgI {lo hi B : Nat} {w w' : World} {y : Value} {xs : List Int} (h : OwnZ w B y xs) (k : Chg lo hi w w') (hne : xs ≠ [] → ∀ g, y.ownBlock = some g → g < lo ∨ hi ≤ g) : OwnZ w' B y xs := by
  rcases h with ho | ho
  · exact .inl ho
  · by_cases hx : xs = []
    · subst hx
      rcases ho.2 with ⟨h2, _⟩ | ⟨g', cap, cur, rfl, hb, hh, r⟩
      · subst h2; exact .inl ⟨rfl, none, 0, rfl, by simp, fun _ => rfl⟩
      · exact .inl ⟨rfl, some ⟨g', 0, none⟩, cap, rfl, r.2.1, fun h => by cases h⟩
    · obtain ⟨g', cap, e, _⟩ := ho.row hx
      subst e
      exact .inr (ho.chgN k (hne hx g' rfl))
/-- a view that need be none lies in block gv -/
def SAt (rb q gv : Nat) (w wx : World) : Prop := ∃ (b : Int) (s t : List Int) (p1 p2 : Option Addr) (n1 r1 n2 r2 : Nat), wx.cell? ⟨gv, 0, none⟩ = some (.int .i64 b) ∧ wx.cell? ⟨gv, 1, none⟩ = some (.slice p1 n1 r1) ∧ wx.cell? ⟨gv, 2, none⟩ = some (.slice p2 n2 r2) ∧
  OwnZ wx (w.heap.size + 1) (.slice p1 n1 r1) s ∧ OwnZ wx (w.heap.size + 1) (.slice p2 n2 r2) t ∧ (s.length ≤ 4 ∧ t.length ≤ 5) ∧ VAt (w.heap.size + 1) w.heap.size wx 0 (.slice none 0 0) (.slice none 0 0) [] [] ∧ Rd wx rb q ∧ Rch rb w wx
theorem SAt.of {rb q gv : Nat} {w wx : World} {b : Int} {p1 p2 : Option Addr} {n1 r1 n2 r2 : Nat} {s t : List Int} (V : VAt (w.heap.size + 1) gv wx b (.slice p1 n1 r1) (.slice p2 n2 r2) s t) (Q : VAt (w.heap.size + 1) w.heap.size wx 0 (.slice none 0 0) (.slice none 0 0) [] []) (hr : Rd wx rb q) (X : Rch rb w wx) : SAt rb q gv w wx :=
  ⟨b, s, t, p1, p2, n1, r1, n2, r2, V.c0, V.c1, V.c2, V.o1, V.o2, ⟨V.le, by have := V.fit; have := V.le; omega⟩, Q, hr, X⟩
theorem SAt.put {rb q gv : Nat} {w w9 : World} {b : Int} {p1 p2 : Option Addr} {n1 r1 n2 r2 : Nat} {v2 : Value} {s t : List Int} (c0 : w9.cell? ⟨gv, 0, none⟩ = some (.int .i64 b)) (c1 : w9.cell? ⟨gv, 1, none⟩ = some (.slice p1 n1 r1)) (c2 : w9.cell? ⟨gv, 2, none⟩ = some v2) (f2 : w9.frozen? ⟨gv, 2, none⟩ = false)
    (o1 : OwnZ w9 (w.heap.size + 1) (.slice p1 n1 r1) s) (o2 : OwnZ w9 (w.heap.size + 1) (.slice p2 n2 r2) t) (m1 : s ≠ [] → ∀ g, (Value.slice p1 n1 r1).ownBlock = some g → g ≠ gv) (m2 : ∀ g, (Value.slice p2 n2 r2).ownBlock = some g → g ≠ gv) (hl : s.length ≤ 4 ∧ t.length ≤ 5)
    (Q : VAt (w.heap.size + 1) w.heap.size w9 0 (.slice none 0 0) (.slice none 0 0) [] []) (hr : Rd w9 rb q) (X : Rch rb w w9) (hg : w.heap.size < gv) (hrb : rb < w.heap.size) : SAt rb q gv w (w9.setCell ⟨gv, 2, none⟩ (.slice p2 n2 r2)) := by
  have k : Chg gv (gv + 1) w9 (w9.setCell ⟨gv, 2, none⟩ (.slice p2 n2 r2)) := (Chg.refl gv (gv + 1) w9).setCell (p := ⟨gv, 2, none⟩) (Nat.le_refl _) (Nat.lt_succ_self _) _
  exact ⟨b, s, t, p1, p2, n1, r1, n2, r2, by go_simp, by go_simp, by go_simp, o1.chgI k (fun h g hg' => by have := m1 h g hg'; omega), o2.chgI k (fun _ g hg' => by have := m2 g hg'; omega), hl,
    Q.chgB k (by omega) (fun h => absurd rfl h) (fun h => absurd rfl h), Rd.set2 (show rb < gv by omega) hr, X.set (show w.heap.size ≤ gv by omega) _⟩

end Go.Proofs.Ytfbbnbpobojboaa

/- Words for memory: buffers with one export more, with an export closed, with other cells. No condition. -/
namespace Go.Proofs.Ytfbbnbpobojboaa
open Go.RowKit
set_option linter.unusedVariables false
set_option maxRecDepth 100000

section
variable {w w' W : World} {lo lo2 : Nat} {cv ev v' : Value} {cells : List Int} {es : List Exp} {R : Nat → Value} {e : Exp} {u1 u2 : Value}
end
/-- where the rows of a buffer lie -/
structure BufAt (P : Nat → Prop) (cv ev : Value) (cells : List Int) (es : List Exp) (R : Nat → Value) : Prop where
  c : cells ≠ [] → ∀ g, cv.ownBlock = some g → P g
  e : ∀ g, ev.ownBlock = some g → P g
  r : ∀ p, p < 2 * es.length → rowAt es p ≠ [] → ∀ g, (R p).ownBlock = some g → P g
/-- a buffer in rows below m, from lo up to m2, and from lo3 on -/
structure BufS (w : World) (lo2 m lo m2 lo3 : Nat) (cv ev : Value) (cells : List Int) (es : List Exp) (R : Nat → Value) : Prop where
  buf : BufR w lo2 cv ev cells es R
  loc : BufAt (fun g => g < m ∨ (lo ≤ g ∧ g < m2) ∨ lo3 ≤ g) cv ev cells es R
section
variable {w w' W : World} {lo lo2 m m2 lo3 : Nat} {cv ev v' : Value} {cells : List Int} {es : List Exp} {R : Nat → Value} {e : Exp} {u1 u2 : Value}
theorem BufR.at (h : BufR w lo cv ev cells es R) : BufAt (fun g => lo ≤ g ∧ g < w.heap.size) cv ev cells es R :=
  ⟨fun hc g hg => by obtain ⟨g', h1, h2, h3⟩ := h.cel.lt hc; rw [hg] at h1; cases h1; exact ⟨h2, h3⟩, fun g hg => h.ex.blk g hg,
   fun p hp hs g hg => by obtain ⟨g', h1, h2, h3⟩ := h.ex.nblk p hp hs; rw [hg] at h1; cases h1; exact ⟨h2, h3⟩⟩
theorem OwnC.chgO {base E sz l hi : Nat} {v : Value} {L : List (List Value)} (h : OwnC w base E sz v L) (k : Chg l hi w w') (hb : ∀ g, v.ownBlock = some g → g < l ∨ hi ≤ g) : OwnC w' base E sz v L := by
  refine ⟨⟨h.1.1, ?_⟩, h.2⟩
  rcases h.1.2 with h2 | ⟨g, cap, cur, hv, hg, hh, r⟩
  · exact .inl h2
  · exact .inr ⟨g, cap, cur, hv, hg, (k.block g (Array.getElem?_eq_some_iff.1 hh).1 (hb g (by rw [hv]; rfl))).trans hh, r⟩
theorem BufR.chgO {l hi : Nat} {P : Nat → Prop} (h : BufR w lo cv ev cells es R) (q : BufAt P cv ev cells es R) (k : Chg l hi w w') (hP : ∀ g, P g → g < l ∨ hi ≤ g) : BufR w' lo cv ev cells es R :=
  ⟨h.cel.chgI k (fun hn g hg => hP g (q.c hn g hg)), ⟨h.ex.row.chgO k (fun g hg => hP g (q.e g hg)), fun p hp => (h.ex.nest p hp).chgI k (fun hn g hg => hP g (q.r p hp hn g hg)), h.ex.lens, h.ex.apart, h.ex.off⟩, h.cl, h.el, h.offc, h.offr⟩
theorem BufS.chg {l hi : Nat} (h : BufS w lo2 m lo m2 lo3 cv ev cells es R) (k : Chg l hi w w') (hb : m ≤ l ∧ (hi ≤ lo ∨ m2 ≤ l) ∧ hi ≤ lo3) : BufS w' lo2 m lo m2 lo3 cv ev cells es R :=
  ⟨h.buf.chgO h.loc k (fun g hg => by rcases hg with hg | hg | hg <;> omega), h.loc⟩
theorem BufS.ext (h : BufS w lo2 m lo m2 lo3 cv ev cells es R) (hx : Ext w w') : BufS w' lo2 m lo m2 lo3 cv ev cells es R := ⟨h.buf.ext hx, h.loc⟩
theorem BufS.ints (h : BufS w lo2 m lo m2 lo3 cv ev cells es R) : Ints w lo2 cv cells := h.buf.ints
theorem BufS.exps (h : BufS w lo2 m lo m2 lo3 cv ev cells es R) : Exps w lo2 ev es := h.buf.exps
/-- other cells, that came up later than the buffer's rows -/
theorem BufR.cellsQ {cv2 : Value} {c2 : List Int} (h : BufR W lo cv ev cells es R) (hl : lo2 ≤ lo) (q : BufAt (fun g => lo3 ≤ g ∧ g < m2) cv ev cells es R) (o : OwnZ W lo2 cv2 c2) (hc : c2.length ≤ 4194304) (m : c2 ≠ [] → ∀ g, cv2.ownBlock = some g → m2 ≤ g) : BufR W lo2 cv2 ev c2 es R := by
  refine ⟨o, h.ex.lower hl, hc, h.el, fun hn h2 => ?_, fun p hp hs hn h2 => ?_⟩
  · obtain ⟨g, hg1, -, -⟩ := o.lt hn
    have := (q.e g (by rw [← h2]; exact hg1)).2
    have := m hn g hg1
    omega
  · obtain ⟨g, hg1, -, -⟩ := o.lt hn
    have := (q.r p hp hs g (by rw [h2]; exact hg1)).2
    have := m hn g hg1
    omega
end
/-- a buffer in rows from lo up to m2 -/
structure BufT (w : World) (lo m2 : Nat) (cv ev : Value) (cells : List Int) (es : List Exp) (R : Nat → Value) : Prop where
  buf : BufR w lo cv ev cells es R
  loc : BufAt (fun g => lo ≤ g ∧ g < m2) cv ev cells es R
section
variable {w w' : World} {lo m2 : Nat} {cv ev : Value} {cells : List Int} {es : List Exp} {R : Nat → Value}
theorem BufT.of (h : BufR w lo cv ev cells es R) (q : BufAt (fun g => lo ≤ g ∧ g < m2) cv ev cells es R) : BufT w lo m2 cv ev cells es R := ⟨h, q⟩
theorem BufT.ext (h : BufT w lo m2 cv ev cells es R) (hx : Ext w w') : BufT w' lo m2 cv ev cells es R := ⟨h.buf.ext hx, h.loc⟩
theorem BufT.chg {l hi : Nat} (h : BufT w lo m2 cv ev cells es R) (k : Chg l hi w w') (hb : hi ≤ lo ∨ m2 ≤ l) : BufT w' lo m2 cv ev cells es R := ⟨h.buf.chgO h.loc k (fun g hg => by omega), h.loc⟩
theorem BufT.ints (h : BufT w lo m2 cv ev cells es R) : Ints w lo cv cells := h.buf.ints
theorem BufT.exps (h : BufT w lo m2 cv ev cells es R) : Exps w lo ev es := h.buf.exps
end
end Go.Proofs.Ytfbbnbpobojboaa

/- The builtin copy on a row of ints. No condition. -/
namespace Go.Proofs.Ytfbbnbpobojboaa
open Go.RowKit
set_option linter.unusedVariables false
set_option maxRecDepth 100000

/-- a list after another one was copied to its start -/
def cpL (xs ys : List Int) : List Int := ys.take xs.length ++ xs.drop ys.length
theorem cpL_len (xs ys : List Int) : (cpL xs ys).length = xs.length := by unfold cpL; simp; omega
theorem wpList_copyI {w : World} {ops : Array Oper} {rest : List Oper} {o : Oper} {a : Act} {Q : Exit → Act → World → Prop} (hgd : o.guard = none) (d s : Operand)
    (ho : o.op = .call { callee := .builtin .copy, args := #[d, s], argTypes := #[22, 22] }) {g n c base lo : Nat} {src : Value} {xs ys : List Int}
    (hd : a.eval d = .slice (some ⟨g, 0, none⟩) n c) (hs : a.eval s = src) (O : OwnI w base (.slice (some ⟨g, 0, none⟩) n c) xs) (I : Ints w lo src ys)
    (h : ∀ w' (r : Int), OwnI w' base (.slice (some ⟨g, 0, none⟩) n c) (cpL xs ys) → Chg g (g + 1) w w' → wpList Try.prog ops Q rest (a.put o.dst (goInt r)) w') : wpList Try.prog ops Q (o :: rest) a w := by
  have hsz : (Try.prog.info? 3).map (·.size) = some 1 := by kernel_rfl
  have hn : n = xs.length := by
    rcases O.2 with ⟨h2, _⟩ | ⟨g', cap, cur, hv, _⟩
    · cases h2
    · cases hv; rfl
  obtain ⟨p, cp, rfl⟩ := I.form
  by_cases h0 : min ys.length xs.length = 0
  · refine wpList_copy_nothing hgd d s 22 22 ho 3 Try.underlying22 hsz _ _ _ _ _ _ hd hs (by subst hn; exact h0) ?_
    have e : cpL xs ys = xs := by
      unfold cpL
      rcases Nat.eq_zero_or_pos ys.length with hy | hy
      · obtain rfl := List.eq_nil_of_length_eq_zero hy; simp
      · obtain rfl := List.eq_nil_of_length_eq_zero (show xs.length = 0 by omega); simp
    exact h w 0 (by rw [e]; exact O) (Chg.refl _ _ _)
  · obtain ⟨b, of, rfl, -⟩ := I.at 0 (by omega)
    obtain ⟨hl, hO⟩ := O
    rcases hO with ⟨h2, _⟩ | ⟨g', cap, cur, hv, hb, hh, hc1, hc2, hcs, htk⟩
    · cases h2
    · cases hv
      clear hn
      have hcl : ((ys.take xs.length).map (Value.int .i64)).length = min ys.length xs.length := by simp; omega
      have hcur : xs.length ≤ cur.size := by omega
      refine wpList_copy_own hgd d s 22 22 ho 3 Try.underlying22 hsz g 0 _ _ ⟨b, of, none⟩ _ _ hd hs cur 3 hh ((ys.take xs.length).map (Value.int .i64)) (by rw [hcl]) ?_ (by rw [hcl]; omega) ?_ ?_
      · intro j v hj
        rw [List.getElem?_map, List.getElem?_take] at hj
        split at hj
        · rename_i hjx
          rcases Nat.lt_or_ge j ys.length with hjy | hjy
          · obtain ⟨b', of', e, hc⟩ := I.at j hjy
            cases e
            rw [List.getElem?_eq_getElem hjy] at hj
            have e7 : (⟨b, of, none⟩ : Addr).add j = ⟨b, of + j, none⟩ := by unfold Addr.add; split <;> simp_all
            rw [e7, hc, List.getD_eq_getElem?_getD, List.getElem?_eq_getElem hjy]
            simpa using hj
          · rw [List.getElem?_eq_none hjy] at hj; cases hj
        · cases hj
      · intro v hv
        obtain ⟨x, -, rfl⟩ := List.mem_map.1 hv
        rfl
      · rw [hcl]
        have hset := fun cs => setRow_heap w g cur cs 3 (0, 0) hh
        refine h _ _ ⟨by simp, .inr ⟨g, c, _, (by rw [cpL_len]), hb, hset _, by rw [cpL_len]; exact hc1, hc2, ?_, ?_⟩⟩ ⟨rfl, rfl, rfl, by simp [World.setRow], fun k hk hne => setRow_other w g k _ (by omega)⟩
        · simp; omega
        · rw [cpL_len]
          unfold cpL
          simp only [List.take_zero, List.nil_append, Nat.zero_add, List.map_append, Nat.mul_one] at htk ⊢
          rw [List.take_append, hcl, List.take_of_length_le (by rw [hcl]; omega)]
          refine congrArg (List.map (Value.int .i64) (ys.take xs.length) ++ ·) ?_
          rw [List.map_drop, ← htk]
          rcases Nat.le_total ys.length xs.length with hle | hle
          · rw [Nat.min_eq_left hle, List.drop_take]
          · rw [Nat.min_eq_right hle, Nat.sub_self, List.take_zero, List.drop_eq_nil_of_le (by rw [List.length_take]; omega)]
end Go.Proofs.Ytfbbnbpobojboaa

/- Walks: ResizeBuffer of both. -/
namespace Go.Proofs.Ytfbbnbpobojboaa
open Go.RowKit
set_option linter.unusedVariables false
set_option maxRecDepth 100000


theorem fit_step {xs : List Int} {N k : Nat} (h1 : k < N) (h2 : k < xs.length) : xs.take (k+1) ++ List.replicate (N - (k+1)) 0 = (xs.take k ++ List.replicate (N - k) 0).set k (xs.getD k 0) := by
 refine List.ext_getElem (by simp; omega) fun j a b => ?_
 rw [List.getElem_set]
 simp only [List.getElem_append, List.length_take, List.getElem_take, List.getElem_replicate]
 by_cases hj : k = j
 ·
  subst hj
  rw [if_pos rfl, dif_pos (by omega), List.getD_eq_getElem?_getD, List.getElem?_eq_getElem h2]; rfl
 ·
  rw [if_neg hj]
  by_cases hk : j < k
  ·
   rw [dif_pos (by omega), dif_pos (by omega)]
  ·
   rw [dif_neg (by omega), dif_neg (by omega)]
theorem fit_end {xs : List Int} {N k : Nat} (h : (k ≤ N ∧ k ≤ xs.length) ∧ (k = N ∨ k = xs.length)) : xs.take k ++ List.replicate (N - k) 0 = fitL xs N := by
 unfold fitL
 rcases h.2 with rfl | rfl
 ·
  rw [Nat.sub_self, show k - xs.length = 0 by omega]
 ·
  rw [List.take_of_length_le (Nat.le_refl _), List.take_of_length_le (by omega)]

set_option maxHeartbeats 3200000 in
theorem specResizeBuffer_c (cells : List Int) (es : List Exp) (cv ev : Value) (n : Int) (w : World) (l1 l2 : Nat) (h1 : Ints w l1 cv cells) (h2 : Exps w l2 ev es) :
  Calls Try.prog 29 #[.agg #[cv, ev], .int .i64 n] w (PBX w (resA cells es n)) := by
 obtain ⟨p0, c0, rfl⟩ := h1.form
 obtain ⟨p1, c1, rfl⟩ := h2.form
 have he1 := h2.len
 have hc1 := h1.len
 go_enter Try.func29, Try.ntmps29
 go_wp2_with fail
 refine (validBuffer_c cells es (.slice p0 cells.length c0) (.slice p1 es.length c1) _ _ _ (h1.ext qXt) (h2.ext qXt)).mono ?_
 rintro e w1 ⟨rfl, xw1⟩
 have Lw1 : Ext w w1 := Ext.trans qXt xw1
 have Xw1 : Ext w w1 := Lw1
 have b10 : w1.cell? ⟨w.heap.size, 0, none⟩ = some (.slice p0 cells.length c0) := xw1.cell qCl
 have b11 : w1.cell? ⟨w.heap.size, 1, none⟩ = some (.slice p1 es.length c1) := xw1.cell qCl
 have b20 : w1.cell? ⟨w.heap.size + 1, 0, none⟩ = some (.slice none 0 0) := xw1.cell qCl
 have b21 : w1.cell? ⟨w.heap.size + 1, 1, none⟩ = some (.slice none 0 0) := xw1.cell qCl
 have f_b20 : w1.frozen? ⟨w.heap.size + 1, 0, none⟩ = false := xw1.frz (by simp <;> omega) qFz
 have f_b21 : w1.frozen? ⟨w.heap.size + 1, 1, none⟩ = false := xw1.frz (by simp <;> omega) qFz
 have z_b1 : w.heap.size < w1.heap.size := qB b10
 have z_b2 : w.heap.size + 1 < w1.heap.size := qB b20
 have s_w1 : w.heap.size ≤ w1.heap.size := Xw1.size
 clear xw1
 cases hB3 : bufB cells es
 ·
  replace hB3 := Lib.hid hB3
  go_wp2_with fail
  generalize hW1 : ((w1.setCell ⟨w.heap.size + 1, 0, none⟩ (.slice none 0 0)).setCell ⟨w.heap.size + 1, 1, none⟩ (.slice none 0 0)) = w2 at *
  have Kw2 : Chg (w.heap.size + 1) (w.heap.size + 1 + 1) w1 w2 := by subst hW1; exact qCh
  have Xw2 : Ext w w2 := by subst hW1; exact qXt
  replace b10 := Kw2.cell (by omega) b10
  replace b11 := Kw2.cell (by omega) b11
  replace b20 : w2.cell? ⟨w.heap.size + 1, 0, none⟩ = some (.slice none 0 0) := by subst hW1; go_simp
  replace f_b20 : w2.frozen? ⟨w.heap.size + 1, 0, none⟩ = false := by subst hW1; first | (simp only [World.frozen?_setCell]; with_reducible assumption) | go_simp
  replace b21 : w2.cell? ⟨w.heap.size + 1, 1, none⟩ = some (.slice none 0 0) := by subst hW1; go_simp
  replace f_b21 : w2.frozen? ⟨w.heap.size + 1, 1, none⟩ = false := by subst hW1; first | (simp only [World.frozen?_setCell]; with_reducible assumption) | go_simp
  clear Kw2
  have z_b1 : w.heap.size < w2.heap.size := qB b10
  have z_b2 : w.heap.size + 1 < w2.heap.size := qB b20
  have s_w2 : w.heap.size ≤ w2.heap.size := Xw2.size
  clear hW1
  refine bodyPost_ret (v := .tuple #[.agg #[.slice none 0 0, .slice none 0 0], .bool false]) (by simp only [results, Try.results29]; go_simp) rfl ?_
  exact PBX.no (by unfold resA; rw [hB3.out]; rfl) (Xw2.trans qXt)
 ·
  replace hB3 := Lib.hid hB3
  have hbb : Hid (bufB cells es = true) := Lib.hid hB3.out
  have hoa : Hid (openA cells es = selL opP es es.length) := Lib.hid (by unfold openA; rw [hbb.out]; rfl)
  have hc60 := (bufB_in hbb.out).2.1
  go_wp2_with fail
  refine (inRange_c n 0 60 _).mono ?_
  rintro e w' ⟨rfl, rfl⟩
  cases hB4 : inB 0 60 n
  ·
   replace hB4 := Lib.hid hB4
   go_wp2_with fail
   generalize hW2 : ((w1.setCell ⟨w.heap.size + 1, 0, none⟩ (.slice none 0 0)).setCell ⟨w.heap.size + 1, 1, none⟩ (.slice none 0 0)) = w2 at *
   have Kw2 : Chg (w.heap.size + 1) (w.heap.size + 1 + 1) w1 w2 := by subst hW2; exact qCh
   have Xw2 : Ext w w2 := by subst hW2; exact qXt
   replace b10 := Kw2.cell (by omega) b10
   replace b11 := Kw2.cell (by omega) b11
   replace b20 : w2.cell? ⟨w.heap.size + 1, 0, none⟩ = some (.slice none 0 0) := by subst hW2; go_simp
   replace f_b20 : w2.frozen? ⟨w.heap.size + 1, 0, none⟩ = false := by subst hW2; first | (simp only [World.frozen?_setCell]; with_reducible assumption) | go_simp
   replace b21 : w2.cell? ⟨w.heap.size + 1, 1, none⟩ = some (.slice none 0 0) := by subst hW2; go_simp
   replace f_b21 : w2.frozen? ⟨w.heap.size + 1, 1, none⟩ = false := by subst hW2; first | (simp only [World.frozen?_setCell]; with_reducible assumption) | go_simp
   clear Kw2
   have z_b1 : w.heap.size < w2.heap.size := qB b10
   have z_b2 : w.heap.size + 1 < w2.heap.size := qB b20
   have s_w2 : w.heap.size ≤ w2.heap.size := Xw2.size
   clear hW2
   refine bodyPost_ret (v := .tuple #[.agg #[.slice none 0 0, .slice none 0 0], .bool false]) (by simp only [results, Try.results29]; go_simp) rfl ?_
   exact PBX.no (by unfold resA; rw [hbb.out, hB4.out]; rfl) (Xw2.trans qXt)
  ·
   replace hB4 := Lib.hid hB4
   have hin : Hid (inB 0 60 n = true) := Lib.hid hB4.out
   obtain ⟨hn0, hn60⟩ : 0 ≤ n ∧ n ≤ 60 := by have h7 := hB4.out; unfold inB at h7; simp only [Bool.and_eq_true, decide_eq_true_eq] at h7; omega
   obtain ⟨N, rfl⟩ : ∃ N : Nat, n = N := ⟨n.toNat, by omega⟩
   go_wp2_with fail
   refine (pi_eq hoa.out (specOpenOf_c cells es (.slice p0 cells.length c0) (.slice p1 es.length c1) _ _ _ (h1.ext (Xw1.trans qXt)) (h2.ext (Xw1.trans qXt)))).mono ?_
   rintro e w2 ⟨fv5, rfl, i6, -, xw2⟩
   have Lw2 : Ext w1 w2 := Ext.trans qXt xw2
   have Xw2 : Ext w w2 := Xw1.trans Lw2
   replace b10 := Lw2.cell b10
   replace b11 := Lw2.cell b11
   replace b20 := Lw2.cell b20
   replace b21 := Lw2.cell b21
   replace f_b20 := Lw2.frz z_b2 f_b20
   replace f_b21 := Lw2.frz z_b2 f_b21
   have z_b1 : w.heap.size < w2.heap.size := qB b10
   have z_b2 : w.heap.size + 1 < w2.heap.size := qB b20
   have s_w2 : w.heap.size ≤ w2.heap.size := Xw2.size
   clear xw2
   obtain ⟨afv5, cfv5, rfl⟩ := i6.form
   by_cases hc7 : (0 : Int) < ((selL opP es es.length).length : Int)
   ·
    go_wp2_with fail
    generalize hW3 : ((w2.setCell ⟨w.heap.size + 1, 0, none⟩ (.slice none 0 0)).setCell ⟨w.heap.size + 1, 1, none⟩ (.slice none 0 0)) = w3 at *
    have Kw3 : Chg (w.heap.size + 1) (w.heap.size + 1 + 1) w2 w3 := by subst hW3; exact qCh
    have Xw3 : Ext w w3 := by subst hW3; exact qXt
    replace b10 := Kw3.cell (by omega) b10
    replace b11 := Kw3.cell (by omega) b11
    replace b20 : w3.cell? ⟨w.heap.size + 1, 0, none⟩ = some (.slice none 0 0) := by subst hW3; go_simp
    replace f_b20 : w3.frozen? ⟨w.heap.size + 1, 0, none⟩ = false := by subst hW3; first | (simp only [World.frozen?_setCell]; with_reducible assumption) | go_simp
    replace b21 : w3.cell? ⟨w.heap.size + 1, 1, none⟩ = some (.slice none 0 0) := by subst hW3; go_simp
    replace f_b21 : w3.frozen? ⟨w.heap.size + 1, 1, none⟩ = false := by subst hW3; first | (simp only [World.frozen?_setCell]; with_reducible assumption) | go_simp
    replace i6 := i6.chg Kw3 (by omega)
    clear Kw3
    have z_b1 : w.heap.size < w3.heap.size := qB b10
    have z_b2 : w.heap.size + 1 < w3.heap.size := qB b20
    have s_w3 : w.heap.size ≤ w3.heap.size := Xw3.size
    clear hW3
    refine bodyPost_ret (v := .tuple #[.agg #[.slice none 0 0, .slice none 0 0], .bool false]) (by simp only [results, Try.results29]; go_simp) rfl ?_
    exact PBX.no (by unfold resA; rw [hbb.out, hin.out, decide_eq_false (show ¬ (selL opP es es.length).length = 0 by omega)]; rfl) (Xw3.trans qXt)
   ·
    go_wp2_with fail
    have Q11_b10 := Lib.hid b10
    have Q11_b11 := Lib.hid b11
    have Q11_zb1 := z_b1
    have Q11_b20 := Lib.hid b20
    have Q11_f_b20 := Lib.hid f_b20
    have Q11_b21 := Lib.hid b21
    have Q11_f_b21 := Lib.hid f_b21
    have Q11_zb2 := z_b2
    have Q11_i6 := Lib.hid i6
    have BL12 : Ext w2 w2 := Ext.refl _
    refine (specCopyBuffer_c cells es (.slice p0 cells.length c0) (.slice p1 es.length c1) _ _ _ (h1.ext (Xw2.trans qXt)) (h2.ext (Xw2.trans qXt))).mono ?_
    rintro e w3 ⟨cvfb9, evfb9, R10, rfl, bf8, xw3⟩
    have Lw3 : Ext w2 w3 := Ext.trans qXt xw3
    have Xw3 : Ext w w3 := Xw2.trans Lw3
    replace b10 := Lw3.cell b10
    replace b11 := Lw3.cell b11
    replace b20 := Lw3.cell b20
    replace b21 := Lw3.cell b21
    replace f_b20 := Lw3.frz z_b2 f_b20
    replace f_b21 := Lw3.frz z_b2 f_b21
    have z_b1 : w.heap.size < w3.heap.size := qB b10
    have z_b2 : w.heap.size + 1 < w3.heap.size := qB b20
    replace i6 := i6.ext Lw3
    have s_w3 : w.heap.size ≤ w3.heap.size := Xw3.size
    have BL12_w3 : Ext w2 w3 := BL12.trans Lw3
    clear xw3
    replace bf8 := bf8.lower (lo' := w2.heap.size) qSo
    obtain ⟨afb9, cfb9, rfl⟩ := bf8.ints.form
    obtain ⟨efb9, dfb9, rfl⟩ := bf8.exps.form
    have q_bf8 := Lib.hid bf8.at
    have Q13_b10 := Lib.hid b10
    have Q13_b11 := Lib.hid b11
    have Q13_zb1 := z_b1
    have Q13_b20 := Lib.hid b20
    have Q13_f_b20 := Lib.hid f_b20
    have Q13_b21 := Lib.hid b21
    have Q13_f_b21 := Lib.hid f_b21
    have Q13_zb2 := z_b2
    have Q13_i6 := Lib.hid i6
    have Q13_bf8 := Lib.hid bf8
    have BL14 : Ext w3 w3 := Ext.refl _
    go_upto_region 4 with fail
    have zn_BL12_w4 := (BL12_w3).size
    have zn_BL14_w4 := (BL14).size
    generalize hW4 : w3.alloc (.cells #[.slice afb9 cells.length cfb9, .slice efb9 es.length dfb9] 32) = w4 at *
    have Lw4 : Ext w3 w4 := by subst hW4; exact qXt
    have Xw4 : Ext w w4 := Xw3.trans Lw4
    replace b10 := Lw4.cell b10
    replace b11 := Lw4.cell b11
    replace b20 := Lw4.cell b20
    replace b21 := Lw4.cell b21
    replace f_b20 := Lw4.frz z_b2 f_b20
    replace f_b21 := Lw4.frz z_b2 f_b21
    have b150 : w4.cell? ⟨w3.heap.size, 0, none⟩ = some (.slice afb9 cells.length cfb9) := by subst hW4; exact qCl
    have b151 : w4.cell? ⟨w3.heap.size, 1, none⟩ = some (.slice efb9 es.length dfb9) := by subst hW4; exact qCl
    have f_b150 : w4.frozen? ⟨w3.heap.size, 0, none⟩ = false := by subst hW4; exact qFz
    have f_b151 : w4.frozen? ⟨w3.heap.size, 1, none⟩ = false := by subst hW4; exact qFz
    have z_b1 : w.heap.size < w4.heap.size := qB b10
    have z_b2 : w.heap.size + 1 < w4.heap.size := qB b20
    have z_b15 : w3.heap.size < w4.heap.size := qB b150
    replace i6 := i6.ext Lw4
    replace bf8 := bf8.ext Lw4
    have s_w4 : w.heap.size ≤ w4.heap.size := Xw4.size
    have BL12_w4 : Ext w2 w4 := BL12_w3.trans Lw4
    have BL14_w4 : Ext w3 w4 := BL14.trans Lw4
    clear hW4
    have zBL12_mw4 := (BL12_w4).size
    have zBL14_mw4 := (BL14_w4).size
    have Q16_b10 := Lib.hid b10
    have Q16_b11 := Lib.hid b11
    have Q16_zb1 := z_b1
    have Q16_b20 := Lib.hid b20
    have Q16_f_b20 := Lib.hid f_b20
    have Q16_b21 := Lib.hid b21
    have Q16_f_b21 := Lib.hid f_b21
    have Q16_zb2 := z_b2
    have Q16_b150 := Lib.hid b150
    have Q16_f_b150 := Lib.hid f_b150
    have Q16_b151 := Lib.hid b151
    have Q16_f_b151 := Lib.hid f_b151
    have Q16_zb15 := z_b15
    have Q16_i6 := Lib.hid i6
    have Q16_bf8 := Lib.hid bf8
    have BL17 : Ext w4 w4 := Ext.refl _
    obtain ⟨i0mk18, himk18, hz0mk18, hz1mk18, hz2mk18⟩ := info_parts infoInt
    go_wp2_with (at_make; refine wpList_make_full _ rfl _ _ 22 rfl w4.heap.size 3 i0mk18 (.int .i64 0) 1 Try.underlying22 himk18 hz0mk18 hz1mk18 .i64 .i64 _ _ N rfl rfl rfl rfl (by rw [hz2mk18]; omega) (by unfold maxLen; omega) (Nat.le_refl _) ?_)
    intro w5 hown7 hgr7
    have xw5 : Ext w4 w5 := (Ext.refl w4).grown hgr7 (by simp)
    rw [made_ints] at hown7
    clear hgr7
    have O19 : OwnI w5 w4.heap.size (.slice (some ⟨w4.heap.size, 0, none⟩) N N) (List.replicate N 0) := by unfold OwnI; simpa using hown7
    clear hown7 himk18 hz0mk18 hz1mk18 hz2mk18
    have Lw5 : Ext w4 w5 := Ext.trans qXt xw5
    have Xw5 : Ext w w5 := Xw4.trans Lw5
    replace b10 := Lw5.cell b10
    replace b11 := Lw5.cell b11
    replace b20 := Lw5.cell b20
    replace b21 := Lw5.cell b21
    replace f_b20 := Lw5.frz z_b2 f_b20
    replace f_b21 := Lw5.frz z_b2 f_b21
    replace b150 := Lw5.cell b150
    replace b151 := Lw5.cell b151
    replace f_b150 := Lw5.frz z_b15 f_b150
    replace f_b151 := Lw5.frz z_b15 f_b151
    have z_b1 : w.heap.size < w5.heap.size := qB b10
    have z_b2 : w.heap.size + 1 < w5.heap.size := qB b20
    have z_b15 : w3.heap.size < w5.heap.size := qB b150
    replace i6 := i6.ext Lw5
    replace bf8 := bf8.ext Lw5
    have s_w5 : w.heap.size ≤ w5.heap.size := Xw5.size
    have BL12_w5 : Ext w2 w5 := BL12_w4.trans Lw5
    have BL14_w5 : Ext w3 w5 := BL14_w4.trans Lw5
    have BL17_w5 : Ext w4 w5 := BL17.trans Lw5
    clear xw5
    skip
    go_wp2_with fail
    generalize hW5 : (w5.setCell ⟨w3.heap.size, 0, none⟩ (.slice (some ⟨w4.heap.size, 0, none⟩) N N)) = w6 at *
    have Kw6 : Chg (w3.heap.size) (w3.heap.size + 1) w5 w6 := by subst hW5; exact qCh
    have Xw6 : Ext w w6 := by subst hW5; exact qXt
    have BL12_w6 : Ext w2 w6 := by subst hW5; exact qXt
    have BL14_w6 : Ext w3 w6 := by subst hW5; exact qXt
    replace b10 := BL14_w6.cell Q13_b10.out
    replace b11 := BL14_w6.cell Q13_b11.out
    replace b20 := BL14_w6.cell Q13_b20.out
    replace f_b20 := BL14_w6.frz Q13_zb2 Q13_f_b20.out
    replace b21 := BL14_w6.cell Q13_b21.out
    replace f_b21 := BL14_w6.frz Q13_zb2 Q13_f_b21.out
    replace b150 : w6.cell? ⟨w3.heap.size, 0, none⟩ = some (.slice (some ⟨w4.heap.size, 0, none⟩) N N) := by subst hW5; go_simp
    replace f_b150 : w6.frozen? ⟨w3.heap.size, 0, none⟩ = false := by subst hW5; first | (simp only [World.frozen?_setCell]; with_reducible assumption) | go_simp
    replace b151 : w6.cell? ⟨w3.heap.size, 1, none⟩ = some (.slice efb9 es.length dfb9) := by subst hW5; go_simp
    replace f_b151 : w6.frozen? ⟨w3.heap.size, 1, none⟩ = false := by subst hW5; first | (simp only [World.frozen?_setCell]; with_reducible assumption) | go_simp
    replace i6 := (Q13_i6.out).ext BL14_w6
    replace bf8 := (Q13_bf8.out).ext BL14_w6
    replace O19 := O19.chgN Kw6 (by omega)
    clear Kw6
    have z_b1 : w.heap.size < w6.heap.size := qB b10
    have z_b2 : w.heap.size + 1 < w6.heap.size := qB b20
    have z_b15 : w3.heap.size < w6.heap.size := qB b150
    have s_w6 : w.heap.size ≤ w6.heap.size := Xw6.size
    clear hW5
    replace bf8 := BufT.of bf8 q_bf8.out
    clear i6
    go_loopw [7] (fun i wr => ∃ (k : Nat), k ≤ N ∧ k ≤ cells.length ∧ i = .int .i64 k ∧ OwnI wr (w4.heap.size) (.slice (some ⟨w4.heap.size, 0, none⟩) N N) (cells.take k ++ List.replicate (N - k) 0) ∧ Chg (w4.heap.size) (w4.heap.size + 1) w6 wr) (fun i _ => N - (intOf i).toNat)
    case atStart => exact ⟨0, Nat.zero_le _, Nat.zero_le _, rfl, (show OwnI _ _ _ (cells.take 0 ++ List.replicate (N - 0) 0) from (O19.ext qXt)), Chg.refl _ _ _⟩
    case round =>
     obtain ⟨k, hk, hkc, rfl, O19n, Kr20⟩ := hrel
     have Xwr : Ext w wr := Ext.chg Xw6 Kr20 (by omega)
     have s_wr : w.heap.size ≤ wr.heap.size := Xwr.size
     have t_wr : w6.heap.size ≤ wr.heap.size := Kr20.size
     replace b10 := Kr20.cell (by omega) b10
     replace b11 := Kr20.cell (by omega) b11
     replace b20 := Kr20.cell (by omega) b20
     replace f_b20 := Kr20.frzO (by omega) (by omega) f_b20
     replace b21 := Kr20.cell (by omega) b21
     replace f_b21 := Kr20.frzO (by omega) (by omega) f_b21
     replace b150 := Kr20.cell (by omega) b150
     replace f_b150 := Kr20.frzO (by omega) (by omega) f_b150
     replace b151 := Kr20.cell (by omega) b151
     replace f_b151 := Kr20.frzO (by omega) (by omega) f_b151
     have z_b1 : w.heap.size < wr.heap.size := qB b10
     have z_b2 : w.heap.size + 1 < wr.heap.size := qB b20
     have z_b15 : w3.heap.size < wr.heap.size := qB b150
     replace bf8 := bf8.chg Kr20 (by omega)
     clear O19
     have O19 := O19n
     clear O19n
     rcases (show (k < N ∧ k < cells.length) ∨ ¬ k < N ∨ (k < N ∧ ¬ k < cells.length) by omega) with hlt | hlt | hlt
     ·
      have hkI : (k : Int) < (N : Int) := by omega
      have hkJ : (k : Int) < (cells.length : Int) := by omega
      have hs := Lib.hid (fit_step (xs := cells) hlt.1 hlt.2)
      go_wp2_with fail
      have hN_e23 : k < cells.length := hlt.2
      have hI_e23 : (k : Int) < (cells.length : Int) := by omega
      obtain ⟨bl21, ol22, rfl, e230⟩ := h1.at k hlt.2
      have y_e23 : bl21 < w.heap.size := qB e230
      replace e230 := Xwr.cell e230
      obtain ⟨v24, hv24⟩ : ∃ v, cells.getD k 0 = v := ⟨_, rfl⟩
      rw [hv24] at e230
      replace hv24 := Lib.hid hv24
      have z_e23 : bl21 < wr.heap.size := qB e230
      have A25 := O19.cell k (by simp only [List.length_append, List.length_take, List.length_replicate]; omega)
      obtain ⟨A25a, A25b⟩ := A25
      refine wp_region_tail (S := fun w' => w'.cell? ⟨w.heap.size, 0, none⟩ = some (.slice (some ⟨bl21, ol22, none⟩) cells.length c0) ∧ w'.cell? ⟨w3.heap.size, 0, none⟩ = some (.slice (some ⟨w4.heap.size, 0, none⟩) N N) ∧ w'.cell? ⟨bl21, ol22 + k, none⟩ = some (.int .i64 v24)) (fun i => decide (9 ≤ i)) qKr ⟨b10, b150, e230⟩ (fun hHeld => ?_)
      refine qTk (v := ?_) 0 rfl (.inl ⟨by rfl, ?_⟩) ?_
      rotate_left
      ·
       (intro w hSw; (try dsimp only at hSw); go_simp; try with_reducible rfl)
      try simp only [Act.put, qa, qb, qc, qD, qE, qF]
      refine qTk (v := ?_) 1 rfl (.inl ⟨by rfl, ?_⟩) ?_
      rotate_left
      ·
       (intro w hSw; (try dsimp only at hSw); go_simp; try with_reducible rfl)
      try simp only [Act.put, qa, qb, qc, qD, qE, qF]
      refine qTk (v := ?_) 2 rfl (.inl ⟨by rfl, ?_⟩) ?_
      rotate_left
      ·
       (intro w hSw; (try dsimp only at hSw); go_simp; try with_reducible rfl)
      try simp only [Act.put, qa, qb, qc, qD, qE, qF]
      refine qTk (v := ?_) 3 rfl (.inl ⟨by rfl, ?_⟩) ?_
      rotate_left
      ·
       (intro w hSw; (try dsimp only at hSw); go_simp; try with_reducible rfl)
      try simp only [Act.put, qa, qb, qc, qD, qE, qF]
      refine qTk (v := ?_) 4 rfl (.inl ⟨by rfl, ?_⟩) ?_
      rotate_left
      ·
       (intro w hSw; (try dsimp only at hSw); go_simp; try with_reducible rfl)
      try simp only [Act.put, qa, qb, qc, qD, qE, qF]
      refine qTk (v := ?_) 5 rfl (.inl ⟨by rfl, ?_⟩) ?_
      rotate_left
      ·
       (intro w hSw; (try dsimp only at hSw); go_simp; try with_reducible rfl)
      try simp only [Act.put, qa, qb, qc, qD, qE, qF]
      refine qTk (v := ?_) 6 rfl (.inl ⟨by rfl, ?_⟩) ?_
      rotate_left
      ·
       (intro w hSw; (try dsimp only at hSw); go_simp; try with_reducible rfl)
      try simp only [Act.put, qa, qb, qc, qD, qE, qF]
      refine qTk (v := ?_) 7 rfl (.inl ⟨by rfl, ?_⟩) ?_
      rotate_left
      ·
       (intro w hSw; (try dsimp only at hSw); go_simp; try with_reducible rfl)
      try simp only [Act.put, qa, qb, qc, qD, qE, qF]
      refine qTk (v := ?_) 8 rfl (.inl ⟨by rfl, ?_⟩) ?_
      rotate_left
      ·
       (intro w hSw; (try dsimp only at hSw); go_simp; try with_reducible rfl)
      try simp only [Act.put, qa, qb, qc, qD, qE, qF]
      refine wpTail_last (i := 9) qKr rfl rfl (fun K hK => ?_)
      try simp only [Act.put, qa, qb, qc, qD, qE, qF]
      go_simp
      refine hK.out _ _ ?_
      clear hK K
      try simp only [Act.put, qa, qb, qc, qD, qE, qF]
      refine wpTail_done qKr ?_ _
      clear hHeld 
      clear e230 z_e23
      generalize hW6 : ((wr.setCell ⟨w4.heap.size, k, none⟩ (.int .i64 v24)).drew) = w7 at *
      have Kw7 : Chg (w4.heap.size) (w4.heap.size + 1) wr w7 := by subst hW6; exact qCh
      have Xw7 : Ext w w7 := by subst hW6; exact qXt
      have Kr20_w7 : Chg w4.heap.size (w4.heap.size + 1) w6 w7 := Chg.trans Kr20 Kw7
      replace b10 := Kw7.cell (by omega) b10
      replace b11 := Kw7.cell (by omega) b11
      replace b20 := Kw7.cell (by omega) b20
      replace f_b20 := Kw7.frzO (by omega) z_b2 f_b20
      replace b21 := Kw7.cell (by omega) b21
      replace f_b21 := Kw7.frzO (by omega) z_b2 f_b21
      replace b150 := Kw7.cell (by omega) b150
      replace f_b150 := Kw7.frzO (by omega) z_b15 f_b150
      replace b151 := Kw7.cell (by omega) b151
      replace f_b151 := Kw7.frzO (by omega) z_b15 f_b151
      replace bf8 := bf8.chg Kw7 (by omega)
      have n_O19 := O19.setD k (v24) (by first | omega | (simp; omega) | (rw [putUp_len]; simp; omega) | (rw [addUp_len]; omega))
      rw [hW6] at n_O19
      replace O19 := n_O19
      clear n_O19
      clear Kw7
      have z_b1 : w.heap.size < w7.heap.size := qB b10
      have z_b2 : w.heap.size + 1 < w7.heap.size := qB b20
      have z_b15 : w3.heap.size < w7.heap.size := qB b150
      have s_w7 : w.heap.size ≤ w7.heap.size := Xw7.size
      clear hW6
      clear A25a A25b
      go_wp2_with fail
      go_roundw
      case rel => exact ⟨k + 1, by omega, by omega, by go_num, (by rw [hs.out, hv24.out]; exact O19.ext qXt), Kr20_w7.ext qXt⟩
      case measure => simp [intOf]; omega
     ·
      have hkI : ¬ (k : Int) < (N : Int) := by omega
      go_wp2_with fail
      generalize hW7 : ((wr.setCell ⟨w.heap.size + 1, 0, none⟩ (.slice (some ⟨w4.heap.size, 0, none⟩) N N)).setCell ⟨w.heap.size + 1, 1, none⟩ (.slice efb9 es.length dfb9)) = w7 at *
      have Kw7 : Chg (w.heap.size + 1) (w.heap.size + 1 + 1) wr w7 := by subst hW7; exact qCh
      have Xw7 : Ext w w7 := by subst hW7; exact qXt
      replace b10 := Kw7.cell (by omega) b10
      replace b11 := Kw7.cell (by omega) b11
      replace b20 : w7.cell? ⟨w.heap.size + 1, 0, none⟩ = some (.slice (some ⟨w4.heap.size, 0, none⟩) N N) := by subst hW7; go_simp
      replace f_b20 : w7.frozen? ⟨w.heap.size + 1, 0, none⟩ = false := by subst hW7; first | (simp only [World.frozen?_setCell]; with_reducible assumption) | go_simp
      replace b21 : w7.cell? ⟨w.heap.size + 1, 1, none⟩ = some (.slice efb9 es.length dfb9) := by subst hW7; go_simp
      replace f_b21 : w7.frozen? ⟨w.heap.size + 1, 1, none⟩ = false := by subst hW7; first | (simp only [World.frozen?_setCell]; with_reducible assumption) | go_simp
      replace b150 := Kw7.cell (by omega) b150
      replace f_b150 := Kw7.frzO (by omega) z_b15 f_b150
      replace b151 := Kw7.cell (by omega) b151
      replace f_b151 := Kw7.frzO (by omega) z_b15 f_b151
      replace bf8 := bf8.chg Kw7 (by omega)
      replace O19 := O19.chgN Kw7 (by omega)
      clear Kw7
      have z_b1 : w.heap.size < w7.heap.size := qB b10
      have z_b2 : w.heap.size + 1 < w7.heap.size := qB b20
      have z_b15 : w3.heap.size < w7.heap.size := qB b150
      have s_w7 : w.heap.size ≤ w7.heap.size := Xw7.size
      clear hW7
      refine bodyPost_ret (v := .tuple #[.agg #[.slice (some ⟨w4.heap.size, 0, none⟩) N N, .slice efb9 es.length dfb9], .bool true]) (by simp only [results, Try.results29]; go_simp) rfl ?_
      have eqA : resA cells es (N : Int) = (fitL cells N, es, true) := by unfold resA; rw [hbb.out, hin.out, decide_eq_true (show (selL opP es es.length).length = 0 by omega), Int.toNat_natCast]; rfl
      rw [show cells.take k ++ List.replicate (N - k) 0 = fitL cells N by exact fit_end (by omega)] at O19
      exact PBX.yes eqA ((bf8.buf.cellsQ (lo2 := w.heap.size) (by omega) q_bf8.out ((O19.lower (base' := w.heap.size) (by omega)).z) (by rw [fitL_len]; omega) (fun _ g7 hg7 => by have h9 : w4.heap.size = g7 := Option.some.inj hg7; omega)).ext qXt) (Xw7.trans qXt)
     ·
      have hkI : (k : Int) < (N : Int) := by omega
      have hkJ : ¬ (k : Int) < (cells.length : Int) := by omega
      go_wp2_with fail
      generalize hW8 : ((wr.setCell ⟨w.heap.size + 1, 0, none⟩ (.slice (some ⟨w4.heap.size, 0, none⟩) N N)).setCell ⟨w.heap.size + 1, 1, none⟩ (.slice efb9 es.length dfb9)) = w7 at *
      have Kw7 : Chg (w.heap.size + 1) (w.heap.size + 1 + 1) wr w7 := by subst hW8; exact qCh
      have Xw7 : Ext w w7 := by subst hW8; exact qXt
      replace b10 := Kw7.cell (by omega) b10
      replace b11 := Kw7.cell (by omega) b11
      replace b20 : w7.cell? ⟨w.heap.size + 1, 0, none⟩ = some (.slice (some ⟨w4.heap.size, 0, none⟩) N N) := by subst hW8; go_simp
      replace f_b20 : w7.frozen? ⟨w.heap.size + 1, 0, none⟩ = false := by subst hW8; first | (simp only [World.frozen?_setCell]; with_reducible assumption) | go_simp
      replace b21 : w7.cell? ⟨w.heap.size + 1, 1, none⟩ = some (.slice efb9 es.length dfb9) := by subst hW8; go_simp
      replace f_b21 : w7.frozen? ⟨w.heap.size + 1, 1, none⟩ = false := by subst hW8; first | (simp only [World.frozen?_setCell]; with_reducible assumption) | go_simp
      replace b150 := Kw7.cell (by omega) b150
      replace f_b150 := Kw7.frzO (by omega) z_b15 f_b150
      replace b151 := Kw7.cell (by omega) b151
      replace f_b151 := Kw7.frzO (by omega) z_b15 f_b151
      replace bf8 := bf8.chg Kw7 (by omega)
      replace O19 := O19.chgN Kw7 (by omega)
      clear Kw7
      have z_b1 : w.heap.size < w7.heap.size := qB b10
      have z_b2 : w.heap.size + 1 < w7.heap.size := qB b20
      have z_b15 : w3.heap.size < w7.heap.size := qB b150
      have s_w7 : w.heap.size ≤ w7.heap.size := Xw7.size
      clear hW8
      refine bodyPost_ret (v := .tuple #[.agg #[.slice (some ⟨w4.heap.size, 0, none⟩) N N, .slice efb9 es.length dfb9], .bool true]) (by simp only [results, Try.results29]; go_simp) rfl ?_
      have eqA : resA cells es (N : Int) = (fitL cells N, es, true) := by unfold resA; rw [hbb.out, hin.out, decide_eq_true (show (selL opP es es.length).length = 0 by omega), Int.toNat_natCast]; rfl
      rw [show cells.take k ++ List.replicate (N - k) 0 = fitL cells N by exact fit_end (by omega)] at O19
      exact PBX.yes eqA ((bf8.buf.cellsQ (lo2 := w.heap.size) (by omega) q_bf8.out ((O19.lower (base' := w.heap.size) (by omega)).z) (by rw [fitL_len]; omega) (fun _ g7 hg7 => by have h9 : w4.heap.size = g7 := Option.some.inj hg7; omega)).ext qXt) (Xw7.trans qXt)

set_option maxHeartbeats 3200000 in
theorem implResizeBuffer_c (cells : List Int) (es : List Exp) (cv ev : Value) (n : Int) (w : World) (l1 l2 : Nat) (h1 : Ints w l1 cv cells) (h2 : Exps w l2 ev es) :
  Calls Try.prog 30 #[.agg #[cv, ev], .int .i64 n] w (PBX w (resA cells es n)) := by
 obtain ⟨p0, c0, rfl⟩ := h1.form
 obtain ⟨p1, c1, rfl⟩ := h2.form
 have he1 := h2.len
 have hc1 := h1.len
 go_enter Try.func30, Try.ntmps30
 go_wp2_with fail
 refine (isBuffer_c cells es (.slice p0 cells.length c0) (.slice p1 es.length c1) _ _ _ (h1.ext qXt) (h2.ext qXt)).mono ?_
 rintro e w1 ⟨rfl, xw1⟩
 have Lw1 : Ext w w1 := Ext.trans qXt xw1
 have Xw1 : Ext w w1 := Lw1
 have b10 : w1.cell? ⟨w.heap.size, 0, none⟩ = some (.slice p0 cells.length c0) := xw1.cell qCl
 have b11 : w1.cell? ⟨w.heap.size, 1, none⟩ = some (.slice p1 es.length c1) := xw1.cell qCl
 have b20 : w1.cell? ⟨w.heap.size + 1, 0, none⟩ = some (.slice none 0 0) := xw1.cell qCl
 have b21 : w1.cell? ⟨w.heap.size + 1, 1, none⟩ = some (.slice none 0 0) := xw1.cell qCl
 have f_b20 : w1.frozen? ⟨w.heap.size + 1, 0, none⟩ = false := xw1.frz (by simp <;> omega) qFz
 have f_b21 : w1.frozen? ⟨w.heap.size + 1, 1, none⟩ = false := xw1.frz (by simp <;> omega) qFz
 have z_b1 : w.heap.size < w1.heap.size := qB b10
 have z_b2 : w.heap.size + 1 < w1.heap.size := qB b20
 have s_w1 : w.heap.size ≤ w1.heap.size := Xw1.size
 clear xw1
 cases hB3 : bufB cells es
 ·
  replace hB3 := Lib.hid hB3
  go_wp2_with fail
  generalize hW9 : ((w1.setCell ⟨w.heap.size + 1, 0, none⟩ (.slice none 0 0)).setCell ⟨w.heap.size + 1, 1, none⟩ (.slice none 0 0)) = w2 at *
  have Kw2 : Chg (w.heap.size + 1) (w.heap.size + 1 + 1) w1 w2 := by subst hW9; exact qCh
  have Xw2 : Ext w w2 := by subst hW9; exact qXt
  replace b10 := Kw2.cell (by omega) b10
  replace b11 := Kw2.cell (by omega) b11
  replace b20 : w2.cell? ⟨w.heap.size + 1, 0, none⟩ = some (.slice none 0 0) := by subst hW9; go_simp
  replace f_b20 : w2.frozen? ⟨w.heap.size + 1, 0, none⟩ = false := by subst hW9; first | (simp only [World.frozen?_setCell]; with_reducible assumption) | go_simp
  replace b21 : w2.cell? ⟨w.heap.size + 1, 1, none⟩ = some (.slice none 0 0) := by subst hW9; go_simp
  replace f_b21 : w2.frozen? ⟨w.heap.size + 1, 1, none⟩ = false := by subst hW9; first | (simp only [World.frozen?_setCell]; with_reducible assumption) | go_simp
  clear Kw2
  have z_b1 : w.heap.size < w2.heap.size := qB b10
  have z_b2 : w.heap.size + 1 < w2.heap.size := qB b20
  have s_w2 : w.heap.size ≤ w2.heap.size := Xw2.size
  clear hW9
  refine bodyPost_ret (v := .tuple #[.agg #[.slice none 0 0, .slice none 0 0], .bool false]) (by simp only [results, Try.results30]; go_simp) rfl ?_
  exact PBX.no (by unfold resA; rw [hB3.out]; rfl) (Xw2.trans qXt)
 ·
  replace hB3 := Lib.hid hB3
  have hbb : Hid (bufB cells es = true) := Lib.hid hB3.out
  have hoa : Hid (openA cells es = selL opP es es.length) := Lib.hid (by unfold openA; rw [hbb.out]; rfl)
  have hc60 := (bufB_in hbb.out).2.1
  go_wp2_with fail
  refine (areCells_c n _).mono ?_
  rintro e w' ⟨rfl, rfl⟩
  cases hB4 : inB 0 60 n
  ·
   replace hB4 := Lib.hid hB4
   go_wp2_with fail
   generalize hW10 : ((w1.setCell ⟨w.heap.size + 1, 0, none⟩ (.slice none 0 0)).setCell ⟨w.heap.size + 1, 1, none⟩ (.slice none 0 0)) = w2 at *
   have Kw2 : Chg (w.heap.size + 1) (w.heap.size + 1 + 1) w1 w2 := by subst hW10; exact qCh
   have Xw2 : Ext w w2 := by subst hW10; exact qXt
   replace b10 := Kw2.cell (by omega) b10
   replace b11 := Kw2.cell (by omega) b11
   replace b20 : w2.cell? ⟨w.heap.size + 1, 0, none⟩ = some (.slice none 0 0) := by subst hW10; go_simp
   replace f_b20 : w2.frozen? ⟨w.heap.size + 1, 0, none⟩ = false := by subst hW10; first | (simp only [World.frozen?_setCell]; with_reducible assumption) | go_simp
   replace b21 : w2.cell? ⟨w.heap.size + 1, 1, none⟩ = some (.slice none 0 0) := by subst hW10; go_simp
   replace f_b21 : w2.frozen? ⟨w.heap.size + 1, 1, none⟩ = false := by subst hW10; first | (simp only [World.frozen?_setCell]; with_reducible assumption) | go_simp
   clear Kw2
   have z_b1 : w.heap.size < w2.heap.size := qB b10
   have z_b2 : w.heap.size + 1 < w2.heap.size := qB b20
   have s_w2 : w.heap.size ≤ w2.heap.size := Xw2.size
   clear hW10
   refine bodyPost_ret (v := .tuple #[.agg #[.slice none 0 0, .slice none 0 0], .bool false]) (by simp only [results, Try.results30]; go_simp) rfl ?_
   exact PBX.no (by unfold resA; rw [hbb.out, hB4.out]; rfl) (Xw2.trans qXt)
  ·
   replace hB4 := Lib.hid hB4
   have hin : Hid (inB 0 60 n = true) := Lib.hid hB4.out
   obtain ⟨hn0, hn60⟩ : 0 ≤ n ∧ n ≤ 60 := by have h7 := hB4.out; unfold inB at h7; simp only [Bool.and_eq_true, decide_eq_true_eq] at h7; omega
   obtain ⟨N, rfl⟩ : ∃ N : Nat, n = N := ⟨n.toNat, by omega⟩
   go_wp2_with fail
   refine (pi_eq hoa.out (implOpenOf_c cells es (.slice p0 cells.length c0) (.slice p1 es.length c1) _ _ _ (h1.ext (Xw1.trans qXt)) (h2.ext (Xw1.trans qXt)))).mono ?_
   rintro e w2 ⟨fv5, rfl, i6, -, xw2⟩
   have Lw2 : Ext w1 w2 := Ext.trans qXt xw2
   have Xw2 : Ext w w2 := Xw1.trans Lw2
   replace b10 := Lw2.cell b10
   replace b11 := Lw2.cell b11
   replace b20 := Lw2.cell b20
   replace b21 := Lw2.cell b21
   replace f_b20 := Lw2.frz z_b2 f_b20
   replace f_b21 := Lw2.frz z_b2 f_b21
   have z_b1 : w.heap.size < w2.heap.size := qB b10
   have z_b2 : w.heap.size + 1 < w2.heap.size := qB b20
   have s_w2 : w.heap.size ≤ w2.heap.size := Xw2.size
   clear xw2
   obtain ⟨afv5, cfv5, rfl⟩ := i6.form
   by_cases hc7 : (0 : Int) < ((selL opP es es.length).length : Int)
   ·
    go_wp2_with fail
    generalize hW11 : ((w2.setCell ⟨w.heap.size + 1, 0, none⟩ (.slice none 0 0)).setCell ⟨w.heap.size + 1, 1, none⟩ (.slice none 0 0)) = w3 at *
    have Kw3 : Chg (w.heap.size + 1) (w.heap.size + 1 + 1) w2 w3 := by subst hW11; exact qCh
    have Xw3 : Ext w w3 := by subst hW11; exact qXt
    replace b10 := Kw3.cell (by omega) b10
    replace b11 := Kw3.cell (by omega) b11
    replace b20 : w3.cell? ⟨w.heap.size + 1, 0, none⟩ = some (.slice none 0 0) := by subst hW11; go_simp
    replace f_b20 : w3.frozen? ⟨w.heap.size + 1, 0, none⟩ = false := by subst hW11; first | (simp only [World.frozen?_setCell]; with_reducible assumption) | go_simp
    replace b21 : w3.cell? ⟨w.heap.size + 1, 1, none⟩ = some (.slice none 0 0) := by subst hW11; go_simp
    replace f_b21 : w3.frozen? ⟨w.heap.size + 1, 1, none⟩ = false := by subst hW11; first | (simp only [World.frozen?_setCell]; with_reducible assumption) | go_simp
    replace i6 := i6.chg Kw3 (by omega)
    clear Kw3
    have z_b1 : w.heap.size < w3.heap.size := qB b10
    have z_b2 : w.heap.size + 1 < w3.heap.size := qB b20
    have s_w3 : w.heap.size ≤ w3.heap.size := Xw3.size
    clear hW11
    refine bodyPost_ret (v := .tuple #[.agg #[.slice none 0 0, .slice none 0 0], .bool false]) (by simp only [results, Try.results30]; go_simp) rfl ?_
    exact PBX.no (by unfold resA; rw [hbb.out, hin.out, decide_eq_false (show ¬ (selL opP es es.length).length = 0 by omega)]; rfl) (Xw3.trans qXt)
   ·
    go_wp2_with fail
    have Q11_b10 := Lib.hid b10
    have Q11_b11 := Lib.hid b11
    have Q11_zb1 := z_b1
    have Q11_b20 := Lib.hid b20
    have Q11_f_b20 := Lib.hid f_b20
    have Q11_b21 := Lib.hid b21
    have Q11_f_b21 := Lib.hid f_b21
    have Q11_zb2 := z_b2
    have Q11_i6 := Lib.hid i6
    have BL12 : Ext w2 w2 := Ext.refl _
    refine (implCopyBuffer_c cells es (.slice p0 cells.length c0) (.slice p1 es.length c1) _ _ _ (h1.ext (Xw2.trans qXt)) (h2.ext (Xw2.trans qXt))).mono ?_
    rintro e w3 ⟨cvfb9, evfb9, R10, rfl, bf8, xw3⟩
    have Lw3 : Ext w2 w3 := Ext.trans qXt xw3
    have Xw3 : Ext w w3 := Xw2.trans Lw3
    replace b10 := Lw3.cell b10
    replace b11 := Lw3.cell b11
    replace b20 := Lw3.cell b20
    replace b21 := Lw3.cell b21
    replace f_b20 := Lw3.frz z_b2 f_b20
    replace f_b21 := Lw3.frz z_b2 f_b21
    have z_b1 : w.heap.size < w3.heap.size := qB b10
    have z_b2 : w.heap.size + 1 < w3.heap.size := qB b20
    replace i6 := i6.ext Lw3
    have s_w3 : w.heap.size ≤ w3.heap.size := Xw3.size
    have BL12_w3 : Ext w2 w3 := BL12.trans Lw3
    clear xw3
    replace bf8 := bf8.lower (lo' := w2.heap.size) qSo
    obtain ⟨afb9, cfb9, rfl⟩ := bf8.ints.form
    obtain ⟨efb9, dfb9, rfl⟩ := bf8.exps.form
    have q_bf8 := Lib.hid bf8.at
    have Q13_b10 := Lib.hid b10
    have Q13_b11 := Lib.hid b11
    have Q13_zb1 := z_b1
    have Q13_b20 := Lib.hid b20
    have Q13_f_b20 := Lib.hid f_b20
    have Q13_b21 := Lib.hid b21
    have Q13_f_b21 := Lib.hid f_b21
    have Q13_zb2 := z_b2
    have Q13_i6 := Lib.hid i6
    have Q13_bf8 := Lib.hid bf8
    have BL14 : Ext w3 w3 := Ext.refl _
    go_upto_region 4 with fail
    have zn_BL12_w4 := (BL12_w3).size
    have zn_BL14_w4 := (BL14).size
    generalize hW12 : w3.alloc (.cells #[.slice afb9 cells.length cfb9, .slice efb9 es.length dfb9] 32) = w4 at *
    have Lw4 : Ext w3 w4 := by subst hW12; exact qXt
    have Xw4 : Ext w w4 := Xw3.trans Lw4
    replace b10 := Lw4.cell b10
    replace b11 := Lw4.cell b11
    replace b20 := Lw4.cell b20
    replace b21 := Lw4.cell b21
    replace f_b20 := Lw4.frz z_b2 f_b20
    replace f_b21 := Lw4.frz z_b2 f_b21
    have b150 : w4.cell? ⟨w3.heap.size, 0, none⟩ = some (.slice afb9 cells.length cfb9) := by subst hW12; exact qCl
    have b151 : w4.cell? ⟨w3.heap.size, 1, none⟩ = some (.slice efb9 es.length dfb9) := by subst hW12; exact qCl
    have f_b150 : w4.frozen? ⟨w3.heap.size, 0, none⟩ = false := by subst hW12; exact qFz
    have f_b151 : w4.frozen? ⟨w3.heap.size, 1, none⟩ = false := by subst hW12; exact qFz
    have z_b1 : w.heap.size < w4.heap.size := qB b10
    have z_b2 : w.heap.size + 1 < w4.heap.size := qB b20
    have z_b15 : w3.heap.size < w4.heap.size := qB b150
    replace i6 := i6.ext Lw4
    replace bf8 := bf8.ext Lw4
    have s_w4 : w.heap.size ≤ w4.heap.size := Xw4.size
    have BL12_w4 : Ext w2 w4 := BL12_w3.trans Lw4
    have BL14_w4 : Ext w3 w4 := BL14.trans Lw4
    clear hW12
    have zBL12_mw4 := (BL12_w4).size
    have zBL14_mw4 := (BL14_w4).size
    have Q16_b10 := Lib.hid b10
    have Q16_b11 := Lib.hid b11
    have Q16_zb1 := z_b1
    have Q16_b20 := Lib.hid b20
    have Q16_f_b20 := Lib.hid f_b20
    have Q16_b21 := Lib.hid b21
    have Q16_f_b21 := Lib.hid f_b21
    have Q16_zb2 := z_b2
    have Q16_b150 := Lib.hid b150
    have Q16_f_b150 := Lib.hid f_b150
    have Q16_b151 := Lib.hid b151
    have Q16_f_b151 := Lib.hid f_b151
    have Q16_zb15 := z_b15
    have Q16_i6 := Lib.hid i6
    have Q16_bf8 := Lib.hid bf8
    have BL17 : Ext w4 w4 := Ext.refl _
    obtain ⟨i0mk18, himk18, hz0mk18, hz1mk18, hz2mk18⟩ := info_parts infoInt
    go_wp2_with (at_make; refine wpList_make_full _ rfl _ _ 22 rfl w4.heap.size 3 i0mk18 (.int .i64 0) 1 Try.underlying22 himk18 hz0mk18 hz1mk18 .i64 .i64 _ _ N rfl rfl rfl rfl (by rw [hz2mk18]; omega) (by unfold maxLen; omega) (Nat.le_refl _) ?_)
    intro w5 hown7 hgr7
    have xw5 : Ext w4 w5 := (Ext.refl w4).grown hgr7 (by simp)
    rw [made_ints] at hown7
    clear hgr7
    have O19 : OwnI w5 w4.heap.size (.slice (some ⟨w4.heap.size, 0, none⟩) N N) (List.replicate N 0) := by unfold OwnI; simpa using hown7
    clear hown7 himk18 hz0mk18 hz1mk18 hz2mk18
    have Lw5 : Ext w4 w5 := Ext.trans qXt xw5
    have Xw5 : Ext w w5 := Xw4.trans Lw5
    replace b10 := Lw5.cell b10
    replace b11 := Lw5.cell b11
    replace b20 := Lw5.cell b20
    replace b21 := Lw5.cell b21
    replace f_b20 := Lw5.frz z_b2 f_b20
    replace f_b21 := Lw5.frz z_b2 f_b21
    replace b150 := Lw5.cell b150
    replace b151 := Lw5.cell b151
    replace f_b150 := Lw5.frz z_b15 f_b150
    replace f_b151 := Lw5.frz z_b15 f_b151
    have z_b1 : w.heap.size < w5.heap.size := qB b10
    have z_b2 : w.heap.size + 1 < w5.heap.size := qB b20
    have z_b15 : w3.heap.size < w5.heap.size := qB b150
    replace i6 := i6.ext Lw5
    replace bf8 := bf8.ext Lw5
    have s_w5 : w.heap.size ≤ w5.heap.size := Xw5.size
    have BL12_w5 : Ext w2 w5 := BL12_w4.trans Lw5
    have BL14_w5 : Ext w3 w5 := BL14_w4.trans Lw5
    have BL17_w5 : Ext w4 w5 := BL17.trans Lw5
    clear xw5
    skip
    go_upto_region 5 with fail
    generalize hW13 : (w5.setCell ⟨w3.heap.size, 0, none⟩ (.slice (some ⟨w4.heap.size, 0, none⟩) N N)) = w6 at *
    have Kw6 : Chg (w3.heap.size) (w3.heap.size + 1) w5 w6 := by subst hW13; exact qCh
    have Xw6 : Ext w w6 := by subst hW13; exact qXt
    have BL12_w6 : Ext w2 w6 := by subst hW13; exact qXt
    have BL14_w6 : Ext w3 w6 := by subst hW13; exact qXt
    replace b10 := BL14_w6.cell Q13_b10.out
    replace b11 := BL14_w6.cell Q13_b11.out
    replace b20 := BL14_w6.cell Q13_b20.out
    replace f_b20 := BL14_w6.frz Q13_zb2 Q13_f_b20.out
    replace b21 := BL14_w6.cell Q13_b21.out
    replace f_b21 := BL14_w6.frz Q13_zb2 Q13_f_b21.out
    replace b150 : w6.cell? ⟨w3.heap.size, 0, none⟩ = some (.slice (some ⟨w4.heap.size, 0, none⟩) N N) := by subst hW13; go_simp
    replace f_b150 : w6.frozen? ⟨w3.heap.size, 0, none⟩ = false := by subst hW13; first | (simp only [World.frozen?_setCell]; with_reducible assumption) | go_simp
    replace b151 : w6.cell? ⟨w3.heap.size, 1, none⟩ = some (.slice efb9 es.length dfb9) := by subst hW13; go_simp
    replace f_b151 : w6.frozen? ⟨w3.heap.size, 1, none⟩ = false := by subst hW13; first | (simp only [World.frozen?_setCell]; with_reducible assumption) | go_simp
    replace i6 := (Q13_i6.out).ext BL14_w6
    replace bf8 := (Q13_bf8.out).ext BL14_w6
    replace O19 := O19.chgN Kw6 (by omega)
    clear Kw6
    have z_b1 : w.heap.size < w6.heap.size := qB b10
    have z_b2 : w.heap.size + 1 < w6.heap.size := qB b20
    have z_b15 : w3.heap.size < w6.heap.size := qB b150
    have s_w6 : w.heap.size ≤ w6.heap.size := Xw6.size
    clear hW13
    replace bf8 := BufT.of bf8 q_bf8.out
    clear i6
    go_wp2_with (with_reducible (show wpList _ _ _ (Oper.mk (some 31) _ _ _ _ _ :: _) _ _); refine wpList_copyI rfl (.tmp 28) (.tmp 30) rfl rfl rfl (O19.ext qXt) (h1.ext (Xw6.trans qXt)) ?_)
    intro w7 rc20 n_O19 Kw7
    clear O19
    have O19 := n_O19
    clear n_O19
    have Xw7 : Ext w w7 := Ext.chg Xw6 Kw7 (by omega)
    replace b10 := Kw7.cell (by omega) b10
    replace b11 := Kw7.cell (by omega) b11
    replace b20 := Kw7.cell (by omega) b20
    replace f_b20 := Kw7.frzO (by omega) (by omega) f_b20
    replace b21 := Kw7.cell (by omega) b21
    replace f_b21 := Kw7.frzO (by omega) (by omega) f_b21
    replace b150 := Kw7.cell (by omega) b150
    replace f_b150 := Kw7.frzO (by omega) (by omega) f_b150
    replace b151 := Kw7.cell (by omega) b151
    replace f_b151 := Kw7.frzO (by omega) (by omega) f_b151
    have z_b1 : w.heap.size < w7.heap.size := qB b10
    have z_b2 : w.heap.size + 1 < w7.heap.size := qB b20
    have z_b15 : w3.heap.size < w7.heap.size := qB b150
    replace bf8 := bf8.chg Kw7 (by omega)
    have s_w7 : w.heap.size ≤ w7.heap.size := Xw7.size
    clear Kw7
    go_wp2_with fail
    generalize hW14 : ((w7.setCell ⟨w.heap.size + 1, 0, none⟩ (.slice (some ⟨w4.heap.size, 0, none⟩) N N)).setCell ⟨w.heap.size + 1, 1, none⟩ (.slice efb9 es.length dfb9)) = w8 at *
    have Kw8 : Chg (w.heap.size + 1) (w.heap.size + 1 + 1) w7 w8 := by subst hW14; exact qCh
    have Xw8 : Ext w w8 := by subst hW14; exact qXt
    replace b10 := Kw8.cell (by omega) b10
    replace b11 := Kw8.cell (by omega) b11
    replace b20 : w8.cell? ⟨w.heap.size + 1, 0, none⟩ = some (.slice (some ⟨w4.heap.size, 0, none⟩) N N) := by subst hW14; go_simp
    replace f_b20 : w8.frozen? ⟨w.heap.size + 1, 0, none⟩ = false := by subst hW14; first | (simp only [World.frozen?_setCell]; with_reducible assumption) | go_simp
    replace b21 : w8.cell? ⟨w.heap.size + 1, 1, none⟩ = some (.slice efb9 es.length dfb9) := by subst hW14; go_simp
    replace f_b21 : w8.frozen? ⟨w.heap.size + 1, 1, none⟩ = false := by subst hW14; first | (simp only [World.frozen?_setCell]; with_reducible assumption) | go_simp
    replace b150 := Kw8.cell (by omega) b150
    replace f_b150 := Kw8.frzO (by omega) z_b15 f_b150
    replace b151 := Kw8.cell (by omega) b151
    replace f_b151 := Kw8.frzO (by omega) z_b15 f_b151
    replace bf8 := bf8.chg Kw8 (by omega)
    replace O19 := O19.chgN Kw8 (by omega)
    clear Kw8
    have z_b1 : w.heap.size < w8.heap.size := qB b10
    have z_b2 : w.heap.size + 1 < w8.heap.size := qB b20
    have z_b15 : w3.heap.size < w8.heap.size := qB b150
    have s_w8 : w.heap.size ≤ w8.heap.size := Xw8.size
    clear hW14
    refine bodyPost_ret (v := .tuple #[.agg #[.slice (some ⟨w4.heap.size, 0, none⟩) N N, .slice efb9 es.length dfb9], .bool true]) (by simp only [results, Try.results30]; go_simp) rfl ?_
    have eqA : resA cells es (N : Int) = (fitL cells N, es, true) := by unfold resA; rw [hbb.out, hin.out, decide_eq_true (show (selL opP es es.length).length = 0 by omega), Int.toNat_natCast]; rfl
    rw [show cpL (List.replicate N 0) cells = fitL cells N by unfold cpL fitL; rw [List.length_replicate, List.drop_replicate]] at O19
    exact PBX.yes eqA ((bf8.buf.cellsQ (lo2 := w.heap.size) (by omega) q_bf8.out ((O19.lower (base' := w.heap.size) (by omega)).z) (by rw [fitL_len]; omega) (fun _ g7 hg7 => by have h9 : w4.heap.size = g7 := Option.some.inj hg7; omega)).ext qXt) (Xw8.trans qXt)


end Go.Proofs.Ytfbbnbpobojboaa

/- Walks: a buffer of the argument. -/
namespace Go.Proofs.Ytfbbnbpobojboaa
open Go.RowKit
set_option linter.unusedVariables false
set_option maxRecDepth 100000

set_option maxHeartbeats 3200000 in
theorem toBuffer_c (cells : List Int) (es : List Exp) (ac ae : Option Addr) (cc ce : Nat) (w : World) (h1 : Raw w (.slice ac cells.length cc) cells) (h2 : RawE w (.slice ae es.length ce) es) (hn : cells.length ≤ 1048576) (hl : es.length ≤ 1048576) (hm : ∀ i, i < es.length → (expAt es i).s.length ≤ 1048576 ∧ (expAt es i).t.length ≤ 1048576) :
    Calls Try.prog 16 #[.agg #[.slice ac cells.length cc, .slice ae es.length ce]] w (PBuf w cells es) := by
  go_enter Try.func16, Try.ntmps16
  go_wp2_with fail
  refine (toIntS_c cells _ _ (h1.ext qXt) (by omega)).mono ?_
  rintro e w1 ⟨u, rfl, iu, ou, x1⟩
  obtain ⟨u1, d1, rfl⟩ := iu.form
  have X1 : Ext w w1 := Ext.trans qXt x1
  have b1 : w1.cell? ⟨w.heap.size, 1, none⟩ = some (.slice ae es.length ce) := x1.cell qCl
  have q0 : w1.cell? ⟨w.heap.size + 1, 0, none⟩ = some (.slice none 0 0) := x1.cell qCl
  have q1 : w1.cell? ⟨w.heap.size + 1, 1, none⟩ = some (.slice none 0 0) := x1.cell qCl
  have y0 : w1.cell? ⟨w.heap.size + 1 + 1, 0, none⟩ = some (.slice none 0 0) := x1.cell qCl
  have y1 : w1.cell? ⟨w.heap.size + 1 + 1, 1, none⟩ = some (.slice none 0 0) := x1.cell qCl
  have fq0 : w1.frozen? ⟨w.heap.size + 1, 0, none⟩ = false := x1.frz (by simp <;> omega) qFz
  have fq1 : w1.frozen? ⟨w.heap.size + 1, 1, none⟩ = false := x1.frz (by simp <;> omega) qFz
  have fy0 : w1.frozen? ⟨w.heap.size + 1 + 1, 0, none⟩ = false := x1.frz (by simp <;> omega) qFz
  have fy1 : w1.frozen? ⟨w.heap.size + 1 + 1, 1, none⟩ = false := x1.frz (by simp <;> omega) qFz
  have z1 : w.heap.size + 1 + 1 < w1.heap.size := qB y0
  replace ou := ou.lower (base' := w.heap.size + 1 + 1 + 1) (by first | (simp; done) | (simp; omega))
  clear x1 iu h1
  go_upto_region 3 with fail
  have W2 : ∃ w2, w2 = w1.setCell ⟨w.heap.size + 1 + 1, 0, none⟩ (.slice u1 cells.length d1) := ⟨_, rfl⟩
  obtain ⟨w2, hw2⟩ := W2
  rw [← hw2]
  have K2 : Chg (w.heap.size + 1 + 1) (w.heap.size + 1 + 1 + 1) w1 w2 := by subst hw2; exact qCh
  have X2 : Ext w w2 := by subst hw2; exact qXt
  replace b1 := K2.cell (.inl (by omega)) b1
  replace q0 := K2.cell (.inl (by omega)) q0
  replace q1 := K2.cell (.inl (by omega)) q1
  replace y0 : w2.cell? ⟨w.heap.size + 1 + 1, 0, none⟩ = some (.slice u1 cells.length d1) := by subst hw2; go_simp
  replace y1 : w2.cell? ⟨w.heap.size + 1 + 1, 1, none⟩ = some (.slice none 0 0) := by subst hw2; go_simp
  replace fq0 := K2.frzO (.inl (by omega)) (by omega) fq0
  replace fq1 := K2.frzO (.inl (by omega)) (by omega) fq1
  replace fy0 : w2.frozen? ⟨w.heap.size + 1 + 1, 0, none⟩ = false := by subst hw2; simp only [World.frozen?_setCell]; exact fy0
  replace fy1 : w2.frozen? ⟨w.heap.size + 1 + 1, 1, none⟩ = false := by subst hw2; simp only [World.frozen?_setCell]; exact fy1
  replace ou := ou.chg K2 (Nat.le_refl _)
  replace z1 : w.heap.size + 1 + 1 < w2.heap.size := qB y0
  clear hw2 K2
  go_wp2_with fail
  refine (toExportS_c es _ _ (h2.ext X2) hl hm).mono ?_
  rintro e w3 ⟨v, R, rfl, hE, x3⟩
  have E3 : Ext w2 w3 := Ext.trans qXt x3
  have X3 : Ext w w3 := X2.trans E3
  obtain ⟨va, vc, rfl⟩ := hE.len
  have hb3 : w2.heap.size ≤ w3.heap.size := E3.size
  replace hE := hE.lower (lo' := w2.heap.size) (by first | (simp; done) | (simp; omega))
  replace b1 := E3.cell b1
  replace q0 := E3.cell q0
  replace q1 := E3.cell q1
  replace y0 := E3.cell y0
  replace y1 := E3.cell y1
  replace fq0 := E3.frz (by show _ < _; omega) fq0
  replace fq1 := E3.frz (by show _ < _; omega) fq1
  replace fy0 := E3.frz (by show _ < _; omega) fy0
  replace fy1 := E3.frz (by show _ < _; omega) fy1
  have oo := ou.ext E3
  clear x3 h2
  go_wp2_with fail
  refine bodyPost_ret (v := .agg #[.slice u1 cells.length d1, .slice va es.length vc]) (by simp only [results, Try.results16]; go_simp) rfl ?_
  have hw1 : w.heap.size ≤ w2.heap.size := X2.size
  have W4 : ∃ w4, w4 = (((w3.setCell ⟨w.heap.size + 1 + 1, 1, none⟩ (.slice va es.length vc)).setCell ⟨w.heap.size + 1, 0, none⟩ (.slice u1 cells.length d1)).setCell ⟨w.heap.size + 1, 1, none⟩ (.slice va es.length vc)) := ⟨_, rfl⟩
  obtain ⟨w4, hw4⟩ := W4
  rw [← hw4]
  have K4 : Chg (w.heap.size + 1) (w.heap.size + 1 + 1 + 1) w3 w4 := by subst hw4; exact qCh
  have X4 : Ext w w4 := by subst hw4; exact qXt
  clear hw4
  refine ⟨_, _, R, rfl, ⟨(oo.chg K4 (Nat.le_refl _)).lower (by omega), (hE.chg K4 (by omega)).lower hw1, by omega, hl, ?_, ?_⟩, X4⟩
  · intro hc he
    obtain ⟨g, hg, -, hlt⟩ := ou.lt hc
    rw [hg] at he
    have := (hE.blk g he.symm).1
    omega
  · intro p hp hs hc he
    obtain ⟨g, hg, -, hlt⟩ := ou.lt hc
    obtain ⟨g', hg', hb, -⟩ := hE.nblk p hp hs
    rw [hg, hg'] at he
    have := Option.some.inj he
    omega
end Go.Proofs.Ytfbbnbpobojboaa

/- FnExactResizeBuffer returns true for all arguments: no condition. -/
namespace Go.Proofs.Ytfbbnbpobojboaa
open Go.RowKit
set_option linter.unusedVariables false
set_option maxRecDepth 100000

set_option maxHeartbeats 6400000 in
theorem lawResizeBuffer_false (cells : List Int) (es : List Exp) (ac ae : Option Addr) (cc ce : Nat) (i1 : Int) (w : World) (hc : Raw w (.slice ac cells.length cc) cells) (he : RawE w (.slice ae es.length ce) es) (nc : cells.length ≤ maxLen) (ne : es.length ≤ maxLen) (PC : List Int) (PE : List Exp) (hP : Hid (resA cells es i1 = (PC, PE, false))) (hS : SmallB (PC, PE, false)) :
  Calls Try.prog 6 #[.agg #[.slice ac cells.length cc, .slice ae es.length ce], .int .i64 i1] w fun e w' => e = .returned (.bool true) ∧ Ext w w' := by
 go_enter Try.func6, Try.ntmps6
 have X : Ext w w := Ext.refl _
 go_wp2_with fail
 refine (szBuffer_c cells es _ _ _ _ 1048576 _ (he.ext qXt) (by omega) (by omega) ne nc).mono ?_
 rintro e w1 ⟨L, rfl, ql1, ql2, ql3, xw1⟩
 have Lw1 : Ext w w1 := Ext.trans qXt xw1
 have cb0 : w1.cell? ⟨w.heap.size, 0, none⟩ = some (.slice ac cells.length cc) := xw1.cell qCl
 have cb1 : w1.cell? ⟨w.heap.size, 1, none⟩ = some (.slice ae es.length ce) := xw1.cell qCl
 replace X := X.trans Lw1
 have z1 : w.heap.size < w1.heap.size := qB cb0
 have sw1 : w.heap.size ≤ w1.heap.size := Lw1.size
 clear Lw1
 clear xw1
 by_cases q0 : L < 0
 ·
  go_wp2_with fail
  go_ret
  exact ⟨rfl, X.trans qXt⟩
 have ql4 := ql3 (by omega)
 have hm : ∀ i, i < es.length → (expAt es i).s.length ≤ 1048576 ∧ (expAt es i).t.length ≤ 1048576 := fun i hi => by have := sizeE_le es i es.length hi; omega
 replace hm := Lib.hid hm
 have hk1 : kE (1 + cells.length) es es.length ≤ 4194304 := by rw [kE_size]; omega
 have hk0 := kE_mono (1 + cells.length) es 0 es.length (Nat.zero_le _)
 have hk2 : 0 ≤ kE (1 + cells.length) es es.length := by simp only [kE] at hk0; omega
 clear hk0
 obtain ⟨K1, hK1⟩ : ∃ x, kE (1 + cells.length) es es.length = x := ⟨_, rfl⟩
 rw [hK1] at hk1 hk2
 replace hK1 := Lib.hid hK1
 have hG1 := hS.kE
 have hG0 := kE_mono (1 + PC.length) PE 0 PE.length (Nat.zero_le _)
 obtain ⟨hSc, hSe, hSr⟩ := hS
 dsimp only at hG1 hSc hSe hSr
 have hG2 : 0 ≤ kE (1 + PC.length) PE PE.length := by simp only [kE] at hG0; omega
 clear hG0
 obtain ⟨K2, hK2⟩ : ∃ x, kE (1 + PC.length) PE PE.length = x := ⟨_, rfl⟩
 rw [hK2] at hG1 hG2
 replace hK2 := Lib.hid hK2
 replace hSr := Lib.hid hSr
 go_wp2_with fail
 refine (toBuffer_c cells es _ _ _ _ _ (hc.ext (X.trans qXt)) (he.ext (X.trans qXt)) (by omega) (by omega) hm.out).mono ?_
 rintro e w2 ⟨uW, vW, RW, rfl, bW, xw2⟩
 have Lw2 : Ext w1 w2 := Ext.trans qXt xw2
 replace cb0 := Lw2.cell cb0
 replace cb1 := Lw2.cell cb1
 replace X := X.trans Lw2
 have z2 : w.heap.size < w2.heap.size := qB cb0
 have sw2 : w1.heap.size ≤ w2.heap.size := Lw2.size
 clear Lw2
 clear xw2
 go_wp2_with fail
 refine (pbx_eq hP.out (specResizeBuffer_c cells es _ _ i1 _ _ _ (bW.ints.ext qXt) (bW.exps.ext qXt))).mono ?_
 rintro e w3 ⟨W1, W2, RW, rfl, iW, xw3⟩
 have Lw3 : Ext w2 w3 := Ext.trans qXt xw3
 replace cb0 := Lw3.cell cb0
 replace cb1 := Lw3.cell cb1
 replace X := X.trans Lw3
 have z3 : w.heap.size < w3.heap.size := qB cb0
 have sw3 : w2.heap.size ≤ w3.heap.size := Lw3.size
 clear Lw3
 clear xw3
 have EW : Ext w3 w3 := Ext.refl _
 clear bW
 obtain ⟨Wa, Wc, rfl⟩ := iW.ints.form
 obtain ⟨Wd, Wf, rfl⟩ := iW.exps.form
 go_wp2_with fail
 refine (toBuffer_c cells es _ _ _ _ _ (hc.ext (X.trans qXt)) (he.ext (X.trans qXt)) (by omega) (by omega) hm.out).mono ?_
 rintro e w4 ⟨uX, vX, RX, rfl, bX, xw4⟩
 have Lw4 : Ext w3 w4 := Ext.trans qXt xw4
 replace cb0 := Lw4.cell cb0
 replace cb1 := Lw4.cell cb1
 have r0 : w4.cell? ⟨w3.heap.size, 0, none⟩ = some (.slice Wa PC.length Wc) := xw4.cell qCl
 have r1 : w4.cell? ⟨w3.heap.size, 1, none⟩ = some (.slice Wd PE.length Wf) := xw4.cell qCl
 replace X := X.trans Lw4
 replace EW := EW.trans Lw4
 have z4 : w.heap.size < w4.heap.size := qB cb0
 have z5 : w3.heap.size < w4.heap.size := qB r0
 have sw4 : w3.heap.size ≤ w4.heap.size := Lw4.size
 clear Lw4
 clear xw4
 replace bX := bX.lower (lo' := w3.heap.size + 1) qSo
 have lX := bX.below
 obtain ⟨Xa, Xc, rfl⟩ := bX.ints.form
 obtain ⟨Xd, Xf, rfl⟩ := bX.exps.form
 go_wp2_with fail
 refine (pbx_eq hP.out (implResizeBuffer_c cells es _ _ i1 _ _ _ (bX.ints.ext qXt) (bX.exps.ext qXt))).mono ?_
 rintro e w5 ⟨G1, G2, RG, rfl, bG, xw5⟩
 have Lw5 : Ext w4 w5 := Ext.trans qXt xw5
 replace cb0 := Lw5.cell cb0
 replace cb1 := Lw5.cell cb1
 replace r0 := Lw5.cell r0
 replace r1 := Lw5.cell r1
 have x0 : w5.cell? ⟨w4.heap.size, 0, none⟩ = some (.slice Xa cells.length Xc) := xw5.cell qCl
 have x1 : w5.cell? ⟨w4.heap.size, 1, none⟩ = some (.slice Xd es.length Xf) := xw5.cell qCl
 replace bX := bX.ext Lw5
 replace X := X.trans Lw5
 replace EW := EW.trans Lw5
 have z6 : w.heap.size < w5.heap.size := qB cb0
 have z7 : w3.heap.size < w5.heap.size := qB r0
 have z8 : w4.heap.size < w5.heap.size := qB x0
 have sw5 : w4.heap.size ≤ w5.heap.size := Lw5.size
 clear Lw5
 clear xw5
 replace bG := bG.lower (lo' := w4.heap.size + 1) qSo
 have lG := bG.below
 obtain ⟨Ga, Gc, rfl⟩ := bG.ints.form
 obtain ⟨Gd, Gf, rfl⟩ := bG.exps.form
 go_wp2_with fail
 refine (eqBuffer_c PC PE _ _ _ _ _ _ _ _ _ (bG.ints.ext qXt) (bG.exps.ext qXt) ((iW.ext EW).ints.ext qXt) ((iW.ext EW).exps.ext qXt)).mono ?_
 rintro e w6 ⟨rfl, xw6⟩
 have Lw6 : Ext w5 w6 := Ext.trans qXt xw6
 replace cb0 := Lw6.cell cb0
 replace cb1 := Lw6.cell cb1
 replace r0 := Lw6.cell r0
 replace r1 := Lw6.cell r1
 replace x0 := Lw6.cell x0
 replace x1 := Lw6.cell x1
 have gg0 : w6.cell? ⟨w5.heap.size, 0, none⟩ = some (.slice Ga PC.length Gc) := xw6.cell qCl
 have gg1 : w6.cell? ⟨w5.heap.size, 1, none⟩ = some (.slice Gd PE.length Gf) := xw6.cell qCl
 replace bX := bX.ext Lw6
 replace bG := bG.ext Lw6
 replace X := X.trans Lw6
 replace EW := EW.trans Lw6
 have z9 : w.heap.size < w6.heap.size := qB cb0
 have z10 : w3.heap.size < w6.heap.size := qB r0
 have z11 : w4.heap.size < w6.heap.size := qB x0
 have z12 : w5.heap.size < w6.heap.size := qB gg0
 have sw6 : w5.heap.size ≤ w6.heap.size := Lw6.size
 clear Lw6
 clear xw6
 go_wp2_with fail
 go_region_held3 (fun w' => w'.cell? ⟨w.heap.size, 0, none⟩ = some (.slice ac cells.length cc) ∧ w'.cell? ⟨w.heap.size, 1, none⟩ = some (.slice ae es.length ce) ∧ w'.cell? ⟨w3.heap.size, 0, none⟩ = some (.slice Wa PC.length Wc) ∧ w'.cell? ⟨w3.heap.size, 1, none⟩ = some (.slice Wd PE.length Wf) ∧ w'.cell? ⟨w4.heap.size, 0, none⟩ = some (.slice Xa cells.length Xc) ∧ w'.cell? ⟨w4.heap.size, 1, none⟩ = some (.slice Xd es.length Xf) ∧ w'.cell? ⟨w5.heap.size, 0, none⟩ = some (.slice Ga PC.length Gc) ∧ w'.cell? ⟨w5.heap.size, 1, none⟩ = some (.slice Gd PE.length Gf))
  (first
   | go_keep
   | exact ⟨Yw8.cell cb0, Yw8.cell cb1, Yw8.cell r0, Yw8.cell r1, Yw8.cell x0, Yw8.cell x1, Yw8.cell gg0, Yw8.cell gg1⟩
   | exact ⟨Yw7.cell cb0, Yw7.cell cb1, Yw7.cell r0, Yw7.cell r1, Yw7.cell x0, Yw7.cell x1, Yw7.cell gg0, Yw7.cell gg1⟩)
  (first
   | (go_at_call 19; refine (eqBuffer_c cells es _ _ _ _ _ _ _ _ _ (bX.ints.ext (Yw7.trans qXo)) (bX.exps.ext (Yw7.trans qXo)) (bu.ints.ext qXo) (bu.exps.ext qXo)).mono ?_; rintro e w8 ⟨rfl, xw8⟩; have Yw8 : Ext w6 w8 := Yw7.trans (Ext.trans qXo xw8); replace bu := bu.ext (Ext.trans qXo xw8))
   | (go_at_call 16; refine (toBuffer_c cells es _ _ _ _ _ (hc.ext (X.trans qXo)) (he.ext (X.trans qXo)) (by omega) (by omega) hm.out).mono ?_; rintro e w7 ⟨uu, vu, Ru, rfl, bu, xw7⟩; have Yw7 : Ext w6 w7 := Ext.trans qXo xw7))
 have Lw8 : Ext w6 w8 := Yw8
 replace cb0 := Lw8.cell cb0
 replace cb1 := Lw8.cell cb1
 replace r0 := Lw8.cell r0
 replace r1 := Lw8.cell r1
 replace x0 := Lw8.cell x0
 replace x1 := Lw8.cell x1
 replace gg0 := Lw8.cell gg0
 replace gg1 := Lw8.cell gg1
 replace bX := bX.ext Lw8
 replace bG := bG.ext Lw8
 replace X := X.trans Lw8
 replace EW := EW.trans Lw8
 have z13 : w.heap.size < w8.heap.size := qB cb0
 have z14 : w3.heap.size < w8.heap.size := qB r0
 have z15 : w4.heap.size < w8.heap.size := qB x0
 have z16 : w5.heap.size < w8.heap.size := qB gg0
 have sw8 : w6.heap.size ≤ w8.heap.size := Lw8.size
 clear bu
 go_wp2_with fail
 refine (markBuffer_c cells es _ 1 _ _ _ (w3.heap.size + 1) (w4.heap.size) (bX.ext qXt) lX (Nat.le_trans (by omega) (Ext.size (show Ext w8 _ from qXt))) (by omega) (by rw [hK1.out]; omega)).mono ?_
 rintro e w9 ⟨rfl, -, kw9⟩
 have Kw9 : Chg (w3.heap.size + 1) (w4.heap.size) w8 w9 := (Chg.of_ext qXt).trans kw9
 have sw9 : w8.heap.size ≤ w9.heap.size := Kw9.size
 replace X := Ext.chg X Kw9 (by omega)
 replace EW := Ext.chg EW Kw9 (by omega)
 replace cb0 := Kw9.cell (by first | (left; omega) | (right; omega) | omega) cb0
 replace cb1 := Kw9.cell (by first | (left; omega) | (right; omega) | omega) cb1
 replace r0 := Kw9.cell (by first | (left; omega) | (right; omega) | omega) r0
 replace r1 := Kw9.cell (by first | (left; omega) | (right; omega) | omega) r1
 replace x0 := Kw9.cell (by first | (left; omega) | (right; omega) | omega) x0
 replace x1 := Kw9.cell (by first | (left; omega) | (right; omega) | omega) x1
 replace gg0 := Kw9.cell (by first | (left; omega) | (right; omega) | omega) gg0
 replace gg1 := Kw9.cell (by first | (left; omega) | (right; omega) | omega) gg1
 replace bG := bG.chg Kw9 (by omega)
 have z17 : w.heap.size < w9.heap.size := qB cb0
 have z18 : w3.heap.size < w9.heap.size := qB r0
 have z19 : w4.heap.size < w9.heap.size := qB x0
 have z20 : w5.heap.size < w9.heap.size := qB gg0
 clear Kw9 kw9
 clear bX
 rw [hK1.out]
 go_wp2_with fail
 refine (eqBuffer_c PC PE _ _ _ _ _ _ _ _ _ (bG.ints.ext qXt) (bG.exps.ext qXt) ((iW.ext EW).ints.ext qXt) ((iW.ext EW).exps.ext qXt)).mono ?_
 rintro e w10 ⟨rfl, xw10⟩
 have Lw10 : Ext w9 w10 := Ext.trans qXt xw10
 replace cb0 := Lw10.cell cb0
 replace cb1 := Lw10.cell cb1
 replace r0 := Lw10.cell r0
 replace r1 := Lw10.cell r1
 replace x0 := Lw10.cell x0
 replace x1 := Lw10.cell x1
 replace gg0 := Lw10.cell gg0
 replace gg1 := Lw10.cell gg1
 replace bG := bG.ext Lw10
 replace X := X.trans Lw10
 replace EW := EW.trans Lw10
 have z21 : w.heap.size < w10.heap.size := qB cb0
 have z22 : w3.heap.size < w10.heap.size := qB r0
 have z23 : w4.heap.size < w10.heap.size := qB x0
 have z24 : w5.heap.size < w10.heap.size := qB gg0
 have sw10 : w9.heap.size ≤ w10.heap.size := Lw10.size
 clear Lw10
 clear xw10
 go_wp2_with fail
 refine (markBuffer_c PC PE _ 1 _ _ _ (w4.heap.size + 1) (w5.heap.size) (bG.ext qXt) lG (Nat.le_trans (by omega) (Ext.size (show Ext w10 _ from qXt))) (by omega) (by rw [hK2.out]; omega)).mono ?_
 rintro e w11 ⟨rfl, bH, kw11⟩
 have Kw11 : Chg (w4.heap.size + 1) (w5.heap.size) w10 w11 := (Chg.of_ext qXt).trans kw11
 have sw11 : w10.heap.size ≤ w11.heap.size := Kw11.size
 replace X := Ext.chg X Kw11 (by omega)
 replace EW := Ext.chg EW Kw11 (by omega)
 replace cb0 := Kw11.cell (by first | (left; omega) | (right; omega) | omega) cb0
 replace cb1 := Kw11.cell (by first | (left; omega) | (right; omega) | omega) cb1
 replace r0 := Kw11.cell (by first | (left; omega) | (right; omega) | omega) r0
 replace r1 := Kw11.cell (by first | (left; omega) | (right; omega) | omega) r1
 replace x0 := Kw11.cell (by first | (left; omega) | (right; omega) | omega) x0
 replace x1 := Kw11.cell (by first | (left; omega) | (right; omega) | omega) x1
 replace gg0 := Kw11.cell (by first | (left; omega) | (right; omega) | omega) gg0
 replace gg1 := Kw11.cell (by first | (left; omega) | (right; omega) | omega) gg1
 have z25 : w.heap.size < w11.heap.size := qB cb0
 have z26 : w3.heap.size < w11.heap.size := qB r0
 have z27 : w4.heap.size < w11.heap.size := qB x0
 have z28 : w5.heap.size < w11.heap.size := qB gg0
 clear Kw11 kw11
 clear bG
 rw [hK2.out]
 go_wp2_with fail
 refine (heldBuffer_c PC.length PE 1 _ _ _ _ _ (bH.ints.ext qXt) (bH.exps.ext qXt) (fun i hi => by have := hSr.out i hi; omega) (by omega) (by rw [hK2.out]; omega)).mono ?_
 rintro e w12 ⟨rfl, xw12⟩
 have Lw12 : Ext w11 w12 := Ext.trans qXt xw12
 replace cb0 := Lw12.cell cb0
 replace cb1 := Lw12.cell cb1
 replace r0 := Lw12.cell r0
 replace r1 := Lw12.cell r1
 replace x0 := Lw12.cell x0
 replace x1 := Lw12.cell x1
 replace gg0 := Lw12.cell gg0
 replace gg1 := Lw12.cell gg1
 replace bH := bH.ext Lw12
 replace X := X.trans Lw12
 replace EW := EW.trans Lw12
 have z29 : w.heap.size < w12.heap.size := qB cb0
 have z30 : w3.heap.size < w12.heap.size := qB r0
 have z31 : w4.heap.size < w12.heap.size := qB x0
 have z32 : w5.heap.size < w12.heap.size := qB gg0
 have sw12 : w11.heap.size ≤ w12.heap.size := Lw12.size
 clear Lw12
 clear xw12
 rw [hK2.out]
 go_wp2_with fail
 refine (toBuffer_c cells es _ _ _ _ _ (hc.ext (X.trans qXt)) (he.ext (X.trans qXt)) (by omega) (by omega) hm.out).mono ?_
 rintro e w13 ⟨uZ, vZ, RZ, rfl, bZ, xw13⟩
 have Lw13 : Ext w12 w13 := Ext.trans qXt xw13
 replace cb0 := Lw13.cell cb0
 replace cb1 := Lw13.cell cb1
 replace r0 := Lw13.cell r0
 replace r1 := Lw13.cell r1
 replace x0 := Lw13.cell x0
 replace x1 := Lw13.cell x1
 replace gg0 := Lw13.cell gg0
 replace gg1 := Lw13.cell gg1
 replace bH := bH.ext Lw13
 replace X := X.trans Lw13
 replace EW := EW.trans Lw13
 have z33 : w.heap.size < w13.heap.size := qB cb0
 have z34 : w3.heap.size < w13.heap.size := qB r0
 have z35 : w4.heap.size < w13.heap.size := qB x0
 have z36 : w5.heap.size < w13.heap.size := qB gg0
 have sw13 : w12.heap.size ≤ w13.heap.size := Lw13.size
 clear Lw13
 clear xw13
 go_wp2_with fail
 refine (pbx_eq hP.out (implResizeBuffer_c cells es _ _ i1 _ _ _ (bZ.ints.ext qXt) (bZ.exps.ext qXt))).mono ?_
 rintro e w14 ⟨H1, H2, RH, rfl, iH, xw14⟩
 have Lw14 : Ext w13 w14 := Ext.trans qXt xw14
 replace cb0 := Lw14.cell cb0
 replace cb1 := Lw14.cell cb1
 replace r0 := Lw14.cell r0
 replace r1 := Lw14.cell r1
 replace x0 := Lw14.cell x0
 replace x1 := Lw14.cell x1
 replace gg0 := Lw14.cell gg0
 replace gg1 := Lw14.cell gg1
 replace bH := bH.ext Lw14
 replace X := X.trans Lw14
 replace EW := EW.trans Lw14
 have z37 : w.heap.size < w14.heap.size := qB cb0
 have z38 : w3.heap.size < w14.heap.size := qB r0
 have z39 : w4.heap.size < w14.heap.size := qB x0
 have z40 : w5.heap.size < w14.heap.size := qB gg0
 have sw14 : w13.heap.size ≤ w14.heap.size := Lw14.size
 clear Lw14
 clear xw14
 clear bZ
 obtain ⟨Ha, Hc, rfl⟩ := iH.ints.form
 obtain ⟨Hd, Hf, rfl⟩ := iH.exps.form
 go_wp2_with fail
 refine (eqBuffer_c PC PE _ _ _ _ _ _ _ _ _ (iH.ints.ext qXt) (iH.exps.ext qXt) ((iW.ext EW).ints.ext qXt) ((iW.ext EW).exps.ext qXt)).mono ?_
 rintro e w15 ⟨rfl, xw15⟩
 have Lw15 : Ext w14 w15 := Ext.trans qXt xw15
 replace cb0 := Lw15.cell cb0
 replace cb1 := Lw15.cell cb1
 replace r0 := Lw15.cell r0
 replace r1 := Lw15.cell r1
 replace x0 := Lw15.cell x0
 replace x1 := Lw15.cell x1
 replace gg0 := Lw15.cell gg0
 replace gg1 := Lw15.cell gg1
 have y0 : w15.cell? ⟨w14.heap.size, 0, none⟩ = some (.slice Ha PC.length Hc) := xw15.cell qCl
 have y1 : w15.cell? ⟨w14.heap.size, 1, none⟩ = some (.slice Hd PE.length Hf) := xw15.cell qCl
 replace bH := bH.ext Lw15
 replace iH := iH.ext Lw15
 replace X := X.trans Lw15
 replace EW := EW.trans Lw15
 have z41 : w.heap.size < w15.heap.size := qB cb0
 have z42 : w3.heap.size < w15.heap.size := qB r0
 have z43 : w4.heap.size < w15.heap.size := qB x0
 have z44 : w5.heap.size < w15.heap.size := qB gg0
 have z45 : w14.heap.size < w15.heap.size := qB y0
 have sw15 : w14.heap.size ≤ w15.heap.size := Lw15.size
 clear Lw15
 clear xw15
 go_wp2_with fail
 refine (heldBuffer_c PC.length PE 1 _ _ _ _ _ (bH.ints.ext qXt) (bH.exps.ext qXt) (fun i hi => by have := hSr.out i hi; omega) (by omega) (by rw [hK2.out]; omega)).mono ?_
 rintro e w16 ⟨rfl, xw16⟩
 have Lw16 : Ext w15 w16 := Ext.trans qXt xw16
 replace cb0 := Lw16.cell cb0
 replace cb1 := Lw16.cell cb1
 replace r0 := Lw16.cell r0
 replace r1 := Lw16.cell r1
 replace x0 := Lw16.cell x0
 replace x1 := Lw16.cell x1
 replace gg0 := Lw16.cell gg0
 replace gg1 := Lw16.cell gg1
 replace y0 := Lw16.cell y0
 replace y1 := Lw16.cell y1
 replace bH := bH.ext Lw16
 replace iH := iH.ext Lw16
 replace X := X.trans Lw16
 replace EW := EW.trans Lw16
 have z46 : w.heap.size < w16.heap.size := qB cb0
 have z47 : w3.heap.size < w16.heap.size := qB r0
 have z48 : w4.heap.size < w16.heap.size := qB x0
 have z49 : w5.heap.size < w16.heap.size := qB gg0
 have z50 : w14.heap.size < w16.heap.size := qB y0
 have sw16 : w15.heap.size ≤ w16.heap.size := Lw16.size
 clear Lw16
 clear xw16
 rw [hK2.out]
 go_wp2_with fail
 go_ret
 exact ⟨rfl, X.trans qXt⟩

set_option maxHeartbeats 6400000 in
theorem lawResizeBuffer_true (cells : List Int) (es : List Exp) (ac ae : Option Addr) (cc ce : Nat) (i1 : Int) (w : World) (hc : Raw w (.slice ac cells.length cc) cells) (he : RawE w (.slice ae es.length ce) es) (nc : cells.length ≤ maxLen) (ne : es.length ≤ maxLen) (PC : List Int) (PE : List Exp) (hP : Hid (resA cells es i1 = (PC, PE, true))) (hS : SmallB (PC, PE, true)) :
  Calls Try.prog 6 #[.agg #[.slice ac cells.length cc, .slice ae es.length ce], .int .i64 i1] w fun e w' => e = .returned (.bool true) ∧ Ext w w' := by
 go_enter Try.func6, Try.ntmps6
 have X : Ext w w := Ext.refl _
 go_wp2_with fail
 refine (szBuffer_c cells es _ _ _ _ 1048576 _ (he.ext qXt) (by omega) (by omega) ne nc).mono ?_
 rintro e w1 ⟨L, rfl, ql1, ql2, ql3, xw1⟩
 have Lw1 : Ext w w1 := Ext.trans qXt xw1
 have cb0 : w1.cell? ⟨w.heap.size, 0, none⟩ = some (.slice ac cells.length cc) := xw1.cell qCl
 have cb1 : w1.cell? ⟨w.heap.size, 1, none⟩ = some (.slice ae es.length ce) := xw1.cell qCl
 replace X := X.trans Lw1
 have z1 : w.heap.size < w1.heap.size := qB cb0
 have sw1 : w.heap.size ≤ w1.heap.size := Lw1.size
 clear Lw1
 clear xw1
 by_cases q0 : L < 0
 ·
  go_wp2_with fail
  go_ret
  exact ⟨rfl, X.trans qXt⟩
 have ql4 := ql3 (by omega)
 have hm : ∀ i, i < es.length → (expAt es i).s.length ≤ 1048576 ∧ (expAt es i).t.length ≤ 1048576 := fun i hi => by have := sizeE_le es i es.length hi; omega
 replace hm := Lib.hid hm
 have hk1 : kE (1 + cells.length) es es.length ≤ 4194304 := by rw [kE_size]; omega
 have hk0 := kE_mono (1 + cells.length) es 0 es.length (Nat.zero_le _)
 have hk2 : 0 ≤ kE (1 + cells.length) es es.length := by simp only [kE] at hk0; omega
 clear hk0
 obtain ⟨K1, hK1⟩ : ∃ x, kE (1 + cells.length) es es.length = x := ⟨_, rfl⟩
 rw [hK1] at hk1 hk2
 replace hK1 := Lib.hid hK1
 have hG1 := hS.kE
 have hG0 := kE_mono (1 + PC.length) PE 0 PE.length (Nat.zero_le _)
 obtain ⟨hSc, hSe, hSr⟩ := hS
 dsimp only at hG1 hSc hSe hSr
 have hG2 : 0 ≤ kE (1 + PC.length) PE PE.length := by simp only [kE] at hG0; omega
 clear hG0
 obtain ⟨K2, hK2⟩ : ∃ x, kE (1 + PC.length) PE PE.length = x := ⟨_, rfl⟩
 rw [hK2] at hG1 hG2
 replace hK2 := Lib.hid hK2
 replace hSr := Lib.hid hSr
 go_wp2_with fail
 refine (toBuffer_c cells es _ _ _ _ _ (hc.ext (X.trans qXt)) (he.ext (X.trans qXt)) (by omega) (by omega) hm.out).mono ?_
 rintro e w2 ⟨uW, vW, RW, rfl, bW, xw2⟩
 have Lw2 : Ext w1 w2 := Ext.trans qXt xw2
 replace cb0 := Lw2.cell cb0
 replace cb1 := Lw2.cell cb1
 replace X := X.trans Lw2
 have z2 : w.heap.size < w2.heap.size := qB cb0
 have sw2 : w1.heap.size ≤ w2.heap.size := Lw2.size
 clear Lw2
 clear xw2
 go_wp2_with fail
 refine (pbx_eq hP.out (specResizeBuffer_c cells es _ _ i1 _ _ _ (bW.ints.ext qXt) (bW.exps.ext qXt))).mono ?_
 rintro e w3 ⟨W1, W2, RW, rfl, iW, xw3⟩
 have Lw3 : Ext w2 w3 := Ext.trans qXt xw3
 replace cb0 := Lw3.cell cb0
 replace cb1 := Lw3.cell cb1
 replace X := X.trans Lw3
 have z3 : w.heap.size < w3.heap.size := qB cb0
 have sw3 : w2.heap.size ≤ w3.heap.size := Lw3.size
 clear Lw3
 clear xw3
 have EW : Ext w3 w3 := Ext.refl _
 clear bW
 obtain ⟨Wa, Wc, rfl⟩ := iW.ints.form
 obtain ⟨Wd, Wf, rfl⟩ := iW.exps.form
 go_wp2_with fail
 refine (toBuffer_c cells es _ _ _ _ _ (hc.ext (X.trans qXt)) (he.ext (X.trans qXt)) (by omega) (by omega) hm.out).mono ?_
 rintro e w4 ⟨uX, vX, RX, rfl, bX, xw4⟩
 have Lw4 : Ext w3 w4 := Ext.trans qXt xw4
 replace cb0 := Lw4.cell cb0
 replace cb1 := Lw4.cell cb1
 have r0 : w4.cell? ⟨w3.heap.size, 0, none⟩ = some (.slice Wa PC.length Wc) := xw4.cell qCl
 have r1 : w4.cell? ⟨w3.heap.size, 1, none⟩ = some (.slice Wd PE.length Wf) := xw4.cell qCl
 replace X := X.trans Lw4
 replace EW := EW.trans Lw4
 have z4 : w.heap.size < w4.heap.size := qB cb0
 have z5 : w3.heap.size < w4.heap.size := qB r0
 have sw4 : w3.heap.size ≤ w4.heap.size := Lw4.size
 clear Lw4
 clear xw4
 replace bX := bX.lower (lo' := w3.heap.size + 1) qSo
 have lX := bX.below
 obtain ⟨Xa, Xc, rfl⟩ := bX.ints.form
 obtain ⟨Xd, Xf, rfl⟩ := bX.exps.form
 go_wp2_with fail
 refine (pbx_eq hP.out (implResizeBuffer_c cells es _ _ i1 _ _ _ (bX.ints.ext qXt) (bX.exps.ext qXt))).mono ?_
 rintro e w5 ⟨G1, G2, RG, rfl, bG, xw5⟩
 have Lw5 : Ext w4 w5 := Ext.trans qXt xw5
 replace cb0 := Lw5.cell cb0
 replace cb1 := Lw5.cell cb1
 replace r0 := Lw5.cell r0
 replace r1 := Lw5.cell r1
 have x0 : w5.cell? ⟨w4.heap.size, 0, none⟩ = some (.slice Xa cells.length Xc) := xw5.cell qCl
 have x1 : w5.cell? ⟨w4.heap.size, 1, none⟩ = some (.slice Xd es.length Xf) := xw5.cell qCl
 replace bX := bX.ext Lw5
 replace X := X.trans Lw5
 replace EW := EW.trans Lw5
 have z6 : w.heap.size < w5.heap.size := qB cb0
 have z7 : w3.heap.size < w5.heap.size := qB r0
 have z8 : w4.heap.size < w5.heap.size := qB x0
 have sw5 : w4.heap.size ≤ w5.heap.size := Lw5.size
 clear Lw5
 clear xw5
 replace bG := bG.lower (lo' := w4.heap.size + 1) qSo
 have lG := bG.below
 obtain ⟨Ga, Gc, rfl⟩ := bG.ints.form
 obtain ⟨Gd, Gf, rfl⟩ := bG.exps.form
 go_wp2_with fail
 refine (eqBuffer_c PC PE _ _ _ _ _ _ _ _ _ (bG.ints.ext qXt) (bG.exps.ext qXt) ((iW.ext EW).ints.ext qXt) ((iW.ext EW).exps.ext qXt)).mono ?_
 rintro e w6 ⟨rfl, xw6⟩
 have Lw6 : Ext w5 w6 := Ext.trans qXt xw6
 replace cb0 := Lw6.cell cb0
 replace cb1 := Lw6.cell cb1
 replace r0 := Lw6.cell r0
 replace r1 := Lw6.cell r1
 replace x0 := Lw6.cell x0
 replace x1 := Lw6.cell x1
 have gg0 : w6.cell? ⟨w5.heap.size, 0, none⟩ = some (.slice Ga PC.length Gc) := xw6.cell qCl
 have gg1 : w6.cell? ⟨w5.heap.size, 1, none⟩ = some (.slice Gd PE.length Gf) := xw6.cell qCl
 replace bX := bX.ext Lw6
 replace bG := bG.ext Lw6
 replace X := X.trans Lw6
 replace EW := EW.trans Lw6
 have z9 : w.heap.size < w6.heap.size := qB cb0
 have z10 : w3.heap.size < w6.heap.size := qB r0
 have z11 : w4.heap.size < w6.heap.size := qB x0
 have z12 : w5.heap.size < w6.heap.size := qB gg0
 have sw6 : w5.heap.size ≤ w6.heap.size := Lw6.size
 clear Lw6
 clear xw6
 go_wp2_with fail
 go_region_held3 (fun w' => w'.cell? ⟨w.heap.size, 0, none⟩ = some (.slice ac cells.length cc) ∧ w'.cell? ⟨w.heap.size, 1, none⟩ = some (.slice ae es.length ce) ∧ w'.cell? ⟨w3.heap.size, 0, none⟩ = some (.slice Wa PC.length Wc) ∧ w'.cell? ⟨w3.heap.size, 1, none⟩ = some (.slice Wd PE.length Wf) ∧ w'.cell? ⟨w4.heap.size, 0, none⟩ = some (.slice Xa cells.length Xc) ∧ w'.cell? ⟨w4.heap.size, 1, none⟩ = some (.slice Xd es.length Xf) ∧ w'.cell? ⟨w5.heap.size, 0, none⟩ = some (.slice Ga PC.length Gc) ∧ w'.cell? ⟨w5.heap.size, 1, none⟩ = some (.slice Gd PE.length Gf))
  (first
   | go_keep
   | exact ⟨Yw8.cell cb0, Yw8.cell cb1, Yw8.cell r0, Yw8.cell r1, Yw8.cell x0, Yw8.cell x1, Yw8.cell gg0, Yw8.cell gg1⟩
   | exact ⟨Yw7.cell cb0, Yw7.cell cb1, Yw7.cell r0, Yw7.cell r1, Yw7.cell x0, Yw7.cell x1, Yw7.cell gg0, Yw7.cell gg1⟩)
  (first
   | (go_at_call 19; refine (eqBuffer_c cells es _ _ _ _ _ _ _ _ _ (bX.ints.ext (Yw7.trans qXo)) (bX.exps.ext (Yw7.trans qXo)) (bu.ints.ext qXo) (bu.exps.ext qXo)).mono ?_; rintro e w8 ⟨rfl, xw8⟩; have Yw8 : Ext w6 w8 := Yw7.trans (Ext.trans qXo xw8); replace bu := bu.ext (Ext.trans qXo xw8))
   | (go_at_call 16; refine (toBuffer_c cells es _ _ _ _ _ (hc.ext (X.trans qXo)) (he.ext (X.trans qXo)) (by omega) (by omega) hm.out).mono ?_; rintro e w7 ⟨uu, vu, Ru, rfl, bu, xw7⟩; have Yw7 : Ext w6 w7 := Ext.trans qXo xw7))
 have Lw8 : Ext w6 w8 := Yw8
 replace cb0 := Lw8.cell cb0
 replace cb1 := Lw8.cell cb1
 replace r0 := Lw8.cell r0
 replace r1 := Lw8.cell r1
 replace x0 := Lw8.cell x0
 replace x1 := Lw8.cell x1
 replace gg0 := Lw8.cell gg0
 replace gg1 := Lw8.cell gg1
 replace bX := bX.ext Lw8
 replace bG := bG.ext Lw8
 replace X := X.trans Lw8
 replace EW := EW.trans Lw8
 have z13 : w.heap.size < w8.heap.size := qB cb0
 have z14 : w3.heap.size < w8.heap.size := qB r0
 have z15 : w4.heap.size < w8.heap.size := qB x0
 have z16 : w5.heap.size < w8.heap.size := qB gg0
 have sw8 : w6.heap.size ≤ w8.heap.size := Lw8.size
 clear bu
 go_wp2_with fail
 refine (markBuffer_c cells es _ 1 _ _ _ (w3.heap.size + 1) (w4.heap.size) (bX.ext qXt) lX (Nat.le_trans (by omega) (Ext.size (show Ext w8 _ from qXt))) (by omega) (by rw [hK1.out]; omega)).mono ?_
 rintro e w9 ⟨rfl, -, kw9⟩
 have Kw9 : Chg (w3.heap.size + 1) (w4.heap.size) w8 w9 := (Chg.of_ext qXt).trans kw9
 have sw9 : w8.heap.size ≤ w9.heap.size := Kw9.size
 replace X := Ext.chg X Kw9 (by omega)
 replace EW := Ext.chg EW Kw9 (by omega)
 replace cb0 := Kw9.cell (by first | (left; omega) | (right; omega) | omega) cb0
 replace cb1 := Kw9.cell (by first | (left; omega) | (right; omega) | omega) cb1
 replace r0 := Kw9.cell (by first | (left; omega) | (right; omega) | omega) r0
 replace r1 := Kw9.cell (by first | (left; omega) | (right; omega) | omega) r1
 replace x0 := Kw9.cell (by first | (left; omega) | (right; omega) | omega) x0
 replace x1 := Kw9.cell (by first | (left; omega) | (right; omega) | omega) x1
 replace gg0 := Kw9.cell (by first | (left; omega) | (right; omega) | omega) gg0
 replace gg1 := Kw9.cell (by first | (left; omega) | (right; omega) | omega) gg1
 replace bG := bG.chg Kw9 (by omega)
 have z17 : w.heap.size < w9.heap.size := qB cb0
 have z18 : w3.heap.size < w9.heap.size := qB r0
 have z19 : w4.heap.size < w9.heap.size := qB x0
 have z20 : w5.heap.size < w9.heap.size := qB gg0
 clear Kw9 kw9
 clear bX
 rw [hK1.out]
 go_wp2_with fail
 refine (eqBuffer_c PC PE _ _ _ _ _ _ _ _ _ (bG.ints.ext qXt) (bG.exps.ext qXt) ((iW.ext EW).ints.ext qXt) ((iW.ext EW).exps.ext qXt)).mono ?_
 rintro e w10 ⟨rfl, xw10⟩
 have Lw10 : Ext w9 w10 := Ext.trans qXt xw10
 replace cb0 := Lw10.cell cb0
 replace cb1 := Lw10.cell cb1
 replace r0 := Lw10.cell r0
 replace r1 := Lw10.cell r1
 replace x0 := Lw10.cell x0
 replace x1 := Lw10.cell x1
 replace gg0 := Lw10.cell gg0
 replace gg1 := Lw10.cell gg1
 replace bG := bG.ext Lw10
 replace X := X.trans Lw10
 replace EW := EW.trans Lw10
 have z21 : w.heap.size < w10.heap.size := qB cb0
 have z22 : w3.heap.size < w10.heap.size := qB r0
 have z23 : w4.heap.size < w10.heap.size := qB x0
 have z24 : w5.heap.size < w10.heap.size := qB gg0
 have sw10 : w9.heap.size ≤ w10.heap.size := Lw10.size
 clear Lw10
 clear xw10
 go_wp2_with fail
 refine (markBuffer_c PC PE _ 1 _ _ _ (w4.heap.size + 1) (w5.heap.size) (bG.ext qXt) lG (Nat.le_trans (by omega) (Ext.size (show Ext w10 _ from qXt))) (by omega) (by rw [hK2.out]; omega)).mono ?_
 rintro e w11 ⟨rfl, bH, kw11⟩
 have Kw11 : Chg (w4.heap.size + 1) (w5.heap.size) w10 w11 := (Chg.of_ext qXt).trans kw11
 have sw11 : w10.heap.size ≤ w11.heap.size := Kw11.size
 replace X := Ext.chg X Kw11 (by omega)
 replace EW := Ext.chg EW Kw11 (by omega)
 replace cb0 := Kw11.cell (by first | (left; omega) | (right; omega) | omega) cb0
 replace cb1 := Kw11.cell (by first | (left; omega) | (right; omega) | omega) cb1
 replace r0 := Kw11.cell (by first | (left; omega) | (right; omega) | omega) r0
 replace r1 := Kw11.cell (by first | (left; omega) | (right; omega) | omega) r1
 replace x0 := Kw11.cell (by first | (left; omega) | (right; omega) | omega) x0
 replace x1 := Kw11.cell (by first | (left; omega) | (right; omega) | omega) x1
 replace gg0 := Kw11.cell (by first | (left; omega) | (right; omega) | omega) gg0
 replace gg1 := Kw11.cell (by first | (left; omega) | (right; omega) | omega) gg1
 have z25 : w.heap.size < w11.heap.size := qB cb0
 have z26 : w3.heap.size < w11.heap.size := qB r0
 have z27 : w4.heap.size < w11.heap.size := qB x0
 have z28 : w5.heap.size < w11.heap.size := qB gg0
 clear Kw11 kw11
 clear bG
 rw [hK2.out]
 go_wp2_with fail
 refine (heldBuffer_c PC.length PE 1 _ _ _ _ _ (bH.ints.ext qXt) (bH.exps.ext qXt) (fun i hi => by have := hSr.out i hi; omega) (by omega) (by rw [hK2.out]; omega)).mono ?_
 rintro e w12 ⟨rfl, xw12⟩
 have Lw12 : Ext w11 w12 := Ext.trans qXt xw12
 replace cb0 := Lw12.cell cb0
 replace cb1 := Lw12.cell cb1
 replace r0 := Lw12.cell r0
 replace r1 := Lw12.cell r1
 replace x0 := Lw12.cell x0
 replace x1 := Lw12.cell x1
 replace gg0 := Lw12.cell gg0
 replace gg1 := Lw12.cell gg1
 replace bH := bH.ext Lw12
 replace X := X.trans Lw12
 replace EW := EW.trans Lw12
 have z29 : w.heap.size < w12.heap.size := qB cb0
 have z30 : w3.heap.size < w12.heap.size := qB r0
 have z31 : w4.heap.size < w12.heap.size := qB x0
 have z32 : w5.heap.size < w12.heap.size := qB gg0
 have sw12 : w11.heap.size ≤ w12.heap.size := Lw12.size
 clear Lw12
 clear xw12
 rw [hK2.out]
 go_wp2_with fail
 refine (toBuffer_c cells es _ _ _ _ _ (hc.ext (X.trans qXt)) (he.ext (X.trans qXt)) (by omega) (by omega) hm.out).mono ?_
 rintro e w13 ⟨uZ, vZ, RZ, rfl, bZ, xw13⟩
 have Lw13 : Ext w12 w13 := Ext.trans qXt xw13
 replace cb0 := Lw13.cell cb0
 replace cb1 := Lw13.cell cb1
 replace r0 := Lw13.cell r0
 replace r1 := Lw13.cell r1
 replace x0 := Lw13.cell x0
 replace x1 := Lw13.cell x1
 replace gg0 := Lw13.cell gg0
 replace gg1 := Lw13.cell gg1
 replace bH := bH.ext Lw13
 replace X := X.trans Lw13
 replace EW := EW.trans Lw13
 have z33 : w.heap.size < w13.heap.size := qB cb0
 have z34 : w3.heap.size < w13.heap.size := qB r0
 have z35 : w4.heap.size < w13.heap.size := qB x0
 have z36 : w5.heap.size < w13.heap.size := qB gg0
 have sw13 : w12.heap.size ≤ w13.heap.size := Lw13.size
 clear Lw13
 clear xw13
 go_wp2_with fail
 refine (pbx_eq hP.out (implResizeBuffer_c cells es _ _ i1 _ _ _ (bZ.ints.ext qXt) (bZ.exps.ext qXt))).mono ?_
 rintro e w14 ⟨H1, H2, RH, rfl, iH, xw14⟩
 have Lw14 : Ext w13 w14 := Ext.trans qXt xw14
 replace cb0 := Lw14.cell cb0
 replace cb1 := Lw14.cell cb1
 replace r0 := Lw14.cell r0
 replace r1 := Lw14.cell r1
 replace x0 := Lw14.cell x0
 replace x1 := Lw14.cell x1
 replace gg0 := Lw14.cell gg0
 replace gg1 := Lw14.cell gg1
 replace bH := bH.ext Lw14
 replace X := X.trans Lw14
 replace EW := EW.trans Lw14
 have z37 : w.heap.size < w14.heap.size := qB cb0
 have z38 : w3.heap.size < w14.heap.size := qB r0
 have z39 : w4.heap.size < w14.heap.size := qB x0
 have z40 : w5.heap.size < w14.heap.size := qB gg0
 have sw14 : w13.heap.size ≤ w14.heap.size := Lw14.size
 clear Lw14
 clear xw14
 clear bZ
 obtain ⟨Ha, Hc, rfl⟩ := iH.ints.form
 obtain ⟨Hd, Hf, rfl⟩ := iH.exps.form
 go_wp2_with fail
 refine (eqBuffer_c PC PE _ _ _ _ _ _ _ _ _ (iH.ints.ext qXt) (iH.exps.ext qXt) ((iW.ext EW).ints.ext qXt) ((iW.ext EW).exps.ext qXt)).mono ?_
 rintro e w15 ⟨rfl, xw15⟩
 have Lw15 : Ext w14 w15 := Ext.trans qXt xw15
 replace cb0 := Lw15.cell cb0
 replace cb1 := Lw15.cell cb1
 replace r0 := Lw15.cell r0
 replace r1 := Lw15.cell r1
 replace x0 := Lw15.cell x0
 replace x1 := Lw15.cell x1
 replace gg0 := Lw15.cell gg0
 replace gg1 := Lw15.cell gg1
 have y0 : w15.cell? ⟨w14.heap.size, 0, none⟩ = some (.slice Ha PC.length Hc) := xw15.cell qCl
 have y1 : w15.cell? ⟨w14.heap.size, 1, none⟩ = some (.slice Hd PE.length Hf) := xw15.cell qCl
 replace bH := bH.ext Lw15
 replace iH := iH.ext Lw15
 replace X := X.trans Lw15
 replace EW := EW.trans Lw15
 have z41 : w.heap.size < w15.heap.size := qB cb0
 have z42 : w3.heap.size < w15.heap.size := qB r0
 have z43 : w4.heap.size < w15.heap.size := qB x0
 have z44 : w5.heap.size < w15.heap.size := qB gg0
 have z45 : w14.heap.size < w15.heap.size := qB y0
 have sw15 : w14.heap.size ≤ w15.heap.size := Lw15.size
 clear Lw15
 clear xw15
 go_wp2_with fail
 refine (heldBuffer_c PC.length PE 1 _ _ _ _ _ (bH.ints.ext qXt) (bH.exps.ext qXt) (fun i hi => by have := hSr.out i hi; omega) (by omega) (by rw [hK2.out]; omega)).mono ?_
 rintro e w16 ⟨rfl, xw16⟩
 have Lw16 : Ext w15 w16 := Ext.trans qXt xw16
 replace cb0 := Lw16.cell cb0
 replace cb1 := Lw16.cell cb1
 replace r0 := Lw16.cell r0
 replace r1 := Lw16.cell r1
 replace x0 := Lw16.cell x0
 replace x1 := Lw16.cell x1
 replace gg0 := Lw16.cell gg0
 replace gg1 := Lw16.cell gg1
 replace y0 := Lw16.cell y0
 replace y1 := Lw16.cell y1
 replace bH := bH.ext Lw16
 replace iH := iH.ext Lw16
 replace X := X.trans Lw16
 replace EW := EW.trans Lw16
 have z46 : w.heap.size < w16.heap.size := qB cb0
 have z47 : w3.heap.size < w16.heap.size := qB r0
 have z48 : w4.heap.size < w16.heap.size := qB x0
 have z49 : w5.heap.size < w16.heap.size := qB gg0
 have z50 : w14.heap.size < w16.heap.size := qB y0
 have sw16 : w15.heap.size ≤ w16.heap.size := Lw16.size
 clear Lw16
 clear xw16
 rw [hK2.out]
 go_wp2_with fail
 go_ret
 exact ⟨rfl, X.trans qXt⟩

set_option maxHeartbeats 6400000 in
theorem lawResizeBuffer_c (cells : List Int) (es : List Exp) (ac ae : Option Addr) (cc ce : Nat) (i1 : Int) (w : World) (hc : Raw w (.slice ac cells.length cc) cells) (he : RawE w (.slice ae es.length ce) es) (nc : cells.length ≤ maxLen) (ne : es.length ≤ maxLen) (wf1 : (Lit.int .i64 i1).wf = true) :
  Calls Try.prog 6 #[.agg #[.slice ac cells.length cc, .slice ae es.length ce], .int .i64 i1] w fun e w' => e = .returned (.bool true) ∧ Ext w w' := by
 have hS := resA_small cells es i1
 obtain ⟨PC, PE, PO, hP⟩ : ∃ PC PE PO, resA cells es i1 = (PC, PE, PO) := ⟨_, _, _, rfl⟩
 rw [hP] at hS
 cases PO
 ·
  exact lawResizeBuffer_false cells es ac ae cc ce i1 w hc he nc ne PC PE (Lib.hid hP) hS
 ·
  exact lawResizeBuffer_true cells es ac ae cc ce i1 w hc he nc ne PC PE (Lib.hid hP) hS
end Go.Proofs.Ytfbbnbpobojboaa

/- The law FnExactResizeBuffer holds for all arguments: the call returns true, and its arguments read as they did. No condition. -/
namespace Go.Proofs.Ytfbbnbpobojboaa.rowResizeBuffer
open Go.ChangeShapes Go.WideShapes Go.ChangeAt Go.RowKit
set_option linter.unusedVariables false

set_option maxHeartbeats 1000000 in
set_option maxRecDepth 100000 in
theorem lifted (os : Os) (started : os.Started) (H : Type) (enc : TypeId × Value → H) :
    ReturnsInHanded {} Try.checked os 6 .any (Rows.fnExactResizeBufferSpec.pre6 enc Try.prog Try.f6 Rows.fnExactResizeBufferRow.domain false) (Rows.fnExactResizeBufferSpec.post enc Try.prog Try.f6 false true false false) := by
  refine returnsInHanded_of_change (C := Try.checked) own started qKr Try.func6
    (ChangeSpec.witness6 (enc := enc) (C := Try.checked) false ⟨#[], #[.agg #[.slice none 0 0, .slice none 0 0], .int .i64 0], []⟩ 8 qKr qKr qKr qKr) ?_
  intro W base args ds gs before hval0 hW hcnd _
  have hval : ∀ (j : Nat) t v, Try.f6.params[j]? = some t → args[j]? = some v → Value.okWide Try.prog W .any base t v := hval0
  have hW' := hW
  obtain ⟨p, q, hA0, hV, rfl, hfz, hnd⟩ := hW
  have hA : DataW.TrodAll enc Try.prog W 0 (fun _ => true) true Try.f6.params.toList args.toList ds p := hA0
  rw [Try.params6] at hA hval
  obtain ⟨v0, vs0, d0, ds0, p0, q0, hargs0, rfl, rfl, h0, r0⟩ := trodAll_cons hA
  obtain ⟨v1, vs1, d1, ds1, p1, q1, hargs1, rfl, rfl, h1, r1⟩ := trodAll_cons r0
  subst hargs1
  obtain ⟨rfl, rfl, rfl⟩ := trodAll_nil r1
  obtain rfl : args = #[v0, v1] := by cases args; simp_all
  obtain ⟨rfl, rfl⟩ := trodVars_none hV
  have k0 := h0
  have lt0 : ∀ x ∈ p0, x.block < W.heap.size := by obtain ⟨m, hm⟩ := k0; exact DataW.trod_lt m _ _ _ hm
  obtain ⟨cells0, es0, ac0, ae0, cc0, ce0, rfl, ⟨hb0, nb0⟩, hE0, ne0⟩ := open_buffer (hval 0 _ v0 rfl rfl) h0
  have k1 := h1
  have lt1 : ∀ x ∈ p1, x.block < W.heap.size := by obtain ⟨m, hm⟩ := k1; exact DataW.trod_lt m _ _ _ hm
  obtain ⟨i1, rfl, -, -, wf1⟩ := open_int Try.underlying3 (hval 1 _ v1 rfl rfl) h1
  clear hA0 hval0
  refine (lawResizeBuffer_c cells0 es0 ac0 ae0 cc0 ce0 i1 W hb0 hE0 nb0 ne0 wf1).mono fun e W' ⟨he, bel⟩ => ?_
  subst he
  exact ⟨_, rfl, _, _, _, [], _, [], hW', trodAll_mk1 (shut_bool Try.underlying4 _), (trodAll_cons_mk (Below.trod laidOut qKr (of_decide_eq_true qKr) k0 bel lt0) (trodAll_cons_mk (Below.trod laidOut qKr (of_decide_eq_true qKr) k1 bel lt1) trodAll_mk0)), rfl, Below.frame bel _, fun h => by cases h⟩

set_option maxHeartbeats 2000000 in
theorem closed : joinedFacts Try.checked.prog 6 Try.f6 Rows.fnExactResizeBufferSpec Rows.fnExactResizeBufferRow = true :=
  facts.all qKr qKr qKr qKr qKr (by as_aux_lemma => kernel_rfl) (by as_aux_lemma => kernel_rfl) (by as_aux_lemma => kernel_rfl) (by as_aux_lemma => kernel_rfl)
    (by as_aux_lemma => kernel_rfl) (by as_aux_lemma => kernel_rfl) rfl rfl rfl rfl qKr qKr (by as_aux_lemma => kernel_rfl) (by as_aux_lemma => kernel_rfl)

theorem named : Try.pinned.checked.prog.funcNamed Rows.fnExactResizeBufferRow.func = some 6 := by kernel_rfl

theorem over : Rows.fnExactResizeBufferRow.holds Try.pinned (OpenSpec.ofChange Rows.fnExactResizeBufferSpec) :=
  OpenClaim.holds_of_wide 6 Try.f6 rfl rfl rfl rfl rfl rfl rfl ⟨rfl, rfl, rfl, rfl, rfl⟩ rfl rfl rfl rfl rfl named Try.func6 closed
    (of_decide_eq_true qKr) (by unfold Func.isWrapper; exact ⟨rfl, rfl⟩)
    (fun os started H enc _ => lifted os started H enc)

theorem proved : Rows.FnExactResizeBufferSaid := over

end Go.Proofs.Ytfbbnbpobojboaa.rowResizeBuffer
