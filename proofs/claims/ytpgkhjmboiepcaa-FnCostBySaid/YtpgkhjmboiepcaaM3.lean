/- Texts of these proofs put together: SvG, SvD, SvH, KitB, SvI, GenB, GenC, GenD, SvJ, SvL. No condition. -/
import Derived.Test.YtpgkhjmboiepcaaM2
import Derived.Test.YtpgkhjmboiepcaaM1
set_option linter.unusedVariables false
set_option linter.unusedSimpArgs false
/- Walks: permuted of the reference. -/
namespace Go.Proofs.Ytpgkhjmboiepcaa
open Go.RowKit
set_option linter.unusedVariables false
set_option maxRecDepth 100000

set_option maxHeartbeats 6400000 in
theorem permuted_c (b1 : Int) (u1 v1 : Value) (s1 t1 : List Int) (a3 : Value) (ord : List Int) (w : World) (l1 m1 : Nat) (h1 : Ints w l1 u1 s1) (k1 : Ints w m1 v1 t1) (l3 : Nat) (h3 : Ints w l3 a3 ord) (hb : ∀ x ∈ ord, 0 ≤ x ∧ x < s1.length) (ht : t1.length = s1.length) (hn : ord.length ≤ 1000) :
  Calls Try.prog 148 #[.agg #[.int .i64 b1, u1, v1], a3] w (PView w b1 (takL s1 ord) (takL t1 ord)) := by
 have hlen1 := ints_len h1
 obtain ⟨a1, cp1, rfl⟩ := h1.form
 obtain ⟨a2, cp2, rfl⟩ := k1.form
 obtain ⟨a4, cp4, rfl⟩ := h3.form
 replace ht := Lib.hid ht
 replace hb := Lib.hid hb
 go_enter Try.func148, Try.ntmps148
 go_wp2_with fail
 generalize hW1 : ((w.alloc (.cells #[.int .i64 b1, .slice a1 s1.length cp1, .slice a2 t1.length cp2] 25)).alloc (.cells #[.int .i64 0, .slice none 0 0, .slice none 0 0] 25)).alloc (.cells #[.int .i64 b1, .slice none 0 0, .slice none 0 0] 25) = w1 at *
 have Lw1 : Ext w w1 := by subst hW1; exact qXt
 have Xw1 : Ext w w1 := by subst hW1; exact Lw1
 have va0 : w1.cell? ⟨w.heap.size, 0, none⟩ = some (.int .i64 b1) := by subst hW1; exact qCl
 have va1 : w1.cell? ⟨w.heap.size, 1, none⟩ = some (.slice a1 s1.length cp1) := by subst hW1; exact qCl
 have va2 : w1.cell? ⟨w.heap.size, 2, none⟩ = some (.slice a2 t1.length cp2) := by subst hW1; exact qCl
 have q0 : w1.cell? ⟨w.heap.size + 1, 0, none⟩ = some (.int .i64 0) := by subst hW1; exact qCl
 have q1 : w1.cell? ⟨w.heap.size + 1, 1, none⟩ = some (.slice none 0 0) := by subst hW1; exact qCl
 have q2 : w1.cell? ⟨w.heap.size + 1, 2, none⟩ = some (.slice none 0 0) := by subst hW1; exact qCl
 have f_q0 : w1.frozen? ⟨w.heap.size + 1, 0, none⟩ = false := by subst hW1; exact qFz
 have f_q1 : w1.frozen? ⟨w.heap.size + 1, 1, none⟩ = false := by subst hW1; exact qFz
 have f_q2 : w1.frozen? ⟨w.heap.size + 1, 2, none⟩ = false := by subst hW1; exact qFz
 have ou0 : w1.cell? ⟨w.heap.size + 1 + 1, 0, none⟩ = some (.int .i64 b1) := by subst hW1; exact qCl
 have ou1 : w1.cell? ⟨w.heap.size + 1 + 1, 1, none⟩ = some (.slice none 0 0) := by subst hW1; exact qCl
 have ou2 : w1.cell? ⟨w.heap.size + 1 + 1, 2, none⟩ = some (.slice none 0 0) := by subst hW1; exact qCl
 have f_ou0 : w1.frozen? ⟨w.heap.size + 1 + 1, 0, none⟩ = false := by subst hW1; exact qFz
 have f_ou1 : w1.frozen? ⟨w.heap.size + 1 + 1, 1, none⟩ = false := by subst hW1; exact qFz
 have f_ou2 : w1.frozen? ⟨w.heap.size + 1 + 1, 2, none⟩ = false := by subst hW1; exact qFz
 have z_va : w.heap.size < w1.heap.size := qB va0
 have z_q : w.heap.size + 1 < w1.heap.size := qB q0
 have z_ou : w.heap.size + 1 + 1 < w1.heap.size := qB ou0
 have s_w1 : w.heap.size ≤ w1.heap.size := Xw1.size
 clear hW1
 go_loopw [6] (fun i wr => ∃ (j : Nat) (p1 p2 : Value), j ≤ ord.length ∧ i = .int .i64 j ∧ Two (w.heap.size + 3) wr p1 p2 (takL s1 (ord.take j)) (takL t1 (ord.take j)) ∧ Ext w wr ∧ wr.cell? ⟨w.heap.size, 0, none⟩ = some (.int .i64 b1) ∧ wr.cell? ⟨w.heap.size, 1, none⟩ = some (.slice a1 s1.length cp1) ∧ wr.cell? ⟨w.heap.size, 2, none⟩ = some (.slice a2 t1.length cp2) ∧ wr.cell? ⟨w.heap.size + 1, 0, none⟩ = some (.int .i64 0) ∧ wr.cell? ⟨w.heap.size + 1, 1, none⟩ = some (.slice none 0 0) ∧ wr.cell? ⟨w.heap.size + 1, 2, none⟩ = some (.slice none 0 0) ∧ wr.frozen? ⟨w.heap.size + 1, 0, none⟩ = false ∧ wr.frozen? ⟨w.heap.size + 1, 1, none⟩ = false ∧ wr.frozen? ⟨w.heap.size + 1, 2, none⟩ = false ∧ wr.cell? ⟨w.heap.size + 1 + 1, 0, none⟩ = some (.int .i64 b1) ∧ wr.cell? ⟨w.heap.size + 1 + 1, 1, none⟩ = some (p1) ∧ wr.cell? ⟨w.heap.size + 1 + 1, 2, none⟩ = some (p2) ∧ wr.frozen? ⟨w.heap.size + 1 + 1, 0, none⟩ = false ∧ wr.frozen? ⟨w.heap.size + 1 + 1, 1, none⟩ = false ∧ wr.frozen? ⟨w.heap.size + 1 + 1, 2, none⟩ = false) (fun i _ => ord.length - (intOf i).toNat)
 case atStart => exact ⟨0, _, _, Nat.zero_le _, rfl, by simpa [takL] using Two.nil (by omega), Xw1, va0, va1, va2, q0, q1, q2, f_q0, f_q1, f_q2, ou0, ou1, ou2, f_ou0, f_ou1, f_ou2⟩
 case round =>
  obtain ⟨j, p1, p2, hj, rfl, T, Xr, va0, va1, va2, q0, q1, q2, f_q0, f_q1, f_q2, ou0, ou1, ou2, f_ou0, f_ou1, f_ou2⟩ := hrel
  have hTs := T.size
  by_cases hlt : j < ord.length
  ·
   have hI : (j : Int) < ord.length := by omega
   obtain ⟨hm0, hm1⟩ := hb.out _ (getD_mem hlt)
   obtain ⟨b3, o3, rfl, hc3⟩ := h3.at j hlt
   obtain ⟨m, hm⟩ : ∃ m : Nat, ord.getD j 0 = m := ⟨(ord.getD j 0).toNat, by omega⟩
   obtain ⟨b1s, o1s, rfl, hc1⟩ := h1.at m (by omega)
   obtain ⟨b2s, o2s, rfl, hc2⟩ := k1.at m (by have := ht.out; omega)
   have htI : (m : Int) < t1.length := by have := ht.out; omega
   have hs1 : takL s1 (ord.take (j+1)) = takL s1 (ord.take j) ++ [s1.getD m 0] := by rw [takL_take _ _ _ hlt]; simp only [← getD_get hlt, hm, Int.toNat_natCast]
   have hs2 : takL t1 (ord.take (j+1)) = takL t1 (ord.take j) ++ [t1.getD m 0] := by rw [takL_take _ _ _ hlt]; simp only [← getD_get hlt, hm, Int.toNat_natCast]
   rw [hm] at hc3 hm0 hm1
   replace hm := Lib.hid hm
   have hy1 : b1s < w.heap.size := qB hc1
   have hy2 : b2s < w.heap.size := qB hc2
   have hy3 : b3 < w.heap.size := qB hc3
   generalize s1.getD m 0 = xs at *
   generalize t1.getD m 0 = xt at *
   replace hs1 := Lib.hid hs1
   replace hs2 := Lib.hid hs2
   have ec0 := Xr.cell hc3
   have es0 := Xr.cell hc1
   have et0 := Xr.cell hc2
   clear hc1 hc2 hc3
   have z_va : w.heap.size < wr.heap.size := qB va0
   have z_q : w.heap.size + 1 < wr.heap.size := qB q0
   have z_ou : w.heap.size + 1 + 1 < wr.heap.size := qB ou0
   have z_ec : b3 < wr.heap.size := qB ec0
   have z_es : b1s < wr.heap.size := qB es0
   have z_et : b2s < wr.heap.size := qB et0
   have tl1 : (takL s1 (ord.take j)).length = j := by rw [takL_len, List.length_take]; omega
   have tl2 : (takL t1 (ord.take j)).length = j := by rw [takL_len, List.length_take]; omega
   replace tl1 := Lib.hid tl1
   replace tl2 := Lib.hid tl2
   go_wp2_with fail
   refine wp_region_tail (S := fun w' => w'.cell? ⟨w.heap.size, 1, none⟩ = some (.slice (some ⟨b1s, o1s, none⟩) s1.length cp1) ∧ w'.cell? ⟨w.heap.size + 1 + 1, 1, none⟩ = some (p1) ∧ w'.cell? ⟨b3, o3 + j, none⟩ = some (.int .i64 (m : Int)) ∧ w'.cell? ⟨b1s, o1s + m, none⟩ = some (.int .i64 xs)) (fun i => decide (13 ≤ i)) qKr ⟨va1, ou1, ec0, es0⟩ (fun hHeld => ?_)
   refine qTk (v := ?_) 0 rfl (.inl ⟨by rfl, ?_⟩) ?_
   rotate_left
   ·
    (intro w hSw; (try dsimp only at hSw); go_simp; try with_reducible rfl)
   try simp only [Act.put, qa, qb, qc, qD, qE, qF]
   refine qTk (v := ?_) 1 rfl (.inl ⟨by rfl, ?_⟩) ?_
   rotate_left
   ·
    (intro w hSw; (try dsimp only at hSw); go_simp; try with_reducible rfl)
   try simp only [Act.put, qa, qb, qc, qD, qE, qF]
   refine qTk (v := ?_) 2 rfl (.inl ⟨by rfl, ?_⟩) ?_
   rotate_left
   ·
    (intro w hSw; (try dsimp only at hSw); go_simp; try with_reducible rfl)
   try simp only [Act.put, qa, qb, qc, qD, qE, qF]
   refine qTk (v := ?_) 3 rfl (.inl ⟨by rfl, ?_⟩) ?_
   rotate_left
   ·
    (intro w hSw; (try dsimp only at hSw); go_simp; try with_reducible rfl)
   try simp only [Act.put, qa, qb, qc, qD, qE, qF]
   refine qTk (v := ?_) 4 rfl (.inl ⟨by rfl, ?_⟩) ?_
   rotate_left
   ·
    (intro w hSw; (try dsimp only at hSw); go_simp; try with_reducible rfl)
   try simp only [Act.put, qa, qb, qc, qD, qE, qF]
   refine qTk (v := ?_) 5 rfl (.inl ⟨by rfl, ?_⟩) ?_
   rotate_left
   ·
    (intro w hSw; (try dsimp only at hSw); go_simp; try with_reducible rfl)
   try simp only [Act.put, qa, qb, qc, qD, qE, qF]
   refine qTk (v := ?_) 6 rfl (.inl ⟨by rfl, ?_⟩) ?_
   rotate_left
   ·
    (intro w hSw; (try dsimp only at hSw); go_simp; try with_reducible rfl)
   try simp only [Act.put, qa, qb, qc, qD, qE, qF]
   refine qTk (v := ?_) 7 rfl (.inl ⟨by rfl, ?_⟩) ?_
   rotate_left
   ·
    (intro w hSw; (try dsimp only at hSw); go_simp; try with_reducible rfl)
   try simp only [Act.put, qa, qb, qc, qD, qE, qF]
   refine qTk (v := ?_) 8 rfl (.inl ⟨by rfl, ?_⟩) ?_
   rotate_left
   ·
    (intro w hSw; (try dsimp only at hSw); go_simp; try with_reducible rfl)
   try simp only [Act.put, qa, qb, qc, qD, qE, qF]
   refine qTk (v := ?_) 9 rfl (.inl ⟨by rfl, ?_⟩) ?_
   rotate_left
   ·
    (intro w hSw; (try dsimp only at hSw); go_simp; try with_reducible rfl)
   try simp only [Act.put, qa, qb, qc, qD, qE, qF]
   refine wpTail_one (i := 10) qKr rfl rfl (fun K hK => ?_)
   try simp only [Act.put, qa, qb, qc, qD, qE, qF]
   go_simp
   refine hK.out _ _ ⟨Ext.cell (w := wr) qXt va1, Ext.cell (w := wr) qXt ou1, Ext.cell (w := wr) qXt ec0, Ext.cell (w := wr) qXt es0⟩ (fun hHeld => ?_)
   clear hK K
   try simp only [Act.put, qa, qb, qc, qD, qE, qF]
   refine wpTail_one (i := 11) qKr rfl rfl (fun K hK => ?_)
   have Ew2 : Ext wr ((wr.drew).alloc (.cells #[.int .i64 (xs)] 3)) := qXt
   have Sw2 : Ints ((wr.drew).alloc (.cells #[.int .i64 (xs)] 3)) 0 (.slice (some ⟨wr.heap.size, 0, none⟩) 1 1) [xs] := by simpa using Ints.one wr.drew 0 (xs) (Nat.zero_le _)
   refine step_app rfl (.tmp 17) (.tmp 26) rfl rfl rfl (by exact T.o1.ext Ew2) (by exact Sw2) (by have := tl1.out; simp only [List.length_cons, List.length_nil]; omega) (by simp <;> omega) ?_
   intro vw2 w2 ho hgr hbl hvb
   obtain ⟨pa_w2, pn_w2, pc_w2, rfl⟩ := ho.any
   have Xw2 : Ext w w2 := Ext.below (Xr.trans Ew2) hbl (by omega)
   replace va0 := below_cell hbl (by omega) (Ew2.cell va0)
   replace va1 := below_cell hbl (by omega) (Ew2.cell va1)
   replace va2 := below_cell hbl (by omega) (Ew2.cell va2)
   replace q0 := below_cell hbl (by omega) (Ew2.cell q0)
   replace f_q0 := below_frz hbl (by omega) (Ew2.frz z_q f_q0)
   replace q1 := below_cell hbl (by omega) (Ew2.cell q1)
   replace f_q1 := below_frz hbl (by omega) (Ew2.frz z_q f_q1)
   replace q2 := below_cell hbl (by omega) (Ew2.cell q2)
   replace f_q2 := below_frz hbl (by omega) (Ew2.frz z_q f_q2)
   replace ou0 := below_cell hbl (by omega) (Ew2.cell ou0)
   replace f_ou0 := below_frz hbl (by omega) (Ew2.frz z_ou f_ou0)
   replace ou1 := below_cell hbl (by omega) (Ew2.cell ou1)
   replace f_ou1 := below_frz hbl (by omega) (Ew2.frz z_ou f_ou1)
   replace ou2 := below_cell hbl (by omega) (Ew2.cell ou2)
   replace f_ou2 := below_frz hbl (by omega) (Ew2.frz z_ou f_ou2)
   replace ec0 := below_cell hbl (by omega) (Ew2.cell ec0)
   replace es0 := below_cell hbl (by omega) (Ew2.cell es0)
   replace et0 := below_cell hbl (by omega) (Ew2.cell et0)
   have z_va : w.heap.size < w2.heap.size := qB va0
   have z_q : w.heap.size + 1 < w2.heap.size := qB q0
   have z_ou : w.heap.size + 1 + 1 < w2.heap.size := qB ou0
   have z_ec : b3 < w2.heap.size := qB ec0
   have z_es : b1s < w2.heap.size := qB es0
   have z_et : b2s < w2.heap.size := qB et0
   replace T := (T.ext Ew2).app1 ho hgr hvb
   have s_w2 : w.heap.size ≤ w2.heap.size := Xw2.size
   clear ho hgr hbl hvb Ew2 Sw2
   refine hK.out _ _ ⟨va1, ou1, ec0, es0⟩ (fun hHeld => ?_)
   clear hK K
   try simp only [Act.put, qa, qb, qc, qD, qE, qF]
   refine qTk (v := ?_) 12 rfl (.inl ⟨by rfl, ?_⟩) ?_
   rotate_left
   ·
    (intro w hSw; (try dsimp only at hSw); go_simp; try with_reducible rfl)
   try simp only [Act.put, qa, qb, qc, qD, qE, qF]
   refine wpTail_last (i := 13) qKr rfl rfl (fun K hK => ?_)
   try simp only [Act.put, qa, qb, qc, qD, qE, qF]
   go_simp
   refine hK.out _ _ ?_
   clear hK K
   try simp only [Act.put, qa, qb, qc, qD, qE, qF]
   refine wpTail_done qKr ?_ _
   clear hHeld
   generalize hW2 : (w2.setCell ⟨w.heap.size + 1 + 1, 1, none⟩ (.slice pa_w2 pn_w2 pc_w2)) = w3 at *
   have Kw3 : Chg (w.heap.size + 1 + 1) (w.heap.size + 1 + 1 + 1) w2 w3 := by subst hW2; exact qCh
   have Xw3 : Ext w w3 := by subst hW2; exact qXt
   replace va0 := Kw3.cell (by omega) va0
   replace va1 := Kw3.cell (by omega) va1
   replace va2 := Kw3.cell (by omega) va2
   replace q0 := Kw3.cell (by omega) q0
   replace f_q0 := Kw3.frzO (by omega) z_q f_q0
   replace q1 := Kw3.cell (by omega) q1
   replace f_q1 := Kw3.frzO (by omega) z_q f_q1
   replace q2 := Kw3.cell (by omega) q2
   replace f_q2 := Kw3.frzO (by omega) z_q f_q2
   replace ou0 : w3.cell? ⟨w.heap.size + 1 + 1, 0, none⟩ = some (.int .i64 b1) := by subst hW2; go_simp
   replace f_ou0 : w3.frozen? ⟨w.heap.size + 1 + 1, 0, none⟩ = false := by subst hW2; go_simp
   replace ou1 : w3.cell? ⟨w.heap.size + 1 + 1, 1, none⟩ = some (.slice pa_w2 pn_w2 pc_w2) := by subst hW2; go_simp
   replace f_ou1 : w3.frozen? ⟨w.heap.size + 1 + 1, 1, none⟩ = false := by subst hW2; go_simp
   replace ou2 : w3.cell? ⟨w.heap.size + 1 + 1, 2, none⟩ = some (p2) := by subst hW2; go_simp
   replace f_ou2 : w3.frozen? ⟨w.heap.size + 1 + 1, 2, none⟩ = false := by subst hW2; go_simp
   replace ec0 := Kw3.cell (by omega) ec0
   replace es0 := Kw3.cell (by omega) es0
   replace et0 := Kw3.cell (by omega) et0
   replace T := T.chg Kw3 (by omega)
   clear Kw3
   have z_va : w.heap.size < w3.heap.size := qB va0
   have z_q : w.heap.size + 1 < w3.heap.size := qB q0
   have z_ou : w.heap.size + 1 + 1 < w3.heap.size := qB ou0
   have z_ec : b3 < w3.heap.size := qB ec0
   have z_es : b1s < w3.heap.size := qB es0
   have z_et : b2s < w3.heap.size := qB et0
   have s_w3 : w.heap.size ≤ w3.heap.size := Xw3.size
   clear hW2
   go_wp2_with fail
   refine wp_region_tail (S := fun w' => w'.cell? ⟨w.heap.size, 2, none⟩ = some (.slice (some ⟨b2s, o2s, none⟩) t1.length cp2) ∧ w'.cell? ⟨w.heap.size + 1 + 1, 2, none⟩ = some (p2) ∧ w'.cell? ⟨b3, o3 + j, none⟩ = some (.int .i64 (m : Int)) ∧ w'.cell? ⟨b2s, o2s + m, none⟩ = some (.int .i64 xt)) (fun i => decide (13 ≤ i)) qKr ⟨va2, ou2, ec0, et0⟩ (fun hHeld => ?_)
   refine qTk (v := ?_) 0 rfl (.inl ⟨by rfl, ?_⟩) ?_
   rotate_left
   ·
    (intro w hSw; (try dsimp only at hSw); go_simp; try with_reducible rfl)
   try simp only [Act.put, qa, qb, qc, qD, qE, qF]
   refine qTk (v := ?_) 1 rfl (.inl ⟨by rfl, ?_⟩) ?_
   rotate_left
   ·
    (intro w hSw; (try dsimp only at hSw); go_simp; try with_reducible rfl)
   try simp only [Act.put, qa, qb, qc, qD, qE, qF]
   refine qTk (v := ?_) 2 rfl (.inl ⟨by rfl, ?_⟩) ?_
   rotate_left
   ·
    (intro w hSw; (try dsimp only at hSw); go_simp; try with_reducible rfl)
   try simp only [Act.put, qa, qb, qc, qD, qE, qF]
   refine qTk (v := ?_) 3 rfl (.inl ⟨by rfl, ?_⟩) ?_
   rotate_left
   ·
    (intro w hSw; (try dsimp only at hSw); go_simp; try with_reducible rfl)
   try simp only [Act.put, qa, qb, qc, qD, qE, qF]
   refine qTk (v := ?_) 4 rfl (.inl ⟨by rfl, ?_⟩) ?_
   rotate_left
   ·
    (intro w hSw; (try dsimp only at hSw); go_simp; try with_reducible rfl)
   try simp only [Act.put, qa, qb, qc, qD, qE, qF]
   refine qTk (v := ?_) 5 rfl (.inl ⟨by rfl, ?_⟩) ?_
   rotate_left
   ·
    (intro w hSw; (try dsimp only at hSw); go_simp; try with_reducible rfl)
   try simp only [Act.put, qa, qb, qc, qD, qE, qF]
   refine qTk (v := ?_) 6 rfl (.inl ⟨by rfl, ?_⟩) ?_
   rotate_left
   ·
    (intro w hSw; (try dsimp only at hSw); go_simp; try with_reducible rfl)
   try simp only [Act.put, qa, qb, qc, qD, qE, qF]
   refine qTk (v := ?_) 7 rfl (.inl ⟨by rfl, ?_⟩) ?_
   rotate_left
   ·
    (intro w hSw; (try dsimp only at hSw); go_simp; try with_reducible rfl)
   try simp only [Act.put, qa, qb, qc, qD, qE, qF]
   refine qTk (v := ?_) 8 rfl (.inl ⟨by rfl, ?_⟩) ?_
   rotate_left
   ·
    (intro w hSw; (try dsimp only at hSw); go_simp; try with_reducible rfl)
   try simp only [Act.put, qa, qb, qc, qD, qE, qF]
   refine qTk (v := ?_) 9 rfl (.inl ⟨by rfl, ?_⟩) ?_
   rotate_left
   ·
    (intro w hSw; (try dsimp only at hSw); go_simp; try with_reducible rfl)
   try simp only [Act.put, qa, qb, qc, qD, qE, qF]
   refine wpTail_one (i := 10) qKr rfl rfl (fun K hK => ?_)
   try simp only [Act.put, qa, qb, qc, qD, qE, qF]
   go_simp
   refine hK.out _ _ ⟨Ext.cell (w := w3) qXt va2, Ext.cell (w := w3) qXt ou2, Ext.cell (w := w3) qXt ec0, Ext.cell (w := w3) qXt et0⟩ (fun hHeld => ?_)
   clear hK K
   try simp only [Act.put, qa, qb, qc, qD, qE, qF]
   refine wpTail_one (i := 11) qKr rfl rfl (fun K hK => ?_)
   have Ew4 : Ext w3 ((w3.drew).alloc (.cells #[.int .i64 (xt)] 3)) := qXt
   have Sw4 : Ints ((w3.drew).alloc (.cells #[.int .i64 (xt)] 3)) 0 (.slice (some ⟨w3.heap.size, 0, none⟩) 1 1) [xt] := by simpa using Ints.one w3.drew 0 (xt) (Nat.zero_le _)
   refine step_app rfl (.tmp 30) (.tmp 39) rfl rfl rfl (by exact T.o2.ext Ew4) (by exact Sw4) (by have := tl2.out; simp only [List.length_cons, List.length_nil]; omega) (by simp <;> omega) ?_
   intro vw4 w4 ho hgr hbl hvb
   obtain ⟨pa_w4, pn_w4, pc_w4, rfl⟩ := ho.any
   have Xw4 : Ext w w4 := Ext.below (Xw3.trans Ew4) hbl (by omega)
   replace va0 := below_cell hbl (by omega) (Ew4.cell va0)
   replace va1 := below_cell hbl (by omega) (Ew4.cell va1)
   replace va2 := below_cell hbl (by omega) (Ew4.cell va2)
   replace q0 := below_cell hbl (by omega) (Ew4.cell q0)
   replace f_q0 := below_frz hbl (by omega) (Ew4.frz z_q f_q0)
   replace q1 := below_cell hbl (by omega) (Ew4.cell q1)
   replace f_q1 := below_frz hbl (by omega) (Ew4.frz z_q f_q1)
   replace q2 := below_cell hbl (by omega) (Ew4.cell q2)
   replace f_q2 := below_frz hbl (by omega) (Ew4.frz z_q f_q2)
   replace ou0 := below_cell hbl (by omega) (Ew4.cell ou0)
   replace f_ou0 := below_frz hbl (by omega) (Ew4.frz z_ou f_ou0)
   replace ou1 := below_cell hbl (by omega) (Ew4.cell ou1)
   replace f_ou1 := below_frz hbl (by omega) (Ew4.frz z_ou f_ou1)
   replace ou2 := below_cell hbl (by omega) (Ew4.cell ou2)
   replace f_ou2 := below_frz hbl (by omega) (Ew4.frz z_ou f_ou2)
   replace ec0 := below_cell hbl (by omega) (Ew4.cell ec0)
   replace es0 := below_cell hbl (by omega) (Ew4.cell es0)
   replace et0 := below_cell hbl (by omega) (Ew4.cell et0)
   have z_va : w.heap.size < w4.heap.size := qB va0
   have z_q : w.heap.size + 1 < w4.heap.size := qB q0
   have z_ou : w.heap.size + 1 + 1 < w4.heap.size := qB ou0
   have z_ec : b3 < w4.heap.size := qB ec0
   have z_es : b1s < w4.heap.size := qB es0
   have z_et : b2s < w4.heap.size := qB et0
   replace T := (T.ext Ew4).app2 ho hgr hvb
   have s_w4 : w.heap.size ≤ w4.heap.size := Xw4.size
   clear ho hgr hbl hvb Ew4 Sw4
   refine hK.out _ _ ⟨va2, ou2, ec0, et0⟩ (fun hHeld => ?_)
   clear hK K
   try simp only [Act.put, qa, qb, qc, qD, qE, qF]
   refine qTk (v := ?_) 12 rfl (.inl ⟨by rfl, ?_⟩) ?_
   rotate_left
   ·
    (intro w hSw; (try dsimp only at hSw); go_simp; try with_reducible rfl)
   try simp only [Act.put, qa, qb, qc, qD, qE, qF]
   refine wpTail_last (i := 13) qKr rfl rfl (fun K hK => ?_)
   try simp only [Act.put, qa, qb, qc, qD, qE, qF]
   go_simp
   refine hK.out _ _ ?_
   clear hK K
   try simp only [Act.put, qa, qb, qc, qD, qE, qF]
   refine wpTail_done qKr ?_ _
   clear hHeld
   generalize hW3 : (w4.setCell ⟨w.heap.size + 1 + 1, 2, none⟩ (.slice pa_w4 pn_w4 pc_w4)) = w5 at *
   have Kw5 : Chg (w.heap.size + 1 + 1) (w.heap.size + 1 + 1 + 1) w4 w5 := by subst hW3; exact qCh
   have Xw5 : Ext w w5 := by subst hW3; exact qXt
   replace va0 := Kw5.cell (by omega) va0
   replace va1 := Kw5.cell (by omega) va1
   replace va2 := Kw5.cell (by omega) va2
   replace q0 := Kw5.cell (by omega) q0
   replace f_q0 := Kw5.frzO (by omega) z_q f_q0
   replace q1 := Kw5.cell (by omega) q1
   replace f_q1 := Kw5.frzO (by omega) z_q f_q1
   replace q2 := Kw5.cell (by omega) q2
   replace f_q2 := Kw5.frzO (by omega) z_q f_q2
   replace ou0 : w5.cell? ⟨w.heap.size + 1 + 1, 0, none⟩ = some (.int .i64 b1) := by subst hW3; go_simp
   replace f_ou0 : w5.frozen? ⟨w.heap.size + 1 + 1, 0, none⟩ = false := by subst hW3; go_simp
   replace ou1 : w5.cell? ⟨w.heap.size + 1 + 1, 1, none⟩ = some (.slice pa_w2 pn_w2 pc_w2) := by subst hW3; go_simp
   replace f_ou1 : w5.frozen? ⟨w.heap.size + 1 + 1, 1, none⟩ = false := by subst hW3; go_simp
   replace ou2 : w5.cell? ⟨w.heap.size + 1 + 1, 2, none⟩ = some (.slice pa_w4 pn_w4 pc_w4) := by subst hW3; go_simp
   replace f_ou2 : w5.frozen? ⟨w.heap.size + 1 + 1, 2, none⟩ = false := by subst hW3; go_simp
   replace ec0 := Kw5.cell (by omega) ec0
   replace es0 := Kw5.cell (by omega) es0
   replace et0 := Kw5.cell (by omega) et0
   replace T := T.chg Kw5 (by omega)
   clear Kw5
   have z_va : w.heap.size < w5.heap.size := qB va0
   have z_q : w.heap.size + 1 < w5.heap.size := qB q0
   have z_ou : w.heap.size + 1 + 1 < w5.heap.size := qB ou0
   have z_ec : b3 < w5.heap.size := qB ec0
   have z_es : b1s < w5.heap.size := qB es0
   have z_et : b2s < w5.heap.size := qB et0
   have s_w5 : w.heap.size ≤ w5.heap.size := Xw5.size
   clear hW3
   go_wp2_with fail
   go_roundw
   case rel => exact ⟨j + 1, _, _, by omega, by go_num, by rw [hs1.out, hs2.out]; exact T, Xw5, va0, va1, va2, q0, q1, q2, f_q0, f_q1, f_q2, ou0, ou1, ou2, f_ou0, f_ou1, f_ou2⟩
   case measure => simp [intOf]; omega
  ·
   obtain rfl : j = ord.length := by omega
   have hI : ¬ ((ord.length : Int) < ord.length) := by omega
   rw [List.take_length] at T
   obtain ⟨a5, c5, rfl⟩ := (T.o1.ints (by rw [takL_len]; omega)).form
   obtain ⟨a6, c6, rfl⟩ := (T.o2.ints (by rw [takL_len]; omega)).form
   have z_va : w.heap.size < wr.heap.size := qB va0
   have z_q : w.heap.size + 1 < wr.heap.size := qB q0
   have z_ou : w.heap.size + 1 + 1 < wr.heap.size := qB ou0
   simp only [takL_len] at ou1 ou2 T
   go_wp2_with fail
   generalize hW4 : (((wr.setCell ⟨w.heap.size + 1, 0, none⟩ (.int .i64 b1)).setCell ⟨w.heap.size + 1, 1, none⟩ (.slice a5 ord.length c5)).setCell ⟨w.heap.size + 1, 2, none⟩ (.slice a6 ord.length c6)) = w2 at *
   have Kw2 : Chg (w.heap.size + 1) (w.heap.size + 1 + 1) wr w2 := by subst hW4; exact qCh
   have Xw2 : Ext w w2 := by subst hW4; exact qXt
   replace va0 := Kw2.cell (by omega) va0
   replace va1 := Kw2.cell (by omega) va1
   replace va2 := Kw2.cell (by omega) va2
   replace q0 : w2.cell? ⟨w.heap.size + 1, 0, none⟩ = some (.int .i64 b1) := by subst hW4; go_simp
   replace f_q0 : w2.frozen? ⟨w.heap.size + 1, 0, none⟩ = false := by subst hW4; go_simp
   replace q1 : w2.cell? ⟨w.heap.size + 1, 1, none⟩ = some (.slice a5 ord.length c5) := by subst hW4; go_simp
   replace f_q1 : w2.frozen? ⟨w.heap.size + 1, 1, none⟩ = false := by subst hW4; go_simp
   replace q2 : w2.cell? ⟨w.heap.size + 1, 2, none⟩ = some (.slice a6 ord.length c6) := by subst hW4; go_simp
   replace f_q2 : w2.frozen? ⟨w.heap.size + 1, 2, none⟩ = false := by subst hW4; go_simp
   replace ou0 := Kw2.cell (by omega) ou0
   replace f_ou0 := Kw2.frzO (by omega) z_ou f_ou0
   replace ou1 := Kw2.cell (by omega) ou1
   replace f_ou1 := Kw2.frzO (by omega) z_ou f_ou1
   replace ou2 := Kw2.cell (by omega) ou2
   replace f_ou2 := Kw2.frzO (by omega) z_ou f_ou2
   replace T := T.chg Kw2 (by omega)
   clear Kw2
   have z_va : w.heap.size < w2.heap.size := qB va0
   have z_q : w.heap.size + 1 < w2.heap.size := qB q0
   have z_ou : w.heap.size + 1 + 1 < w2.heap.size := qB ou0
   have s_w2 : w.heap.size ≤ w2.heap.size := Xw2.size
   clear hW4
   refine bodyPost_ret (v := .agg #[.int .i64 b1, .slice a5 ord.length c5, .slice a6 ord.length c6]) (by simp only [results, Try.results148]; go_simp) rfl ?_
   exact PView.own (T.o1.lower (by omega)).z (T.o2.lower (by omega)).z (fun n1 n2 h => by obtain ⟨g, _, h1, _⟩ := (T.o1).row n1; rw [h1] at h; exact T.sep g (by rw [h1]; rfl) (h ▸ rfl)) (by rw [takL_len]; omega) (by rw [takL_len]; omega) Xw2

end Go.Proofs.Ytpgkhjmboiepcaa

/- Walks: insert of the reference. -/
namespace Go.Proofs.Ytpgkhjmboiepcaa
open Go.RowKit
set_option linter.unusedVariables false
set_option maxRecDepth 100000

set_option maxHeartbeats 3200000 in
theorem insert_c (xs : List Int) (v : Value) (i : Nat) (x : Int) (w : World) (lo : Nat) (hv : Ints w lo v xs) (hi : i ≤ xs.length) (hl : xs.length ≤ 100000) :
  Calls Try.prog 117 #[v, .int .i64 (i : Int), .int .i64 x] w (PInts w (xs.take i ++ [x] ++ xs.drop i)) := by
 have hlen := ints_len hv
 have hv0 := hv
 obtain ⟨a, c, rfl, hc, hcm, hb2, hat⟩ := hv
 have ht := hv0.take i (by omega)
 by_cases hne : xs = []
 rotate_left
 obtain ⟨b, off, rfl⟩ : ∃ b off, a = some ⟨b, off, none⟩ := by
  obtain ⟨b, off, h, _⟩ := hat 0 (by cases xs <;> simp_all)
  exact ⟨b, off, h⟩
 by_cases hci : ¬ c = i
 ·
  have hd := hv0.drop1 i (by omega) hci
  have g1 : (i : Int) ≤ c := by omega
  have g2 : (i : Int) ≤ xs.length := by omega
  have g3 : (0 : Int) ≤ i := by omega
  go_enter Try.func117, Try.ntmps117
  go_wp2_with fail
  refine wp_region_held_drew (S := fun _ => True) qKr trivial (fun hHeld => ?_)
  refine qHk (v := ?_) 1 rfl (.inl ⟨by rfl, ?_⟩) ?_
  rotate_left
  ·
   (intro w hSw; (try dsimp only at hSw); go_simp; try with_reducible rfl)
  try simp only [Act.put, qa, qb, qc, qD, qE, qF]
  refine qHk (v := ?_) 2 rfl (.inl ⟨by rfl, ?_⟩) ?_
  rotate_left
  ·
   (intro w hSw; (try dsimp only at hSw); go_simp; try with_reducible rfl)
  try simp only [Act.put, qa, qb, qc, qD, qE, qF]
  refine qHk (v := ?_) 3 rfl (.inl ⟨by rfl, ?_⟩) ?_
  rotate_left
  ·
   (intro w hSw; (try dsimp only at hSw); go_simp; try with_reducible rfl)
  try simp only [Act.put, qa, qb, qc, qD, qE, qF]
  refine qHk (v := ?_) 5 rfl (.inl ⟨by rfl, ?_⟩) ?_
  rotate_left
  ·
   (intro w hSw; (try dsimp only at hSw); go_simp; try with_reducible rfl)
  try simp only [Act.put, qa, qb, qc, qD, qE, qF]
  refine qHk (v := ?_) 8 rfl (.inl ⟨by rfl, ?_⟩) ?_
  rotate_left
  ·
   (intro w hSw; (try dsimp only at hSw); go_simp; try with_reducible rfl)
  try simp only [Act.put, qa, qb, qc, qD, qE, qF]
  refine qHk (v := ?_) 9 rfl (.inl ⟨by rfl, ?_⟩) ?_
  rotate_left
  ·
   (intro w hSw; (try dsimp only at hSw); go_simp; try with_reducible rfl)
  try simp only [Act.put, qa, qb, qc, qD, qE, qF]
  refine qHk (v := ?_) 10 rfl (.inl ⟨by rfl, ?_⟩) ?_
  rotate_left
  ·
   (intro w hSw; (try dsimp only at hSw); go_simp; try with_reducible rfl)
  try simp only [Act.put, qa, qb, qc, qD, qE, qF]
  refine wpAnyH_ready (rs := [0, 6]) qKr (by simp) ?_
  refine AllReadyH.cons rfl (fun K hK => ?_) (AllReadyH.cons rfl (fun K hK => ?_) AllReadyH.nil)
  ·
   skip
   try simp only [Act.put, qa, qb, qc, qD, qE, qF]
   go_simp
   refine hK.out _ _ trivial (fun hHeld => ?_)
   clear hK K
   try simp only [Act.put, qa, qb, qc, qD, qE, qF]
   refine wpAnyH_ready (rs := [4, 6]) qKr (by simp) ?_
   refine AllReadyH.cons rfl (fun K hK => ?_) (AllReadyH.cons rfl (fun K hK => ?_) AllReadyH.nil)
   ·
    skip
    refine step_app rfl (.tmp 7) (.tmp 10) rfl rfl rfl (OwnI.lit0 _ w.heap.size (by simp)) (by first | exact ht.ext qXo | exact Ints.nil _ w.heap.size _ _ (by omega) (by simp)) (by simp <;> omega) (by first | assumption | (simp; done) | (simp; omega) | omega) ?_
    intro v4 w4 o4 gr4 bl4 eq4
    refine hK.out _ _ trivial (fun hHeld => ?_)
    clear hK K
    try simp only [Act.put, qa, qb, qc, qD, qE, qF]
    have X4 : Ext w w4 := Ext.below (show Ext w _ from qXo) bl4 (by simp)
    have z4 : w.heap.size ≤ w4.heap.size := X4.size
    refine qHr 6 rfl (fun K hK => ?_)
    try simp only [Act.put, qa, qb, qc, qD, qE, qF]
    go_simp
    refine hK.out _ _ trivial (fun hHeld => ?_)
    clear hK K
    try simp only [Act.put, qa, qb, qc, qD, qE, qF]
    replace o4 := o4.ext (show Ext w4 (w4.alloc (.cells #[.int .i64 x] 3)) from qXo)
    refine qHr 7 rfl (fun K hK => ?_)
    refine step_app rfl (.tmp 11) (.tmp 13) rfl rfl rfl (o4) (Ints.one w4 w.heap.size x z4) (by simp <;> omega) (by first | assumption | (simp; done) | (simp; omega) | omega) ?_
    intro v7 w7 o7 gr7 bl7 eq7
    refine hK.out _ _ trivial (fun hHeld => ?_)
    clear hK K
    try simp only [Act.put, qa, qb, qc, qD, qE, qF]
    have X7 : Ext w w7 := Ext.below (X4.trans qXo) bl7 (Nat.le_refl _)
    have z7 : w.heap.size ≤ w7.heap.size := X7.size
    refine qHr 11 rfl (fun K hK => ?_)
    refine step_app rfl (.tmp 14) (.tmp 17) rfl rfl rfl (o7) (by first | exact hd.ext X7 | exact Ints.nil _ w.heap.size _ _ (by omega) (by simp)) (by simp <;> omega) (by first | assumption | (simp; done) | (simp; omega) | omega) ?_
    intro v11 w11 o11 gr11 bl11 eq11
    refine hK.out _ _ trivial (fun hHeld => ?_)
    clear hK K
    try simp only [Act.put, qa, qb, qc, qD, qE, qF]
    have X11 : Ext w w11 := Ext.below X7 bl11 (Nat.le_refl _)
    refine qHr 12 rfl (fun K hK => ?_)
    try simp only [Act.put, qa, qb, qc, qD, qE, qF]
    go_simp
    refine hK.out _ _ trivial (fun hHeld => ?_)
    clear hK K
    try simp only [Act.put, qa, qb, qc, qD, qE, qF]
    refine wpAnyH_done qKr ?_ _
    clear hHeld
    go_wp2_with fail
    refine bodyPost_ret (v := v11) (by simp only [results, Try.results117]; go_simp) rfl ?_
    exact PInts.mkz (by first | exact o11.z | (rw [List.drop_eq_nil_of_le hc]; exact o11.z)) (Nat.le_refl _) (by simp <;> omega) X11
   ·
    skip
    try simp only [Act.put, qa, qb, qc, qD, qE, qF]
    go_simp
    refine hK.out _ _ trivial (fun hHeld => ?_)
    clear hK K
    try simp only [Act.put, qa, qb, qc, qD, qE, qF]
    refine qHr 4 rfl (fun K hK => ?_)
    have l0 : OwnI ((w.drew.alloc (.cells #[] 3)).alloc (.cells #[.int .i64 x] 3)) w.heap.size (.slice (some ⟨w.heap.size, 0, none⟩) 0 0) [] := (OwnI.lit0 w.drew w.heap.size (by simp)).ext ((Ext.refl _).alloc _)
    have l1 : Ints ((w.drew.alloc (.cells #[] 3)).alloc (.cells #[.int .i64 x] 3)) w.heap.size (.slice (some ⟨w.heap.size + 1, 0, none⟩) 1 1) [x] := by simpa using Ints.one (w.drew.alloc (.cells #[] 3)) w.heap.size x (by simp)
    refine step_app rfl (.tmp 7) (.tmp 10) rfl rfl rfl (l0) (by first | exact ht.ext qXo | exact Ints.nil _ w.heap.size _ _ (by omega) (by simp)) (by simp <;> omega) (by first | assumption | (simp; done) | (simp; omega) | omega) ?_
    intro v4 w4 o4 gr4 bl4 eq4
    refine hK.out _ _ trivial (fun hHeld => ?_)
    clear hK K
    try simp only [Act.put, qa, qb, qc, qD, qE, qF]
    have X4 : Ext w w4 := Ext.below (show Ext w _ from qXo) bl4 (by simp)
    have z4 : w.heap.size ≤ w4.heap.size := X4.size
    replace l1 := l1.keepG gr4 (fun b off h _ => by cases h; show (some w.heap.size : Option Nat) ≠ some (w.heap.size + 1); simp)
    refine qHr 7 rfl (fun K hK => ?_)
    refine step_app rfl (.tmp 11) (.tmp 13) rfl rfl rfl (o4) (l1) (by simp <;> omega) (by first | assumption | (simp; done) | (simp; omega) | omega) ?_
    intro v7 w7 o7 gr7 bl7 eq7
    refine hK.out _ _ trivial (fun hHeld => ?_)
    clear hK K
    try simp only [Act.put, qa, qb, qc, qD, qE, qF]
    have X7 : Ext w w7 := Ext.below (X4) bl7 (Nat.le_refl _)
    have z7 : w.heap.size ≤ w7.heap.size := X7.size
    refine qHr 11 rfl (fun K hK => ?_)
    refine step_app rfl (.tmp 14) (.tmp 17) rfl rfl rfl (o7) (by first | exact hd.ext X7 | exact Ints.nil _ w.heap.size _ _ (by omega) (by simp)) (by simp <;> omega) (by first | assumption | (simp; done) | (simp; omega) | omega) ?_
    intro v11 w11 o11 gr11 bl11 eq11
    refine hK.out _ _ trivial (fun hHeld => ?_)
    clear hK K
    try simp only [Act.put, qa, qb, qc, qD, qE, qF]
    have X11 : Ext w w11 := Ext.below X7 bl11 (Nat.le_refl _)
    refine qHr 12 rfl (fun K hK => ?_)
    try simp only [Act.put, qa, qb, qc, qD, qE, qF]
    go_simp
    refine hK.out _ _ trivial (fun hHeld => ?_)
    clear hK K
    try simp only [Act.put, qa, qb, qc, qD, qE, qF]
    refine wpAnyH_done qKr ?_ _
    clear hHeld
    go_wp2_with fail
    refine bodyPost_ret (v := v11) (by simp only [results, Try.results117]; go_simp) rfl ?_
    exact PInts.mkz (by first | exact o11.z | (rw [List.drop_eq_nil_of_le hc]; exact o11.z)) (Nat.le_refl _) (by simp <;> omega) X11
  ·
   skip
   try simp only [Act.put, qa, qb, qc, qD, qE, qF]
   go_simp
   refine hK.out _ _ trivial (fun hHeld => ?_)
   clear hK K
   try simp only [Act.put, qa, qb, qc, qD, qE, qF]
   refine qHr 0 rfl (fun K hK => ?_)
   try simp only [Act.put, qa, qb, qc, qD, qE, qF]
   go_simp
   refine hK.out _ _ trivial (fun hHeld => ?_)
   clear hK K
   try simp only [Act.put, qa, qb, qc, qD, qE, qF]
   refine qHr 4 rfl (fun K hK => ?_)
   have l0 : OwnI ((w.drew.alloc (.cells #[.int .i64 x] 3)).alloc (.cells #[] 3)) w.heap.size (.slice (some ⟨w.heap.size + 1, 0, none⟩) 0 0) [] := by simpa using (OwnI.lit0 (w.drew.alloc (.cells #[.int .i64 x] 3)) w.heap.size (by simp))
   have l1 : Ints ((w.drew.alloc (.cells #[.int .i64 x] 3)).alloc (.cells #[] 3)) w.heap.size (.slice (some ⟨w.heap.size, 0, none⟩) 1 1) [x] := (Ints.one w.drew w.heap.size x (by simp)).ext ((Ext.refl _).alloc _)
   refine step_app rfl (.tmp 7) (.tmp 10) rfl rfl rfl (l0) (by first | exact ht.ext qXo | exact Ints.nil _ w.heap.size _ _ (by omega) (by simp)) (by simp <;> omega) (by first | assumption | (simp; done) | (simp; omega) | omega) ?_
   intro v4 w4 o4 gr4 bl4 eq4
   refine hK.out _ _ trivial (fun hHeld => ?_)
   clear hK K
   try simp only [Act.put, qa, qb, qc, qD, qE, qF]
   have X4 : Ext w w4 := Ext.below (show Ext w _ from qXo) bl4 (by simp)
   have z4 : w.heap.size ≤ w4.heap.size := X4.size
   replace l1 := l1.keepG gr4 (fun b off h _ => by cases h; show (some (w.heap.size + 1) : Option Nat) ≠ some w.heap.size; simp)
   refine qHr 7 rfl (fun K hK => ?_)
   refine step_app rfl (.tmp 11) (.tmp 13) rfl rfl rfl (o4) (l1) (by simp <;> omega) (by first | assumption | (simp; done) | (simp; omega) | omega) ?_
   intro v7 w7 o7 gr7 bl7 eq7
   refine hK.out _ _ trivial (fun hHeld => ?_)
   clear hK K
   try simp only [Act.put, qa, qb, qc, qD, qE, qF]
   have X7 : Ext w w7 := Ext.below (X4) bl7 (Nat.le_refl _)
   have z7 : w.heap.size ≤ w7.heap.size := X7.size
   refine qHr 11 rfl (fun K hK => ?_)
   refine step_app rfl (.tmp 14) (.tmp 17) rfl rfl rfl (o7) (by first | exact hd.ext X7 | exact Ints.nil _ w.heap.size _ _ (by omega) (by simp)) (by simp <;> omega) (by first | assumption | (simp; done) | (simp; omega) | omega) ?_
   intro v11 w11 o11 gr11 bl11 eq11
   refine hK.out _ _ trivial (fun hHeld => ?_)
   clear hK K
   try simp only [Act.put, qa, qb, qc, qD, qE, qF]
   have X11 : Ext w w11 := Ext.below X7 bl11 (Nat.le_refl _)
   refine qHr 12 rfl (fun K hK => ?_)
   try simp only [Act.put, qa, qb, qc, qD, qE, qF]
   go_simp
   refine hK.out _ _ trivial (fun hHeld => ?_)
   clear hK K
   try simp only [Act.put, qa, qb, qc, qD, qE, qF]
   refine wpAnyH_done qKr ?_ _
   clear hHeld
   go_wp2_with fail
   refine bodyPost_ret (v := v11) (by simp only [results, Try.results117]; go_simp) rfl ?_
   exact PInts.mkz (by first | exact o11.z | (rw [List.drop_eq_nil_of_le hc]; exact o11.z)) (Nat.le_refl _) (by simp <;> omega) X11
 ·
  have hci : c = i := by omega
  have hd := hv0.drop0 i (by omega) hci
  subst hci
  have g2 : (c : Int) ≤ xs.length := by omega
  have g3 : (0 : Int) ≤ c := by omega
  go_enter Try.func117, Try.ntmps117
  go_wp2_with fail
  refine wp_region_held_drew (S := fun _ => True) qKr trivial (fun hHeld => ?_)
  refine qHk (v := ?_) 1 rfl (.inl ⟨by rfl, ?_⟩) ?_
  rotate_left
  ·
   (intro w hSw; (try dsimp only at hSw); go_simp; try with_reducible rfl)
  try simp only [Act.put, qa, qb, qc, qD, qE, qF]
  refine qHk (v := ?_) 2 rfl (.inl ⟨by rfl, ?_⟩) ?_
  rotate_left
  ·
   (intro w hSw; (try dsimp only at hSw); go_simp; try with_reducible rfl)
  try simp only [Act.put, qa, qb, qc, qD, qE, qF]
  refine qHk (v := ?_) 3 rfl (.inl ⟨by rfl, ?_⟩) ?_
  rotate_left
  ·
   (intro w hSw; (try dsimp only at hSw); go_simp; try with_reducible rfl)
  try simp only [Act.put, qa, qb, qc, qD, qE, qF]
  refine qHk (v := ?_) 5 rfl (.inl ⟨by rfl, ?_⟩) ?_
  rotate_left
  ·
   (intro w hSw; (try dsimp only at hSw); go_simp; try with_reducible rfl)
  try simp only [Act.put, qa, qb, qc, qD, qE, qF]
  refine qHk (v := ?_) 8 rfl (.inl ⟨by rfl, ?_⟩) ?_
  rotate_left
  ·
   (intro w hSw; (try dsimp only at hSw); go_simp; try with_reducible rfl)
  try simp only [Act.put, qa, qb, qc, qD, qE, qF]
  refine qHk (v := ?_) 9 rfl (.inl ⟨by rfl, ?_⟩) ?_
  rotate_left
  ·
   (intro w hSw; (try dsimp only at hSw); go_simp; try with_reducible rfl)
  try simp only [Act.put, qa, qb, qc, qD, qE, qF]
  refine qHk (v := ?_) 10 rfl (.inl ⟨by rfl, ?_⟩) ?_
  rotate_left
  ·
   (intro w hSw; (try dsimp only at hSw); go_simp; try with_reducible rfl)
  try simp only [Act.put, qa, qb, qc, qD, qE, qF]
  refine wpAnyH_ready (rs := [0, 6]) qKr (by simp) ?_
  refine AllReadyH.cons rfl (fun K hK => ?_) (AllReadyH.cons rfl (fun K hK => ?_) AllReadyH.nil)
  ·
   skip
   try simp only [Act.put, qa, qb, qc, qD, qE, qF]
   go_simp
   refine hK.out _ _ trivial (fun hHeld => ?_)
   clear hK K
   try simp only [Act.put, qa, qb, qc, qD, qE, qF]
   refine wpAnyH_ready (rs := [4, 6]) qKr (by simp) ?_
   refine AllReadyH.cons rfl (fun K hK => ?_) (AllReadyH.cons rfl (fun K hK => ?_) AllReadyH.nil)
   ·
    skip
    refine step_app rfl (.tmp 7) (.tmp 10) rfl rfl rfl (OwnI.lit0 _ w.heap.size (by simp)) (by first | exact ht.ext qXo | exact Ints.nil _ w.heap.size _ _ (by omega) (by simp)) (by simp <;> omega) (by first | assumption | (simp; done) | (simp; omega) | omega) ?_
    intro v4 w4 o4 gr4 bl4 eq4
    refine hK.out _ _ trivial (fun hHeld => ?_)
    clear hK K
    try simp only [Act.put, qa, qb, qc, qD, qE, qF]
    have X4 : Ext w w4 := Ext.below (show Ext w _ from qXo) bl4 (by simp)
    have z4 : w.heap.size ≤ w4.heap.size := X4.size
    refine qHr 6 rfl (fun K hK => ?_)
    try simp only [Act.put, qa, qb, qc, qD, qE, qF]
    go_simp
    refine hK.out _ _ trivial (fun hHeld => ?_)
    clear hK K
    try simp only [Act.put, qa, qb, qc, qD, qE, qF]
    replace o4 := o4.ext (show Ext w4 (w4.alloc (.cells #[.int .i64 x] 3)) from qXo)
    refine qHr 7 rfl (fun K hK => ?_)
    refine step_app rfl (.tmp 11) (.tmp 13) rfl rfl rfl (o4) (Ints.one w4 w.heap.size x z4) (by simp <;> omega) (by first | assumption | (simp; done) | (simp; omega) | omega) ?_
    intro v7 w7 o7 gr7 bl7 eq7
    refine hK.out _ _ trivial (fun hHeld => ?_)
    clear hK K
    try simp only [Act.put, qa, qb, qc, qD, qE, qF]
    have X7 : Ext w w7 := Ext.below (X4.trans qXo) bl7 (Nat.le_refl _)
    have z7 : w.heap.size ≤ w7.heap.size := X7.size
    refine qHr 11 rfl (fun K hK => ?_)
    refine step_app rfl (.tmp 14) (.tmp 17) rfl rfl rfl (o7) (by first | exact hd.ext X7 | exact Ints.nil _ w.heap.size _ _ (by omega) (by simp)) (by simp <;> omega) (by first | assumption | (simp; done) | (simp; omega) | omega) ?_
    intro v11 w11 o11 gr11 bl11 eq11
    refine hK.out _ _ trivial (fun hHeld => ?_)
    clear hK K
    try simp only [Act.put, qa, qb, qc, qD, qE, qF]
    have X11 : Ext w w11 := Ext.below X7 bl11 (Nat.le_refl _)
    refine qHr 12 rfl (fun K hK => ?_)
    try simp only [Act.put, qa, qb, qc, qD, qE, qF]
    go_simp
    refine hK.out _ _ trivial (fun hHeld => ?_)
    clear hK K
    try simp only [Act.put, qa, qb, qc, qD, qE, qF]
    refine wpAnyH_done qKr ?_ _
    clear hHeld
    go_wp2_with fail
    refine bodyPost_ret (v := v11) (by simp only [results, Try.results117]; go_simp) rfl ?_
    exact PInts.mkz (by first | exact o11.z | (rw [List.drop_eq_nil_of_le hc]; exact o11.z)) (Nat.le_refl _) (by simp <;> omega) X11
   ·
    skip
    try simp only [Act.put, qa, qb, qc, qD, qE, qF]
    go_simp
    refine hK.out _ _ trivial (fun hHeld => ?_)
    clear hK K
    try simp only [Act.put, qa, qb, qc, qD, qE, qF]
    refine qHr 4 rfl (fun K hK => ?_)
    have l0 : OwnI ((w.drew.alloc (.cells #[] 3)).alloc (.cells #[.int .i64 x] 3)) w.heap.size (.slice (some ⟨w.heap.size, 0, none⟩) 0 0) [] := (OwnI.lit0 w.drew w.heap.size (by simp)).ext ((Ext.refl _).alloc _)
    have l1 : Ints ((w.drew.alloc (.cells #[] 3)).alloc (.cells #[.int .i64 x] 3)) w.heap.size (.slice (some ⟨w.heap.size + 1, 0, none⟩) 1 1) [x] := by simpa using Ints.one (w.drew.alloc (.cells #[] 3)) w.heap.size x (by simp)
    refine step_app rfl (.tmp 7) (.tmp 10) rfl rfl rfl (l0) (by first | exact ht.ext qXo | exact Ints.nil _ w.heap.size _ _ (by omega) (by simp)) (by simp <;> omega) (by first | assumption | (simp; done) | (simp; omega) | omega) ?_
    intro v4 w4 o4 gr4 bl4 eq4
    refine hK.out _ _ trivial (fun hHeld => ?_)
    clear hK K
    try simp only [Act.put, qa, qb, qc, qD, qE, qF]
    have X4 : Ext w w4 := Ext.below (show Ext w _ from qXo) bl4 (by simp)
    have z4 : w.heap.size ≤ w4.heap.size := X4.size
    replace l1 := l1.keepG gr4 (fun b off h _ => by cases h; show (some w.heap.size : Option Nat) ≠ some (w.heap.size + 1); simp)
    refine qHr 7 rfl (fun K hK => ?_)
    refine step_app rfl (.tmp 11) (.tmp 13) rfl rfl rfl (o4) (l1) (by simp <;> omega) (by first | assumption | (simp; done) | (simp; omega) | omega) ?_
    intro v7 w7 o7 gr7 bl7 eq7
    refine hK.out _ _ trivial (fun hHeld => ?_)
    clear hK K
    try simp only [Act.put, qa, qb, qc, qD, qE, qF]
    have X7 : Ext w w7 := Ext.below (X4) bl7 (Nat.le_refl _)
    have z7 : w.heap.size ≤ w7.heap.size := X7.size
    refine qHr 11 rfl (fun K hK => ?_)
    refine step_app rfl (.tmp 14) (.tmp 17) rfl rfl rfl (o7) (by first | exact hd.ext X7 | exact Ints.nil _ w.heap.size _ _ (by omega) (by simp)) (by simp <;> omega) (by first | assumption | (simp; done) | (simp; omega) | omega) ?_
    intro v11 w11 o11 gr11 bl11 eq11
    refine hK.out _ _ trivial (fun hHeld => ?_)
    clear hK K
    try simp only [Act.put, qa, qb, qc, qD, qE, qF]
    have X11 : Ext w w11 := Ext.below X7 bl11 (Nat.le_refl _)
    refine qHr 12 rfl (fun K hK => ?_)
    try simp only [Act.put, qa, qb, qc, qD, qE, qF]
    go_simp
    refine hK.out _ _ trivial (fun hHeld => ?_)
    clear hK K
    try simp only [Act.put, qa, qb, qc, qD, qE, qF]
    refine wpAnyH_done qKr ?_ _
    clear hHeld
    go_wp2_with fail
    refine bodyPost_ret (v := v11) (by simp only [results, Try.results117]; go_simp) rfl ?_
    exact PInts.mkz (by first | exact o11.z | (rw [List.drop_eq_nil_of_le hc]; exact o11.z)) (Nat.le_refl _) (by simp <;> omega) X11
  ·
   skip
   try simp only [Act.put, qa, qb, qc, qD, qE, qF]
   go_simp
   refine hK.out _ _ trivial (fun hHeld => ?_)
   clear hK K
   try simp only [Act.put, qa, qb, qc, qD, qE, qF]
   refine qHr 0 rfl (fun K hK => ?_)
   try simp only [Act.put, qa, qb, qc, qD, qE, qF]
   go_simp
   refine hK.out _ _ trivial (fun hHeld => ?_)
   clear hK K
   try simp only [Act.put, qa, qb, qc, qD, qE, qF]
   refine qHr 4 rfl (fun K hK => ?_)
   have l0 : OwnI ((w.drew.alloc (.cells #[.int .i64 x] 3)).alloc (.cells #[] 3)) w.heap.size (.slice (some ⟨w.heap.size + 1, 0, none⟩) 0 0) [] := by simpa using (OwnI.lit0 (w.drew.alloc (.cells #[.int .i64 x] 3)) w.heap.size (by simp))
   have l1 : Ints ((w.drew.alloc (.cells #[.int .i64 x] 3)).alloc (.cells #[] 3)) w.heap.size (.slice (some ⟨w.heap.size, 0, none⟩) 1 1) [x] := (Ints.one w.drew w.heap.size x (by simp)).ext ((Ext.refl _).alloc _)
   refine step_app rfl (.tmp 7) (.tmp 10) rfl rfl rfl (l0) (by first | exact ht.ext qXo | exact Ints.nil _ w.heap.size _ _ (by omega) (by simp)) (by simp <;> omega) (by first | assumption | (simp; done) | (simp; omega) | omega) ?_
   intro v4 w4 o4 gr4 bl4 eq4
   refine hK.out _ _ trivial (fun hHeld => ?_)
   clear hK K
   try simp only [Act.put, qa, qb, qc, qD, qE, qF]
   have X4 : Ext w w4 := Ext.below (show Ext w _ from qXo) bl4 (by simp)
   have z4 : w.heap.size ≤ w4.heap.size := X4.size
   replace l1 := l1.keepG gr4 (fun b off h _ => by cases h; show (some (w.heap.size + 1) : Option Nat) ≠ some w.heap.size; simp)
   refine qHr 7 rfl (fun K hK => ?_)
   refine step_app rfl (.tmp 11) (.tmp 13) rfl rfl rfl (o4) (l1) (by simp <;> omega) (by first | assumption | (simp; done) | (simp; omega) | omega) ?_
   intro v7 w7 o7 gr7 bl7 eq7
   refine hK.out _ _ trivial (fun hHeld => ?_)
   clear hK K
   try simp only [Act.put, qa, qb, qc, qD, qE, qF]
   have X7 : Ext w w7 := Ext.below (X4) bl7 (Nat.le_refl _)
   have z7 : w.heap.size ≤ w7.heap.size := X7.size
   refine qHr 11 rfl (fun K hK => ?_)
   refine step_app rfl (.tmp 14) (.tmp 17) rfl rfl rfl (o7) (by first | exact hd.ext X7 | exact Ints.nil _ w.heap.size _ _ (by omega) (by simp)) (by simp <;> omega) (by first | assumption | (simp; done) | (simp; omega) | omega) ?_
   intro v11 w11 o11 gr11 bl11 eq11
   refine hK.out _ _ trivial (fun hHeld => ?_)
   clear hK K
   try simp only [Act.put, qa, qb, qc, qD, qE, qF]
   have X11 : Ext w w11 := Ext.below X7 bl11 (Nat.le_refl _)
   refine qHr 12 rfl (fun K hK => ?_)
   try simp only [Act.put, qa, qb, qc, qD, qE, qF]
   go_simp
   refine hK.out _ _ trivial (fun hHeld => ?_)
   clear hK K
   try simp only [Act.put, qa, qb, qc, qD, qE, qF]
   refine wpAnyH_done qKr ?_ _
   clear hHeld
   go_wp2_with fail
   refine bodyPost_ret (v := v11) (by simp only [results, Try.results117]; go_simp) rfl ?_
   exact PInts.mkz (by first | exact o11.z | (rw [List.drop_eq_nil_of_le hc]; exact o11.z)) (Nat.le_refl _) (by simp <;> omega) X11
 ·
  subst hne
  obtain rfl : i = 0 := by simpa using hi
  rcases a with _ | A
  ·
   obtain rfl : c = 0 := hb2.2 rfl
   have hd := hv0
   simp only [List.length_nil, Int.ofNat_zero, Int.natCast_zero, List.take_nil, List.drop_nil] at *
   go_enter Try.func117, Try.ntmps117
   go_wp2_with fail
   refine wp_region_held_drew (S := fun _ => True) qKr trivial (fun hHeld => ?_)
   refine qHk (v := ?_) 1 rfl (.inl ⟨by rfl, ?_⟩) ?_
   rotate_left
   ·
    (intro w hSw; (try dsimp only at hSw); go_simp; try with_reducible rfl)
   try simp only [Act.put, qa, qb, qc, qD, qE, qF]
   refine qHk (v := ?_) 2 rfl (.inl ⟨by rfl, ?_⟩) ?_
   rotate_left
   ·
    (intro w hSw; (try dsimp only at hSw); go_simp; try with_reducible rfl)
   try simp only [Act.put, qa, qb, qc, qD, qE, qF]
   refine qHk (v := ?_) 3 rfl (.inl ⟨by rfl, ?_⟩) ?_
   rotate_left
   ·
    (intro w hSw; (try dsimp only at hSw); go_simp; try with_reducible rfl)
   try simp only [Act.put, qa, qb, qc, qD, qE, qF]
   refine qHk (v := ?_) 5 rfl (.inl ⟨by rfl, ?_⟩) ?_
   rotate_left
   ·
    (intro w hSw; (try dsimp only at hSw); go_simp; try with_reducible rfl)
   try simp only [Act.put, qa, qb, qc, qD, qE, qF]
   refine qHk (v := ?_) 8 rfl (.inl ⟨by rfl, ?_⟩) ?_
   rotate_left
   ·
    (intro w hSw; (try dsimp only at hSw); go_simp; try with_reducible rfl)
   try simp only [Act.put, qa, qb, qc, qD, qE, qF]
   refine qHk (v := ?_) 9 rfl (.inl ⟨by rfl, ?_⟩) ?_
   rotate_left
   ·
    (intro w hSw; (try dsimp only at hSw); go_simp; try with_reducible rfl)
   try simp only [Act.put, qa, qb, qc, qD, qE, qF]
   refine qHk (v := ?_) 10 rfl (.inl ⟨by rfl, ?_⟩) ?_
   rotate_left
   ·
    (intro w hSw; (try dsimp only at hSw); go_simp; try with_reducible rfl)
   try simp only [Act.put, qa, qb, qc, qD, qE, qF]
   refine wpAnyH_ready (rs := [0, 6]) qKr (by simp) ?_
   refine AllReadyH.cons rfl (fun K hK => ?_) (AllReadyH.cons rfl (fun K hK => ?_) AllReadyH.nil)
   ·
    skip
    try simp only [Act.put, qa, qb, qc, qD, qE, qF]
    go_simp
    refine hK.out _ _ trivial (fun hHeld => ?_)
    clear hK K
    try simp only [Act.put, qa, qb, qc, qD, qE, qF]
    refine wpAnyH_ready (rs := [4, 6]) qKr (by simp) ?_
    refine AllReadyH.cons rfl (fun K hK => ?_) (AllReadyH.cons rfl (fun K hK => ?_) AllReadyH.nil)
    ·
     skip
     refine step_app rfl (.tmp 7) (.tmp 10) rfl rfl rfl (OwnI.lit0 _ w.heap.size (by simp)) (by first | exact ht.ext qXo | exact Ints.nil _ w.heap.size _ _ (by omega) (by simp)) (by simp <;> omega) (by first | assumption | (simp; done) | (simp; omega) | omega) ?_
     intro v4 w4 o4 gr4 bl4 eq4
     refine hK.out _ _ trivial (fun hHeld => ?_)
     clear hK K
     try simp only [Act.put, qa, qb, qc, qD, qE, qF]
     have X4 : Ext w w4 := Ext.below (show Ext w _ from qXo) bl4 (by simp)
     have z4 : w.heap.size ≤ w4.heap.size := X4.size
     refine qHr 6 rfl (fun K hK => ?_)
     try simp only [Act.put, qa, qb, qc, qD, qE, qF]
     go_simp
     refine hK.out _ _ trivial (fun hHeld => ?_)
     clear hK K
     try simp only [Act.put, qa, qb, qc, qD, qE, qF]
     replace o4 := o4.ext (show Ext w4 (w4.alloc (.cells #[.int .i64 x] 3)) from qXo)
     refine qHr 7 rfl (fun K hK => ?_)
     refine step_app rfl (.tmp 11) (.tmp 13) rfl rfl rfl (o4) (Ints.one w4 w.heap.size x z4) (by simp <;> omega) (by first | assumption | (simp; done) | (simp; omega) | omega) ?_
     intro v7 w7 o7 gr7 bl7 eq7
     refine hK.out _ _ trivial (fun hHeld => ?_)
     clear hK K
     try simp only [Act.put, qa, qb, qc, qD, qE, qF]
     have X7 : Ext w w7 := Ext.below (X4.trans qXo) bl7 (Nat.le_refl _)
     have z7 : w.heap.size ≤ w7.heap.size := X7.size
     refine qHr 11 rfl (fun K hK => ?_)
     refine step_app rfl (.tmp 14) (.tmp 17) rfl rfl rfl (o7) (by first | exact hd.ext X7 | exact Ints.nil _ w.heap.size _ _ (by omega) (by simp)) (by simp <;> omega) (by first | assumption | (simp; done) | (simp; omega) | omega) ?_
     intro v11 w11 o11 gr11 bl11 eq11
     refine hK.out _ _ trivial (fun hHeld => ?_)
     clear hK K
     try simp only [Act.put, qa, qb, qc, qD, qE, qF]
     have X11 : Ext w w11 := Ext.below X7 bl11 (Nat.le_refl _)
     refine qHr 12 rfl (fun K hK => ?_)
     try simp only [Act.put, qa, qb, qc, qD, qE, qF]
     go_simp
     refine hK.out _ _ trivial (fun hHeld => ?_)
     clear hK K
     try simp only [Act.put, qa, qb, qc, qD, qE, qF]
     refine wpAnyH_done qKr ?_ _
     clear hHeld
     go_wp2_with fail
     refine bodyPost_ret (v := v11) (by simp only [results, Try.results117]; go_simp) rfl ?_
     exact PInts.mkz (by first | exact o11.z | (rw [List.drop_eq_nil_of_le hc]; exact o11.z)) (Nat.le_refl _) (by simp <;> omega) X11
    ·
     skip
     try simp only [Act.put, qa, qb, qc, qD, qE, qF]
     go_simp
     refine hK.out _ _ trivial (fun hHeld => ?_)
     clear hK K
     try simp only [Act.put, qa, qb, qc, qD, qE, qF]
     refine qHr 4 rfl (fun K hK => ?_)
     have l0 : OwnI ((w.drew.alloc (.cells #[] 3)).alloc (.cells #[.int .i64 x] 3)) w.heap.size (.slice (some ⟨w.heap.size, 0, none⟩) 0 0) [] := (OwnI.lit0 w.drew w.heap.size (by simp)).ext ((Ext.refl _).alloc _)
     have l1 : Ints ((w.drew.alloc (.cells #[] 3)).alloc (.cells #[.int .i64 x] 3)) w.heap.size (.slice (some ⟨w.heap.size + 1, 0, none⟩) 1 1) [x] := by simpa using Ints.one (w.drew.alloc (.cells #[] 3)) w.heap.size x (by simp)
     refine step_app rfl (.tmp 7) (.tmp 10) rfl rfl rfl (l0) (by first | exact ht.ext qXo | exact Ints.nil _ w.heap.size _ _ (by omega) (by simp)) (by simp <;> omega) (by first | assumption | (simp; done) | (simp; omega) | omega) ?_
     intro v4 w4 o4 gr4 bl4 eq4
     refine hK.out _ _ trivial (fun hHeld => ?_)
     clear hK K
     try simp only [Act.put, qa, qb, qc, qD, qE, qF]
     have X4 : Ext w w4 := Ext.below (show Ext w _ from qXo) bl4 (by simp)
     have z4 : w.heap.size ≤ w4.heap.size := X4.size
     replace l1 := l1.keepG gr4 (fun b off h _ => by cases h; show (some w.heap.size : Option Nat) ≠ some (w.heap.size + 1); simp)
     refine qHr 7 rfl (fun K hK => ?_)
     refine step_app rfl (.tmp 11) (.tmp 13) rfl rfl rfl (o4) (l1) (by simp <;> omega) (by first | assumption | (simp; done) | (simp; omega) | omega) ?_
     intro v7 w7 o7 gr7 bl7 eq7
     refine hK.out _ _ trivial (fun hHeld => ?_)
     clear hK K
     try simp only [Act.put, qa, qb, qc, qD, qE, qF]
     have X7 : Ext w w7 := Ext.below (X4) bl7 (Nat.le_refl _)
     have z7 : w.heap.size ≤ w7.heap.size := X7.size
     refine qHr 11 rfl (fun K hK => ?_)
     refine step_app rfl (.tmp 14) (.tmp 17) rfl rfl rfl (o7) (by first | exact hd.ext X7 | exact Ints.nil _ w.heap.size _ _ (by omega) (by simp)) (by simp <;> omega) (by first | assumption | (simp; done) | (simp; omega) | omega) ?_
     intro v11 w11 o11 gr11 bl11 eq11
     refine hK.out _ _ trivial (fun hHeld => ?_)
     clear hK K
     try simp only [Act.put, qa, qb, qc, qD, qE, qF]
     have X11 : Ext w w11 := Ext.below X7 bl11 (Nat.le_refl _)
     refine qHr 12 rfl (fun K hK => ?_)
     try simp only [Act.put, qa, qb, qc, qD, qE, qF]
     go_simp
     refine hK.out _ _ trivial (fun hHeld => ?_)
     clear hK K
     try simp only [Act.put, qa, qb, qc, qD, qE, qF]
     refine wpAnyH_done qKr ?_ _
     clear hHeld
     go_wp2_with fail
     refine bodyPost_ret (v := v11) (by simp only [results, Try.results117]; go_simp) rfl ?_
     exact PInts.mkz (by first | exact o11.z | (rw [List.drop_eq_nil_of_le hc]; exact o11.z)) (Nat.le_refl _) (by simp <;> omega) X11
   ·
    skip
    try simp only [Act.put, qa, qb, qc, qD, qE, qF]
    go_simp
    refine hK.out _ _ trivial (fun hHeld => ?_)
    clear hK K
    try simp only [Act.put, qa, qb, qc, qD, qE, qF]
    refine qHr 0 rfl (fun K hK => ?_)
    try simp only [Act.put, qa, qb, qc, qD, qE, qF]
    go_simp
    refine hK.out _ _ trivial (fun hHeld => ?_)
    clear hK K
    try simp only [Act.put, qa, qb, qc, qD, qE, qF]
    refine qHr 4 rfl (fun K hK => ?_)
    have l0 : OwnI ((w.drew.alloc (.cells #[.int .i64 x] 3)).alloc (.cells #[] 3)) w.heap.size (.slice (some ⟨w.heap.size + 1, 0, none⟩) 0 0) [] := by simpa using (OwnI.lit0 (w.drew.alloc (.cells #[.int .i64 x] 3)) w.heap.size (by simp))
    have l1 : Ints ((w.drew.alloc (.cells #[.int .i64 x] 3)).alloc (.cells #[] 3)) w.heap.size (.slice (some ⟨w.heap.size, 0, none⟩) 1 1) [x] := (Ints.one w.drew w.heap.size x (by simp)).ext ((Ext.refl _).alloc _)
    refine step_app rfl (.tmp 7) (.tmp 10) rfl rfl rfl (l0) (by first | exact ht.ext qXo | exact Ints.nil _ w.heap.size _ _ (by omega) (by simp)) (by simp <;> omega) (by first | assumption | (simp; done) | (simp; omega) | omega) ?_
    intro v4 w4 o4 gr4 bl4 eq4
    refine hK.out _ _ trivial (fun hHeld => ?_)
    clear hK K
    try simp only [Act.put, qa, qb, qc, qD, qE, qF]
    have X4 : Ext w w4 := Ext.below (show Ext w _ from qXo) bl4 (by simp)
    have z4 : w.heap.size ≤ w4.heap.size := X4.size
    replace l1 := l1.keepG gr4 (fun b off h _ => by cases h; show (some (w.heap.size + 1) : Option Nat) ≠ some w.heap.size; simp)
    refine qHr 7 rfl (fun K hK => ?_)
    refine step_app rfl (.tmp 11) (.tmp 13) rfl rfl rfl (o4) (l1) (by simp <;> omega) (by first | assumption | (simp; done) | (simp; omega) | omega) ?_
    intro v7 w7 o7 gr7 bl7 eq7
    refine hK.out _ _ trivial (fun hHeld => ?_)
    clear hK K
    try simp only [Act.put, qa, qb, qc, qD, qE, qF]
    have X7 : Ext w w7 := Ext.below (X4) bl7 (Nat.le_refl _)
    have z7 : w.heap.size ≤ w7.heap.size := X7.size
    refine qHr 11 rfl (fun K hK => ?_)
    refine step_app rfl (.tmp 14) (.tmp 17) rfl rfl rfl (o7) (by first | exact hd.ext X7 | exact Ints.nil _ w.heap.size _ _ (by omega) (by simp)) (by simp <;> omega) (by first | assumption | (simp; done) | (simp; omega) | omega) ?_
    intro v11 w11 o11 gr11 bl11 eq11
    refine hK.out _ _ trivial (fun hHeld => ?_)
    clear hK K
    try simp only [Act.put, qa, qb, qc, qD, qE, qF]
    have X11 : Ext w w11 := Ext.below X7 bl11 (Nat.le_refl _)
    refine qHr 12 rfl (fun K hK => ?_)
    try simp only [Act.put, qa, qb, qc, qD, qE, qF]
    go_simp
    refine hK.out _ _ trivial (fun hHeld => ?_)
    clear hK K
    try simp only [Act.put, qa, qb, qc, qD, qE, qF]
    refine wpAnyH_done qKr ?_ _
    clear hHeld
    go_wp2_with fail
    refine bodyPost_ret (v := v11) (by simp only [results, Try.results117]; go_simp) rfl ?_
    exact PInts.mkz (by first | exact o11.z | (rw [List.drop_eq_nil_of_le hc]; exact o11.z)) (Nat.le_refl _) (by simp <;> omega) X11
  ·
   by_cases hc0 : c = 0
   ·
    subst hc0
    have hd := hv0
    simp only [List.length_nil, Int.ofNat_zero, Int.natCast_zero, List.take_nil, List.drop_nil] at *
    go_enter Try.func117, Try.ntmps117
    go_wp2_with fail
    refine wp_region_held_drew (S := fun _ => True) qKr trivial (fun hHeld => ?_)
    refine qHk (v := ?_) 1 rfl (.inl ⟨by rfl, ?_⟩) ?_
    rotate_left
    ·
     (intro w hSw; (try dsimp only at hSw); go_simp; try with_reducible rfl)
    try simp only [Act.put, qa, qb, qc, qD, qE, qF]
    refine qHk (v := ?_) 2 rfl (.inl ⟨by rfl, ?_⟩) ?_
    rotate_left
    ·
     (intro w hSw; (try dsimp only at hSw); go_simp; try with_reducible rfl)
    try simp only [Act.put, qa, qb, qc, qD, qE, qF]
    refine qHk (v := ?_) 3 rfl (.inl ⟨by rfl, ?_⟩) ?_
    rotate_left
    ·
     (intro w hSw; (try dsimp only at hSw); go_simp; try with_reducible rfl)
    try simp only [Act.put, qa, qb, qc, qD, qE, qF]
    refine qHk (v := ?_) 5 rfl (.inl ⟨by rfl, ?_⟩) ?_
    rotate_left
    ·
     (intro w hSw; (try dsimp only at hSw); go_simp; try with_reducible rfl)
    try simp only [Act.put, qa, qb, qc, qD, qE, qF]
    refine qHk (v := ?_) 8 rfl (.inl ⟨by rfl, ?_⟩) ?_
    rotate_left
    ·
     (intro w hSw; (try dsimp only at hSw); go_simp; try with_reducible rfl)
    try simp only [Act.put, qa, qb, qc, qD, qE, qF]
    refine qHk (v := ?_) 9 rfl (.inl ⟨by rfl, ?_⟩) ?_
    rotate_left
    ·
     (intro w hSw; (try dsimp only at hSw); go_simp; try with_reducible rfl)
    try simp only [Act.put, qa, qb, qc, qD, qE, qF]
    refine qHk (v := ?_) 10 rfl (.inl ⟨by rfl, ?_⟩) ?_
    rotate_left
    ·
     (intro w hSw; (try dsimp only at hSw); go_simp; try with_reducible rfl)
    try simp only [Act.put, qa, qb, qc, qD, qE, qF]
    refine wpAnyH_ready (rs := [0, 6]) qKr (by simp) ?_
    refine AllReadyH.cons rfl (fun K hK => ?_) (AllReadyH.cons rfl (fun K hK => ?_) AllReadyH.nil)
    ·
     skip
     try simp only [Act.put, qa, qb, qc, qD, qE, qF]
     go_simp
     refine hK.out _ _ trivial (fun hHeld => ?_)
     clear hK K
     try simp only [Act.put, qa, qb, qc, qD, qE, qF]
     refine wpAnyH_ready (rs := [4, 6]) qKr (by simp) ?_
     refine AllReadyH.cons rfl (fun K hK => ?_) (AllReadyH.cons rfl (fun K hK => ?_) AllReadyH.nil)
     ·
      skip
      refine step_app rfl (.tmp 7) (.tmp 10) rfl rfl rfl (OwnI.lit0 _ w.heap.size (by simp)) (by first | exact ht.ext qXo | exact Ints.nil _ w.heap.size _ _ (by omega) (by simp)) (by simp <;> omega) (by first | assumption | (simp; done) | (simp; omega) | omega) ?_
      intro v4 w4 o4 gr4 bl4 eq4
      refine hK.out _ _ trivial (fun hHeld => ?_)
      clear hK K
      try simp only [Act.put, qa, qb, qc, qD, qE, qF]
      have X4 : Ext w w4 := Ext.below (show Ext w _ from qXo) bl4 (by simp)
      have z4 : w.heap.size ≤ w4.heap.size := X4.size
      refine qHr 6 rfl (fun K hK => ?_)
      try simp only [Act.put, qa, qb, qc, qD, qE, qF]
      go_simp
      refine hK.out _ _ trivial (fun hHeld => ?_)
      clear hK K
      try simp only [Act.put, qa, qb, qc, qD, qE, qF]
      replace o4 := o4.ext (show Ext w4 (w4.alloc (.cells #[.int .i64 x] 3)) from qXo)
      refine qHr 7 rfl (fun K hK => ?_)
      refine step_app rfl (.tmp 11) (.tmp 13) rfl rfl rfl (o4) (Ints.one w4 w.heap.size x z4) (by simp <;> omega) (by first | assumption | (simp; done) | (simp; omega) | omega) ?_
      intro v7 w7 o7 gr7 bl7 eq7
      refine hK.out _ _ trivial (fun hHeld => ?_)
      clear hK K
      try simp only [Act.put, qa, qb, qc, qD, qE, qF]
      have X7 : Ext w w7 := Ext.below (X4.trans qXo) bl7 (Nat.le_refl _)
      have z7 : w.heap.size ≤ w7.heap.size := X7.size
      refine qHr 11 rfl (fun K hK => ?_)
      refine step_app rfl (.tmp 14) (.tmp 17) rfl rfl rfl (o7) (by first | exact hd.ext X7 | exact Ints.nil _ w.heap.size _ _ (by omega) (by simp)) (by simp <;> omega) (by first | assumption | (simp; done) | (simp; omega) | omega) ?_
      intro v11 w11 o11 gr11 bl11 eq11
      refine hK.out _ _ trivial (fun hHeld => ?_)
      clear hK K
      try simp only [Act.put, qa, qb, qc, qD, qE, qF]
      have X11 : Ext w w11 := Ext.below X7 bl11 (Nat.le_refl _)
      refine qHr 12 rfl (fun K hK => ?_)
      try simp only [Act.put, qa, qb, qc, qD, qE, qF]
      go_simp
      refine hK.out _ _ trivial (fun hHeld => ?_)
      clear hK K
      try simp only [Act.put, qa, qb, qc, qD, qE, qF]
      refine wpAnyH_done qKr ?_ _
      clear hHeld
      go_wp2_with fail
      refine bodyPost_ret (v := v11) (by simp only [results, Try.results117]; go_simp) rfl ?_
      exact PInts.mkz (by first | exact o11.z | (rw [List.drop_eq_nil_of_le hc]; exact o11.z)) (Nat.le_refl _) (by simp <;> omega) X11
     ·
      skip
      try simp only [Act.put, qa, qb, qc, qD, qE, qF]
      go_simp
      refine hK.out _ _ trivial (fun hHeld => ?_)
      clear hK K
      try simp only [Act.put, qa, qb, qc, qD, qE, qF]
      refine qHr 4 rfl (fun K hK => ?_)
      have l0 : OwnI ((w.drew.alloc (.cells #[] 3)).alloc (.cells #[.int .i64 x] 3)) w.heap.size (.slice (some ⟨w.heap.size, 0, none⟩) 0 0) [] := (OwnI.lit0 w.drew w.heap.size (by simp)).ext ((Ext.refl _).alloc _)
      have l1 : Ints ((w.drew.alloc (.cells #[] 3)).alloc (.cells #[.int .i64 x] 3)) w.heap.size (.slice (some ⟨w.heap.size + 1, 0, none⟩) 1 1) [x] := by simpa using Ints.one (w.drew.alloc (.cells #[] 3)) w.heap.size x (by simp)
      refine step_app rfl (.tmp 7) (.tmp 10) rfl rfl rfl (l0) (by first | exact ht.ext qXo | exact Ints.nil _ w.heap.size _ _ (by omega) (by simp)) (by simp <;> omega) (by first | assumption | (simp; done) | (simp; omega) | omega) ?_
      intro v4 w4 o4 gr4 bl4 eq4
      refine hK.out _ _ trivial (fun hHeld => ?_)
      clear hK K
      try simp only [Act.put, qa, qb, qc, qD, qE, qF]
      have X4 : Ext w w4 := Ext.below (show Ext w _ from qXo) bl4 (by simp)
      have z4 : w.heap.size ≤ w4.heap.size := X4.size
      replace l1 := l1.keepG gr4 (fun b off h _ => by cases h; show (some w.heap.size : Option Nat) ≠ some (w.heap.size + 1); simp)
      refine qHr 7 rfl (fun K hK => ?_)
      refine step_app rfl (.tmp 11) (.tmp 13) rfl rfl rfl (o4) (l1) (by simp <;> omega) (by first | assumption | (simp; done) | (simp; omega) | omega) ?_
      intro v7 w7 o7 gr7 bl7 eq7
      refine hK.out _ _ trivial (fun hHeld => ?_)
      clear hK K
      try simp only [Act.put, qa, qb, qc, qD, qE, qF]
      have X7 : Ext w w7 := Ext.below (X4) bl7 (Nat.le_refl _)
      have z7 : w.heap.size ≤ w7.heap.size := X7.size
      refine qHr 11 rfl (fun K hK => ?_)
      refine step_app rfl (.tmp 14) (.tmp 17) rfl rfl rfl (o7) (by first | exact hd.ext X7 | exact Ints.nil _ w.heap.size _ _ (by omega) (by simp)) (by simp <;> omega) (by first | assumption | (simp; done) | (simp; omega) | omega) ?_
      intro v11 w11 o11 gr11 bl11 eq11
      refine hK.out _ _ trivial (fun hHeld => ?_)
      clear hK K
      try simp only [Act.put, qa, qb, qc, qD, qE, qF]
      have X11 : Ext w w11 := Ext.below X7 bl11 (Nat.le_refl _)
      refine qHr 12 rfl (fun K hK => ?_)
      try simp only [Act.put, qa, qb, qc, qD, qE, qF]
      go_simp
      refine hK.out _ _ trivial (fun hHeld => ?_)
      clear hK K
      try simp only [Act.put, qa, qb, qc, qD, qE, qF]
      refine wpAnyH_done qKr ?_ _
      clear hHeld
      go_wp2_with fail
      refine bodyPost_ret (v := v11) (by simp only [results, Try.results117]; go_simp) rfl ?_
      exact PInts.mkz (by first | exact o11.z | (rw [List.drop_eq_nil_of_le hc]; exact o11.z)) (Nat.le_refl _) (by simp <;> omega) X11
    ·
     skip
     try simp only [Act.put, qa, qb, qc, qD, qE, qF]
     go_simp
     refine hK.out _ _ trivial (fun hHeld => ?_)
     clear hK K
     try simp only [Act.put, qa, qb, qc, qD, qE, qF]
     refine qHr 0 rfl (fun K hK => ?_)
     try simp only [Act.put, qa, qb, qc, qD, qE, qF]
     go_simp
     refine hK.out _ _ trivial (fun hHeld => ?_)
     clear hK K
     try simp only [Act.put, qa, qb, qc, qD, qE, qF]
     refine qHr 4 rfl (fun K hK => ?_)
     have l0 : OwnI ((w.drew.alloc (.cells #[.int .i64 x] 3)).alloc (.cells #[] 3)) w.heap.size (.slice (some ⟨w.heap.size + 1, 0, none⟩) 0 0) [] := by simpa using (OwnI.lit0 (w.drew.alloc (.cells #[.int .i64 x] 3)) w.heap.size (by simp))
     have l1 : Ints ((w.drew.alloc (.cells #[.int .i64 x] 3)).alloc (.cells #[] 3)) w.heap.size (.slice (some ⟨w.heap.size, 0, none⟩) 1 1) [x] := (Ints.one w.drew w.heap.size x (by simp)).ext ((Ext.refl _).alloc _)
     refine step_app rfl (.tmp 7) (.tmp 10) rfl rfl rfl (l0) (by first | exact ht.ext qXo | exact Ints.nil _ w.heap.size _ _ (by omega) (by simp)) (by simp <;> omega) (by first | assumption | (simp; done) | (simp; omega) | omega) ?_
     intro v4 w4 o4 gr4 bl4 eq4
     refine hK.out _ _ trivial (fun hHeld => ?_)
     clear hK K
     try simp only [Act.put, qa, qb, qc, qD, qE, qF]
     have X4 : Ext w w4 := Ext.below (show Ext w _ from qXo) bl4 (by simp)
     have z4 : w.heap.size ≤ w4.heap.size := X4.size
     replace l1 := l1.keepG gr4 (fun b off h _ => by cases h; show (some (w.heap.size + 1) : Option Nat) ≠ some w.heap.size; simp)
     refine qHr 7 rfl (fun K hK => ?_)
     refine step_app rfl (.tmp 11) (.tmp 13) rfl rfl rfl (o4) (l1) (by simp <;> omega) (by first | assumption | (simp; done) | (simp; omega) | omega) ?_
     intro v7 w7 o7 gr7 bl7 eq7
     refine hK.out _ _ trivial (fun hHeld => ?_)
     clear hK K
     try simp only [Act.put, qa, qb, qc, qD, qE, qF]
     have X7 : Ext w w7 := Ext.below (X4) bl7 (Nat.le_refl _)
     have z7 : w.heap.size ≤ w7.heap.size := X7.size
     refine qHr 11 rfl (fun K hK => ?_)
     refine step_app rfl (.tmp 14) (.tmp 17) rfl rfl rfl (o7) (by first | exact hd.ext X7 | exact Ints.nil _ w.heap.size _ _ (by omega) (by simp)) (by simp <;> omega) (by first | assumption | (simp; done) | (simp; omega) | omega) ?_
     intro v11 w11 o11 gr11 bl11 eq11
     refine hK.out _ _ trivial (fun hHeld => ?_)
     clear hK K
     try simp only [Act.put, qa, qb, qc, qD, qE, qF]
     have X11 : Ext w w11 := Ext.below X7 bl11 (Nat.le_refl _)
     refine qHr 12 rfl (fun K hK => ?_)
     try simp only [Act.put, qa, qb, qc, qD, qE, qF]
     go_simp
     refine hK.out _ _ trivial (fun hHeld => ?_)
     clear hK K
     try simp only [Act.put, qa, qb, qc, qD, qE, qF]
     refine wpAnyH_done qKr ?_ _
     clear hHeld
     go_wp2_with fail
     refine bodyPost_ret (v := v11) (by simp only [results, Try.results117]; go_simp) rfl ?_
     exact PInts.mkz (by first | exact o11.z | (rw [List.drop_eq_nil_of_le hc]; exact o11.z)) (Nat.le_refl _) (by simp <;> omega) X11
   ·
    have hd := hv0
    simp only [List.length_nil, Int.ofNat_zero, Int.natCast_zero, List.take_nil, List.drop_nil] at *
    go_enter Try.func117, Try.ntmps117
    go_wp2_with fail
    refine wp_region_held_drew (S := fun _ => True) qKr trivial (fun hHeld => ?_)
    refine qHk (v := ?_) 1 rfl (.inl ⟨by rfl, ?_⟩) ?_
    rotate_left
    ·
     (intro w hSw; (try dsimp only at hSw); go_simp; try with_reducible rfl)
    try simp only [Act.put, qa, qb, qc, qD, qE, qF]
    refine qHk (v := ?_) 2 rfl (.inl ⟨by rfl, ?_⟩) ?_
    rotate_left
    ·
     (intro w hSw; (try dsimp only at hSw); go_simp; try with_reducible rfl)
    try simp only [Act.put, qa, qb, qc, qD, qE, qF]
    refine qHk (v := ?_) 3 rfl (.inl ⟨by rfl, ?_⟩) ?_
    rotate_left
    ·
     (intro w hSw; (try dsimp only at hSw); go_simp; try with_reducible rfl)
    try simp only [Act.put, qa, qb, qc, qD, qE, qF]
    refine qHk (v := ?_) 5 rfl (.inl ⟨by rfl, ?_⟩) ?_
    rotate_left
    ·
     (intro w hSw; (try dsimp only at hSw); go_simp; try with_reducible rfl)
    try simp only [Act.put, qa, qb, qc, qD, qE, qF]
    refine qHk (v := ?_) 8 rfl (.inl ⟨by rfl, ?_⟩) ?_
    rotate_left
    ·
     (intro w hSw; (try dsimp only at hSw); go_simp; try with_reducible rfl)
    try simp only [Act.put, qa, qb, qc, qD, qE, qF]
    refine qHk (v := ?_) 9 rfl (.inl ⟨by rfl, ?_⟩) ?_
    rotate_left
    ·
     (intro w hSw; (try dsimp only at hSw); go_simp; try with_reducible rfl)
    try simp only [Act.put, qa, qb, qc, qD, qE, qF]
    refine qHk (v := ?_) 10 rfl (.inl ⟨by rfl, ?_⟩) ?_
    rotate_left
    ·
     (intro w hSw; (try dsimp only at hSw); go_simp; try with_reducible rfl)
    try simp only [Act.put, qa, qb, qc, qD, qE, qF]
    refine wpAnyH_ready (rs := [0, 6]) qKr (by simp) ?_
    refine AllReadyH.cons rfl (fun K hK => ?_) (AllReadyH.cons rfl (fun K hK => ?_) AllReadyH.nil)
    ·
     skip
     try simp only [Act.put, qa, qb, qc, qD, qE, qF]
     go_simp
     refine hK.out _ _ trivial (fun hHeld => ?_)
     clear hK K
     try simp only [Act.put, qa, qb, qc, qD, qE, qF]
     refine wpAnyH_ready (rs := [4, 6]) qKr (by simp) ?_
     refine AllReadyH.cons rfl (fun K hK => ?_) (AllReadyH.cons rfl (fun K hK => ?_) AllReadyH.nil)
     ·
      skip
      refine step_app rfl (.tmp 7) (.tmp 10) rfl rfl rfl (OwnI.lit0 _ w.heap.size (by simp)) (by first | exact ht.ext qXo | exact Ints.nil _ w.heap.size _ _ (by omega) (by simp)) (by simp <;> omega) (by first | assumption | (simp; done) | (simp; omega) | omega) ?_
      intro v4 w4 o4 gr4 bl4 eq4
      refine hK.out _ _ trivial (fun hHeld => ?_)
      clear hK K
      try simp only [Act.put, qa, qb, qc, qD, qE, qF]
      have X4 : Ext w w4 := Ext.below (show Ext w _ from qXo) bl4 (by simp)
      have z4 : w.heap.size ≤ w4.heap.size := X4.size
      refine qHr 6 rfl (fun K hK => ?_)
      try simp only [Act.put, qa, qb, qc, qD, qE, qF]
      go_simp
      refine hK.out _ _ trivial (fun hHeld => ?_)
      clear hK K
      try simp only [Act.put, qa, qb, qc, qD, qE, qF]
      replace o4 := o4.ext (show Ext w4 (w4.alloc (.cells #[.int .i64 x] 3)) from qXo)
      refine qHr 7 rfl (fun K hK => ?_)
      refine step_app rfl (.tmp 11) (.tmp 13) rfl rfl rfl (o4) (Ints.one w4 w.heap.size x z4) (by simp <;> omega) (by first | assumption | (simp; done) | (simp; omega) | omega) ?_
      intro v7 w7 o7 gr7 bl7 eq7
      refine hK.out _ _ trivial (fun hHeld => ?_)
      clear hK K
      try simp only [Act.put, qa, qb, qc, qD, qE, qF]
      have X7 : Ext w w7 := Ext.below (X4.trans qXo) bl7 (Nat.le_refl _)
      have z7 : w.heap.size ≤ w7.heap.size := X7.size
      refine qHr 11 rfl (fun K hK => ?_)
      refine step_app rfl (.tmp 14) (.tmp 17) rfl rfl rfl (o7) (by first | exact hd.ext X7 | exact Ints.nil _ w.heap.size _ _ (by omega) (by simp)) (by simp <;> omega) (by first | assumption | (simp; done) | (simp; omega) | omega) ?_
      intro v11 w11 o11 gr11 bl11 eq11
      refine hK.out _ _ trivial (fun hHeld => ?_)
      clear hK K
      try simp only [Act.put, qa, qb, qc, qD, qE, qF]
      have X11 : Ext w w11 := Ext.below X7 bl11 (Nat.le_refl _)
      refine qHr 12 rfl (fun K hK => ?_)
      try simp only [Act.put, qa, qb, qc, qD, qE, qF]
      go_simp
      refine hK.out _ _ trivial (fun hHeld => ?_)
      clear hK K
      try simp only [Act.put, qa, qb, qc, qD, qE, qF]
      refine wpAnyH_done qKr ?_ _
      clear hHeld
      go_wp2_with fail
      refine bodyPost_ret (v := v11) (by simp only [results, Try.results117]; go_simp) rfl ?_
      exact PInts.mkz (by first | exact o11.z | (rw [List.drop_eq_nil_of_le hc]; exact o11.z)) (Nat.le_refl _) (by simp <;> omega) X11
     ·
      skip
      try simp only [Act.put, qa, qb, qc, qD, qE, qF]
      go_simp
      refine hK.out _ _ trivial (fun hHeld => ?_)
      clear hK K
      try simp only [Act.put, qa, qb, qc, qD, qE, qF]
      refine qHr 4 rfl (fun K hK => ?_)
      have l0 : OwnI ((w.drew.alloc (.cells #[] 3)).alloc (.cells #[.int .i64 x] 3)) w.heap.size (.slice (some ⟨w.heap.size, 0, none⟩) 0 0) [] := (OwnI.lit0 w.drew w.heap.size (by simp)).ext ((Ext.refl _).alloc _)
      have l1 : Ints ((w.drew.alloc (.cells #[] 3)).alloc (.cells #[.int .i64 x] 3)) w.heap.size (.slice (some ⟨w.heap.size + 1, 0, none⟩) 1 1) [x] := by simpa using Ints.one (w.drew.alloc (.cells #[] 3)) w.heap.size x (by simp)
      refine step_app rfl (.tmp 7) (.tmp 10) rfl rfl rfl (l0) (by first | exact ht.ext qXo | exact Ints.nil _ w.heap.size _ _ (by omega) (by simp)) (by simp <;> omega) (by first | assumption | (simp; done) | (simp; omega) | omega) ?_
      intro v4 w4 o4 gr4 bl4 eq4
      refine hK.out _ _ trivial (fun hHeld => ?_)
      clear hK K
      try simp only [Act.put, qa, qb, qc, qD, qE, qF]
      have X4 : Ext w w4 := Ext.below (show Ext w _ from qXo) bl4 (by simp)
      have z4 : w.heap.size ≤ w4.heap.size := X4.size
      replace l1 := l1.keepG gr4 (fun b off h _ => by cases h; show (some w.heap.size : Option Nat) ≠ some (w.heap.size + 1); simp)
      refine qHr 7 rfl (fun K hK => ?_)
      refine step_app rfl (.tmp 11) (.tmp 13) rfl rfl rfl (o4) (l1) (by simp <;> omega) (by first | assumption | (simp; done) | (simp; omega) | omega) ?_
      intro v7 w7 o7 gr7 bl7 eq7
      refine hK.out _ _ trivial (fun hHeld => ?_)
      clear hK K
      try simp only [Act.put, qa, qb, qc, qD, qE, qF]
      have X7 : Ext w w7 := Ext.below (X4) bl7 (Nat.le_refl _)
      have z7 : w.heap.size ≤ w7.heap.size := X7.size
      refine qHr 11 rfl (fun K hK => ?_)
      refine step_app rfl (.tmp 14) (.tmp 17) rfl rfl rfl (o7) (by first | exact hd.ext X7 | exact Ints.nil _ w.heap.size _ _ (by omega) (by simp)) (by simp <;> omega) (by first | assumption | (simp; done) | (simp; omega) | omega) ?_
      intro v11 w11 o11 gr11 bl11 eq11
      refine hK.out _ _ trivial (fun hHeld => ?_)
      clear hK K
      try simp only [Act.put, qa, qb, qc, qD, qE, qF]
      have X11 : Ext w w11 := Ext.below X7 bl11 (Nat.le_refl _)
      refine qHr 12 rfl (fun K hK => ?_)
      try simp only [Act.put, qa, qb, qc, qD, qE, qF]
      go_simp
      refine hK.out _ _ trivial (fun hHeld => ?_)
      clear hK K
      try simp only [Act.put, qa, qb, qc, qD, qE, qF]
      refine wpAnyH_done qKr ?_ _
      clear hHeld
      go_wp2_with fail
      refine bodyPost_ret (v := v11) (by simp only [results, Try.results117]; go_simp) rfl ?_
      exact PInts.mkz (by first | exact o11.z | (rw [List.drop_eq_nil_of_le hc]; exact o11.z)) (Nat.le_refl _) (by simp <;> omega) X11
    ·
     skip
     try simp only [Act.put, qa, qb, qc, qD, qE, qF]
     go_simp
     refine hK.out _ _ trivial (fun hHeld => ?_)
     clear hK K
     try simp only [Act.put, qa, qb, qc, qD, qE, qF]
     refine qHr 0 rfl (fun K hK => ?_)
     try simp only [Act.put, qa, qb, qc, qD, qE, qF]
     go_simp
     refine hK.out _ _ trivial (fun hHeld => ?_)
     clear hK K
     try simp only [Act.put, qa, qb, qc, qD, qE, qF]
     refine qHr 4 rfl (fun K hK => ?_)
     have l0 : OwnI ((w.drew.alloc (.cells #[.int .i64 x] 3)).alloc (.cells #[] 3)) w.heap.size (.slice (some ⟨w.heap.size + 1, 0, none⟩) 0 0) [] := by simpa using (OwnI.lit0 (w.drew.alloc (.cells #[.int .i64 x] 3)) w.heap.size (by simp))
     have l1 : Ints ((w.drew.alloc (.cells #[.int .i64 x] 3)).alloc (.cells #[] 3)) w.heap.size (.slice (some ⟨w.heap.size, 0, none⟩) 1 1) [x] := (Ints.one w.drew w.heap.size x (by simp)).ext ((Ext.refl _).alloc _)
     refine step_app rfl (.tmp 7) (.tmp 10) rfl rfl rfl (l0) (by first | exact ht.ext qXo | exact Ints.nil _ w.heap.size _ _ (by omega) (by simp)) (by simp <;> omega) (by first | assumption | (simp; done) | (simp; omega) | omega) ?_
     intro v4 w4 o4 gr4 bl4 eq4
     refine hK.out _ _ trivial (fun hHeld => ?_)
     clear hK K
     try simp only [Act.put, qa, qb, qc, qD, qE, qF]
     have X4 : Ext w w4 := Ext.below (show Ext w _ from qXo) bl4 (by simp)
     have z4 : w.heap.size ≤ w4.heap.size := X4.size
     replace l1 := l1.keepG gr4 (fun b off h _ => by cases h; show (some (w.heap.size + 1) : Option Nat) ≠ some w.heap.size; simp)
     refine qHr 7 rfl (fun K hK => ?_)
     refine step_app rfl (.tmp 11) (.tmp 13) rfl rfl rfl (o4) (l1) (by simp <;> omega) (by first | assumption | (simp; done) | (simp; omega) | omega) ?_
     intro v7 w7 o7 gr7 bl7 eq7
     refine hK.out _ _ trivial (fun hHeld => ?_)
     clear hK K
     try simp only [Act.put, qa, qb, qc, qD, qE, qF]
     have X7 : Ext w w7 := Ext.below (X4) bl7 (Nat.le_refl _)
     have z7 : w.heap.size ≤ w7.heap.size := X7.size
     refine qHr 11 rfl (fun K hK => ?_)
     refine step_app rfl (.tmp 14) (.tmp 17) rfl rfl rfl (o7) (by first | exact hd.ext X7 | exact Ints.nil _ w.heap.size _ _ (by omega) (by simp)) (by simp <;> omega) (by first | assumption | (simp; done) | (simp; omega) | omega) ?_
     intro v11 w11 o11 gr11 bl11 eq11
     refine hK.out _ _ trivial (fun hHeld => ?_)
     clear hK K
     try simp only [Act.put, qa, qb, qc, qD, qE, qF]
     have X11 : Ext w w11 := Ext.below X7 bl11 (Nat.le_refl _)
     refine qHr 12 rfl (fun K hK => ?_)
     try simp only [Act.put, qa, qb, qc, qD, qE, qF]
     go_simp
     refine hK.out _ _ trivial (fun hHeld => ?_)
     clear hK K
     try simp only [Act.put, qa, qb, qc, qD, qE, qF]
     refine wpAnyH_done qKr ?_ _
     clear hHeld
     go_wp2_with fail
     refine bodyPost_ret (v := v11) (by simp only [results, Try.results117]; go_simp) rfl ?_
     exact PInts.mkz (by first | exact o11.z | (rw [List.drop_eq_nil_of_le hc]; exact o11.z)) (Nat.le_refl _) (by simp <;> omega) X11

end Go.Proofs.Ytpgkhjmboiepcaa

/- Walks: made, PermuteDims, FlipDim, AddDim and WindowsOf of the reference. -/
namespace Go.Proofs.Ytpgkhjmboiepcaa
open Go.RowKit
set_option linter.unusedVariables false
set_option maxRecDepth 100000


def madeV (b : Int) (s t : List Int) : VBool := if viewB b s t then (b, s, t, true) else noV
theorem made_c (b1 : Int) (u1 v1 : Value) (s1 t1 : List Int) (w : World) (l1 m1 : Nat) (h1 : Ints w l1 u1 s1) (k1 : Ints w m1 v1 t1) :
  Calls Try.prog 59 #[.agg #[.int .i64 b1, u1, v1]] w (PVB w (madeV b1 s1 t1)) := by
 cases ha : viewB b1 s1 t1
 ·
  have : madeV b1 s1 t1 = noV := by unfold madeV; rw [ha]; rfl
  rw [this]; exact made_0 b1 u1 v1 s1 t1 w l1 m1 h1 k1 ha
 ·
  have : madeV b1 s1 t1 = (b1, s1, t1, true) := by unfold madeV; rw [ha]; rfl
  rw [this]; exact made_1 b1 u1 v1 s1 t1 w l1 m1 h1 k1 ha
theorem PVB.any {w w' : World} {x : VBool} {b : Int} {s t : List Int} {ok : Bool} {v1 v2 : Value} (h : x = (b, s, t, ok)) (o1 : OwnZ w' w.heap.size v1 s) (o2 : OwnZ w' w.heap.size v2 t) (hd : s ≠ [] → t ≠ [] → v1.ownBlock ≠ v2.ownBlock) (l1 : s.length ≤ 4194304) (l2 : t.length ≤ 4194304) (hx : Ext w w') :
  PVB w x (.returned (.tuple #[.agg #[.int .i64 b, v1, v2], .bool ok])) w' := by
 subst h; exact ⟨v1, v2, rfl, o1.ints l1, o2.ints l2, o1, o2, hd, hx⟩
theorem PVB.eq {w w' : World} {x y : VBool} {e : Ending} (h : PVB w x e w') (hx : x = y) : PVB w y e w' := hx ▸ h
/-- the view of a VBool: as many strides as extents, no more than four -/
def VBool.fit (x : VBool) : Prop := x.2.2.1.length = x.2.1.length ∧ x.2.1.length ≤ 4
theorem noV_fit : VBool.fit noV := ⟨rfl, Nat.zero_le _⟩
theorem view_fit {b : Int} {s t : List Int} {ok : Bool} (h : viewB b s t = true) : VBool.fit (b, s, t, ok) := ⟨(viewB_in h).2.1, (shapeB_in (viewB_in h).1).1⟩
theorem madeV_fit (b : Int) (s t : List Int) : VBool.fit (madeV b s t) := by
 unfold madeV
 cases h : viewB b s t
 ·
  exact noV_fit
 ·
  exact view_fit h
theorem sliceV_fit (b : Int) (s t : List Int) (d F T B : Int) (hf ht : Bool) : VBool.fit (sliceV b s t d F T B hf ht) := by
 unfold sliceV
 split
 ·
  rename_i h
  simp only [Bool.and_eq_true] at h
  obtain ⟨h1, h2, h3⟩ := h
  exact view_fit (sliceV_view h1 (by simp [inB] at h2; omega) h3)
 ·
  exact noV_fit

def flipV (b : Int) (s t : List Int) (d : Int) : VBool := sliceV b s t d 0 0 (-1) false false
def permV (b : Int) (s t ord : List Int) : VBool := if viewB b s t && orderB ord s.length then madeV b (takL s ord) (takL t ord) else noV
def insL (xs : List Int) (i : Nat) (x : Int) : List Int := xs.take i ++ [x] ++ xs.drop i
def addV (b : Int) (s t : List Int) (d : Int) : VBool := if viewB b s t && (inB 0 s.length d && !((s.length : Int) == 4)) then madeV b (insL s d.toNat 1) (insL t d.toNat 0) else noV
def winV (b : Int) (s t : List Int) (d n : Int) : VBool := if viewB b s t && (inB 0 ((s.length : Int) - 1) d && inB 1 (s.getD d.toNat 0) n) then madeV b (s.set d.toNat (s.getD d.toNat 0 - n + 1) ++ [n]) (t ++ [t.getD d.toNat 0]) else noV
theorem permV_fit (b : Int) (s t ord : List Int) : VBool.fit (permV b s t ord) := by unfold permV; split; exact madeV_fit _ _ _; exact noV_fit
theorem addV_fit (b : Int) (s t : List Int) (d : Int) : VBool.fit (addV b s t d) := by unfold addV; split; exact madeV_fit _ _ _; exact noV_fit
theorem winV_fit (b : Int) (s t : List Int) (d n : Int) : VBool.fit (winV b s t d n) := by unfold winV; split; exact madeV_fit _ _ _; exact noV_fit

set_option maxHeartbeats 1600000 in
theorem specFlipDim_c (b1 : Int) (u1 v1 : Value) (s1 t1 : List Int) (d : Int) (w : World) (l1 m1 : Nat) (h1 : Ints w l1 u1 s1) (k1 : Ints w m1 v1 t1) :
  Calls Try.prog 126 #[.agg #[.int .i64 b1, u1, v1], .int .i64 d] w (PVB w (flipV b1 s1 t1 d)) := by
 have hlen1 := ints_len h1
 have hlen2 := ints_len k1
 obtain ⟨a1, cp1, rfl⟩ := h1.form
 obtain ⟨a2, cp2, rfl⟩ := k1.form
 have hsl : ∀ W, Ext w W → Calls Try.prog 124 #[.agg #[.int .i64 b1, .slice a1 s1.length cp1, .slice a2 t1.length cp2], .int .i64 d, .agg #[.int .i64 0, .int .i64 0, .int .i64 (-1), .bool false, .bool false]] W (PVB W (flipV b1 s1 t1 d)) := fun W hW => specSliceDim_c b1 _ _ s1 t1 d 0 0 (-1) false false W l1 m1 (h1.ext hW) (k1.ext hW)
 obtain ⟨x, hr⟩ : ∃ x, flipV b1 s1 t1 d = x := ⟨_, rfl⟩
 rw [hr] at hsl
 obtain ⟨mb, ms, mt, mk⟩ := x
 replace hr := Lib.hid hr
 replace hsl := Lib.hid hsl
 go_enter Try.func126, Try.ntmps126
 go_wp2_with fail
 refine (hsl.out _ qXo).mono ?_
 rintro e w1 ⟨y1, y2, rfl, j1, j2, o1, o2, od, xw1⟩
 have Lw1 : Ext w w1 := Ext.trans qXt xw1
 have Xw1 : Ext w w1 := Lw1
 have va0 : w1.cell? ⟨w.heap.size, 0, none⟩ = some (.int .i64 b1) := xw1.cell qCl
 have va1 : w1.cell? ⟨w.heap.size, 1, none⟩ = some (.slice a1 s1.length cp1) := xw1.cell qCl
 have va2 : w1.cell? ⟨w.heap.size, 2, none⟩ = some (.slice a2 t1.length cp2) := xw1.cell qCl
 have q0 : w1.cell? ⟨w.heap.size + 1, 0, none⟩ = some (.int .i64 0) := xw1.cell qCl
 have q1 : w1.cell? ⟨w.heap.size + 1, 1, none⟩ = some (.slice none 0 0) := xw1.cell qCl
 have q2 : w1.cell? ⟨w.heap.size + 1, 2, none⟩ = some (.slice none 0 0) := xw1.cell qCl
 have f_q0 : w1.frozen? ⟨w.heap.size + 1, 0, none⟩ = false := xw1.frz (by simp <;> omega) qFz
 have f_q1 : w1.frozen? ⟨w.heap.size + 1, 1, none⟩ = false := xw1.frz (by simp <;> omega) qFz
 have f_q2 : w1.frozen? ⟨w.heap.size + 1, 2, none⟩ = false := xw1.frz (by simp <;> omega) qFz
 have z_va : w.heap.size < w1.heap.size := qB va0
 have z_q : w.heap.size + 1 < w1.heap.size := qB q0
 have s_w1 : w.heap.size ≤ w1.heap.size := Xw1.size
 clear xw1
 have hl1 := ints_len j1
 have hl2 := ints_len j2
 clear j1 j2
 replace o1 := o1.lower (show w.heap.size + 2 ≤ _ by first | (simp; done) | (simp; omega) | omega)
 replace o2 := o2.lower (show w.heap.size + 2 ≤ _ by first | (simp; done) | (simp; omega) | omega)
 obtain ⟨p1, n1, r1, rfl⟩ := o1.form
 obtain ⟨p2, n2, r2, rfl⟩ := o2.form
 go_wp2_with fail
 generalize hW1 : (((w1.setCell ⟨w.heap.size + 1, 0, none⟩ (.int .i64 mb)).setCell ⟨w.heap.size + 1, 1, none⟩ (.slice p1 n1 r1)).setCell ⟨w.heap.size + 1, 2, none⟩ (.slice p2 n2 r2)) = w2 at *
 have Kw2 : Chg (w.heap.size + 1) (w.heap.size + 1 + 1) w1 w2 := by subst hW1; exact qCh
 have Xw2 : Ext w w2 := by subst hW1; exact qXt
 replace va0 := Kw2.cell (by omega) va0
 replace va1 := Kw2.cell (by omega) va1
 replace va2 := Kw2.cell (by omega) va2
 replace q0 : w2.cell? ⟨w.heap.size + 1, 0, none⟩ = some (.int .i64 mb) := by subst hW1; go_simp
 replace f_q0 : w2.frozen? ⟨w.heap.size + 1, 0, none⟩ = false := by subst hW1; go_simp
 replace q1 : w2.cell? ⟨w.heap.size + 1, 1, none⟩ = some (.slice p1 n1 r1) := by subst hW1; go_simp
 replace f_q1 : w2.frozen? ⟨w.heap.size + 1, 1, none⟩ = false := by subst hW1; go_simp
 replace q2 : w2.cell? ⟨w.heap.size + 1, 2, none⟩ = some (.slice p2 n2 r2) := by subst hW1; go_simp
 replace f_q2 : w2.frozen? ⟨w.heap.size + 1, 2, none⟩ = false := by subst hW1; go_simp
 replace o1 := o1.chg Kw2 (by omega)
 replace o2 := o2.chg Kw2 (by omega)
 clear Kw2
 have z_va : w.heap.size < w2.heap.size := qB va0
 have z_q : w.heap.size + 1 < w2.heap.size := qB q0
 have s_w2 : w.heap.size ≤ w2.heap.size := Xw2.size
 clear hW1
 refine bodyPost_ret (v := .tuple #[.agg #[.int .i64 mb, .slice p1 n1 r1, .slice p2 n2 r2], .bool mk]) (by simp only [results, Try.results126]; go_simp) rfl ?_
 exact PVB.any (hr.out) (o1.lower (by omega)) (o2.lower (by omega)) od hl1 hl2 Xw2

set_option maxHeartbeats 3200000 in
theorem specPermuteDims_c (b1 : Int) (u1 v1 : Value) (s1 t1 : List Int) (a3 : Value) (ord : List Int) (w : World) (l1 m1 : Nat) (h1 : Ints w l1 u1 s1) (k1 : Ints w m1 v1 t1) (l3 : Nat) (h3 : Ints w l3 a3 ord) :
  Calls Try.prog 127 #[.agg #[.int .i64 b1, u1, v1], a3] w (PVB w (permV b1 s1 t1 ord)) := by
 have hlen1 := ints_len h1
 have hlen2 := ints_len k1
 obtain ⟨a1, cp1, rfl⟩ := h1.form
 obtain ⟨a2, cp2, rfl⟩ := k1.form
 obtain ⟨a4, cp4, rfl⟩ := h3.form
 cases ha : viewB b1 s1 t1
 ·
  have hr : Hid (permV b1 s1 t1 ord = noV) := Lib.hid (by unfold permV; rw [ha]; rfl)
  replace ha := Lib.hid ha
  go_enter Try.func127, Try.ntmps127
  go_wp2_with fail
  refine (validView_c b1 _ _ s1 t1 _ l1 m1 (h1.ext qXt) (k1.ext qXt)).mono ?_
  rintro e w1 ⟨rfl, xw1⟩
  have Lw1 : Ext w w1 := Ext.trans qXt xw1
  have Xw1 : Ext w w1 := Lw1
  have va0 : w1.cell? ⟨w.heap.size, 0, none⟩ = some (.int .i64 b1) := xw1.cell qCl
  have va1 : w1.cell? ⟨w.heap.size, 1, none⟩ = some (.slice a1 s1.length cp1) := xw1.cell qCl
  have va2 : w1.cell? ⟨w.heap.size, 2, none⟩ = some (.slice a2 t1.length cp2) := xw1.cell qCl
  have q0 : w1.cell? ⟨w.heap.size + 1, 0, none⟩ = some (.int .i64 0) := xw1.cell qCl
  have q1 : w1.cell? ⟨w.heap.size + 1, 1, none⟩ = some (.slice none 0 0) := xw1.cell qCl
  have q2 : w1.cell? ⟨w.heap.size + 1, 2, none⟩ = some (.slice none 0 0) := xw1.cell qCl
  have f_q0 : w1.frozen? ⟨w.heap.size + 1, 0, none⟩ = false := xw1.frz (by simp <;> omega) qFz
  have f_q1 : w1.frozen? ⟨w.heap.size + 1, 1, none⟩ = false := xw1.frz (by simp <;> omega) qFz
  have f_q2 : w1.frozen? ⟨w.heap.size + 1, 2, none⟩ = false := xw1.frz (by simp <;> omega) qFz
  have z_va : w.heap.size < w1.heap.size := qB va0
  have z_q : w.heap.size + 1 < w1.heap.size := qB q0
  have s_w1 : w.heap.size ≤ w1.heap.size := Xw1.size
  clear xw1
  rw [ha.out]
  go_wp2_with fail
  refine bodyPost_ret (v := .tuple #[.agg #[.int .i64 0, .slice none 0 0, .slice none 0 0], .bool false]) (by simp only [results, Try.results127]; go_simp) rfl ?_
  exact PVB.no hr.out qXt
 ·
  have ht := (viewB_in ha).2.1
  have j4 := (shapeB_in (viewB_in ha).1).1
  cases hb : orderB ord s1.length
  ·
   have hr : Hid (permV b1 s1 t1 ord = noV) := Lib.hid (by unfold permV; rw [ha, hb]; rfl)
   replace ha := Lib.hid ha
   replace hb := Lib.hid hb
   replace ht := Lib.hid ht
   go_enter Try.func127, Try.ntmps127
   go_wp2_with fail
   refine (validView_c b1 _ _ s1 t1 _ l1 m1 (h1.ext qXt) (k1.ext qXt)).mono ?_
   rintro e w1 ⟨rfl, xw1⟩
   have Lw1 : Ext w w1 := Ext.trans qXt xw1
   have Xw1 : Ext w w1 := Lw1
   have va0 : w1.cell? ⟨w.heap.size, 0, none⟩ = some (.int .i64 b1) := xw1.cell qCl
   have va1 : w1.cell? ⟨w.heap.size, 1, none⟩ = some (.slice a1 s1.length cp1) := xw1.cell qCl
   have va2 : w1.cell? ⟨w.heap.size, 2, none⟩ = some (.slice a2 t1.length cp2) := xw1.cell qCl
   have q0 : w1.cell? ⟨w.heap.size + 1, 0, none⟩ = some (.int .i64 0) := xw1.cell qCl
   have q1 : w1.cell? ⟨w.heap.size + 1, 1, none⟩ = some (.slice none 0 0) := xw1.cell qCl
   have q2 : w1.cell? ⟨w.heap.size + 1, 2, none⟩ = some (.slice none 0 0) := xw1.cell qCl
   have f_q0 : w1.frozen? ⟨w.heap.size + 1, 0, none⟩ = false := xw1.frz (by simp <;> omega) qFz
   have f_q1 : w1.frozen? ⟨w.heap.size + 1, 1, none⟩ = false := xw1.frz (by simp <;> omega) qFz
   have f_q2 : w1.frozen? ⟨w.heap.size + 1, 2, none⟩ = false := xw1.frz (by simp <;> omega) qFz
   have z_va : w.heap.size < w1.heap.size := qB va0
   have z_q : w.heap.size + 1 < w1.heap.size := qB q0
   have s_w1 : w.heap.size ≤ w1.heap.size := Xw1.size
   clear xw1
   rw [ha.out]
   go_wp2_with fail
   refine (validOrder_c ord _ (s1.length : Int) _ l3 (h3.ext (Xw1.trans qXt)) (by omega)).mono ?_
   rintro e w2 ⟨rfl, xw2⟩
   have Lw2 : Ext w1 w2 := Ext.trans qXt xw2
   have Xw2 : Ext w w2 := Xw1.trans Lw2
   replace va0 := Lw2.cell va0
   replace va1 := Lw2.cell va1
   replace va2 := Lw2.cell va2
   replace q0 := Lw2.cell q0
   replace q1 := Lw2.cell q1
   replace q2 := Lw2.cell q2
   replace f_q0 := Lw2.frz z_q f_q0
   replace f_q1 := Lw2.frz z_q f_q1
   replace f_q2 := Lw2.frz z_q f_q2
   have z_va : w.heap.size < w2.heap.size := qB va0
   have z_q : w.heap.size + 1 < w2.heap.size := qB q0
   have s_w2 : w.heap.size ≤ w2.heap.size := Xw2.size
   clear xw2
   rw [hb.out]
   go_wp2_with fail
   refine bodyPost_ret (v := .tuple #[.agg #[.int .i64 0, .slice none 0 0, .slice none 0 0], .bool false]) (by simp only [results, Try.results127]; go_simp) rfl ?_
   exact PVB.no hr.out qXt
  ·
   have hr0 : Hid (permV b1 s1 t1 ord = madeV b1 (takL s1 ord) (takL t1 ord)) := Lib.hid (by unfold permV; rw [ha, hb]; rfl)
   obtain ⟨x, hr⟩ : ∃ x, madeV b1 (takL s1 ord) (takL t1 ord) = x := ⟨_, rfl⟩
   obtain ⟨mb, ms, mt, mk⟩ := x
   replace hr := Lib.hid hr
   have hin : ord.length ≤ 1000 ∧ ∀ x ∈ ord, 0 ≤ x ∧ x < s1.length := by
    unfold orderB at hb
    simp only [Bool.and_eq_true, decide_eq_true_eq, List.all_eq_true, inB] at hb
    exact ⟨by omega, fun x hx => by have := hb.2.1 x hx; omega⟩
   have hper : Hid (∀ W, Ext w W → Calls Try.prog 148 #[.agg #[.int .i64 b1, .slice a1 s1.length cp1, .slice a2 t1.length cp2], .slice a4 ord.length cp4] W (PView W b1 (takL s1 ord) (takL t1 ord))) :=
    Lib.hid (fun W hW => permuted_c b1 _ _ s1 t1 _ ord W l1 m1 (h1.ext hW) (k1.ext hW) l3 (h3.ext hW) hin.2 ht hin.1)
   replace ha := Lib.hid ha
   replace hb := Lib.hid hb
   replace ht := Lib.hid ht
   clear hin
   go_enter Try.func127, Try.ntmps127
   go_wp2_with fail
   refine (validView_c b1 _ _ s1 t1 _ l1 m1 (h1.ext qXt) (k1.ext qXt)).mono ?_
   rintro e w1 ⟨rfl, xw1⟩
   have Lw1 : Ext w w1 := Ext.trans qXt xw1
   have Xw1 : Ext w w1 := Lw1
   have va0 : w1.cell? ⟨w.heap.size, 0, none⟩ = some (.int .i64 b1) := xw1.cell qCl
   have va1 : w1.cell? ⟨w.heap.size, 1, none⟩ = some (.slice a1 s1.length cp1) := xw1.cell qCl
   have va2 : w1.cell? ⟨w.heap.size, 2, none⟩ = some (.slice a2 t1.length cp2) := xw1.cell qCl
   have q0 : w1.cell? ⟨w.heap.size + 1, 0, none⟩ = some (.int .i64 0) := xw1.cell qCl
   have q1 : w1.cell? ⟨w.heap.size + 1, 1, none⟩ = some (.slice none 0 0) := xw1.cell qCl
   have q2 : w1.cell? ⟨w.heap.size + 1, 2, none⟩ = some (.slice none 0 0) := xw1.cell qCl
   have f_q0 : w1.frozen? ⟨w.heap.size + 1, 0, none⟩ = false := xw1.frz (by simp <;> omega) qFz
   have f_q1 : w1.frozen? ⟨w.heap.size + 1, 1, none⟩ = false := xw1.frz (by simp <;> omega) qFz
   have f_q2 : w1.frozen? ⟨w.heap.size + 1, 2, none⟩ = false := xw1.frz (by simp <;> omega) qFz
   have z_va : w.heap.size < w1.heap.size := qB va0
   have z_q : w.heap.size + 1 < w1.heap.size := qB q0
   have s_w1 : w.heap.size ≤ w1.heap.size := Xw1.size
   clear xw1
   rw [ha.out]
   go_wp2_with fail
   refine (validOrder_c ord _ (s1.length : Int) _ l3 (h3.ext (Xw1.trans qXt)) (by omega)).mono ?_
   rintro e w2 ⟨rfl, xw2⟩
   have Lw2 : Ext w1 w2 := Ext.trans qXt xw2
   have Xw2 : Ext w w2 := Xw1.trans Lw2
   replace va0 := Lw2.cell va0
   replace va1 := Lw2.cell va1
   replace va2 := Lw2.cell va2
   replace q0 := Lw2.cell q0
   replace q1 := Lw2.cell q1
   replace q2 := Lw2.cell q2
   replace f_q0 := Lw2.frz z_q f_q0
   replace f_q1 := Lw2.frz z_q f_q1
   replace f_q2 := Lw2.frz z_q f_q2
   have z_va : w.heap.size < w2.heap.size := qB va0
   have z_q : w.heap.size + 1 < w2.heap.size := qB q0
   have s_w2 : w.heap.size ≤ w2.heap.size := Xw2.size
   clear xw2
   rw [hb.out]
   go_wp2_with fail
   refine (hper.out _ (Xw2.trans qXt)).mono ?_
   rintro e w3 ⟨x1, x2, rfl, i1, i2, -, -, -, xw3⟩
   have Lw3 : Ext w2 w3 := Ext.trans qXt xw3
   have Xw3 : Ext w w3 := Xw2.trans Lw3
   replace va0 := Lw3.cell va0
   replace va1 := Lw3.cell va1
   replace va2 := Lw3.cell va2
   replace q0 := Lw3.cell q0
   replace q1 := Lw3.cell q1
   replace q2 := Lw3.cell q2
   replace f_q0 := Lw3.frz z_q f_q0
   replace f_q1 := Lw3.frz z_q f_q1
   replace f_q2 := Lw3.frz z_q f_q2
   have z_va : w.heap.size < w3.heap.size := qB va0
   have z_q : w.heap.size + 1 < w3.heap.size := qB q0
   have s_w3 : w.heap.size ≤ w3.heap.size := Xw3.size
   clear xw3
   have hmd : ∀ (W : World) (l m : Nat), Ints W l x1 (takL s1 ord) → Ints W m x2 (takL t1 ord) → Calls Try.prog 59 #[.agg #[.int .i64 (b1), x1, x2]] W (PVB W (madeV (b1) (takL s1 ord) (takL t1 ord))) := fun W l m i j => made_c _ _ _ _ _ W l m i j
   rw [hr.out] at hmd
   replace hmd := Lib.hid hmd
   go_wp2_with fail
   refine (hmd.out _ _ _ (i1.ext qXt) (i2.ext qXt)).mono ?_
   rintro e w4 ⟨y1, y2, rfl, j1, j2, o1, o2, od, xw4⟩
   have Lw4 : Ext w3 w4 := Ext.trans qXt xw4
   have Xw4 : Ext w w4 := Xw3.trans Lw4
   replace va0 := Lw4.cell va0
   replace va1 := Lw4.cell va1
   replace va2 := Lw4.cell va2
   replace q0 := Lw4.cell q0
   replace q1 := Lw4.cell q1
   replace q2 := Lw4.cell q2
   replace f_q0 := Lw4.frz z_q f_q0
   replace f_q1 := Lw4.frz z_q f_q1
   replace f_q2 := Lw4.frz z_q f_q2
   have z_va : w.heap.size < w4.heap.size := qB va0
   have z_q : w.heap.size + 1 < w4.heap.size := qB q0
   replace i1 := i1.ext Lw4
   replace i2 := i2.ext Lw4
   have s_w4 : w.heap.size ≤ w4.heap.size := Xw4.size
   clear xw4
   have hl1 := ints_len j1
   have hl2 := ints_len j2
   clear j1 j2
   replace o1 := o1.lower (show w.heap.size + 2 ≤ _ by first | (simp; done) | (simp; omega) | omega)
   replace o2 := o2.lower (show w.heap.size + 2 ≤ _ by first | (simp; done) | (simp; omega) | omega)
   obtain ⟨p1, n1, r1, rfl⟩ := o1.form
   obtain ⟨p2, n2, r2, rfl⟩ := o2.form
   clear i1 i2 hmd hper
   go_wp2_with fail
   generalize hW2 : (((w4.setCell ⟨w.heap.size + 1, 0, none⟩ (.int .i64 mb)).setCell ⟨w.heap.size + 1, 1, none⟩ (.slice p1 n1 r1)).setCell ⟨w.heap.size + 1, 2, none⟩ (.slice p2 n2 r2)) = w5 at *
   have Kw5 : Chg (w.heap.size + 1) (w.heap.size + 1 + 1) w4 w5 := by subst hW2; exact qCh
   have Xw5 : Ext w w5 := by subst hW2; exact qXt
   replace va0 := Kw5.cell (by omega) va0
   replace va1 := Kw5.cell (by omega) va1
   replace va2 := Kw5.cell (by omega) va2
   replace q0 : w5.cell? ⟨w.heap.size + 1, 0, none⟩ = some (.int .i64 mb) := by subst hW2; go_simp
   replace f_q0 : w5.frozen? ⟨w.heap.size + 1, 0, none⟩ = false := by subst hW2; go_simp
   replace q1 : w5.cell? ⟨w.heap.size + 1, 1, none⟩ = some (.slice p1 n1 r1) := by subst hW2; go_simp
   replace f_q1 : w5.frozen? ⟨w.heap.size + 1, 1, none⟩ = false := by subst hW2; go_simp
   replace q2 : w5.cell? ⟨w.heap.size + 1, 2, none⟩ = some (.slice p2 n2 r2) := by subst hW2; go_simp
   replace f_q2 : w5.frozen? ⟨w.heap.size + 1, 2, none⟩ = false := by subst hW2; go_simp
   replace o1 := o1.chg Kw5 (by omega)
   replace o2 := o2.chg Kw5 (by omega)
   clear Kw5
   have z_va : w.heap.size < w5.heap.size := qB va0
   have z_q : w.heap.size + 1 < w5.heap.size := qB q0
   have s_w5 : w.heap.size ≤ w5.heap.size := Xw5.size
   clear hW2
   refine bodyPost_ret (v := .tuple #[.agg #[.int .i64 mb, .slice p1 n1 r1, .slice p2 n2 r2], .bool mk]) (by simp only [results, Try.results127]; go_simp) rfl ?_
   exact PVB.any (hr0.out.trans hr.out) (o1.lower (by omega)) (o2.lower (by omega)) od hl1 hl2 Xw5

set_option maxHeartbeats 3200000 in
theorem specAddDim_c (b1 : Int) (u1 v1 : Value) (s1 t1 : List Int) (d : Int) (w : World) (l1 m1 : Nat) (h1 : Ints w l1 u1 s1) (k1 : Ints w m1 v1 t1) :
  Calls Try.prog 131 #[.agg #[.int .i64 b1, u1, v1], .int .i64 d] w (PVB w (addV b1 s1 t1 d)) := by
 have hlen1 := ints_len h1
 have hlen2 := ints_len k1
 obtain ⟨a1, cp1, rfl⟩ := h1.form
 obtain ⟨a2, cp2, rfl⟩ := k1.form
 cases ha : viewB b1 s1 t1
 ·
  have hr : Hid (addV b1 s1 t1 d = noV) := Lib.hid (by unfold addV; rw [ha]; rfl)
  replace ha := Lib.hid ha
  go_enter Try.func131, Try.ntmps131
  go_wp2_with fail
  refine (validView_c b1 _ _ s1 t1 _ l1 m1 (h1.ext qXt) (k1.ext qXt)).mono ?_
  rintro e w1 ⟨rfl, xw1⟩
  have Lw1 : Ext w w1 := Ext.trans qXt xw1
  have Xw1 : Ext w w1 := Lw1
  have va0 : w1.cell? ⟨w.heap.size, 0, none⟩ = some (.int .i64 b1) := xw1.cell qCl
  have va1 : w1.cell? ⟨w.heap.size, 1, none⟩ = some (.slice a1 s1.length cp1) := xw1.cell qCl
  have va2 : w1.cell? ⟨w.heap.size, 2, none⟩ = some (.slice a2 t1.length cp2) := xw1.cell qCl
  have q0 : w1.cell? ⟨w.heap.size + 1, 0, none⟩ = some (.int .i64 0) := xw1.cell qCl
  have q1 : w1.cell? ⟨w.heap.size + 1, 1, none⟩ = some (.slice none 0 0) := xw1.cell qCl
  have q2 : w1.cell? ⟨w.heap.size + 1, 2, none⟩ = some (.slice none 0 0) := xw1.cell qCl
  have f_q0 : w1.frozen? ⟨w.heap.size + 1, 0, none⟩ = false := xw1.frz (by simp <;> omega) qFz
  have f_q1 : w1.frozen? ⟨w.heap.size + 1, 1, none⟩ = false := xw1.frz (by simp <;> omega) qFz
  have f_q2 : w1.frozen? ⟨w.heap.size + 1, 2, none⟩ = false := xw1.frz (by simp <;> omega) qFz
  have z_va : w.heap.size < w1.heap.size := qB va0
  have z_q : w.heap.size + 1 < w1.heap.size := qB q0
  have s_w1 : w.heap.size ≤ w1.heap.size := Xw1.size
  clear xw1
  rw [ha.out]
  go_wp2_with fail
  refine bodyPost_ret (v := .tuple #[.agg #[.int .i64 0, .slice none 0 0, .slice none 0 0], .bool false]) (by simp only [results, Try.results131]; go_simp) rfl ?_
  exact PVB.no hr.out qXt
 ·
  have ht := Lib.hid (viewB_in ha).2.1
  have j4 := (shapeB_in (viewB_in ha).1).1
  cases hb : inB 0 s1.length d
  ·
   have hr : Hid (addV b1 s1 t1 d = noV) := Lib.hid (by unfold addV; rw [ha, hb]; rfl)
   replace ha := Lib.hid ha
   replace hb := Lib.hid hb
   go_enter Try.func131, Try.ntmps131
   go_wp2_with fail
   refine (validView_c b1 _ _ s1 t1 _ l1 m1 (h1.ext qXt) (k1.ext qXt)).mono ?_
   rintro e w1 ⟨rfl, xw1⟩
   have Lw1 : Ext w w1 := Ext.trans qXt xw1
   have Xw1 : Ext w w1 := Lw1
   have va0 : w1.cell? ⟨w.heap.size, 0, none⟩ = some (.int .i64 b1) := xw1.cell qCl
   have va1 : w1.cell? ⟨w.heap.size, 1, none⟩ = some (.slice a1 s1.length cp1) := xw1.cell qCl
   have va2 : w1.cell? ⟨w.heap.size, 2, none⟩ = some (.slice a2 t1.length cp2) := xw1.cell qCl
   have q0 : w1.cell? ⟨w.heap.size + 1, 0, none⟩ = some (.int .i64 0) := xw1.cell qCl
   have q1 : w1.cell? ⟨w.heap.size + 1, 1, none⟩ = some (.slice none 0 0) := xw1.cell qCl
   have q2 : w1.cell? ⟨w.heap.size + 1, 2, none⟩ = some (.slice none 0 0) := xw1.cell qCl
   have f_q0 : w1.frozen? ⟨w.heap.size + 1, 0, none⟩ = false := xw1.frz (by simp <;> omega) qFz
   have f_q1 : w1.frozen? ⟨w.heap.size + 1, 1, none⟩ = false := xw1.frz (by simp <;> omega) qFz
   have f_q2 : w1.frozen? ⟨w.heap.size + 1, 2, none⟩ = false := xw1.frz (by simp <;> omega) qFz
   have z_va : w.heap.size < w1.heap.size := qB va0
   have z_q : w.heap.size + 1 < w1.heap.size := qB q0
   have s_w1 : w.heap.size ≤ w1.heap.size := Xw1.size
   clear xw1
   rw [ha.out]
   go_wp2_with fail
   refine (inRange_c d 0 (s1.length : Int) _).mono ?_
   rintro e w' ⟨rfl, rfl⟩
   rw [hb.out]
   go_wp2_with fail
   refine bodyPost_ret (v := .tuple #[.agg #[.int .i64 0, .slice none 0 0, .slice none 0 0], .bool false]) (by simp only [results, Try.results131]; go_simp) rfl ?_
   exact PVB.no hr.out qXt
  ·
   by_cases h4 : s1.length = 4
   ·
    have hr : Hid (addV b1 s1 t1 d = noV) := Lib.hid (by unfold addV; rw [ha, hb, h4]; rfl)
    have h5 : ((s1.length : Int) == 4) = true := by simp; omega
    replace ha := Lib.hid ha
    replace hb := Lib.hid hb
    clear h4
    go_enter Try.func131, Try.ntmps131
    go_wp2_with fail
    refine (validView_c b1 _ _ s1 t1 _ l1 m1 (h1.ext qXt) (k1.ext qXt)).mono ?_
    rintro e w1 ⟨rfl, xw1⟩
    have Lw1 : Ext w w1 := Ext.trans qXt xw1
    have Xw1 : Ext w w1 := Lw1
    have va0 : w1.cell? ⟨w.heap.size, 0, none⟩ = some (.int .i64 b1) := xw1.cell qCl
    have va1 : w1.cell? ⟨w.heap.size, 1, none⟩ = some (.slice a1 s1.length cp1) := xw1.cell qCl
    have va2 : w1.cell? ⟨w.heap.size, 2, none⟩ = some (.slice a2 t1.length cp2) := xw1.cell qCl
    have q0 : w1.cell? ⟨w.heap.size + 1, 0, none⟩ = some (.int .i64 0) := xw1.cell qCl
    have q1 : w1.cell? ⟨w.heap.size + 1, 1, none⟩ = some (.slice none 0 0) := xw1.cell qCl
    have q2 : w1.cell? ⟨w.heap.size + 1, 2, none⟩ = some (.slice none 0 0) := xw1.cell qCl
    have f_q0 : w1.frozen? ⟨w.heap.size + 1, 0, none⟩ = false := xw1.frz (by simp <;> omega) qFz
    have f_q1 : w1.frozen? ⟨w.heap.size + 1, 1, none⟩ = false := xw1.frz (by simp <;> omega) qFz
    have f_q2 : w1.frozen? ⟨w.heap.size + 1, 2, none⟩ = false := xw1.frz (by simp <;> omega) qFz
    have z_va : w.heap.size < w1.heap.size := qB va0
    have z_q : w.heap.size + 1 < w1.heap.size := qB q0
    have s_w1 : w.heap.size ≤ w1.heap.size := Xw1.size
    clear xw1
    rw [ha.out]
    go_wp2_with fail
    refine (inRange_c d 0 (s1.length : Int) _).mono ?_
    rintro e w' ⟨rfl, rfl⟩
    rw [hb.out]
    go_wp2_with fail
    refine bodyPost_ret (v := .tuple #[.agg #[.int .i64 0, .slice none 0 0, .slice none 0 0], .bool false]) (by simp only [results, Try.results131]; go_simp) rfl ?_
    exact PVB.no hr.out qXt
   ·
    have h5 : ((s1.length : Int) == 4) = false := by simp; omega
    have hd : 0 ≤ d ∧ d ≤ s1.length := by simp [inB] at hb; omega
    obtain ⟨n, rfl⟩ : ∃ n : Nat, d = n := ⟨d.toNat, by omega⟩
    have hr0 : Hid (addV b1 s1 t1 n = madeV b1 (s1.take n ++ [1] ++ s1.drop n) (t1.take n ++ [0] ++ t1.drop n)) := Lib.hid (by unfold addV; rw [ha, hb, h5]; rfl)
    obtain ⟨x, hr⟩ : ∃ x, madeV b1 (s1.take n ++ [1] ++ s1.drop n) (t1.take n ++ [0] ++ t1.drop n) = x := ⟨_, rfl⟩
    obtain ⟨mb, ms, mt, mk⟩ := x
    have hmd : ∀ (W : World) (x1 x2 : Value) (l m : Nat), Ints W l x1 (s1.take n ++ [1] ++ s1.drop n) → Ints W m x2 (t1.take n ++ [0] ++ t1.drop n) → Calls Try.prog 59 #[.agg #[.int .i64 b1, x1, x2]] W (PVB W (madeV b1 (s1.take n ++ [1] ++ s1.drop n) (t1.take n ++ [0] ++ t1.drop n))) := fun W x1 x2 l m i j => made_c _ _ _ _ _ W l m i j
    rw [hr] at hmd
    replace hmd := Lib.hid hmd
    replace hr := Lib.hid hr
    replace ha := Lib.hid ha
    replace hb := Lib.hid hb
    have h4' : s1.length ≤ 3 := by omega
    clear h4
    go_enter Try.func131, Try.ntmps131
    go_wp2_with fail
    refine (validView_c b1 _ _ s1 t1 _ l1 m1 (h1.ext qXt) (k1.ext qXt)).mono ?_
    rintro e w1 ⟨rfl, xw1⟩
    have Lw1 : Ext w w1 := Ext.trans qXt xw1
    have Xw1 : Ext w w1 := Lw1
    have va0 : w1.cell? ⟨w.heap.size, 0, none⟩ = some (.int .i64 b1) := xw1.cell qCl
    have va1 : w1.cell? ⟨w.heap.size, 1, none⟩ = some (.slice a1 s1.length cp1) := xw1.cell qCl
    have va2 : w1.cell? ⟨w.heap.size, 2, none⟩ = some (.slice a2 t1.length cp2) := xw1.cell qCl
    have q0 : w1.cell? ⟨w.heap.size + 1, 0, none⟩ = some (.int .i64 0) := xw1.cell qCl
    have q1 : w1.cell? ⟨w.heap.size + 1, 1, none⟩ = some (.slice none 0 0) := xw1.cell qCl
    have q2 : w1.cell? ⟨w.heap.size + 1, 2, none⟩ = some (.slice none 0 0) := xw1.cell qCl
    have f_q0 : w1.frozen? ⟨w.heap.size + 1, 0, none⟩ = false := xw1.frz (by simp <;> omega) qFz
    have f_q1 : w1.frozen? ⟨w.heap.size + 1, 1, none⟩ = false := xw1.frz (by simp <;> omega) qFz
    have f_q2 : w1.frozen? ⟨w.heap.size + 1, 2, none⟩ = false := xw1.frz (by simp <;> omega) qFz
    have z_va : w.heap.size < w1.heap.size := qB va0
    have z_q : w.heap.size + 1 < w1.heap.size := qB q0
    have s_w1 : w.heap.size ≤ w1.heap.size := Xw1.size
    clear xw1
    rw [ha.out]
    go_wp2_with fail
    refine (inRange_c n 0 (s1.length : Int) _).mono ?_
    rintro e w' ⟨rfl, rfl⟩
    rw [hb.out]
    go_wp2_with fail
    refine wp_region_tail (S := fun w' => w'.cell? ⟨w.heap.size, 0, none⟩ = some (.int .i64 b1) ∧ w'.cell? ⟨w.heap.size, 1, none⟩ = some (.slice a1 s1.length cp1) ∧ w'.cell? ⟨w.heap.size, 2, none⟩ = some (.slice a2 t1.length cp2)) (fun i => decide (14 ≤ i)) qKr ⟨va0, va1, va2⟩ (fun hHeld => ?_)
    refine qTk (v := ?_) 0 rfl (.inl ⟨by rfl, ?_⟩) ?_
    rotate_left
    ·
     (intro w hSw; (try dsimp only at hSw); go_simp; try with_reducible rfl)
    try simp only [Act.put, qa, qb, qc, qD, qE, qF]
    refine qTk (v := ?_) 1 rfl (.inl ⟨by rfl, ?_⟩) ?_
    rotate_left
    ·
     (intro w hSw; (try dsimp only at hSw); go_simp; try with_reducible rfl)
    try simp only [Act.put, qa, qb, qc, qD, qE, qF]
    refine qTk (v := ?_) 2 rfl (.inl ⟨by rfl, ?_⟩) ?_
    rotate_left
    ·
     (intro w hSw; (try dsimp only at hSw); go_simp; try with_reducible rfl)
    try simp only [Act.put, qa, qb, qc, qD, qE, qF]
    refine qTk (v := ?_) 3 rfl (.inl ⟨by rfl, ?_⟩) ?_
    rotate_left
    ·
     (intro w hSw; (try dsimp only at hSw); go_simp; try with_reducible rfl)
    try simp only [Act.put, qa, qb, qc, qD, qE, qF]
    refine qTk (v := ?_) 4 rfl (.inl ⟨by rfl, ?_⟩) ?_
    rotate_left
    ·
     (intro w hSw; (try dsimp only at hSw); go_simp; try with_reducible rfl)
    try simp only [Act.put, qa, qb, qc, qD, qE, qF]
    refine qTk (v := ?_) 6 rfl (.inl ⟨by rfl, ?_⟩) ?_
    rotate_left
    ·
     (intro w hSw; (try dsimp only at hSw); go_simp; try with_reducible rfl)
    try simp only [Act.put, qa, qb, qc, qD, qE, qF]
    refine qTk (v := ?_) 7 rfl (.inl ⟨by rfl, ?_⟩) ?_
    rotate_left
    ·
     (intro w hSw; (try dsimp only at hSw); go_simp; try with_reducible rfl)
    try simp only [Act.put, qa, qb, qc, qD, qE, qF]
    refine qTk (v := ?_) 8 rfl (.inl ⟨by rfl, ?_⟩) ?_
    rotate_left
    ·
     (intro w hSw; (try dsimp only at hSw); go_simp; try with_reducible rfl)
    try simp only [Act.put, qa, qb, qc, qD, qE, qF]
    refine wpTail_one (i := 5) qKr rfl rfl (fun K hK => ?_)
    try simp only [Act.put, qa, qb, qc, qD, qE, qF]
    go_simp
    refine (insert_c s1 _ n 1 _ l1 (h1.ext (Xw1.trans qXt)) (by omega) (by omega)).mono ?_
    rintro e w2 ⟨x1, rfl, i1, -, xw2⟩
    have Lw2 : Ext w1 w2 := Ext.trans qXt xw2
    have Xw2 : Ext w w2 := Xw1.trans Lw2
    replace va0 := Lw2.cell va0
    replace va1 := Lw2.cell va1
    replace va2 := Lw2.cell va2
    replace q0 := Lw2.cell q0
    replace q1 := Lw2.cell q1
    replace q2 := Lw2.cell q2
    replace f_q0 := Lw2.frz z_q f_q0
    replace f_q1 := Lw2.frz z_q f_q1
    replace f_q2 := Lw2.frz z_q f_q2
    have z_va : w.heap.size < w2.heap.size := qB va0
    have z_q : w.heap.size + 1 < w2.heap.size := qB q0
    have s_w2 : w.heap.size ≤ w2.heap.size := Xw2.size
    clear xw2
    obtain ⟨xa1, xn1, xc1, rfl⟩ := i1.any
    refine hK.out _ _ ⟨va0, va1, va2⟩ (fun hHeld => ?_)
    clear hK K
    try simp only [Act.put, qa, qb, qc, qD, qE, qF]
    refine wpTail_one (i := 9) qKr rfl rfl (fun K hK => ?_)
    try simp only [Act.put, qa, qb, qc, qD, qE, qF]
    go_simp
    refine (insert_c t1 _ n 0 _ m1 (k1.ext (Xw1.trans qXt)) (by have := ht.out; omega) (by have := ht.out; omega)).mono ?_
    rintro e w3 ⟨x2, rfl, i2, -, xw3⟩
    have Lw3 : Ext w2 w3 := Ext.trans qXt xw3
    have Xw3 : Ext w w3 := Xw2.trans Lw3
    replace va0 := Lw3.cell va0
    replace va1 := Lw3.cell va1
    replace va2 := Lw3.cell va2
    replace q0 := Lw3.cell q0
    replace q1 := Lw3.cell q1
    replace q2 := Lw3.cell q2
    replace f_q0 := Lw3.frz z_q f_q0
    replace f_q1 := Lw3.frz z_q f_q1
    replace f_q2 := Lw3.frz z_q f_q2
    have z_va : w.heap.size < w3.heap.size := qB va0
    have z_q : w.heap.size + 1 < w3.heap.size := qB q0
    replace i1 := i1.ext Lw3
    have s_w3 : w.heap.size ≤ w3.heap.size := Xw3.size
    clear xw3
    obtain ⟨xa2, xn2, xc2, rfl⟩ := i2.any
    refine hK.out _ _ ⟨va0, va1, va2⟩ (fun hHeld => ?_)
    clear hK K
    try simp only [Act.put, qa, qb, qc, qD, qE, qF]
    refine qTk (v := ?_) 10 rfl (.inl ⟨by rfl, ?_⟩) ?_
    rotate_left
    ·
     (intro w hSw; (try dsimp only at hSw); go_simp; try with_reducible rfl)
    try simp only [Act.put, qa, qb, qc, qD, qE, qF]
    refine wpTail_one (i := 11) qKr rfl rfl (fun K hK => ?_)
    try simp only [Act.put, qa, qb, qc, qD, qE, qF]
    go_simp
    refine (hmd.out _ _ _ _ _ i1 i2).mono ?_
    rintro e w4 ⟨y1, y2, rfl, j1, j2, o1, o2, od, xw4⟩
    have Lw4 : Ext w3 w4 := Ext.trans qXt xw4
    have Xw4 : Ext w w4 := Xw3.trans Lw4
    replace va0 := Lw4.cell va0
    replace va1 := Lw4.cell va1
    replace va2 := Lw4.cell va2
    replace q0 := Lw4.cell q0
    replace q1 := Lw4.cell q1
    replace q2 := Lw4.cell q2
    replace f_q0 := Lw4.frz z_q f_q0
    replace f_q1 := Lw4.frz z_q f_q1
    replace f_q2 := Lw4.frz z_q f_q2
    have z_va : w.heap.size < w4.heap.size := qB va0
    have z_q : w.heap.size + 1 < w4.heap.size := qB q0
    replace i1 := i1.ext Lw4
    replace i2 := i2.ext Lw4
    have s_w4 : w.heap.size ≤ w4.heap.size := Xw4.size
    clear xw4
    have hl1 := ints_len j1
    have hl2 := ints_len j2
    clear j1 j2
    replace o1 := o1.lower (show w.heap.size + 2 ≤ _ by omega)
    replace o2 := o2.lower (show w.heap.size + 2 ≤ _ by omega)
    obtain ⟨p1, n1, r1, rfl⟩ := o1.form
    obtain ⟨p2, n2, r2, rfl⟩ := o2.form
    clear i1 i2
    refine hK.out _ _ ⟨va0, va1, va2⟩ (fun hHeld => ?_)
    clear hK K
    try simp only [Act.put, qa, qb, qc, qD, qE, qF]
    refine qTk (v := ?_) 12 rfl (.inl ⟨by rfl, ?_⟩) ?_
    rotate_left
    ·
     (intro w hSw; (try dsimp only at hSw); go_simp; try with_reducible rfl)
    try simp only [Act.put, qa, qb, qc, qD, qE, qF]
    refine qTk (v := ?_) 13 rfl (.inl ⟨by rfl, ?_⟩) ?_
    rotate_left
    ·
     (intro w hSw; (try dsimp only at hSw); go_simp; try with_reducible rfl)
    try simp only [Act.put, qa, qb, qc, qD, qE, qF]
    refine wpTail_last (i := 14) qKr rfl rfl (fun K hK => ?_)
    try simp only [Act.put, qa, qb, qc, qD, qE, qF]
    go_simp
    refine hK.out _ _ ?_
    clear hK K
    try simp only [Act.put, qa, qb, qc, qD, qE, qF]
    refine wpTail_last (i := 15) qKr rfl rfl (fun K hK => ?_)
    try simp only [Act.put, qa, qb, qc, qD, qE, qF]
    go_simp
    refine hK.out _ _ ?_
    clear hK K
    try simp only [Act.put, qa, qb, qc, qD, qE, qF]
    refine wpTail_done qKr ?_ _
    clear hHeld
    generalize hW3 : (((w4.setCell ⟨w.heap.size + 1, 0, none⟩ (.int .i64 mb)).setCell ⟨w.heap.size + 1, 1, none⟩ (.slice p1 n1 r1)).setCell ⟨w.heap.size + 1, 2, none⟩ (.slice p2 n2 r2)) = w5 at *
    have Kw5 : Chg (w.heap.size + 1) (w.heap.size + 1 + 1) w4 w5 := by subst hW3; exact qCh
    have Xw5 : Ext w w5 := by subst hW3; exact qXt
    replace va0 := Kw5.cell (by omega) va0
    replace va1 := Kw5.cell (by omega) va1
    replace va2 := Kw5.cell (by omega) va2
    replace q0 : w5.cell? ⟨w.heap.size + 1, 0, none⟩ = some (.int .i64 mb) := by subst hW3; go_simp
    replace f_q0 : w5.frozen? ⟨w.heap.size + 1, 0, none⟩ = false := by subst hW3; go_simp
    replace q1 : w5.cell? ⟨w.heap.size + 1, 1, none⟩ = some (.slice p1 n1 r1) := by subst hW3; go_simp
    replace f_q1 : w5.frozen? ⟨w.heap.size + 1, 1, none⟩ = false := by subst hW3; go_simp
    replace q2 : w5.cell? ⟨w.heap.size + 1, 2, none⟩ = some (.slice p2 n2 r2) := by subst hW3; go_simp
    replace f_q2 : w5.frozen? ⟨w.heap.size + 1, 2, none⟩ = false := by subst hW3; go_simp
    replace o1 := o1.chg Kw5 (by omega)
    replace o2 := o2.chg Kw5 (by omega)
    clear Kw5
    have z_va : w.heap.size < w5.heap.size := qB va0
    have z_q : w.heap.size + 1 < w5.heap.size := qB q0
    have s_w5 : w.heap.size ≤ w5.heap.size := Xw5.size
    clear hW3
    go_wp2_with fail
    refine bodyPost_ret (v := .tuple #[.agg #[.int .i64 mb, .slice p1 n1 r1, .slice p2 n2 r2], .bool mk]) (by simp only [results, Try.results131]; go_simp) rfl ?_
    exact PVB.any (hr0.out.trans hr.out) (o1.lower (by omega)) (o2.lower (by omega)) od hl1 hl2 Xw5


end Go.Proofs.Ytpgkhjmboiepcaa

/- Words for walks: an owned row with one element more. No condition. -/
namespace Go.Proofs.Ytpgkhjmboiepcaa
open Go.RowKit
set_option linter.unusedVariables false
set_option maxRecDepth 100000

theorem OwnI.row2 {w : World} {base : Nat} {v : Value} {xs : List Int} (h : OwnI w base v xs) (hn : xs ≠ []) : ∃ g n c, v = .slice (some ⟨g, 0, none⟩) n c ∧ Hid (n = xs.length) ∧ base ≤ g ∧ g < w.heap.size := by
  obtain ⟨g, c, rfl, h1, h2⟩ := h.row hn
  exact ⟨g, _, c, rfl, Lib.hid rfl, h1, h2⟩
theorem chg_grownD {w w' : World} {o : Obj} {g : Nat} (hg : (w.drew.alloc o).grownBy w' (some g)) : Chg g (g + 1) w w' :=
  (Chg.of_ext (Ext.drew (Ext.refl w))).trans (chg_grown hg)
theorem own_or {g n c g0 n0 c0 z : Nat} (h : (Value.slice (some ⟨g, 0, none⟩) n c).ownBlock = (Value.slice (some ⟨g0, 0, none⟩) n0 c0).ownBlock ∨ (Value.slice (some ⟨g, 0, none⟩) n c).ownBlock = some z) : g = g0 ∨ g = z := by
  rcases h with h | h
  · left; have : some g = some g0 := h; cases this; rfl
  · right; have : some g = some z := h; cases this; rfl

end Go.Proofs.Ytpgkhjmboiepcaa

/- Walks: WindowsOf of the reference. -/
namespace Go.Proofs.Ytpgkhjmboiepcaa
open Go.RowKit
set_option linter.unusedVariables false
set_option maxRecDepth 100000

set_option maxHeartbeats 6400000 in
theorem specWindowsOf_c (b1 : Int) (u1 v1 : Value) (s1 t1 : List Int) (d sz : Int) (w : World) (l1 m1 : Nat) (h1 : Ints w l1 u1 s1) (k1 : Ints w m1 v1 t1) (hsz : -1000000 ≤ sz ∧ sz ≤ 1000000) :
  Calls Try.prog 130 #[.agg #[.int .i64 b1, u1, v1], .int .i64 d, .int .i64 sz] w (PVB w (winV b1 s1 t1 d sz)) := by
 have hlen1 := ints_len h1
 have hlen2 := ints_len k1
 obtain ⟨a1, cp1, rfl⟩ := h1.form
 obtain ⟨a2, cp2, rfl⟩ := k1.form
 cases ha : viewB b1 s1 t1
 ·
  have hr : Hid (winV b1 s1 t1 d sz = noV) := Lib.hid (by unfold winV; rw [ha]; rfl)
  replace ha := Lib.hid ha
  go_enter Try.func130, Try.ntmps130
  go_wp2_with fail
  refine (validView_c b1 _ _ s1 t1 _ l1 m1 (h1.ext qXt) (k1.ext qXt)).mono ?_
  rintro e w1 ⟨rfl, xw1⟩
  have Lw1 : Ext w w1 := Ext.trans qXt xw1
  have Xw1 : Ext w w1 := Lw1
  have va0 : w1.cell? ⟨w.heap.size, 0, none⟩ = some (.int .i64 b1) := xw1.cell qCl
  have va1 : w1.cell? ⟨w.heap.size, 1, none⟩ = some (.slice a1 s1.length cp1) := xw1.cell qCl
  have va2 : w1.cell? ⟨w.heap.size, 2, none⟩ = some (.slice a2 t1.length cp2) := xw1.cell qCl
  have q0 : w1.cell? ⟨w.heap.size + 1, 0, none⟩ = some (.int .i64 0) := xw1.cell qCl
  have q1 : w1.cell? ⟨w.heap.size + 1, 1, none⟩ = some (.slice none 0 0) := xw1.cell qCl
  have q2 : w1.cell? ⟨w.heap.size + 1, 2, none⟩ = some (.slice none 0 0) := xw1.cell qCl
  have f_q0 : w1.frozen? ⟨w.heap.size + 1, 0, none⟩ = false := xw1.frz (by simp <;> omega) qFz
  have f_q1 : w1.frozen? ⟨w.heap.size + 1, 1, none⟩ = false := xw1.frz (by simp <;> omega) qFz
  have f_q2 : w1.frozen? ⟨w.heap.size + 1, 2, none⟩ = false := xw1.frz (by simp <;> omega) qFz
  have z_va : w.heap.size < w1.heap.size := qB va0
  have z_q : w.heap.size + 1 < w1.heap.size := qB q0
  have s_w1 : w.heap.size ≤ w1.heap.size := Xw1.size
  clear xw1
  rw [ha.out]
  go_wp2_with fail
  refine bodyPost_ret (v := .tuple #[.agg #[.int .i64 0, .slice none 0 0, .slice none 0 0], .bool false]) (by simp only [results, Try.results130]; go_simp) rfl ?_
  exact PVB.no hr.out qXt
 ·
  have ht := (viewB_in ha).2.1
  have j4 := (shapeB_in (viewB_in ha).1).1
  have ht4 : t1.length ≤ 4 := by omega
  have j5 := Lib.hid (shapeB_in (viewB_in ha).1).2.1
  cases hb : inB 0 ((s1.length : Int) - 1) d
  ·
   have hr : Hid (winV b1 s1 t1 d sz = noV) := Lib.hid (by unfold winV; rw [ha, hb]; rfl)
   replace ha := Lib.hid ha
   replace hb := Lib.hid hb
   replace ht := Lib.hid ht
   go_enter Try.func130, Try.ntmps130
   go_wp2_with fail
   refine (validView_c b1 _ _ s1 t1 _ l1 m1 (h1.ext qXt) (k1.ext qXt)).mono ?_
   rintro e w1 ⟨rfl, xw1⟩
   have Lw1 : Ext w w1 := Ext.trans qXt xw1
   have Xw1 : Ext w w1 := Lw1
   have va0 : w1.cell? ⟨w.heap.size, 0, none⟩ = some (.int .i64 b1) := xw1.cell qCl
   have va1 : w1.cell? ⟨w.heap.size, 1, none⟩ = some (.slice a1 s1.length cp1) := xw1.cell qCl
   have va2 : w1.cell? ⟨w.heap.size, 2, none⟩ = some (.slice a2 t1.length cp2) := xw1.cell qCl
   have q0 : w1.cell? ⟨w.heap.size + 1, 0, none⟩ = some (.int .i64 0) := xw1.cell qCl
   have q1 : w1.cell? ⟨w.heap.size + 1, 1, none⟩ = some (.slice none 0 0) := xw1.cell qCl
   have q2 : w1.cell? ⟨w.heap.size + 1, 2, none⟩ = some (.slice none 0 0) := xw1.cell qCl
   have f_q0 : w1.frozen? ⟨w.heap.size + 1, 0, none⟩ = false := xw1.frz (by simp <;> omega) qFz
   have f_q1 : w1.frozen? ⟨w.heap.size + 1, 1, none⟩ = false := xw1.frz (by simp <;> omega) qFz
   have f_q2 : w1.frozen? ⟨w.heap.size + 1, 2, none⟩ = false := xw1.frz (by simp <;> omega) qFz
   have z_va : w.heap.size < w1.heap.size := qB va0
   have z_q : w.heap.size + 1 < w1.heap.size := qB q0
   have s_w1 : w.heap.size ≤ w1.heap.size := Xw1.size
   clear xw1
   rw [ha.out]
   go_wp2_with fail
   refine (isDim_c b1 _ _ s1 t1 d _ l1 m1 (h1.ext (Xw1.trans qXt)) (k1.ext (Xw1.trans qXt)) (by omega)).mono ?_
   rintro e w2 ⟨rfl, xw2⟩
   have Lw2 : Ext w1 w2 := Ext.trans qXt xw2
   have Xw2 : Ext w w2 := Xw1.trans Lw2
   replace va0 := Lw2.cell va0
   replace va1 := Lw2.cell va1
   replace va2 := Lw2.cell va2
   replace q0 := Lw2.cell q0
   replace q1 := Lw2.cell q1
   replace q2 := Lw2.cell q2
   replace f_q0 := Lw2.frz z_q f_q0
   replace f_q1 := Lw2.frz z_q f_q1
   replace f_q2 := Lw2.frz z_q f_q2
   have z_va : w.heap.size < w2.heap.size := qB va0
   have z_q : w.heap.size + 1 < w2.heap.size := qB q0
   have s_w2 : w.heap.size ≤ w2.heap.size := Xw2.size
   clear xw2
   rw [hb.out]
   go_wp2_with fail
   refine bodyPost_ret (v := .tuple #[.agg #[.int .i64 0, .slice none 0 0, .slice none 0 0], .bool false]) (by simp only [results, Try.results130]; go_simp) rfl ?_
   exact PVB.no hr.out qXt
  ·
   have hd : 0 ≤ d ∧ d < s1.length := by simp [inB] at hb; omega
   obtain ⟨n, rfl⟩ : ∃ n : Nat, d = n := ⟨d.toNat, by omega⟩
   have hd1 : n < s1.length := by omega
   have hd2 : n < t1.length := by omega
   have hI1 : (n : Int) < s1.length := by omega
   have hI2 : (n : Int) < t1.length := by omega
   have he := j5.out _ (getD_mem hd1)
   have hne1 : s1 ≠ [] := fun h => by rw [h] at hd1; simp at hd1
   have hne2 : t1 ≠ [] := fun h => by rw [h] at hd2; simp at hd2
   cases hc : inB 1 (s1.getD n 0) sz
   ·
    have hr : Hid (winV b1 s1 t1 n sz = noV) := Lib.hid (by unfold winV; rw [ha, hb, Int.toNat_natCast, hc]; rfl)
    replace ha := Lib.hid ha
    replace hb := Lib.hid hb
    replace hc := Lib.hid hc
    replace ht := Lib.hid ht
    obtain ⟨bs, os, rfl, ea0⟩ := h1.at n hd1
    have y_ea : bs < w.heap.size := qB ea0
    have z_ea := y_ea
    generalize hge : s1.getD n 0 = e at *
    replace hge := Lib.hid hge
    go_enter Try.func130, Try.ntmps130
    go_wp2_with fail
    refine (validView_c b1 _ _ s1 t1 _ l1 m1 (h1.ext qXt) (k1.ext qXt)).mono ?_
    rintro e w1 ⟨rfl, xw1⟩
    have Lw1 : Ext w w1 := Ext.trans qXt xw1
    have Xw1 : Ext w w1 := Lw1
    replace ea0 := Lw1.cell ea0
    have va0 : w1.cell? ⟨w.heap.size, 0, none⟩ = some (.int .i64 b1) := xw1.cell qCl
    have va1 : w1.cell? ⟨w.heap.size, 1, none⟩ = some (.slice (some ⟨bs, os, none⟩) s1.length cp1) := xw1.cell qCl
    have va2 : w1.cell? ⟨w.heap.size, 2, none⟩ = some (.slice a2 t1.length cp2) := xw1.cell qCl
    have q0 : w1.cell? ⟨w.heap.size + 1, 0, none⟩ = some (.int .i64 0) := xw1.cell qCl
    have q1 : w1.cell? ⟨w.heap.size + 1, 1, none⟩ = some (.slice none 0 0) := xw1.cell qCl
    have q2 : w1.cell? ⟨w.heap.size + 1, 2, none⟩ = some (.slice none 0 0) := xw1.cell qCl
    have f_q0 : w1.frozen? ⟨w.heap.size + 1, 0, none⟩ = false := xw1.frz (by simp <;> omega) qFz
    have f_q1 : w1.frozen? ⟨w.heap.size + 1, 1, none⟩ = false := xw1.frz (by simp <;> omega) qFz
    have f_q2 : w1.frozen? ⟨w.heap.size + 1, 2, none⟩ = false := xw1.frz (by simp <;> omega) qFz
    have z_ea : bs < w1.heap.size := qB ea0
    have z_va : w.heap.size < w1.heap.size := qB va0
    have z_q : w.heap.size + 1 < w1.heap.size := qB q0
    have s_w1 : w.heap.size ≤ w1.heap.size := Xw1.size
    clear xw1
    rw [ha.out]
    go_wp2_with fail
    refine (isDim_c b1 _ _ s1 t1 n _ l1 m1 (h1.ext (Xw1.trans qXt)) (k1.ext (Xw1.trans qXt)) (by omega)).mono ?_
    rintro e w2 ⟨rfl, xw2⟩
    have Lw2 : Ext w1 w2 := Ext.trans qXt xw2
    have Xw2 : Ext w w2 := Xw1.trans Lw2
    replace ea0 := Lw2.cell ea0
    replace va0 := Lw2.cell va0
    replace va1 := Lw2.cell va1
    replace va2 := Lw2.cell va2
    replace q0 := Lw2.cell q0
    replace q1 := Lw2.cell q1
    replace q2 := Lw2.cell q2
    replace f_q0 := Lw2.frz z_q f_q0
    replace f_q1 := Lw2.frz z_q f_q1
    replace f_q2 := Lw2.frz z_q f_q2
    have z_ea : bs < w2.heap.size := qB ea0
    have z_va : w.heap.size < w2.heap.size := qB va0
    have z_q : w.heap.size + 1 < w2.heap.size := qB q0
    have s_w2 : w.heap.size ≤ w2.heap.size := Xw2.size
    clear xw2
    rw [hb.out]
    go_wp2_with fail
    refine (inRange_c sz 1 e _).mono ?_
    rintro e w' ⟨rfl, rfl⟩
    rw [hc.out]
    go_wp2_with fail
    refine bodyPost_ret (v := .tuple #[.agg #[.int .i64 0, .slice none 0 0, .slice none 0 0], .bool false]) (by simp only [results, Try.results130]; go_simp) rfl ?_
    exact PVB.no hr.out qXt
   ·
    have hr0 : Hid (winV b1 s1 t1 n sz = madeV b1 (s1.set n (s1.getD n 0 - sz + 1) ++ [sz]) (t1 ++ [t1.getD n 0])) := Lib.hid (by unfold winV; rw [ha, hb, Int.toNat_natCast, hc]; rfl)
    obtain ⟨x, hr⟩ : ∃ x, madeV b1 (s1.set n (s1.getD n 0 - sz + 1) ++ [sz]) (t1 ++ [t1.getD n 0]) = x := ⟨_, rfl⟩
    obtain ⟨mb, ms, mt, mk⟩ := x
    have hmd : ∀ (W : World) (x1 x2 : Value) (l m : Nat), Ints W l x1 (s1.set n (s1.getD n 0 - sz + 1) ++ [sz]) → Ints W m x2 (t1 ++ [t1.getD n 0]) → Calls Try.prog 59 #[.agg #[.int .i64 b1, x1, x2]] W (PVB W (madeV b1 (s1.set n (s1.getD n 0 - sz + 1) ++ [sz]) (t1 ++ [t1.getD n 0]))) := fun W x1 x2 l m i j => made_c _ _ _ _ _ W l m i j
    rw [hr] at hmd
    replace hmd := Lib.hid hmd
    replace hr := Lib.hid hr
    have hsz1 : 1 ≤ sz ∧ sz ≤ s1.getD n 0 := by unfold inB at hc; exact of_decide_eq_true hc
    replace ha := Lib.hid ha
    replace hb := Lib.hid hb
    replace hc := Lib.hid hc
    replace ht := Lib.hid ht
    obtain ⟨bs, os, rfl, ea0⟩ := h1.at n hd1
    have y_ea : bs < w.heap.size := qB ea0
    have z_ea := y_ea
    obtain ⟨bt, ot, rfl, eb0⟩ := k1.at n hd2
    have y_eb : bt < w.heap.size := qB eb0
    have z_eb := y_eb
    generalize hge : s1.getD n 0 = e at *
    replace hge := Lib.hid hge
    generalize hgx : t1.getD n 0 = x at *
    replace hgx := Lib.hid hgx
    go_enter Try.func130, Try.ntmps130
    go_wp2_with fail
    refine (validView_c b1 _ _ s1 t1 _ l1 m1 (h1.ext qXt) (k1.ext qXt)).mono ?_
    rintro e w1 ⟨rfl, xw1⟩
    have Lw1 : Ext w w1 := Ext.trans qXt xw1
    have Xw1 : Ext w w1 := Lw1
    replace ea0 := Lw1.cell ea0
    replace eb0 := Lw1.cell eb0
    have va0 : w1.cell? ⟨w.heap.size, 0, none⟩ = some (.int .i64 b1) := xw1.cell qCl
    have va1 : w1.cell? ⟨w.heap.size, 1, none⟩ = some (.slice (some ⟨bs, os, none⟩) s1.length cp1) := xw1.cell qCl
    have va2 : w1.cell? ⟨w.heap.size, 2, none⟩ = some (.slice (some ⟨bt, ot, none⟩) t1.length cp2) := xw1.cell qCl
    have q0 : w1.cell? ⟨w.heap.size + 1, 0, none⟩ = some (.int .i64 0) := xw1.cell qCl
    have q1 : w1.cell? ⟨w.heap.size + 1, 1, none⟩ = some (.slice none 0 0) := xw1.cell qCl
    have q2 : w1.cell? ⟨w.heap.size + 1, 2, none⟩ = some (.slice none 0 0) := xw1.cell qCl
    have f_q0 : w1.frozen? ⟨w.heap.size + 1, 0, none⟩ = false := xw1.frz (by simp <;> omega) qFz
    have f_q1 : w1.frozen? ⟨w.heap.size + 1, 1, none⟩ = false := xw1.frz (by simp <;> omega) qFz
    have f_q2 : w1.frozen? ⟨w.heap.size + 1, 2, none⟩ = false := xw1.frz (by simp <;> omega) qFz
    have z_ea : bs < w1.heap.size := qB ea0
    have z_eb : bt < w1.heap.size := qB eb0
    have z_va : w.heap.size < w1.heap.size := qB va0
    have z_q : w.heap.size + 1 < w1.heap.size := qB q0
    have s_w1 : w.heap.size ≤ w1.heap.size := Xw1.size
    clear xw1
    rw [ha.out]
    go_wp2_with fail
    refine (isDim_c b1 _ _ s1 t1 n _ l1 m1 (h1.ext (Xw1.trans qXt)) (k1.ext (Xw1.trans qXt)) (by omega)).mono ?_
    rintro e w2 ⟨rfl, xw2⟩
    have Lw2 : Ext w1 w2 := Ext.trans qXt xw2
    have Xw2 : Ext w w2 := Xw1.trans Lw2
    replace ea0 := Lw2.cell ea0
    replace eb0 := Lw2.cell eb0
    replace va0 := Lw2.cell va0
    replace va1 := Lw2.cell va1
    replace va2 := Lw2.cell va2
    replace q0 := Lw2.cell q0
    replace q1 := Lw2.cell q1
    replace q2 := Lw2.cell q2
    replace f_q0 := Lw2.frz z_q f_q0
    replace f_q1 := Lw2.frz z_q f_q1
    replace f_q2 := Lw2.frz z_q f_q2
    have z_ea : bs < w2.heap.size := qB ea0
    have z_eb : bt < w2.heap.size := qB eb0
    have z_va : w.heap.size < w2.heap.size := qB va0
    have z_q : w.heap.size + 1 < w2.heap.size := qB q0
    have s_w2 : w.heap.size ≤ w2.heap.size := Xw2.size
    clear xw2
    rw [hb.out]
    go_wp2_with fail
    refine (inRange_c sz 1 e _).mono ?_
    rintro e w' ⟨rfl, rfl⟩
    rw [hc.out]
    go_wp2_with fail
    refine (scopyView_c b1 _ _ s1 t1 _ l1 m1 (h1.ext (Xw2.trans qXt)) (k1.ext (Xw2.trans qXt))).mono ?_
    rintro e w3 ⟨x1, x2, rfl, -, -, o1, o2, od, xw3⟩
    have Lw3 : Ext w2 w3 := Ext.trans qXt xw3
    have Xw3 : Ext w w3 := Xw2.trans Lw3
    replace ea0 := Lw3.cell ea0
    replace eb0 := Lw3.cell eb0
    replace va0 := Lw3.cell va0
    replace va1 := Lw3.cell va1
    replace va2 := Lw3.cell va2
    replace q0 := Lw3.cell q0
    replace q1 := Lw3.cell q1
    replace q2 := Lw3.cell q2
    replace f_q0 := Lw3.frz z_q f_q0
    replace f_q1 := Lw3.frz z_q f_q1
    replace f_q2 := Lw3.frz z_q f_q2
    have z_ea : bs < w3.heap.size := qB ea0
    have z_eb : bt < w3.heap.size := qB eb0
    have z_va : w.heap.size < w3.heap.size := qB va0
    have z_q : w.heap.size + 1 < w3.heap.size := qB q0
    have s_w3 : w.heap.size ≤ w3.heap.size := Xw3.size
    clear xw3
    have O1 := (o1.ofNe hne1).lower (show w.heap.size + 2 ≤ _ by omega)
    have O2 := (o2.ofNe hne2).lower (show w.heap.size + 2 ≤ _ by omega)
    clear o1 o2
    obtain ⟨g1, r1, rfl, G1, G1'⟩ := O1.row hne1
    obtain ⟨g2, r2, rfl, G2, G2'⟩ := O2.row hne2
    have hgg : g1 ≠ g2 := fun h => od hne1 hne2 (by rw [h]; rfl)
    clear od
    go_wp2_with fail
    generalize hW1 : w3.alloc (.cells #[.int .i64 b1, .slice (some ⟨g1, 0, none⟩) s1.length r1, .slice (some ⟨g2, 0, none⟩) t1.length r2] 25) = w4 at *
    have Lw4 : Ext w3 w4 := by subst hW1; exact qXt
    have Xw4 : Ext w w4 := Xw3.trans Lw4
    replace ea0 := Lw4.cell ea0
    replace eb0 := Lw4.cell eb0
    replace va0 := Lw4.cell va0
    replace va1 := Lw4.cell va1
    replace va2 := Lw4.cell va2
    replace q0 := Lw4.cell q0
    replace q1 := Lw4.cell q1
    replace q2 := Lw4.cell q2
    replace f_q0 := Lw4.frz z_q f_q0
    replace f_q1 := Lw4.frz z_q f_q1
    replace f_q2 := Lw4.frz z_q f_q2
    have yo0 : w4.cell? ⟨w3.heap.size, 0, none⟩ = some (.int .i64 b1) := by subst hW1; exact qCl
    have yo1 : w4.cell? ⟨w3.heap.size, 1, none⟩ = some (.slice (some ⟨g1, 0, none⟩) s1.length r1) := by subst hW1; exact qCl
    have yo2 : w4.cell? ⟨w3.heap.size, 2, none⟩ = some (.slice (some ⟨g2, 0, none⟩) t1.length r2) := by subst hW1; exact qCl
    have f_yo0 : w4.frozen? ⟨w3.heap.size, 0, none⟩ = false := by subst hW1; exact qFz
    have f_yo1 : w4.frozen? ⟨w3.heap.size, 1, none⟩ = false := by subst hW1; exact qFz
    have f_yo2 : w4.frozen? ⟨w3.heap.size, 2, none⟩ = false := by subst hW1; exact qFz
    have z_ea : bs < w4.heap.size := qB ea0
    have z_eb : bt < w4.heap.size := qB eb0
    have z_va : w.heap.size < w4.heap.size := qB va0
    have z_q : w.heap.size + 1 < w4.heap.size := qB q0
    have z_yo : w3.heap.size < w4.heap.size := qB yo0
    replace O1 := O1.ext Lw4
    replace O2 := O2.ext Lw4
    have s_w4 : w.heap.size ≤ w4.heap.size := Xw4.size
    clear hW1
    have A1 := O1.cell n hd1
    obtain ⟨A1a, A1b⟩ := A1
    have hw0 : IntKind.i64.wrap (e - sz) = e - sz := IntWalk.i64_in _ (by omega)
    have hw1 : IntKind.i64.wrap (e - sz + 1) = e - sz + 1 := IntWalk.i64_in _ (by omega)
    refine wp_region_tail (S := fun w' => w'.cell? ⟨bs, os + n, none⟩ = some (.int .i64 e) ∧ w'.cell? ⟨w.heap.size, 1, none⟩ = some (.slice (some ⟨bs, os, none⟩) s1.length cp1) ∧ w'.cell? ⟨w3.heap.size, 1, none⟩ = some (.slice (some ⟨g1, 0, none⟩) s1.length r1)) (fun i => decide (12 ≤ i)) qKr ⟨ea0, va1, yo1⟩ (fun hHeld => ?_)
    refine qTk (v := ?_) 0 rfl (.inl ⟨by rfl, ?_⟩) ?_
    rotate_left
    ·
     (intro w hSw; (try dsimp only at hSw); go_simp; try with_reducible rfl)
    try simp only [Act.put, qa, qb, qc, qD, qE, qF]
    refine qTk (v := ?_) 1 rfl (.inl ⟨by rfl, ?_⟩) ?_
    rotate_left
    ·
     (intro w hSw; (try dsimp only at hSw); go_simp; try with_reducible rfl)
    try simp only [Act.put, qa, qb, qc, qD, qE, qF]
    refine qTk (v := ?_) 2 rfl (.inl ⟨by rfl, ?_⟩) ?_
    rotate_left
    ·
     (intro w hSw; (try dsimp only at hSw); go_simp; try with_reducible rfl)
    try simp only [Act.put, qa, qb, qc, qD, qE, qF]
    refine qTk (v := ?_) 3 rfl (.inl ⟨by rfl, ?_⟩) ?_
    rotate_left
    ·
     (intro w hSw; (try dsimp only at hSw); go_simp; try with_reducible rfl)
    try simp only [Act.put, qa, qb, qc, qD, qE, qF]
    refine qTk (v := ?_) 4 rfl (.inl ⟨by rfl, ?_⟩) ?_
    rotate_left
    ·
     (intro w hSw; (try dsimp only at hSw); go_simp; try with_reducible rfl)
    try simp only [Act.put, qa, qb, qc, qD, qE, qF]
    refine qTk (v := ?_) 5 rfl (.inl ⟨by rfl, ?_⟩) ?_
    rotate_left
    ·
     (intro w hSw; (try dsimp only at hSw); go_simp; try with_reducible rfl)
    try simp only [Act.put, qa, qb, qc, qD, qE, qF]
    refine qTk (v := ?_) 6 rfl (.inl ⟨by rfl, ?_⟩) ?_
    rotate_left
    ·
     (intro w hSw; (try dsimp only at hSw); go_simp; try with_reducible rfl)
    try simp only [Act.put, qa, qb, qc, qD, qE, qF]
    refine qTk (v := ?_) 7 rfl (.inl ⟨by rfl, ?_⟩) ?_
    rotate_left
    ·
     (intro w hSw; (try dsimp only at hSw); go_simp; try with_reducible rfl)
    try simp only [Act.put, qa, qb, qc, qD, qE, qF]
    refine qTk (v := ?_) 8 rfl (.inl ⟨by rfl, ?_⟩) ?_
    rotate_left
    ·
     (intro w hSw; (try dsimp only at hSw); go_simp; try with_reducible rfl)
    try simp only [Act.put, qa, qb, qc, qD, qE, qF]
    refine qTk (v := ?_) 9 rfl (.inl ⟨by rfl, ?_⟩) ?_
    rotate_left
    ·
     (intro w hSw; (try dsimp only at hSw); go_simp; try with_reducible rfl)
    try simp only [Act.put, qa, qb, qc, qD, qE, qF]
    refine qTk (v := ?_) 10 rfl (.inl ⟨by rfl, ?_⟩) ?_
    rotate_left
    ·
     (intro w hSw; (try dsimp only at hSw); go_simp; try with_reducible rfl)
    try simp only [Act.put, qa, qb, qc, qD, qE, qF]
    refine qTk (v := ?_) 11 rfl (.inl ⟨by rfl, ?_⟩) ?_
    rotate_left
    ·
     (intro w hSw; (try dsimp only at hSw); go_simp; try with_reducible rfl)
    try simp only [Act.put, qa, qb, qc, qD, qE, qF]
    refine wpTail_last (i := 12) qKr rfl rfl (fun K hK => ?_)
    try simp only [Act.put, qa, qb, qc, qD, qE, qF]
    go_simp
    refine hK.out _ _ ?_
    clear hK K
    try simp only [Act.put, qa, qb, qc, qD, qE, qF]
    refine wpTail_done qKr ?_ _
    clear hHeld hw0 hw1
    generalize hW2 : ((w4.setCell ⟨g1, n, none⟩ (.int .i64 (e - sz + 1))).drew) = w5 at *
    have Kw5 : Chg (g1) (g1 + 1) w4 w5 := by subst hW2; exact qCh
    have Xw5 : Ext w w5 := by subst hW2; exact qXt
    replace ea0 := Kw5.cell (by omega) ea0
    replace eb0 := Kw5.cell (by omega) eb0
    replace va0 := Kw5.cell (by omega) va0
    replace va1 := Kw5.cell (by omega) va1
    replace va2 := Kw5.cell (by omega) va2
    replace q0 := Kw5.cell (by omega) q0
    replace f_q0 := Kw5.frzO (by omega) z_q f_q0
    replace q1 := Kw5.cell (by omega) q1
    replace f_q1 := Kw5.frzO (by omega) z_q f_q1
    replace q2 := Kw5.cell (by omega) q2
    replace f_q2 := Kw5.frzO (by omega) z_q f_q2
    replace yo0 := Kw5.cell (by omega) yo0
    replace f_yo0 := Kw5.frzO (by omega) z_yo f_yo0
    replace yo1 := Kw5.cell (by omega) yo1
    replace f_yo1 := Kw5.frzO (by omega) z_yo f_yo1
    replace yo2 := Kw5.cell (by omega) yo2
    replace f_yo2 := Kw5.frzO (by omega) z_yo f_yo2
    have n_O1 := O1.setD n (e - sz + 1) (by first | omega | (simp; omega))
    rw [hW2] at n_O1
    replace O1 := n_O1
    clear n_O1
    replace O2 := O2.chgN Kw5 (by omega)
    clear Kw5
    have z_ea : bs < w5.heap.size := qB ea0
    have z_eb : bt < w5.heap.size := qB eb0
    have z_va : w.heap.size < w5.heap.size := qB va0
    have z_q : w.heap.size + 1 < w5.heap.size := qB q0
    have z_yo : w3.heap.size < w5.heap.size := qB yo0
    have s_w5 : w.heap.size ≤ w5.heap.size := Xw5.size
    clear hW2
    clear A1a A1b
    go_wp2_with (
     at_builtin
     refine wpList_app rfl (.tmp 44) (.tmp 46) rfl rfl rfl (O1.ext ((Ext.refl _).alloc _)) (Ints.one _ 0 _ (Nat.zero_le _)) (by simp <;> omega) (by simp <;> omega) ?_
     intro vw6 w6 ho hgr hbl hvb
     obtain ⟨gw6, nw6, cw6, rfl, hnw6, Gw6, Gw6'⟩ := ho.row2 (by simp)
     have Bw6 := own_or hvb
     simp only [World.size_alloc] at Bw6
     have Kw6 : Chg (g1) (g1 + 1) w5 w6 := chg_grown hgr
     have Xw6 : Ext w w6 := Ext.chg (lo := g1) (hi := g1 + 1) Xw5 Kw6 (by omega)
     replace ea0 := Kw6.cell (by omega) ea0
     replace eb0 := Kw6.cell (by omega) eb0
     replace va0 := Kw6.cell (by omega) va0
     replace va1 := Kw6.cell (by omega) va1
     replace va2 := Kw6.cell (by omega) va2
     replace q0 := Kw6.cell (by omega) q0
     replace f_q0 := Kw6.frzO (by omega) z_q f_q0
     replace q1 := Kw6.cell (by omega) q1
     replace f_q1 := Kw6.frzO (by omega) z_q f_q1
     replace q2 := Kw6.cell (by omega) q2
     replace f_q2 := Kw6.frzO (by omega) z_q f_q2
     replace yo0 := Kw6.cell (by omega) yo0
     replace f_yo0 := Kw6.frzO (by omega) z_yo f_yo0
     replace yo1 := Kw6.cell (by omega) yo1
     replace f_yo1 := Kw6.frzO (by omega) z_yo f_yo1
     replace yo2 := Kw6.cell (by omega) yo2
     replace f_yo2 := Kw6.frzO (by omega) z_yo f_yo2
     have z_ea : bs < w6.heap.size := qB ea0
     have z_eb : bt < w6.heap.size := qB eb0
     have z_va : w.heap.size < w6.heap.size := qB va0
     have z_q : w.heap.size + 1 < w6.heap.size := qB q0
     have z_yo : w3.heap.size < w6.heap.size := qB yo0
     replace O2 := O2.chgN Kw6 (by omega)
     clear O1
     have O1 := ho
     have s_w6 : w.heap.size ≤ w6.heap.size := Xw6.size
     clear ho hgr hbl hvb Kw6)
    generalize hW3 : (w6.setCell ⟨w3.heap.size, 1, none⟩ (.slice (some ⟨gw6, 0, none⟩) nw6 cw6)) = w7 at *
    have Kw7 : Chg (w3.heap.size) (w3.heap.size + 1) w6 w7 := by subst hW3; exact qCh
    have Xw7 : Ext w w7 := by subst hW3; exact qXt
    replace ea0 := Kw7.cell (by omega) ea0
    replace eb0 := Kw7.cell (by omega) eb0
    replace va0 := Kw7.cell (by omega) va0
    replace va1 := Kw7.cell (by omega) va1
    replace va2 := Kw7.cell (by omega) va2
    replace q0 := Kw7.cell (by omega) q0
    replace f_q0 := Kw7.frzO (by omega) z_q f_q0
    replace q1 := Kw7.cell (by omega) q1
    replace f_q1 := Kw7.frzO (by omega) z_q f_q1
    replace q2 := Kw7.cell (by omega) q2
    replace f_q2 := Kw7.frzO (by omega) z_q f_q2
    replace yo0 : w7.cell? ⟨w3.heap.size, 0, none⟩ = some (.int .i64 b1) := by subst hW3; go_simp
    replace f_yo0 : w7.frozen? ⟨w3.heap.size, 0, none⟩ = false := by subst hW3; go_simp
    replace yo1 : w7.cell? ⟨w3.heap.size, 1, none⟩ = some (.slice (some ⟨gw6, 0, none⟩) nw6 cw6) := by subst hW3; go_simp
    replace f_yo1 : w7.frozen? ⟨w3.heap.size, 1, none⟩ = false := by subst hW3; go_simp
    replace yo2 : w7.cell? ⟨w3.heap.size, 2, none⟩ = some (.slice (some ⟨g2, 0, none⟩) t1.length r2) := by subst hW3; go_simp
    replace f_yo2 : w7.frozen? ⟨w3.heap.size, 2, none⟩ = false := by subst hW3; go_simp
    replace O1 := O1.chgN Kw7 (by omega)
    replace O2 := O2.chgN Kw7 (by omega)
    clear Kw7
    have z_ea : bs < w7.heap.size := qB ea0
    have z_eb : bt < w7.heap.size := qB eb0
    have z_va : w.heap.size < w7.heap.size := qB va0
    have z_q : w.heap.size + 1 < w7.heap.size := qB q0
    have z_yo : w3.heap.size < w7.heap.size := qB yo0
    have s_w7 : w.heap.size ≤ w7.heap.size := Xw7.size
    clear hW3
    go_wp2_with fail
    refine wp_region_tail (S := fun w' => w'.cell? ⟨bt, ot + n, none⟩ = some (.int .i64 x) ∧ w'.cell? ⟨w.heap.size, 2, none⟩ = some (.slice (some ⟨bt, ot, none⟩) t1.length cp2) ∧ w'.cell? ⟨w3.heap.size, 2, none⟩ = some (.slice (some ⟨g2, 0, none⟩) t1.length r2)) (fun i => decide (10 ≤ i)) qKr ⟨eb0, va2, yo2⟩ (fun hHeld => ?_)
    refine qTk (v := ?_) 0 rfl (.inl ⟨by rfl, ?_⟩) ?_
    rotate_left
    ·
     (intro w hSw; (try dsimp only at hSw); go_simp; try with_reducible rfl)
    try simp only [Act.put, qa, qb, qc, qD, qE, qF]
    refine qTk (v := ?_) 1 rfl (.inl ⟨by rfl, ?_⟩) ?_
    rotate_left
    ·
     (intro w hSw; (try dsimp only at hSw); go_simp; try with_reducible rfl)
    try simp only [Act.put, qa, qb, qc, qD, qE, qF]
    refine qTk (v := ?_) 2 rfl (.inl ⟨by rfl, ?_⟩) ?_
    rotate_left
    ·
     (intro w hSw; (try dsimp only at hSw); go_simp; try with_reducible rfl)
    try simp only [Act.put, qa, qb, qc, qD, qE, qF]
    refine qTk (v := ?_) 3 rfl (.inl ⟨by rfl, ?_⟩) ?_
    rotate_left
    ·
     (intro w hSw; (try dsimp only at hSw); go_simp; try with_reducible rfl)
    try simp only [Act.put, qa, qb, qc, qD, qE, qF]
    refine qTk (v := ?_) 4 rfl (.inl ⟨by rfl, ?_⟩) ?_
    rotate_left
    ·
     (intro w hSw; (try dsimp only at hSw); go_simp; try with_reducible rfl)
    try simp only [Act.put, qa, qb, qc, qD, qE, qF]
    refine qTk (v := ?_) 5 rfl (.inl ⟨by rfl, ?_⟩) ?_
    rotate_left
    ·
     (intro w hSw; (try dsimp only at hSw); go_simp; try with_reducible rfl)
    try simp only [Act.put, qa, qb, qc, qD, qE, qF]
    refine qTk (v := ?_) 6 rfl (.inl ⟨by rfl, ?_⟩) ?_
    rotate_left
    ·
     (intro w hSw; (try dsimp only at hSw); go_simp; try with_reducible rfl)
    try simp only [Act.put, qa, qb, qc, qD, qE, qF]
    refine wpTail_one (i := 7) qKr rfl rfl (fun K hK => ?_)
    try simp only [Act.put, qa, qb, qc, qD, qE, qF]
    go_simp
    refine hK.out _ _ ⟨Ext.cell (w := w7) qXt eb0, Ext.cell (w := w7) qXt va2, Ext.cell (w := w7) qXt yo2⟩ (fun hHeld => ?_)
    clear hK K
    try simp only [Act.put, qa, qb, qc, qD, qE, qF]
    refine wpTail_one (i := 8) qKr rfl rfl (fun K hK => ?_)
    have EE : Ext w7 ((w7.drew).alloc (.cells #[.int .i64 (x)] 3)) := qXt
    have SS : Ints ((w7.drew).alloc (.cells #[.int .i64 (x)] 3)) 0 (.slice (some ⟨w7.heap.size, 0, none⟩) 1 1) [x] := by simpa using Ints.one w7.drew 0 (x) (Nat.zero_le _)
    refine step_app rfl (.tmp 50) (.tmp 56) rfl rfl rfl (by exact O2.ext EE) (by exact SS) (by simp <;> omega) (by simp <;> omega) ?_
    intro vw8 w8 ho hgr hbl hvb
    obtain ⟨gw8, nw8, cw8, rfl, hnw8, Gw8, Gw8'⟩ := ho.row2 (by simp)
    have Bw8 := own_or hvb
    simp only [World.size_alloc, World.size_drew] at Bw8
    have Kw8 : Chg (g2) (g2 + 1) w7 w8 := chg_grownD hgr
    have Xw8 : Ext w w8 := Ext.chg (lo := g2) (hi := g2 + 1) Xw7 Kw8 (by omega)
    replace ea0 := Kw8.cell (by omega) ea0
    replace eb0 := Kw8.cell (by omega) eb0
    replace va0 := Kw8.cell (by omega) va0
    replace va1 := Kw8.cell (by omega) va1
    replace va2 := Kw8.cell (by omega) va2
    replace q0 := Kw8.cell (by omega) q0
    replace f_q0 := Kw8.frzO (by omega) z_q f_q0
    replace q1 := Kw8.cell (by omega) q1
    replace f_q1 := Kw8.frzO (by omega) z_q f_q1
    replace q2 := Kw8.cell (by omega) q2
    replace f_q2 := Kw8.frzO (by omega) z_q f_q2
    replace yo0 := Kw8.cell (by omega) yo0
    replace f_yo0 := Kw8.frzO (by omega) z_yo f_yo0
    replace yo1 := Kw8.cell (by omega) yo1
    replace f_yo1 := Kw8.frzO (by omega) z_yo f_yo1
    replace yo2 := Kw8.cell (by omega) yo2
    replace f_yo2 := Kw8.frzO (by omega) z_yo f_yo2
    have z_ea : bs < w8.heap.size := qB ea0
    have z_eb : bt < w8.heap.size := qB eb0
    have z_va : w.heap.size < w8.heap.size := qB va0
    have z_q : w.heap.size + 1 < w8.heap.size := qB q0
    have z_yo : w3.heap.size < w8.heap.size := qB yo0
    replace O1 := O1.chgN Kw8 (by omega)
    clear O2
    have O2 := ho
    have s_w8 : w.heap.size ≤ w8.heap.size := Xw8.size
    clear ho hgr hbl hvb Kw8
    clear EE SS
    refine hK.out _ _ ⟨eb0, va2, yo2⟩ (fun hHeld => ?_)
    clear hK K
    try simp only [Act.put, qa, qb, qc, qD, qE, qF]
    refine qTk (v := ?_) 9 rfl (.inl ⟨by rfl, ?_⟩) ?_
    rotate_left
    ·
     (intro w hSw; (try dsimp only at hSw); go_simp; try with_reducible rfl)
    try simp only [Act.put, qa, qb, qc, qD, qE, qF]
    refine wpTail_last (i := 10) qKr rfl rfl (fun K hK => ?_)
    try simp only [Act.put, qa, qb, qc, qD, qE, qF]
    go_simp
    refine hK.out _ _ ?_
    clear hK K
    try simp only [Act.put, qa, qb, qc, qD, qE, qF]
    refine wpTail_done qKr ?_ _
    clear hHeld
    generalize hW4 : (w8.setCell ⟨w3.heap.size, 2, none⟩ (.slice (some ⟨gw8, 0, none⟩) nw8 cw8)) = w9 at *
    have Kw9 : Chg (w3.heap.size) (w3.heap.size + 1) w8 w9 := by subst hW4; exact qCh
    have Xw9 : Ext w w9 := by subst hW4; exact qXt
    replace ea0 := Kw9.cell (by omega) ea0
    replace eb0 := Kw9.cell (by omega) eb0
    replace va0 := Kw9.cell (by omega) va0
    replace va1 := Kw9.cell (by omega) va1
    replace va2 := Kw9.cell (by omega) va2
    replace q0 := Kw9.cell (by omega) q0
    replace f_q0 := Kw9.frzO (by omega) z_q f_q0
    replace q1 := Kw9.cell (by omega) q1
    replace f_q1 := Kw9.frzO (by omega) z_q f_q1
    replace q2 := Kw9.cell (by omega) q2
    replace f_q2 := Kw9.frzO (by omega) z_q f_q2
    replace yo0 : w9.cell? ⟨w3.heap.size, 0, none⟩ = some (.int .i64 b1) := by subst hW4; go_simp
    replace f_yo0 : w9.frozen? ⟨w3.heap.size, 0, none⟩ = false := by subst hW4; go_simp
    replace yo1 : w9.cell? ⟨w3.heap.size, 1, none⟩ = some (.slice (some ⟨gw6, 0, none⟩) nw6 cw6) := by subst hW4; go_simp
    replace f_yo1 : w9.frozen? ⟨w3.heap.size, 1, none⟩ = false := by subst hW4; go_simp
    replace yo2 : w9.cell? ⟨w3.heap.size, 2, none⟩ = some (.slice (some ⟨gw8, 0, none⟩) nw8 cw8) := by subst hW4; go_simp
    replace f_yo2 : w9.frozen? ⟨w3.heap.size, 2, none⟩ = false := by subst hW4; go_simp
    replace O1 := O1.chgN Kw9 (by omega)
    replace O2 := O2.chgN Kw9 (by omega)
    clear Kw9
    have z_ea : bs < w9.heap.size := qB ea0
    have z_eb : bt < w9.heap.size := qB eb0
    have z_va : w.heap.size < w9.heap.size := qB va0
    have z_q : w.heap.size + 1 < w9.heap.size := qB q0
    have z_yo : w3.heap.size < w9.heap.size := qB yo0
    have s_w9 : w.heap.size ≤ w9.heap.size := Xw9.size
    clear hW4
    have i1 := O1.ints (by simp <;> omega)
    have i2 := O2.ints (by simp <;> omega)
    clear O1 O2
    go_wp2_with fail
    refine (hmd.out _ _ _ _ _ (i1.ext qXt) (i2.ext qXt)).mono ?_
    rintro e w10 ⟨y1, y2, rfl, j1, j2, o1, o2, od, xw10⟩
    have Lw10 : Ext w9 w10 := Ext.trans qXt xw10
    have Xw10 : Ext w w10 := Xw9.trans Lw10
    replace ea0 := Lw10.cell ea0
    replace eb0 := Lw10.cell eb0
    replace va0 := Lw10.cell va0
    replace va1 := Lw10.cell va1
    replace va2 := Lw10.cell va2
    replace q0 := Lw10.cell q0
    replace q1 := Lw10.cell q1
    replace q2 := Lw10.cell q2
    replace f_q0 := Lw10.frz z_q f_q0
    replace f_q1 := Lw10.frz z_q f_q1
    replace f_q2 := Lw10.frz z_q f_q2
    replace yo0 := Lw10.cell yo0
    replace yo1 := Lw10.cell yo1
    replace yo2 := Lw10.cell yo2
    replace f_yo0 := Lw10.frz z_yo f_yo0
    replace f_yo1 := Lw10.frz z_yo f_yo1
    replace f_yo2 := Lw10.frz z_yo f_yo2
    have z_ea : bs < w10.heap.size := qB ea0
    have z_eb : bt < w10.heap.size := qB eb0
    have z_va : w.heap.size < w10.heap.size := qB va0
    have z_q : w.heap.size + 1 < w10.heap.size := qB q0
    have z_yo : w3.heap.size < w10.heap.size := qB yo0
    have s_w10 : w.heap.size ≤ w10.heap.size := Xw10.size
    clear xw10
    have hl1 := ints_len j1
    have hl2 := ints_len j2
    clear j1 j2
    replace o1 := o1.lower (show w.heap.size + 2 ≤ _ by first | (simp; done) | (simp; omega) | omega)
    replace o2 := o2.lower (show w.heap.size + 2 ≤ _ by first | (simp; done) | (simp; omega) | omega)
    obtain ⟨p1, n1, r1, rfl⟩ := o1.form
    obtain ⟨p2, n2, r2, rfl⟩ := o2.form
    clear i1 i2 hmd
    go_wp2_with fail
    generalize hW5 : (((w10.setCell ⟨w.heap.size + 1, 0, none⟩ (.int .i64 mb)).setCell ⟨w.heap.size + 1, 1, none⟩ (.slice p1 n1 r1)).setCell ⟨w.heap.size + 1, 2, none⟩ (.slice p2 n2 r2)) = w11 at *
    have Kw11 : Chg (w.heap.size + 1) (w.heap.size + 1 + 1) w10 w11 := by subst hW5; exact qCh
    have Xw11 : Ext w w11 := by subst hW5; exact qXt
    replace ea0 := Kw11.cell (by omega) ea0
    replace eb0 := Kw11.cell (by omega) eb0
    replace va0 := Kw11.cell (by omega) va0
    replace va1 := Kw11.cell (by omega) va1
    replace va2 := Kw11.cell (by omega) va2
    replace q0 : w11.cell? ⟨w.heap.size + 1, 0, none⟩ = some (.int .i64 mb) := by subst hW5; go_simp
    replace f_q0 : w11.frozen? ⟨w.heap.size + 1, 0, none⟩ = false := by subst hW5; go_simp
    replace q1 : w11.cell? ⟨w.heap.size + 1, 1, none⟩ = some (.slice p1 n1 r1) := by subst hW5; go_simp
    replace f_q1 : w11.frozen? ⟨w.heap.size + 1, 1, none⟩ = false := by subst hW5; go_simp
    replace q2 : w11.cell? ⟨w.heap.size + 1, 2, none⟩ = some (.slice p2 n2 r2) := by subst hW5; go_simp
    replace f_q2 : w11.frozen? ⟨w.heap.size + 1, 2, none⟩ = false := by subst hW5; go_simp
    replace yo0 := Kw11.cell (by omega) yo0
    replace f_yo0 := Kw11.frzO (by omega) z_yo f_yo0
    replace yo1 := Kw11.cell (by omega) yo1
    replace f_yo1 := Kw11.frzO (by omega) z_yo f_yo1
    replace yo2 := Kw11.cell (by omega) yo2
    replace f_yo2 := Kw11.frzO (by omega) z_yo f_yo2
    replace o1 := o1.chg Kw11 (by omega)
    replace o2 := o2.chg Kw11 (by omega)
    clear Kw11
    have z_ea : bs < w11.heap.size := qB ea0
    have z_eb : bt < w11.heap.size := qB eb0
    have z_va : w.heap.size < w11.heap.size := qB va0
    have z_q : w.heap.size + 1 < w11.heap.size := qB q0
    have z_yo : w3.heap.size < w11.heap.size := qB yo0
    have s_w11 : w.heap.size ≤ w11.heap.size := Xw11.size
    clear hW5
    refine bodyPost_ret (v := .tuple #[.agg #[.int .i64 mb, .slice p1 n1 r1, .slice p2 n2 r2], .bool mk]) (by simp only [results, Try.results130]; go_simp) rfl ?_
    exact PVB.any (hr0.out.trans hr.out) (o1.lower (by omega)) (o2.lower (by omega)) od hl1 hl2 Xw11


end Go.Proofs.Ytpgkhjmboiepcaa

/- Walks: drawn ranges and slices. -/
namespace Go.Proofs.Ytpgkhjmboiepcaa
open Go.RowKit
set_option linter.unusedVariables false
set_option maxRecDepth 100000

end Go.Proofs.Ytpgkhjmboiepcaa

/- Walks: drawn slices. -/
namespace Go.Proofs.Ytpgkhjmboiepcaa
open Go.RowKit
set_option linter.unusedVariables false
set_option maxRecDepth 100000

/-- a slice at a block -/
def SlAt (w : World) (g : Nat) : Prop := ∃ (F T B : Int) (hf ht : Bool), w.cell? ⟨g, 0, none⟩ = some (.int .i64 F) ∧ w.cell? ⟨g, 1, none⟩ = some (.int .i64 T) ∧ w.cell? ⟨g, 2, none⟩ = some (.int .i64 B) ∧ w.cell? ⟨g, 3, none⟩ = some (.bool hf) ∧ w.cell? ⟨g, 4, none⟩ = some (.bool ht) ∧
 w.frozen? ⟨g, 0, none⟩ = false ∧ w.frozen? ⟨g, 1, none⟩ = false ∧ w.frozen? ⟨g, 2, none⟩ = false ∧ w.frozen? ⟨g, 3, none⟩ = false ∧ w.frozen? ⟨g, 4, none⟩ = false
theorem SlAt.lt {w : World} {g : Nat} (h : SlAt w g) : g < w.heap.size := by obtain ⟨F, T, B, hf, ht, h, _⟩ := h; exact qB h

set_option maxHeartbeats 6400000 in
theorem someSlice_c (rb k : Nat) (w : World) (hr : Rd w rb k) (hk : k ≤ 900000) :
  Calls Try.prog 125 #[.pointer (some ⟨rb, 0, none⟩)] w (fun e w' => ∃ (F T B : Int) (hf ht : Bool), e = .returned (.agg #[.int .i64 F, .int .i64 T, .int .i64 B, .bool hf, .bool ht]) ∧ Rd w' rb (k + 12) ∧ Chg rb (rb + 1) w w') := by
 have hlt := hr.lt
 have X := Rch.refl rb w
 go_enter Try.func125, Try.ntmps125
 go_wp2_with fail
 refine (oneLit_c _ _ _ rb _ _ (by repeat (first | (with_reducible exact hr) | (with_reducible apply Rd.drewN) | (with_reducible apply Rd.drew) | (with_reducible apply Rd.alloc) | ((with_reducible apply Rd.set2); (· first | assumption | (simp; omega) | (simp; done) | omega)))) (by omega) (by rfl) (by rfl) (by constructor <;> simp) (by first | rfl | simp)).mono ?_; rintro e w1 ⟨x1, rfl, hxm, hr, hC⟩; have X : Rch rb w w1 := Rch.step (by (try change Rch rb w _); repeat (first | (with_reducible exact X) | (with_reducible exact Rch.refl _ _) | (with_reducible apply Rch.drewN) | (with_reducible apply Rch.drew) | (with_reducible apply Rch.alloc) | (with_reducible refine Rch.set ?_ (by first | assumption | (simp <;> omega) | omega) _))) hC; have S := hC.size; (try simp at S); have zz : w.heap.size < w1.heap.size := (by omega); have zl := Nat.le_of_lt zz; have cc := hC.cell (b := w.heap.size) (o := 0) (.inr (by omega)) qGs; have ff : w1.frozen? ⟨w.heap.size, 0, none⟩ = false := (Rch.frule hC w.heap.size 0 (by omega) (by first | (simp <;> omega) | omega)).trans qFz; have cc := hC.cell (b := w.heap.size) (o := 1) (.inr (by omega)) qGs; have ff : w1.frozen? ⟨w.heap.size, 1, none⟩ = false := (Rch.frule hC w.heap.size 1 (by omega) (by first | (simp <;> omega) | omega)).trans qFz; have cc := hC.cell (b := w.heap.size) (o := 2) (.inr (by omega)) qGs; have ff : w1.frozen? ⟨w.heap.size, 2, none⟩ = false := (Rch.frule hC w.heap.size 2 (by omega) (by first | (simp <;> omega) | omega)).trans qFz; have cc := hC.cell (b := w.heap.size) (o := 3) (.inr (by omega)) qGs; have ff : w1.frozen? ⟨w.heap.size, 3, none⟩ = false := (Rch.frule hC w.heap.size 3 (by omega) (by first | (simp <;> omega) | omega)).trans qFz; have cc := hC.cell (b := w.heap.size) (o := 4) (.inr (by omega)) qGs; have ff : w1.frozen? ⟨w.heap.size, 4, none⟩ = false := (Rch.frule hC w.heap.size 4 (by omega) (by first | (simp <;> omega) | omega)).trans qFz; clear hC
 have h1 : rb < w1.heap.size := by omega
 go_wp2_with fail
 refine (pick1_c _ rb _ _ (by repeat (first | (with_reducible exact hr) | (with_reducible apply Rd.drewN) | (with_reducible apply Rd.drew) | (with_reducible apply Rd.alloc) | ((with_reducible apply Rd.set2); (· first | assumption | (simp; omega) | (simp; done) | omega)))) (by omega) (by omega)).mono ?_; rintro e w2 ⟨x2, rfl, ⟨hx0, hx1⟩, hr, hC⟩; have X : Rch rb w w2 := Rch.step (by (try change Rch rb w _); repeat (first | (with_reducible exact X) | (with_reducible exact Rch.refl _ _) | (with_reducible apply Rch.drewN) | (with_reducible apply Rch.drew) | (with_reducible apply Rch.alloc) | (with_reducible refine Rch.set ?_ (by first | assumption | (simp <;> omega) | omega) _))) hC; have S := hC.size; (try simp at S); have zz : w.heap.size < w2.heap.size := (by omega); have zl := Nat.le_of_lt zz; have cc := hC.cell (b := w.heap.size) (o := 0) (.inr (by omega)) qGs; have ff : w2.frozen? ⟨w.heap.size, 0, none⟩ = false := (Rch.frule hC w.heap.size 0 (by omega) (by first | (simp <;> omega) | omega)).trans qFz; have cc := hC.cell (b := w.heap.size) (o := 1) (.inr (by omega)) qGs; have ff : w2.frozen? ⟨w.heap.size, 1, none⟩ = false := (Rch.frule hC w.heap.size 1 (by omega) (by first | (simp <;> omega) | omega)).trans qFz; have cc := hC.cell (b := w.heap.size) (o := 2) (.inr (by omega)) qGs; have ff : w2.frozen? ⟨w.heap.size, 2, none⟩ = false := (Rch.frule hC w.heap.size 2 (by omega) (by first | (simp <;> omega) | omega)).trans qFz; have cc := hC.cell (b := w.heap.size) (o := 3) (.inr (by omega)) qGs; have ff : w2.frozen? ⟨w.heap.size, 3, none⟩ = false := (Rch.frule hC w.heap.size 3 (by omega) (by first | (simp <;> omega) | omega)).trans qFz; have cc := hC.cell (b := w.heap.size) (o := 4) (.inr (by omega)) qGs; have ff : w2.frozen? ⟨w.heap.size, 4, none⟩ = false := (Rch.frule hC w.heap.size 4 (by omega) (by first | (simp <;> omega) | omega)).trans qFz; have zz : w1.heap.size < w2.heap.size := (by omega); have zl := Nat.le_of_lt zz; have cc := hC.cell (b := w1.heap.size) (o := 0) (.inr (by omega)) qGs; have ff : w2.frozen? ⟨w1.heap.size, 0, none⟩ = false := (Rch.frule hC w1.heap.size 0 (by omega) (by first | (simp <;> omega) | omega)).trans qFz; have cc := hC.cell (b := w1.heap.size) (o := 1) (.inr (by omega)) qGs; have ff : w2.frozen? ⟨w1.heap.size, 1, none⟩ = false := (Rch.frule hC w1.heap.size 1 (by omega) (by first | (simp <;> omega) | omega)).trans qFz; have cc := hC.cell (b := w1.heap.size) (o := 2) (.inr (by omega)) qGs; have ff : w2.frozen? ⟨w1.heap.size, 2, none⟩ = false := (Rch.frule hC w1.heap.size 2 (by omega) (by first | (simp <;> omega) | omega)).trans qFz; have cc := hC.cell (b := w1.heap.size) (o := 3) (.inr (by omega)) qGs; have ff : w2.frozen? ⟨w1.heap.size, 3, none⟩ = false := (Rch.frule hC w1.heap.size 3 (by omega) (by first | (simp <;> omega) | omega)).trans qFz; have cc := hC.cell (b := w1.heap.size) (o := 4) (.inr (by omega)) qGs; have ff : w2.frozen? ⟨w1.heap.size, 4, none⟩ = false := (Rch.frule hC w1.heap.size 4 (by omega) (by first | (simp <;> omega) | omega)).trans qFz; clear hC
 go_upto_if 10 with fail
 go_cut [] (fun wx => SlAt wx w1.heap.size ∧ SlAt wx w.heap.size ∧ Rd wx rb (k+4) ∧ Rch rb w wx)
 case first =>
  go_wp2_with (first | (go_at_call 52; refine (pick1_c _ rb _ _ (by repeat (first | (with_reducible exact hr) | (with_reducible apply Rd.drewN) | (with_reducible apply Rd.drew) | (with_reducible apply Rd.alloc) | ((with_reducible apply Rd.set2); (· first | assumption | (simp; omega) | (simp; done) | omega)))) (by omega) (by omega)).mono ?_; rintro e wn ⟨x, rfl, ⟨hx0, hx1⟩, hr, hC⟩; have X : Rch rb w wn := Rch.step (by (try change Rch rb w _); repeat (first | (with_reducible exact X) | (with_reducible exact Rch.refl _ _) | (with_reducible apply Rch.drewN) | (with_reducible apply Rch.drew) | (with_reducible apply Rch.alloc) | (with_reducible refine Rch.set ?_ (by first | assumption | (simp <;> omega) | omega) _))) hC; have S := hC.size; (try simp at S); have zz : w.heap.size < wn.heap.size := (by omega); have zl := Nat.le_of_lt zz; have cc := hC.cell (b := w.heap.size) (o := 0) (.inr (by omega)) qGs; have ff : wn.frozen? ⟨w.heap.size, 0, none⟩ = false := (Rch.frule hC w.heap.size 0 (by omega) (by first | (simp <;> omega) | omega)).trans qFz; have cc := hC.cell (b := w.heap.size) (o := 1) (.inr (by omega)) qGs; have ff : wn.frozen? ⟨w.heap.size, 1, none⟩ = false := (Rch.frule hC w.heap.size 1 (by omega) (by first | (simp <;> omega) | omega)).trans qFz; have cc := hC.cell (b := w.heap.size) (o := 2) (.inr (by omega)) qGs; have ff : wn.frozen? ⟨w.heap.size, 2, none⟩ = false := (Rch.frule hC w.heap.size 2 (by omega) (by first | (simp <;> omega) | omega)).trans qFz; have cc := hC.cell (b := w.heap.size) (o := 3) (.inr (by omega)) qGs; have ff : wn.frozen? ⟨w.heap.size, 3, none⟩ = false := (Rch.frule hC w.heap.size 3 (by omega) (by first | (simp <;> omega) | omega)).trans qFz; have cc := hC.cell (b := w.heap.size) (o := 4) (.inr (by omega)) qGs; have ff : wn.frozen? ⟨w.heap.size, 4, none⟩ = false := (Rch.frule hC w.heap.size 4 (by omega) (by first | (simp <;> omega) | omega)).trans qFz; have zz : w1.heap.size < wn.heap.size := (by omega); have zl := Nat.le_of_lt zz; have cc := hC.cell (b := w1.heap.size) (o := 0) (.inr (by omega)) qGs; have ff : wn.frozen? ⟨w1.heap.size, 0, none⟩ = false := (Rch.frule hC w1.heap.size 0 (by omega) (by first | (simp <;> omega) | omega)).trans qFz; have cc := hC.cell (b := w1.heap.size) (o := 1) (.inr (by omega)) qGs; have ff : wn.frozen? ⟨w1.heap.size, 1, none⟩ = false := (Rch.frule hC w1.heap.size 1 (by omega) (by first | (simp <;> omega) | omega)).trans qFz; have cc := hC.cell (b := w1.heap.size) (o := 2) (.inr (by omega)) qGs; have ff : wn.frozen? ⟨w1.heap.size, 2, none⟩ = false := (Rch.frule hC w1.heap.size 2 (by omega) (by first | (simp <;> omega) | omega)).trans qFz; have cc := hC.cell (b := w1.heap.size) (o := 3) (.inr (by omega)) qGs; have ff : wn.frozen? ⟨w1.heap.size, 3, none⟩ = false := (Rch.frule hC w1.heap.size 3 (by omega) (by first | (simp <;> omega) | omega)).trans qFz; have cc := hC.cell (b := w1.heap.size) (o := 4) (.inr (by omega)) qGs; have ff : wn.frozen? ⟨w1.heap.size, 4, none⟩ = false := (Rch.frule hC w1.heap.size 4 (by omega) (by first | (simp <;> omega) | omega)).trans qFz; clear hC) | (go_at_call 51; refine (oneLit_c _ _ _ rb _ _ (by repeat (first | (with_reducible exact hr) | (with_reducible apply Rd.drewN) | (with_reducible apply Rd.drew) | (with_reducible apply Rd.alloc) | ((with_reducible apply Rd.set2); (· first | assumption | (simp; omega) | (simp; done) | omega)))) (by omega) (by rfl) (by rfl) (by constructor <;> simp) (by first | rfl | simp)).mono ?_; rintro e wn ⟨x, rfl, hxm, hr, hC⟩; have X : Rch rb w wn := Rch.step (by (try change Rch rb w _); repeat (first | (with_reducible exact X) | (with_reducible exact Rch.refl _ _) | (with_reducible apply Rch.drewN) | (with_reducible apply Rch.drew) | (with_reducible apply Rch.alloc) | (with_reducible refine Rch.set ?_ (by first | assumption | (simp <;> omega) | omega) _))) hC; have S := hC.size; (try simp at S); have zz : w.heap.size < wn.heap.size := (by omega); have zl := Nat.le_of_lt zz; have cc := hC.cell (b := w.heap.size) (o := 0) (.inr (by omega)) qGs; have ff : wn.frozen? ⟨w.heap.size, 0, none⟩ = false := (Rch.frule hC w.heap.size 0 (by omega) (by first | (simp <;> omega) | omega)).trans qFz; have cc := hC.cell (b := w.heap.size) (o := 1) (.inr (by omega)) qGs; have ff : wn.frozen? ⟨w.heap.size, 1, none⟩ = false := (Rch.frule hC w.heap.size 1 (by omega) (by first | (simp <;> omega) | omega)).trans qFz; have cc := hC.cell (b := w.heap.size) (o := 2) (.inr (by omega)) qGs; have ff : wn.frozen? ⟨w.heap.size, 2, none⟩ = false := (Rch.frule hC w.heap.size 2 (by omega) (by first | (simp <;> omega) | omega)).trans qFz; have cc := hC.cell (b := w.heap.size) (o := 3) (.inr (by omega)) qGs; have ff : wn.frozen? ⟨w.heap.size, 3, none⟩ = false := (Rch.frule hC w.heap.size 3 (by omega) (by first | (simp <;> omega) | omega)).trans qFz; have cc := hC.cell (b := w.heap.size) (o := 4) (.inr (by omega)) qGs; have ff : wn.frozen? ⟨w.heap.size, 4, none⟩ = false := (Rch.frule hC w.heap.size 4 (by omega) (by first | (simp <;> omega) | omega)).trans qFz; have zz : w1.heap.size < wn.heap.size := (by omega); have zl := Nat.le_of_lt zz; have cc := hC.cell (b := w1.heap.size) (o := 0) (.inr (by omega)) qGs; have ff : wn.frozen? ⟨w1.heap.size, 0, none⟩ = false := (Rch.frule hC w1.heap.size 0 (by omega) (by first | (simp <;> omega) | omega)).trans qFz; have cc := hC.cell (b := w1.heap.size) (o := 1) (.inr (by omega)) qGs; have ff : wn.frozen? ⟨w1.heap.size, 1, none⟩ = false := (Rch.frule hC w1.heap.size 1 (by omega) (by first | (simp <;> omega) | omega)).trans qFz; have cc := hC.cell (b := w1.heap.size) (o := 2) (.inr (by omega)) qGs; have ff : wn.frozen? ⟨w1.heap.size, 2, none⟩ = false := (Rch.frule hC w1.heap.size 2 (by omega) (by first | (simp <;> omega) | omega)).trans qFz; have cc := hC.cell (b := w1.heap.size) (o := 3) (.inr (by omega)) qGs; have ff : wn.frozen? ⟨w1.heap.size, 3, none⟩ = false := (Rch.frule hC w1.heap.size 3 (by omega) (by first | (simp <;> omega) | omega)).trans qFz; have cc := hC.cell (b := w1.heap.size) (o := 4) (.inr (by omega)) qGs; have ff : wn.frozen? ⟨w1.heap.size, 4, none⟩ = false := (Rch.frule hC w1.heap.size 4 (by omega) (by first | (simp <;> omega) | omega)).trans qFz; clear hC))
  all_goals
   go_meet
   case rel => exact ⟨⟨_, _, _, _, _, qGs, qGs, qGs, qGs, qGs, (by first | (go_simp; done) | (simp; done) | assumption), (by first | (go_simp; done) | (simp; done) | assumption), (by first | (go_simp; done) | (simp; done) | assumption), (by first | (go_simp; done) | (simp; done) | assumption), (by first | (go_simp; done) | (simp; done) | assumption)⟩, ⟨_, _, _, _, _, qGs, qGs, qGs, qGs, qGs, (by first | (go_simp; done) | (simp; done) | assumption), (by first | (go_simp; done) | (simp; done) | assumption), (by first | (go_simp; done) | (simp; done) | assumption), (by first | (go_simp; done) | (simp; done) | assumption), (by first | (go_simp; done) | (simp; done) | assumption)⟩, Rd.mono (by repeat (first | (with_reducible exact hr) | (with_reducible apply Rd.drewN) | (with_reducible apply Rd.drew) | (with_reducible apply Rd.alloc) | ((with_reducible apply Rd.set2); (· first | assumption | (simp; omega) | (simp; done) | omega)))) (by omega), (by (try change Rch rb w _); repeat (first | (with_reducible exact X) | (with_reducible exact Rch.refl _ _) | (with_reducible apply Rch.drewN) | (with_reducible apply Rch.drew) | (with_reducible apply Rch.alloc) | (with_reducible refine Rch.set ?_ (by first | assumption | (simp <;> omega) | omega) _)))⟩
 case rest =>
  obtain ⟨g1, g2, hr, X⟩ := hcut
  have z1 := g1.lt
  have z2 := g2.lt
  obtain ⟨F, T, B, hf, ht, c0, c1, c2, c3, c4, f0, f1, f2, f3, f4⟩ := g1
  obtain ⟨F', T', B', hf', ht', c0', c1', c2', c3', c4', f0', f1', f2', f3', f4'⟩ := g2
  go_wp2_with fail
  refine (pick1_c _ rb _ _ (by repeat (first | (with_reducible exact hr) | (with_reducible apply Rd.drewN) | (with_reducible apply Rd.drew) | (with_reducible apply Rd.alloc) | ((with_reducible apply Rd.set2); (· first | assumption | (simp; omega) | (simp; done) | omega)))) (by omega) (by omega)).mono ?_; rintro e w3 ⟨x3, rfl, ⟨hx0, hx1⟩, hr, hC⟩; have X : Rch rb w w3 := Rch.step (by (try change Rch rb w _); repeat (first | (with_reducible exact X) | (with_reducible exact Rch.refl _ _) | (with_reducible apply Rch.drewN) | (with_reducible apply Rch.drew) | (with_reducible apply Rch.alloc) | (with_reducible refine Rch.set ?_ (by first | assumption | (simp <;> omega) | omega) _))) hC; have S := hC.size; (try simp at S); have zz : w.heap.size < w3.heap.size := (by omega); have zl := Nat.le_of_lt zz; have cc := hC.cell (b := w.heap.size) (o := 0) (.inr (by omega)) qGs; have ff : w3.frozen? ⟨w.heap.size, 0, none⟩ = false := (Rch.frule hC w.heap.size 0 (by omega) (by first | (simp <;> omega) | omega)).trans qFz; have cc := hC.cell (b := w.heap.size) (o := 1) (.inr (by omega)) qGs; have ff : w3.frozen? ⟨w.heap.size, 1, none⟩ = false := (Rch.frule hC w.heap.size 1 (by omega) (by first | (simp <;> omega) | omega)).trans qFz; have cc := hC.cell (b := w.heap.size) (o := 2) (.inr (by omega)) qGs; have ff : w3.frozen? ⟨w.heap.size, 2, none⟩ = false := (Rch.frule hC w.heap.size 2 (by omega) (by first | (simp <;> omega) | omega)).trans qFz; have cc := hC.cell (b := w.heap.size) (o := 3) (.inr (by omega)) qGs; have ff : w3.frozen? ⟨w.heap.size, 3, none⟩ = false := (Rch.frule hC w.heap.size 3 (by omega) (by first | (simp <;> omega) | omega)).trans qFz; have cc := hC.cell (b := w.heap.size) (o := 4) (.inr (by omega)) qGs; have ff : w3.frozen? ⟨w.heap.size, 4, none⟩ = false := (Rch.frule hC w.heap.size 4 (by omega) (by first | (simp <;> omega) | omega)).trans qFz; have zz : w1.heap.size < w3.heap.size := (by omega); have zl := Nat.le_of_lt zz; have cc := hC.cell (b := w1.heap.size) (o := 0) (.inr (by omega)) qGs; have ff : w3.frozen? ⟨w1.heap.size, 0, none⟩ = false := (Rch.frule hC w1.heap.size 0 (by omega) (by first | (simp <;> omega) | omega)).trans qFz; have cc := hC.cell (b := w1.heap.size) (o := 1) (.inr (by omega)) qGs; have ff : w3.frozen? ⟨w1.heap.size, 1, none⟩ = false := (Rch.frule hC w1.heap.size 1 (by omega) (by first | (simp <;> omega) | omega)).trans qFz; have cc := hC.cell (b := w1.heap.size) (o := 2) (.inr (by omega)) qGs; have ff : w3.frozen? ⟨w1.heap.size, 2, none⟩ = false := (Rch.frule hC w1.heap.size 2 (by omega) (by first | (simp <;> omega) | omega)).trans qFz; have cc := hC.cell (b := w1.heap.size) (o := 3) (.inr (by omega)) qGs; have ff : w3.frozen? ⟨w1.heap.size, 3, none⟩ = false := (Rch.frule hC w1.heap.size 3 (by omega) (by first | (simp <;> omega) | omega)).trans qFz; have cc := hC.cell (b := w1.heap.size) (o := 4) (.inr (by omega)) qGs; have ff : w3.frozen? ⟨w1.heap.size, 4, none⟩ = false := (Rch.frule hC w1.heap.size 4 (by omega) (by first | (simp <;> omega) | omega)).trans qFz; clear hC
  clear c0 c1 c2 c3 c4 f0 f1 f2 f3 f4 c0' c1' c2' c3' c4' f0' f1' f2' f3' f4'
  go_upto_if 20 with fail
  go_cut [] (fun wx => SlAt wx w1.heap.size ∧ SlAt wx w.heap.size ∧ Rd wx rb (k+7) ∧ Rch rb w wx)
  case first =>
   go_wp2_with (first | (go_at_call 52; refine (pick1_c _ rb _ _ (by repeat (first | (with_reducible exact hr) | (with_reducible apply Rd.drewN) | (with_reducible apply Rd.drew) | (with_reducible apply Rd.alloc) | ((with_reducible apply Rd.set2); (· first | assumption | (simp; omega) | (simp; done) | omega)))) (by omega) (by omega)).mono ?_; rintro e wn ⟨x, rfl, ⟨hx0, hx1⟩, hr, hC⟩; have X : Rch rb w wn := Rch.step (by (try change Rch rb w _); repeat (first | (with_reducible exact X) | (with_reducible exact Rch.refl _ _) | (with_reducible apply Rch.drewN) | (with_reducible apply Rch.drew) | (with_reducible apply Rch.alloc) | (with_reducible refine Rch.set ?_ (by first | assumption | (simp <;> omega) | omega) _))) hC; have S := hC.size; (try simp at S); have zz : w.heap.size < wn.heap.size := (by omega); have zl := Nat.le_of_lt zz; have cc := hC.cell (b := w.heap.size) (o := 0) (.inr (by omega)) qGs; have ff : wn.frozen? ⟨w.heap.size, 0, none⟩ = false := (Rch.frule hC w.heap.size 0 (by omega) (by first | (simp <;> omega) | omega)).trans qFz; have cc := hC.cell (b := w.heap.size) (o := 1) (.inr (by omega)) qGs; have ff : wn.frozen? ⟨w.heap.size, 1, none⟩ = false := (Rch.frule hC w.heap.size 1 (by omega) (by first | (simp <;> omega) | omega)).trans qFz; have cc := hC.cell (b := w.heap.size) (o := 2) (.inr (by omega)) qGs; have ff : wn.frozen? ⟨w.heap.size, 2, none⟩ = false := (Rch.frule hC w.heap.size 2 (by omega) (by first | (simp <;> omega) | omega)).trans qFz; have cc := hC.cell (b := w.heap.size) (o := 3) (.inr (by omega)) qGs; have ff : wn.frozen? ⟨w.heap.size, 3, none⟩ = false := (Rch.frule hC w.heap.size 3 (by omega) (by first | (simp <;> omega) | omega)).trans qFz; have cc := hC.cell (b := w.heap.size) (o := 4) (.inr (by omega)) qGs; have ff : wn.frozen? ⟨w.heap.size, 4, none⟩ = false := (Rch.frule hC w.heap.size 4 (by omega) (by first | (simp <;> omega) | omega)).trans qFz; have zz : w1.heap.size < wn.heap.size := (by omega); have zl := Nat.le_of_lt zz; have cc := hC.cell (b := w1.heap.size) (o := 0) (.inr (by omega)) qGs; have ff : wn.frozen? ⟨w1.heap.size, 0, none⟩ = false := (Rch.frule hC w1.heap.size 0 (by omega) (by first | (simp <;> omega) | omega)).trans qFz; have cc := hC.cell (b := w1.heap.size) (o := 1) (.inr (by omega)) qGs; have ff : wn.frozen? ⟨w1.heap.size, 1, none⟩ = false := (Rch.frule hC w1.heap.size 1 (by omega) (by first | (simp <;> omega) | omega)).trans qFz; have cc := hC.cell (b := w1.heap.size) (o := 2) (.inr (by omega)) qGs; have ff : wn.frozen? ⟨w1.heap.size, 2, none⟩ = false := (Rch.frule hC w1.heap.size 2 (by omega) (by first | (simp <;> omega) | omega)).trans qFz; have cc := hC.cell (b := w1.heap.size) (o := 3) (.inr (by omega)) qGs; have ff : wn.frozen? ⟨w1.heap.size, 3, none⟩ = false := (Rch.frule hC w1.heap.size 3 (by omega) (by first | (simp <;> omega) | omega)).trans qFz; have cc := hC.cell (b := w1.heap.size) (o := 4) (.inr (by omega)) qGs; have ff : wn.frozen? ⟨w1.heap.size, 4, none⟩ = false := (Rch.frule hC w1.heap.size 4 (by omega) (by first | (simp <;> omega) | omega)).trans qFz; clear hC) | (go_at_call 51; refine (oneLit_c _ _ _ rb _ _ (by repeat (first | (with_reducible exact hr) | (with_reducible apply Rd.drewN) | (with_reducible apply Rd.drew) | (with_reducible apply Rd.alloc) | ((with_reducible apply Rd.set2); (· first | assumption | (simp; omega) | (simp; done) | omega)))) (by omega) (by rfl) (by rfl) (by constructor <;> simp) (by first | rfl | simp)).mono ?_; rintro e wn ⟨x, rfl, hxm, hr, hC⟩; have X : Rch rb w wn := Rch.step (by (try change Rch rb w _); repeat (first | (with_reducible exact X) | (with_reducible exact Rch.refl _ _) | (with_reducible apply Rch.drewN) | (with_reducible apply Rch.drew) | (with_reducible apply Rch.alloc) | (with_reducible refine Rch.set ?_ (by first | assumption | (simp <;> omega) | omega) _))) hC; have S := hC.size; (try simp at S); have zz : w.heap.size < wn.heap.size := (by omega); have zl := Nat.le_of_lt zz; have cc := hC.cell (b := w.heap.size) (o := 0) (.inr (by omega)) qGs; have ff : wn.frozen? ⟨w.heap.size, 0, none⟩ = false := (Rch.frule hC w.heap.size 0 (by omega) (by first | (simp <;> omega) | omega)).trans qFz; have cc := hC.cell (b := w.heap.size) (o := 1) (.inr (by omega)) qGs; have ff : wn.frozen? ⟨w.heap.size, 1, none⟩ = false := (Rch.frule hC w.heap.size 1 (by omega) (by first | (simp <;> omega) | omega)).trans qFz; have cc := hC.cell (b := w.heap.size) (o := 2) (.inr (by omega)) qGs; have ff : wn.frozen? ⟨w.heap.size, 2, none⟩ = false := (Rch.frule hC w.heap.size 2 (by omega) (by first | (simp <;> omega) | omega)).trans qFz; have cc := hC.cell (b := w.heap.size) (o := 3) (.inr (by omega)) qGs; have ff : wn.frozen? ⟨w.heap.size, 3, none⟩ = false := (Rch.frule hC w.heap.size 3 (by omega) (by first | (simp <;> omega) | omega)).trans qFz; have cc := hC.cell (b := w.heap.size) (o := 4) (.inr (by omega)) qGs; have ff : wn.frozen? ⟨w.heap.size, 4, none⟩ = false := (Rch.frule hC w.heap.size 4 (by omega) (by first | (simp <;> omega) | omega)).trans qFz; have zz : w1.heap.size < wn.heap.size := (by omega); have zl := Nat.le_of_lt zz; have cc := hC.cell (b := w1.heap.size) (o := 0) (.inr (by omega)) qGs; have ff : wn.frozen? ⟨w1.heap.size, 0, none⟩ = false := (Rch.frule hC w1.heap.size 0 (by omega) (by first | (simp <;> omega) | omega)).trans qFz; have cc := hC.cell (b := w1.heap.size) (o := 1) (.inr (by omega)) qGs; have ff : wn.frozen? ⟨w1.heap.size, 1, none⟩ = false := (Rch.frule hC w1.heap.size 1 (by omega) (by first | (simp <;> omega) | omega)).trans qFz; have cc := hC.cell (b := w1.heap.size) (o := 2) (.inr (by omega)) qGs; have ff : wn.frozen? ⟨w1.heap.size, 2, none⟩ = false := (Rch.frule hC w1.heap.size 2 (by omega) (by first | (simp <;> omega) | omega)).trans qFz; have cc := hC.cell (b := w1.heap.size) (o := 3) (.inr (by omega)) qGs; have ff : wn.frozen? ⟨w1.heap.size, 3, none⟩ = false := (Rch.frule hC w1.heap.size 3 (by omega) (by first | (simp <;> omega) | omega)).trans qFz; have cc := hC.cell (b := w1.heap.size) (o := 4) (.inr (by omega)) qGs; have ff : wn.frozen? ⟨w1.heap.size, 4, none⟩ = false := (Rch.frule hC w1.heap.size 4 (by omega) (by first | (simp <;> omega) | omega)).trans qFz; clear hC))
   all_goals
    go_meet
    case rel => exact ⟨⟨_, _, _, _, _, qGs, qGs, qGs, qGs, qGs, (by first | (go_simp; done) | (simp; done) | assumption), (by first | (go_simp; done) | (simp; done) | assumption), (by first | (go_simp; done) | (simp; done) | assumption), (by first | (go_simp; done) | (simp; done) | assumption), (by first | (go_simp; done) | (simp; done) | assumption)⟩, ⟨_, _, _, _, _, qGs, qGs, qGs, qGs, qGs, (by first | (go_simp; done) | (simp; done) | assumption), (by first | (go_simp; done) | (simp; done) | assumption), (by first | (go_simp; done) | (simp; done) | assumption), (by first | (go_simp; done) | (simp; done) | assumption), (by first | (go_simp; done) | (simp; done) | assumption)⟩, Rd.mono (by repeat (first | (with_reducible exact hr) | (with_reducible apply Rd.drewN) | (with_reducible apply Rd.drew) | (with_reducible apply Rd.alloc) | ((with_reducible apply Rd.set2); (· first | assumption | (simp; omega) | (simp; done) | omega)))) (by omega), (by (try change Rch rb w _); repeat (first | (with_reducible exact X) | (with_reducible exact Rch.refl _ _) | (with_reducible apply Rch.drewN) | (with_reducible apply Rch.drew) | (with_reducible apply Rch.alloc) | (with_reducible refine Rch.set ?_ (by first | assumption | (simp <;> omega) | omega) _)))⟩
  case rest =>
   obtain ⟨g1, g2, hr, X⟩ := hcut
   have z1 := g1.lt
   have z2 := g2.lt
   obtain ⟨F, T, B, hf, ht, c0, c1, c2, c3, c4, f0, f1, f2, f3, f4⟩ := g1
   obtain ⟨F', T', B', hf', ht', c0', c1', c2', c3', c4', f0', f1', f2', f3', f4'⟩ := g2
   go_wp2_with fail
   refine (pick1_c _ rb _ _ (by repeat (first | (with_reducible exact hr) | (with_reducible apply Rd.drewN) | (with_reducible apply Rd.drew) | (with_reducible apply Rd.alloc) | ((with_reducible apply Rd.set2); (· first | assumption | (simp; omega) | (simp; done) | omega)))) (by omega) (by omega)).mono ?_; rintro e w4 ⟨x4, rfl, ⟨hx0, hx1⟩, hr, hC⟩; have X : Rch rb w w4 := Rch.step (by (try change Rch rb w _); repeat (first | (with_reducible exact X) | (with_reducible exact Rch.refl _ _) | (with_reducible apply Rch.drewN) | (with_reducible apply Rch.drew) | (with_reducible apply Rch.alloc) | (with_reducible refine Rch.set ?_ (by first | assumption | (simp <;> omega) | omega) _))) hC; have S := hC.size; (try simp at S); have zz : w.heap.size < w4.heap.size := (by omega); have zl := Nat.le_of_lt zz; have cc := hC.cell (b := w.heap.size) (o := 0) (.inr (by omega)) qGs; have ff : w4.frozen? ⟨w.heap.size, 0, none⟩ = false := (Rch.frule hC w.heap.size 0 (by omega) (by first | (simp <;> omega) | omega)).trans qFz; have cc := hC.cell (b := w.heap.size) (o := 1) (.inr (by omega)) qGs; have ff : w4.frozen? ⟨w.heap.size, 1, none⟩ = false := (Rch.frule hC w.heap.size 1 (by omega) (by first | (simp <;> omega) | omega)).trans qFz; have cc := hC.cell (b := w.heap.size) (o := 2) (.inr (by omega)) qGs; have ff : w4.frozen? ⟨w.heap.size, 2, none⟩ = false := (Rch.frule hC w.heap.size 2 (by omega) (by first | (simp <;> omega) | omega)).trans qFz; have cc := hC.cell (b := w.heap.size) (o := 3) (.inr (by omega)) qGs; have ff : w4.frozen? ⟨w.heap.size, 3, none⟩ = false := (Rch.frule hC w.heap.size 3 (by omega) (by first | (simp <;> omega) | omega)).trans qFz; have cc := hC.cell (b := w.heap.size) (o := 4) (.inr (by omega)) qGs; have ff : w4.frozen? ⟨w.heap.size, 4, none⟩ = false := (Rch.frule hC w.heap.size 4 (by omega) (by first | (simp <;> omega) | omega)).trans qFz; have zz : w1.heap.size < w4.heap.size := (by omega); have zl := Nat.le_of_lt zz; have cc := hC.cell (b := w1.heap.size) (o := 0) (.inr (by omega)) qGs; have ff : w4.frozen? ⟨w1.heap.size, 0, none⟩ = false := (Rch.frule hC w1.heap.size 0 (by omega) (by first | (simp <;> omega) | omega)).trans qFz; have cc := hC.cell (b := w1.heap.size) (o := 1) (.inr (by omega)) qGs; have ff : w4.frozen? ⟨w1.heap.size, 1, none⟩ = false := (Rch.frule hC w1.heap.size 1 (by omega) (by first | (simp <;> omega) | omega)).trans qFz; have cc := hC.cell (b := w1.heap.size) (o := 2) (.inr (by omega)) qGs; have ff : w4.frozen? ⟨w1.heap.size, 2, none⟩ = false := (Rch.frule hC w1.heap.size 2 (by omega) (by first | (simp <;> omega) | omega)).trans qFz; have cc := hC.cell (b := w1.heap.size) (o := 3) (.inr (by omega)) qGs; have ff : w4.frozen? ⟨w1.heap.size, 3, none⟩ = false := (Rch.frule hC w1.heap.size 3 (by omega) (by first | (simp <;> omega) | omega)).trans qFz; have cc := hC.cell (b := w1.heap.size) (o := 4) (.inr (by omega)) qGs; have ff : w4.frozen? ⟨w1.heap.size, 4, none⟩ = false := (Rch.frule hC w1.heap.size 4 (by omega) (by first | (simp <;> omega) | omega)).trans qFz; clear hC
   clear c0 c1 c2 c3 c4 f0 f1 f2 f3 f4 c0' c1' c2' c3' c4' f0' f1' f2' f3' f4'
   go_upto_block 0 with fail
   go_cut [] (fun wx => SlAt wx w1.heap.size ∧ SlAt wx w.heap.size ∧ Rd wx rb (k+9) ∧ Rch rb w wx)
   case first =>
    go_wp2_with (first | (go_at_call 51; refine (oneLit_c _ _ _ rb _ _ (by repeat (first | (with_reducible exact hr) | (with_reducible apply Rd.drewN) | (with_reducible apply Rd.drew) | (with_reducible apply Rd.alloc) | ((with_reducible apply Rd.set2); (· first | assumption | (simp; omega) | (simp; done) | omega)))) (by omega) (by rfl) (by rfl) (by constructor <;> simp) (by first | rfl | simp)).mono ?_; rintro e wn ⟨x, rfl, hxm, hr, hC⟩; have X : Rch rb w wn := Rch.step (by (try change Rch rb w _); repeat (first | (with_reducible exact X) | (with_reducible exact Rch.refl _ _) | (with_reducible apply Rch.drewN) | (with_reducible apply Rch.drew) | (with_reducible apply Rch.alloc) | (with_reducible refine Rch.set ?_ (by first | assumption | (simp <;> omega) | omega) _))) hC; have S := hC.size; (try simp at S); have zz : w.heap.size < wn.heap.size := (by omega); have zl := Nat.le_of_lt zz; have cc := hC.cell (b := w.heap.size) (o := 0) (.inr (by omega)) qGs; have ff : wn.frozen? ⟨w.heap.size, 0, none⟩ = false := (Rch.frule hC w.heap.size 0 (by omega) (by first | (simp <;> omega) | omega)).trans qFz; have cc := hC.cell (b := w.heap.size) (o := 1) (.inr (by omega)) qGs; have ff : wn.frozen? ⟨w.heap.size, 1, none⟩ = false := (Rch.frule hC w.heap.size 1 (by omega) (by first | (simp <;> omega) | omega)).trans qFz; have cc := hC.cell (b := w.heap.size) (o := 2) (.inr (by omega)) qGs; have ff : wn.frozen? ⟨w.heap.size, 2, none⟩ = false := (Rch.frule hC w.heap.size 2 (by omega) (by first | (simp <;> omega) | omega)).trans qFz; have cc := hC.cell (b := w.heap.size) (o := 3) (.inr (by omega)) qGs; have ff : wn.frozen? ⟨w.heap.size, 3, none⟩ = false := (Rch.frule hC w.heap.size 3 (by omega) (by first | (simp <;> omega) | omega)).trans qFz; have cc := hC.cell (b := w.heap.size) (o := 4) (.inr (by omega)) qGs; have ff : wn.frozen? ⟨w.heap.size, 4, none⟩ = false := (Rch.frule hC w.heap.size 4 (by omega) (by first | (simp <;> omega) | omega)).trans qFz; have zz : w1.heap.size < wn.heap.size := (by omega); have zl := Nat.le_of_lt zz; have cc := hC.cell (b := w1.heap.size) (o := 0) (.inr (by omega)) qGs; have ff : wn.frozen? ⟨w1.heap.size, 0, none⟩ = false := (Rch.frule hC w1.heap.size 0 (by omega) (by first | (simp <;> omega) | omega)).trans qFz; have cc := hC.cell (b := w1.heap.size) (o := 1) (.inr (by omega)) qGs; have ff : wn.frozen? ⟨w1.heap.size, 1, none⟩ = false := (Rch.frule hC w1.heap.size 1 (by omega) (by first | (simp <;> omega) | omega)).trans qFz; have cc := hC.cell (b := w1.heap.size) (o := 2) (.inr (by omega)) qGs; have ff : wn.frozen? ⟨w1.heap.size, 2, none⟩ = false := (Rch.frule hC w1.heap.size 2 (by omega) (by first | (simp <;> omega) | omega)).trans qFz; have cc := hC.cell (b := w1.heap.size) (o := 3) (.inr (by omega)) qGs; have ff : wn.frozen? ⟨w1.heap.size, 3, none⟩ = false := (Rch.frule hC w1.heap.size 3 (by omega) (by first | (simp <;> omega) | omega)).trans qFz; have cc := hC.cell (b := w1.heap.size) (o := 4) (.inr (by omega)) qGs; have ff : wn.frozen? ⟨w1.heap.size, 4, none⟩ = false := (Rch.frule hC w1.heap.size 4 (by omega) (by first | (simp <;> omega) | omega)).trans qFz; clear hC))
    all_goals
     go_meet
     case rel => exact ⟨⟨_, _, _, _, _, qGs, qGs, qGs, qGs, qGs, (by first | (go_simp; done) | (simp; done) | assumption), (by first | (go_simp; done) | (simp; done) | assumption), (by first | (go_simp; done) | (simp; done) | assumption), (by first | (go_simp; done) | (simp; done) | assumption), (by first | (go_simp; done) | (simp; done) | assumption)⟩, ⟨_, _, _, _, _, qGs, qGs, qGs, qGs, qGs, (by first | (go_simp; done) | (simp; done) | assumption), (by first | (go_simp; done) | (simp; done) | assumption), (by first | (go_simp; done) | (simp; done) | assumption), (by first | (go_simp; done) | (simp; done) | assumption), (by first | (go_simp; done) | (simp; done) | assumption)⟩, Rd.mono (by repeat (first | (with_reducible exact hr) | (with_reducible apply Rd.drewN) | (with_reducible apply Rd.drew) | (with_reducible apply Rd.alloc) | ((with_reducible apply Rd.set2); (· first | assumption | (simp; omega) | (simp; done) | omega)))) (by omega), (by (try change Rch rb w _); repeat (first | (with_reducible exact X) | (with_reducible exact Rch.refl _ _) | (with_reducible apply Rch.drewN) | (with_reducible apply Rch.drew) | (with_reducible apply Rch.alloc) | (with_reducible refine Rch.set ?_ (by first | assumption | (simp <;> omega) | omega) _)))⟩
   case rest =>
    obtain ⟨g1, g2, hr, X⟩ := hcut
    have z1 := g1.lt
    have z2 := g2.lt
    obtain ⟨F, T, B, hf, ht, c0, c1, c2, c3, c4, f0, f1, f2, f3, f4⟩ := g1
    obtain ⟨F', T', B', hf', ht', c0', c1', c2', c3', c4', f0', f1', f2', f3', f4'⟩ := g2
    go_wp2_with fail
    refine bodyPost_ret (v := .agg #[.int .i64 F, .int .i64 T, .int .i64 B, .bool hf, .bool ht]) (by simp only [results, Try.results125]; go_simp) rfl ⟨_, _, _, _, _, rfl, Rd.mono (by repeat (first | (with_reducible exact hr) | (with_reducible apply Rd.drewN) | (with_reducible apply Rd.drew) | (with_reducible apply Rd.alloc) | ((with_reducible apply Rd.set2); (· first | assumption | (simp; omega) | (simp; done) | omega)))) (by omega), (by (try change Rch rb w _); repeat (first | (with_reducible exact X) | (with_reducible exact Rch.refl _ _) | (with_reducible apply Rch.drewN) | (with_reducible apply Rch.drew) | (with_reducible apply Rch.alloc) | (with_reducible refine Rch.set ?_ (by first | assumption | (simp <;> omega) | omega) _)))⟩

end Go.Proofs.Ytpgkhjmboiepcaa

/- Walks: drawn shapes. -/
namespace Go.Proofs.Ytpgkhjmboiepcaa
open Go.RowKit
set_option linter.unusedVariables false
set_option maxRecDepth 100000

theorem Below.chg {B : Nat} {a b : World} (h : Below B a b) : Chg B a.heap.size a b :=
  ⟨h.os, h.tape, h.output, h.size, fun k hk hd => by
    rcases hd with hd | hd
    · exact h.block k hd
    · omega⟩
theorem Rd.below {B : Nat} {a b : World} {rb k : Nat} (h : Rd a rb k) (hb : Below B a b) (hl : rb < B) : Rd b rb k := h.chgO (Below.chg hb) hl
theorem Rch.below {rb : Nat} {w a b : World} (h : Chg rb (rb + 1) w a) (hb : Below w.heap.size a b) : Chg rb (rb + 1) w b :=
  ⟨hb.os.trans h.os, hb.tape.trans h.tape, hb.output.trans h.output, Nat.le_trans h.size hb.size, fun k hk hd => (hb.block k hk).trans (h.block k hk hd)⟩

set_option maxHeartbeats 3200000 in
theorem goodShape_c (rb k : Nat) (w : World) (hr : Rd w rb k) (hk : k ≤ 900000) :
    Calls Try.prog 123 #[.pointer (some ⟨rb, 0, none⟩)] w (fun e w' => ∃ v xs, e = .returned v ∧ OwnI w' w.heap.size v xs ∧ xs.length ≤ 4 ∧ Rd w' rb (k + 8) ∧ Chg rb (rb + 1) w w') := by
  have hlt := hr.lt
  go_enter Try.func123, Try.ntmps123
  go_wp2_with fail
  refine (oneLit_c _ _ _ rb _ _ (by repeat (first | (with_reducible exact hr) | (with_reducible apply Rd.drewN) | (with_reducible apply Rd.drew) | (with_reducible apply Rd.alloc) | ((with_reducible apply Rd.set2); (· first | assumption | (simp; omega) | (simp; done) | omega)))) (by omega) (by rfl) (by rfl) (by constructor <;> simp) (by first | rfl | simp)).mono ?_
  rintro e w1 ⟨n, rfl, hn, hr1, hC1⟩
  have hn' : 0 ≤ n ∧ n ≤ 4 := by simp [litL] at hn; omega
  clear hn
  obtain ⟨m, rfl⟩ : ∃ m : Nat, n = m := ⟨n.toNat, by omega⟩
  have ho1 : OwnI w1 w.heap.size (.slice (some ⟨w.heap.size, 0, none⟩) 0 0) [] := ((OwnI.lit0 w w.heap.size (Nat.le_refl _)).ext qXo).chg hC1 hlt
  have hX1 : Chg rb (rb + 1) w w1 := Chg.trans (Chg.of_ext qXo) hC1
  clear hC1
  go_wp2_with fail
  go_loopw [3, 4] (fun v i wr => ∃ (q m : Nat) (xs : List Int), i = .int .i64 m ∧ xs.length + m ≤ 4 ∧ OwnI wr w.heap.size v xs ∧ Rd wr rb q ∧ q + m ≤ k + 6 ∧ Chg rb (rb + 1) w wr) (fun _ i _ => (intOf i).toNat)
  case atStart => exact ⟨k + 1, m, [], rfl, by simp; omega, ho1, hr1, by omega, hX1⟩
  case round =>
    obtain ⟨q, m, xs, rfl, hl, ho, hr, hq, hX⟩ := hrel
    have hz : w.heap.size ≤ wr.heap.size := hX.size
    cases m with
    | succ m =>
      have hI : (0 : Int) < ((m + 1 : Nat) : Int) := by omega
      have hI2 : ((m + 1 : Nat) : Int) - 1 = (m : Int) := by omega
      go_wp2_with fail
      refine (oneLit_c _ _ _ rb _ _ (by repeat (first | (with_reducible exact hr) | (with_reducible apply Rd.drewN) | (with_reducible apply Rd.drew) | (with_reducible apply Rd.alloc) | ((with_reducible apply Rd.set2); (· first | assumption | (simp; omega) | (simp; done) | omega)))) (by omega) (by rfl) (by rfl) (by constructor <;> simp) (by first | rfl | simp)).mono ?_
      rintro e w2 ⟨x, rfl, hx, hr2, hC2⟩
      have ho2 := (ho.ext qXo).chg hC2 hlt
      have hX2 : Chg rb (rb + 1) w w2 := (hX.ext qXo).trans hC2
      have hz2 : w.heap.size ≤ w2.heap.size := hX2.size
      have i2 := ho2.ints (by omega)
      clear hC2 hX ho hr hx
      go_wp2_with fail
      refine (count_c xs _ _ _ i2).mono ?_
      rintro e w' ⟨rfl, rfl⟩
      clear i2
      replace ho2 := Lib.hid ho2
      replace hX2 := Lib.hid hX2
      replace hr2 := Lib.hid hr2
      generalize countL xs = cc
      go_wp2_with (at_builtin; refine wpList_app rfl (.tmp 22) (.tmp 24) rfl rfl rfl (ho2.out.ext ((Ext.refl _).alloc _)) (Ints.one _ 0 _ (Nat.zero_le _)) (by simp only [List.length_cons, List.length_nil]; omega) (by simp; omega) ?_; intro v' w3 ho3 _ hb3 _; replace ho3 := Lib.hid ho3)
      · go_roundw
        case rel => exact ⟨q + 1, m, xs ++ [x], by first | rfl | go_num, by simp; omega, ho3.out, (hr2.out.alloc _).below hb3 hlt, by omega, Rch.below (hX2.out.ext qXo) hb3⟩
        case measure => simp [intOf]
      · go_roundw
        case rel => exact ⟨q + 1, m, xs, by first | rfl | go_num, by omega, ho2.out, hr2.out, by omega, hX2.out⟩
        case measure => simp [intOf]
    | zero =>
      replace ho := Lib.hid ho
      replace hX := Lib.hid hX
      go_wp2_with fail
      go_ret
      exact ⟨_, xs, rfl, ho.out, by omega, hr.mono (by omega), hX.out⟩

end Go.Proofs.Ytpgkhjmboiepcaa

/- Words for drawn views: a view in a block, with rows of its own. No condition. -/
namespace Go.Proofs.Ytpgkhjmboiepcaa
open Go.RowKit
set_option linter.unusedVariables false
set_option maxRecDepth 100000

/-- a view lies in block g; its rows are the call's own, from block B on, not g -/
structure VAt (B g : Nat) (w : World) (b : Int) (u v : Value) (s t : List Int) : Prop where
  c0 : w.cell? ⟨g, 0, none⟩ = some (.int .i64 b)
  c1 : w.cell? ⟨g, 1, none⟩ = some u
  c2 : w.cell? ⟨g, 2, none⟩ = some v
  f0 : w.frozen? ⟨g, 0, none⟩ = false
  f1 : w.frozen? ⟨g, 1, none⟩ = false
  f2 : w.frozen? ⟨g, 2, none⟩ = false
  o1 : OwnZ w B u s
  o2 : OwnZ w B v t
  sep : s ≠ [] → t ≠ [] → u.ownBlock ≠ v.ownBlock
  n1 : s ≠ [] → u.ownBlock ≠ some g
  n2 : t ≠ [] → v.ownBlock ≠ some g
  fit : t.length = s.length
  le : s.length ≤ 4
section
variable {B g rb lo hi : Nat} {w w' : World} {b : Int} {u v : Value} {s t : List Int}
theorem VAt.lt (h : VAt B g w b u v s t) : g < w.heap.size := qB h.c0
theorem VAt.ext (h : VAt B g w b u v s t) (x : Ext w w') : VAt B g w' b u v s t :=
  ⟨x.cell h.c0, x.cell h.c1, x.cell h.c2, x.frz h.lt h.f0, x.frz h.lt h.f1, x.frz h.lt h.f2, h.o1.ext x, h.o2.ext x, h.sep, h.n1, h.n2, h.fit, h.le⟩
theorem VAt.rch (h : VAt B g w b u v s t) (k : Chg rb (rb + 1) w w') (h1 : rb < B) (h2 : rb < g) : VAt B g w' b u v s t :=
  ⟨k.cell (by omega) h.c0, k.cell (by omega) h.c1, k.cell (by omega) h.c2, k.frzO (by omega) h.lt h.f0, k.frzO (by omega) h.lt h.f1, k.frzO (by omega) h.lt h.f2, h.o1.chg k (by omega), h.o2.chg k (by omega), h.sep, h.n1, h.n2, h.fit, h.le⟩
/-- another block has turned, behind the rows and the view -/
theorem VAt.chgB (h : VAt B g w b u v s t) (k : Chg lo hi w w') (hg : g < lo) (h1 : s ≠ [] → ∀ q, u.ownBlock = some q → q < lo) (h2 : t ≠ [] → ∀ q, v.ownBlock = some q → q < lo) : VAt B g w' b u v s t :=
  ⟨k.cell (by omega) h.c0, k.cell (by omega) h.c1, k.cell (by omega) h.c2, k.frzO (by omega) h.lt h.f0, k.frzO (by omega) h.lt h.f1, k.frzO (by omega) h.lt h.f2, h.o1.chgB k h1, h.o2.chgB k h2, h.sep, h.n1, h.n2, h.fit, h.le⟩
/-- another block has turned, ahead of the rows, not the view's -/
theorem VAt.chg (h : VAt B g w b u v s t) (k : Chg lo hi w w') (hg : g < lo ∨ hi ≤ g) (hb : hi ≤ B) : VAt B g w' b u v s t :=
  ⟨k.cell hg h.c0, k.cell hg h.c1, k.cell hg h.c2, k.frzO hg h.lt h.f0, k.frzO hg h.lt h.f1, k.frzO hg h.lt h.f2, h.o1.chg k hb, h.o2.chg k hb, h.sep, h.n1, h.n2, h.fit, h.le⟩
theorem VAt.lower (h : VAt B g w b u v s t) {B' : Nat} (hb : B' ≤ B) : VAt B' g w b u v s t := ⟨h.c0, h.c1, h.c2, h.f0, h.f1, h.f2, h.o1.lower hb, h.o2.lower hb, h.sep, h.n1, h.n2, h.fit, h.le⟩
theorem VAt.new (b : Int) (o1 : OwnZ w B u s) (o2 : OwnZ w B v t) (hs : s ≠ [] → t ≠ [] → u.ownBlock ≠ v.ownBlock) (hf : t.length = s.length) (hl : s.length ≤ 4) : VAt B w.heap.size (w.alloc (.cells #[.int .i64 b, u, v] 25)) b u v s t :=
  ⟨by simp, by simp, by simp, by simp, by simp, by simp, o1.ext ((Ext.refl w).alloc _), o2.ext ((Ext.refl w).alloc _), hs, (fun h e => by have := o1.bound h _ e; omega), (fun h e => by have := o2.bound h _ e; omega), hf, hl⟩
theorem VAt.setBase (h : VAt B g w b u v s t) (x : Int) : VAt B g (w.setCell ⟨g, 0, none⟩ (.int .i64 x)) x u v s t := by
  have k : Chg g (g + 1) w (w.setCell ⟨g, 0, none⟩ (.int .i64 x)) := (Chg.refl g (g + 1) w).setCell (p := ⟨g, 0, none⟩) (Nat.le_refl _) (Nat.lt_succ_self _) _
  obtain ⟨c0, c1, c2, f0, f1, f2, o1, o2, hs, n1, n2, hf, hl⟩ := h
  have kz : ∀ {y : Value} {xs : List Int}, OwnZ w B y xs → (xs ≠ [] → y.ownBlock ≠ some g) → OwnZ (w.setCell ⟨g, 0, none⟩ (.int .i64 x)) B y xs := by
    intro y xs o n
    rcases o with ho | ho
    · exact .inl ho
    · by_cases hx : xs = []
      · subst hx
        have : y.ownBlock ≠ some g ∨ y.ownBlock = some g := by by_cases h : y.ownBlock = some g; exact .inr h; exact .inl h
        rcases ho.2 with h2 | ⟨g', cap, cur, rfl, hb, hh, r⟩
        · exact .inr ⟨ho.1, .inl h2⟩
        · refine .inl ⟨rfl, some ⟨g', 0, none⟩, cap, rfl, r.2.1, fun h => by cases h⟩
      · obtain ⟨g', cap, e, _⟩ := ho.row hx
        subst e
        have : g' ≠ g := fun h => n hx (by rw [h]; rfl)
        exact .inr (ho.chgN k (by omega))
  exact ⟨by go_simp, by go_simp, by go_simp, by go_simp, by go_simp, by go_simp, kz o1 n1, kz o2 n2, hs, n1, n2, hf, hl⟩
end
/-- a view is stored into a block that lies ahead of its rows -/
theorem VAt.put {B g : Nat} {w : World} {b b0 : Int} {u v u0 v0 : Value} {s t : List Int} (c0 : w.cell? ⟨g, 0, none⟩ = some (.int .i64 b0)) (c1 : w.cell? ⟨g, 1, none⟩ = some u0) (c2 : w.cell? ⟨g, 2, none⟩ = some v0)
    (f0 : w.frozen? ⟨g, 0, none⟩ = false) (f1 : w.frozen? ⟨g, 1, none⟩ = false) (f2 : w.frozen? ⟨g, 2, none⟩ = false) (o1 : OwnZ w B u s) (o2 : OwnZ w B v t) (hs : s ≠ [] → t ≠ [] → u.ownBlock ≠ v.ownBlock) (hf : t.length = s.length) (hl : s.length ≤ 4) (hg : g < B) :
    VAt B g (((w.setCell ⟨g, 0, none⟩ (.int .i64 b)).setCell ⟨g, 1, none⟩ u).setCell ⟨g, 2, none⟩ v) b u v s t := by
  have k := Chg.three (lo := g) w (.int .i64 b) u v
  have m1 : s ≠ [] → u.ownBlock ≠ some g := fun h e => by obtain ⟨q, e2, h2, _⟩ := o1.lt h; rw [e2] at e; cases e; omega
  have m2 : t ≠ [] → v.ownBlock ≠ some g := fun h e => by obtain ⟨q, e2, h2, _⟩ := o2.lt h; rw [e2] at e; cases e; omega
  exact ⟨by go_simp, by go_simp, by go_simp, by go_simp, by go_simp, by go_simp, o1.chg k (by omega), o2.chg k (by omega), hs, m1, m2, hf, hl⟩

/-- a view that is told to be one has a dimension -/
def VBool.live (x : VBool) : Prop := x.2.2.2 = true → x.2.1 ≠ []
theorem noV_live : VBool.live noV := fun h => by cases h
theorem madeV_live {b : Int} {s t : List Int} (h : s ≠ []) : VBool.live (madeV b s t) := by
  unfold madeV; split
  · exact fun _ => h
  · exact noV_live
theorem sliceV_live {b : Int} {s t : List Int} {d F T B : Int} {hf ht : Bool} (h : s ≠ []) : VBool.live (sliceV b s t d F T B hf ht) := by
  unfold sliceV; split
  · exact fun _ h2 => h (by simpa [cutS] using h2)
  · exact noV_live
theorem permV_live {b : Int} {s t ord : List Int} (h : s ≠ []) : VBool.live (permV b s t ord) := by
  unfold permV; split
  · rename_i hh
    simp only [Bool.and_eq_true, orderB, decide_eq_true_eq] at hh
    refine madeV_live fun h2 => h ?_
    have h3 := congrArg List.length h2
    rw [takL_len] at h3
    have := hh.2.1
    exact List.eq_nil_of_length_eq_zero (by simp at h3; rw [h3] at this; simp at this; omega)
  · exact noV_live
theorem addV_live {b : Int} {s t : List Int} {d : Int} : VBool.live (addV b s t d) := by
  unfold addV; split
  · exact madeV_live (by simp [insL])
  · exact noV_live
theorem winV_live {b : Int} {s t : List Int} {d n : Int} : VBool.live (winV b s t d n) := by
  unfold winV; split
  · exact madeV_live (by simp)
  · exact noV_live
/-- a call hands back a view with a bool: as many strides as extents, no more than four -/
def PFit (w : World) (e : Ending) (w' : World) : Prop :=
  ∃ (b : Int) (s t : List Int) (ok : Bool) (p1 p2 : Option Addr) (n1 r1 n2 r2 : Nat), e = .returned (.tuple #[.agg #[.int .i64 b, .slice p1 n1 r1, .slice p2 n2 r2], .bool ok]) ∧ OwnZ w' w.heap.size (.slice p1 n1 r1) s ∧ OwnZ w' w.heap.size (.slice p2 n2 r2) t ∧
    (s ≠ [] → t ≠ [] → (Value.slice p1 n1 r1).ownBlock ≠ (Value.slice p2 n2 r2).ownBlock) ∧ t.length = s.length ∧ (s.length ≤ 4 ∧ (ok = true → s ≠ [])) ∧ Ext w w'
theorem PFit.of {w w' : World} {e : Ending} {x : VBool} (h : PVB w x e w') (hf : x.fit) (hv : x.live) : PFit w e w' := by
  obtain ⟨b, s, t, ok⟩ := x
  obtain ⟨sh, st, rfl, -, -, o1, o2, od, xx⟩ := h
  obtain ⟨p1, n1, r1, rfl⟩ := o1.form
  obtain ⟨p2, n2, r2, rfl⟩ := o2.form
  exact ⟨b, s, t, ok, p1, p2, n1, r1, n2, r2, rfl, o1, o2, od, hf.1, ⟨hf.2, hv⟩, xx⟩
theorem newT_len (xs : List Int) : (newT xs).length = (newS xs).length := by
  unfold newT newS; split
  · split
    · simp
    · rw [rowS_len]
  · rfl
theorem newS_le {xs : List Int} (h : xs.length ≤ 4) : (newS xs).length ≤ 4 := by unfold newS; split; exact h; simp

theorem OwnZ.setRow {B g n c d : Nat} {w : World} {xs : List Int} (h : OwnZ w B (.slice (some ⟨g, 0, none⟩) n c) xs) (hd : d < xs.length) (x : Int) : OwnZ (w.setCell ⟨g, d, none⟩ (.int .i64 x)) B (.slice (some ⟨g, 0, none⟩) n c) (xs.set d x) :=
  .inr ((h.ofNe (by intro h; subst h; simp at hd)).set d x hd)
theorem OwnZ.otherRow {B g d : Nat} {w : World} {y : Value} {xs : List Int} (h : OwnZ w B y xs) (hne : xs ≠ [] → y.ownBlock ≠ some g) (x : Value) (hy : xs = [] → ∃ a c, y = .slice a 0 c ∧ c ≤ maxLen ∧ (a = none → c = 0)) : OwnZ (w.setCell ⟨g, d, none⟩ x) B y xs := by
  by_cases hx : xs = []
  · subst hx; obtain ⟨a, c, e, h1, h2⟩ := hy rfl; exact .inl ⟨rfl, a, c, e, h1, h2⟩
  · obtain ⟨g', cap, e, _⟩ := (h.ofNe hx).row hx
    subst e
    have k : Chg g (g + 1) w (w.setCell ⟨g, d, none⟩ x) := (Chg.refl g (g + 1) w).setCell (p := ⟨g, d, none⟩) (Nat.le_refl _) (Nat.lt_succ_self _) _
    have : g' ≠ g := fun h => hne hx (by rw [h]; rfl)
    exact .inr ((h.ofNe hx).chgN k (by omega))
theorem VAt.setT {B g g2 n2 r2 d : Nat} {w : World} {b : Int} {u : Value} {s t : List Int} (h : VAt B g w b u (.slice (some ⟨g2, 0, none⟩) n2 r2) s t) (hd : d < t.length) (x : Int) : VAt B g (w.setCell ⟨g2, d, none⟩ (.int .i64 x)) b u (.slice (some ⟨g2, 0, none⟩) n2 r2) s (t.set d x) := by
  have hne : t ≠ [] := by intro h; subst h; simp at hd
  have hg : g2 ≠ g := fun e => h.n2 hne (by rw [e]; rfl)
  have k : Chg g2 (g2 + 1) w (w.setCell ⟨g2, d, none⟩ (.int .i64 x)) := (Chg.refl g2 (g2 + 1) w).setCell (p := ⟨g2, d, none⟩) (Nat.le_refl _) (Nat.lt_succ_self _) _
  have hset : t.set d x ≠ [] := by intro e; have := congrArg List.length e; simp at this; exact hne (by simpa using this)
  have hsn : s ≠ [] := by intro e; have := h.fit; rw [e] at this; exact hne (List.eq_nil_of_length_eq_zero this)
  refine ⟨k.cell (by omega) h.c0, k.cell (by omega) h.c1, k.cell (by omega) h.c2, k.frzO (by omega) h.lt h.f0, k.frzO (by omega) h.lt h.f1, k.frzO (by omega) h.lt h.f2, ?_, h.o2.setRow hd x, fun a _ => h.sep a hne, h.n1, fun _ => h.n2 hne, by rw [List.length_set]; exact h.fit, h.le⟩
  exact h.o1.otherRow (fun a e => h.sep a hne (by rw [e]; rfl)) _ (fun e => absurd e hsn)

/-- the state behind the choice of the next view -/
def NextAt (rb q gn gv : Nat) (w : World) (b : Int) (u v : Value) (s t : List Int) (ok : Value) (wx : World) : Prop :=
  ∃ (o : Bool) (b' : Int) (s' t' : List Int) (p1 p2 : Option Addr) (m1 r1 m2 r2 : Nat), ok = .bool o ∧ (o = true → s' ≠ []) ∧ VAt (gn + 1) gn wx b' (.slice p1 m1 r1) (.slice p2 m2 r2) s' t' ∧ VAt (w.heap.size + 1) gv wx b u v s t ∧
    VAt (w.heap.size + 1) w.heap.size wx 0 (.slice none 0 0) (.slice none 0 0) [] [] ∧ Rd wx rb (q + 20) ∧ Rch rb w wx
theorem NextAt.put {rb q gn gv B0 B m1 r1 m2 r2 : Nat} {w w12 : World} {b bn b' : Int} {u v un vn : Value} {p1 p2 : Option Addr} {s t sn tn s' t' : List Int} (o : Bool) (VN : VAt B0 gn w12 bn un vn sn tn) (V : VAt (w.heap.size + 1) gv w12 b u v s t)
    (Q : VAt (w.heap.size + 1) w.heap.size w12 0 (.slice none 0 0) (.slice none 0 0) [] []) (hr : Rd w12 rb (q + 20)) (X : Rch rb w w12) (h1 : rb < w.heap.size) (h2 : w.heap.size < gv) (h3 : gv < gn)
    (hb1 : s ≠ [] → ∀ g, u.ownBlock = some g → g < gn) (hb2 : t ≠ [] → ∀ g, v.ownBlock = some g → g < gn) (o1 : OwnZ w12 B (.slice p1 m1 r1) s') (o2 : OwnZ w12 B (.slice p2 m2 r2) t') (hs : s' ≠ [] → t' ≠ [] → (Value.slice p1 m1 r1).ownBlock ≠ (Value.slice p2 m2 r2).ownBlock) (hf : t'.length = s'.length) (hl : s'.length ≤ 4 ∧ (o = true → s' ≠ [])) (hB : gn < B) :
    NextAt rb q gn gv w b u v s t (.bool o) (((w12.setCell ⟨gn, 0, none⟩ (.int .i64 b')).setCell ⟨gn, 1, none⟩ (.slice p1 m1 r1)).setCell ⟨gn, 2, none⟩ (.slice p2 m2 r2)) :=
  ⟨o, b', s', t', p1, p2, m1, r1, m2, r2, rfl, hl.2, VAt.put VN.c0 VN.c1 VN.c2 VN.f0 VN.f1 VN.f2 (o1.lower hB) (o2.lower hB) hs hf hl.1 (Nat.lt_succ_self _), V.chgB (Chg.three w12 _ _ _) h3 hb1 hb2,
    Q.chgB (Chg.three w12 _ _ _) (by omega) (fun h => absurd rfl h) (fun h => absurd rfl h),
    Rd.set2 (show rb < gn by omega) (Rd.set2 (show rb < gn by omega) (Rd.set2 (show rb < gn by omega) hr)),
    ((X.set (show w.heap.size ≤ gn by omega) _).set (show w.heap.size ≤ gn by omega) _).set (show w.heap.size ≤ gn by omega) _⟩

end Go.Proofs.Ytpgkhjmboiepcaa

/- Walks: NewView of the reference: an empty row of strides has no capacity. -/
namespace Go.Proofs.Ytpgkhjmboiepcaa
open Go.RowKit
set_option linter.unusedVariables false
set_option maxRecDepth 100000

set_option maxHeartbeats 800000 in
theorem srowStrides2_c (xs : List Int) (v : Value) (w : World) (lo : Nat) (hv : Ints w lo v xs) (hs : Small xs) :
    Calls Try.prog 143 #[v] w (fun e w' => ∃ c, e = .returned (.slice (some ⟨w.heap.size, 0, none⟩) (rowS xs).length c) ∧ ((rowS xs).length = 0 → c = 0) ∧ Ints w' w.heap.size (.slice (some ⟨w.heap.size, 0, none⟩) (rowS xs).length c) (rowS xs) ∧ OwnZ w' w.heap.size (.slice (some ⟨w.heap.size, 0, none⟩) (rowS xs).length c) (rowS xs) ∧ Ext w w') := by
  obtain ⟨a, cap, rfl, hlc, hcm, ⟨hlen, _⟩, hc⟩ := hv
  obtain ⟨i0, hi, hz0, hz1, hz2⟩ := info_parts infoInt
  have hsb := Lib.hid (fun j : Nat => (hs.drop j).count)
  have hse := Lib.hid hs.2
  clear hs
  go_enter Try.func143, Try.ntmps143
  go_wp2_with (at_make; refine wpList_make_full _ rfl _ _ 23 rfl w.heap.size 3 i0 (.int .i64 0) 1 Try.underlying23 hi hz0 hz1 .i64 .i64 _ _ xs.length rfl rfl rfl rfl (by rw [hz2]; omega) (by unfold maxLen; omega) (Nat.le_refl _) ?_)
  intro w1 hown hgr
  have hx : Ext w w1 := (Ext.refl w).grown hgr (by simp)
  rw [made_ints] at hown
  clear hgr
  go_wp2_with fail
  go_loopw [4, 5] (fun kk i wr => ∃ j : Nat, j ≤ xs.length ∧ i = .int .i64 ((j : Int) - 1) ∧ kk = .int .i64 (prodL (xs.drop j)) ∧
      wr.ownsRow w.heap.size 3 1 (.slice (some ⟨w.heap.size, 0, none⟩) xs.length xs.length) xs.length ((List.replicate j 0 ++ rowS (xs.drop j)).map (Value.int .i64)) ∧ Ext w wr)
    (fun _ i _ => (intOf i + 1).toNat)
  case atStart => exact ⟨xs.length, Nat.le_refl _, by go_num, by simp [prodL], by simpa [rowS] using hown, hx⟩
  case round =>
    obtain ⟨j, hj, rfl, rfl, ho, hxr⟩ := hrel
    cases j with
    | zero =>
      go_wp2_with fail
      go_ret
      have hO : OwnI wr w.heap.size (.slice (some ⟨w.heap.size, 0, none⟩) xs.length xs.length) (rowS xs) := by unfold OwnI; rw [rowS_len]; simpa using ho
      have hz : (rowS xs).length = xs.length := rowS_len xs
      exact ⟨xs.length, (by rw [hz]; rfl), (fun h => by omega), by rw [hz]; exact hO.ints (by omega), by rw [hz]; exact hO.z, hxr⟩
    | succ m =>
      rw [show ((m + 1 : Nat) : Int) - 1 = (m : Int) by omega]
      obtain ⟨b, off, rfl, _, hcell, _⟩ := hc m (by omega)
      have hcell' := hxr.cell hcell
      have hbl : b < w.heap.size := qB hcell
      have hne : b ≠ w.heap.size := by omega
      have hne2 : w.heap.size ≠ b := by omega
      obtain ⟨hoc, hof⟩ := own_cell ho m (by omega)
      have hb1 := hsb.out (m+1)
      have he := hse.out (xs.getD m 0) (by simp [show m < xs.length by omega])
      have hp := prodL_drop xs m (by omega)
      have hpb : 0 ≤ prodL (xs.drop (m+1)) ∧ prodL (xs.drop (m+1)) ≤ 12960000 := by rw [← hb1.1]; exact ⟨hb1.2.1, hb1.2.2.1⟩
      have hmb := mul_bd2 he.1 he.2 hpb.1 hpb.2
      have hst := Lib.hid (own_set ho m (prodL (xs.drop (m+1))) (by omega))
      have hrs := Lib.hid (rowS_drop xs m (by omega))
      have hmI : (m : Int) < xs.length := by omega
      have hp' := Lib.hid hp
      generalize hg : xs.getD m 0 = q at *
      replace hg := Lib.hid hg
      have W1 : IntKind.i64.wrap (prodL (xs.drop (m+1)) * q) = prodL (xs.drop (m+1)) * q := IntWalk.i64_in _ (by omega)
      clear hc ho hb1 hp he
      go_wp2_with fail
      go_roundw
      case rel =>
        refine ⟨m, by omega, rfl, by rw [hp'.out, Int.mul_comm], ?_, hxr.setCell (Nat.le_refl _) _⟩
        have := hst.out
        rw [hrs.out]
        rw [set_rep] at this
        simpa using this
      case measure => simp [intOf]

def PViewE (w : World) (b : Int) (s t : List Int) (e : Ending) (w' : World) : Prop := PView w b s t e w' ∧ (t = [] → ∃ b' u a, e = .returned (.agg #[b', u, .slice a 0 0]))
set_option maxHeartbeats 3200000 in
theorem newView2_c (xs : List Int) (v : Value) (w : World) (lo : Nat) (hv : Ints w lo v xs) :
    Calls Try.prog 122 #[v] w (PViewE w 0 (newS xs) (newT xs)) := by
  have hlen := ints_len hv
  cases h1 : shapeB xs
  · have hS := Lib.hid (show newS xs = [] by unfold newS; rw [h1]; rfl)
    have hT := Lib.hid (show newT xs = [] by unfold newT; rw [h1]; rfl)
    go_enter Try.func122, Try.ntmps122
    go_wp2_with fail
    refine (validShape_c xs _ _ lo (hv.ext qXo)).mono ?_
    rintro e w' ⟨rfl, rfl⟩
    rw [h1]
    go_wp2_with fail
    refine bodyPost_ret (v := .agg #[.int .i64 0, .slice none 0 0, .slice none 0 0]) (by simp only [results, Try.results122]; go_simp) rfl ?_
    rw [hS.out, hT.out]
    exact ⟨PView.no qXt, fun _ => ⟨_, _, none, rfl⟩⟩
  · have hsm := Lib.hid (Small.of h1)
    have hS := Lib.hid (show newS xs = xs by unfold newS; rw [h1]; rfl)
    by_cases h2 : countL xs = 0
    · have hT := Lib.hid (show newT xs = List.replicate xs.length 0 by unfold newT; rw [h1, if_pos rfl, if_pos h2])
      have h1' := Lib.hid h1
      have h2' := Lib.hid h2
      have hmk := mk_ints xs.length hlen
      clear h1 h2
      obtain ⟨a, c, rfl⟩ := hv.form
      go_enter Try.func122, Try.ntmps122
      go_wp2_with fail
      refine (validShape_c xs _ _ lo (hv.ext qXo)).mono ?_
      rintro e w' ⟨rfl, rfl⟩
      rw [h1'.out]
      go_wp2_with fail
      refine (count_c xs _ _ lo (hv.ext qXo)).mono ?_
      rintro e w' ⟨rfl, rfl⟩
      rw [h2'.out]
      go_wp2_with fail
      have hx0 : Ext w (w.alloc (.cells #[.int .i64 0, .slice none 0 0, .slice none 0 0] 25)) := (Ext.refl _).alloc _
      have k0 : (w.alloc (.cells #[.int .i64 0, .slice none 0 0, .slice none 0 0] 25)).cell? ⟨w.heap.size, 0, none⟩ = some (.int .i64 0) := by simp
      have k1 : (w.alloc (.cells #[.int .i64 0, .slice none 0 0, .slice none 0 0] 25)).cell? ⟨w.heap.size, 1, none⟩ = some (.slice none 0 0) := by simp
      have k2 : (w.alloc (.cells #[.int .i64 0, .slice none 0 0, .slice none 0 0] 25)).cell? ⟨w.heap.size, 2, none⟩ = some (.slice none 0 0) := by simp
      have f0 : (w.alloc (.cells #[.int .i64 0, .slice none 0 0, .slice none 0 0] 25)).frozen? ⟨w.heap.size, 0, none⟩ = false := by simp
      have f1 : (w.alloc (.cells #[.int .i64 0, .slice none 0 0, .slice none 0 0] 25)).frozen? ⟨w.heap.size, 1, none⟩ = false := by simp
      have f2 : (w.alloc (.cells #[.int .i64 0, .slice none 0 0, .slice none 0 0] 25)).frozen? ⟨w.heap.size, 2, none⟩ = false := by simp
      have z0 : w.heap.size < (w.alloc (.cells #[.int .i64 0, .slice none 0 0, .slice none 0 0] 25)).heap.size := by simp
      revert hx0 k0 k1 k2 f0 f1 f2 z0
      generalize w.alloc (.cells #[.int .i64 0, .slice none 0 0, .slice none 0 0] 25) = w0
      intro hx0 k0 k1 k2 f0 f1 f2 z0
      go_region_held3 (fun _ => True) (trivial)
        (first | (go_at_call 42; refine (copyInts_c xs _ _ lo (hv.ext (hx0.trans qXo))).mono ?_; rintro e w1 ⟨v1, rfl, hi1, ho1, hx1⟩; obtain ⟨p1, q1, s1, rfl⟩ := ho1.form; have X1 : Ext w0 w1 := Ext.trans qXo hx1; have R1 := X1.rule; have F1 := X1.frule; have Z1 := Nat.lt_of_lt_of_le z0 X1.size; have l0 := X1.cell k0; have l1 := X1.cell k1; have l2 := X1.cell k2; have g0 := X1.frz z0 f0; have g1 := X1.frz z0 f1; have g2 := X1.frz z0 f2))
      · go_wp2_with fail
        refine bodyPost_ret (v := .agg #[.int .i64 0, .slice p1 q1 s1, .slice (some ⟨w1.heap.size, 0, none⟩) xs.length xs.length]) (by simp only [results, Try.results122]; go_simp) rfl ?_
        rw [hS.out, hT.out]
        have XX : Ext w w1 := hx0.trans X1
        obtain ⟨n1, rfl⟩ : ∃ n, q1 = n := ⟨_, rfl⟩
        have hb1 := ho1.bound
        have ho2 := fun x y z => (OwnI.made (((w1.setCell ⟨w.heap.size, 0, none⟩ x).setCell ⟨w.heap.size, 1, none⟩ y).setCell ⟨w.heap.size, 2, none⟩ z) w1.heap.size xs.length (by simp) hlen).z
        simp only [World.size_setCell] at ho2
        refine ⟨?_, fun h => ⟨_, _, _, by rw [show xs.length = 0 by simpa using congrArg List.length h]⟩⟩
        exact PView.two (b1 := w.heap.size + 1) (b2 := w1.heap.size) (m := w1.heap.size) (((ho1.lower (by simp <;> omega)).chg (Chg.three _ _ _ _) (Nat.le_refl _)).ext ((Ext.refl _).alloc _)) (ho2 _ _ _) (by omega) (by omega) (.inl ⟨hb1, Nat.le_refl _⟩) hlen (by simp; exact hlen) qXt
      · go_wp2_with fail
        refine bodyPost_ret (v := .agg #[.int .i64 0, .slice p1 q1 s1, .slice (some ⟨w0.heap.size, 0, none⟩) xs.length xs.length]) (by simp only [results, Try.results122]; go_simp) rfl ?_
        rw [hS.out, hT.out]
        have XX : Ext w w1 := hx0.trans X1
        have ho2 := ((OwnI.made w0 w0.heap.size xs.length (Nat.le_refl _) hlen).z).ext (show Ext _ w1 from Ext.trans qXo hx1)
        refine ⟨?_, fun h => ⟨_, _, _, by rw [show xs.length = 0 by simpa using congrArg List.length h]⟩⟩
        exact PView.two (b1 := w0.heap.size + 1) (b2 := w0.heap.size) (m := w0.heap.size + 1) ((ho1.lower (by simp)).chg (Chg.three _ _ _ _) (by omega)) (ho2.chg (Chg.three _ _ _ _) z0) (by omega) (by omega) (.inr ⟨fun _ g hg => by simp [Value.ownBlock] at hg; omega, Nat.le_refl _⟩) hlen (by simp; exact hlen) qXt
    · have hT := Lib.hid (show newT xs = rowS xs by unfold newT; rw [h1, if_pos rfl, if_neg h2])
      have h1' := Lib.hid h1
      have h2' : (countL xs == 0) = false := by simpa using h2
      clear h1 h2
      obtain ⟨a, c, rfl⟩ := hv.form
      go_enter Try.func122, Try.ntmps122
      go_wp2_with fail
      refine (validShape_c xs _ _ lo (hv.ext qXo)).mono ?_
      rintro e w' ⟨rfl, rfl⟩
      rw [h1'.out]
      go_wp2_with fail
      refine (count_c xs _ _ lo (hv.ext qXo)).mono ?_
      rintro e w' ⟨rfl, rfl⟩
      go_wp2_with fail
      refine (copyInts_c xs _ _ lo (hv.ext qXo)).mono ?_
      rintro e w1 ⟨v1, rfl, i1, o1, x1⟩
      have X1 : Ext w w1 := Ext.trans qXo x1
      obtain ⟨a1, c1, rfl⟩ := i1.form
      have k0 := x1.cell (p := ⟨w.heap.size, 0, none⟩) (v := .int .i64 0) (by simp)
      have k1 := x1.cell (p := ⟨w.heap.size, 1, none⟩) (v := .slice none 0 0) (by simp)
      have k2 := x1.cell (p := ⟨w.heap.size, 2, none⟩) (v := .slice none 0 0) (by simp)
      have f0 : w1.frozen? ⟨w.heap.size, 0, none⟩ = false := x1.frz (by simp) (by simp)
      have f1 : w1.frozen? ⟨w.heap.size, 1, none⟩ = false := x1.frz (by simp) (by simp)
      have f2 : w1.frozen? ⟨w.heap.size, 2, none⟩ = false := x1.frz (by simp) (by simp)
      have z1 : w.heap.size < w1.heap.size := qB k0
      go_wp2_with fail
      refine (srowStrides2_c xs _ _ lo (hv.ext X1) hsm.out).mono ?_
      rintro e w2 ⟨c2, rfl, hcz, i2, o2, x2⟩
      replace hcz := Lib.hid hcz
      replace k0 := x2.cell k0
      replace k1 := x2.cell k1
      replace k2 := x2.cell k2
      replace f0 := x2.frz z1 f0
      replace f1 := x2.frz z1 f1
      replace f2 := x2.frz z1 f2
      have hb1 := o1.bound
      have o1' := o1.ext x2
      have z2 : w.heap.size < w2.heap.size := by have := x2.size; omega
      clear i1 i2
      go_wp2_with fail
      refine bodyPost_ret (v := .agg #[.int .i64 0, .slice a1 xs.length c1, .slice (some ⟨w1.heap.size, 0, none⟩) (rowS xs).length c2]) (by simp only [results, Try.results122]; go_simp) rfl ?_
      rw [hS.out, hT.out]
      have X2 : Ext w w2 := X1.trans x2
      have K : Chg w.heap.size (w.heap.size + 1) w2 (((w2.setCell ⟨w.heap.size, 0, none⟩ (.int .i64 0)).setCell ⟨w.heap.size, 1, none⟩ (.slice a1 xs.length c1)).setCell ⟨w.heap.size, 2, none⟩ (.slice (some ⟨w1.heap.size, 0, none⟩) (rowS xs).length c2)) :=
        (((Chg.refl _ _ _).setCell (p := ⟨w.heap.size, 0, none⟩) (Nat.le_refl _) (Nat.lt_succ_self _) _).setCell (p := ⟨w.heap.size, 1, none⟩) (Nat.le_refl _) (Nat.lt_succ_self _) _).setCell (p := ⟨w.heap.size, 2, none⟩) (Nat.le_refl _) (Nat.lt_succ_self _) _
      refine ⟨?_, fun h => ⟨_, _, _, by rw [hcz.out (by rw [h]; rfl), show (rowS xs).length = 0 by rw [h]; rfl]⟩⟩
      exact PView.two (b1 := w.heap.size + 1) (b2 := w1.heap.size) (m := w1.heap.size) ((o1'.lower (by simp)).chg K (Nat.le_refl _)) (o2.chg K z1) (by omega) (by omega) (.inl ⟨hb1, Nat.le_refl _⟩) hlen (by rw [rowS_len]; exact hlen) qXt

/-- strides of an empty shape: none, and no capacity -/
theorem PViewE.open {w w' : World} {b : Int} {s t : List Int} {e : Ending} (h : PViewE w b s t e w') : ∃ (p1 p2 : Option Addr) (n1 r1 n2 r2 : Nat), e = .returned (.agg #[.int .i64 b, .slice p1 n1 r1, .slice p2 n2 r2]) ∧ OwnZ w' w.heap.size (.slice p1 n1 r1) s ∧ OwnZ w' w.heap.size (.slice p2 n2 r2) t ∧
    (s ≠ [] → t ≠ [] → (Value.slice p1 n1 r1).ownBlock ≠ (Value.slice p2 n2 r2).ownBlock) ∧ (t = [] → n2 = 0 ∧ r2 = 0) ∧ Ext w w' := by
  obtain ⟨⟨sh, st, rfl, -, -, o1, o2, od, x⟩, hE⟩ := h
  obtain ⟨p1, n1, r1, rfl⟩ := o1.form
  obtain ⟨p2, n2, r2, rfl⟩ := o2.form
  refine ⟨p1, p2, n1, r1, n2, r2, rfl, o1, o2, od, fun ht => ?_, x⟩
  obtain ⟨b', u, a, h⟩ := hE ht
  simp at h
  exact ⟨h.2.2.2.1, h.2.2.2.2⟩

end Go.Proofs.Ytpgkhjmboiepcaa
