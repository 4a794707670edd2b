/- Texts of these proofs put together: DnA, DnB, NumA, PureU, PureE, PureF, LvS, LvR, PureG, PureK, PureN, PureO, ApA, ApB, ApC, Open, OpenB, DrA, DrB, DrE, DrG. No condition. -/
import Derived.Test.YtgklaobfikbiiaaDoorM2
import Derived.Test.YtgklaobfikbiiaaDoorM3
import Derived.Test.YtgklaobfikbiiaaDoorM1
import Derived.Laws.Concat
import Derived.Test.YtgklaobfikbiiaaDoorRows
import Derived.WalkKit
import Derived.ProofKit
import Derived.OpenShut
import Derived.ShutString
import Derived.ChangeOld
import Derived.Below
import Derived.Lib.SmallJoins
set_option linter.unusedVariables false
set_option linter.unusedSimpArgs false
/- Walks: acts of the reference. -/
namespace Go.Proofs.YtgklaobfikbiiaaDoor
open Go.RowKit
set_option linter.unusedVariables false
set_option maxRecDepth 100000

set_option maxHeartbeats 3200000 in
theorem done_0 (cells : List Int) (es : List Exp) (cv ev : Value) (ns : List Int) (nv : Value) (w : World) (l1 l2 : Nat) (h1 : Ints w l1 cv cells) (h2 : Exps w l2 ev es) (l3 : Nat) (h3 : Ints w l3 nv ns) (hl : 1 ≤ ns.length) :
  Calls Tryd.prog 23 #[.agg #[cv, ev], .agg #[.int .i64 0, nv]] w (PBX w (resA cells es (ns.getD 0 0))) := by
 obtain ⟨p0, c0, rfl⟩ := h1.form
 obtain ⟨p1, c1, rfl⟩ := h2.form
 have he1 := h2.len
 have hc1 := h1.len
 obtain ⟨pn, cn, rfl⟩ := h3.form
 have hl0 : 0 < ns.length := by omega
 go_enter Tryd.func23, Tryd.ntmps23
 go_wp2_with fail
 generalize hW1 : ((w.alloc (.cells #[.slice p0 cells.length c0, .slice p1 es.length c1] 34)).alloc (.cells #[.int .i64 0, .slice pn ns.length cn] 25)).alloc (.cells #[.slice none 0 0, .slice none 0 0] 34) = w1 at *
 have Lw1 : Ext w w1 := by subst hW1; exact qXt
 have Xw1 : Ext w w1 := by subst hW1; exact Lw1
 have b10 : w1.cell? ⟨w.heap.size, 0, none⟩ = some (.slice p0 cells.length c0) := by subst hW1; exact qCl
 have b11 : w1.cell? ⟨w.heap.size, 1, none⟩ = some (.slice p1 es.length c1) := by subst hW1; exact qCl
 have b20 : w1.cell? ⟨w.heap.size + 1, 0, none⟩ = some (.int .i64 0) := by subst hW1; exact qCl
 have b21 : w1.cell? ⟨w.heap.size + 1, 1, none⟩ = some (.slice pn ns.length cn) := by subst hW1; exact qCl
 have b30 : w1.cell? ⟨w.heap.size + 1 + 1, 0, none⟩ = some (.slice none 0 0) := by subst hW1; exact qCl
 have b31 : w1.cell? ⟨w.heap.size + 1 + 1, 1, none⟩ = some (.slice none 0 0) := by subst hW1; exact qCl
 have f_b30 : w1.frozen? ⟨w.heap.size + 1 + 1, 0, none⟩ = false := by subst hW1; exact qFz
 have f_b31 : w1.frozen? ⟨w.heap.size + 1 + 1, 1, none⟩ = false := by subst hW1; exact qFz
 have z_b1 : w.heap.size < w1.heap.size := qB b10
 have z_b2 : w.heap.size + 1 < w1.heap.size := qB b20
 have z_b3 : w.heap.size + 1 + 1 < w1.heap.size := qB b30
 have s_w1 : w.heap.size ≤ w1.heap.size := Xw1.size
 clear hW1
 have hI_e6 : (0 : Int) < (ns.length : Int) := by have hB7 : 0 < ns.length := (by omega); omega
 obtain ⟨bl4, ol5, rfl, e60⟩ := h3.at 0 (by omega)
 rw [Nat.add_zero] at e60
 have y_e6 : bl4 < w.heap.size := qB e60
 replace e60 := Xw1.cell e60
 obtain ⟨v7, hv7⟩ : ∃ v, ns.getD 0 0 = v := ⟨_, rfl⟩
 rw [hv7] at e60
 replace hv7 := Lib.hid hv7
 have z_e6 : bl4 < w1.heap.size := qB e60
 refine wp_region_tail (S := fun w' => w'.cell? ⟨w.heap.size, 0, none⟩ = some (.slice p0 cells.length c0) ∧ w'.cell? ⟨w.heap.size, 1, none⟩ = some (.slice p1 es.length c1) ∧ w'.cell? ⟨bl4, ol5, none⟩ = some (.int .i64 v7)) (fun i => decide (7 ≤ i)) qKr ⟨b10, b11, e60⟩ (fun hHeld => ?_)
 refine qTk (v := ?_) 0 rfl (.inl ⟨by rfl, ?_⟩) ?_
 rotate_left
 ·
  (intro w hSw; (try dsimp only at hSw); go_simp; try with_reducible rfl)
 try simp only [Act.put, qa, qb, qc, qD, qE, qF]
 refine qTk (v := ?_) 1 rfl (.inl ⟨by rfl, ?_⟩) ?_
 rotate_left
 ·
  (intro w hSw; (try dsimp only at hSw); go_simp; try with_reducible rfl)
 try simp only [Act.put, qa, qb, qc, qD, qE, qF]
 refine qTk (v := ?_) 2 rfl (.inl ⟨by rfl, ?_⟩) ?_
 rotate_left
 ·
  (intro w hSw; (try dsimp only at hSw); go_simp; try with_reducible rfl)
 try simp only [Act.put, qa, qb, qc, qD, qE, qF]
 refine qTk (v := ?_) 3 rfl (.inl ⟨by rfl, ?_⟩) ?_
 rotate_left
 ·
  (intro w hSw; (try dsimp only at hSw); go_simp; try with_reducible rfl)
 try simp only [Act.put, qa, qb, qc, qD, qE, qF]
 refine wpTail_one (i := 4) qKr rfl rfl (fun K hK => ?_)
 try simp only [Act.put, qa, qb, qc, qD, qE, qF]
 go_simp
 refine (specResizeBuffer_c cells es (.slice p0 cells.length c0) (.slice p1 es.length c1) v7 _ _ _ (h1.ext (Xw1.trans qXt)) (h2.ext (Xw1.trans qXt))).mono ?_
 rintro e w2 ⟨cvfb12, evfb12, R13, rfl, bf11, xw2⟩
 have Lw2 : Ext w1 w2 := Ext.trans qXt xw2
 have Xw2 : Ext w w2 := Xw1.trans Lw2
 replace b10 := Lw2.cell b10
 replace b11 := Lw2.cell b11
 replace b20 := Lw2.cell b20
 replace b21 := Lw2.cell b21
 replace b30 := Lw2.cell b30
 replace b31 := Lw2.cell b31
 replace f_b30 := Lw2.frz z_b3 f_b30
 replace f_b31 := Lw2.frz z_b3 f_b31
 replace e60 := Lw2.cell e60
 have z_b1 : w.heap.size < w2.heap.size := qB b10
 have z_b2 : w.heap.size + 1 < w2.heap.size := qB b20
 have z_b3 : w.heap.size + 1 + 1 < w2.heap.size := qB b30
 have z_e6 : bl4 < w2.heap.size := qB e60
 have s_w2 : w.heap.size ≤ w2.heap.size := Xw2.size
 clear xw2
 replace bf11 := bf11.lower (lo' := w1.heap.size) qSo
 obtain ⟨afb12, cfb12, rfl⟩ := bf11.ints.form
 obtain ⟨efb12, dfb12, rfl⟩ := bf11.exps.form
 have q_bf11 := Lib.hid bf11.at
 refine hK.out _ _ ⟨b10, b11, e60⟩ (fun hHeld => ?_)
 clear hK K
 try simp only [Act.put, qa, qb, qc, qD, qE, qF]
 refine qTk (v := ?_) 5 rfl (.inl ⟨by rfl, ?_⟩) ?_
 rotate_left
 ·
  (intro w hSw; (try dsimp only at hSw); go_simp; try with_reducible rfl)
 try simp only [Act.put, qa, qb, qc, qD, qE, qF]
 refine qTk (v := ?_) 6 rfl (.inl ⟨by rfl, ?_⟩) ?_
 rotate_left
 ·
  (intro w hSw; (try dsimp only at hSw); go_simp; try with_reducible rfl)
 try simp only [Act.put, qa, qb, qc, qD, qE, qF]
 refine wpTail_last (i := 7) qKr rfl rfl (fun K hK => ?_)
 try simp only [Act.put, qa, qb, qc, qD, qE, qF]
 go_simp
 refine hK.out _ _ ?_
 clear hK K
 try simp only [Act.put, qa, qb, qc, qD, qE, qF]
 refine wpTail_last (i := 8) qKr rfl rfl (fun K hK => ?_)
 try simp only [Act.put, qa, qb, qc, qD, qE, qF]
 go_simp
 refine hK.out _ _ ?_
 clear hK K
 try simp only [Act.put, qa, qb, qc, qD, qE, qF]
 refine wpTail_done qKr ?_ _
 clear hHeld 
 generalize hW2 : ((w2.setCell ⟨w.heap.size + 1 + 1, 0, none⟩ (.slice afb12 (((resA cells es v7).1).length) cfb12)).setCell ⟨w.heap.size + 1 + 1, 1, none⟩ (.slice efb12 (((resA cells es v7).2.1).length) dfb12)) = w3 at *
 have Kw3 : Chg (w.heap.size + 1 + 1) (w.heap.size + 1 + 1 + 1) w2 w3 := by subst hW2; exact qCh
 have Xw3 : Ext w w3 := by subst hW2; exact qXt
 replace b10 := Kw3.cell (by omega) b10
 replace b11 := Kw3.cell (by omega) b11
 replace b20 := Kw3.cell (by omega) b20
 replace b21 := Kw3.cell (by omega) b21
 replace b30 : w3.cell? ⟨w.heap.size + 1 + 1, 0, none⟩ = some (.slice afb12 (((resA cells es v7).1).length) cfb12) := by subst hW2; go_simp
 replace f_b30 : w3.frozen? ⟨w.heap.size + 1 + 1, 0, none⟩ = false := by subst hW2; first | (simp only [World.frozen?_setCell]; with_reducible assumption) | go_simp
 replace b31 : w3.cell? ⟨w.heap.size + 1 + 1, 1, none⟩ = some (.slice efb12 (((resA cells es v7).2.1).length) dfb12) := by subst hW2; go_simp
 replace f_b31 : w3.frozen? ⟨w.heap.size + 1 + 1, 1, none⟩ = false := by subst hW2; first | (simp only [World.frozen?_setCell]; with_reducible assumption) | go_simp
 replace e60 := Kw3.cell (by omega) e60
 replace bf11 := bf11.chg Kw3 (by omega)
 clear Kw3
 have z_b1 : w.heap.size < w3.heap.size := qB b10
 have z_b2 : w.heap.size + 1 < w3.heap.size := qB b20
 have z_b3 : w.heap.size + 1 + 1 < w3.heap.size := qB b30
 have z_e6 : bl4 < w3.heap.size := qB e60
 have s_w3 : w.heap.size ≤ w3.heap.size := Xw3.size
 clear hW2
 go_wp2_with fail
 refine bodyPost_ret (v := .tuple #[.agg #[.slice afb12 (((resA cells es v7).1).length) cfb12, .slice efb12 (((resA cells es v7).2.1).length) dfb12], .bool ((resA cells es v7).2.2)]) (by simp only [results, Tryd.results23]; go_simp) rfl ?_
 rw [hv7.out]
 exact ⟨_, _, _, rfl, (bf11.ext qXt).lower (by omega), (Xw3.trans qXt)⟩

set_option maxHeartbeats 3200000 in
theorem done_2 (cells : List Int) (es : List Exp) (cv ev : Value) (ns : List Int) (nv : Value) (w : World) (l1 l2 : Nat) (h1 : Ints w l1 cv cells) (h2 : Exps w l2 ev es) (l3 : Nat) (h3 : Ints w l3 nv ns) (hl : 4 ≤ ns.length) :
  Calls Tryd.prog 23 #[.agg #[cv, ev], .agg #[.int .i64 2, nv]] w (PBX w (parA cells es (ns.getD 0 0) 0 (ns.getD 1 0) (ns.getD 2 0) (ns.getD 3 0) true true)) := by
 obtain ⟨p0, c0, rfl⟩ := h1.form
 obtain ⟨p1, c1, rfl⟩ := h2.form
 have he1 := h2.len
 have hc1 := h1.len
 obtain ⟨pn, cn, rfl⟩ := h3.form
 have hl0 : 0 < ns.length := by omega
 have hl1 : 1 < ns.length := by omega
 have hl2 : 2 < ns.length := by omega
 have hl3 : 3 < ns.length := by omega
 go_enter Tryd.func23, Tryd.ntmps23
 go_wp2_with fail
 generalize hW3 : ((w.alloc (.cells #[.slice p0 cells.length c0, .slice p1 es.length c1] 34)).alloc (.cells #[.int .i64 2, .slice pn ns.length cn] 25)).alloc (.cells #[.slice none 0 0, .slice none 0 0] 34) = w1 at *
 have Lw1 : Ext w w1 := by subst hW3; exact qXt
 have Xw1 : Ext w w1 := by subst hW3; exact Lw1
 have b10 : w1.cell? ⟨w.heap.size, 0, none⟩ = some (.slice p0 cells.length c0) := by subst hW3; exact qCl
 have b11 : w1.cell? ⟨w.heap.size, 1, none⟩ = some (.slice p1 es.length c1) := by subst hW3; exact qCl
 have b20 : w1.cell? ⟨w.heap.size + 1, 0, none⟩ = some (.int .i64 2) := by subst hW3; exact qCl
 have b21 : w1.cell? ⟨w.heap.size + 1, 1, none⟩ = some (.slice pn ns.length cn) := by subst hW3; exact qCl
 have b30 : w1.cell? ⟨w.heap.size + 1 + 1, 0, none⟩ = some (.slice none 0 0) := by subst hW3; exact qCl
 have b31 : w1.cell? ⟨w.heap.size + 1 + 1, 1, none⟩ = some (.slice none 0 0) := by subst hW3; exact qCl
 have f_b30 : w1.frozen? ⟨w.heap.size + 1 + 1, 0, none⟩ = false := by subst hW3; exact qFz
 have f_b31 : w1.frozen? ⟨w.heap.size + 1 + 1, 1, none⟩ = false := by subst hW3; exact qFz
 have z_b1 : w.heap.size < w1.heap.size := qB b10
 have z_b2 : w.heap.size + 1 < w1.heap.size := qB b20
 have z_b3 : w.heap.size + 1 + 1 < w1.heap.size := qB b30
 have s_w1 : w.heap.size ≤ w1.heap.size := Xw1.size
 clear hW3
 have hI_e6 : (0 : Int) < (ns.length : Int) := by have hB7 : 0 < ns.length := (by omega); omega
 obtain ⟨bl4, ol5, rfl, e60⟩ := h3.at 0 (by omega)
 rw [Nat.add_zero] at e60
 have y_e6 : bl4 < w.heap.size := qB e60
 replace e60 := Xw1.cell e60
 obtain ⟨v7, hv7⟩ : ∃ v, ns.getD 0 0 = v := ⟨_, rfl⟩
 rw [hv7] at e60
 replace hv7 := Lib.hid hv7
 have z_e6 : bl4 < w1.heap.size := qB e60
 have hI_e10 : (1 : Int) < (ns.length : Int) := by have hB7 : 1 < ns.length := (by omega); omega
 obtain ⟨b_e10, o_e10, h_e10, e100⟩ := h3.at 1 (by omega)
 cases h_e10
 have y_e10 : bl4 < w.heap.size := qB e100
 replace e100 := Xw1.cell e100
 obtain ⟨v11, hv11⟩ : ∃ v, ns.getD 1 0 = v := ⟨_, rfl⟩
 rw [hv11] at e100
 replace hv11 := Lib.hid hv11
 have z_e10 : bl4 < w1.heap.size := qB e100
 have hI_e14 : (2 : Int) < (ns.length : Int) := by have hB7 : 2 < ns.length := (by omega); omega
 obtain ⟨b_e14, o_e14, h_e14, e140⟩ := h3.at 2 (by omega)
 cases h_e14
 have y_e14 : bl4 < w.heap.size := qB e140
 replace e140 := Xw1.cell e140
 obtain ⟨v15, hv15⟩ : ∃ v, ns.getD 2 0 = v := ⟨_, rfl⟩
 rw [hv15] at e140
 replace hv15 := Lib.hid hv15
 have z_e14 : bl4 < w1.heap.size := qB e140
 have hI_e18 : (3 : Int) < (ns.length : Int) := by have hB7 : 3 < ns.length := (by omega); omega
 obtain ⟨b_e18, o_e18, h_e18, e180⟩ := h3.at 3 (by omega)
 cases h_e18
 have y_e18 : bl4 < w.heap.size := qB e180
 replace e180 := Xw1.cell e180
 obtain ⟨v19, hv19⟩ : ∃ v, ns.getD 3 0 = v := ⟨_, rfl⟩
 rw [hv19] at e180
 replace hv19 := Lib.hid hv19
 have z_e18 : bl4 < w1.heap.size := qB e180
 refine wp_region_tail (S := fun w' => w'.cell? ⟨w.heap.size, 0, none⟩ = some (.slice p0 cells.length c0) ∧ w'.cell? ⟨w.heap.size, 1, none⟩ = some (.slice p1 es.length c1) ∧ w'.cell? ⟨bl4, ol5, none⟩ = some (.int .i64 v7) ∧ w'.cell? ⟨bl4, ol5 + 1, none⟩ = some (.int .i64 v11) ∧ w'.cell? ⟨bl4, ol5 + 2, none⟩ = some (.int .i64 v15) ∧ w'.cell? ⟨bl4, ol5 + 3, none⟩ = some (.int .i64 v19)) (fun i => decide (17 ≤ i)) qKr ⟨b10, b11, e60, e100, e140, e180⟩ (fun hHeld => ?_)
 refine qTk (v := ?_) 0 rfl (.inl ⟨by rfl, ?_⟩) ?_
 rotate_left
 ·
  (intro w hSw; (try dsimp only at hSw); go_simp; try with_reducible rfl)
 try simp only [Act.put, qa, qb, qc, qD, qE, qF]
 refine qTk (v := ?_) 1 rfl (.inl ⟨by rfl, ?_⟩) ?_
 rotate_left
 ·
  (intro w hSw; (try dsimp only at hSw); go_simp; try with_reducible rfl)
 try simp only [Act.put, qa, qb, qc, qD, qE, qF]
 refine qTk (v := ?_) 2 rfl (.inl ⟨by rfl, ?_⟩) ?_
 rotate_left
 ·
  (intro w hSw; (try dsimp only at hSw); go_simp; try with_reducible rfl)
 try simp only [Act.put, qa, qb, qc, qD, qE, qF]
 refine qTk (v := ?_) 3 rfl (.inl ⟨by rfl, ?_⟩) ?_
 rotate_left
 ·
  (intro w hSw; (try dsimp only at hSw); go_simp; try with_reducible rfl)
 try simp only [Act.put, qa, qb, qc, qD, qE, qF]
 refine qTk (v := ?_) 4 rfl (.inl ⟨by rfl, ?_⟩) ?_
 rotate_left
 ·
  (intro w hSw; (try dsimp only at hSw); go_simp; try with_reducible rfl)
 try simp only [Act.put, qa, qb, qc, qD, qE, qF]
 refine qTk (v := ?_) 5 rfl (.inl ⟨by rfl, ?_⟩) ?_
 rotate_left
 ·
  (intro w hSw; (try dsimp only at hSw); go_simp; try with_reducible rfl)
 try simp only [Act.put, qa, qb, qc, qD, qE, qF]
 refine qTk (v := ?_) 6 rfl (.inl ⟨by rfl, ?_⟩) ?_
 rotate_left
 ·
  (intro w hSw; (try dsimp only at hSw); go_simp; try with_reducible rfl)
 try simp only [Act.put, qa, qb, qc, qD, qE, qF]
 refine qTk (v := ?_) 7 rfl (.inl ⟨by rfl, ?_⟩) ?_
 rotate_left
 ·
  (intro w hSw; (try dsimp only at hSw); go_simp; try with_reducible rfl)
 try simp only [Act.put, qa, qb, qc, qD, qE, qF]
 refine qTk (v := ?_) 8 rfl (.inl ⟨by rfl, ?_⟩) ?_
 rotate_left
 ·
  (intro w hSw; (try dsimp only at hSw); go_simp; try with_reducible rfl)
 try simp only [Act.put, qa, qb, qc, qD, qE, qF]
 refine qTk (v := ?_) 9 rfl (.inl ⟨by rfl, ?_⟩) ?_
 rotate_left
 ·
  (intro w hSw; (try dsimp only at hSw); go_simp; try with_reducible rfl)
 try simp only [Act.put, qa, qb, qc, qD, qE, qF]
 refine qTk (v := ?_) 10 rfl (.inl ⟨by rfl, ?_⟩) ?_
 rotate_left
 ·
  (intro w hSw; (try dsimp only at hSw); go_simp; try with_reducible rfl)
 try simp only [Act.put, qa, qb, qc, qD, qE, qF]
 refine qTk (v := ?_) 11 rfl (.inl ⟨by rfl, ?_⟩) ?_
 rotate_left
 ·
  (intro w hSw; (try dsimp only at hSw); go_simp; try with_reducible rfl)
 try simp only [Act.put, qa, qb, qc, qD, qE, qF]
 refine qTk (v := ?_) 12 rfl (.inl ⟨by rfl, ?_⟩) ?_
 rotate_left
 ·
  (intro w hSw; (try dsimp only at hSw); go_simp; try with_reducible rfl)
 try simp only [Act.put, qa, qb, qc, qD, qE, qF]
 refine qTk (v := ?_) 13 rfl (.inl ⟨by rfl, ?_⟩) ?_
 rotate_left
 ·
  (intro w hSw; (try dsimp only at hSw); go_simp; try with_reducible rfl)
 try simp only [Act.put, qa, qb, qc, qD, qE, qF]
 refine wpTail_one (i := 14) qKr rfl rfl (fun K hK => ?_)
 try simp only [Act.put, qa, qb, qc, qD, qE, qF]
 go_simp
 refine (specExportPart_c cells es (.slice p0 cells.length c0) (.slice p1 es.length c1) v7 0 v11 v15 v19 true true _ _ _ (h1.ext (Xw1.trans qXt)) (h2.ext (Xw1.trans qXt))).mono ?_
 rintro e w2 ⟨cvfb33, evfb33, R34, rfl, bf32, xw2⟩
 have Lw2 : Ext w1 w2 := Ext.trans qXt xw2
 have Xw2 : Ext w w2 := Xw1.trans Lw2
 replace b10 := Lw2.cell b10
 replace b11 := Lw2.cell b11
 replace b20 := Lw2.cell b20
 replace b21 := Lw2.cell b21
 replace b30 := Lw2.cell b30
 replace b31 := Lw2.cell b31
 replace f_b30 := Lw2.frz z_b3 f_b30
 replace f_b31 := Lw2.frz z_b3 f_b31
 replace e60 := Lw2.cell e60
 replace e100 := Lw2.cell e100
 replace e140 := Lw2.cell e140
 replace e180 := Lw2.cell e180
 have z_b1 : w.heap.size < w2.heap.size := qB b10
 have z_b2 : w.heap.size + 1 < w2.heap.size := qB b20
 have z_b3 : w.heap.size + 1 + 1 < w2.heap.size := qB b30
 have z_e6 : bl4 < w2.heap.size := qB e60
 have z_e10 : bl4 < w2.heap.size := qB e100
 have z_e14 : bl4 < w2.heap.size := qB e140
 have z_e18 : bl4 < w2.heap.size := qB e180
 have s_w2 : w.heap.size ≤ w2.heap.size := Xw2.size
 clear xw2
 replace bf32 := bf32.lower (lo' := w1.heap.size) qSo
 obtain ⟨afb33, cfb33, rfl⟩ := bf32.ints.form
 obtain ⟨efb33, dfb33, rfl⟩ := bf32.exps.form
 have q_bf32 := Lib.hid bf32.at
 refine hK.out _ _ ⟨b10, b11, e60, e100, e140, e180⟩ (fun hHeld => ?_)
 clear hK K
 try simp only [Act.put, qa, qb, qc, qD, qE, qF]
 refine qTk (v := ?_) 15 rfl (.inl ⟨by rfl, ?_⟩) ?_
 rotate_left
 ·
  (intro w hSw; (try dsimp only at hSw); go_simp; try with_reducible rfl)
 try simp only [Act.put, qa, qb, qc, qD, qE, qF]
 refine qTk (v := ?_) 16 rfl (.inl ⟨by rfl, ?_⟩) ?_
 rotate_left
 ·
  (intro w hSw; (try dsimp only at hSw); go_simp; try with_reducible rfl)
 try simp only [Act.put, qa, qb, qc, qD, qE, qF]
 refine wpTail_last (i := 17) qKr rfl rfl (fun K hK => ?_)
 try simp only [Act.put, qa, qb, qc, qD, qE, qF]
 go_simp
 refine hK.out _ _ ?_
 clear hK K
 try simp only [Act.put, qa, qb, qc, qD, qE, qF]
 refine wpTail_last (i := 18) qKr rfl rfl (fun K hK => ?_)
 try simp only [Act.put, qa, qb, qc, qD, qE, qF]
 go_simp
 refine hK.out _ _ ?_
 clear hK K
 try simp only [Act.put, qa, qb, qc, qD, qE, qF]
 refine wpTail_done qKr ?_ _
 clear hHeld 
 generalize hW4 : ((w2.setCell ⟨w.heap.size + 1 + 1, 0, none⟩ (.slice afb33 (((parA cells es v7 0 v11 v15 v19 true true).1).length) cfb33)).setCell ⟨w.heap.size + 1 + 1, 1, none⟩ (.slice efb33 (((parA cells es v7 0 v11 v15 v19 true true).2.1).length) dfb33)) = w3 at *
 have Kw3 : Chg (w.heap.size + 1 + 1) (w.heap.size + 1 + 1 + 1) w2 w3 := by subst hW4; exact qCh
 have Xw3 : Ext w w3 := by subst hW4; exact qXt
 replace b10 := Kw3.cell (by omega) b10
 replace b11 := Kw3.cell (by omega) b11
 replace b20 := Kw3.cell (by omega) b20
 replace b21 := Kw3.cell (by omega) b21
 replace b30 : w3.cell? ⟨w.heap.size + 1 + 1, 0, none⟩ = some (.slice afb33 (((parA cells es v7 0 v11 v15 v19 true true).1).length) cfb33) := by subst hW4; go_simp
 replace f_b30 : w3.frozen? ⟨w.heap.size + 1 + 1, 0, none⟩ = false := by subst hW4; first | (simp only [World.frozen?_setCell]; with_reducible assumption) | go_simp
 replace b31 : w3.cell? ⟨w.heap.size + 1 + 1, 1, none⟩ = some (.slice efb33 (((parA cells es v7 0 v11 v15 v19 true true).2.1).length) dfb33) := by subst hW4; go_simp
 replace f_b31 : w3.frozen? ⟨w.heap.size + 1 + 1, 1, none⟩ = false := by subst hW4; first | (simp only [World.frozen?_setCell]; with_reducible assumption) | go_simp
 replace e60 := Kw3.cell (by omega) e60
 replace e100 := Kw3.cell (by omega) e100
 replace e140 := Kw3.cell (by omega) e140
 replace e180 := Kw3.cell (by omega) e180
 replace bf32 := bf32.chg Kw3 (by omega)
 clear Kw3
 have z_b1 : w.heap.size < w3.heap.size := qB b10
 have z_b2 : w.heap.size + 1 < w3.heap.size := qB b20
 have z_b3 : w.heap.size + 1 + 1 < w3.heap.size := qB b30
 have z_e6 : bl4 < w3.heap.size := qB e60
 have z_e10 : bl4 < w3.heap.size := qB e100
 have z_e14 : bl4 < w3.heap.size := qB e140
 have z_e18 : bl4 < w3.heap.size := qB e180
 have s_w3 : w.heap.size ≤ w3.heap.size := Xw3.size
 clear hW4
 go_wp2_with fail
 refine bodyPost_ret (v := .tuple #[.agg #[.slice afb33 (((parA cells es v7 0 v11 v15 v19 true true).1).length) cfb33, .slice efb33 (((parA cells es v7 0 v11 v15 v19 true true).2.1).length) dfb33], .bool ((parA cells es v7 0 v11 v15 v19 true true).2.2)]) (by simp only [results, Tryd.results23]; go_simp) rfl ?_
 rw [hv7.out, hv11.out, hv15.out, hv19.out]
 exact ⟨_, _, _, rfl, (bf32.ext qXt).lower (by omega), (Xw3.trans qXt)⟩

set_option maxHeartbeats 3200000 in
theorem done_3 (cells : List Int) (es : List Exp) (cv ev : Value) (ns : List Int) (nv : Value) (w : World) (l1 l2 : Nat) (h1 : Ints w l1 cv cells) (h2 : Exps w l2 ev es) (l3 : Nat) (h3 : Ints w l3 nv ns) (hl : 1 ≤ ns.length) :
  Calls Tryd.prog 23 #[.agg #[cv, ev], .agg #[.int .i64 3, nv]] w (PBX w (parA cells es (ns.getD 0 0) 0 0 0 (-1) false false)) := by
 obtain ⟨p0, c0, rfl⟩ := h1.form
 obtain ⟨p1, c1, rfl⟩ := h2.form
 have he1 := h2.len
 have hc1 := h1.len
 obtain ⟨pn, cn, rfl⟩ := h3.form
 have hl0 : 0 < ns.length := by omega
 go_enter Tryd.func23, Tryd.ntmps23
 go_wp2_with fail
 generalize hW5 : ((w.alloc (.cells #[.slice p0 cells.length c0, .slice p1 es.length c1] 34)).alloc (.cells #[.int .i64 3, .slice pn ns.length cn] 25)).alloc (.cells #[.slice none 0 0, .slice none 0 0] 34) = w1 at *
 have Lw1 : Ext w w1 := by subst hW5; exact qXt
 have Xw1 : Ext w w1 := by subst hW5; exact Lw1
 have b10 : w1.cell? ⟨w.heap.size, 0, none⟩ = some (.slice p0 cells.length c0) := by subst hW5; exact qCl
 have b11 : w1.cell? ⟨w.heap.size, 1, none⟩ = some (.slice p1 es.length c1) := by subst hW5; exact qCl
 have b20 : w1.cell? ⟨w.heap.size + 1, 0, none⟩ = some (.int .i64 3) := by subst hW5; exact qCl
 have b21 : w1.cell? ⟨w.heap.size + 1, 1, none⟩ = some (.slice pn ns.length cn) := by subst hW5; exact qCl
 have b30 : w1.cell? ⟨w.heap.size + 1 + 1, 0, none⟩ = some (.slice none 0 0) := by subst hW5; exact qCl
 have b31 : w1.cell? ⟨w.heap.size + 1 + 1, 1, none⟩ = some (.slice none 0 0) := by subst hW5; exact qCl
 have f_b30 : w1.frozen? ⟨w.heap.size + 1 + 1, 0, none⟩ = false := by subst hW5; exact qFz
 have f_b31 : w1.frozen? ⟨w.heap.size + 1 + 1, 1, none⟩ = false := by subst hW5; exact qFz
 have z_b1 : w.heap.size < w1.heap.size := qB b10
 have z_b2 : w.heap.size + 1 < w1.heap.size := qB b20
 have z_b3 : w.heap.size + 1 + 1 < w1.heap.size := qB b30
 have s_w1 : w.heap.size ≤ w1.heap.size := Xw1.size
 clear hW5
 have hI_e6 : (0 : Int) < (ns.length : Int) := by have hB7 : 0 < ns.length := (by omega); omega
 obtain ⟨bl4, ol5, rfl, e60⟩ := h3.at 0 (by omega)
 rw [Nat.add_zero] at e60
 have y_e6 : bl4 < w.heap.size := qB e60
 replace e60 := Xw1.cell e60
 obtain ⟨v7, hv7⟩ : ∃ v, ns.getD 0 0 = v := ⟨_, rfl⟩
 rw [hv7] at e60
 replace hv7 := Lib.hid hv7
 have z_e6 : bl4 < w1.heap.size := qB e60
 refine wp_region_tail (S := fun w' => w'.cell? ⟨w.heap.size, 0, none⟩ = some (.slice p0 cells.length c0) ∧ w'.cell? ⟨w.heap.size, 1, none⟩ = some (.slice p1 es.length c1) ∧ w'.cell? ⟨bl4, ol5, none⟩ = some (.int .i64 v7)) (fun i => decide (8 ≤ i)) qKr ⟨b10, b11, e60⟩ (fun hHeld => ?_)
 refine qTk (v := ?_) 0 rfl (.inl ⟨by rfl, ?_⟩) ?_
 rotate_left
 ·
  (intro w hSw; (try dsimp only at hSw); go_simp; try with_reducible rfl)
 try simp only [Act.put, qa, qb, qc, qD, qE, qF]
 refine qTk (v := ?_) 1 rfl (.inl ⟨by rfl, ?_⟩) ?_
 rotate_left
 ·
  (intro w hSw; (try dsimp only at hSw); go_simp; try with_reducible rfl)
 try simp only [Act.put, qa, qb, qc, qD, qE, qF]
 refine qTk (v := ?_) 2 rfl (.inl ⟨by rfl, ?_⟩) ?_
 rotate_left
 ·
  (intro w hSw; (try dsimp only at hSw); go_simp; try with_reducible rfl)
 try simp only [Act.put, qa, qb, qc, qD, qE, qF]
 refine qTk (v := ?_) 3 rfl (.inl ⟨by rfl, ?_⟩) ?_
 rotate_left
 ·
  (intro w hSw; (try dsimp only at hSw); go_simp; try with_reducible rfl)
 try simp only [Act.put, qa, qb, qc, qD, qE, qF]
 refine qTk (v := ?_) 4 rfl (.inl ⟨by rfl, ?_⟩) ?_
 rotate_left
 ·
  (intro w hSw; (try dsimp only at hSw); go_simp; try with_reducible rfl)
 try simp only [Act.put, qa, qb, qc, qD, qE, qF]
 refine wpTail_one (i := 5) qKr rfl rfl (fun K hK => ?_)
 try simp only [Act.put, qa, qb, qc, qD, qE, qF]
 go_simp
 refine (specExportPart_c cells es (.slice p0 cells.length c0) (.slice p1 es.length c1) v7 0 0 0 (-1) false false _ _ _ (h1.ext (Xw1.trans qXt)) (h2.ext (Xw1.trans qXt))).mono ?_
 rintro e w2 ⟨cvfb12, evfb12, R13, rfl, bf11, xw2⟩
 have Lw2 : Ext w1 w2 := Ext.trans qXt xw2
 have Xw2 : Ext w w2 := Xw1.trans Lw2
 replace b10 := Lw2.cell b10
 replace b11 := Lw2.cell b11
 replace b20 := Lw2.cell b20
 replace b21 := Lw2.cell b21
 replace b30 := Lw2.cell b30
 replace b31 := Lw2.cell b31
 replace f_b30 := Lw2.frz z_b3 f_b30
 replace f_b31 := Lw2.frz z_b3 f_b31
 replace e60 := Lw2.cell e60
 have z_b1 : w.heap.size < w2.heap.size := qB b10
 have z_b2 : w.heap.size + 1 < w2.heap.size := qB b20
 have z_b3 : w.heap.size + 1 + 1 < w2.heap.size := qB b30
 have z_e6 : bl4 < w2.heap.size := qB e60
 have s_w2 : w.heap.size ≤ w2.heap.size := Xw2.size
 clear xw2
 replace bf11 := bf11.lower (lo' := w1.heap.size) qSo
 obtain ⟨afb12, cfb12, rfl⟩ := bf11.ints.form
 obtain ⟨efb12, dfb12, rfl⟩ := bf11.exps.form
 have q_bf11 := Lib.hid bf11.at
 refine hK.out _ _ ⟨b10, b11, e60⟩ (fun hHeld => ?_)
 clear hK K
 try simp only [Act.put, qa, qb, qc, qD, qE, qF]
 refine qTk (v := ?_) 6 rfl (.inl ⟨by rfl, ?_⟩) ?_
 rotate_left
 ·
  (intro w hSw; (try dsimp only at hSw); go_simp; try with_reducible rfl)
 try simp only [Act.put, qa, qb, qc, qD, qE, qF]
 refine qTk (v := ?_) 7 rfl (.inl ⟨by rfl, ?_⟩) ?_
 rotate_left
 ·
  (intro w hSw; (try dsimp only at hSw); go_simp; try with_reducible rfl)
 try simp only [Act.put, qa, qb, qc, qD, qE, qF]
 refine wpTail_last (i := 8) qKr rfl rfl (fun K hK => ?_)
 try simp only [Act.put, qa, qb, qc, qD, qE, qF]
 go_simp
 refine hK.out _ _ ?_
 clear hK K
 try simp only [Act.put, qa, qb, qc, qD, qE, qF]
 refine wpTail_last (i := 9) qKr rfl rfl (fun K hK => ?_)
 try simp only [Act.put, qa, qb, qc, qD, qE, qF]
 go_simp
 refine hK.out _ _ ?_
 clear hK K
 try simp only [Act.put, qa, qb, qc, qD, qE, qF]
 refine wpTail_done qKr ?_ _
 clear hHeld 
 generalize hW6 : ((w2.setCell ⟨w.heap.size + 1 + 1, 0, none⟩ (.slice afb12 (((parA cells es v7 0 0 0 (-1) false false).1).length) cfb12)).setCell ⟨w.heap.size + 1 + 1, 1, none⟩ (.slice efb12 (((parA cells es v7 0 0 0 (-1) false false).2.1).length) dfb12)) = w3 at *
 have Kw3 : Chg (w.heap.size + 1 + 1) (w.heap.size + 1 + 1 + 1) w2 w3 := by subst hW6; exact qCh
 have Xw3 : Ext w w3 := by subst hW6; exact qXt
 replace b10 := Kw3.cell (by omega) b10
 replace b11 := Kw3.cell (by omega) b11
 replace b20 := Kw3.cell (by omega) b20
 replace b21 := Kw3.cell (by omega) b21
 replace b30 : w3.cell? ⟨w.heap.size + 1 + 1, 0, none⟩ = some (.slice afb12 (((parA cells es v7 0 0 0 (-1) false false).1).length) cfb12) := by subst hW6; go_simp
 replace f_b30 : w3.frozen? ⟨w.heap.size + 1 + 1, 0, none⟩ = false := by subst hW6; first | (simp only [World.frozen?_setCell]; with_reducible assumption) | go_simp
 replace b31 : w3.cell? ⟨w.heap.size + 1 + 1, 1, none⟩ = some (.slice efb12 (((parA cells es v7 0 0 0 (-1) false false).2.1).length) dfb12) := by subst hW6; go_simp
 replace f_b31 : w3.frozen? ⟨w.heap.size + 1 + 1, 1, none⟩ = false := by subst hW6; first | (simp only [World.frozen?_setCell]; with_reducible assumption) | go_simp
 replace e60 := Kw3.cell (by omega) e60
 replace bf11 := bf11.chg Kw3 (by omega)
 clear Kw3
 have z_b1 : w.heap.size < w3.heap.size := qB b10
 have z_b2 : w.heap.size + 1 < w3.heap.size := qB b20
 have z_b3 : w.heap.size + 1 + 1 < w3.heap.size := qB b30
 have z_e6 : bl4 < w3.heap.size := qB e60
 have s_w3 : w.heap.size ≤ w3.heap.size := Xw3.size
 clear hW6
 go_wp2_with fail
 refine bodyPost_ret (v := .tuple #[.agg #[.slice afb12 (((parA cells es v7 0 0 0 (-1) false false).1).length) cfb12, .slice efb12 (((parA cells es v7 0 0 0 (-1) false false).2.1).length) dfb12], .bool ((parA cells es v7 0 0 0 (-1) false false).2.2)]) (by simp only [results, Tryd.results23]; go_simp) rfl ?_
 rw [hv7.out]
 exact ⟨_, _, _, rfl, (bf11.ext qXt).lower (by omega), (Xw3.trans qXt)⟩

set_option maxHeartbeats 3200000 in
theorem done_4 (cells : List Int) (es : List Exp) (cv ev : Value) (ns : List Int) (nv : Value) (w : World) (l1 l2 : Nat) (h1 : Ints w l1 cv cells) (h2 : Exps w l2 ev es) (l3 : Nat) (h3 : Ints w l3 nv ns) (hl : 2 ≤ ns.length) :
  Calls Tryd.prog 23 #[.agg #[cv, ev], .agg #[.int .i64 4, nv]] w (PBX w (filA cells es (ns.getD 0 0) (ns.getD 1 0))) := by
 obtain ⟨p0, c0, rfl⟩ := h1.form
 obtain ⟨p1, c1, rfl⟩ := h2.form
 have he1 := h2.len
 have hc1 := h1.len
 obtain ⟨pn, cn, rfl⟩ := h3.form
 have hl0 : 0 < ns.length := by omega
 have hl1 : 1 < ns.length := by omega
 go_enter Tryd.func23, Tryd.ntmps23
 go_wp2_with fail
 generalize hW7 : ((w.alloc (.cells #[.slice p0 cells.length c0, .slice p1 es.length c1] 34)).alloc (.cells #[.int .i64 4, .slice pn ns.length cn] 25)).alloc (.cells #[.slice none 0 0, .slice none 0 0] 34) = w1 at *
 have Lw1 : Ext w w1 := by subst hW7; exact qXt
 have Xw1 : Ext w w1 := by subst hW7; exact Lw1
 have b10 : w1.cell? ⟨w.heap.size, 0, none⟩ = some (.slice p0 cells.length c0) := by subst hW7; exact qCl
 have b11 : w1.cell? ⟨w.heap.size, 1, none⟩ = some (.slice p1 es.length c1) := by subst hW7; exact qCl
 have b20 : w1.cell? ⟨w.heap.size + 1, 0, none⟩ = some (.int .i64 4) := by subst hW7; exact qCl
 have b21 : w1.cell? ⟨w.heap.size + 1, 1, none⟩ = some (.slice pn ns.length cn) := by subst hW7; exact qCl
 have b30 : w1.cell? ⟨w.heap.size + 1 + 1, 0, none⟩ = some (.slice none 0 0) := by subst hW7; exact qCl
 have b31 : w1.cell? ⟨w.heap.size + 1 + 1, 1, none⟩ = some (.slice none 0 0) := by subst hW7; exact qCl
 have f_b30 : w1.frozen? ⟨w.heap.size + 1 + 1, 0, none⟩ = false := by subst hW7; exact qFz
 have f_b31 : w1.frozen? ⟨w.heap.size + 1 + 1, 1, none⟩ = false := by subst hW7; exact qFz
 have z_b1 : w.heap.size < w1.heap.size := qB b10
 have z_b2 : w.heap.size + 1 < w1.heap.size := qB b20
 have z_b3 : w.heap.size + 1 + 1 < w1.heap.size := qB b30
 have s_w1 : w.heap.size ≤ w1.heap.size := Xw1.size
 clear hW7
 have hI_e6 : (0 : Int) < (ns.length : Int) := by have hB7 : 0 < ns.length := (by omega); omega
 obtain ⟨bl4, ol5, rfl, e60⟩ := h3.at 0 (by omega)
 rw [Nat.add_zero] at e60
 have y_e6 : bl4 < w.heap.size := qB e60
 replace e60 := Xw1.cell e60
 obtain ⟨v7, hv7⟩ : ∃ v, ns.getD 0 0 = v := ⟨_, rfl⟩
 rw [hv7] at e60
 replace hv7 := Lib.hid hv7
 have z_e6 : bl4 < w1.heap.size := qB e60
 have hI_e10 : (1 : Int) < (ns.length : Int) := by have hB7 : 1 < ns.length := (by omega); omega
 obtain ⟨b_e10, o_e10, h_e10, e100⟩ := h3.at 1 (by omega)
 cases h_e10
 have y_e10 : bl4 < w.heap.size := qB e100
 replace e100 := Xw1.cell e100
 obtain ⟨v11, hv11⟩ : ∃ v, ns.getD 1 0 = v := ⟨_, rfl⟩
 rw [hv11] at e100
 replace hv11 := Lib.hid hv11
 have z_e10 : bl4 < w1.heap.size := qB e100
 refine wp_region_tail (S := fun w' => w'.cell? ⟨w.heap.size, 0, none⟩ = some (.slice p0 cells.length c0) ∧ w'.cell? ⟨w.heap.size, 1, none⟩ = some (.slice p1 es.length c1) ∧ w'.cell? ⟨bl4, ol5, none⟩ = some (.int .i64 v7) ∧ w'.cell? ⟨bl4, ol5 + 1, none⟩ = some (.int .i64 v11)) (fun i => decide (10 ≤ i)) qKr ⟨b10, b11, e60, e100⟩ (fun hHeld => ?_)
 refine qTk (v := ?_) 0 rfl (.inl ⟨by rfl, ?_⟩) ?_
 rotate_left
 ·
  (intro w hSw; (try dsimp only at hSw); go_simp; try with_reducible rfl)
 try simp only [Act.put, qa, qb, qc, qD, qE, qF]
 refine qTk (v := ?_) 1 rfl (.inl ⟨by rfl, ?_⟩) ?_
 rotate_left
 ·
  (intro w hSw; (try dsimp only at hSw); go_simp; try with_reducible rfl)
 try simp only [Act.put, qa, qb, qc, qD, qE, qF]
 refine qTk (v := ?_) 2 rfl (.inl ⟨by rfl, ?_⟩) ?_
 rotate_left
 ·
  (intro w hSw; (try dsimp only at hSw); go_simp; try with_reducible rfl)
 try simp only [Act.put, qa, qb, qc, qD, qE, qF]
 refine qTk (v := ?_) 3 rfl (.inl ⟨by rfl, ?_⟩) ?_
 rotate_left
 ·
  (intro w hSw; (try dsimp only at hSw); go_simp; try with_reducible rfl)
 try simp only [Act.put, qa, qb, qc, qD, qE, qF]
 refine qTk (v := ?_) 4 rfl (.inl ⟨by rfl, ?_⟩) ?_
 rotate_left
 ·
  (intro w hSw; (try dsimp only at hSw); go_simp; try with_reducible rfl)
 try simp only [Act.put, qa, qb, qc, qD, qE, qF]
 refine qTk (v := ?_) 5 rfl (.inl ⟨by rfl, ?_⟩) ?_
 rotate_left
 ·
  (intro w hSw; (try dsimp only at hSw); go_simp; try with_reducible rfl)
 try simp only [Act.put, qa, qb, qc, qD, qE, qF]
 refine qTk (v := ?_) 6 rfl (.inl ⟨by rfl, ?_⟩) ?_
 rotate_left
 ·
  (intro w hSw; (try dsimp only at hSw); go_simp; try with_reducible rfl)
 try simp only [Act.put, qa, qb, qc, qD, qE, qF]
 refine wpTail_one (i := 7) qKr rfl rfl (fun K hK => ?_)
 try simp only [Act.put, qa, qb, qc, qD, qE, qF]
 go_simp
 refine (specFillExport_c cells es (.slice p0 cells.length c0) (.slice p1 es.length c1) v7 v11 _ _ _ (h1.ext (Xw1.trans qXt)) (h2.ext (Xw1.trans qXt))).mono ?_
 rintro e w2 ⟨cvfb19, evfb19, R20, rfl, bf18, xw2⟩
 have Lw2 : Ext w1 w2 := Ext.trans qXt xw2
 have Xw2 : Ext w w2 := Xw1.trans Lw2
 replace b10 := Lw2.cell b10
 replace b11 := Lw2.cell b11
 replace b20 := Lw2.cell b20
 replace b21 := Lw2.cell b21
 replace b30 := Lw2.cell b30
 replace b31 := Lw2.cell b31
 replace f_b30 := Lw2.frz z_b3 f_b30
 replace f_b31 := Lw2.frz z_b3 f_b31
 replace e60 := Lw2.cell e60
 replace e100 := Lw2.cell e100
 have z_b1 : w.heap.size < w2.heap.size := qB b10
 have z_b2 : w.heap.size + 1 < w2.heap.size := qB b20
 have z_b3 : w.heap.size + 1 + 1 < w2.heap.size := qB b30
 have z_e6 : bl4 < w2.heap.size := qB e60
 have z_e10 : bl4 < w2.heap.size := qB e100
 have s_w2 : w.heap.size ≤ w2.heap.size := Xw2.size
 clear xw2
 replace bf18 := bf18.lower (lo' := w1.heap.size) qSo
 obtain ⟨afb19, cfb19, rfl⟩ := bf18.ints.form
 obtain ⟨efb19, dfb19, rfl⟩ := bf18.exps.form
 have q_bf18 := Lib.hid bf18.at
 refine hK.out _ _ ⟨b10, b11, e60, e100⟩ (fun hHeld => ?_)
 clear hK K
 try simp only [Act.put, qa, qb, qc, qD, qE, qF]
 refine qTk (v := ?_) 8 rfl (.inl ⟨by rfl, ?_⟩) ?_
 rotate_left
 ·
  (intro w hSw; (try dsimp only at hSw); go_simp; try with_reducible rfl)
 try simp only [Act.put, qa, qb, qc, qD, qE, qF]
 refine qTk (v := ?_) 9 rfl (.inl ⟨by rfl, ?_⟩) ?_
 rotate_left
 ·
  (intro w hSw; (try dsimp only at hSw); go_simp; try with_reducible rfl)
 try simp only [Act.put, qa, qb, qc, qD, qE, qF]
 refine wpTail_last (i := 10) qKr rfl rfl (fun K hK => ?_)
 try simp only [Act.put, qa, qb, qc, qD, qE, qF]
 go_simp
 refine hK.out _ _ ?_
 clear hK K
 try simp only [Act.put, qa, qb, qc, qD, qE, qF]
 refine wpTail_last (i := 11) qKr rfl rfl (fun K hK => ?_)
 try simp only [Act.put, qa, qb, qc, qD, qE, qF]
 go_simp
 refine hK.out _ _ ?_
 clear hK K
 try simp only [Act.put, qa, qb, qc, qD, qE, qF]
 refine wpTail_done qKr ?_ _
 clear hHeld 
 generalize hW8 : ((w2.setCell ⟨w.heap.size + 1 + 1, 0, none⟩ (.slice afb19 (((filA cells es v7 v11).1).length) cfb19)).setCell ⟨w.heap.size + 1 + 1, 1, none⟩ (.slice efb19 (((filA cells es v7 v11).2.1).length) dfb19)) = w3 at *
 have Kw3 : Chg (w.heap.size + 1 + 1) (w.heap.size + 1 + 1 + 1) w2 w3 := by subst hW8; exact qCh
 have Xw3 : Ext w w3 := by subst hW8; exact qXt
 replace b10 := Kw3.cell (by omega) b10
 replace b11 := Kw3.cell (by omega) b11
 replace b20 := Kw3.cell (by omega) b20
 replace b21 := Kw3.cell (by omega) b21
 replace b30 : w3.cell? ⟨w.heap.size + 1 + 1, 0, none⟩ = some (.slice afb19 (((filA cells es v7 v11).1).length) cfb19) := by subst hW8; go_simp
 replace f_b30 : w3.frozen? ⟨w.heap.size + 1 + 1, 0, none⟩ = false := by subst hW8; first | (simp only [World.frozen?_setCell]; with_reducible assumption) | go_simp
 replace b31 : w3.cell? ⟨w.heap.size + 1 + 1, 1, none⟩ = some (.slice efb19 (((filA cells es v7 v11).2.1).length) dfb19) := by subst hW8; go_simp
 replace f_b31 : w3.frozen? ⟨w.heap.size + 1 + 1, 1, none⟩ = false := by subst hW8; first | (simp only [World.frozen?_setCell]; with_reducible assumption) | go_simp
 replace e60 := Kw3.cell (by omega) e60
 replace e100 := Kw3.cell (by omega) e100
 replace bf18 := bf18.chg Kw3 (by omega)
 clear Kw3
 have z_b1 : w.heap.size < w3.heap.size := qB b10
 have z_b2 : w.heap.size + 1 < w3.heap.size := qB b20
 have z_b3 : w.heap.size + 1 + 1 < w3.heap.size := qB b30
 have z_e6 : bl4 < w3.heap.size := qB e60
 have z_e10 : bl4 < w3.heap.size := qB e100
 have s_w3 : w.heap.size ≤ w3.heap.size := Xw3.size
 clear hW8
 go_wp2_with fail
 refine bodyPost_ret (v := .tuple #[.agg #[.slice afb19 (((filA cells es v7 v11).1).length) cfb19, .slice efb19 (((filA cells es v7 v11).2.1).length) dfb19], .bool ((filA cells es v7 v11).2.2)]) (by simp only [results, Tryd.results23]; go_simp) rfl ?_
 rw [hv7.out, hv11.out]
 exact ⟨_, _, _, rfl, (bf18.ext qXt).lower (by omega), (Xw3.trans qXt)⟩

set_option maxHeartbeats 3200000 in
theorem done_5 (cells : List Int) (es : List Exp) (cv ev : Value) (ns : List Int) (nv : Value) (w : World) (l1 l2 : Nat) (h1 : Ints w l1 cv cells) (h2 : Exps w l2 ev es) (l3 : Nat) (h3 : Ints w l3 nv ns) (hl : 2 ≤ ns.length) :
  Calls Tryd.prog 23 #[.agg #[cv, ev], .agg #[.int .i64 5, nv]] w (PBX w (cpyA cells es (ns.getD 0 0) (ns.getD 1 0))) := by
 obtain ⟨p0, c0, rfl⟩ := h1.form
 obtain ⟨p1, c1, rfl⟩ := h2.form
 have he1 := h2.len
 have hc1 := h1.len
 obtain ⟨pn, cn, rfl⟩ := h3.form
 have hl0 : 0 < ns.length := by omega
 have hl1 : 1 < ns.length := by omega
 go_enter Tryd.func23, Tryd.ntmps23
 go_wp2_with fail
 generalize hW9 : ((w.alloc (.cells #[.slice p0 cells.length c0, .slice p1 es.length c1] 34)).alloc (.cells #[.int .i64 5, .slice pn ns.length cn] 25)).alloc (.cells #[.slice none 0 0, .slice none 0 0] 34) = w1 at *
 have Lw1 : Ext w w1 := by subst hW9; exact qXt
 have Xw1 : Ext w w1 := by subst hW9; exact Lw1
 have b10 : w1.cell? ⟨w.heap.size, 0, none⟩ = some (.slice p0 cells.length c0) := by subst hW9; exact qCl
 have b11 : w1.cell? ⟨w.heap.size, 1, none⟩ = some (.slice p1 es.length c1) := by subst hW9; exact qCl
 have b20 : w1.cell? ⟨w.heap.size + 1, 0, none⟩ = some (.int .i64 5) := by subst hW9; exact qCl
 have b21 : w1.cell? ⟨w.heap.size + 1, 1, none⟩ = some (.slice pn ns.length cn) := by subst hW9; exact qCl
 have b30 : w1.cell? ⟨w.heap.size + 1 + 1, 0, none⟩ = some (.slice none 0 0) := by subst hW9; exact qCl
 have b31 : w1.cell? ⟨w.heap.size + 1 + 1, 1, none⟩ = some (.slice none 0 0) := by subst hW9; exact qCl
 have f_b30 : w1.frozen? ⟨w.heap.size + 1 + 1, 0, none⟩ = false := by subst hW9; exact qFz
 have f_b31 : w1.frozen? ⟨w.heap.size + 1 + 1, 1, none⟩ = false := by subst hW9; exact qFz
 have z_b1 : w.heap.size < w1.heap.size := qB b10
 have z_b2 : w.heap.size + 1 < w1.heap.size := qB b20
 have z_b3 : w.heap.size + 1 + 1 < w1.heap.size := qB b30
 have s_w1 : w.heap.size ≤ w1.heap.size := Xw1.size
 clear hW9
 have hI_e6 : (0 : Int) < (ns.length : Int) := by have hB7 : 0 < ns.length := (by omega); omega
 obtain ⟨bl4, ol5, rfl, e60⟩ := h3.at 0 (by omega)
 rw [Nat.add_zero] at e60
 have y_e6 : bl4 < w.heap.size := qB e60
 replace e60 := Xw1.cell e60
 obtain ⟨v7, hv7⟩ : ∃ v, ns.getD 0 0 = v := ⟨_, rfl⟩
 rw [hv7] at e60
 replace hv7 := Lib.hid hv7
 have z_e6 : bl4 < w1.heap.size := qB e60
 have hI_e10 : (1 : Int) < (ns.length : Int) := by have hB7 : 1 < ns.length := (by omega); omega
 obtain ⟨b_e10, o_e10, h_e10, e100⟩ := h3.at 1 (by omega)
 cases h_e10
 have y_e10 : bl4 < w.heap.size := qB e100
 replace e100 := Xw1.cell e100
 obtain ⟨v11, hv11⟩ : ∃ v, ns.getD 1 0 = v := ⟨_, rfl⟩
 rw [hv11] at e100
 replace hv11 := Lib.hid hv11
 have z_e10 : bl4 < w1.heap.size := qB e100
 refine wp_region_tail (S := fun w' => w'.cell? ⟨w.heap.size, 0, none⟩ = some (.slice p0 cells.length c0) ∧ w'.cell? ⟨w.heap.size, 1, none⟩ = some (.slice p1 es.length c1) ∧ w'.cell? ⟨bl4, ol5, none⟩ = some (.int .i64 v7) ∧ w'.cell? ⟨bl4, ol5 + 1, none⟩ = some (.int .i64 v11)) (fun i => decide (10 ≤ i)) qKr ⟨b10, b11, e60, e100⟩ (fun hHeld => ?_)
 refine qTk (v := ?_) 0 rfl (.inl ⟨by rfl, ?_⟩) ?_
 rotate_left
 ·
  (intro w hSw; (try dsimp only at hSw); go_simp; try with_reducible rfl)
 try simp only [Act.put, qa, qb, qc, qD, qE, qF]
 refine qTk (v := ?_) 1 rfl (.inl ⟨by rfl, ?_⟩) ?_
 rotate_left
 ·
  (intro w hSw; (try dsimp only at hSw); go_simp; try with_reducible rfl)
 try simp only [Act.put, qa, qb, qc, qD, qE, qF]
 refine qTk (v := ?_) 2 rfl (.inl ⟨by rfl, ?_⟩) ?_
 rotate_left
 ·
  (intro w hSw; (try dsimp only at hSw); go_simp; try with_reducible rfl)
 try simp only [Act.put, qa, qb, qc, qD, qE, qF]
 refine qTk (v := ?_) 3 rfl (.inl ⟨by rfl, ?_⟩) ?_
 rotate_left
 ·
  (intro w hSw; (try dsimp only at hSw); go_simp; try with_reducible rfl)
 try simp only [Act.put, qa, qb, qc, qD, qE, qF]
 refine qTk (v := ?_) 4 rfl (.inl ⟨by rfl, ?_⟩) ?_
 rotate_left
 ·
  (intro w hSw; (try dsimp only at hSw); go_simp; try with_reducible rfl)
 try simp only [Act.put, qa, qb, qc, qD, qE, qF]
 refine qTk (v := ?_) 5 rfl (.inl ⟨by rfl, ?_⟩) ?_
 rotate_left
 ·
  (intro w hSw; (try dsimp only at hSw); go_simp; try with_reducible rfl)
 try simp only [Act.put, qa, qb, qc, qD, qE, qF]
 refine qTk (v := ?_) 6 rfl (.inl ⟨by rfl, ?_⟩) ?_
 rotate_left
 ·
  (intro w hSw; (try dsimp only at hSw); go_simp; try with_reducible rfl)
 try simp only [Act.put, qa, qb, qc, qD, qE, qF]
 refine wpTail_one (i := 7) qKr rfl rfl (fun K hK => ?_)
 try simp only [Act.put, qa, qb, qc, qD, qE, qF]
 go_simp
 refine (specCopyExport_c cells es (.slice p0 cells.length c0) (.slice p1 es.length c1) v7 v11 _ _ _ (h1.ext (Xw1.trans qXt)) (h2.ext (Xw1.trans qXt))).mono ?_
 rintro e w2 ⟨cvfb19, evfb19, R20, rfl, bf18, xw2⟩
 have Lw2 : Ext w1 w2 := Ext.trans qXt xw2
 have Xw2 : Ext w w2 := Xw1.trans Lw2
 replace b10 := Lw2.cell b10
 replace b11 := Lw2.cell b11
 replace b20 := Lw2.cell b20
 replace b21 := Lw2.cell b21
 replace b30 := Lw2.cell b30
 replace b31 := Lw2.cell b31
 replace f_b30 := Lw2.frz z_b3 f_b30
 replace f_b31 := Lw2.frz z_b3 f_b31
 replace e60 := Lw2.cell e60
 replace e100 := Lw2.cell e100
 have z_b1 : w.heap.size < w2.heap.size := qB b10
 have z_b2 : w.heap.size + 1 < w2.heap.size := qB b20
 have z_b3 : w.heap.size + 1 + 1 < w2.heap.size := qB b30
 have z_e6 : bl4 < w2.heap.size := qB e60
 have z_e10 : bl4 < w2.heap.size := qB e100
 have s_w2 : w.heap.size ≤ w2.heap.size := Xw2.size
 clear xw2
 replace bf18 := bf18.lower (lo' := w1.heap.size) qSo
 obtain ⟨afb19, cfb19, rfl⟩ := bf18.ints.form
 obtain ⟨efb19, dfb19, rfl⟩ := bf18.exps.form
 have q_bf18 := Lib.hid bf18.at
 refine hK.out _ _ ⟨b10, b11, e60, e100⟩ (fun hHeld => ?_)
 clear hK K
 try simp only [Act.put, qa, qb, qc, qD, qE, qF]
 refine qTk (v := ?_) 8 rfl (.inl ⟨by rfl, ?_⟩) ?_
 rotate_left
 ·
  (intro w hSw; (try dsimp only at hSw); go_simp; try with_reducible rfl)
 try simp only [Act.put, qa, qb, qc, qD, qE, qF]
 refine qTk (v := ?_) 9 rfl (.inl ⟨by rfl, ?_⟩) ?_
 rotate_left
 ·
  (intro w hSw; (try dsimp only at hSw); go_simp; try with_reducible rfl)
 try simp only [Act.put, qa, qb, qc, qD, qE, qF]
 refine wpTail_last (i := 10) qKr rfl rfl (fun K hK => ?_)
 try simp only [Act.put, qa, qb, qc, qD, qE, qF]
 go_simp
 refine hK.out _ _ ?_
 clear hK K
 try simp only [Act.put, qa, qb, qc, qD, qE, qF]
 refine wpTail_last (i := 11) qKr rfl rfl (fun K hK => ?_)
 try simp only [Act.put, qa, qb, qc, qD, qE, qF]
 go_simp
 refine hK.out _ _ ?_
 clear hK K
 try simp only [Act.put, qa, qb, qc, qD, qE, qF]
 refine wpTail_done qKr ?_ _
 clear hHeld 
 generalize hW10 : ((w2.setCell ⟨w.heap.size + 1 + 1, 0, none⟩ (.slice afb19 (((cpyA cells es v7 v11).1).length) cfb19)).setCell ⟨w.heap.size + 1 + 1, 1, none⟩ (.slice efb19 (((cpyA cells es v7 v11).2.1).length) dfb19)) = w3 at *
 have Kw3 : Chg (w.heap.size + 1 + 1) (w.heap.size + 1 + 1 + 1) w2 w3 := by subst hW10; exact qCh
 have Xw3 : Ext w w3 := by subst hW10; exact qXt
 replace b10 := Kw3.cell (by omega) b10
 replace b11 := Kw3.cell (by omega) b11
 replace b20 := Kw3.cell (by omega) b20
 replace b21 := Kw3.cell (by omega) b21
 replace b30 : w3.cell? ⟨w.heap.size + 1 + 1, 0, none⟩ = some (.slice afb19 (((cpyA cells es v7 v11).1).length) cfb19) := by subst hW10; go_simp
 replace f_b30 : w3.frozen? ⟨w.heap.size + 1 + 1, 0, none⟩ = false := by subst hW10; first | (simp only [World.frozen?_setCell]; with_reducible assumption) | go_simp
 replace b31 : w3.cell? ⟨w.heap.size + 1 + 1, 1, none⟩ = some (.slice efb19 (((cpyA cells es v7 v11).2.1).length) dfb19) := by subst hW10; go_simp
 replace f_b31 : w3.frozen? ⟨w.heap.size + 1 + 1, 1, none⟩ = false := by subst hW10; first | (simp only [World.frozen?_setCell]; with_reducible assumption) | go_simp
 replace e60 := Kw3.cell (by omega) e60
 replace e100 := Kw3.cell (by omega) e100
 replace bf18 := bf18.chg Kw3 (by omega)
 clear Kw3
 have z_b1 : w.heap.size < w3.heap.size := qB b10
 have z_b2 : w.heap.size + 1 < w3.heap.size := qB b20
 have z_b3 : w.heap.size + 1 + 1 < w3.heap.size := qB b30
 have z_e6 : bl4 < w3.heap.size := qB e60
 have z_e10 : bl4 < w3.heap.size := qB e100
 have s_w3 : w.heap.size ≤ w3.heap.size := Xw3.size
 clear hW10
 go_wp2_with fail
 refine bodyPost_ret (v := .tuple #[.agg #[.slice afb19 (((cpyA cells es v7 v11).1).length) cfb19, .slice efb19 (((cpyA cells es v7 v11).2.1).length) dfb19], .bool ((cpyA cells es v7 v11).2.2)]) (by simp only [results, Tryd.results23]; go_simp) rfl ?_
 rw [hv7.out, hv11.out]
 exact ⟨_, _, _, rfl, (bf18.ext qXt).lower (by omega), (Xw3.trans qXt)⟩

set_option maxHeartbeats 3200000 in
theorem done_6 (cells : List Int) (es : List Exp) (cv ev : Value) (ns : List Int) (nv : Value) (w : World) (l1 l2 : Nat) (h1 : Ints w l1 cv cells) (h2 : Exps w l2 ev es) (l3 : Nat) (h3 : Ints w l3 nv ns) (hl : 1 ≤ ns.length) :
  Calls Tryd.prog 23 #[.agg #[cv, ev], .agg #[.int .i64 6, nv]] w (fun e w' => e = .returned (.tuple #[.agg #[cv, ev], .bool (opB es (ns.getD 0 0))]) ∧ Ext w w') := by
 obtain ⟨p0, c0, rfl⟩ := h1.form
 obtain ⟨p1, c1, rfl⟩ := h2.form
 have he1 := h2.len
 have hc1 := h1.len
 obtain ⟨pn, cn, rfl⟩ := h3.form
 have hl0 : 0 < ns.length := by omega
 go_enter Tryd.func23, Tryd.ntmps23
 go_wp2_with fail
 generalize hW11 : ((w.alloc (.cells #[.slice p0 cells.length c0, .slice p1 es.length c1] 34)).alloc (.cells #[.int .i64 6, .slice pn ns.length cn] 25)).alloc (.cells #[.slice none 0 0, .slice none 0 0] 34) = w1 at *
 have Lw1 : Ext w w1 := by subst hW11; exact qXt
 have Xw1 : Ext w w1 := by subst hW11; exact Lw1
 have b10 : w1.cell? ⟨w.heap.size, 0, none⟩ = some (.slice p0 cells.length c0) := by subst hW11; exact qCl
 have b11 : w1.cell? ⟨w.heap.size, 1, none⟩ = some (.slice p1 es.length c1) := by subst hW11; exact qCl
 have b20 : w1.cell? ⟨w.heap.size + 1, 0, none⟩ = some (.int .i64 6) := by subst hW11; exact qCl
 have b21 : w1.cell? ⟨w.heap.size + 1, 1, none⟩ = some (.slice pn ns.length cn) := by subst hW11; exact qCl
 have b30 : w1.cell? ⟨w.heap.size + 1 + 1, 0, none⟩ = some (.slice none 0 0) := by subst hW11; exact qCl
 have b31 : w1.cell? ⟨w.heap.size + 1 + 1, 1, none⟩ = some (.slice none 0 0) := by subst hW11; exact qCl
 have f_b30 : w1.frozen? ⟨w.heap.size + 1 + 1, 0, none⟩ = false := by subst hW11; exact qFz
 have f_b31 : w1.frozen? ⟨w.heap.size + 1 + 1, 1, none⟩ = false := by subst hW11; exact qFz
 have z_b1 : w.heap.size < w1.heap.size := qB b10
 have z_b2 : w.heap.size + 1 < w1.heap.size := qB b20
 have z_b3 : w.heap.size + 1 + 1 < w1.heap.size := qB b30
 have s_w1 : w.heap.size ≤ w1.heap.size := Xw1.size
 clear hW11
 have hI_e6 : (0 : Int) < (ns.length : Int) := by have hB7 : 0 < ns.length := (by omega); omega
 obtain ⟨bl4, ol5, rfl, e60⟩ := h3.at 0 (by omega)
 rw [Nat.add_zero] at e60
 have y_e6 : bl4 < w.heap.size := qB e60
 replace e60 := Xw1.cell e60
 obtain ⟨v7, hv7⟩ : ∃ v, ns.getD 0 0 = v := ⟨_, rfl⟩
 rw [hv7] at e60
 replace hv7 := Lib.hid hv7
 have z_e6 : bl4 < w1.heap.size := qB e60
 refine wp_region_held_drew (S := fun w' => w'.cell? ⟨w.heap.size, 0, none⟩ = some (.slice p0 cells.length c0) ∧ w'.cell? ⟨w.heap.size, 1, none⟩ = some (.slice p1 es.length c1) ∧ w'.cell? ⟨bl4, ol5, none⟩ = some (.int .i64 v7)) qKr ⟨b10, b11, e60⟩ (fun hHeld => ?_)
 refine qHk (v := ?_) 0 rfl (.inl ⟨by rfl, ?_⟩) ?_
 rotate_left
 ·
  (intro w hSw; (try dsimp only at hSw); go_simp; try with_reducible rfl)
 try simp only [Act.put, qa, qb, qc, qD, qE, qF]
 refine qHk (v := ?_) 1 rfl (.inl ⟨by rfl, ?_⟩) ?_
 rotate_left
 ·
  (intro w hSw; (try dsimp only at hSw); go_simp; try with_reducible rfl)
 try simp only [Act.put, qa, qb, qc, qD, qE, qF]
 refine qHk (v := ?_) 2 rfl (.inl ⟨by rfl, ?_⟩) ?_
 rotate_left
 ·
  (intro w hSw; (try dsimp only at hSw); go_simp; try with_reducible rfl)
 try simp only [Act.put, qa, qb, qc, qD, qE, qF]
 refine qHk (v := ?_) 3 rfl (.inl ⟨by rfl, ?_⟩) ?_
 rotate_left
 ·
  (intro w hSw; (try dsimp only at hSw); go_simp; try with_reducible rfl)
 try simp only [Act.put, qa, qb, qc, qD, qE, qF]
 refine qHk (v := ?_) 4 rfl (.inl ⟨by rfl, ?_⟩) ?_
 rotate_left
 ·
  (intro w hSw; (try dsimp only at hSw); go_simp; try with_reducible rfl)
 try simp only [Act.put, qa, qb, qc, qD, qE, qF]
 refine qHr 5 rfl (fun K hK => ?_)
 try simp only [Act.put, qa, qb, qc, qD, qE, qF]
 go_simp
 refine (specIsOpen_c cells es (.slice p0 cells.length c0) (.slice p1 es.length c1) v7 _ _ _ (h1.ext (Xw1.trans qXt)) (h2.ext (Xw1.trans qXt))).mono ?_
 rintro e w2 ⟨rfl, xw2⟩
 have Lw2 : Ext w1 w2 := Ext.trans qXt xw2
 have Xw2 : Ext w w2 := Xw1.trans Lw2
 replace b10 := Lw2.cell b10
 replace b11 := Lw2.cell b11
 replace b20 := Lw2.cell b20
 replace b21 := Lw2.cell b21
 replace b30 := Lw2.cell b30
 replace b31 := Lw2.cell b31
 replace f_b30 := Lw2.frz z_b3 f_b30
 replace f_b31 := Lw2.frz z_b3 f_b31
 replace e60 := Lw2.cell e60
 have z_b1 : w.heap.size < w2.heap.size := qB b10
 have z_b2 : w.heap.size + 1 < w2.heap.size := qB b20
 have z_b3 : w.heap.size + 1 + 1 < w2.heap.size := qB b30
 have z_e6 : bl4 < w2.heap.size := qB e60
 have s_w2 : w.heap.size ≤ w2.heap.size := Xw2.size
 clear xw2
 refine hK.out _ _ ⟨b10, b11, e60⟩ (fun hHeld => ?_)
 clear hK K
 try simp only [Act.put, qa, qb, qc, qD, qE, qF]
 refine qHr 6 rfl (fun K hK => ?_)
 try simp only [Act.put, qa, qb, qc, qD, qE, qF]
 go_simp
 generalize hW12 : ((w2.setCell ⟨w.heap.size + 1 + 1, 0, none⟩ (.slice p0 cells.length c0)).setCell ⟨w.heap.size + 1 + 1, 1, none⟩ (.slice p1 es.length c1)) = w3 at *
 have Kw3 : Chg (w.heap.size + 1 + 1) (w.heap.size + 1 + 1 + 1) w2 w3 := by subst hW12; exact qCh
 have Xw3 : Ext w w3 := by subst hW12; exact qXt
 replace b10 := Kw3.cell (by omega) b10
 replace b11 := Kw3.cell (by omega) b11
 replace b20 := Kw3.cell (by omega) b20
 replace b21 := Kw3.cell (by omega) b21
 replace b30 : w3.cell? ⟨w.heap.size + 1 + 1, 0, none⟩ = some (.slice p0 cells.length c0) := by subst hW12; go_simp
 replace f_b30 : w3.frozen? ⟨w.heap.size + 1 + 1, 0, none⟩ = false := by subst hW12; first | (simp only [World.frozen?_setCell]; with_reducible assumption) | go_simp
 replace b31 : w3.cell? ⟨w.heap.size + 1 + 1, 1, none⟩ = some (.slice p1 es.length c1) := by subst hW12; go_simp
 replace f_b31 : w3.frozen? ⟨w.heap.size + 1 + 1, 1, none⟩ = false := by subst hW12; first | (simp only [World.frozen?_setCell]; with_reducible assumption) | go_simp
 replace e60 := Kw3.cell (by omega) e60
 clear Kw3
 have z_b1 : w.heap.size < w3.heap.size := qB b10
 have z_b2 : w.heap.size + 1 < w3.heap.size := qB b20
 have z_b3 : w.heap.size + 1 + 1 < w3.heap.size := qB b30
 have z_e6 : bl4 < w3.heap.size := qB e60
 have s_w3 : w.heap.size ≤ w3.heap.size := Xw3.size
 clear hW12
 refine hK.out _ _ ⟨b10, b11, e60⟩ (fun hHeld => ?_)
 clear hK K
 try simp only [Act.put, qa, qb, qc, qD, qE, qF]
 refine qHk (v := ?_) 7 rfl (.inl ⟨by rfl, ?_⟩) ?_
 rotate_left
 ·
  (intro w hSw; (try dsimp only at hSw); go_simp; try with_reducible rfl)
 try simp only [Act.put, qa, qb, qc, qD, qE, qF]
 refine wpAnyH_done qKr ?_ _
 clear hHeld 
 go_wp2_with fail
 refine bodyPost_ret (v := .tuple #[.agg #[.slice p0 cells.length c0, .slice p1 es.length c1], .bool (opB es v7)]) (by simp only [results, Tryd.results23]; go_simp) rfl ?_
 exact ⟨by rw [hv7.out], (Xw3.trans qXt)⟩

set_option maxHeartbeats 3200000 in
theorem done_7 (cells : List Int) (es : List Exp) (cv ev : Value) (ns : List Int) (nv : Value) (w : World) (l1 l2 : Nat) (h1 : Ints w l1 cv cells) (h2 : Exps w l2 ev es) (l3 : Nat) (h3 : Ints w l3 nv ns) (hl : 1 ≤ ns.length) :
  Calls Tryd.prog 23 #[.agg #[cv, ev], .agg #[.int .i64 7, nv]] w (PBX w (relA cells es (ns.getD 0 0))) := by
 obtain ⟨p0, c0, rfl⟩ := h1.form
 obtain ⟨p1, c1, rfl⟩ := h2.form
 have he1 := h2.len
 have hc1 := h1.len
 obtain ⟨pn, cn, rfl⟩ := h3.form
 have hl0 : 0 < ns.length := by omega
 go_enter Tryd.func23, Tryd.ntmps23
 go_wp2_with fail
 generalize hW13 : ((w.alloc (.cells #[.slice p0 cells.length c0, .slice p1 es.length c1] 34)).alloc (.cells #[.int .i64 7, .slice pn ns.length cn] 25)).alloc (.cells #[.slice none 0 0, .slice none 0 0] 34) = w1 at *
 have Lw1 : Ext w w1 := by subst hW13; exact qXt
 have Xw1 : Ext w w1 := by subst hW13; exact Lw1
 have b10 : w1.cell? ⟨w.heap.size, 0, none⟩ = some (.slice p0 cells.length c0) := by subst hW13; exact qCl
 have b11 : w1.cell? ⟨w.heap.size, 1, none⟩ = some (.slice p1 es.length c1) := by subst hW13; exact qCl
 have b20 : w1.cell? ⟨w.heap.size + 1, 0, none⟩ = some (.int .i64 7) := by subst hW13; exact qCl
 have b21 : w1.cell? ⟨w.heap.size + 1, 1, none⟩ = some (.slice pn ns.length cn) := by subst hW13; exact qCl
 have b30 : w1.cell? ⟨w.heap.size + 1 + 1, 0, none⟩ = some (.slice none 0 0) := by subst hW13; exact qCl
 have b31 : w1.cell? ⟨w.heap.size + 1 + 1, 1, none⟩ = some (.slice none 0 0) := by subst hW13; exact qCl
 have f_b30 : w1.frozen? ⟨w.heap.size + 1 + 1, 0, none⟩ = false := by subst hW13; exact qFz
 have f_b31 : w1.frozen? ⟨w.heap.size + 1 + 1, 1, none⟩ = false := by subst hW13; exact qFz
 have z_b1 : w.heap.size < w1.heap.size := qB b10
 have z_b2 : w.heap.size + 1 < w1.heap.size := qB b20
 have z_b3 : w.heap.size + 1 + 1 < w1.heap.size := qB b30
 have s_w1 : w.heap.size ≤ w1.heap.size := Xw1.size
 clear hW13
 have hI_e6 : (0 : Int) < (ns.length : Int) := by have hB7 : 0 < ns.length := (by omega); omega
 obtain ⟨bl4, ol5, rfl, e60⟩ := h3.at 0 (by omega)
 rw [Nat.add_zero] at e60
 have y_e6 : bl4 < w.heap.size := qB e60
 replace e60 := Xw1.cell e60
 obtain ⟨v7, hv7⟩ : ∃ v, ns.getD 0 0 = v := ⟨_, rfl⟩
 rw [hv7] at e60
 replace hv7 := Lib.hid hv7
 have z_e6 : bl4 < w1.heap.size := qB e60
 refine wp_region_tail (S := fun w' => w'.cell? ⟨w.heap.size, 0, none⟩ = some (.slice p0 cells.length c0) ∧ w'.cell? ⟨w.heap.size, 1, none⟩ = some (.slice p1 es.length c1) ∧ w'.cell? ⟨bl4, ol5, none⟩ = some (.int .i64 v7)) (fun i => decide (7 ≤ i)) qKr ⟨b10, b11, e60⟩ (fun hHeld => ?_)
 refine qTk (v := ?_) 0 rfl (.inl ⟨by rfl, ?_⟩) ?_
 rotate_left
 ·
  (intro w hSw; (try dsimp only at hSw); go_simp; try with_reducible rfl)
 try simp only [Act.put, qa, qb, qc, qD, qE, qF]
 refine qTk (v := ?_) 1 rfl (.inl ⟨by rfl, ?_⟩) ?_
 rotate_left
 ·
  (intro w hSw; (try dsimp only at hSw); go_simp; try with_reducible rfl)
 try simp only [Act.put, qa, qb, qc, qD, qE, qF]
 refine qTk (v := ?_) 2 rfl (.inl ⟨by rfl, ?_⟩) ?_
 rotate_left
 ·
  (intro w hSw; (try dsimp only at hSw); go_simp; try with_reducible rfl)
 try simp only [Act.put, qa, qb, qc, qD, qE, qF]
 refine qTk (v := ?_) 3 rfl (.inl ⟨by rfl, ?_⟩) ?_
 rotate_left
 ·
  (intro w hSw; (try dsimp only at hSw); go_simp; try with_reducible rfl)
 try simp only [Act.put, qa, qb, qc, qD, qE, qF]
 refine wpTail_one (i := 4) qKr rfl rfl (fun K hK => ?_)
 try simp only [Act.put, qa, qb, qc, qD, qE, qF]
 go_simp
 refine (specReleaseExport_c cells es (.slice p0 cells.length c0) (.slice p1 es.length c1) v7 _ _ _ (h1.ext (Xw1.trans qXt)) (h2.ext (Xw1.trans qXt))).mono ?_
 rintro e w2 ⟨cvfb12, evfb12, R13, rfl, bf11, xw2⟩
 have Lw2 : Ext w1 w2 := Ext.trans qXt xw2
 have Xw2 : Ext w w2 := Xw1.trans Lw2
 replace b10 := Lw2.cell b10
 replace b11 := Lw2.cell b11
 replace b20 := Lw2.cell b20
 replace b21 := Lw2.cell b21
 replace b30 := Lw2.cell b30
 replace b31 := Lw2.cell b31
 replace f_b30 := Lw2.frz z_b3 f_b30
 replace f_b31 := Lw2.frz z_b3 f_b31
 replace e60 := Lw2.cell e60
 have z_b1 : w.heap.size < w2.heap.size := qB b10
 have z_b2 : w.heap.size + 1 < w2.heap.size := qB b20
 have z_b3 : w.heap.size + 1 + 1 < w2.heap.size := qB b30
 have z_e6 : bl4 < w2.heap.size := qB e60
 have s_w2 : w.heap.size ≤ w2.heap.size := Xw2.size
 clear xw2
 replace bf11 := bf11.lower (lo' := w1.heap.size) qSo
 obtain ⟨afb12, cfb12, rfl⟩ := bf11.ints.form
 obtain ⟨efb12, dfb12, rfl⟩ := bf11.exps.form
 have q_bf11 := Lib.hid bf11.at
 refine hK.out _ _ ⟨b10, b11, e60⟩ (fun hHeld => ?_)
 clear hK K
 try simp only [Act.put, qa, qb, qc, qD, qE, qF]
 refine qTk (v := ?_) 5 rfl (.inl ⟨by rfl, ?_⟩) ?_
 rotate_left
 ·
  (intro w hSw; (try dsimp only at hSw); go_simp; try with_reducible rfl)
 try simp only [Act.put, qa, qb, qc, qD, qE, qF]
 refine qTk (v := ?_) 6 rfl (.inl ⟨by rfl, ?_⟩) ?_
 rotate_left
 ·
  (intro w hSw; (try dsimp only at hSw); go_simp; try with_reducible rfl)
 try simp only [Act.put, qa, qb, qc, qD, qE, qF]
 refine wpTail_last (i := 7) qKr rfl rfl (fun K hK => ?_)
 try simp only [Act.put, qa, qb, qc, qD, qE, qF]
 go_simp
 refine hK.out _ _ ?_
 clear hK K
 try simp only [Act.put, qa, qb, qc, qD, qE, qF]
 refine wpTail_last (i := 8) qKr rfl rfl (fun K hK => ?_)
 try simp only [Act.put, qa, qb, qc, qD, qE, qF]
 go_simp
 refine hK.out _ _ ?_
 clear hK K
 try simp only [Act.put, qa, qb, qc, qD, qE, qF]
 refine wpTail_done qKr ?_ _
 clear hHeld 
 generalize hW14 : ((w2.setCell ⟨w.heap.size + 1 + 1, 0, none⟩ (.slice afb12 (((relA cells es v7).1).length) cfb12)).setCell ⟨w.heap.size + 1 + 1, 1, none⟩ (.slice efb12 (((relA cells es v7).2.1).length) dfb12)) = w3 at *
 have Kw3 : Chg (w.heap.size + 1 + 1) (w.heap.size + 1 + 1 + 1) w2 w3 := by subst hW14; exact qCh
 have Xw3 : Ext w w3 := by subst hW14; exact qXt
 replace b10 := Kw3.cell (by omega) b10
 replace b11 := Kw3.cell (by omega) b11
 replace b20 := Kw3.cell (by omega) b20
 replace b21 := Kw3.cell (by omega) b21
 replace b30 : w3.cell? ⟨w.heap.size + 1 + 1, 0, none⟩ = some (.slice afb12 (((relA cells es v7).1).length) cfb12) := by subst hW14; go_simp
 replace f_b30 : w3.frozen? ⟨w.heap.size + 1 + 1, 0, none⟩ = false := by subst hW14; first | (simp only [World.frozen?_setCell]; with_reducible assumption) | go_simp
 replace b31 : w3.cell? ⟨w.heap.size + 1 + 1, 1, none⟩ = some (.slice efb12 (((relA cells es v7).2.1).length) dfb12) := by subst hW14; go_simp
 replace f_b31 : w3.frozen? ⟨w.heap.size + 1 + 1, 1, none⟩ = false := by subst hW14; first | (simp only [World.frozen?_setCell]; with_reducible assumption) | go_simp
 replace e60 := Kw3.cell (by omega) e60
 replace bf11 := bf11.chg Kw3 (by omega)
 clear Kw3
 have z_b1 : w.heap.size < w3.heap.size := qB b10
 have z_b2 : w.heap.size + 1 < w3.heap.size := qB b20
 have z_b3 : w.heap.size + 1 + 1 < w3.heap.size := qB b30
 have z_e6 : bl4 < w3.heap.size := qB e60
 have s_w3 : w.heap.size ≤ w3.heap.size := Xw3.size
 clear hW14
 go_wp2_with fail
 refine bodyPost_ret (v := .tuple #[.agg #[.slice afb12 (((relA cells es v7).1).length) cfb12, .slice efb12 (((relA cells es v7).2.1).length) dfb12], .bool ((relA cells es v7).2.2)]) (by simp only [results, Tryd.results23]; go_simp) rfl ?_
 rw [hv7.out]
 exact ⟨_, _, _, rfl, (bf11.ext qXt).lower (by omega), (Xw3.trans qXt)⟩


end Go.Proofs.YtgklaobfikbiiaaDoor

/- Walks: acts of the reference: views. -/
namespace Go.Proofs.YtgklaobfikbiiaaDoor
open Go.RowKit
set_option linter.unusedVariables false
set_option maxRecDepth 100000

set_option maxHeartbeats 3200000 in
theorem done_1 (cells : List Int) (es : List Exp) (cv ev : Value) (ns : List Int) (nv : Value) (w : World) (l1 l2 : Nat) (h1 : Ints w l1 cv cells) (h2 : Exps w l2 ev es) (l3 : Nat) (h3 : Ints w l3 nv ns) (hl : 3 ≤ ns.length) :
  Calls Tryd.prog 23 #[.agg #[cv, ev], .agg #[.int .i64 1, nv]] w (PBX w (expA cells es (ns.getD 0 0) [(ns.getD 1 0)] [(ns.getD 2 0)])) := by
 obtain ⟨p0, c0, rfl⟩ := h1.form
 obtain ⟨p1, c1, rfl⟩ := h2.form
 have he1 := h2.len
 have hc1 := h1.len
 obtain ⟨pn, cn, rfl⟩ := h3.form
 have hl0 : 0 < ns.length := by omega
 have hl1 : 1 < ns.length := by omega
 have hl2 : 2 < ns.length := by omega
 go_enter Tryd.func23, Tryd.ntmps23
 go_wp2_with fail
 generalize hW1 : ((w.alloc (.cells #[.slice p0 cells.length c0, .slice p1 es.length c1] 34)).alloc (.cells #[.int .i64 1, .slice pn ns.length cn] 25)).alloc (.cells #[.slice none 0 0, .slice none 0 0] 34) = w1 at *
 have Lw1 : Ext w w1 := by subst hW1; exact qXt
 have Xw1 : Ext w w1 := by subst hW1; exact Lw1
 have b10 : w1.cell? ⟨w.heap.size, 0, none⟩ = some (.slice p0 cells.length c0) := by subst hW1; exact qCl
 have b11 : w1.cell? ⟨w.heap.size, 1, none⟩ = some (.slice p1 es.length c1) := by subst hW1; exact qCl
 have b20 : w1.cell? ⟨w.heap.size + 1, 0, none⟩ = some (.int .i64 1) := by subst hW1; exact qCl
 have b21 : w1.cell? ⟨w.heap.size + 1, 1, none⟩ = some (.slice pn ns.length cn) := by subst hW1; exact qCl
 have b30 : w1.cell? ⟨w.heap.size + 1 + 1, 0, none⟩ = some (.slice none 0 0) := by subst hW1; exact qCl
 have b31 : w1.cell? ⟨w.heap.size + 1 + 1, 1, none⟩ = some (.slice none 0 0) := by subst hW1; exact qCl
 have f_b30 : w1.frozen? ⟨w.heap.size + 1 + 1, 0, none⟩ = false := by subst hW1; exact qFz
 have f_b31 : w1.frozen? ⟨w.heap.size + 1 + 1, 1, none⟩ = false := by subst hW1; exact qFz
 have z_b1 : w.heap.size < w1.heap.size := qB b10
 have z_b2 : w.heap.size + 1 < w1.heap.size := qB b20
 have z_b3 : w.heap.size + 1 + 1 < w1.heap.size := qB b30
 have s_w1 : w.heap.size ≤ w1.heap.size := Xw1.size
 clear hW1
 have hI_e6 : (0 : Int) < (ns.length : Int) := by have hB7 : 0 < ns.length := (by omega); omega
 obtain ⟨bl4, ol5, rfl, e60⟩ := h3.at 0 (by omega)
 rw [Nat.add_zero] at e60
 have y_e6 : bl4 < w.heap.size := qB e60
 replace e60 := Xw1.cell e60
 obtain ⟨v7, hv7⟩ : ∃ v, ns.getD 0 0 = v := ⟨_, rfl⟩
 rw [hv7] at e60
 replace hv7 := Lib.hid hv7
 have z_e6 : bl4 < w1.heap.size := qB e60
 have hI_e10 : (1 : Int) < (ns.length : Int) := by have hB7 : 1 < ns.length := (by omega); omega
 obtain ⟨b_e10, o_e10, h_e10, e100⟩ := h3.at 1 (by omega)
 cases h_e10
 have y_e10 : bl4 < w.heap.size := qB e100
 replace e100 := Xw1.cell e100
 obtain ⟨v11, hv11⟩ : ∃ v, ns.getD 1 0 = v := ⟨_, rfl⟩
 rw [hv11] at e100
 replace hv11 := Lib.hid hv11
 have z_e10 : bl4 < w1.heap.size := qB e100
 have hI_e14 : (2 : Int) < (ns.length : Int) := by have hB7 : 2 < ns.length := (by omega); omega
 obtain ⟨b_e14, o_e14, h_e14, e140⟩ := h3.at 2 (by omega)
 cases h_e14
 have y_e14 : bl4 < w.heap.size := qB e140
 replace e140 := Xw1.cell e140
 obtain ⟨v15, hv15⟩ : ∃ v, ns.getD 2 0 = v := ⟨_, rfl⟩
 rw [hv15] at e140
 replace hv15 := Lib.hid hv15
 have z_e14 : bl4 < w1.heap.size := qB e140
 refine wp_region_held_drew (S := fun w' => w'.cell? ⟨w.heap.size, 0, none⟩ = some (.slice p0 cells.length c0) ∧ w'.cell? ⟨w.heap.size, 1, none⟩ = some (.slice p1 es.length c1) ∧ w'.cell? ⟨bl4, ol5, none⟩ = some (.int .i64 v7) ∧ w'.cell? ⟨bl4, ol5 + 1, none⟩ = some (.int .i64 v11) ∧ w'.cell? ⟨bl4, ol5 + 2, none⟩ = some (.int .i64 v15)) qKr ⟨b10, b11, e60, e100, e140⟩ (fun hHeld => ?_)
 refine qHk (v := ?_) 0 rfl (.inl ⟨by rfl, ?_⟩) ?_
 rotate_left
 ·
  (intro w hSw; (try dsimp only at hSw); go_simp; try with_reducible rfl)
 try simp only [Act.put, qa, qb, qc, qD, qE, qF]
 refine qHk (v := ?_) 1 rfl (.inl ⟨by rfl, ?_⟩) ?_
 rotate_left
 ·
  (intro w hSw; (try dsimp only at hSw); go_simp; try with_reducible rfl)
 try simp only [Act.put, qa, qb, qc, qD, qE, qF]
 refine qHk (v := ?_) 2 rfl (.inl ⟨by rfl, ?_⟩) ?_
 rotate_left
 ·
  (intro w hSw; (try dsimp only at hSw); go_simp; try with_reducible rfl)
 try simp only [Act.put, qa, qb, qc, qD, qE, qF]
 refine qHk (v := ?_) 3 rfl (.inl ⟨by rfl, ?_⟩) ?_
 rotate_left
 ·
  (intro w hSw; (try dsimp only at hSw); go_simp; try with_reducible rfl)
 try simp only [Act.put, qa, qb, qc, qD, qE, qF]
 refine qHk (v := ?_) 4 rfl (.inl ⟨by rfl, ?_⟩) ?_
 rotate_left
 ·
  (intro w hSw; (try dsimp only at hSw); go_simp; try with_reducible rfl)
 try simp only [Act.put, qa, qb, qc, qD, qE, qF]
 refine qHk (v := ?_) 5 rfl (.inl ⟨by rfl, ?_⟩) ?_
 rotate_left
 ·
  (intro w hSw; (try dsimp only at hSw); go_simp; try with_reducible rfl)
 try simp only [Act.put, qa, qb, qc, qD, qE, qF]
 refine qHk (v := ?_) 6 rfl (.inl ⟨by rfl, ?_⟩) ?_
 rotate_left
 ·
  (intro w hSw; (try dsimp only at hSw); go_simp; try with_reducible rfl)
 try simp only [Act.put, qa, qb, qc, qD, qE, qF]
 refine qHk (v := ?_) 8 rfl (.inl ⟨by rfl, ?_⟩) ?_
 rotate_left
 ·
  (intro w hSw; (try dsimp only at hSw); go_simp; try with_reducible rfl)
 try simp only [Act.put, qa, qb, qc, qD, qE, qF]
 refine qHk (v := ?_) 9 rfl (.inl ⟨by rfl, ?_⟩) ?_
 rotate_left
 ·
  (intro w hSw; (try dsimp only at hSw); go_simp; try with_reducible rfl)
 try simp only [Act.put, qa, qb, qc, qD, qE, qF]
 refine qHk (v := ?_) 10 rfl (.inl ⟨by rfl, ?_⟩) ?_
 rotate_left
 ·
  (intro w hSw; (try dsimp only at hSw); go_simp; try with_reducible rfl)
 try simp only [Act.put, qa, qb, qc, qD, qE, qF]
 refine wpAnyH_ready (rs := [7, 11]) qKr (by simp) ?_
 refine AllReadyH.cons rfl (fun K hK => ?_) (AllReadyH.cons rfl (fun K hK => ?_) AllReadyH.nil)
 ·
  try simp only [Act.put, qa, qb, qc, qD, qE, qF]
  go_simp
  refine hK.out _ (w1.drew.alloc (.cells #[.int .i64 v11] 3)) ⟨(show Ext w1 (w1.drew.alloc (.cells #[.int .i64 v11] 3)) from qXt).cell b10, (show Ext w1 (w1.drew.alloc (.cells #[.int .i64 v11] 3)) from qXt).cell b11, (show Ext w1 (w1.drew.alloc (.cells #[.int .i64 v11] 3)) from qXt).cell e60, (show Ext w1 (w1.drew.alloc (.cells #[.int .i64 v11] 3)) from qXt).cell e100, (show Ext w1 (w1.drew.alloc (.cells #[.int .i64 v11] 3)) from qXt).cell e140⟩ (fun hHeld => ?_)
  clear hK K
  try simp only [Act.put, qa, qb, qc, qD, qE, qF]
  generalize hW2 : w1.drew.alloc (.cells #[.int .i64 v11] 3) = w2 at *
  have i25 : Ints w2 w1.heap.size (.slice (some ⟨w1.heap.size, 0, none⟩) 1 1) [v11] := by subst hW2; simpa using Ints.one (w1.drew) w1.heap.size v11 (by simp)
  have xw2 : Ext w1 w2 := by subst hW2; exact qXt
  clear hW2
  have Lw2 : Ext w1 w2 := Ext.trans qXt xw2
  have Xw2 : Ext w w2 := Xw1.trans Lw2
  replace b10 := Lw2.cell b10
  replace b11 := Lw2.cell b11
  replace b20 := Lw2.cell b20
  replace b21 := Lw2.cell b21
  replace b30 := Lw2.cell b30
  replace b31 := Lw2.cell b31
  replace f_b30 := Lw2.frz z_b3 f_b30
  replace f_b31 := Lw2.frz z_b3 f_b31
  replace e60 := Lw2.cell e60
  replace e100 := Lw2.cell e100
  replace e140 := Lw2.cell e140
  have z_b1 : w.heap.size < w2.heap.size := qB b10
  have z_b2 : w.heap.size + 1 < w2.heap.size := qB b20
  have z_b3 : w.heap.size + 1 + 1 < w2.heap.size := qB b30
  have z_e6 : bl4 < w2.heap.size := qB e60
  have z_e10 : bl4 < w2.heap.size := qB e100
  have z_e14 : bl4 < w2.heap.size := qB e140
  have s_w2 : w.heap.size ≤ w2.heap.size := Xw2.size
  clear xw2
  refine qHr 11 rfl (fun K hK => ?_)
  try simp only [Act.put, qa, qb, qc, qD, qE, qF]
  go_simp
  refine hK.out _ (w2.alloc (.cells #[.int .i64 v15] 3)) ⟨(show Ext w2 (w2.alloc (.cells #[.int .i64 v15] 3)) from qXt).cell b10, (show Ext w2 (w2.alloc (.cells #[.int .i64 v15] 3)) from qXt).cell b11, (show Ext w2 (w2.alloc (.cells #[.int .i64 v15] 3)) from qXt).cell e60, (show Ext w2 (w2.alloc (.cells #[.int .i64 v15] 3)) from qXt).cell e100, (show Ext w2 (w2.alloc (.cells #[.int .i64 v15] 3)) from qXt).cell e140⟩ (fun hHeld => ?_)
  clear hK K
  try simp only [Act.put, qa, qb, qc, qD, qE, qF]
  generalize hW3 : w2.alloc (.cells #[.int .i64 v15] 3) = w3 at *
  have i26 : Ints w3 w2.heap.size (.slice (some ⟨w2.heap.size, 0, none⟩) 1 1) [v15] := by subst hW3; simpa using Ints.one w2 w2.heap.size v15 (by simp)
  have xw3 : Ext w2 w3 := by subst hW3; exact qXt
  clear hW3
  have Lw3 : Ext w2 w3 := Ext.trans qXt xw3
  have Xw3 : Ext w w3 := Xw2.trans Lw3
  replace b10 := Lw3.cell b10
  replace b11 := Lw3.cell b11
  replace b20 := Lw3.cell b20
  replace b21 := Lw3.cell b21
  replace b30 := Lw3.cell b30
  replace b31 := Lw3.cell b31
  replace f_b30 := Lw3.frz z_b3 f_b30
  replace f_b31 := Lw3.frz z_b3 f_b31
  replace e60 := Lw3.cell e60
  replace e100 := Lw3.cell e100
  replace e140 := Lw3.cell e140
  have z_b1 : w.heap.size < w3.heap.size := qB b10
  have z_b2 : w.heap.size + 1 < w3.heap.size := qB b20
  have z_b3 : w.heap.size + 1 + 1 < w3.heap.size := qB b30
  have z_e6 : bl4 < w3.heap.size := qB e60
  have z_e10 : bl4 < w3.heap.size := qB e100
  have z_e14 : bl4 < w3.heap.size := qB e140
  replace i25 := i25.ext Lw3
  have s_w3 : w.heap.size ≤ w3.heap.size := Xw3.size
  clear xw3
  refine qHk (v := ?_) 12 rfl (.inl ⟨by rfl, ?_⟩) ?_
  rotate_left
  ·
   (intro w hSw; (try dsimp only at hSw); go_simp; try with_reducible rfl)
  try simp only [Act.put, qa, qb, qc, qD, qE, qF]
  refine qHr 13 rfl (fun K hK => ?_)
  try simp only [Act.put, qa, qb, qc, qD, qE, qF]
  go_simp
  refine (specExportView_c cells es (.slice p0 cells.length c0) (.slice p1 es.length c1) v7 (.slice (some ⟨w1.heap.size, 0, none⟩) 1 1) (.slice (some ⟨w2.heap.size, 0, none⟩) 1 1) ([v11]) ([v15]) _ _ _ (h1.ext (Xw3.trans qXt)) (h2.ext (Xw3.trans qXt)) _ _ (i25.ext qXt) (i26.ext qXt)).mono ?_
  rintro e w4 ⟨cvfb28, evfb28, R29, rfl, bf27, xw4⟩
  have Lw4 : Ext w3 w4 := Ext.trans qXt xw4
  have Xw4 : Ext w w4 := Xw3.trans Lw4
  replace b10 := Lw4.cell b10
  replace b11 := Lw4.cell b11
  replace b20 := Lw4.cell b20
  replace b21 := Lw4.cell b21
  replace b30 := Lw4.cell b30
  replace b31 := Lw4.cell b31
  replace f_b30 := Lw4.frz z_b3 f_b30
  replace f_b31 := Lw4.frz z_b3 f_b31
  replace e60 := Lw4.cell e60
  replace e100 := Lw4.cell e100
  replace e140 := Lw4.cell e140
  have z_b1 : w.heap.size < w4.heap.size := qB b10
  have z_b2 : w.heap.size + 1 < w4.heap.size := qB b20
  have z_b3 : w.heap.size + 1 + 1 < w4.heap.size := qB b30
  have z_e6 : bl4 < w4.heap.size := qB e60
  have z_e10 : bl4 < w4.heap.size := qB e100
  have z_e14 : bl4 < w4.heap.size := qB e140
  replace i25 := i25.ext Lw4
  replace i26 := i26.ext Lw4
  have s_w4 : w.heap.size ≤ w4.heap.size := Xw4.size
  clear xw4
  replace bf27 := bf27.lower (lo' := w3.heap.size) qSo
  obtain ⟨afb28, cfb28, rfl⟩ := bf27.ints.form
  obtain ⟨efb28, dfb28, rfl⟩ := bf27.exps.form
  have q_bf27 := Lib.hid bf27.at
  refine hK.out _ _ ⟨b10, b11, e60, e100, e140⟩ (fun hHeld => ?_)
  clear hK K
  try simp only [Act.put, qa, qb, qc, qD, qE, qF]
  refine qHk (v := ?_) 14 rfl (.inl ⟨by rfl, ?_⟩) ?_
  rotate_left
  ·
   (intro w hSw; (try dsimp only at hSw); go_simp; try with_reducible rfl)
  try simp only [Act.put, qa, qb, qc, qD, qE, qF]
  refine qHk (v := ?_) 15 rfl (.inl ⟨by rfl, ?_⟩) ?_
  rotate_left
  ·
   (intro w hSw; (try dsimp only at hSw); go_simp; try with_reducible rfl)
  try simp only [Act.put, qa, qb, qc, qD, qE, qF]
  refine qHr 16 rfl (fun K hK => ?_)
  try simp only [Act.put, qa, qb, qc, qD, qE, qF]
  go_simp
  generalize hW4 : ((w4.setCell ⟨w.heap.size + 1 + 1, 0, none⟩ (.slice afb28 (((expA cells es v7 ([v11]) ([v15])).1).length) cfb28)).setCell ⟨w.heap.size + 1 + 1, 1, none⟩ (.slice efb28 (((expA cells es v7 ([v11]) ([v15])).2.1).length) dfb28)) = w5 at *
  have Kw5 : Chg (w.heap.size + 1 + 1) (w.heap.size + 1 + 1 + 1) w4 w5 := by subst hW4; exact qCh
  have Xw5 : Ext w w5 := by subst hW4; exact qXt
  replace b10 := Kw5.cell (by omega) b10
  replace b11 := Kw5.cell (by omega) b11
  replace b20 := Kw5.cell (by omega) b20
  replace b21 := Kw5.cell (by omega) b21
  replace b30 : w5.cell? ⟨w.heap.size + 1 + 1, 0, none⟩ = some (.slice afb28 (((expA cells es v7 ([v11]) ([v15])).1).length) cfb28) := by subst hW4; go_simp
  replace f_b30 : w5.frozen? ⟨w.heap.size + 1 + 1, 0, none⟩ = false := by subst hW4; first | (simp only [World.frozen?_setCell]; with_reducible assumption) | go_simp
  replace b31 : w5.cell? ⟨w.heap.size + 1 + 1, 1, none⟩ = some (.slice efb28 (((expA cells es v7 ([v11]) ([v15])).2.1).length) dfb28) := by subst hW4; go_simp
  replace f_b31 : w5.frozen? ⟨w.heap.size + 1 + 1, 1, none⟩ = false := by subst hW4; first | (simp only [World.frozen?_setCell]; with_reducible assumption) | go_simp
  replace e60 := Kw5.cell (by omega) e60
  replace e100 := Kw5.cell (by omega) e100
  replace e140 := Kw5.cell (by omega) e140
  replace i25 := i25.chg Kw5 (by omega)
  replace i26 := i26.chg Kw5 (by omega)
  replace bf27 := bf27.chg Kw5 (by omega)
  clear Kw5
  have z_b1 : w.heap.size < w5.heap.size := qB b10
  have z_b2 : w.heap.size + 1 < w5.heap.size := qB b20
  have z_b3 : w.heap.size + 1 + 1 < w5.heap.size := qB b30
  have z_e6 : bl4 < w5.heap.size := qB e60
  have z_e10 : bl4 < w5.heap.size := qB e100
  have z_e14 : bl4 < w5.heap.size := qB e140
  have s_w5 : w.heap.size ≤ w5.heap.size := Xw5.size
  clear hW4
  refine hK.out _ _ ⟨b10, b11, e60, e100, e140⟩ (fun hHeld => ?_)
  clear hK K
  try simp only [Act.put, qa, qb, qc, qD, qE, qF]
  refine qHk (v := ?_) 17 rfl (.inl ⟨by rfl, ?_⟩) ?_
  rotate_left
  ·
   (intro w hSw; (try dsimp only at hSw); go_simp; try with_reducible rfl)
  try simp only [Act.put, qa, qb, qc, qD, qE, qF]
  refine wpAnyH_done qKr ?_ _
  clear hHeld 
  go_wp2_with fail
  refine bodyPost_ret (v := .tuple #[.agg #[.slice afb28 (((expA cells es v7 ([v11]) ([v15])).1).length) cfb28, .slice efb28 (((expA cells es v7 ([v11]) ([v15])).2.1).length) dfb28], .bool ((expA cells es v7 ([v11]) ([v15])).2.2)]) (by simp only [results, Tryd.results23]; go_simp) rfl ?_
  rw [hv7.out, hv11.out, hv15.out]
  exact ⟨_, _, _, rfl, (bf27.ext qXt).lower (by omega), (Xw5.trans qXt)⟩
 ·
  try simp only [Act.put, qa, qb, qc, qD, qE, qF]
  go_simp
  refine hK.out _ (w1.drew.alloc (.cells #[.int .i64 v15] 3)) ⟨(show Ext w1 (w1.drew.alloc (.cells #[.int .i64 v15] 3)) from qXt).cell b10, (show Ext w1 (w1.drew.alloc (.cells #[.int .i64 v15] 3)) from qXt).cell b11, (show Ext w1 (w1.drew.alloc (.cells #[.int .i64 v15] 3)) from qXt).cell e60, (show Ext w1 (w1.drew.alloc (.cells #[.int .i64 v15] 3)) from qXt).cell e100, (show Ext w1 (w1.drew.alloc (.cells #[.int .i64 v15] 3)) from qXt).cell e140⟩ (fun hHeld => ?_)
  clear hK K
  try simp only [Act.put, qa, qb, qc, qD, qE, qF]
  generalize hW5 : w1.drew.alloc (.cells #[.int .i64 v15] 3) = w2 at *
  have i30 : Ints w2 w1.heap.size (.slice (some ⟨w1.heap.size, 0, none⟩) 1 1) [v15] := by subst hW5; simpa using Ints.one (w1.drew) w1.heap.size v15 (by simp)
  have xw2 : Ext w1 w2 := by subst hW5; exact qXt
  clear hW5
  have Lw2 : Ext w1 w2 := Ext.trans qXt xw2
  have Xw2 : Ext w w2 := Xw1.trans Lw2
  replace b10 := Lw2.cell b10
  replace b11 := Lw2.cell b11
  replace b20 := Lw2.cell b20
  replace b21 := Lw2.cell b21
  replace b30 := Lw2.cell b30
  replace b31 := Lw2.cell b31
  replace f_b30 := Lw2.frz z_b3 f_b30
  replace f_b31 := Lw2.frz z_b3 f_b31
  replace e60 := Lw2.cell e60
  replace e100 := Lw2.cell e100
  replace e140 := Lw2.cell e140
  have z_b1 : w.heap.size < w2.heap.size := qB b10
  have z_b2 : w.heap.size + 1 < w2.heap.size := qB b20
  have z_b3 : w.heap.size + 1 + 1 < w2.heap.size := qB b30
  have z_e6 : bl4 < w2.heap.size := qB e60
  have z_e10 : bl4 < w2.heap.size := qB e100
  have z_e14 : bl4 < w2.heap.size := qB e140
  have s_w2 : w.heap.size ≤ w2.heap.size := Xw2.size
  clear xw2
  refine qHr 7 rfl (fun K hK => ?_)
  try simp only [Act.put, qa, qb, qc, qD, qE, qF]
  go_simp
  refine hK.out _ (w2.alloc (.cells #[.int .i64 v11] 3)) ⟨(show Ext w2 (w2.alloc (.cells #[.int .i64 v11] 3)) from qXt).cell b10, (show Ext w2 (w2.alloc (.cells #[.int .i64 v11] 3)) from qXt).cell b11, (show Ext w2 (w2.alloc (.cells #[.int .i64 v11] 3)) from qXt).cell e60, (show Ext w2 (w2.alloc (.cells #[.int .i64 v11] 3)) from qXt).cell e100, (show Ext w2 (w2.alloc (.cells #[.int .i64 v11] 3)) from qXt).cell e140⟩ (fun hHeld => ?_)
  clear hK K
  try simp only [Act.put, qa, qb, qc, qD, qE, qF]
  generalize hW6 : w2.alloc (.cells #[.int .i64 v11] 3) = w3 at *
  have i31 : Ints w3 w2.heap.size (.slice (some ⟨w2.heap.size, 0, none⟩) 1 1) [v11] := by subst hW6; simpa using Ints.one w2 w2.heap.size v11 (by simp)
  have xw3 : Ext w2 w3 := by subst hW6; exact qXt
  clear hW6
  have Lw3 : Ext w2 w3 := Ext.trans qXt xw3
  have Xw3 : Ext w w3 := Xw2.trans Lw3
  replace b10 := Lw3.cell b10
  replace b11 := Lw3.cell b11
  replace b20 := Lw3.cell b20
  replace b21 := Lw3.cell b21
  replace b30 := Lw3.cell b30
  replace b31 := Lw3.cell b31
  replace f_b30 := Lw3.frz z_b3 f_b30
  replace f_b31 := Lw3.frz z_b3 f_b31
  replace e60 := Lw3.cell e60
  replace e100 := Lw3.cell e100
  replace e140 := Lw3.cell e140
  have z_b1 : w.heap.size < w3.heap.size := qB b10
  have z_b2 : w.heap.size + 1 < w3.heap.size := qB b20
  have z_b3 : w.heap.size + 1 + 1 < w3.heap.size := qB b30
  have z_e6 : bl4 < w3.heap.size := qB e60
  have z_e10 : bl4 < w3.heap.size := qB e100
  have z_e14 : bl4 < w3.heap.size := qB e140
  replace i30 := i30.ext Lw3
  have s_w3 : w.heap.size ≤ w3.heap.size := Xw3.size
  clear xw3
  refine qHk (v := ?_) 12 rfl (.inl ⟨by rfl, ?_⟩) ?_
  rotate_left
  ·
   (intro w hSw; (try dsimp only at hSw); go_simp; try with_reducible rfl)
  try simp only [Act.put, qa, qb, qc, qD, qE, qF]
  refine qHr 13 rfl (fun K hK => ?_)
  try simp only [Act.put, qa, qb, qc, qD, qE, qF]
  go_simp
  refine (specExportView_c cells es (.slice p0 cells.length c0) (.slice p1 es.length c1) v7 (.slice (some ⟨w2.heap.size, 0, none⟩) 1 1) (.slice (some ⟨w1.heap.size, 0, none⟩) 1 1) ([v11]) ([v15]) _ _ _ (h1.ext (Xw3.trans qXt)) (h2.ext (Xw3.trans qXt)) _ _ (i31.ext qXt) (i30.ext qXt)).mono ?_
  rintro e w4 ⟨cvfb33, evfb33, R34, rfl, bf32, xw4⟩
  have Lw4 : Ext w3 w4 := Ext.trans qXt xw4
  have Xw4 : Ext w w4 := Xw3.trans Lw4
  replace b10 := Lw4.cell b10
  replace b11 := Lw4.cell b11
  replace b20 := Lw4.cell b20
  replace b21 := Lw4.cell b21
  replace b30 := Lw4.cell b30
  replace b31 := Lw4.cell b31
  replace f_b30 := Lw4.frz z_b3 f_b30
  replace f_b31 := Lw4.frz z_b3 f_b31
  replace e60 := Lw4.cell e60
  replace e100 := Lw4.cell e100
  replace e140 := Lw4.cell e140
  have z_b1 : w.heap.size < w4.heap.size := qB b10
  have z_b2 : w.heap.size + 1 < w4.heap.size := qB b20
  have z_b3 : w.heap.size + 1 + 1 < w4.heap.size := qB b30
  have z_e6 : bl4 < w4.heap.size := qB e60
  have z_e10 : bl4 < w4.heap.size := qB e100
  have z_e14 : bl4 < w4.heap.size := qB e140
  replace i30 := i30.ext Lw4
  replace i31 := i31.ext Lw4
  have s_w4 : w.heap.size ≤ w4.heap.size := Xw4.size
  clear xw4
  replace bf32 := bf32.lower (lo' := w3.heap.size) qSo
  obtain ⟨afb33, cfb33, rfl⟩ := bf32.ints.form
  obtain ⟨efb33, dfb33, rfl⟩ := bf32.exps.form
  have q_bf32 := Lib.hid bf32.at
  refine hK.out _ _ ⟨b10, b11, e60, e100, e140⟩ (fun hHeld => ?_)
  clear hK K
  try simp only [Act.put, qa, qb, qc, qD, qE, qF]
  refine qHk (v := ?_) 14 rfl (.inl ⟨by rfl, ?_⟩) ?_
  rotate_left
  ·
   (intro w hSw; (try dsimp only at hSw); go_simp; try with_reducible rfl)
  try simp only [Act.put, qa, qb, qc, qD, qE, qF]
  refine qHk (v := ?_) 15 rfl (.inl ⟨by rfl, ?_⟩) ?_
  rotate_left
  ·
   (intro w hSw; (try dsimp only at hSw); go_simp; try with_reducible rfl)
  try simp only [Act.put, qa, qb, qc, qD, qE, qF]
  refine qHr 16 rfl (fun K hK => ?_)
  try simp only [Act.put, qa, qb, qc, qD, qE, qF]
  go_simp
  generalize hW7 : ((w4.setCell ⟨w.heap.size + 1 + 1, 0, none⟩ (.slice afb33 (((expA cells es v7 ([v11]) ([v15])).1).length) cfb33)).setCell ⟨w.heap.size + 1 + 1, 1, none⟩ (.slice efb33 (((expA cells es v7 ([v11]) ([v15])).2.1).length) dfb33)) = w5 at *
  have Kw5 : Chg (w.heap.size + 1 + 1) (w.heap.size + 1 + 1 + 1) w4 w5 := by subst hW7; exact qCh
  have Xw5 : Ext w w5 := by subst hW7; exact qXt
  replace b10 := Kw5.cell (by omega) b10
  replace b11 := Kw5.cell (by omega) b11
  replace b20 := Kw5.cell (by omega) b20
  replace b21 := Kw5.cell (by omega) b21
  replace b30 : w5.cell? ⟨w.heap.size + 1 + 1, 0, none⟩ = some (.slice afb33 (((expA cells es v7 ([v11]) ([v15])).1).length) cfb33) := by subst hW7; go_simp
  replace f_b30 : w5.frozen? ⟨w.heap.size + 1 + 1, 0, none⟩ = false := by subst hW7; first | (simp only [World.frozen?_setCell]; with_reducible assumption) | go_simp
  replace b31 : w5.cell? ⟨w.heap.size + 1 + 1, 1, none⟩ = some (.slice efb33 (((expA cells es v7 ([v11]) ([v15])).2.1).length) dfb33) := by subst hW7; go_simp
  replace f_b31 : w5.frozen? ⟨w.heap.size + 1 + 1, 1, none⟩ = false := by subst hW7; first | (simp only [World.frozen?_setCell]; with_reducible assumption) | go_simp
  replace e60 := Kw5.cell (by omega) e60
  replace e100 := Kw5.cell (by omega) e100
  replace e140 := Kw5.cell (by omega) e140
  replace i30 := i30.chg Kw5 (by omega)
  replace i31 := i31.chg Kw5 (by omega)
  replace bf32 := bf32.chg Kw5 (by omega)
  clear Kw5
  have z_b1 : w.heap.size < w5.heap.size := qB b10
  have z_b2 : w.heap.size + 1 < w5.heap.size := qB b20
  have z_b3 : w.heap.size + 1 + 1 < w5.heap.size := qB b30
  have z_e6 : bl4 < w5.heap.size := qB e60
  have z_e10 : bl4 < w5.heap.size := qB e100
  have z_e14 : bl4 < w5.heap.size := qB e140
  have s_w5 : w.heap.size ≤ w5.heap.size := Xw5.size
  clear hW7
  refine hK.out _ _ ⟨b10, b11, e60, e100, e140⟩ (fun hHeld => ?_)
  clear hK K
  try simp only [Act.put, qa, qb, qc, qD, qE, qF]
  refine qHk (v := ?_) 17 rfl (.inl ⟨by rfl, ?_⟩) ?_
  rotate_left
  ·
   (intro w hSw; (try dsimp only at hSw); go_simp; try with_reducible rfl)
  try simp only [Act.put, qa, qb, qc, qD, qE, qF]
  refine wpAnyH_done qKr ?_ _
  clear hHeld 
  go_wp2_with fail
  refine bodyPost_ret (v := .tuple #[.agg #[.slice afb33 (((expA cells es v7 ([v11]) ([v15])).1).length) cfb33, .slice efb33 (((expA cells es v7 ([v11]) ([v15])).2.1).length) dfb33], .bool ((expA cells es v7 ([v11]) ([v15])).2.2)]) (by simp only [results, Tryd.results23]; go_simp) rfl ?_
  rw [hv7.out, hv11.out, hv15.out]
  exact ⟨_, _, _, rfl, (bf32.ext qXt).lower (by omega), (Xw5.trans qXt)⟩


end Go.Proofs.YtgklaobfikbiiaaDoor

/- Walks: numbers as texts: how long they are. -/
namespace Go.Proofs.YtgklaobfikbiiaaDoor
open Go.RowKit
set_option linter.unusedVariables false
set_option maxRecDepth 100000

/-- a call hands back a text of at most m bytes -/
def PTxt (m : Nat) (w : World) (e : Ending) (w' : World) : Prop := ∃ s : ByteArray, e = .returned (.string s) ∧ (s.size : Int) ≤ m ∧ Ext w w'
theorem PTxt.mono {m m' : Nat} {w w' : World} {e : Ending} (h : PTxt m w e w') (hm : m ≤ m') : PTxt m' w e w' := by
  obtain ⟨s, h1, h2, h3⟩ := h; exact ⟨s, h1, by omega, h3⟩
set_option maxHeartbeats 1600000 in
theorem num1_c (n : Nat) (hn : n < 10) (w : World) : Calls Tryd.prog 26 #[.int .i64 (n : Int)] w (PTxt 1 w) := by
  rcases (show n = 0 ∨ n = 1 ∨ n = 2 ∨ n = 3 ∨ n = 4 ∨ n = 5 ∨ n = 6 ∨ n = 7 ∨ n = 8 ∨ n = 9 by omega) with rfl | rfl | rfl | rfl | rfl | rfl | rfl | rfl | rfl | rfl
  all_goals
    go_enter Tryd.func26, Tryd.ntmps26
    go_wp2_with fail
    go_ret
    exact ⟨_, rfl, by decide, qXt⟩
set_option maxHeartbeats 1600000 in
theorem num2_c (n : Nat) (hn : n < 100) (w : World) : Calls Tryd.prog 26 #[.int .i64 (n : Int)] w (PTxt 2 w) := by
  by_cases h : n < 10
  · exact (num1_c n h w).mono fun e w' h => h.mono (by omega)
  · have h0 : ¬ (n : Int) < 0 := by omega
    have h1 : ¬ (n : Int) < 10 := by omega
    obtain ⟨q, hq⟩ : ∃ q : Nat, (n : Int).tdiv 10 = q := ⟨n / 10, by rw [Int.tdiv_eq_ediv_of_nonneg (by omega)]; omega⟩
    obtain ⟨r, hr⟩ : ∃ r : Nat, (n : Int).tmod 10 = r := ⟨n % 10, by rw [Int.tmod_eq_emod_of_nonneg (by omega)]; omega⟩
    have hq2 : (n : Int) / 10 = q := by rw [← hq, Int.tdiv_eq_ediv_of_nonneg (by omega)]
    have hr2 : (n : Int) % 10 = r := by rw [← hr, Int.tmod_eq_emod_of_nonneg (by omega)]
    have hql : q < 10 := by omega
    have hrl : r < 10 := by omega
    go_enter Tryd.func26, Tryd.ntmps26
    go_wp2_with fail
    refine (num1_c q hql _).mono ?_
    rintro e w1 ⟨s1, rfl, z1, x1⟩
    go_wp2_with fail
    refine (num1_c r hrl _).mono ?_
    rintro e w2 ⟨s2, rfl, z2, x2⟩
    have hz1 : (s1.size : Int) ≤ 8388608 := by omega
    have hz2 : (s2.size : Int) ≤ 8388608 := by omega
    go_wp2_with fail
    go_ret
    exact ⟨_, rfl, by rw [ByteArray.size_append]; omega, x1.trans x2⟩
set_option maxHeartbeats 1600000 in
theorem num3_c (n : Nat) (hn : n < 1000) (w : World) : Calls Tryd.prog 26 #[.int .i64 (n : Int)] w (PTxt 3 w) := by
  by_cases h : n < 10
  · exact (num1_c n h w).mono fun e w' h => h.mono (by omega)
  · have h0 : ¬ (n : Int) < 0 := by omega
    have h1 : ¬ (n : Int) < 10 := by omega
    obtain ⟨q, hq⟩ : ∃ q : Nat, (n : Int).tdiv 10 = q := ⟨n / 10, by rw [Int.tdiv_eq_ediv_of_nonneg (by omega)]; omega⟩
    obtain ⟨r, hr⟩ : ∃ r : Nat, (n : Int).tmod 10 = r := ⟨n % 10, by rw [Int.tmod_eq_emod_of_nonneg (by omega)]; omega⟩
    have hq2 : (n : Int) / 10 = q := by rw [← hq, Int.tdiv_eq_ediv_of_nonneg (by omega)]
    have hr2 : (n : Int) % 10 = r := by rw [← hr, Int.tmod_eq_emod_of_nonneg (by omega)]
    have hql : q < 100 := by omega
    have hrl : r < 10 := by omega
    go_enter Tryd.func26, Tryd.ntmps26
    go_wp2_with fail
    refine (num2_c q hql _).mono ?_
    rintro e w1 ⟨s1, rfl, z1, x1⟩
    go_wp2_with fail
    refine (num1_c r hrl _).mono ?_
    rintro e w2 ⟨s2, rfl, z2, x2⟩
    have hz1 : (s1.size : Int) ≤ 8388608 := by omega
    have hz2 : (s2.size : Int) ≤ 8388608 := by omega
    go_wp2_with fail
    go_ret
    exact ⟨_, rfl, by rw [ByteArray.size_append]; omega, x1.trans x2⟩

set_option maxHeartbeats 1600000 in
theorem numbersText_c (xs : List Int) (v : Value) (w : World) (lo : Nat) (h : Ints w lo v xs) (hx : ∀ x ∈ xs, 0 ≤ x ∧ x ≤ 255) (hl : xs.length ≤ 1000) :
    Calls Tryd.prog 24 #[v] w (PTxt 4000 w) := by
  obtain ⟨a, c, rfl⟩ := h.form
  replace hx := Lib.hid hx
  go_enter Tryd.func24, Tryd.ntmps24
  go_wp2_with fail
  go_loopw [3, 4] (fun t i wr => ∃ (k : Nat) (s : ByteArray), k ≤ xs.length ∧ i = .int .i64 k ∧ t = .string s ∧ (s.size : Int) ≤ 4 * k ∧ Ext w wr) (fun _ i _ => xs.length - (intOf i).toNat)
  case atStart => exact ⟨0, _, Nat.zero_le _, rfl, rfl, by decide, Ext.refl _⟩
  case round =>
    obtain ⟨k, s, hk, rfl, rfl, hs, X⟩ := hrel
    have hz : (s.size : Int) ≤ 8388608 := by omega
    by_cases hlt : k < xs.length
    · have hkI : (k : Int) < xs.length := by omega
      obtain ⟨b, of, rfl, e0⟩ := (h.ext X).at k hlt
      have hv := hx.out _ (getD_mem hlt)
      obtain ⟨y, hy⟩ : ∃ y : Nat, xs.getD k 0 = y := ⟨(xs.getD k 0).toNat, by omega⟩
      rw [hy] at e0 hv
      replace hy := Lib.hid hy
      go_wp2_with fail
      refine (num3_c y (by omega) _).mono ?_
      rintro e w1 ⟨s1, rfl, z1, x1⟩
      have hz1 : (s1.size : Int) ≤ 8388608 := by omega
      have hz2 : ((s ++ ⟨#[32]⟩).size : Int) ≤ 8388608 := by rw [ByteArray.size_append]; have : (⟨#[32]⟩ : ByteArray).size = 1 := rfl; omega
      go_wp2_with fail
      go_roundw
      case rel => exact ⟨k + 1, _, by omega, by go_num, rfl, by rw [ByteArray.size_append, ByteArray.size_append]; have : (⟨#[32]⟩ : ByteArray).size = 1 := rfl; omega, X.trans x1⟩
      case measure => simp [intOf]; omega
    · have hkI : ¬ (k : Int) < xs.length := by omega
      go_wp2_with fail
      go_ret
      exact ⟨s, rfl, by omega, X⟩
end Go.Proofs.YtgklaobfikbiiaaDoor

/- Plain laws: a picked number of a dimension, and the slice of that number alone. -/
namespace Go.Proofs.YtgklaobfikbiiaaDoor
open Go.RowKit
set_option linter.unusedVariables false
set_option maxRecDepth 100000

end Go.Proofs.YtgklaobfikbiiaaDoor

/- Plain laws: other shapes of the same cells, there and back. -/
namespace Go.Proofs.YtgklaobfikbiiaaDoor
open Go.RowKit
set_option linter.unusedVariables false
set_option linter.unusedSimpArgs false

end Go.Proofs.YtgklaobfikbiiaaDoor

/- Plain laws: Reshape, of dense views too; two dimensions that are one, one that is two. -/
namespace Go.Proofs.YtgklaobfikbiiaaDoor
open Go.RowKit
set_option linter.unusedVariables false
set_option linter.unusedSimpArgs false
set_option maxRecDepth 100000

end Go.Proofs.YtgklaobfikbiiaaDoor

/- Walks: SameView of the program. -/
namespace Go.Proofs.YtgklaobfikbiiaaDoor
open Go.RowKit
set_option linter.unusedVariables false
set_option maxRecDepth 100000


end Go.Proofs.YtgklaobfikbiiaaDoor

/- Walks: CountOf of the program. -/
namespace Go.Proofs.YtgklaobfikbiiaaDoor
open Go.RowKit
set_option linter.unusedVariables false
set_option maxRecDepth 100000


end Go.Proofs.YtgklaobfikbiiaaDoor

/- Plain laws: Reshape as the laws ask it. -/
namespace Go.Proofs.YtgklaobfikbiiaaDoor
open Go.RowKit
set_option linter.unusedVariables false
set_option maxRecDepth 100000

end Go.Proofs.YtgklaobfikbiiaaDoor

/- Plain laws: a slice of a slice is a slice. -/
namespace Go.Proofs.YtgklaobfikbiiaaDoor
open Go.RowKit
set_option linter.unusedVariables false
set_option maxRecDepth 100000

theorem slice_inv {b : Int} {s t : List Int} {d F T B : Int} {hf ht : Bool} {PB : Int} {PS PT : List Int} (h : sliceV b s t d F T B hf ht = (PB, PS, PT, true)) :
    ∃ D : Nat, d = (D : Int) ∧ D < s.length ∧ viewB b s t = true ∧ sliceB F T B hf ht = true ∧ PB = cutB b s t D (idxS (s.getD D 0) F T B hf ht) ∧ PS = cutS s D (idxS (s.getD D 0) F T B hf ht) ∧ PT = cutT s t D (idxS (s.getD D 0) F T B hf ht) := by
  unfold sliceV at h
  split at h
  · rename_i h1
    simp only [Bool.and_eq_true, inB, decide_eq_true_eq] at h1
    obtain ⟨hv, ⟨hd0, hd1⟩, hsl⟩ := h1
    obtain ⟨D, rfl⟩ : ∃ D : Nat, d = D := ⟨d.toNat, by omega⟩
    rw [Int.toNat_natCast] at h
    cases h
    exact ⟨D, rfl, by omega, hv, hsl, rfl, rfl, rfl⟩
  · unfold noV at h; cases h
theorem idx_in {n F T B : Int} {hf ht : Bool} (hn : 0 ≤ n) (hB : B ≠ 0) : ∀ i ∈ idxS n F T B hf ht, 0 ≤ i ∧ i < n := by
  intro i hi
  unfold idxS at hi
  have h1 := fromI_in (F := F) (B := B) (hf := hf) hn
  have h2 := toI_in (T := T) (B := B) (ht := ht) hn
  have h3 := numL_in hB hi
  rcases Int.lt_or_le 0 B with h | h
  · have := h3.1 h; omega
  · have := h3.2 (by omega); omega
end Go.Proofs.YtgklaobfikbiiaaDoor

/- Plain laws on buffers: what acts leave valid. No condition. -/
namespace Go.Proofs.YtgklaobfikbiiaaDoor
open Go.RowKit
set_option linter.unusedVariables false
set_option maxRecDepth 100000

/-- the cells of a slice are cells of the view -/
theorem cut_sub {b : Int} {s t : List Int} {d : Nat} {a e q : Int} (h : viewB b s t = true) (hd : d < s.length) (hq : q ≠ 0) (hL : ∀ i ∈ numL a e q, 0 ≤ i ∧ i < s.getD d 0) :
    ∀ y ∈ offsL (cutB b s t d (numL a e q)) (cutS s d (numL a e q)) (cutT s t d (numL a e q)), y ∈ offsL b s t := by
  obtain ⟨h1, h2, h3, h4, h5⟩ := viewB_in h
  have hs := Small.of h1
  have hlen : 0 ≤ ((numL a e q).length : Int) ∧ ((numL a e q).length : Int) ≤ s.getD d 0 := by
    rcases num_len_le hq hL with h' | h' <;> have := (hs.2 _ (getD_mem hd)) <;> omega
  obtain ⟨n1, n2, n3⟩ := norm_two (a := a) (b := e) hq
  have hsm := small_set hs d (x := ((numL a e q).length : Int)) (by have := (hs.2 _ (getD_mem hd)); omega)
  have hv := (cut_view h hd hq hL).1
  intro y hy
  by_cases hc : countL (s.set d ((numL a e q).length : Int)) = 0
  · have h0 : (offsL (cutB b s t d (numL a e q)) (cutS s d (numL a e q)) (cutT s t d (numL a e q))).length = 0 := by
      have := offs_count (b := cutB b s t d (numL a e q)) (s := cutS s d (numL a e q)) (t := cutT s t d (numL a e q))
      unfold cutS at this ⊢
      rw [hc] at this
      simpa using this
    rw [List.eq_nil_of_length_eq_zero h0] at hy
    cases hy
  · rw [view_C hv] at hy
    unfold cutB cutS cutT tidyB tidyT at hy
    rw [if_neg hc, if_neg hc] at hy
    obtain ⟨k1, k2, k3, k4⟩ := hsm.count
    have hp := k4 (by omega)
    have hn0 : (numL a e q).length ≠ 0 := by
      intro h0
      have := hp ((numL a e q).length : Int) (by rw [List.mem_iff_getElem]; exact ⟨d, by simpa using hd, by simp⟩)
      omega
    rw [n1 hn0] at hy
    have hget : ∀ i : Nat, i < (numL a e q).length → 0 ≤ a + i * q ∧ a + i * q < s.getD d 0 := fun i hi => by
      have := hL ((numL a e q)[i]) (List.getElem_mem hi)
      rwa [numL_get] at this
    rw [view_C h]
    by_cases hle : (numL a e q).length ≤ 1
    · rw [if_pos hle] at hy
      refine cut_mem (L0 := a) (q := 0) (n := (numL a e q).length) h2 hd (fun i hi => ?_) y (by rw [Int.zero_mul]; exact hy)
      have := hget i hi
      obtain rfl : i = 0 := by omega
      omega
    · rw [if_neg hle, n3 (by omega)] at hy
      exact cut_mem (L0 := a) (q := q) (n := (numL a e q).length) h2 hd hget y hy
/-- a slice of a view that fits is a view that fits -/
theorem slice_fit {b : Int} {s t : List Int} {d F T B : Int} {hf ht : Bool} {n : Int} (h : (sliceV b s t d F T B hf ht).2.2.2 = true) (hfit : fitB b s t n = true) :
    viewB (sliceV b s t d F T B hf ht).1 (sliceV b s t d F T B hf ht).2.1 (sliceV b s t d F T B hf ht).2.2.1 = true ∧ fitB (sliceV b s t d F T B hf ht).1 (sliceV b s t d F T B hf ht).2.1 (sliceV b s t d F T B hf ht).2.2.1 n = true := by
  obtain ⟨PB, PS, PT, PO, hP⟩ : ∃ PB PS PT PO, sliceV b s t d F T B hf ht = (PB, PS, PT, PO) := ⟨_, _, _, _, rfl⟩
  rw [hP] at h ⊢
  obtain rfl : PO = true := h
  obtain ⟨D, rfl, hD, hv, hsl, rfl, rfl, rfl⟩ := slice_inv hP
  have hn := (shapeB_in (viewB_in hv).1).2.1 _ (getD_mem (s := s) (d := D) hD)
  have hB := (sliceB_in hsl).2.2.2
  refine ⟨(cut_view hv hD hB (idx_in hn.1 hB)).1, ?_⟩
  unfold fitB at hfit ⊢
  rw [List.all_eq_true] at hfit ⊢
  exact fun x hx => hfit x (cut_sub hv hD hB (idx_in hn.1 hB) x hx)

theorem expB_iff {cells : List Int} {es : List Exp} {i : Nat} : expB cells es i = true ↔ (-1 ≤ (expAt es i).par ∧ (expAt es i).par < i ∧ viewB (expAt es i).b (expAt es i).s (expAt es i).t = true ∧
    ((expAt es i).op = true → fitB (expAt es i).b (expAt es i).s (expAt es i).t cells.length = true ∧ ((expAt es i).par < 0 ∨ (expAt es (expAt es i).par.toNat).op = true))) := by
  unfold expB inB
  cases (expAt es i).op <;> simp
  · constructor
    · rintro ⟨⟨h1, h2⟩, h3⟩; exact ⟨h1, by omega, h3⟩
    · rintro ⟨h1, h2, h3⟩; exact ⟨⟨h1, by omega⟩, h3⟩
  · constructor
    · rintro ⟨⟨⟨h1, h2⟩, h3⟩, h4, h5⟩; exact ⟨h1, by omega, h3, h4, h5⟩
    · rintro ⟨h1, h2, h3, h4, h5⟩; exact ⟨⟨⟨h1, by omega⟩, h3⟩, h4, h5⟩
theorem bufB_iff {cells : List Int} {es : List Exp} : bufB cells es = true ↔ memB cells = true ∧ es.length ≤ 8 ∧ ∀ i, i < es.length → expB cells es i = true := by
  constructor
  · intro h
    obtain ⟨h1, -, h2, h3⟩ := bufB_in h
    exact ⟨h1, h2, h3⟩
  · rintro ⟨h1, h2, h3⟩
    unfold bufB expsB
    rw [h1, decide_eq_true h2, Bool.true_and, Bool.true_and, List.all_eq_true]
    exact fun i hi => h3 i (List.mem_range.1 hi)
theorem memB_iff {xs : List Int} : memB xs = true ↔ xs.length ≤ 60 ∧ ∀ x ∈ xs, 0 ≤ x ∧ x ≤ 255 := by
  unfold memB inB
  simp [List.all_eq_true]
/-- other cells, as many -/
theorem buf_cells {cells c2 : List Int} {es : List Exp} (h : bufB cells es = true) (hl : c2.length = cells.length) (hm : ∀ x ∈ c2, 0 ≤ x ∧ x ≤ 255) : bufB c2 es = true := by
  obtain ⟨h1, h2, h3⟩ := bufB_iff.1 h
  refine bufB_iff.2 ⟨memB_iff.2 ⟨by rw [hl]; exact (memB_iff.1 h1).1, hm⟩, h2, fun i hi => ?_⟩
  have := h3 i hi
  unfold expB at this ⊢
  rw [hl]; exact this
theorem mem_set_of {xs : List Int} {i : Nat} {v : Int} (h : ∀ x ∈ xs, 0 ≤ x ∧ x ≤ 255) (hv : 0 ≤ v ∧ v ≤ 255) : ∀ x ∈ xs.set i v, 0 ≤ x ∧ x ≤ 255 := fun x hx => by
  rcases List.mem_or_eq_of_mem_set hx with h1 | rfl
  · exact h x h1
  · exact hv
theorem fillUp_mem {mem ix : List Int} {v : Int} (h : ∀ x ∈ mem, 0 ≤ x ∧ x ≤ 255) (hv : 0 ≤ v ∧ v ≤ 255) (k : Nat) : ∀ x ∈ fillUp mem ix v k, 0 ≤ x ∧ x ≤ 255 := by
  induction k with
  | zero => exact h
  | succ k ih => rw [fillUp_succ]; exact mem_set_of ih hv
theorem putUp_mem {mem ix vs : List Int} (h : ∀ x ∈ mem, 0 ≤ x ∧ x ≤ 255) (hv : ∀ i, 0 ≤ vs.getD i 0 ∧ vs.getD i 0 ≤ 255) (k : Nat) : ∀ x ∈ putUp mem ix vs k, 0 ≤ x ∧ x ≤ 255 := by
  induction k with
  | zero => exact h
  | succ k ih => rw [putUp_succ]; exact mem_set_of ih (hv k)
theorem getD_in {xs : List Int} (h : ∀ x ∈ xs, 0 ≤ x ∧ x ≤ 255) (i : Nat) : 0 ≤ xs.getD i 0 ∧ xs.getD i 0 ≤ 255 := by
  rcases Nat.lt_or_ge i xs.length with hi | hi
  · exact h _ (getD_mem hi)
  · rw [List.getD_eq_getElem?_getD, List.getElem?_eq_none hi]; decide
theorem filA_valid {cells : List Int} {es : List Exp} {i v : Int} (h : (filA cells es i v).2.2 = true) : bufB (filA cells es i v).1 (filA cells es i v).2.1 = true := by
  unfold filA at h ⊢
  split at h
  · rename_i hc
    rw [if_pos hc]
    simp only [Bool.and_eq_true] at hc
    have hm := (memB_iff.1 (bufB_iff.1 hc.1.1).1).2
    have hb : fillB cells (expAt es i.toNat).b (expAt es i.toNat).s (expAt es i.toNat).t v = true := by unfold fillB; rw [open_holds hc.1.1 hc.1.2, hc.2]; rfl
    refine buf_cells hc.1.1 (fillA_len hb) ?_
    unfold fillA
    rw [if_pos hb]
    refine fillUp_mem hm ?_ _
    have := hc.2
    unfold inB at this
    simpa using this
  · cases h
theorem cpyA_valid {cells : List Int} {es : List Exp} {i j : Int} (h : (cpyA cells es i j).2.2 = true) : bufB (cpyA cells es i j).1 (cpyA cells es i j).2.1 = true := by
  unfold cpyA at h ⊢
  split at h
  · rename_i hc
    rw [if_pos hc]
    rw [Bool.and_eq_true, Bool.and_eq_true] at hc
    have hm := (memB_iff.1 (bufB_iff.1 hc.1.1).1).2
    refine buf_cells hc.1.1 (copyA_len hc.2) ?_
    unfold copyA
    rw [if_pos hc.2]
    unfold putL
    refine putUp_mem hm (fun k => ?_) _
    refine getD_in (fun x hx => ?_) k
    unfold loadL takL at hx
    obtain ⟨q, -, rfl⟩ := List.mem_map.1 hx
    exact getD_in hm _
  · cases h
theorem resA_valid {cells : List Int} {es : List Exp} {n : Int} (h : (resA cells es n).2.2 = true) : bufB (resA cells es n).1 (resA cells es n).2.1 = true := by
  unfold resA at h ⊢
  split at h
  · rename_i hc
    rw [if_pos hc]
    simp only [Bool.and_eq_true, decide_eq_true_eq] at hc
    obtain ⟨h1, h2, h3⟩ := bufB_iff.1 hc.1
    have hin := hc.2.1
    unfold inB at hin
    simp only [Bool.and_eq_true, decide_eq_true_eq] at hin
    refine bufB_iff.2 ⟨memB_iff.2 ⟨by rw [fitL_len]; omega, fun x hx => ?_⟩, h2, fun i hi => ?_⟩
    · unfold fitL at hx
      rcases List.mem_append.1 hx with h' | h'
      · exact (memB_iff.1 h1).2 x (List.mem_of_mem_take h')
      · have := List.eq_of_mem_replicate h'; omega
    · obtain ⟨e1, e2, e3, -⟩ := expB_iff.1 (h3 i hi)
      refine expB_iff.2 ⟨e1, e2, e3, fun ho => ?_⟩
      exfalso
      have : (i : Int) ∈ selL opP es es.length := by
        unfold selL
        exact List.mem_map.2 ⟨i, List.mem_filter.2 ⟨List.mem_range.2 hi, ho⟩, rfl⟩
      rw [List.eq_nil_of_length_eq_zero hc.2.2] at this
      cases this
  · cases h
/-- one export more -/
theorem buf_app {cells : List Int} {es : List Exp} {e : Exp} (h : bufB cells es = true) (hn : es.length < 8) (h1 : -1 ≤ e.par ∧ e.par < es.length) (h2 : viewB e.b e.s e.t = true)
    (h3 : e.op = true → fitB e.b e.s e.t cells.length = true ∧ (e.par < 0 ∨ (expAt es e.par.toNat).op = true)) : bufB cells (es ++ [e]) = true := by
  obtain ⟨g1, g2, g3⟩ := bufB_iff.1 h
  refine bufB_iff.2 ⟨g1, by simp; omega, fun i hi => ?_⟩
  rw [List.length_append, List.length_singleton] at hi
  have hpar : ∀ q : Int, q < es.length → (q < 0 ∨ (expAt es q.toNat).op = true) → (q < 0 ∨ (expAt (es ++ [e]) q.toNat).op = true) := fun q hq hx => by
    rcases hx with hx | hx
    · exact .inl hx
    · rcases Int.lt_or_le q 0 with h0 | h0
      · exact .inl h0
      · right; rw [expAt_app1 (by omega)]; exact hx
  by_cases hl : i < es.length
  · obtain ⟨e1, e2, e3, e4⟩ := expB_iff.1 (g3 i hl)
    refine expB_iff.2 ?_
    rw [expAt_app1 hl]
    exact ⟨e1, e2, e3, fun ho => ⟨(e4 ho).1, hpar _ (by omega) (e4 ho).2⟩⟩
  · obtain rfl : i = es.length := by omega
    refine expB_iff.2 ?_
    rw [expAt_app2]
    exact ⟨h1.1, h1.2, h2, fun ho => ⟨(h3 ho).1, hpar _ h1.2 (h3 ho).2⟩⟩
theorem expA_valid {cells : List Int} {es : List Exp} {b : Int} {s t : List Int} (h : (expA cells es b s t).2.2 = true) : bufB (expA cells es b s t).1 (expA cells es b s t).2.1 = true := by
  unfold expA at h ⊢
  split at h
  · rename_i hc
    rw [if_pos hc]
    simp only [Bool.and_eq_true, decide_eq_true_eq] at hc
    exact buf_app hc.1 hc.2.2.2 ⟨by show (-1 : Int) ≤ -1; omega, by show (-1 : Int) < es.length; omega⟩ hc.2.1 (fun _ => ⟨hc.2.2.1, .inl (by show (-1 : Int) < 0; omega)⟩)
  · cases h
theorem parA_valid {cells : List Int} {es : List Exp} {i d F T B : Int} {hf ht : Bool} (h : (parA cells es i d F T B hf ht).2.2 = true) : bufB (parA cells es i d F T B hf ht).1 (parA cells es i d F T B hf ht).2.1 = true := by
  unfold parA at h ⊢
  split at h
  · rename_i hc
    rw [if_pos hc]
    simp only [Bool.and_eq_true, decide_eq_true_eq] at hc
    obtain ⟨o0, o1, o2⟩ := opB_in hc.1.1.2
    have hfit := expB_fit ((bufB_iff.1 hc.1.1.1).2.2 _ o1) o2
    obtain ⟨v1, v2⟩ := slice_fit hc.2 hfit
    exact buf_app hc.1.1.1 hc.1.2 ⟨by show (-1 : Int) ≤ i; omega, by show i < (es.length : Int); omega⟩ v1 (fun _ => ⟨v2, .inr o2⟩)
  · cases h
theorem relA_valid {cells : List Int} {es : List Exp} {i : Int} (h : (relA cells es i).2.2 = true) : bufB (relA cells es i).1 (relA cells es i).2.1 = true := by
  unfold relA at h ⊢
  split at h
  · rename_i hc
    rw [if_pos hc]
    simp only [Bool.and_eq_true, decide_eq_true_eq] at hc
    obtain ⟨o0, o1, o2⟩ := opB_in hc.1.2
    obtain ⟨g1, g2, g3⟩ := bufB_iff.1 hc.1.1
    refine bufB_iff.2 ⟨g1, by simpa using g2, fun j hj => ?_⟩
    rw [List.length_set] at hj
    obtain ⟨e1, e2, e3, e4⟩ := expB_iff.1 (g3 j hj)
    refine expB_iff.2 ?_
    rw [expAt_set es _ _ j o1]
    by_cases hji : j = i.toNat
    · subst hji
      rw [if_pos rfl]
      exact ⟨e1, e2, e3, fun ho => by cases ho⟩
    · rw [if_neg hji]
      refine ⟨e1, e2, e3, fun ho => ⟨(e4 ho).1, ?_⟩⟩
      rcases (e4 ho).2 with hp | hp
      · exact .inl hp
      · rcases Int.lt_or_le (expAt es j).par 0 with h0 | h0
        · exact .inl h0
        · right
          rw [expAt_set es _ _ _ o1]
          by_cases hq : (expAt es j).par.toNat = i.toNat
          · exfalso
            have : (j : Int) ∈ selL (kidP i) es es.length := by
              unfold selL kidP
              refine List.mem_map.2 ⟨j, List.mem_filter.2 ⟨List.mem_range.2 hj, ?_⟩, rfl⟩
              rw [ho, Bool.true_and]
              exact decide_eq_true (by omega)
            rw [List.eq_nil_of_length_eq_zero hc.2] at this
            cases this
          · rw [if_neg hq]; exact hp
  · cases h
end Go.Proofs.YtgklaobfikbiiaaDoor

/- Plain laws on buffers: how many exports there are behind an act; what is loaded. No condition. -/
namespace Go.Proofs.YtgklaobfikbiiaaDoor
open Go.RowKit
set_option linter.unusedVariables false
set_option maxRecDepth 100000

theorem expA_more {cells : List Int} {es : List Exp} {b : Int} {s t : List Int} {C2 : List Int} {E2 : List Exp} (h : expA cells es b s t = (C2, E2, true)) : ∃ m, E2.length = m + 1 ∧ m < 10 := by
  have hv : bufB C2 E2 = true := by have := expA_valid (h := (show (expA cells es b s t).2.2 = true by rw [h])); rw [h] at this; exact this
  have h8 := (bufB_iff.1 hv).2.1
  unfold expA at h
  split at h
  · cases h; exact ⟨es.length, by simp, by simp at h8; omega⟩
  · cases h
theorem parA_more {cells : List Int} {es : List Exp} {i d F T B : Int} {hf ht : Bool} {C2 : List Int} {E2 : List Exp} (h : parA cells es i d F T B hf ht = (C2, E2, true)) : ∃ m, E2.length = m + 1 ∧ m < 10 := by
  have hv : bufB C2 E2 = true := by have := parA_valid (h := (show (parA cells es i d F T B hf ht).2.2 = true by rw [h])); rw [h] at this; exact this
  have h8 := (bufB_iff.1 hv).2.1
  unfold parA at h
  split at h
  · cases h; exact ⟨es.length, by simp, by simp at h8; omega⟩
  · cases h
theorem load_len {mem : List Int} {b : Int} {s t : List Int} (h : holdB mem b s t = true) : (loadL mem b s t).length ≤ 60 := by
  unfold loadL; rw [takL_len]; exact (fill_in h).2.2.2
theorem load_mem {mem : List Int} {b : Int} {s t : List Int} (h : holdB mem b s t = true) : ∀ x ∈ loadL mem b s t, 0 ≤ x ∧ x ≤ 255 := by
  intro x hx
  unfold loadL takL at hx
  obtain ⟨q, -, rfl⟩ := List.mem_map.1 hx
  exact getD_in (memB_iff.1 (hold_in h).1).2 _
end Go.Proofs.YtgklaobfikbiiaaDoor

/- Walks: acts of the reference, with answers. -/
namespace Go.Proofs.YtgklaobfikbiiaaDoor
open Go.RowKit
set_option linter.unusedVariables false
set_option maxRecDepth 100000


/-- a call hands back a valid buffer, the old one or one in rows of its own, and a text -/
def PApp (cv ev : Value) (cells : List Int) (es : List Exp) (w : World) (e : Ending) (w' : World) : Prop := ∃ cv2 ev2 C E s, e = .returned (.tuple #[.agg #[cv2, ev2], .string s]) ∧ bufB C E = true ∧ ((∃ R, BufR w' w.heap.size cv2 ev2 C E R) ∨ (cv2 = cv ∧ ev2 = ev ∧ C = cells ∧ E = es)) ∧ Ext w w'

set_option maxHeartbeats 6400000 in
theorem apply_0 (cells : List Int) (es : List Exp) (cv ev : Value) (ns : List Int) (nv : Value) (w : World) (l1 l2 : Nat) (h1 : Ints w l1 cv cells) (h2 : Exps w l2 ev es) (hv : bufB cells es = true) (l3 : Nat) (h3 : Ints w l3 nv ns) (hl : 1 ≤ ns.length) :
  Calls Tryd.prog 16 #[.agg #[cv, ev], .agg #[.int .i64 0, nv]] w (PApp cv ev cells es w) := by
 obtain ⟨p0, c0, rfl⟩ := h1.form
 obtain ⟨p1, c1, rfl⟩ := h2.form
 have he1 := h2.len
 have hc1 := h1.len
 obtain ⟨pn, cn, rfl⟩ := h3.form
 have hl0 : 0 < ns.length := by omega
 replace hv := Lib.hid hv
 obtain ⟨C2, E2, O2, hX⟩ : ∃ C2 E2 O2, resA cells es (ns.getD 0 0) = (C2, E2, O2) := ⟨_, _, _, rfl⟩
 have hok : O2 = true → bufB C2 E2 = true := fun ho => by have h7 := resA_valid (h := (show (resA cells es (ns.getD 0 0)).2.2 = true by rw [hX]; exact ho)); rw [hX] at h7; exact h7
 replace hok := Lib.hid hok
 replace hX := Lib.hid hX
 cases O2
 ·
  go_enter Tryd.func16, Tryd.ntmps16
  go_wp2_with fail
  refine (pbx_eq hX.out (done_0 cells es _ _ ns _ _ _ _ (h1.ext qXt) (h2.ext qXt) _ (h3.ext qXt) (by omega))).mono ?_
  rintro e w1 ⟨cvfb5, evfb5, R6, rfl, bf4, xw1⟩
  have Lw1 : Ext w w1 := Ext.trans qXt xw1
  have Xw1 : Ext w w1 := Lw1
  have b10 : w1.cell? ⟨w.heap.size, 0, none⟩ = some (.slice p0 cells.length c0) := xw1.cell qCl
  have b11 : w1.cell? ⟨w.heap.size, 1, none⟩ = some (.slice p1 es.length c1) := xw1.cell qCl
  have b20 : w1.cell? ⟨w.heap.size + 1, 0, none⟩ = some (.int .i64 0) := xw1.cell qCl
  have b21 : w1.cell? ⟨w.heap.size + 1, 1, none⟩ = some (.slice pn ns.length cn) := xw1.cell qCl
  have b30 : w1.cell? ⟨w.heap.size + 1 + 1, 0, none⟩ = some (.slice none 0 0) := xw1.cell qCl
  have b31 : w1.cell? ⟨w.heap.size + 1 + 1, 1, none⟩ = some (.slice none 0 0) := xw1.cell qCl
  have f_b30 : w1.frozen? ⟨w.heap.size + 1 + 1, 0, none⟩ = false := xw1.frz (by simp <;> omega) qFz
  have f_b31 : w1.frozen? ⟨w.heap.size + 1 + 1, 1, none⟩ = false := xw1.frz (by simp <;> omega) qFz
  have z_b1 : w.heap.size < w1.heap.size := qB b10
  have z_b2 : w.heap.size + 1 < w1.heap.size := qB b20
  have z_b3 : w.heap.size + 1 + 1 < w1.heap.size := qB b30
  have s_w1 : w.heap.size ≤ w1.heap.size := Xw1.size
  clear xw1
  replace bf4 := bf4.lower (lo' := w.heap.size + 1 + 1 + 1) qSo
  obtain ⟨afb5, cfb5, rfl⟩ := bf4.ints.form
  obtain ⟨efb5, dfb5, rfl⟩ := bf4.exps.form
  have q_bf4 := Lib.hid bf4.at
  go_upto_region 2 with fail
  generalize hW1 : w1.alloc (.cells #[.slice afb5 C2.length cfb5, .slice efb5 E2.length dfb5] 34) = w2 at *
  have Lw2 : Ext w1 w2 := by subst hW1; exact qXt
  have Xw2 : Ext w w2 := Xw1.trans Lw2
  replace b10 := Lw2.cell b10
  replace b11 := Lw2.cell b11
  replace b20 := Lw2.cell b20
  replace b21 := Lw2.cell b21
  replace b30 := Lw2.cell b30
  replace b31 := Lw2.cell b31
  replace f_b30 := Lw2.frz z_b3 f_b30
  replace f_b31 := Lw2.frz z_b3 f_b31
  have b70 : w2.cell? ⟨w1.heap.size, 0, none⟩ = some (.slice afb5 C2.length cfb5) := by subst hW1; exact qCl
  have b71 : w2.cell? ⟨w1.heap.size, 1, none⟩ = some (.slice efb5 E2.length dfb5) := by subst hW1; exact qCl
  have z_b1 : w.heap.size < w2.heap.size := qB b10
  have z_b2 : w.heap.size + 1 < w2.heap.size := qB b20
  have z_b3 : w.heap.size + 1 + 1 < w2.heap.size := qB b30
  have z_b7 : w1.heap.size < w2.heap.size := qB b70
  replace bf4 := bf4.ext Lw2
  have s_w2 : w.heap.size ≤ w2.heap.size := Xw2.size
  clear hW1
  go_wp2_with fail
  generalize hW2 : ((w2.setCell ⟨w.heap.size + 1 + 1, 0, none⟩ (.slice p0 cells.length c0)).setCell ⟨w.heap.size + 1 + 1, 1, none⟩ (.slice p1 es.length c1)) = w3 at *
  have Kw3 : Chg (w.heap.size + 1 + 1) (w.heap.size + 1 + 1 + 1) w2 w3 := by subst hW2; exact qCh
  have Xw3 : Ext w w3 := by subst hW2; exact qXt
  replace b10 := Kw3.cell (by omega) b10
  replace b11 := Kw3.cell (by omega) b11
  replace b20 := Kw3.cell (by omega) b20
  replace b21 := Kw3.cell (by omega) b21
  replace b30 : w3.cell? ⟨w.heap.size + 1 + 1, 0, none⟩ = some (.slice p0 cells.length c0) := by subst hW2; go_simp
  replace f_b30 : w3.frozen? ⟨w.heap.size + 1 + 1, 0, none⟩ = false := by subst hW2; first | (simp only [World.frozen?_setCell]; with_reducible assumption) | go_simp
  replace b31 : w3.cell? ⟨w.heap.size + 1 + 1, 1, none⟩ = some (.slice p1 es.length c1) := by subst hW2; go_simp
  replace f_b31 : w3.frozen? ⟨w.heap.size + 1 + 1, 1, none⟩ = false := by subst hW2; first | (simp only [World.frozen?_setCell]; with_reducible assumption) | go_simp
  replace b70 := Kw3.cell (by omega) b70
  replace b71 := Kw3.cell (by omega) b71
  replace bf4 := bf4.chg Kw3 (by omega)
  clear Kw3
  have z_b1 : w.heap.size < w3.heap.size := qB b10
  have z_b2 : w.heap.size + 1 < w3.heap.size := qB b20
  have z_b3 : w.heap.size + 1 + 1 < w3.heap.size := qB b30
  have z_b7 : w1.heap.size < w3.heap.size := qB b70
  have s_w3 : w.heap.size ≤ w3.heap.size := Xw3.size
  clear hW2
  refine bodyPost_ret (v := .tuple #[.agg #[.slice p0 cells.length c0, .slice p1 es.length c1], Value.string { data := #[110, 111] }]) (by simp only [results, Tryd.results16]; go_simp) rfl ?_
  exact ⟨_, _, cells, es, _, rfl, hv.out, .inr ⟨rfl, rfl, rfl, rfl⟩, (Xw3.trans qXt)⟩
 ·
  go_enter Tryd.func16, Tryd.ntmps16
  go_wp2_with fail
  refine (pbx_eq hX.out (done_0 cells es _ _ ns _ _ _ _ (h1.ext qXt) (h2.ext qXt) _ (h3.ext qXt) (by omega))).mono ?_
  rintro e w1 ⟨cvfb5, evfb5, R6, rfl, bf4, xw1⟩
  have Lw1 : Ext w w1 := Ext.trans qXt xw1
  have Xw1 : Ext w w1 := Lw1
  have b10 : w1.cell? ⟨w.heap.size, 0, none⟩ = some (.slice p0 cells.length c0) := xw1.cell qCl
  have b11 : w1.cell? ⟨w.heap.size, 1, none⟩ = some (.slice p1 es.length c1) := xw1.cell qCl
  have b20 : w1.cell? ⟨w.heap.size + 1, 0, none⟩ = some (.int .i64 0) := xw1.cell qCl
  have b21 : w1.cell? ⟨w.heap.size + 1, 1, none⟩ = some (.slice pn ns.length cn) := xw1.cell qCl
  have b30 : w1.cell? ⟨w.heap.size + 1 + 1, 0, none⟩ = some (.slice none 0 0) := xw1.cell qCl
  have b31 : w1.cell? ⟨w.heap.size + 1 + 1, 1, none⟩ = some (.slice none 0 0) := xw1.cell qCl
  have f_b30 : w1.frozen? ⟨w.heap.size + 1 + 1, 0, none⟩ = false := xw1.frz (by simp <;> omega) qFz
  have f_b31 : w1.frozen? ⟨w.heap.size + 1 + 1, 1, none⟩ = false := xw1.frz (by simp <;> omega) qFz
  have z_b1 : w.heap.size < w1.heap.size := qB b10
  have z_b2 : w.heap.size + 1 < w1.heap.size := qB b20
  have z_b3 : w.heap.size + 1 + 1 < w1.heap.size := qB b30
  have s_w1 : w.heap.size ≤ w1.heap.size := Xw1.size
  clear xw1
  replace bf4 := bf4.lower (lo' := w.heap.size + 1 + 1 + 1) qSo
  obtain ⟨afb5, cfb5, rfl⟩ := bf4.ints.form
  obtain ⟨efb5, dfb5, rfl⟩ := bf4.exps.form
  have q_bf4 := Lib.hid bf4.at
  go_upto_region 2 with fail
  generalize hW3 : w1.alloc (.cells #[.slice afb5 C2.length cfb5, .slice efb5 E2.length dfb5] 34) = w2 at *
  have Lw2 : Ext w1 w2 := by subst hW3; exact qXt
  have Xw2 : Ext w w2 := Xw1.trans Lw2
  replace b10 := Lw2.cell b10
  replace b11 := Lw2.cell b11
  replace b20 := Lw2.cell b20
  replace b21 := Lw2.cell b21
  replace b30 := Lw2.cell b30
  replace b31 := Lw2.cell b31
  replace f_b30 := Lw2.frz z_b3 f_b30
  replace f_b31 := Lw2.frz z_b3 f_b31
  have b70 : w2.cell? ⟨w1.heap.size, 0, none⟩ = some (.slice afb5 C2.length cfb5) := by subst hW3; exact qCl
  have b71 : w2.cell? ⟨w1.heap.size, 1, none⟩ = some (.slice efb5 E2.length dfb5) := by subst hW3; exact qCl
  have z_b1 : w.heap.size < w2.heap.size := qB b10
  have z_b2 : w.heap.size + 1 < w2.heap.size := qB b20
  have z_b3 : w.heap.size + 1 + 1 < w2.heap.size := qB b30
  have z_b7 : w1.heap.size < w2.heap.size := qB b70
  replace bf4 := bf4.ext Lw2
  have s_w2 : w.heap.size ≤ w2.heap.size := Xw2.size
  clear hW3
  go_wp2_with fail
  generalize hW4 : ((w2.setCell ⟨w.heap.size + 1 + 1, 0, none⟩ (.slice afb5 C2.length cfb5)).setCell ⟨w.heap.size + 1 + 1, 1, none⟩ (.slice efb5 E2.length dfb5)) = w3 at *
  have Kw3 : Chg (w.heap.size + 1 + 1) (w.heap.size + 1 + 1 + 1) w2 w3 := by subst hW4; exact qCh
  have Xw3 : Ext w w3 := by subst hW4; exact qXt
  replace b10 := Kw3.cell (by omega) b10
  replace b11 := Kw3.cell (by omega) b11
  replace b20 := Kw3.cell (by omega) b20
  replace b21 := Kw3.cell (by omega) b21
  replace b30 : w3.cell? ⟨w.heap.size + 1 + 1, 0, none⟩ = some (.slice afb5 C2.length cfb5) := by subst hW4; go_simp
  replace f_b30 : w3.frozen? ⟨w.heap.size + 1 + 1, 0, none⟩ = false := by subst hW4; first | (simp only [World.frozen?_setCell]; with_reducible assumption) | go_simp
  replace b31 : w3.cell? ⟨w.heap.size + 1 + 1, 1, none⟩ = some (.slice efb5 E2.length dfb5) := by subst hW4; go_simp
  replace f_b31 : w3.frozen? ⟨w.heap.size + 1 + 1, 1, none⟩ = false := by subst hW4; first | (simp only [World.frozen?_setCell]; with_reducible assumption) | go_simp
  replace b70 := Kw3.cell (by omega) b70
  replace b71 := Kw3.cell (by omega) b71
  replace bf4 := bf4.chg Kw3 (by omega)
  clear Kw3
  have z_b1 : w.heap.size < w3.heap.size := qB b10
  have z_b2 : w.heap.size + 1 < w3.heap.size := qB b20
  have z_b3 : w.heap.size + 1 + 1 < w3.heap.size := qB b30
  have z_b7 : w1.heap.size < w3.heap.size := qB b70
  have s_w3 : w.heap.size ≤ w3.heap.size := Xw3.size
  clear hW4
  refine bodyPost_ret (v := .tuple #[.agg #[.slice afb5 C2.length cfb5, .slice efb5 E2.length dfb5], Value.string { data := #[111, 107] }]) (by simp only [results, Tryd.results16]; go_simp) rfl ?_
  exact ⟨_, _, C2, E2, _, rfl, (hok.out (by trivial)), .inl ⟨_, (bf4.ext qXt).lower (by omega)⟩, (Xw3.trans qXt)⟩

set_option maxHeartbeats 6400000 in
theorem apply_4 (cells : List Int) (es : List Exp) (cv ev : Value) (ns : List Int) (nv : Value) (w : World) (l1 l2 : Nat) (h1 : Ints w l1 cv cells) (h2 : Exps w l2 ev es) (hv : bufB cells es = true) (l3 : Nat) (h3 : Ints w l3 nv ns) (hl : 2 ≤ ns.length) :
  Calls Tryd.prog 16 #[.agg #[cv, ev], .agg #[.int .i64 4, nv]] w (PApp cv ev cells es w) := by
 obtain ⟨p0, c0, rfl⟩ := h1.form
 obtain ⟨p1, c1, rfl⟩ := h2.form
 have he1 := h2.len
 have hc1 := h1.len
 obtain ⟨pn, cn, rfl⟩ := h3.form
 have hl0 : 0 < ns.length := by omega
 have hl1 : 1 < ns.length := by omega
 replace hv := Lib.hid hv
 obtain ⟨C2, E2, O2, hX⟩ : ∃ C2 E2 O2, filA cells es (ns.getD 0 0) (ns.getD 1 0) = (C2, E2, O2) := ⟨_, _, _, rfl⟩
 have hok : O2 = true → bufB C2 E2 = true := fun ho => by have h7 := filA_valid (h := (show (filA cells es (ns.getD 0 0) (ns.getD 1 0)).2.2 = true by rw [hX]; exact ho)); rw [hX] at h7; exact h7
 replace hok := Lib.hid hok
 replace hX := Lib.hid hX
 cases O2
 ·
  go_enter Tryd.func16, Tryd.ntmps16
  go_wp2_with fail
  refine (pbx_eq hX.out (done_4 cells es _ _ ns _ _ _ _ (h1.ext qXt) (h2.ext qXt) _ (h3.ext qXt) (by omega))).mono ?_
  rintro e w1 ⟨cvfb5, evfb5, R6, rfl, bf4, xw1⟩
  have Lw1 : Ext w w1 := Ext.trans qXt xw1
  have Xw1 : Ext w w1 := Lw1
  have b10 : w1.cell? ⟨w.heap.size, 0, none⟩ = some (.slice p0 cells.length c0) := xw1.cell qCl
  have b11 : w1.cell? ⟨w.heap.size, 1, none⟩ = some (.slice p1 es.length c1) := xw1.cell qCl
  have b20 : w1.cell? ⟨w.heap.size + 1, 0, none⟩ = some (.int .i64 4) := xw1.cell qCl
  have b21 : w1.cell? ⟨w.heap.size + 1, 1, none⟩ = some (.slice pn ns.length cn) := xw1.cell qCl
  have b30 : w1.cell? ⟨w.heap.size + 1 + 1, 0, none⟩ = some (.slice none 0 0) := xw1.cell qCl
  have b31 : w1.cell? ⟨w.heap.size + 1 + 1, 1, none⟩ = some (.slice none 0 0) := xw1.cell qCl
  have f_b30 : w1.frozen? ⟨w.heap.size + 1 + 1, 0, none⟩ = false := xw1.frz (by simp <;> omega) qFz
  have f_b31 : w1.frozen? ⟨w.heap.size + 1 + 1, 1, none⟩ = false := xw1.frz (by simp <;> omega) qFz
  have z_b1 : w.heap.size < w1.heap.size := qB b10
  have z_b2 : w.heap.size + 1 < w1.heap.size := qB b20
  have z_b3 : w.heap.size + 1 + 1 < w1.heap.size := qB b30
  have s_w1 : w.heap.size ≤ w1.heap.size := Xw1.size
  clear xw1
  replace bf4 := bf4.lower (lo' := w.heap.size + 1 + 1 + 1) qSo
  obtain ⟨afb5, cfb5, rfl⟩ := bf4.ints.form
  obtain ⟨efb5, dfb5, rfl⟩ := bf4.exps.form
  have q_bf4 := Lib.hid bf4.at
  go_upto_region 2 with fail
  generalize hW5 : w1.alloc (.cells #[.slice afb5 C2.length cfb5, .slice efb5 E2.length dfb5] 34) = w2 at *
  have Lw2 : Ext w1 w2 := by subst hW5; exact qXt
  have Xw2 : Ext w w2 := Xw1.trans Lw2
  replace b10 := Lw2.cell b10
  replace b11 := Lw2.cell b11
  replace b20 := Lw2.cell b20
  replace b21 := Lw2.cell b21
  replace b30 := Lw2.cell b30
  replace b31 := Lw2.cell b31
  replace f_b30 := Lw2.frz z_b3 f_b30
  replace f_b31 := Lw2.frz z_b3 f_b31
  have b70 : w2.cell? ⟨w1.heap.size, 0, none⟩ = some (.slice afb5 C2.length cfb5) := by subst hW5; exact qCl
  have b71 : w2.cell? ⟨w1.heap.size, 1, none⟩ = some (.slice efb5 E2.length dfb5) := by subst hW5; exact qCl
  have z_b1 : w.heap.size < w2.heap.size := qB b10
  have z_b2 : w.heap.size + 1 < w2.heap.size := qB b20
  have z_b3 : w.heap.size + 1 + 1 < w2.heap.size := qB b30
  have z_b7 : w1.heap.size < w2.heap.size := qB b70
  replace bf4 := bf4.ext Lw2
  have s_w2 : w.heap.size ≤ w2.heap.size := Xw2.size
  clear hW5
  go_wp2_with fail
  generalize hW6 : ((w2.setCell ⟨w.heap.size + 1 + 1, 0, none⟩ (.slice p0 cells.length c0)).setCell ⟨w.heap.size + 1 + 1, 1, none⟩ (.slice p1 es.length c1)) = w3 at *
  have Kw3 : Chg (w.heap.size + 1 + 1) (w.heap.size + 1 + 1 + 1) w2 w3 := by subst hW6; exact qCh
  have Xw3 : Ext w w3 := by subst hW6; exact qXt
  replace b10 := Kw3.cell (by omega) b10
  replace b11 := Kw3.cell (by omega) b11
  replace b20 := Kw3.cell (by omega) b20
  replace b21 := Kw3.cell (by omega) b21
  replace b30 : w3.cell? ⟨w.heap.size + 1 + 1, 0, none⟩ = some (.slice p0 cells.length c0) := by subst hW6; go_simp
  replace f_b30 : w3.frozen? ⟨w.heap.size + 1 + 1, 0, none⟩ = false := by subst hW6; first | (simp only [World.frozen?_setCell]; with_reducible assumption) | go_simp
  replace b31 : w3.cell? ⟨w.heap.size + 1 + 1, 1, none⟩ = some (.slice p1 es.length c1) := by subst hW6; go_simp
  replace f_b31 : w3.frozen? ⟨w.heap.size + 1 + 1, 1, none⟩ = false := by subst hW6; first | (simp only [World.frozen?_setCell]; with_reducible assumption) | go_simp
  replace b70 := Kw3.cell (by omega) b70
  replace b71 := Kw3.cell (by omega) b71
  replace bf4 := bf4.chg Kw3 (by omega)
  clear Kw3
  have z_b1 : w.heap.size < w3.heap.size := qB b10
  have z_b2 : w.heap.size + 1 < w3.heap.size := qB b20
  have z_b3 : w.heap.size + 1 + 1 < w3.heap.size := qB b30
  have z_b7 : w1.heap.size < w3.heap.size := qB b70
  have s_w3 : w.heap.size ≤ w3.heap.size := Xw3.size
  clear hW6
  refine bodyPost_ret (v := .tuple #[.agg #[.slice p0 cells.length c0, .slice p1 es.length c1], Value.string { data := #[110, 111] }]) (by simp only [results, Tryd.results16]; go_simp) rfl ?_
  exact ⟨_, _, cells, es, _, rfl, hv.out, .inr ⟨rfl, rfl, rfl, rfl⟩, (Xw3.trans qXt)⟩
 ·
  go_enter Tryd.func16, Tryd.ntmps16
  go_wp2_with fail
  refine (pbx_eq hX.out (done_4 cells es _ _ ns _ _ _ _ (h1.ext qXt) (h2.ext qXt) _ (h3.ext qXt) (by omega))).mono ?_
  rintro e w1 ⟨cvfb5, evfb5, R6, rfl, bf4, xw1⟩
  have Lw1 : Ext w w1 := Ext.trans qXt xw1
  have Xw1 : Ext w w1 := Lw1
  have b10 : w1.cell? ⟨w.heap.size, 0, none⟩ = some (.slice p0 cells.length c0) := xw1.cell qCl
  have b11 : w1.cell? ⟨w.heap.size, 1, none⟩ = some (.slice p1 es.length c1) := xw1.cell qCl
  have b20 : w1.cell? ⟨w.heap.size + 1, 0, none⟩ = some (.int .i64 4) := xw1.cell qCl
  have b21 : w1.cell? ⟨w.heap.size + 1, 1, none⟩ = some (.slice pn ns.length cn) := xw1.cell qCl
  have b30 : w1.cell? ⟨w.heap.size + 1 + 1, 0, none⟩ = some (.slice none 0 0) := xw1.cell qCl
  have b31 : w1.cell? ⟨w.heap.size + 1 + 1, 1, none⟩ = some (.slice none 0 0) := xw1.cell qCl
  have f_b30 : w1.frozen? ⟨w.heap.size + 1 + 1, 0, none⟩ = false := xw1.frz (by simp <;> omega) qFz
  have f_b31 : w1.frozen? ⟨w.heap.size + 1 + 1, 1, none⟩ = false := xw1.frz (by simp <;> omega) qFz
  have z_b1 : w.heap.size < w1.heap.size := qB b10
  have z_b2 : w.heap.size + 1 < w1.heap.size := qB b20
  have z_b3 : w.heap.size + 1 + 1 < w1.heap.size := qB b30
  have s_w1 : w.heap.size ≤ w1.heap.size := Xw1.size
  clear xw1
  replace bf4 := bf4.lower (lo' := w.heap.size + 1 + 1 + 1) qSo
  obtain ⟨afb5, cfb5, rfl⟩ := bf4.ints.form
  obtain ⟨efb5, dfb5, rfl⟩ := bf4.exps.form
  have q_bf4 := Lib.hid bf4.at
  go_upto_region 2 with fail
  generalize hW7 : w1.alloc (.cells #[.slice afb5 C2.length cfb5, .slice efb5 E2.length dfb5] 34) = w2 at *
  have Lw2 : Ext w1 w2 := by subst hW7; exact qXt
  have Xw2 : Ext w w2 := Xw1.trans Lw2
  replace b10 := Lw2.cell b10
  replace b11 := Lw2.cell b11
  replace b20 := Lw2.cell b20
  replace b21 := Lw2.cell b21
  replace b30 := Lw2.cell b30
  replace b31 := Lw2.cell b31
  replace f_b30 := Lw2.frz z_b3 f_b30
  replace f_b31 := Lw2.frz z_b3 f_b31
  have b70 : w2.cell? ⟨w1.heap.size, 0, none⟩ = some (.slice afb5 C2.length cfb5) := by subst hW7; exact qCl
  have b71 : w2.cell? ⟨w1.heap.size, 1, none⟩ = some (.slice efb5 E2.length dfb5) := by subst hW7; exact qCl
  have z_b1 : w.heap.size < w2.heap.size := qB b10
  have z_b2 : w.heap.size + 1 < w2.heap.size := qB b20
  have z_b3 : w.heap.size + 1 + 1 < w2.heap.size := qB b30
  have z_b7 : w1.heap.size < w2.heap.size := qB b70
  replace bf4 := bf4.ext Lw2
  have s_w2 : w.heap.size ≤ w2.heap.size := Xw2.size
  clear hW7
  go_wp2_with fail
  generalize hW8 : ((w2.setCell ⟨w.heap.size + 1 + 1, 0, none⟩ (.slice afb5 C2.length cfb5)).setCell ⟨w.heap.size + 1 + 1, 1, none⟩ (.slice efb5 E2.length dfb5)) = w3 at *
  have Kw3 : Chg (w.heap.size + 1 + 1) (w.heap.size + 1 + 1 + 1) w2 w3 := by subst hW8; exact qCh
  have Xw3 : Ext w w3 := by subst hW8; exact qXt
  replace b10 := Kw3.cell (by omega) b10
  replace b11 := Kw3.cell (by omega) b11
  replace b20 := Kw3.cell (by omega) b20
  replace b21 := Kw3.cell (by omega) b21
  replace b30 : w3.cell? ⟨w.heap.size + 1 + 1, 0, none⟩ = some (.slice afb5 C2.length cfb5) := by subst hW8; go_simp
  replace f_b30 : w3.frozen? ⟨w.heap.size + 1 + 1, 0, none⟩ = false := by subst hW8; first | (simp only [World.frozen?_setCell]; with_reducible assumption) | go_simp
  replace b31 : w3.cell? ⟨w.heap.size + 1 + 1, 1, none⟩ = some (.slice efb5 E2.length dfb5) := by subst hW8; go_simp
  replace f_b31 : w3.frozen? ⟨w.heap.size + 1 + 1, 1, none⟩ = false := by subst hW8; first | (simp only [World.frozen?_setCell]; with_reducible assumption) | go_simp
  replace b70 := Kw3.cell (by omega) b70
  replace b71 := Kw3.cell (by omega) b71
  replace bf4 := bf4.chg Kw3 (by omega)
  clear Kw3
  have z_b1 : w.heap.size < w3.heap.size := qB b10
  have z_b2 : w.heap.size + 1 < w3.heap.size := qB b20
  have z_b3 : w.heap.size + 1 + 1 < w3.heap.size := qB b30
  have z_b7 : w1.heap.size < w3.heap.size := qB b70
  have s_w3 : w.heap.size ≤ w3.heap.size := Xw3.size
  clear hW8
  refine bodyPost_ret (v := .tuple #[.agg #[.slice afb5 C2.length cfb5, .slice efb5 E2.length dfb5], Value.string { data := #[111, 107] }]) (by simp only [results, Tryd.results16]; go_simp) rfl ?_
  exact ⟨_, _, C2, E2, _, rfl, (hok.out (by trivial)), .inl ⟨_, (bf4.ext qXt).lower (by omega)⟩, (Xw3.trans qXt)⟩

set_option maxHeartbeats 6400000 in
theorem apply_5 (cells : List Int) (es : List Exp) (cv ev : Value) (ns : List Int) (nv : Value) (w : World) (l1 l2 : Nat) (h1 : Ints w l1 cv cells) (h2 : Exps w l2 ev es) (hv : bufB cells es = true) (l3 : Nat) (h3 : Ints w l3 nv ns) (hl : 2 ≤ ns.length) :
  Calls Tryd.prog 16 #[.agg #[cv, ev], .agg #[.int .i64 5, nv]] w (PApp cv ev cells es w) := by
 obtain ⟨p0, c0, rfl⟩ := h1.form
 obtain ⟨p1, c1, rfl⟩ := h2.form
 have he1 := h2.len
 have hc1 := h1.len
 obtain ⟨pn, cn, rfl⟩ := h3.form
 have hl0 : 0 < ns.length := by omega
 have hl1 : 1 < ns.length := by omega
 replace hv := Lib.hid hv
 obtain ⟨C2, E2, O2, hX⟩ : ∃ C2 E2 O2, cpyA cells es (ns.getD 0 0) (ns.getD 1 0) = (C2, E2, O2) := ⟨_, _, _, rfl⟩
 have hok : O2 = true → bufB C2 E2 = true := fun ho => by have h7 := cpyA_valid (h := (show (cpyA cells es (ns.getD 0 0) (ns.getD 1 0)).2.2 = true by rw [hX]; exact ho)); rw [hX] at h7; exact h7
 replace hok := Lib.hid hok
 replace hX := Lib.hid hX
 cases O2
 ·
  go_enter Tryd.func16, Tryd.ntmps16
  go_wp2_with fail
  refine (pbx_eq hX.out (done_5 cells es _ _ ns _ _ _ _ (h1.ext qXt) (h2.ext qXt) _ (h3.ext qXt) (by omega))).mono ?_
  rintro e w1 ⟨cvfb5, evfb5, R6, rfl, bf4, xw1⟩
  have Lw1 : Ext w w1 := Ext.trans qXt xw1
  have Xw1 : Ext w w1 := Lw1
  have b10 : w1.cell? ⟨w.heap.size, 0, none⟩ = some (.slice p0 cells.length c0) := xw1.cell qCl
  have b11 : w1.cell? ⟨w.heap.size, 1, none⟩ = some (.slice p1 es.length c1) := xw1.cell qCl
  have b20 : w1.cell? ⟨w.heap.size + 1, 0, none⟩ = some (.int .i64 5) := xw1.cell qCl
  have b21 : w1.cell? ⟨w.heap.size + 1, 1, none⟩ = some (.slice pn ns.length cn) := xw1.cell qCl
  have b30 : w1.cell? ⟨w.heap.size + 1 + 1, 0, none⟩ = some (.slice none 0 0) := xw1.cell qCl
  have b31 : w1.cell? ⟨w.heap.size + 1 + 1, 1, none⟩ = some (.slice none 0 0) := xw1.cell qCl
  have f_b30 : w1.frozen? ⟨w.heap.size + 1 + 1, 0, none⟩ = false := xw1.frz (by simp <;> omega) qFz
  have f_b31 : w1.frozen? ⟨w.heap.size + 1 + 1, 1, none⟩ = false := xw1.frz (by simp <;> omega) qFz
  have z_b1 : w.heap.size < w1.heap.size := qB b10
  have z_b2 : w.heap.size + 1 < w1.heap.size := qB b20
  have z_b3 : w.heap.size + 1 + 1 < w1.heap.size := qB b30
  have s_w1 : w.heap.size ≤ w1.heap.size := Xw1.size
  clear xw1
  replace bf4 := bf4.lower (lo' := w.heap.size + 1 + 1 + 1) qSo
  obtain ⟨afb5, cfb5, rfl⟩ := bf4.ints.form
  obtain ⟨efb5, dfb5, rfl⟩ := bf4.exps.form
  have q_bf4 := Lib.hid bf4.at
  go_upto_region 2 with fail
  generalize hW9 : w1.alloc (.cells #[.slice afb5 C2.length cfb5, .slice efb5 E2.length dfb5] 34) = w2 at *
  have Lw2 : Ext w1 w2 := by subst hW9; exact qXt
  have Xw2 : Ext w w2 := Xw1.trans Lw2
  replace b10 := Lw2.cell b10
  replace b11 := Lw2.cell b11
  replace b20 := Lw2.cell b20
  replace b21 := Lw2.cell b21
  replace b30 := Lw2.cell b30
  replace b31 := Lw2.cell b31
  replace f_b30 := Lw2.frz z_b3 f_b30
  replace f_b31 := Lw2.frz z_b3 f_b31
  have b70 : w2.cell? ⟨w1.heap.size, 0, none⟩ = some (.slice afb5 C2.length cfb5) := by subst hW9; exact qCl
  have b71 : w2.cell? ⟨w1.heap.size, 1, none⟩ = some (.slice efb5 E2.length dfb5) := by subst hW9; exact qCl
  have z_b1 : w.heap.size < w2.heap.size := qB b10
  have z_b2 : w.heap.size + 1 < w2.heap.size := qB b20
  have z_b3 : w.heap.size + 1 + 1 < w2.heap.size := qB b30
  have z_b7 : w1.heap.size < w2.heap.size := qB b70
  replace bf4 := bf4.ext Lw2
  have s_w2 : w.heap.size ≤ w2.heap.size := Xw2.size
  clear hW9
  go_wp2_with fail
  generalize hW10 : ((w2.setCell ⟨w.heap.size + 1 + 1, 0, none⟩ (.slice p0 cells.length c0)).setCell ⟨w.heap.size + 1 + 1, 1, none⟩ (.slice p1 es.length c1)) = w3 at *
  have Kw3 : Chg (w.heap.size + 1 + 1) (w.heap.size + 1 + 1 + 1) w2 w3 := by subst hW10; exact qCh
  have Xw3 : Ext w w3 := by subst hW10; exact qXt
  replace b10 := Kw3.cell (by omega) b10
  replace b11 := Kw3.cell (by omega) b11
  replace b20 := Kw3.cell (by omega) b20
  replace b21 := Kw3.cell (by omega) b21
  replace b30 : w3.cell? ⟨w.heap.size + 1 + 1, 0, none⟩ = some (.slice p0 cells.length c0) := by subst hW10; go_simp
  replace f_b30 : w3.frozen? ⟨w.heap.size + 1 + 1, 0, none⟩ = false := by subst hW10; first | (simp only [World.frozen?_setCell]; with_reducible assumption) | go_simp
  replace b31 : w3.cell? ⟨w.heap.size + 1 + 1, 1, none⟩ = some (.slice p1 es.length c1) := by subst hW10; go_simp
  replace f_b31 : w3.frozen? ⟨w.heap.size + 1 + 1, 1, none⟩ = false := by subst hW10; first | (simp only [World.frozen?_setCell]; with_reducible assumption) | go_simp
  replace b70 := Kw3.cell (by omega) b70
  replace b71 := Kw3.cell (by omega) b71
  replace bf4 := bf4.chg Kw3 (by omega)
  clear Kw3
  have z_b1 : w.heap.size < w3.heap.size := qB b10
  have z_b2 : w.heap.size + 1 < w3.heap.size := qB b20
  have z_b3 : w.heap.size + 1 + 1 < w3.heap.size := qB b30
  have z_b7 : w1.heap.size < w3.heap.size := qB b70
  have s_w3 : w.heap.size ≤ w3.heap.size := Xw3.size
  clear hW10
  refine bodyPost_ret (v := .tuple #[.agg #[.slice p0 cells.length c0, .slice p1 es.length c1], Value.string { data := #[110, 111] }]) (by simp only [results, Tryd.results16]; go_simp) rfl ?_
  exact ⟨_, _, cells, es, _, rfl, hv.out, .inr ⟨rfl, rfl, rfl, rfl⟩, (Xw3.trans qXt)⟩
 ·
  go_enter Tryd.func16, Tryd.ntmps16
  go_wp2_with fail
  refine (pbx_eq hX.out (done_5 cells es _ _ ns _ _ _ _ (h1.ext qXt) (h2.ext qXt) _ (h3.ext qXt) (by omega))).mono ?_
  rintro e w1 ⟨cvfb5, evfb5, R6, rfl, bf4, xw1⟩
  have Lw1 : Ext w w1 := Ext.trans qXt xw1
  have Xw1 : Ext w w1 := Lw1
  have b10 : w1.cell? ⟨w.heap.size, 0, none⟩ = some (.slice p0 cells.length c0) := xw1.cell qCl
  have b11 : w1.cell? ⟨w.heap.size, 1, none⟩ = some (.slice p1 es.length c1) := xw1.cell qCl
  have b20 : w1.cell? ⟨w.heap.size + 1, 0, none⟩ = some (.int .i64 5) := xw1.cell qCl
  have b21 : w1.cell? ⟨w.heap.size + 1, 1, none⟩ = some (.slice pn ns.length cn) := xw1.cell qCl
  have b30 : w1.cell? ⟨w.heap.size + 1 + 1, 0, none⟩ = some (.slice none 0 0) := xw1.cell qCl
  have b31 : w1.cell? ⟨w.heap.size + 1 + 1, 1, none⟩ = some (.slice none 0 0) := xw1.cell qCl
  have f_b30 : w1.frozen? ⟨w.heap.size + 1 + 1, 0, none⟩ = false := xw1.frz (by simp <;> omega) qFz
  have f_b31 : w1.frozen? ⟨w.heap.size + 1 + 1, 1, none⟩ = false := xw1.frz (by simp <;> omega) qFz
  have z_b1 : w.heap.size < w1.heap.size := qB b10
  have z_b2 : w.heap.size + 1 < w1.heap.size := qB b20
  have z_b3 : w.heap.size + 1 + 1 < w1.heap.size := qB b30
  have s_w1 : w.heap.size ≤ w1.heap.size := Xw1.size
  clear xw1
  replace bf4 := bf4.lower (lo' := w.heap.size + 1 + 1 + 1) qSo
  obtain ⟨afb5, cfb5, rfl⟩ := bf4.ints.form
  obtain ⟨efb5, dfb5, rfl⟩ := bf4.exps.form
  have q_bf4 := Lib.hid bf4.at
  go_upto_region 2 with fail
  generalize hW11 : w1.alloc (.cells #[.slice afb5 C2.length cfb5, .slice efb5 E2.length dfb5] 34) = w2 at *
  have Lw2 : Ext w1 w2 := by subst hW11; exact qXt
  have Xw2 : Ext w w2 := Xw1.trans Lw2
  replace b10 := Lw2.cell b10
  replace b11 := Lw2.cell b11
  replace b20 := Lw2.cell b20
  replace b21 := Lw2.cell b21
  replace b30 := Lw2.cell b30
  replace b31 := Lw2.cell b31
  replace f_b30 := Lw2.frz z_b3 f_b30
  replace f_b31 := Lw2.frz z_b3 f_b31
  have b70 : w2.cell? ⟨w1.heap.size, 0, none⟩ = some (.slice afb5 C2.length cfb5) := by subst hW11; exact qCl
  have b71 : w2.cell? ⟨w1.heap.size, 1, none⟩ = some (.slice efb5 E2.length dfb5) := by subst hW11; exact qCl
  have z_b1 : w.heap.size < w2.heap.size := qB b10
  have z_b2 : w.heap.size + 1 < w2.heap.size := qB b20
  have z_b3 : w.heap.size + 1 + 1 < w2.heap.size := qB b30
  have z_b7 : w1.heap.size < w2.heap.size := qB b70
  replace bf4 := bf4.ext Lw2
  have s_w2 : w.heap.size ≤ w2.heap.size := Xw2.size
  clear hW11
  go_wp2_with fail
  generalize hW12 : ((w2.setCell ⟨w.heap.size + 1 + 1, 0, none⟩ (.slice afb5 C2.length cfb5)).setCell ⟨w.heap.size + 1 + 1, 1, none⟩ (.slice efb5 E2.length dfb5)) = w3 at *
  have Kw3 : Chg (w.heap.size + 1 + 1) (w.heap.size + 1 + 1 + 1) w2 w3 := by subst hW12; exact qCh
  have Xw3 : Ext w w3 := by subst hW12; exact qXt
  replace b10 := Kw3.cell (by omega) b10
  replace b11 := Kw3.cell (by omega) b11
  replace b20 := Kw3.cell (by omega) b20
  replace b21 := Kw3.cell (by omega) b21
  replace b30 : w3.cell? ⟨w.heap.size + 1 + 1, 0, none⟩ = some (.slice afb5 C2.length cfb5) := by subst hW12; go_simp
  replace f_b30 : w3.frozen? ⟨w.heap.size + 1 + 1, 0, none⟩ = false := by subst hW12; first | (simp only [World.frozen?_setCell]; with_reducible assumption) | go_simp
  replace b31 : w3.cell? ⟨w.heap.size + 1 + 1, 1, none⟩ = some (.slice efb5 E2.length dfb5) := by subst hW12; go_simp
  replace f_b31 : w3.frozen? ⟨w.heap.size + 1 + 1, 1, none⟩ = false := by subst hW12; first | (simp only [World.frozen?_setCell]; with_reducible assumption) | go_simp
  replace b70 := Kw3.cell (by omega) b70
  replace b71 := Kw3.cell (by omega) b71
  replace bf4 := bf4.chg Kw3 (by omega)
  clear Kw3
  have z_b1 : w.heap.size < w3.heap.size := qB b10
  have z_b2 : w.heap.size + 1 < w3.heap.size := qB b20
  have z_b3 : w.heap.size + 1 + 1 < w3.heap.size := qB b30
  have z_b7 : w1.heap.size < w3.heap.size := qB b70
  have s_w3 : w.heap.size ≤ w3.heap.size := Xw3.size
  clear hW12
  refine bodyPost_ret (v := .tuple #[.agg #[.slice afb5 C2.length cfb5, .slice efb5 E2.length dfb5], Value.string { data := #[111, 107] }]) (by simp only [results, Tryd.results16]; go_simp) rfl ?_
  exact ⟨_, _, C2, E2, _, rfl, (hok.out (by trivial)), .inl ⟨_, (bf4.ext qXt).lower (by omega)⟩, (Xw3.trans qXt)⟩

set_option maxHeartbeats 6400000 in
theorem apply_7 (cells : List Int) (es : List Exp) (cv ev : Value) (ns : List Int) (nv : Value) (w : World) (l1 l2 : Nat) (h1 : Ints w l1 cv cells) (h2 : Exps w l2 ev es) (hv : bufB cells es = true) (l3 : Nat) (h3 : Ints w l3 nv ns) (hl : 1 ≤ ns.length) :
  Calls Tryd.prog 16 #[.agg #[cv, ev], .agg #[.int .i64 7, nv]] w (PApp cv ev cells es w) := by
 obtain ⟨p0, c0, rfl⟩ := h1.form
 obtain ⟨p1, c1, rfl⟩ := h2.form
 have he1 := h2.len
 have hc1 := h1.len
 obtain ⟨pn, cn, rfl⟩ := h3.form
 have hl0 : 0 < ns.length := by omega
 replace hv := Lib.hid hv
 obtain ⟨C2, E2, O2, hX⟩ : ∃ C2 E2 O2, relA cells es (ns.getD 0 0) = (C2, E2, O2) := ⟨_, _, _, rfl⟩
 have hok : O2 = true → bufB C2 E2 = true := fun ho => by have h7 := relA_valid (h := (show (relA cells es (ns.getD 0 0)).2.2 = true by rw [hX]; exact ho)); rw [hX] at h7; exact h7
 replace hok := Lib.hid hok
 replace hX := Lib.hid hX
 cases O2
 ·
  go_enter Tryd.func16, Tryd.ntmps16
  go_wp2_with fail
  refine (pbx_eq hX.out (done_7 cells es _ _ ns _ _ _ _ (h1.ext qXt) (h2.ext qXt) _ (h3.ext qXt) (by omega))).mono ?_
  rintro e w1 ⟨cvfb5, evfb5, R6, rfl, bf4, xw1⟩
  have Lw1 : Ext w w1 := Ext.trans qXt xw1
  have Xw1 : Ext w w1 := Lw1
  have b10 : w1.cell? ⟨w.heap.size, 0, none⟩ = some (.slice p0 cells.length c0) := xw1.cell qCl
  have b11 : w1.cell? ⟨w.heap.size, 1, none⟩ = some (.slice p1 es.length c1) := xw1.cell qCl
  have b20 : w1.cell? ⟨w.heap.size + 1, 0, none⟩ = some (.int .i64 7) := xw1.cell qCl
  have b21 : w1.cell? ⟨w.heap.size + 1, 1, none⟩ = some (.slice pn ns.length cn) := xw1.cell qCl
  have b30 : w1.cell? ⟨w.heap.size + 1 + 1, 0, none⟩ = some (.slice none 0 0) := xw1.cell qCl
  have b31 : w1.cell? ⟨w.heap.size + 1 + 1, 1, none⟩ = some (.slice none 0 0) := xw1.cell qCl
  have f_b30 : w1.frozen? ⟨w.heap.size + 1 + 1, 0, none⟩ = false := xw1.frz (by simp <;> omega) qFz
  have f_b31 : w1.frozen? ⟨w.heap.size + 1 + 1, 1, none⟩ = false := xw1.frz (by simp <;> omega) qFz
  have z_b1 : w.heap.size < w1.heap.size := qB b10
  have z_b2 : w.heap.size + 1 < w1.heap.size := qB b20
  have z_b3 : w.heap.size + 1 + 1 < w1.heap.size := qB b30
  have s_w1 : w.heap.size ≤ w1.heap.size := Xw1.size
  clear xw1
  replace bf4 := bf4.lower (lo' := w.heap.size + 1 + 1 + 1) qSo
  obtain ⟨afb5, cfb5, rfl⟩ := bf4.ints.form
  obtain ⟨efb5, dfb5, rfl⟩ := bf4.exps.form
  have q_bf4 := Lib.hid bf4.at
  go_upto_region 2 with fail
  generalize hW13 : w1.alloc (.cells #[.slice afb5 C2.length cfb5, .slice efb5 E2.length dfb5] 34) = w2 at *
  have Lw2 : Ext w1 w2 := by subst hW13; exact qXt
  have Xw2 : Ext w w2 := Xw1.trans Lw2
  replace b10 := Lw2.cell b10
  replace b11 := Lw2.cell b11
  replace b20 := Lw2.cell b20
  replace b21 := Lw2.cell b21
  replace b30 := Lw2.cell b30
  replace b31 := Lw2.cell b31
  replace f_b30 := Lw2.frz z_b3 f_b30
  replace f_b31 := Lw2.frz z_b3 f_b31
  have b70 : w2.cell? ⟨w1.heap.size, 0, none⟩ = some (.slice afb5 C2.length cfb5) := by subst hW13; exact qCl
  have b71 : w2.cell? ⟨w1.heap.size, 1, none⟩ = some (.slice efb5 E2.length dfb5) := by subst hW13; exact qCl
  have z_b1 : w.heap.size < w2.heap.size := qB b10
  have z_b2 : w.heap.size + 1 < w2.heap.size := qB b20
  have z_b3 : w.heap.size + 1 + 1 < w2.heap.size := qB b30
  have z_b7 : w1.heap.size < w2.heap.size := qB b70
  replace bf4 := bf4.ext Lw2
  have s_w2 : w.heap.size ≤ w2.heap.size := Xw2.size
  clear hW13
  go_wp2_with fail
  generalize hW14 : ((w2.setCell ⟨w.heap.size + 1 + 1, 0, none⟩ (.slice p0 cells.length c0)).setCell ⟨w.heap.size + 1 + 1, 1, none⟩ (.slice p1 es.length c1)) = w3 at *
  have Kw3 : Chg (w.heap.size + 1 + 1) (w.heap.size + 1 + 1 + 1) w2 w3 := by subst hW14; exact qCh
  have Xw3 : Ext w w3 := by subst hW14; exact qXt
  replace b10 := Kw3.cell (by omega) b10
  replace b11 := Kw3.cell (by omega) b11
  replace b20 := Kw3.cell (by omega) b20
  replace b21 := Kw3.cell (by omega) b21
  replace b30 : w3.cell? ⟨w.heap.size + 1 + 1, 0, none⟩ = some (.slice p0 cells.length c0) := by subst hW14; go_simp
  replace f_b30 : w3.frozen? ⟨w.heap.size + 1 + 1, 0, none⟩ = false := by subst hW14; first | (simp only [World.frozen?_setCell]; with_reducible assumption) | go_simp
  replace b31 : w3.cell? ⟨w.heap.size + 1 + 1, 1, none⟩ = some (.slice p1 es.length c1) := by subst hW14; go_simp
  replace f_b31 : w3.frozen? ⟨w.heap.size + 1 + 1, 1, none⟩ = false := by subst hW14; first | (simp only [World.frozen?_setCell]; with_reducible assumption) | go_simp
  replace b70 := Kw3.cell (by omega) b70
  replace b71 := Kw3.cell (by omega) b71
  replace bf4 := bf4.chg Kw3 (by omega)
  clear Kw3
  have z_b1 : w.heap.size < w3.heap.size := qB b10
  have z_b2 : w.heap.size + 1 < w3.heap.size := qB b20
  have z_b3 : w.heap.size + 1 + 1 < w3.heap.size := qB b30
  have z_b7 : w1.heap.size < w3.heap.size := qB b70
  have s_w3 : w.heap.size ≤ w3.heap.size := Xw3.size
  clear hW14
  refine bodyPost_ret (v := .tuple #[.agg #[.slice p0 cells.length c0, .slice p1 es.length c1], Value.string { data := #[110, 111] }]) (by simp only [results, Tryd.results16]; go_simp) rfl ?_
  exact ⟨_, _, cells, es, _, rfl, hv.out, .inr ⟨rfl, rfl, rfl, rfl⟩, (Xw3.trans qXt)⟩
 ·
  go_enter Tryd.func16, Tryd.ntmps16
  go_wp2_with fail
  refine (pbx_eq hX.out (done_7 cells es _ _ ns _ _ _ _ (h1.ext qXt) (h2.ext qXt) _ (h3.ext qXt) (by omega))).mono ?_
  rintro e w1 ⟨cvfb5, evfb5, R6, rfl, bf4, xw1⟩
  have Lw1 : Ext w w1 := Ext.trans qXt xw1
  have Xw1 : Ext w w1 := Lw1
  have b10 : w1.cell? ⟨w.heap.size, 0, none⟩ = some (.slice p0 cells.length c0) := xw1.cell qCl
  have b11 : w1.cell? ⟨w.heap.size, 1, none⟩ = some (.slice p1 es.length c1) := xw1.cell qCl
  have b20 : w1.cell? ⟨w.heap.size + 1, 0, none⟩ = some (.int .i64 7) := xw1.cell qCl
  have b21 : w1.cell? ⟨w.heap.size + 1, 1, none⟩ = some (.slice pn ns.length cn) := xw1.cell qCl
  have b30 : w1.cell? ⟨w.heap.size + 1 + 1, 0, none⟩ = some (.slice none 0 0) := xw1.cell qCl
  have b31 : w1.cell? ⟨w.heap.size + 1 + 1, 1, none⟩ = some (.slice none 0 0) := xw1.cell qCl
  have f_b30 : w1.frozen? ⟨w.heap.size + 1 + 1, 0, none⟩ = false := xw1.frz (by simp <;> omega) qFz
  have f_b31 : w1.frozen? ⟨w.heap.size + 1 + 1, 1, none⟩ = false := xw1.frz (by simp <;> omega) qFz
  have z_b1 : w.heap.size < w1.heap.size := qB b10
  have z_b2 : w.heap.size + 1 < w1.heap.size := qB b20
  have z_b3 : w.heap.size + 1 + 1 < w1.heap.size := qB b30
  have s_w1 : w.heap.size ≤ w1.heap.size := Xw1.size
  clear xw1
  replace bf4 := bf4.lower (lo' := w.heap.size + 1 + 1 + 1) qSo
  obtain ⟨afb5, cfb5, rfl⟩ := bf4.ints.form
  obtain ⟨efb5, dfb5, rfl⟩ := bf4.exps.form
  have q_bf4 := Lib.hid bf4.at
  go_upto_region 2 with fail
  generalize hW15 : w1.alloc (.cells #[.slice afb5 C2.length cfb5, .slice efb5 E2.length dfb5] 34) = w2 at *
  have Lw2 : Ext w1 w2 := by subst hW15; exact qXt
  have Xw2 : Ext w w2 := Xw1.trans Lw2
  replace b10 := Lw2.cell b10
  replace b11 := Lw2.cell b11
  replace b20 := Lw2.cell b20
  replace b21 := Lw2.cell b21
  replace b30 := Lw2.cell b30
  replace b31 := Lw2.cell b31
  replace f_b30 := Lw2.frz z_b3 f_b30
  replace f_b31 := Lw2.frz z_b3 f_b31
  have b70 : w2.cell? ⟨w1.heap.size, 0, none⟩ = some (.slice afb5 C2.length cfb5) := by subst hW15; exact qCl
  have b71 : w2.cell? ⟨w1.heap.size, 1, none⟩ = some (.slice efb5 E2.length dfb5) := by subst hW15; exact qCl
  have z_b1 : w.heap.size < w2.heap.size := qB b10
  have z_b2 : w.heap.size + 1 < w2.heap.size := qB b20
  have z_b3 : w.heap.size + 1 + 1 < w2.heap.size := qB b30
  have z_b7 : w1.heap.size < w2.heap.size := qB b70
  replace bf4 := bf4.ext Lw2
  have s_w2 : w.heap.size ≤ w2.heap.size := Xw2.size
  clear hW15
  go_wp2_with fail
  generalize hW16 : ((w2.setCell ⟨w.heap.size + 1 + 1, 0, none⟩ (.slice afb5 C2.length cfb5)).setCell ⟨w.heap.size + 1 + 1, 1, none⟩ (.slice efb5 E2.length dfb5)) = w3 at *
  have Kw3 : Chg (w.heap.size + 1 + 1) (w.heap.size + 1 + 1 + 1) w2 w3 := by subst hW16; exact qCh
  have Xw3 : Ext w w3 := by subst hW16; exact qXt
  replace b10 := Kw3.cell (by omega) b10
  replace b11 := Kw3.cell (by omega) b11
  replace b20 := Kw3.cell (by omega) b20
  replace b21 := Kw3.cell (by omega) b21
  replace b30 : w3.cell? ⟨w.heap.size + 1 + 1, 0, none⟩ = some (.slice afb5 C2.length cfb5) := by subst hW16; go_simp
  replace f_b30 : w3.frozen? ⟨w.heap.size + 1 + 1, 0, none⟩ = false := by subst hW16; first | (simp only [World.frozen?_setCell]; with_reducible assumption) | go_simp
  replace b31 : w3.cell? ⟨w.heap.size + 1 + 1, 1, none⟩ = some (.slice efb5 E2.length dfb5) := by subst hW16; go_simp
  replace f_b31 : w3.frozen? ⟨w.heap.size + 1 + 1, 1, none⟩ = false := by subst hW16; first | (simp only [World.frozen?_setCell]; with_reducible assumption) | go_simp
  replace b70 := Kw3.cell (by omega) b70
  replace b71 := Kw3.cell (by omega) b71
  replace bf4 := bf4.chg Kw3 (by omega)
  clear Kw3
  have z_b1 : w.heap.size < w3.heap.size := qB b10
  have z_b2 : w.heap.size + 1 < w3.heap.size := qB b20
  have z_b3 : w.heap.size + 1 + 1 < w3.heap.size := qB b30
  have z_b7 : w1.heap.size < w3.heap.size := qB b70
  have s_w3 : w.heap.size ≤ w3.heap.size := Xw3.size
  clear hW16
  refine bodyPost_ret (v := .tuple #[.agg #[.slice afb5 C2.length cfb5, .slice efb5 E2.length dfb5], Value.string { data := #[111, 107] }]) (by simp only [results, Tryd.results16]; go_simp) rfl ?_
  exact ⟨_, _, C2, E2, _, rfl, (hok.out (by trivial)), .inl ⟨_, (bf4.ext qXt).lower (by omega)⟩, (Xw3.trans qXt)⟩


end Go.Proofs.YtgklaobfikbiiaaDoor

/- Walks: acts of the reference, with answers. -/
namespace Go.Proofs.YtgklaobfikbiiaaDoor
open Go.RowKit
set_option linter.unusedVariables false
set_option maxRecDepth 100000

set_option maxHeartbeats 6400000 in
theorem apply_1 (cells : List Int) (es : List Exp) (cv ev : Value) (ns : List Int) (nv : Value) (w : World) (l1 l2 : Nat) (h1 : Ints w l1 cv cells) (h2 : Exps w l2 ev es) (hv : bufB cells es = true) (l3 : Nat) (h3 : Ints w l3 nv ns) (hl : 3 ≤ ns.length) :
  Calls Tryd.prog 16 #[.agg #[cv, ev], .agg #[.int .i64 1, nv]] w (PApp cv ev cells es w) := by
 obtain ⟨p0, c0, rfl⟩ := h1.form
 obtain ⟨p1, c1, rfl⟩ := h2.form
 have he1 := h2.len
 have hc1 := h1.len
 obtain ⟨pn, cn, rfl⟩ := h3.form
 have hl0 : 0 < ns.length := by omega
 have hl1 : 1 < ns.length := by omega
 have hl2 : 2 < ns.length := by omega
 replace hv := Lib.hid hv
 obtain ⟨C2, E2, O2, hX⟩ : ∃ C2 E2 O2, expA cells es (ns.getD 0 0) [(ns.getD 1 0)] [(ns.getD 2 0)] = (C2, E2, O2) := ⟨_, _, _, rfl⟩
 have hok : O2 = true → bufB C2 E2 = true := fun ho => by have h7 := expA_valid (h := (show (expA cells es (ns.getD 0 0) [(ns.getD 1 0)] [(ns.getD 2 0)]).2.2 = true by rw [hX]; exact ho)); rw [hX] at h7; exact h7
 replace hok := Lib.hid hok
 have hmx : O2 = true → ∃ m, E2.length = m + 1 ∧ m < 10 := fun ho => expA_more (by rw [hX, ho])
 replace hX := Lib.hid hX
 replace hmx := Lib.hid hmx
 cases O2
 ·
  go_enter Tryd.func16, Tryd.ntmps16
  go_wp2_with fail
  refine (pbx_eq hX.out (done_1 cells es _ _ ns _ _ _ _ (h1.ext qXt) (h2.ext qXt) _ (h3.ext qXt) (by omega))).mono ?_
  rintro e w1 ⟨cvfb5, evfb5, R6, rfl, bf4, xw1⟩
  have Lw1 : Ext w w1 := Ext.trans qXt xw1
  have Xw1 : Ext w w1 := Lw1
  have b10 : w1.cell? ⟨w.heap.size, 0, none⟩ = some (.slice p0 cells.length c0) := xw1.cell qCl
  have b11 : w1.cell? ⟨w.heap.size, 1, none⟩ = some (.slice p1 es.length c1) := xw1.cell qCl
  have b20 : w1.cell? ⟨w.heap.size + 1, 0, none⟩ = some (.int .i64 1) := xw1.cell qCl
  have b21 : w1.cell? ⟨w.heap.size + 1, 1, none⟩ = some (.slice pn ns.length cn) := xw1.cell qCl
  have b30 : w1.cell? ⟨w.heap.size + 1 + 1, 0, none⟩ = some (.slice none 0 0) := xw1.cell qCl
  have b31 : w1.cell? ⟨w.heap.size + 1 + 1, 1, none⟩ = some (.slice none 0 0) := xw1.cell qCl
  have f_b30 : w1.frozen? ⟨w.heap.size + 1 + 1, 0, none⟩ = false := xw1.frz (by simp <;> omega) qFz
  have f_b31 : w1.frozen? ⟨w.heap.size + 1 + 1, 1, none⟩ = false := xw1.frz (by simp <;> omega) qFz
  have z_b1 : w.heap.size < w1.heap.size := qB b10
  have z_b2 : w.heap.size + 1 < w1.heap.size := qB b20
  have z_b3 : w.heap.size + 1 + 1 < w1.heap.size := qB b30
  have s_w1 : w.heap.size ≤ w1.heap.size := Xw1.size
  clear xw1
  replace bf4 := bf4.lower (lo' := w.heap.size + 1 + 1 + 1) qSo
  obtain ⟨afb5, cfb5, rfl⟩ := bf4.ints.form
  obtain ⟨efb5, dfb5, rfl⟩ := bf4.exps.form
  have q_bf4 := Lib.hid bf4.at
  go_upto_region 2 with fail
  generalize hW1 : w1.alloc (.cells #[.slice afb5 C2.length cfb5, .slice efb5 E2.length dfb5] 34) = w2 at *
  have Lw2 : Ext w1 w2 := by subst hW1; exact qXt
  have Xw2 : Ext w w2 := Xw1.trans Lw2
  replace b10 := Lw2.cell b10
  replace b11 := Lw2.cell b11
  replace b20 := Lw2.cell b20
  replace b21 := Lw2.cell b21
  replace b30 := Lw2.cell b30
  replace b31 := Lw2.cell b31
  replace f_b30 := Lw2.frz z_b3 f_b30
  replace f_b31 := Lw2.frz z_b3 f_b31
  have b70 : w2.cell? ⟨w1.heap.size, 0, none⟩ = some (.slice afb5 C2.length cfb5) := by subst hW1; exact qCl
  have b71 : w2.cell? ⟨w1.heap.size, 1, none⟩ = some (.slice efb5 E2.length dfb5) := by subst hW1; exact qCl
  have z_b1 : w.heap.size < w2.heap.size := qB b10
  have z_b2 : w.heap.size + 1 < w2.heap.size := qB b20
  have z_b3 : w.heap.size + 1 + 1 < w2.heap.size := qB b30
  have z_b7 : w1.heap.size < w2.heap.size := qB b70
  replace bf4 := bf4.ext Lw2
  have s_w2 : w.heap.size ≤ w2.heap.size := Xw2.size
  clear hW1
  go_wp2_with fail
  generalize hW2 : ((w2.setCell ⟨w.heap.size + 1 + 1, 0, none⟩ (.slice p0 cells.length c0)).setCell ⟨w.heap.size + 1 + 1, 1, none⟩ (.slice p1 es.length c1)) = w3 at *
  have Kw3 : Chg (w.heap.size + 1 + 1) (w.heap.size + 1 + 1 + 1) w2 w3 := by subst hW2; exact qCh
  have Xw3 : Ext w w3 := by subst hW2; exact qXt
  replace b10 := Kw3.cell (by omega) b10
  replace b11 := Kw3.cell (by omega) b11
  replace b20 := Kw3.cell (by omega) b20
  replace b21 := Kw3.cell (by omega) b21
  replace b30 : w3.cell? ⟨w.heap.size + 1 + 1, 0, none⟩ = some (.slice p0 cells.length c0) := by subst hW2; go_simp
  replace f_b30 : w3.frozen? ⟨w.heap.size + 1 + 1, 0, none⟩ = false := by subst hW2; first | (simp only [World.frozen?_setCell]; with_reducible assumption) | go_simp
  replace b31 : w3.cell? ⟨w.heap.size + 1 + 1, 1, none⟩ = some (.slice p1 es.length c1) := by subst hW2; go_simp
  replace f_b31 : w3.frozen? ⟨w.heap.size + 1 + 1, 1, none⟩ = false := by subst hW2; first | (simp only [World.frozen?_setCell]; with_reducible assumption) | go_simp
  replace b70 := Kw3.cell (by omega) b70
  replace b71 := Kw3.cell (by omega) b71
  replace bf4 := bf4.chg Kw3 (by omega)
  clear Kw3
  have z_b1 : w.heap.size < w3.heap.size := qB b10
  have z_b2 : w.heap.size + 1 < w3.heap.size := qB b20
  have z_b3 : w.heap.size + 1 + 1 < w3.heap.size := qB b30
  have z_b7 : w1.heap.size < w3.heap.size := qB b70
  have s_w3 : w.heap.size ≤ w3.heap.size := Xw3.size
  clear hW2
  refine bodyPost_ret (v := .tuple #[.agg #[.slice p0 cells.length c0, .slice p1 es.length c1], Value.string { data := #[110, 111] }]) (by simp only [results, Tryd.results16]; go_simp) rfl ?_
  exact ⟨_, _, cells, es, _, rfl, hv.out, .inr ⟨rfl, rfl, rfl, rfl⟩, (Xw3.trans qXt)⟩
 ·
  obtain ⟨m, hm7, hm8⟩ := hmx.out (by trivial)
  have hwm : IntKind.i64.wrap (m : Int) = (m : Int) := IntWalk.i64_in _ (by omega)
  replace hm7 := Lib.hid hm7
  clear hmx
  go_enter Tryd.func16, Tryd.ntmps16
  go_wp2_with fail
  refine (pbx_eq hX.out (done_1 cells es _ _ ns _ _ _ _ (h1.ext qXt) (h2.ext qXt) _ (h3.ext qXt) (by omega))).mono ?_
  rintro e w1 ⟨cvfb5, evfb5, R6, rfl, bf4, xw1⟩
  have Lw1 : Ext w w1 := Ext.trans qXt xw1
  have Xw1 : Ext w w1 := Lw1
  have b10 : w1.cell? ⟨w.heap.size, 0, none⟩ = some (.slice p0 cells.length c0) := xw1.cell qCl
  have b11 : w1.cell? ⟨w.heap.size, 1, none⟩ = some (.slice p1 es.length c1) := xw1.cell qCl
  have b20 : w1.cell? ⟨w.heap.size + 1, 0, none⟩ = some (.int .i64 1) := xw1.cell qCl
  have b21 : w1.cell? ⟨w.heap.size + 1, 1, none⟩ = some (.slice pn ns.length cn) := xw1.cell qCl
  have b30 : w1.cell? ⟨w.heap.size + 1 + 1, 0, none⟩ = some (.slice none 0 0) := xw1.cell qCl
  have b31 : w1.cell? ⟨w.heap.size + 1 + 1, 1, none⟩ = some (.slice none 0 0) := xw1.cell qCl
  have f_b30 : w1.frozen? ⟨w.heap.size + 1 + 1, 0, none⟩ = false := xw1.frz (by simp <;> omega) qFz
  have f_b31 : w1.frozen? ⟨w.heap.size + 1 + 1, 1, none⟩ = false := xw1.frz (by simp <;> omega) qFz
  have z_b1 : w.heap.size < w1.heap.size := qB b10
  have z_b2 : w.heap.size + 1 < w1.heap.size := qB b20
  have z_b3 : w.heap.size + 1 + 1 < w1.heap.size := qB b30
  have s_w1 : w.heap.size ≤ w1.heap.size := Xw1.size
  clear xw1
  replace bf4 := bf4.lower (lo' := w.heap.size + 1 + 1 + 1) qSo
  obtain ⟨afb5, cfb5, rfl⟩ := bf4.ints.form
  obtain ⟨efb5, dfb5, hEfb5⟩ := bf4.exps.form
  rw [hm7.out] at hEfb5
  subst hEfb5
  have q_bf4 := Lib.hid bf4.at
  go_upto_region 2 with fail
  generalize hW3 : w1.alloc (.cells #[.slice afb5 C2.length cfb5, .slice efb5 (m + 1) dfb5] 34) = w2 at *
  have Lw2 : Ext w1 w2 := by subst hW3; exact qXt
  have Xw2 : Ext w w2 := Xw1.trans Lw2
  replace b10 := Lw2.cell b10
  replace b11 := Lw2.cell b11
  replace b20 := Lw2.cell b20
  replace b21 := Lw2.cell b21
  replace b30 := Lw2.cell b30
  replace b31 := Lw2.cell b31
  replace f_b30 := Lw2.frz z_b3 f_b30
  replace f_b31 := Lw2.frz z_b3 f_b31
  have b70 : w2.cell? ⟨w1.heap.size, 0, none⟩ = some (.slice afb5 C2.length cfb5) := by subst hW3; exact qCl
  have b71 : w2.cell? ⟨w1.heap.size, 1, none⟩ = some (.slice efb5 (m + 1) dfb5) := by subst hW3; exact qCl
  have z_b1 : w.heap.size < w2.heap.size := qB b10
  have z_b2 : w.heap.size + 1 < w2.heap.size := qB b20
  have z_b3 : w.heap.size + 1 + 1 < w2.heap.size := qB b30
  have z_b7 : w1.heap.size < w2.heap.size := qB b70
  replace bf4 := bf4.ext Lw2
  have s_w2 : w.heap.size ≤ w2.heap.size := Xw2.size
  clear hW3
  go_wp2_with fail
  refine wp_region_held_drew (S := fun w' => w'.cell? ⟨w1.heap.size, 0, none⟩ = some (.slice afb5 C2.length cfb5) ∧ w'.cell? ⟨w1.heap.size, 1, none⟩ = some (.slice efb5 (m + 1) dfb5)) qKr ⟨b70, b71⟩ (fun hHeld => ?_)
  refine qHk (v := ?_) 0 rfl (.inl ⟨by rfl, ?_⟩) ?_
  rotate_left
  ·
   (intro w hSw; (try dsimp only at hSw); go_simp; try with_reducible rfl)
  try simp only [Act.put, qa, qb, qc, qD, qE, qF]
  refine qHk (v := ?_) 1 rfl (.inl ⟨by rfl, ?_⟩) ?_
  rotate_left
  ·
   (intro w hSw; (try dsimp only at hSw); go_simp; try with_reducible rfl)
  try simp only [Act.put, qa, qb, qc, qD, qE, qF]
  refine qHk (v := ?_) 2 rfl (.inl ⟨by rfl, ?_⟩) ?_
  rotate_left
  ·
   (intro w hSw; (try dsimp only at hSw); go_simp; try with_reducible rfl)
  try simp only [Act.put, qa, qb, qc, qD, qE, qF]
  refine qHk (v := ?_) 3 rfl (.inl ⟨by rfl, ?_⟩) ?_
  rotate_left
  ·
   (intro w hSw; (try dsimp only at hSw); go_simp; try with_reducible rfl)
  try simp only [Act.put, qa, qb, qc, qD, qE, qF]
  have hw8 : IntKind.i64.wrap (((m + 1) : Int) - 1) = ((m + 1) : Int) - 1 := IntWalk.i64_in _ (by omega)
  refine qHk (v := ?_) 4 rfl (.inl ⟨by rfl, ?_⟩) ?_
  rotate_left
  ·
   (intro w hSw; (try dsimp only at hSw); go_simp; try with_reducible rfl)
  try simp only [Act.put, qa, qb, qc, qD, qE, qF]
  refine qHr 5 rfl (fun K hK => ?_)
  try simp only [Act.put, qa, qb, qc, qD, qE, qF]
  go_simp
  refine (num1_c m (by omega) _).mono ?_
  rintro e w3 ⟨tx9, rfl, hz_tx9, xw3⟩
  have Lw3 : Ext w2 w3 := Ext.trans qXt xw3
  have Xw3 : Ext w w3 := Xw2.trans Lw3
  replace b10 := Lw3.cell b10
  replace b11 := Lw3.cell b11
  replace b20 := Lw3.cell b20
  replace b21 := Lw3.cell b21
  replace b30 := Lw3.cell b30
  replace b31 := Lw3.cell b31
  replace f_b30 := Lw3.frz z_b3 f_b30
  replace f_b31 := Lw3.frz z_b3 f_b31
  replace b70 := Lw3.cell b70
  replace b71 := Lw3.cell b71
  have z_b1 : w.heap.size < w3.heap.size := qB b10
  have z_b2 : w.heap.size + 1 < w3.heap.size := qB b20
  have z_b3 : w.heap.size + 1 + 1 < w3.heap.size := qB b30
  have z_b7 : w1.heap.size < w3.heap.size := qB b70
  replace bf4 := bf4.ext Lw3
  have s_w3 : w.heap.size ≤ w3.heap.size := Xw3.size
  clear xw3
  have hy_tx9 : (tx9.size : Int) ≤ 8388608 := by omega
  have hv_tx9 : ¬ 9223372036854775807 < 3 + tx9.size := by omega
  refine hK.out _ _ ⟨b70, b71⟩ (fun hHeld => ?_)
  clear hK K
  try simp only [Act.put, qa, qb, qc, qD, qE, qF]
  refine qHk (v := ?_) 6 rfl (.inl ⟨by rfl, ?_⟩) ?_
  rotate_left
  ·
   (intro w hSw; (try dsimp only at hSw); go_simp; try with_reducible rfl)
  try simp only [Act.put, qa, qb, qc, qD, qE, qF]
  refine qHr 7 rfl (fun K hK => ?_)
  try simp only [Act.put, qa, qb, qc, qD, qE, qF]
  go_simp
  generalize hW4 : ((w3.setCell ⟨w.heap.size + 1 + 1, 0, none⟩ (.slice afb5 C2.length cfb5)).setCell ⟨w.heap.size + 1 + 1, 1, none⟩ (.slice efb5 (m + 1) dfb5)) = w4 at *
  have Kw4 : Chg (w.heap.size + 1 + 1) (w.heap.size + 1 + 1 + 1) w3 w4 := by subst hW4; exact qCh
  have Xw4 : Ext w w4 := by subst hW4; exact qXt
  replace b10 := Kw4.cell (by omega) b10
  replace b11 := Kw4.cell (by omega) b11
  replace b20 := Kw4.cell (by omega) b20
  replace b21 := Kw4.cell (by omega) b21
  replace b30 : w4.cell? ⟨w.heap.size + 1 + 1, 0, none⟩ = some (.slice afb5 C2.length cfb5) := by subst hW4; go_simp
  replace f_b30 : w4.frozen? ⟨w.heap.size + 1 + 1, 0, none⟩ = false := by subst hW4; first | (simp only [World.frozen?_setCell]; with_reducible assumption) | go_simp
  replace b31 : w4.cell? ⟨w.heap.size + 1 + 1, 1, none⟩ = some (.slice efb5 (m + 1) dfb5) := by subst hW4; go_simp
  replace f_b31 : w4.frozen? ⟨w.heap.size + 1 + 1, 1, none⟩ = false := by subst hW4; first | (simp only [World.frozen?_setCell]; with_reducible assumption) | go_simp
  replace b70 := Kw4.cell (by omega) b70
  replace b71 := Kw4.cell (by omega) b71
  replace bf4 := bf4.chg Kw4 (by omega)
  clear Kw4
  have z_b1 : w.heap.size < w4.heap.size := qB b10
  have z_b2 : w.heap.size + 1 < w4.heap.size := qB b20
  have z_b3 : w.heap.size + 1 + 1 < w4.heap.size := qB b30
  have z_b7 : w1.heap.size < w4.heap.size := qB b70
  have s_w4 : w.heap.size ≤ w4.heap.size := Xw4.size
  clear hW4
  refine hK.out _ _ ⟨b70, b71⟩ (fun hHeld => ?_)
  clear hK K
  try simp only [Act.put, qa, qb, qc, qD, qE, qF]
  refine qHk (v := ?_) 8 rfl (.inl ⟨by rfl, ?_⟩) ?_
  rotate_left
  ·
   (intro w hSw; (try dsimp only at hSw); go_simp; try with_reducible rfl)
  try simp only [Act.put, qa, qb, qc, qD, qE, qF]
  refine wpAnyH_done qKr ?_ _
  clear hHeld hw8
  go_wp2_with fail
  refine bodyPost_ret (v := .tuple #[.agg #[.slice afb5 C2.length cfb5, .slice efb5 (m + 1) dfb5], .string (({ data := #[97, 116, 32] } : ByteArray) ++ tx9)]) (by simp only [results, Tryd.results16]; go_simp) rfl ?_
  exact ⟨_, _, C2, E2, _, rfl, (hok.out (by trivial)), .inl ⟨_, (bf4.ext qXt).lower (by omega)⟩, (Xw4.trans qXt)⟩

set_option maxHeartbeats 6400000 in
theorem apply_2 (cells : List Int) (es : List Exp) (cv ev : Value) (ns : List Int) (nv : Value) (w : World) (l1 l2 : Nat) (h1 : Ints w l1 cv cells) (h2 : Exps w l2 ev es) (hv : bufB cells es = true) (l3 : Nat) (h3 : Ints w l3 nv ns) (hl : 4 ≤ ns.length) :
  Calls Tryd.prog 16 #[.agg #[cv, ev], .agg #[.int .i64 2, nv]] w (PApp cv ev cells es w) := by
 obtain ⟨p0, c0, rfl⟩ := h1.form
 obtain ⟨p1, c1, rfl⟩ := h2.form
 have he1 := h2.len
 have hc1 := h1.len
 obtain ⟨pn, cn, rfl⟩ := h3.form
 have hl0 : 0 < ns.length := by omega
 have hl1 : 1 < ns.length := by omega
 have hl2 : 2 < ns.length := by omega
 have hl3 : 3 < ns.length := by omega
 replace hv := Lib.hid hv
 obtain ⟨C2, E2, O2, hX⟩ : ∃ C2 E2 O2, parA cells es (ns.getD 0 0) 0 (ns.getD 1 0) (ns.getD 2 0) (ns.getD 3 0) true true = (C2, E2, O2) := ⟨_, _, _, rfl⟩
 have hok : O2 = true → bufB C2 E2 = true := fun ho => by have h7 := parA_valid (h := (show (parA cells es (ns.getD 0 0) 0 (ns.getD 1 0) (ns.getD 2 0) (ns.getD 3 0) true true).2.2 = true by rw [hX]; exact ho)); rw [hX] at h7; exact h7
 replace hok := Lib.hid hok
 have hmx : O2 = true → ∃ m, E2.length = m + 1 ∧ m < 10 := fun ho => parA_more (by rw [hX, ho])
 replace hX := Lib.hid hX
 replace hmx := Lib.hid hmx
 cases O2
 ·
  go_enter Tryd.func16, Tryd.ntmps16
  go_wp2_with fail
  refine (pbx_eq hX.out (done_2 cells es _ _ ns _ _ _ _ (h1.ext qXt) (h2.ext qXt) _ (h3.ext qXt) (by omega))).mono ?_
  rintro e w1 ⟨cvfb5, evfb5, R6, rfl, bf4, xw1⟩
  have Lw1 : Ext w w1 := Ext.trans qXt xw1
  have Xw1 : Ext w w1 := Lw1
  have b10 : w1.cell? ⟨w.heap.size, 0, none⟩ = some (.slice p0 cells.length c0) := xw1.cell qCl
  have b11 : w1.cell? ⟨w.heap.size, 1, none⟩ = some (.slice p1 es.length c1) := xw1.cell qCl
  have b20 : w1.cell? ⟨w.heap.size + 1, 0, none⟩ = some (.int .i64 2) := xw1.cell qCl
  have b21 : w1.cell? ⟨w.heap.size + 1, 1, none⟩ = some (.slice pn ns.length cn) := xw1.cell qCl
  have b30 : w1.cell? ⟨w.heap.size + 1 + 1, 0, none⟩ = some (.slice none 0 0) := xw1.cell qCl
  have b31 : w1.cell? ⟨w.heap.size + 1 + 1, 1, none⟩ = some (.slice none 0 0) := xw1.cell qCl
  have f_b30 : w1.frozen? ⟨w.heap.size + 1 + 1, 0, none⟩ = false := xw1.frz (by simp <;> omega) qFz
  have f_b31 : w1.frozen? ⟨w.heap.size + 1 + 1, 1, none⟩ = false := xw1.frz (by simp <;> omega) qFz
  have z_b1 : w.heap.size < w1.heap.size := qB b10
  have z_b2 : w.heap.size + 1 < w1.heap.size := qB b20
  have z_b3 : w.heap.size + 1 + 1 < w1.heap.size := qB b30
  have s_w1 : w.heap.size ≤ w1.heap.size := Xw1.size
  clear xw1
  replace bf4 := bf4.lower (lo' := w.heap.size + 1 + 1 + 1) qSo
  obtain ⟨afb5, cfb5, rfl⟩ := bf4.ints.form
  obtain ⟨efb5, dfb5, rfl⟩ := bf4.exps.form
  have q_bf4 := Lib.hid bf4.at
  go_upto_region 2 with fail
  generalize hW5 : w1.alloc (.cells #[.slice afb5 C2.length cfb5, .slice efb5 E2.length dfb5] 34) = w2 at *
  have Lw2 : Ext w1 w2 := by subst hW5; exact qXt
  have Xw2 : Ext w w2 := Xw1.trans Lw2
  replace b10 := Lw2.cell b10
  replace b11 := Lw2.cell b11
  replace b20 := Lw2.cell b20
  replace b21 := Lw2.cell b21
  replace b30 := Lw2.cell b30
  replace b31 := Lw2.cell b31
  replace f_b30 := Lw2.frz z_b3 f_b30
  replace f_b31 := Lw2.frz z_b3 f_b31
  have b70 : w2.cell? ⟨w1.heap.size, 0, none⟩ = some (.slice afb5 C2.length cfb5) := by subst hW5; exact qCl
  have b71 : w2.cell? ⟨w1.heap.size, 1, none⟩ = some (.slice efb5 E2.length dfb5) := by subst hW5; exact qCl
  have z_b1 : w.heap.size < w2.heap.size := qB b10
  have z_b2 : w.heap.size + 1 < w2.heap.size := qB b20
  have z_b3 : w.heap.size + 1 + 1 < w2.heap.size := qB b30
  have z_b7 : w1.heap.size < w2.heap.size := qB b70
  replace bf4 := bf4.ext Lw2
  have s_w2 : w.heap.size ≤ w2.heap.size := Xw2.size
  clear hW5
  go_wp2_with fail
  generalize hW6 : ((w2.setCell ⟨w.heap.size + 1 + 1, 0, none⟩ (.slice p0 cells.length c0)).setCell ⟨w.heap.size + 1 + 1, 1, none⟩ (.slice p1 es.length c1)) = w3 at *
  have Kw3 : Chg (w.heap.size + 1 + 1) (w.heap.size + 1 + 1 + 1) w2 w3 := by subst hW6; exact qCh
  have Xw3 : Ext w w3 := by subst hW6; exact qXt
  replace b10 := Kw3.cell (by omega) b10
  replace b11 := Kw3.cell (by omega) b11
  replace b20 := Kw3.cell (by omega) b20
  replace b21 := Kw3.cell (by omega) b21
  replace b30 : w3.cell? ⟨w.heap.size + 1 + 1, 0, none⟩ = some (.slice p0 cells.length c0) := by subst hW6; go_simp
  replace f_b30 : w3.frozen? ⟨w.heap.size + 1 + 1, 0, none⟩ = false := by subst hW6; first | (simp only [World.frozen?_setCell]; with_reducible assumption) | go_simp
  replace b31 : w3.cell? ⟨w.heap.size + 1 + 1, 1, none⟩ = some (.slice p1 es.length c1) := by subst hW6; go_simp
  replace f_b31 : w3.frozen? ⟨w.heap.size + 1 + 1, 1, none⟩ = false := by subst hW6; first | (simp only [World.frozen?_setCell]; with_reducible assumption) | go_simp
  replace b70 := Kw3.cell (by omega) b70
  replace b71 := Kw3.cell (by omega) b71
  replace bf4 := bf4.chg Kw3 (by omega)
  clear Kw3
  have z_b1 : w.heap.size < w3.heap.size := qB b10
  have z_b2 : w.heap.size + 1 < w3.heap.size := qB b20
  have z_b3 : w.heap.size + 1 + 1 < w3.heap.size := qB b30
  have z_b7 : w1.heap.size < w3.heap.size := qB b70
  have s_w3 : w.heap.size ≤ w3.heap.size := Xw3.size
  clear hW6
  refine bodyPost_ret (v := .tuple #[.agg #[.slice p0 cells.length c0, .slice p1 es.length c1], Value.string { data := #[110, 111] }]) (by simp only [results, Tryd.results16]; go_simp) rfl ?_
  exact ⟨_, _, cells, es, _, rfl, hv.out, .inr ⟨rfl, rfl, rfl, rfl⟩, (Xw3.trans qXt)⟩
 ·
  obtain ⟨m, hm7, hm8⟩ := hmx.out (by trivial)
  have hwm : IntKind.i64.wrap (m : Int) = (m : Int) := IntWalk.i64_in _ (by omega)
  replace hm7 := Lib.hid hm7
  clear hmx
  go_enter Tryd.func16, Tryd.ntmps16
  go_wp2_with fail
  refine (pbx_eq hX.out (done_2 cells es _ _ ns _ _ _ _ (h1.ext qXt) (h2.ext qXt) _ (h3.ext qXt) (by omega))).mono ?_
  rintro e w1 ⟨cvfb5, evfb5, R6, rfl, bf4, xw1⟩
  have Lw1 : Ext w w1 := Ext.trans qXt xw1
  have Xw1 : Ext w w1 := Lw1
  have b10 : w1.cell? ⟨w.heap.size, 0, none⟩ = some (.slice p0 cells.length c0) := xw1.cell qCl
  have b11 : w1.cell? ⟨w.heap.size, 1, none⟩ = some (.slice p1 es.length c1) := xw1.cell qCl
  have b20 : w1.cell? ⟨w.heap.size + 1, 0, none⟩ = some (.int .i64 2) := xw1.cell qCl
  have b21 : w1.cell? ⟨w.heap.size + 1, 1, none⟩ = some (.slice pn ns.length cn) := xw1.cell qCl
  have b30 : w1.cell? ⟨w.heap.size + 1 + 1, 0, none⟩ = some (.slice none 0 0) := xw1.cell qCl
  have b31 : w1.cell? ⟨w.heap.size + 1 + 1, 1, none⟩ = some (.slice none 0 0) := xw1.cell qCl
  have f_b30 : w1.frozen? ⟨w.heap.size + 1 + 1, 0, none⟩ = false := xw1.frz (by simp <;> omega) qFz
  have f_b31 : w1.frozen? ⟨w.heap.size + 1 + 1, 1, none⟩ = false := xw1.frz (by simp <;> omega) qFz
  have z_b1 : w.heap.size < w1.heap.size := qB b10
  have z_b2 : w.heap.size + 1 < w1.heap.size := qB b20
  have z_b3 : w.heap.size + 1 + 1 < w1.heap.size := qB b30
  have s_w1 : w.heap.size ≤ w1.heap.size := Xw1.size
  clear xw1
  replace bf4 := bf4.lower (lo' := w.heap.size + 1 + 1 + 1) qSo
  obtain ⟨afb5, cfb5, rfl⟩ := bf4.ints.form
  obtain ⟨efb5, dfb5, hEfb5⟩ := bf4.exps.form
  rw [hm7.out] at hEfb5
  subst hEfb5
  have q_bf4 := Lib.hid bf4.at
  go_upto_region 2 with fail
  generalize hW7 : w1.alloc (.cells #[.slice afb5 C2.length cfb5, .slice efb5 (m + 1) dfb5] 34) = w2 at *
  have Lw2 : Ext w1 w2 := by subst hW7; exact qXt
  have Xw2 : Ext w w2 := Xw1.trans Lw2
  replace b10 := Lw2.cell b10
  replace b11 := Lw2.cell b11
  replace b20 := Lw2.cell b20
  replace b21 := Lw2.cell b21
  replace b30 := Lw2.cell b30
  replace b31 := Lw2.cell b31
  replace f_b30 := Lw2.frz z_b3 f_b30
  replace f_b31 := Lw2.frz z_b3 f_b31
  have b70 : w2.cell? ⟨w1.heap.size, 0, none⟩ = some (.slice afb5 C2.length cfb5) := by subst hW7; exact qCl
  have b71 : w2.cell? ⟨w1.heap.size, 1, none⟩ = some (.slice efb5 (m + 1) dfb5) := by subst hW7; exact qCl
  have z_b1 : w.heap.size < w2.heap.size := qB b10
  have z_b2 : w.heap.size + 1 < w2.heap.size := qB b20
  have z_b3 : w.heap.size + 1 + 1 < w2.heap.size := qB b30
  have z_b7 : w1.heap.size < w2.heap.size := qB b70
  replace bf4 := bf4.ext Lw2
  have s_w2 : w.heap.size ≤ w2.heap.size := Xw2.size
  clear hW7
  go_wp2_with fail
  refine wp_region_held_drew (S := fun w' => w'.cell? ⟨w1.heap.size, 0, none⟩ = some (.slice afb5 C2.length cfb5) ∧ w'.cell? ⟨w1.heap.size, 1, none⟩ = some (.slice efb5 (m + 1) dfb5)) qKr ⟨b70, b71⟩ (fun hHeld => ?_)
  refine qHk (v := ?_) 0 rfl (.inl ⟨by rfl, ?_⟩) ?_
  rotate_left
  ·
   (intro w hSw; (try dsimp only at hSw); go_simp; try with_reducible rfl)
  try simp only [Act.put, qa, qb, qc, qD, qE, qF]
  refine qHk (v := ?_) 1 rfl (.inl ⟨by rfl, ?_⟩) ?_
  rotate_left
  ·
   (intro w hSw; (try dsimp only at hSw); go_simp; try with_reducible rfl)
  try simp only [Act.put, qa, qb, qc, qD, qE, qF]
  refine qHk (v := ?_) 2 rfl (.inl ⟨by rfl, ?_⟩) ?_
  rotate_left
  ·
   (intro w hSw; (try dsimp only at hSw); go_simp; try with_reducible rfl)
  try simp only [Act.put, qa, qb, qc, qD, qE, qF]
  refine qHk (v := ?_) 3 rfl (.inl ⟨by rfl, ?_⟩) ?_
  rotate_left
  ·
   (intro w hSw; (try dsimp only at hSw); go_simp; try with_reducible rfl)
  try simp only [Act.put, qa, qb, qc, qD, qE, qF]
  have hw8 : IntKind.i64.wrap (((m + 1) : Int) - 1) = ((m + 1) : Int) - 1 := IntWalk.i64_in _ (by omega)
  refine qHk (v := ?_) 4 rfl (.inl ⟨by rfl, ?_⟩) ?_
  rotate_left
  ·
   (intro w hSw; (try dsimp only at hSw); go_simp; try with_reducible rfl)
  try simp only [Act.put, qa, qb, qc, qD, qE, qF]
  refine qHr 5 rfl (fun K hK => ?_)
  try simp only [Act.put, qa, qb, qc, qD, qE, qF]
  go_simp
  refine (num1_c m (by omega) _).mono ?_
  rintro e w3 ⟨tx9, rfl, hz_tx9, xw3⟩
  have Lw3 : Ext w2 w3 := Ext.trans qXt xw3
  have Xw3 : Ext w w3 := Xw2.trans Lw3
  replace b10 := Lw3.cell b10
  replace b11 := Lw3.cell b11
  replace b20 := Lw3.cell b20
  replace b21 := Lw3.cell b21
  replace b30 := Lw3.cell b30
  replace b31 := Lw3.cell b31
  replace f_b30 := Lw3.frz z_b3 f_b30
  replace f_b31 := Lw3.frz z_b3 f_b31
  replace b70 := Lw3.cell b70
  replace b71 := Lw3.cell b71
  have z_b1 : w.heap.size < w3.heap.size := qB b10
  have z_b2 : w.heap.size + 1 < w3.heap.size := qB b20
  have z_b3 : w.heap.size + 1 + 1 < w3.heap.size := qB b30
  have z_b7 : w1.heap.size < w3.heap.size := qB b70
  replace bf4 := bf4.ext Lw3
  have s_w3 : w.heap.size ≤ w3.heap.size := Xw3.size
  clear xw3
  have hy_tx9 : (tx9.size : Int) ≤ 8388608 := by omega
  have hv_tx9 : ¬ 9223372036854775807 < 3 + tx9.size := by omega
  refine hK.out _ _ ⟨b70, b71⟩ (fun hHeld => ?_)
  clear hK K
  try simp only [Act.put, qa, qb, qc, qD, qE, qF]
  refine qHk (v := ?_) 6 rfl (.inl ⟨by rfl, ?_⟩) ?_
  rotate_left
  ·
   (intro w hSw; (try dsimp only at hSw); go_simp; try with_reducible rfl)
  try simp only [Act.put, qa, qb, qc, qD, qE, qF]
  refine qHr 7 rfl (fun K hK => ?_)
  try simp only [Act.put, qa, qb, qc, qD, qE, qF]
  go_simp
  generalize hW8 : ((w3.setCell ⟨w.heap.size + 1 + 1, 0, none⟩ (.slice afb5 C2.length cfb5)).setCell ⟨w.heap.size + 1 + 1, 1, none⟩ (.slice efb5 (m + 1) dfb5)) = w4 at *
  have Kw4 : Chg (w.heap.size + 1 + 1) (w.heap.size + 1 + 1 + 1) w3 w4 := by subst hW8; exact qCh
  have Xw4 : Ext w w4 := by subst hW8; exact qXt
  replace b10 := Kw4.cell (by omega) b10
  replace b11 := Kw4.cell (by omega) b11
  replace b20 := Kw4.cell (by omega) b20
  replace b21 := Kw4.cell (by omega) b21
  replace b30 : w4.cell? ⟨w.heap.size + 1 + 1, 0, none⟩ = some (.slice afb5 C2.length cfb5) := by subst hW8; go_simp
  replace f_b30 : w4.frozen? ⟨w.heap.size + 1 + 1, 0, none⟩ = false := by subst hW8; first | (simp only [World.frozen?_setCell]; with_reducible assumption) | go_simp
  replace b31 : w4.cell? ⟨w.heap.size + 1 + 1, 1, none⟩ = some (.slice efb5 (m + 1) dfb5) := by subst hW8; go_simp
  replace f_b31 : w4.frozen? ⟨w.heap.size + 1 + 1, 1, none⟩ = false := by subst hW8; first | (simp only [World.frozen?_setCell]; with_reducible assumption) | go_simp
  replace b70 := Kw4.cell (by omega) b70
  replace b71 := Kw4.cell (by omega) b71
  replace bf4 := bf4.chg Kw4 (by omega)
  clear Kw4
  have z_b1 : w.heap.size < w4.heap.size := qB b10
  have z_b2 : w.heap.size + 1 < w4.heap.size := qB b20
  have z_b3 : w.heap.size + 1 + 1 < w4.heap.size := qB b30
  have z_b7 : w1.heap.size < w4.heap.size := qB b70
  have s_w4 : w.heap.size ≤ w4.heap.size := Xw4.size
  clear hW8
  refine hK.out _ _ ⟨b70, b71⟩ (fun hHeld => ?_)
  clear hK K
  try simp only [Act.put, qa, qb, qc, qD, qE, qF]
  refine qHk (v := ?_) 8 rfl (.inl ⟨by rfl, ?_⟩) ?_
  rotate_left
  ·
   (intro w hSw; (try dsimp only at hSw); go_simp; try with_reducible rfl)
  try simp only [Act.put, qa, qb, qc, qD, qE, qF]
  refine wpAnyH_done qKr ?_ _
  clear hHeld hw8
  go_wp2_with fail
  refine bodyPost_ret (v := .tuple #[.agg #[.slice afb5 C2.length cfb5, .slice efb5 (m + 1) dfb5], .string (({ data := #[97, 116, 32] } : ByteArray) ++ tx9)]) (by simp only [results, Tryd.results16]; go_simp) rfl ?_
  exact ⟨_, _, C2, E2, _, rfl, (hok.out (by trivial)), .inl ⟨_, (bf4.ext qXt).lower (by omega)⟩, (Xw4.trans qXt)⟩

set_option maxHeartbeats 6400000 in
theorem apply_3 (cells : List Int) (es : List Exp) (cv ev : Value) (ns : List Int) (nv : Value) (w : World) (l1 l2 : Nat) (h1 : Ints w l1 cv cells) (h2 : Exps w l2 ev es) (hv : bufB cells es = true) (l3 : Nat) (h3 : Ints w l3 nv ns) (hl : 1 ≤ ns.length) :
  Calls Tryd.prog 16 #[.agg #[cv, ev], .agg #[.int .i64 3, nv]] w (PApp cv ev cells es w) := by
 obtain ⟨p0, c0, rfl⟩ := h1.form
 obtain ⟨p1, c1, rfl⟩ := h2.form
 have he1 := h2.len
 have hc1 := h1.len
 obtain ⟨pn, cn, rfl⟩ := h3.form
 have hl0 : 0 < ns.length := by omega
 replace hv := Lib.hid hv
 obtain ⟨C2, E2, O2, hX⟩ : ∃ C2 E2 O2, parA cells es (ns.getD 0 0) 0 0 0 (-1) false false = (C2, E2, O2) := ⟨_, _, _, rfl⟩
 have hok : O2 = true → bufB C2 E2 = true := fun ho => by have h7 := parA_valid (h := (show (parA cells es (ns.getD 0 0) 0 0 0 (-1) false false).2.2 = true by rw [hX]; exact ho)); rw [hX] at h7; exact h7
 replace hok := Lib.hid hok
 have hmx : O2 = true → ∃ m, E2.length = m + 1 ∧ m < 10 := fun ho => parA_more (by rw [hX, ho])
 replace hX := Lib.hid hX
 replace hmx := Lib.hid hmx
 cases O2
 ·
  go_enter Tryd.func16, Tryd.ntmps16
  go_wp2_with fail
  refine (pbx_eq hX.out (done_3 cells es _ _ ns _ _ _ _ (h1.ext qXt) (h2.ext qXt) _ (h3.ext qXt) (by omega))).mono ?_
  rintro e w1 ⟨cvfb5, evfb5, R6, rfl, bf4, xw1⟩
  have Lw1 : Ext w w1 := Ext.trans qXt xw1
  have Xw1 : Ext w w1 := Lw1
  have b10 : w1.cell? ⟨w.heap.size, 0, none⟩ = some (.slice p0 cells.length c0) := xw1.cell qCl
  have b11 : w1.cell? ⟨w.heap.size, 1, none⟩ = some (.slice p1 es.length c1) := xw1.cell qCl
  have b20 : w1.cell? ⟨w.heap.size + 1, 0, none⟩ = some (.int .i64 3) := xw1.cell qCl
  have b21 : w1.cell? ⟨w.heap.size + 1, 1, none⟩ = some (.slice pn ns.length cn) := xw1.cell qCl
  have b30 : w1.cell? ⟨w.heap.size + 1 + 1, 0, none⟩ = some (.slice none 0 0) := xw1.cell qCl
  have b31 : w1.cell? ⟨w.heap.size + 1 + 1, 1, none⟩ = some (.slice none 0 0) := xw1.cell qCl
  have f_b30 : w1.frozen? ⟨w.heap.size + 1 + 1, 0, none⟩ = false := xw1.frz (by simp <;> omega) qFz
  have f_b31 : w1.frozen? ⟨w.heap.size + 1 + 1, 1, none⟩ = false := xw1.frz (by simp <;> omega) qFz
  have z_b1 : w.heap.size < w1.heap.size := qB b10
  have z_b2 : w.heap.size + 1 < w1.heap.size := qB b20
  have z_b3 : w.heap.size + 1 + 1 < w1.heap.size := qB b30
  have s_w1 : w.heap.size ≤ w1.heap.size := Xw1.size
  clear xw1
  replace bf4 := bf4.lower (lo' := w.heap.size + 1 + 1 + 1) qSo
  obtain ⟨afb5, cfb5, rfl⟩ := bf4.ints.form
  obtain ⟨efb5, dfb5, rfl⟩ := bf4.exps.form
  have q_bf4 := Lib.hid bf4.at
  go_upto_region 2 with fail
  generalize hW9 : w1.alloc (.cells #[.slice afb5 C2.length cfb5, .slice efb5 E2.length dfb5] 34) = w2 at *
  have Lw2 : Ext w1 w2 := by subst hW9; exact qXt
  have Xw2 : Ext w w2 := Xw1.trans Lw2
  replace b10 := Lw2.cell b10
  replace b11 := Lw2.cell b11
  replace b20 := Lw2.cell b20
  replace b21 := Lw2.cell b21
  replace b30 := Lw2.cell b30
  replace b31 := Lw2.cell b31
  replace f_b30 := Lw2.frz z_b3 f_b30
  replace f_b31 := Lw2.frz z_b3 f_b31
  have b70 : w2.cell? ⟨w1.heap.size, 0, none⟩ = some (.slice afb5 C2.length cfb5) := by subst hW9; exact qCl
  have b71 : w2.cell? ⟨w1.heap.size, 1, none⟩ = some (.slice efb5 E2.length dfb5) := by subst hW9; exact qCl
  have z_b1 : w.heap.size < w2.heap.size := qB b10
  have z_b2 : w.heap.size + 1 < w2.heap.size := qB b20
  have z_b3 : w.heap.size + 1 + 1 < w2.heap.size := qB b30
  have z_b7 : w1.heap.size < w2.heap.size := qB b70
  replace bf4 := bf4.ext Lw2
  have s_w2 : w.heap.size ≤ w2.heap.size := Xw2.size
  clear hW9
  go_wp2_with fail
  generalize hW10 : ((w2.setCell ⟨w.heap.size + 1 + 1, 0, none⟩ (.slice p0 cells.length c0)).setCell ⟨w.heap.size + 1 + 1, 1, none⟩ (.slice p1 es.length c1)) = w3 at *
  have Kw3 : Chg (w.heap.size + 1 + 1) (w.heap.size + 1 + 1 + 1) w2 w3 := by subst hW10; exact qCh
  have Xw3 : Ext w w3 := by subst hW10; exact qXt
  replace b10 := Kw3.cell (by omega) b10
  replace b11 := Kw3.cell (by omega) b11
  replace b20 := Kw3.cell (by omega) b20
  replace b21 := Kw3.cell (by omega) b21
  replace b30 : w3.cell? ⟨w.heap.size + 1 + 1, 0, none⟩ = some (.slice p0 cells.length c0) := by subst hW10; go_simp
  replace f_b30 : w3.frozen? ⟨w.heap.size + 1 + 1, 0, none⟩ = false := by subst hW10; first | (simp only [World.frozen?_setCell]; with_reducible assumption) | go_simp
  replace b31 : w3.cell? ⟨w.heap.size + 1 + 1, 1, none⟩ = some (.slice p1 es.length c1) := by subst hW10; go_simp
  replace f_b31 : w3.frozen? ⟨w.heap.size + 1 + 1, 1, none⟩ = false := by subst hW10; first | (simp only [World.frozen?_setCell]; with_reducible assumption) | go_simp
  replace b70 := Kw3.cell (by omega) b70
  replace b71 := Kw3.cell (by omega) b71
  replace bf4 := bf4.chg Kw3 (by omega)
  clear Kw3
  have z_b1 : w.heap.size < w3.heap.size := qB b10
  have z_b2 : w.heap.size + 1 < w3.heap.size := qB b20
  have z_b3 : w.heap.size + 1 + 1 < w3.heap.size := qB b30
  have z_b7 : w1.heap.size < w3.heap.size := qB b70
  have s_w3 : w.heap.size ≤ w3.heap.size := Xw3.size
  clear hW10
  refine bodyPost_ret (v := .tuple #[.agg #[.slice p0 cells.length c0, .slice p1 es.length c1], Value.string { data := #[110, 111] }]) (by simp only [results, Tryd.results16]; go_simp) rfl ?_
  exact ⟨_, _, cells, es, _, rfl, hv.out, .inr ⟨rfl, rfl, rfl, rfl⟩, (Xw3.trans qXt)⟩
 ·
  obtain ⟨m, hm7, hm8⟩ := hmx.out (by trivial)
  have hwm : IntKind.i64.wrap (m : Int) = (m : Int) := IntWalk.i64_in _ (by omega)
  replace hm7 := Lib.hid hm7
  clear hmx
  go_enter Tryd.func16, Tryd.ntmps16
  go_wp2_with fail
  refine (pbx_eq hX.out (done_3 cells es _ _ ns _ _ _ _ (h1.ext qXt) (h2.ext qXt) _ (h3.ext qXt) (by omega))).mono ?_
  rintro e w1 ⟨cvfb5, evfb5, R6, rfl, bf4, xw1⟩
  have Lw1 : Ext w w1 := Ext.trans qXt xw1
  have Xw1 : Ext w w1 := Lw1
  have b10 : w1.cell? ⟨w.heap.size, 0, none⟩ = some (.slice p0 cells.length c0) := xw1.cell qCl
  have b11 : w1.cell? ⟨w.heap.size, 1, none⟩ = some (.slice p1 es.length c1) := xw1.cell qCl
  have b20 : w1.cell? ⟨w.heap.size + 1, 0, none⟩ = some (.int .i64 3) := xw1.cell qCl
  have b21 : w1.cell? ⟨w.heap.size + 1, 1, none⟩ = some (.slice pn ns.length cn) := xw1.cell qCl
  have b30 : w1.cell? ⟨w.heap.size + 1 + 1, 0, none⟩ = some (.slice none 0 0) := xw1.cell qCl
  have b31 : w1.cell? ⟨w.heap.size + 1 + 1, 1, none⟩ = some (.slice none 0 0) := xw1.cell qCl
  have f_b30 : w1.frozen? ⟨w.heap.size + 1 + 1, 0, none⟩ = false := xw1.frz (by simp <;> omega) qFz
  have f_b31 : w1.frozen? ⟨w.heap.size + 1 + 1, 1, none⟩ = false := xw1.frz (by simp <;> omega) qFz
  have z_b1 : w.heap.size < w1.heap.size := qB b10
  have z_b2 : w.heap.size + 1 < w1.heap.size := qB b20
  have z_b3 : w.heap.size + 1 + 1 < w1.heap.size := qB b30
  have s_w1 : w.heap.size ≤ w1.heap.size := Xw1.size
  clear xw1
  replace bf4 := bf4.lower (lo' := w.heap.size + 1 + 1 + 1) qSo
  obtain ⟨afb5, cfb5, rfl⟩ := bf4.ints.form
  obtain ⟨efb5, dfb5, hEfb5⟩ := bf4.exps.form
  rw [hm7.out] at hEfb5
  subst hEfb5
  have q_bf4 := Lib.hid bf4.at
  go_upto_region 2 with fail
  generalize hW11 : w1.alloc (.cells #[.slice afb5 C2.length cfb5, .slice efb5 (m + 1) dfb5] 34) = w2 at *
  have Lw2 : Ext w1 w2 := by subst hW11; exact qXt
  have Xw2 : Ext w w2 := Xw1.trans Lw2
  replace b10 := Lw2.cell b10
  replace b11 := Lw2.cell b11
  replace b20 := Lw2.cell b20
  replace b21 := Lw2.cell b21
  replace b30 := Lw2.cell b30
  replace b31 := Lw2.cell b31
  replace f_b30 := Lw2.frz z_b3 f_b30
  replace f_b31 := Lw2.frz z_b3 f_b31
  have b70 : w2.cell? ⟨w1.heap.size, 0, none⟩ = some (.slice afb5 C2.length cfb5) := by subst hW11; exact qCl
  have b71 : w2.cell? ⟨w1.heap.size, 1, none⟩ = some (.slice efb5 (m + 1) dfb5) := by subst hW11; exact qCl
  have z_b1 : w.heap.size < w2.heap.size := qB b10
  have z_b2 : w.heap.size + 1 < w2.heap.size := qB b20
  have z_b3 : w.heap.size + 1 + 1 < w2.heap.size := qB b30
  have z_b7 : w1.heap.size < w2.heap.size := qB b70
  replace bf4 := bf4.ext Lw2
  have s_w2 : w.heap.size ≤ w2.heap.size := Xw2.size
  clear hW11
  go_wp2_with fail
  refine wp_region_held_drew (S := fun w' => w'.cell? ⟨w1.heap.size, 0, none⟩ = some (.slice afb5 C2.length cfb5) ∧ w'.cell? ⟨w1.heap.size, 1, none⟩ = some (.slice efb5 (m + 1) dfb5)) qKr ⟨b70, b71⟩ (fun hHeld => ?_)
  refine qHk (v := ?_) 0 rfl (.inl ⟨by rfl, ?_⟩) ?_
  rotate_left
  ·
   (intro w hSw; (try dsimp only at hSw); go_simp; try with_reducible rfl)
  try simp only [Act.put, qa, qb, qc, qD, qE, qF]
  refine qHk (v := ?_) 1 rfl (.inl ⟨by rfl, ?_⟩) ?_
  rotate_left
  ·
   (intro w hSw; (try dsimp only at hSw); go_simp; try with_reducible rfl)
  try simp only [Act.put, qa, qb, qc, qD, qE, qF]
  refine qHk (v := ?_) 2 rfl (.inl ⟨by rfl, ?_⟩) ?_
  rotate_left
  ·
   (intro w hSw; (try dsimp only at hSw); go_simp; try with_reducible rfl)
  try simp only [Act.put, qa, qb, qc, qD, qE, qF]
  refine qHk (v := ?_) 3 rfl (.inl ⟨by rfl, ?_⟩) ?_
  rotate_left
  ·
   (intro w hSw; (try dsimp only at hSw); go_simp; try with_reducible rfl)
  try simp only [Act.put, qa, qb, qc, qD, qE, qF]
  have hw8 : IntKind.i64.wrap (((m + 1) : Int) - 1) = ((m + 1) : Int) - 1 := IntWalk.i64_in _ (by omega)
  refine qHk (v := ?_) 4 rfl (.inl ⟨by rfl, ?_⟩) ?_
  rotate_left
  ·
   (intro w hSw; (try dsimp only at hSw); go_simp; try with_reducible rfl)
  try simp only [Act.put, qa, qb, qc, qD, qE, qF]
  refine qHr 5 rfl (fun K hK => ?_)
  try simp only [Act.put, qa, qb, qc, qD, qE, qF]
  go_simp
  refine (num1_c m (by omega) _).mono ?_
  rintro e w3 ⟨tx9, rfl, hz_tx9, xw3⟩
  have Lw3 : Ext w2 w3 := Ext.trans qXt xw3
  have Xw3 : Ext w w3 := Xw2.trans Lw3
  replace b10 := Lw3.cell b10
  replace b11 := Lw3.cell b11
  replace b20 := Lw3.cell b20
  replace b21 := Lw3.cell b21
  replace b30 := Lw3.cell b30
  replace b31 := Lw3.cell b31
  replace f_b30 := Lw3.frz z_b3 f_b30
  replace f_b31 := Lw3.frz z_b3 f_b31
  replace b70 := Lw3.cell b70
  replace b71 := Lw3.cell b71
  have z_b1 : w.heap.size < w3.heap.size := qB b10
  have z_b2 : w.heap.size + 1 < w3.heap.size := qB b20
  have z_b3 : w.heap.size + 1 + 1 < w3.heap.size := qB b30
  have z_b7 : w1.heap.size < w3.heap.size := qB b70
  replace bf4 := bf4.ext Lw3
  have s_w3 : w.heap.size ≤ w3.heap.size := Xw3.size
  clear xw3
  have hy_tx9 : (tx9.size : Int) ≤ 8388608 := by omega
  have hv_tx9 : ¬ 9223372036854775807 < 3 + tx9.size := by omega
  refine hK.out _ _ ⟨b70, b71⟩ (fun hHeld => ?_)
  clear hK K
  try simp only [Act.put, qa, qb, qc, qD, qE, qF]
  refine qHk (v := ?_) 6 rfl (.inl ⟨by rfl, ?_⟩) ?_
  rotate_left
  ·
   (intro w hSw; (try dsimp only at hSw); go_simp; try with_reducible rfl)
  try simp only [Act.put, qa, qb, qc, qD, qE, qF]
  refine qHr 7 rfl (fun K hK => ?_)
  try simp only [Act.put, qa, qb, qc, qD, qE, qF]
  go_simp
  generalize hW12 : ((w3.setCell ⟨w.heap.size + 1 + 1, 0, none⟩ (.slice afb5 C2.length cfb5)).setCell ⟨w.heap.size + 1 + 1, 1, none⟩ (.slice efb5 (m + 1) dfb5)) = w4 at *
  have Kw4 : Chg (w.heap.size + 1 + 1) (w.heap.size + 1 + 1 + 1) w3 w4 := by subst hW12; exact qCh
  have Xw4 : Ext w w4 := by subst hW12; exact qXt
  replace b10 := Kw4.cell (by omega) b10
  replace b11 := Kw4.cell (by omega) b11
  replace b20 := Kw4.cell (by omega) b20
  replace b21 := Kw4.cell (by omega) b21
  replace b30 : w4.cell? ⟨w.heap.size + 1 + 1, 0, none⟩ = some (.slice afb5 C2.length cfb5) := by subst hW12; go_simp
  replace f_b30 : w4.frozen? ⟨w.heap.size + 1 + 1, 0, none⟩ = false := by subst hW12; first | (simp only [World.frozen?_setCell]; with_reducible assumption) | go_simp
  replace b31 : w4.cell? ⟨w.heap.size + 1 + 1, 1, none⟩ = some (.slice efb5 (m + 1) dfb5) := by subst hW12; go_simp
  replace f_b31 : w4.frozen? ⟨w.heap.size + 1 + 1, 1, none⟩ = false := by subst hW12; first | (simp only [World.frozen?_setCell]; with_reducible assumption) | go_simp
  replace b70 := Kw4.cell (by omega) b70
  replace b71 := Kw4.cell (by omega) b71
  replace bf4 := bf4.chg Kw4 (by omega)
  clear Kw4
  have z_b1 : w.heap.size < w4.heap.size := qB b10
  have z_b2 : w.heap.size + 1 < w4.heap.size := qB b20
  have z_b3 : w.heap.size + 1 + 1 < w4.heap.size := qB b30
  have z_b7 : w1.heap.size < w4.heap.size := qB b70
  have s_w4 : w.heap.size ≤ w4.heap.size := Xw4.size
  clear hW12
  refine hK.out _ _ ⟨b70, b71⟩ (fun hHeld => ?_)
  clear hK K
  try simp only [Act.put, qa, qb, qc, qD, qE, qF]
  refine qHk (v := ?_) 8 rfl (.inl ⟨by rfl, ?_⟩) ?_
  rotate_left
  ·
   (intro w hSw; (try dsimp only at hSw); go_simp; try with_reducible rfl)
  try simp only [Act.put, qa, qb, qc, qD, qE, qF]
  refine wpAnyH_done qKr ?_ _
  clear hHeld hw8
  go_wp2_with fail
  refine bodyPost_ret (v := .tuple #[.agg #[.slice afb5 C2.length cfb5, .slice efb5 (m + 1) dfb5], .string (({ data := #[97, 116, 32] } : ByteArray) ++ tx9)]) (by simp only [results, Tryd.results16]; go_simp) rfl ?_
  exact ⟨_, _, C2, E2, _, rfl, (hok.out (by trivial)), .inl ⟨_, (bf4.ext qXt).lower (by omega)⟩, (Xw4.trans qXt)⟩


end Go.Proofs.YtgklaobfikbiiaaDoor

/- Walks: acts of the reference, with answers. -/
namespace Go.Proofs.YtgklaobfikbiiaaDoor
open Go.RowKit
set_option linter.unusedVariables false
set_option maxRecDepth 100000

set_option maxHeartbeats 6400000 in
theorem apply_6 (cells : List Int) (es : List Exp) (cv ev : Value) (ns : List Int) (nv : Value) (w : World) (l1 l2 : Nat) (h1 : Ints w l1 cv cells) (h2 : Exps w l2 ev es) (hv : bufB cells es = true) (l3 : Nat) (h3 : Ints w l3 nv ns) (hl : 1 ≤ ns.length) :
  Calls Tryd.prog 16 #[.agg #[cv, ev], .agg #[.int .i64 6, nv]] w (PApp cv ev cells es w) := by
 obtain ⟨p0, c0, rfl⟩ := h1.form
 obtain ⟨p1, c1, rfl⟩ := h2.form
 have he1 := h2.len
 have hc1 := h1.len
 obtain ⟨pn, cn, rfl⟩ := h3.form
 have hl0 : 0 < ns.length := by omega
 replace hv := Lib.hid hv
 obtain ⟨O2, hX⟩ : ∃ O2, opB es (ns.getD 0 0) = O2 := ⟨_, rfl⟩
 replace hX := Lib.hid hX
 cases O2
 ·
  go_enter Tryd.func16, Tryd.ntmps16
  go_wp2_with fail
  refine (done_6 cells es _ _ ns _ _ _ _ (h1.ext qXt) (h2.ext qXt) _ (h3.ext qXt) hl).mono ?_
  rintro e w1 ⟨rfl, xw1⟩
  have Lw1 : Ext w w1 := Ext.trans qXt xw1
  have Xw1 : Ext w w1 := Lw1
  have b10 : w1.cell? ⟨w.heap.size, 0, none⟩ = some (.slice p0 cells.length c0) := xw1.cell qCl
  have b11 : w1.cell? ⟨w.heap.size, 1, none⟩ = some (.slice p1 es.length c1) := xw1.cell qCl
  have b20 : w1.cell? ⟨w.heap.size + 1, 0, none⟩ = some (.int .i64 6) := xw1.cell qCl
  have b21 : w1.cell? ⟨w.heap.size + 1, 1, none⟩ = some (.slice pn ns.length cn) := xw1.cell qCl
  have b30 : w1.cell? ⟨w.heap.size + 1 + 1, 0, none⟩ = some (.slice none 0 0) := xw1.cell qCl
  have b31 : w1.cell? ⟨w.heap.size + 1 + 1, 1, none⟩ = some (.slice none 0 0) := xw1.cell qCl
  have f_b30 : w1.frozen? ⟨w.heap.size + 1 + 1, 0, none⟩ = false := xw1.frz (by simp <;> omega) qFz
  have f_b31 : w1.frozen? ⟨w.heap.size + 1 + 1, 1, none⟩ = false := xw1.frz (by simp <;> omega) qFz
  have z_b1 : w.heap.size < w1.heap.size := qB b10
  have z_b2 : w.heap.size + 1 < w1.heap.size := qB b20
  have z_b3 : w.heap.size + 1 + 1 < w1.heap.size := qB b30
  have s_w1 : w.heap.size ≤ w1.heap.size := Xw1.size
  clear xw1
  rw [hX.out]
  go_upto_region 2 with fail
  generalize hW1 : w1.alloc (.cells #[.slice p0 cells.length c0, .slice p1 es.length c1] 34) = w2 at *
  have Lw2 : Ext w1 w2 := by subst hW1; exact qXt
  have Xw2 : Ext w w2 := Xw1.trans Lw2
  replace b10 := Lw2.cell b10
  replace b11 := Lw2.cell b11
  replace b20 := Lw2.cell b20
  replace b21 := Lw2.cell b21
  replace b30 := Lw2.cell b30
  replace b31 := Lw2.cell b31
  replace f_b30 := Lw2.frz z_b3 f_b30
  replace f_b31 := Lw2.frz z_b3 f_b31
  have b40 : w2.cell? ⟨w1.heap.size, 0, none⟩ = some (.slice p0 cells.length c0) := by subst hW1; exact qCl
  have b41 : w2.cell? ⟨w1.heap.size, 1, none⟩ = some (.slice p1 es.length c1) := by subst hW1; exact qCl
  have z_b1 : w.heap.size < w2.heap.size := qB b10
  have z_b2 : w.heap.size + 1 < w2.heap.size := qB b20
  have z_b3 : w.heap.size + 1 + 1 < w2.heap.size := qB b30
  have z_b4 : w1.heap.size < w2.heap.size := qB b40
  have s_w2 : w.heap.size ≤ w2.heap.size := Xw2.size
  clear hW1
  go_wp2_with fail
  generalize hW2 : ((w2.setCell ⟨w.heap.size + 1 + 1, 0, none⟩ (.slice p0 cells.length c0)).setCell ⟨w.heap.size + 1 + 1, 1, none⟩ (.slice p1 es.length c1)) = w3 at *
  have Kw3 : Chg (w.heap.size + 1 + 1) (w.heap.size + 1 + 1 + 1) w2 w3 := by subst hW2; exact qCh
  have Xw3 : Ext w w3 := by subst hW2; exact qXt
  replace b10 := Kw3.cell (by omega) b10
  replace b11 := Kw3.cell (by omega) b11
  replace b20 := Kw3.cell (by omega) b20
  replace b21 := Kw3.cell (by omega) b21
  replace b30 : w3.cell? ⟨w.heap.size + 1 + 1, 0, none⟩ = some (.slice p0 cells.length c0) := by subst hW2; go_simp
  replace f_b30 : w3.frozen? ⟨w.heap.size + 1 + 1, 0, none⟩ = false := by subst hW2; first | (simp only [World.frozen?_setCell]; with_reducible assumption) | go_simp
  replace b31 : w3.cell? ⟨w.heap.size + 1 + 1, 1, none⟩ = some (.slice p1 es.length c1) := by subst hW2; go_simp
  replace f_b31 : w3.frozen? ⟨w.heap.size + 1 + 1, 1, none⟩ = false := by subst hW2; first | (simp only [World.frozen?_setCell]; with_reducible assumption) | go_simp
  replace b40 := Kw3.cell (by omega) b40
  replace b41 := Kw3.cell (by omega) b41
  clear Kw3
  have z_b1 : w.heap.size < w3.heap.size := qB b10
  have z_b2 : w.heap.size + 1 < w3.heap.size := qB b20
  have z_b3 : w.heap.size + 1 + 1 < w3.heap.size := qB b30
  have z_b4 : w1.heap.size < w3.heap.size := qB b40
  have s_w3 : w.heap.size ≤ w3.heap.size := Xw3.size
  clear hW2
  refine bodyPost_ret (v := .tuple #[.agg #[.slice p0 cells.length c0, .slice p1 es.length c1], Value.string { data := #[110, 111] }]) (by simp only [results, Tryd.results16]; go_simp) rfl ?_
  exact ⟨_, _, cells, es, _, rfl, hv.out, .inr ⟨rfl, rfl, rfl, rfl⟩, (Xw3.trans qXt)⟩
 ·
  go_enter Tryd.func16, Tryd.ntmps16
  go_wp2_with fail
  refine (done_6 cells es _ _ ns _ _ _ _ (h1.ext qXt) (h2.ext qXt) _ (h3.ext qXt) hl).mono ?_
  rintro e w1 ⟨rfl, xw1⟩
  have Lw1 : Ext w w1 := Ext.trans qXt xw1
  have Xw1 : Ext w w1 := Lw1
  have b10 : w1.cell? ⟨w.heap.size, 0, none⟩ = some (.slice p0 cells.length c0) := xw1.cell qCl
  have b11 : w1.cell? ⟨w.heap.size, 1, none⟩ = some (.slice p1 es.length c1) := xw1.cell qCl
  have b20 : w1.cell? ⟨w.heap.size + 1, 0, none⟩ = some (.int .i64 6) := xw1.cell qCl
  have b21 : w1.cell? ⟨w.heap.size + 1, 1, none⟩ = some (.slice pn ns.length cn) := xw1.cell qCl
  have b30 : w1.cell? ⟨w.heap.size + 1 + 1, 0, none⟩ = some (.slice none 0 0) := xw1.cell qCl
  have b31 : w1.cell? ⟨w.heap.size + 1 + 1, 1, none⟩ = some (.slice none 0 0) := xw1.cell qCl
  have f_b30 : w1.frozen? ⟨w.heap.size + 1 + 1, 0, none⟩ = false := xw1.frz (by simp <;> omega) qFz
  have f_b31 : w1.frozen? ⟨w.heap.size + 1 + 1, 1, none⟩ = false := xw1.frz (by simp <;> omega) qFz
  have z_b1 : w.heap.size < w1.heap.size := qB b10
  have z_b2 : w.heap.size + 1 < w1.heap.size := qB b20
  have z_b3 : w.heap.size + 1 + 1 < w1.heap.size := qB b30
  have s_w1 : w.heap.size ≤ w1.heap.size := Xw1.size
  clear xw1
  rw [hX.out]
  go_upto_region 2 with fail
  generalize hW3 : w1.alloc (.cells #[.slice p0 cells.length c0, .slice p1 es.length c1] 34) = w2 at *
  have Lw2 : Ext w1 w2 := by subst hW3; exact qXt
  have Xw2 : Ext w w2 := Xw1.trans Lw2
  replace b10 := Lw2.cell b10
  replace b11 := Lw2.cell b11
  replace b20 := Lw2.cell b20
  replace b21 := Lw2.cell b21
  replace b30 := Lw2.cell b30
  replace b31 := Lw2.cell b31
  replace f_b30 := Lw2.frz z_b3 f_b30
  replace f_b31 := Lw2.frz z_b3 f_b31
  have b40 : w2.cell? ⟨w1.heap.size, 0, none⟩ = some (.slice p0 cells.length c0) := by subst hW3; exact qCl
  have b41 : w2.cell? ⟨w1.heap.size, 1, none⟩ = some (.slice p1 es.length c1) := by subst hW3; exact qCl
  have z_b1 : w.heap.size < w2.heap.size := qB b10
  have z_b2 : w.heap.size + 1 < w2.heap.size := qB b20
  have z_b3 : w.heap.size + 1 + 1 < w2.heap.size := qB b30
  have z_b4 : w1.heap.size < w2.heap.size := qB b40
  have s_w2 : w.heap.size ≤ w2.heap.size := Xw2.size
  clear hW3
  go_wp2_with fail
  have hI_e7 : (0 : Int) < (ns.length : Int) := by have hB7 : 0 < ns.length := (by omega); omega
  obtain ⟨bl5, ol6, rfl, e70⟩ := h3.at 0 (by omega)
  rw [Nat.add_zero] at e70
  have y_e7 : bl5 < w.heap.size := qB e70
  replace e70 := Xw2.cell e70
  obtain ⟨v8, hv8⟩ : ∃ v, ns.getD 0 0 = v := ⟨_, rfl⟩
  rw [hv8] at e70
  replace hv8 := Lib.hid hv8
  have z_e7 : bl5 < w2.heap.size := qB e70
  have hoq : opB es v8 = true := by rw [← hv8.out]; exact hX.out
  obtain ⟨hi0, hi1, hi2⟩ := opB_in hoq
  replace hoq := Lib.hid hoq
  obtain ⟨k, hkv⟩ : ∃ k : Nat, v8 = k := ⟨v8.toNat, by omega⟩
  subst hkv
  have hlt : k < es.length := by omega
  replace hi2 := Lib.hid hi2
  have hN_x9 : k < es.length := hlt
  have hI_x9 : (k : Int) < (es.length : Int) := by omega
  obtain ⟨bl22, ol23, u16, c17, u18, c19, rfl, x90, x91, x92, x93, x94, i20, i21⟩ := h2.at k hN_x9
  obtain ⟨X15, hX15⟩ : ∃ x, expAt es k = x := ⟨_, rfl⟩
  rw [hX15] at x90 x91 x92 x93 x94 i20 i21
  obtain ⟨P10, B11, S12, T13, O14⟩ := X15
  dsimp only at x90 x91 x92 x93 x94 i20 i21
  replace hX15 := Lib.hid hX15
  have hLS12 := i20.len
  have hLT13 := i21.len
  have y_x9 : bl22 < w.heap.size := qB x90
  replace x90 := Xw2.cell x90
  replace x91 := Xw2.cell x91
  replace x92 := Xw2.cell x92
  replace x93 := Xw2.cell x93
  replace x94 := Xw2.cell x94
  have z_x9 : bl22 < w2.heap.size := qB x90
  have hh7 : Hid (holdB cells B11 S12 T13 = true) := Lib.hid (by have h7 := open_holds hv.out hoq.out; rw [Int.toNat_natCast, hX15.out] at h7; exact h7)
  have hx7 : Hid (∀ x ∈ loadL cells B11 S12 T13, 0 ≤ x ∧ x ≤ 255) := Lib.hid (load_mem hh7.out)
  have hl7 : (loadL cells B11 S12 T13).length ≤ 60 := load_len hh7.out
  go_wp2_with fail
  refine wp_region_held_drew (S := fun w' => w'.cell? ⟨w.heap.size, 0, none⟩ = some (.slice p0 cells.length c0) ∧ w'.cell? ⟨w.heap.size, 1, none⟩ = some (.slice (some ⟨bl22, ol23, none⟩) es.length c1) ∧ w'.cell? ⟨w.heap.size + 1, 1, none⟩ = some (.slice (some ⟨bl5, ol6, none⟩) ns.length cn) ∧ w'.cell? ⟨bl5, ol6, none⟩ = some (.int .i64 (k : Int)) ∧ w'.cell? ⟨bl22, ol23 + k * 5 + 1, none⟩ = some (.int .i64 B11) ∧ w'.cell? ⟨bl22, ol23 + k * 5 + 2, none⟩ = some (.slice u16 S12.length c17) ∧ w'.cell? ⟨bl22, ol23 + k * 5 + 3, none⟩ = some (.slice u18 T13.length c19)) qKr ⟨b10, b11, b21, e70, x91, x92, x93⟩ (fun hHeld => ?_)
  refine qHk (v := ?_) 0 rfl (.inl ⟨by rfl, ?_⟩) ?_
  rotate_left
  ·
   (intro w hSw; (try dsimp only at hSw); go_simp; try with_reducible rfl)
  try simp only [Act.put, qa, qb, qc, qD, qE, qF]
  refine qHk (v := ?_) 1 rfl (.inl ⟨by rfl, ?_⟩) ?_
  rotate_left
  ·
   (intro w hSw; (try dsimp only at hSw); go_simp; try with_reducible rfl)
  try simp only [Act.put, qa, qb, qc, qD, qE, qF]
  refine qHk (v := ?_) 2 rfl (.inl ⟨by rfl, ?_⟩) ?_
  rotate_left
  ·
   (intro w hSw; (try dsimp only at hSw); go_simp; try with_reducible rfl)
  try simp only [Act.put, qa, qb, qc, qD, qE, qF]
  refine qHk (v := ?_) 3 rfl (.inl ⟨by rfl, ?_⟩) ?_
  rotate_left
  ·
   (intro w hSw; (try dsimp only at hSw); go_simp; try with_reducible rfl)
  try simp only [Act.put, qa, qb, qc, qD, qE, qF]
  refine qHk (v := ?_) 4 rfl (.inl ⟨by rfl, ?_⟩) ?_
  rotate_left
  ·
   (intro w hSw; (try dsimp only at hSw); go_simp; try with_reducible rfl)
  try simp only [Act.put, qa, qb, qc, qD, qE, qF]
  refine qHk (v := ?_) 5 rfl (.inl ⟨by rfl, ?_⟩) ?_
  rotate_left
  ·
   (intro w hSw; (try dsimp only at hSw); go_simp; try with_reducible rfl)
  try simp only [Act.put, qa, qb, qc, qD, qE, qF]
  refine qHk (v := ?_) 6 rfl (.inl ⟨by rfl, ?_⟩) ?_
  rotate_left
  ·
   (intro w hSw; (try dsimp only at hSw); go_simp; try with_reducible rfl)
  try simp only [Act.put, qa, qb, qc, qD, qE, qF]
  refine qHk (v := ?_) 7 rfl (.inl ⟨by rfl, ?_⟩) ?_
  rotate_left
  ·
   (intro w hSw; (try dsimp only at hSw); go_simp; try with_reducible rfl)
  try simp only [Act.put, qa, qb, qc, qD, qE, qF]
  refine qHk (v := ?_) 8 rfl (.inl ⟨by rfl, ?_⟩) ?_
  rotate_left
  ·
   (intro w hSw; (try dsimp only at hSw); go_simp; try with_reducible rfl)
  try simp only [Act.put, qa, qb, qc, qD, qE, qF]
  refine qHk (v := ?_) 9 rfl (.inl ⟨by rfl, ?_⟩) ?_
  rotate_left
  ·
   (intro w hSw; (try dsimp only at hSw); go_simp; try with_reducible rfl)
  try simp only [Act.put, qa, qb, qc, qD, qE, qF]
  refine qHk (v := ?_) 10 rfl (.inl ⟨by rfl, ?_⟩) ?_
  rotate_left
  ·
   (intro w hSw; (try dsimp only at hSw); go_simp; try with_reducible rfl)
  try simp only [Act.put, qa, qb, qc, qD, qE, qF]
  refine qHk (v := ?_) 11 rfl (.inl ⟨by rfl, ?_⟩) ?_
  rotate_left
  ·
   (intro w hSw; (try dsimp only at hSw); go_simp; try with_reducible rfl)
  try simp only [Act.put, qa, qb, qc, qD, qE, qF]
  refine qHr 12 rfl (fun K hK => ?_)
  try simp only [Act.put, qa, qb, qc, qD, qE, qF]
  go_simp
  refine (load_c cells (.slice p0 cells.length c0) B11 (.slice u16 S12.length c17) (.slice u18 T13.length c19) S12 T13 _ _ _ _ (h1.ext (Xw2.trans qXt)) (i20.ext (Xw2.trans qXt)) (i21.ext (Xw2.trans qXt)) hh7.out).mono ?_
  rintro e w3 ⟨fv30, rfl, i31, -, xw3⟩
  have Lw3 : Ext w2 w3 := Ext.trans qXt xw3
  have Xw3 : Ext w w3 := Xw2.trans Lw3
  replace b10 := Lw3.cell b10
  replace b11 := Lw3.cell b11
  replace b20 := Lw3.cell b20
  replace b21 := Lw3.cell b21
  replace b30 := Lw3.cell b30
  replace b31 := Lw3.cell b31
  replace f_b30 := Lw3.frz z_b3 f_b30
  replace f_b31 := Lw3.frz z_b3 f_b31
  replace b40 := Lw3.cell b40
  replace b41 := Lw3.cell b41
  replace e70 := Lw3.cell e70
  replace x90 := Lw3.cell x90
  replace x91 := Lw3.cell x91
  replace x92 := Lw3.cell x92
  replace x93 := Lw3.cell x93
  replace x94 := Lw3.cell x94
  have z_b1 : w.heap.size < w3.heap.size := qB b10
  have z_b2 : w.heap.size + 1 < w3.heap.size := qB b20
  have z_b3 : w.heap.size + 1 + 1 < w3.heap.size := qB b30
  have z_b4 : w1.heap.size < w3.heap.size := qB b40
  have z_e7 : bl5 < w3.heap.size := qB e70
  have z_x9 : bl22 < w3.heap.size := qB x90
  have s_w3 : w.heap.size ≤ w3.heap.size := Xw3.size
  clear xw3
  try simp only [World.size_alloc, World.size_drew] at i31
  obtain ⟨afv30, cfv30, rfl⟩ := i31.form
  refine hK.out _ _ ⟨b10, b11, b21, e70, x91, x92, x93⟩ (fun hHeld => ?_)
  clear hK K
  try simp only [Act.put, qa, qb, qc, qD, qE, qF]
  refine qHr 13 rfl (fun K hK => ?_)
  try simp only [Act.put, qa, qb, qc, qD, qE, qF]
  go_simp
  refine (numbersText_c (loadL cells B11 S12 T13) (.slice afv30 ((loadL cells B11 S12 T13).length) cfv30) _ _ (i31.ext qXt) hx7.out (by omega)).mono ?_
  rintro e w4 ⟨tx32, rfl, hz_tx32, xw4⟩
  have Lw4 : Ext w3 w4 := Ext.trans qXt xw4
  have Xw4 : Ext w w4 := Xw3.trans Lw4
  replace b10 := Lw4.cell b10
  replace b11 := Lw4.cell b11
  replace b20 := Lw4.cell b20
  replace b21 := Lw4.cell b21
  replace b30 := Lw4.cell b30
  replace b31 := Lw4.cell b31
  replace f_b30 := Lw4.frz z_b3 f_b30
  replace f_b31 := Lw4.frz z_b3 f_b31
  replace b40 := Lw4.cell b40
  replace b41 := Lw4.cell b41
  replace e70 := Lw4.cell e70
  replace x90 := Lw4.cell x90
  replace x91 := Lw4.cell x91
  replace x92 := Lw4.cell x92
  replace x93 := Lw4.cell x93
  replace x94 := Lw4.cell x94
  have z_b1 : w.heap.size < w4.heap.size := qB b10
  have z_b2 : w.heap.size + 1 < w4.heap.size := qB b20
  have z_b3 : w.heap.size + 1 + 1 < w4.heap.size := qB b30
  have z_b4 : w1.heap.size < w4.heap.size := qB b40
  have z_e7 : bl5 < w4.heap.size := qB e70
  have z_x9 : bl22 < w4.heap.size := qB x90
  replace i31 := i31.ext Lw4
  have s_w4 : w.heap.size ≤ w4.heap.size := Xw4.size
  clear xw4
  have hy_tx32 : (tx32.size : Int) ≤ 8388608 := by omega
  have hv_tx32 : ¬ 9223372036854775807 < 3 + tx32.size := by omega
  refine hK.out _ _ ⟨b10, b11, b21, e70, x91, x92, x93⟩ (fun hHeld => ?_)
  clear hK K
  try simp only [Act.put, qa, qb, qc, qD, qE, qF]
  refine qHk (v := ?_) 14 rfl (.inl ⟨by rfl, ?_⟩) ?_
  rotate_left
  ·
   (intro w hSw; (try dsimp only at hSw); go_simp; try with_reducible rfl)
  try simp only [Act.put, qa, qb, qc, qD, qE, qF]
  refine qHr 15 rfl (fun K hK => ?_)
  try simp only [Act.put, qa, qb, qc, qD, qE, qF]
  go_simp
  generalize hW4 : ((w4.setCell ⟨w.heap.size + 1 + 1, 0, none⟩ (.slice p0 cells.length c0)).setCell ⟨w.heap.size + 1 + 1, 1, none⟩ (.slice (some ⟨bl22, ol23, none⟩) es.length c1)) = w5 at *
  have Kw5 : Chg (w.heap.size + 1 + 1) (w.heap.size + 1 + 1 + 1) w4 w5 := by subst hW4; exact qCh
  have Xw5 : Ext w w5 := by subst hW4; exact qXt
  replace b10 := Kw5.cell (by omega) b10
  replace b11 := Kw5.cell (by omega) b11
  replace b20 := Kw5.cell (by omega) b20
  replace b21 := Kw5.cell (by omega) b21
  replace b30 : w5.cell? ⟨w.heap.size + 1 + 1, 0, none⟩ = some (.slice p0 cells.length c0) := by subst hW4; go_simp
  replace f_b30 : w5.frozen? ⟨w.heap.size + 1 + 1, 0, none⟩ = false := by subst hW4; first | (simp only [World.frozen?_setCell]; with_reducible assumption) | go_simp
  replace b31 : w5.cell? ⟨w.heap.size + 1 + 1, 1, none⟩ = some (.slice (some ⟨bl22, ol23, none⟩) es.length c1) := by subst hW4; go_simp
  replace f_b31 : w5.frozen? ⟨w.heap.size + 1 + 1, 1, none⟩ = false := by subst hW4; first | (simp only [World.frozen?_setCell]; with_reducible assumption) | go_simp
  replace b40 := Kw5.cell (by omega) b40
  replace b41 := Kw5.cell (by omega) b41
  replace e70 := Kw5.cell (by omega) e70
  replace x90 := Kw5.cell (by omega) x90
  replace x91 := Kw5.cell (by omega) x91
  replace x92 := Kw5.cell (by omega) x92
  replace x93 := Kw5.cell (by omega) x93
  replace x94 := Kw5.cell (by omega) x94
  replace i31 := i31.chg Kw5 (by omega)
  clear Kw5
  have z_b1 : w.heap.size < w5.heap.size := qB b10
  have z_b2 : w.heap.size + 1 < w5.heap.size := qB b20
  have z_b3 : w.heap.size + 1 + 1 < w5.heap.size := qB b30
  have z_b4 : w1.heap.size < w5.heap.size := qB b40
  have z_e7 : bl5 < w5.heap.size := qB e70
  have z_x9 : bl22 < w5.heap.size := qB x90
  have s_w5 : w.heap.size ≤ w5.heap.size := Xw5.size
  clear hW4
  refine hK.out _ _ ⟨b10, b11, b21, e70, x91, x92, x93⟩ (fun hHeld => ?_)
  clear hK K
  try simp only [Act.put, qa, qb, qc, qD, qE, qF]
  refine qHk (v := ?_) 16 rfl (.inl ⟨by rfl, ?_⟩) ?_
  rotate_left
  ·
   (intro w hSw; (try dsimp only at hSw); go_simp; try with_reducible rfl)
  try simp only [Act.put, qa, qb, qc, qD, qE, qF]
  refine wpAnyH_done qKr ?_ _
  clear hHeld 
  go_wp2_with fail
  refine bodyPost_ret (v := .tuple #[.agg #[.slice p0 cells.length c0, .slice (some ⟨bl22, ol23, none⟩) es.length c1], .string (({ data := #[104, 97, 115] } : ByteArray) ++ tx32)]) (by simp only [results, Tryd.results16]; go_simp) rfl ?_
  exact ⟨_, _, cells, es, _, rfl, hv.out, .inr ⟨rfl, rfl, rfl, rfl⟩, (Xw5.trans qXt)⟩


end Go.Proofs.YtgklaobfikbiiaaDoor

/- What the arguments of a law read as, when they are opened: ints, lists of ints, views. -/
namespace Go.Proofs.YtgklaobfikbiiaaDoor
open Go.ChangeShapes Go.WideShapes Go.ChangeAt Go.RowKit Go.Joins
set_option linter.unusedVariables false
set_option maxRecDepth 100000

theorem own : ownKnob Tryd.prog.godebug = none := by kernel_rfl
theorem laidOut : laidOutB Tryd.prog = true := by kernel_rfl
/-- a slice of ints that came in -/
def RawIn (w : World) (v : Value) (xs : List Int) : Prop := Raw w v xs ∧ xs.length ≤ maxLen

section
variable {H : Type} {enc : TypeId × Value → H} {w : World} {base : Nat} {spare : Nat → Bool} {held : Bool} {fuel : Nat}

theorem RawIn.form {v : Value} {xs : List Int} (h : RawIn w v xs) : ∃ a cap, v = .slice a xs.length cap := by
  obtain ⟨⟨a, cap, hv, _⟩, _⟩ := h; exact ⟨a, cap, hv⟩

end

end Go.Proofs.YtgklaobfikbiiaaDoor

/- What the argument of a law on drawn data reads as, when it is opened: a slice of bytes. -/
namespace Go.Proofs.YtgklaobfikbiiaaDoor
open Go.ChangeShapes Go.WideShapes Go.ChangeAt Go.RowKit Go.Joins
set_option linter.unusedVariables false

theorem bys_of_cells {W : World} {x : Addr} {n cap : Nat} {zs : List Int} (hl : n ≤ cap) (hm : cap ≤ maxLen) (hz : zs.length = cap) (hcell : ∀ i, i < zs.length → W.cell? (x.add i) = some (.int .u8 (zs.getD i 0))) (hwz : ∀ m ∈ zs, (Lit.int .u8 m).wf = true) : BysIn W (some x) n cap := by
  refine ⟨hl, hm, fun i hi => ?_⟩
  obtain ⟨b, off, spot⟩ := x
  have h0 := hcell 0 (by omega)
  have hspot : spot = none := by simpa [Addr.add] using World.cell?_spot h0
  subst hspot
  have hc := hcell i (by omega)
  have e : (⟨b, off, none⟩ : Addr).add i = ⟨b, off + i, none⟩ := by unfold Addr.add; split <;> simp_all
  rw [e] at hc
  have hw := hwz (zs.getD i 0) (by simp [show i < zs.length by omega])
  refine ⟨b, off, _, rfl, hc, ?_⟩
  have := bounds_u8 hw
  omega

end Go.Proofs.YtgklaobfikbiiaaDoor

/- Walks: drawn arguments: a view; a view and a size. -/
namespace Go.Proofs.YtgklaobfikbiiaaDoor
open Go.RowKit
set_option linter.unusedVariables false
set_option maxRecDepth 100000


end Go.Proofs.YtgklaobfikbiiaaDoor

/- Walks: drawn memories, views of memories, values. -/
namespace Go.Proofs.YtgklaobfikbiiaaDoor
open Go.RowKit
set_option linter.unusedVariables false
set_option maxRecDepth 100000

end Go.Proofs.YtgklaobfikbiiaaDoor

/- Walks: views and memories are drawn. -/
namespace Go.Proofs.YtgklaobfikbiiaaDoor
open Go.RowKit
set_option linter.unusedVariables false
set_option maxRecDepth 100000

end Go.Proofs.YtgklaobfikbiiaaDoor

/- Walks: a view and a dimension are drawn. -/
namespace Go.Proofs.YtgklaobfikbiiaaDoor
open Go.RowKit
set_option linter.unusedVariables false
set_option maxRecDepth 100000

end Go.Proofs.YtgklaobfikbiiaaDoor
