/- Texts of these proofs put together: PureI, AdA, DrB, DrE, DrG, DrH, LawFnAddDim, RowFnAddDim. No condition. -/
import Derived.Test.YtonnnjaooifpjaaD1RowFnAddDim
import Derived.Test.YtonnnjaooifpjaaM1
import Derived.Test.YtonnnjaooifpjaaM4
import Derived.Test.YtonnnjaooifpjaaM3
set_option linter.unusedVariables false
set_option linter.unusedSimpArgs false
/- Plain laws: one more dimension. -/
namespace Go.Proofs.Ytonnnjaooifpjaa
open Go.RowKit
set_option linter.unusedVariables false
set_option maxRecDepth 100000

theorem ins_mem {s : List Int} {D : Nat} {x y : Int} (h : y ∈ insL s D x) : y = x ∨ y ∈ s := by
  unfold insL at h
  rcases List.mem_append.1 h with h | h
  · rcases List.mem_append.1 h with h | h
    · exact .inr (List.mem_of_mem_take h)
    · exact .inl (by simpa using h)
  · exact .inr (List.mem_of_mem_drop h)
theorem ins_prod : ∀ (s : List Int) (D : Nat), D ≤ s.length → prodL (insL s D 1) = prodL s
  | s, 0, _ => by rw [insL_zero, prodL_cons, Int.one_mul]
  | [], D+1, h => by simp at h
  | e :: s, D+1, h => by rw [insL_succ, prodL_cons, prodL_cons, ins_prod s D (by simpa using h)]
theorem ins_off : ∀ (s t : List Int) (D : Nat) (b : Int), t.length = s.length → D ≤ s.length → offC b (insL s D 1) (insL t D 0) = offC b s t
  | s, t, 0, b, _, _ => by
    rw [insL_zero, insL_zero, offC_cons]
    simp
  | [], _, D+1, _, _, h => by simp at h
  | e :: s, [], D+1, _, h, _ => by simp at h
  | e :: s, x :: t, D+1, b, hl, h => by
    rw [insL_succ, insL_succ, offC_cons, offC_cons, ins_off s t D b (by simpa using hl) (by simpa using h)]
theorem ins_del : ∀ (s : List Int) (D : Nat) (x : Int), D ≤ s.length → delL (insL s D x) D = s
  | s, 0, x, _ => by rw [insL_zero, delL_zero]
  | [], D+1, _, h => by simp at h
  | e :: s, D+1, x, h => by rw [insL_succ, delL_succ, ins_del s D x (by simpa using h)]
theorem add_view {b : Int} {s t : List Int} {D : Nat} (h : viewB b s t = true) (hD : D ≤ s.length) (h4 : ¬ s.length = 4) :
    viewB b (insL s D 1) (insL t D 0) = true ∧ offsL b (insL s D 1) (insL t D 0) = offsL b s t := by
  obtain ⟨h1, h2, h3, h5, h6⟩ := viewB_in h
  have hsm := Small.of h1
  have hl := insL_len s D 1 hD
  have hl2 := insL_len t D 0 (by omega)
  have hs2 : Small (insL s D 1) := ⟨by have := hsm.1; omega, fun e he => by
    rcases ins_mem he with rfl | he
    · omega
    · exact hsm.2 e he⟩
  have hc : countL (insL s D 1) = countL s := by rw [hs2.count.1, hsm.count.1, ins_prod s D hD]
  have hm := view_mild h
  have hm2 : Mild b (insL t D 0) := ⟨hm.1, fun x hx => by
    rcases ins_mem hx with rfl | hx
    · omega
    · exact hm.2 x hx⟩
  have e : offsL b (insL s D 1) (insL t D 0) = offsL b s t := by rw [offs_C hs2 hm2, view_C h, ins_off s t D b h2 hD]
  have h60 := (shapeB_in h1).2.2.2.1
  refine ⟨viewB_mk (shapeB_mk hs2 (by omega)) (by omega) h3 (fun x hx => ?_) (by rw [e]; exact h6), e⟩
  rcases ins_mem hx with rfl | hx
  · omega
  · exact h5 x hx
theorem add_no {b : Int} {s t : List Int} {d : Int} (h : ¬ (viewB b s t = true ∧ 0 ≤ d ∧ d ≤ s.length ∧ ¬ s.length = 4)) : addV b s t d = noV := by
  unfold addV inB
  rw [if_neg]
  intro h2
  simp only [Bool.and_eq_true, decide_eq_true_eq, Bool.not_eq_true', beq_eq_false_iff_ne, ne_eq] at h2
  exact h ⟨h2.1, h2.2.1.1, h2.2.1.2, by omega⟩
theorem add_yes {b : Int} {s t : List Int} {D : Nat} (h : viewB b s t = true) (hD : D ≤ s.length) (h4 : ¬ s.length = 4) : addV b s t (D : Int) = (b, insL s D 1, insL t D 0, true) := by
  unfold addV inB
  rw [h, Int.toNat_natCast, if_pos (by
    simp only [Bool.true_and, Bool.and_eq_true, decide_eq_true_eq, Bool.not_eq_true', beq_eq_false_iff_ne, ne_eq]
    exact ⟨⟨by omega, by omega⟩, by omega⟩)]
  unfold madeV
  rw [(add_view h hD h4).1]; rfl
theorem add_law {b : Int} {s t : List Int} {d : Int} {PB : Int} {PS PT : List Int} (h : addV b s t d = (PB, PS, PT, true)) :
    ∃ D : Nat, d = (D : Int) ∧ D < PS.length ∧ D ≤ 4 ∧ PS.getD D 0 = 1 ∧ offA PB PS PT = offA b s t ∧ ∃ QB QS QT, pickV PB PS PT (D : Int) 0 = (QB, QS, QT, true) ∧ sameV QB QS QT b s t = true := by
  by_cases hc : viewB b s t = true ∧ 0 ≤ d ∧ d ≤ s.length ∧ ¬ s.length = 4
  · obtain ⟨hv, hd0, hd1, h4⟩ := hc
    obtain ⟨D, rfl⟩ : ∃ D : Nat, d = D := ⟨d.toNat, by omega⟩
    have hD : D ≤ s.length := by omega
    rw [add_yes hv hD h4] at h
    cases h
    obtain ⟨hw, ho⟩ := add_view hv hD h4
    obtain ⟨h1, h2, h3, h5, h6⟩ := viewB_in hv
    have hsm := Small.of h1
    have hl := insL_len s D 1 hD
    have g1 : (insL s D 1).getD D 0 = 1 := by rw [insL_get s D 1 hD D (by omega), if_neg (by omega), if_pos rfl]
    have g2 : (insL t D 0).getD D 0 = 0 := by rw [insL_get t D 0 (by omega) D (by omega), if_neg (by omega), if_pos rfl]
    have hdim : dimB b (insL s D 1) (insL t D 0) (D : Int) = true := by unfold dimB inB; rw [hw]; simp; omega
    have hp := pick_yes (i := 0) (j := 0) hdim g1 g2 (by rw [if_neg (by omega)]) (by omega) (by omega)
    rw [ins_del s D 1 hD, ins_del t D 0 (by omega), Int.zero_mul, Int.add_zero] at hp
    refine ⟨D, rfl, by omega, by have := hsm.1; omega, g1, by rw [offA_of hw, offA_of hv, ho], _, _, _, hp, ?_⟩
    unfold tidyB tidyT
    by_cases h0 : countL s = 0
    · rw [if_pos h0, if_pos h0]
      exact sameV_of (zero_view h1 h0) hv (by rw [offs_none h0, offs_none h0])
    · rw [if_neg h0, if_neg h0]
      exact sameV_of hv hv rfl
  · rw [add_no hc] at h; unfold noV at h; cases h
end Go.Proofs.Ytonnnjaooifpjaa

/- Walks: AddDim of the program. -/
namespace Go.Proofs.Ytonnnjaooifpjaa
open Go.RowKit
set_option linter.unusedVariables false
set_option maxRecDepth 100000

set_option maxHeartbeats 3200000 in
theorem implAddDim_c (b1 : Int) (u1 v1 : Value) (s1 t1 : List Int) (d : Int) (w : World) (l1 m1 : Nat) (h1 : Ints w l1 u1 s1) (k1 : Ints w m1 v1 t1) :
  Calls Try.prog 36 #[.agg #[.int .i64 b1, u1, v1], .int .i64 d] w (PVX w (addV b1 s1 t1 d)) := by
 obtain ⟨p0, c0, rfl⟩ := h1.form
 obtain ⟨p1, c1, rfl⟩ := k1.form
 go_enter Try.func36, Try.ntmps36
 go_wp2_with fail
 refine (isView_c b1 (.slice p0 s1.length c0) (.slice p1 t1.length c1) s1 t1 _ _ _ (h1.ext qXt) (k1.ext qXt)).mono ?_
 rintro e w1 ⟨rfl, xw1⟩
 have Lw1 : Ext w w1 := Ext.trans qXt xw1
 have Xw1 : Ext w w1 := Lw1
 have b10 : w1.cell? ⟨w.heap.size, 0, none⟩ = some (.int .i64 b1) := xw1.cell qCl
 have b11 : w1.cell? ⟨w.heap.size, 1, none⟩ = some (.slice p0 s1.length c0) := xw1.cell qCl
 have b12 : w1.cell? ⟨w.heap.size, 2, none⟩ = some (.slice p1 t1.length c1) := xw1.cell qCl
 have b20 : w1.cell? ⟨w.heap.size + 1, 0, none⟩ = some (.int .i64 0) := xw1.cell qCl
 have b21 : w1.cell? ⟨w.heap.size + 1, 1, none⟩ = some (.slice none 0 0) := xw1.cell qCl
 have b22 : w1.cell? ⟨w.heap.size + 1, 2, none⟩ = some (.slice none 0 0) := xw1.cell qCl
 have f_b20 : w1.frozen? ⟨w.heap.size + 1, 0, none⟩ = false := xw1.frz (by simp <;> omega) qFz
 have f_b21 : w1.frozen? ⟨w.heap.size + 1, 1, none⟩ = false := xw1.frz (by simp <;> omega) qFz
 have f_b22 : w1.frozen? ⟨w.heap.size + 1, 2, none⟩ = false := xw1.frz (by simp <;> omega) qFz
 have z_b1 : w.heap.size < w1.heap.size := qB b10
 have z_b2 : w.heap.size + 1 < w1.heap.size := qB b20
 have s_w1 : w.heap.size ≤ w1.heap.size := Xw1.size
 clear xw1
 cases hB3 : viewB b1 s1 t1
 ·
  replace hB3 := Lib.hid hB3
  go_wp2_with fail
  generalize hW1 : (((w1.setCell ⟨w.heap.size + 1, 0, none⟩ (.int .i64 0)).setCell ⟨w.heap.size + 1, 1, none⟩ (.slice none 0 0)).setCell ⟨w.heap.size + 1, 2, none⟩ (.slice none 0 0)) = w2 at *
  have Kw2 : Chg (w.heap.size + 1) (w.heap.size + 1 + 1) w1 w2 := by subst hW1; exact qCh
  have Xw2 : Ext w w2 := by subst hW1; exact qXt
  replace b10 := Kw2.cell (by omega) b10
  replace b11 := Kw2.cell (by omega) b11
  replace b12 := Kw2.cell (by omega) b12
  replace b20 : w2.cell? ⟨w.heap.size + 1, 0, none⟩ = some (.int .i64 0) := by subst hW1; go_simp
  replace f_b20 : w2.frozen? ⟨w.heap.size + 1, 0, none⟩ = false := by subst hW1; go_simp
  replace b21 : w2.cell? ⟨w.heap.size + 1, 1, none⟩ = some (.slice none 0 0) := by subst hW1; go_simp
  replace f_b21 : w2.frozen? ⟨w.heap.size + 1, 1, none⟩ = false := by subst hW1; go_simp
  replace b22 : w2.cell? ⟨w.heap.size + 1, 2, none⟩ = some (.slice none 0 0) := by subst hW1; go_simp
  replace f_b22 : w2.frozen? ⟨w.heap.size + 1, 2, none⟩ = false := by subst hW1; go_simp
  clear Kw2
  have z_b1 : w.heap.size < w2.heap.size := qB b10
  have z_b2 : w.heap.size + 1 < w2.heap.size := qB b20
  have s_w2 : w.heap.size ≤ w2.heap.size := Xw2.size
  clear hW1
  refine bodyPost_ret (v := .tuple #[.agg #[.int .i64 0, .slice none 0 0, .slice none 0 0], .bool false]) (by simp only [results, Try.results36]; go_simp) rfl ?_
  rw [add_no (fun h => by have h7 := hB3.out; rw [h.1] at h7; cases h7)]
  exact PVWB.no (Xw2.trans qXt)
 ·
  replace hB3 := Lib.hid hB3
  obtain ⟨-, hts, -, -, -⟩ := viewB_in hB3.out
  have hs4 := (view_small hB3.out).1
  have ht4 : t1.length ≤ 4 := by omega
  replace hts := Lib.hid hts
  by_cases hc4 : (s1.length : Int) = (4 : Int)
  ·
   have hc4e : ((s1.length : Int) == (4 : Int)) = true := by simpa using hc4
   have hc4n : ((s1.length : Int) != (4 : Int)) = false := by simpa using hc4
   replace hc4 := Lib.hid hc4
   go_wp2_with fail
   generalize hW2 : (((w1.setCell ⟨w.heap.size + 1, 0, none⟩ (.int .i64 0)).setCell ⟨w.heap.size + 1, 1, none⟩ (.slice none 0 0)).setCell ⟨w.heap.size + 1, 2, none⟩ (.slice none 0 0)) = w2 at *
   have Kw2 : Chg (w.heap.size + 1) (w.heap.size + 1 + 1) w1 w2 := by subst hW2; exact qCh
   have Xw2 : Ext w w2 := by subst hW2; exact qXt
   replace b10 := Kw2.cell (by omega) b10
   replace b11 := Kw2.cell (by omega) b11
   replace b12 := Kw2.cell (by omega) b12
   replace b20 : w2.cell? ⟨w.heap.size + 1, 0, none⟩ = some (.int .i64 0) := by subst hW2; go_simp
   replace f_b20 : w2.frozen? ⟨w.heap.size + 1, 0, none⟩ = false := by subst hW2; go_simp
   replace b21 : w2.cell? ⟨w.heap.size + 1, 1, none⟩ = some (.slice none 0 0) := by subst hW2; go_simp
   replace f_b21 : w2.frozen? ⟨w.heap.size + 1, 1, none⟩ = false := by subst hW2; go_simp
   replace b22 : w2.cell? ⟨w.heap.size + 1, 2, none⟩ = some (.slice none 0 0) := by subst hW2; go_simp
   replace f_b22 : w2.frozen? ⟨w.heap.size + 1, 2, none⟩ = false := by subst hW2; go_simp
   clear Kw2
   have z_b1 : w.heap.size < w2.heap.size := qB b10
   have z_b2 : w.heap.size + 1 < w2.heap.size := qB b20
   have s_w2 : w.heap.size ≤ w2.heap.size := Xw2.size
   clear hW2
   refine bodyPost_ret (v := .tuple #[.agg #[.int .i64 0, .slice none 0 0, .slice none 0 0], .bool false]) (by simp only [results, Try.results36]; go_simp) rfl ?_
   rw [add_no (fun h => by have h7 := hc4.out; have := h.2.2.2; omega)]
   exact PVWB.no (Xw2.trans qXt)
  ·
   have hc4e : ((s1.length : Int) == (4 : Int)) = false := by simpa using hc4
   have hc4n : ((s1.length : Int) != (4 : Int)) = true := by simpa using hc4
   replace hc4 := Lib.hid hc4
   by_cases hc5 : (d : Int) < (0 : Int)
   ·
    go_wp2_with fail
    generalize hW3 : (((w1.setCell ⟨w.heap.size + 1, 0, none⟩ (.int .i64 0)).setCell ⟨w.heap.size + 1, 1, none⟩ (.slice none 0 0)).setCell ⟨w.heap.size + 1, 2, none⟩ (.slice none 0 0)) = w2 at *
    have Kw2 : Chg (w.heap.size + 1) (w.heap.size + 1 + 1) w1 w2 := by subst hW3; exact qCh
    have Xw2 : Ext w w2 := by subst hW3; exact qXt
    replace b10 := Kw2.cell (by omega) b10
    replace b11 := Kw2.cell (by omega) b11
    replace b12 := Kw2.cell (by omega) b12
    replace b20 : w2.cell? ⟨w.heap.size + 1, 0, none⟩ = some (.int .i64 0) := by subst hW3; go_simp
    replace f_b20 : w2.frozen? ⟨w.heap.size + 1, 0, none⟩ = false := by subst hW3; go_simp
    replace b21 : w2.cell? ⟨w.heap.size + 1, 1, none⟩ = some (.slice none 0 0) := by subst hW3; go_simp
    replace f_b21 : w2.frozen? ⟨w.heap.size + 1, 1, none⟩ = false := by subst hW3; go_simp
    replace b22 : w2.cell? ⟨w.heap.size + 1, 2, none⟩ = some (.slice none 0 0) := by subst hW3; go_simp
    replace f_b22 : w2.frozen? ⟨w.heap.size + 1, 2, none⟩ = false := by subst hW3; go_simp
    clear Kw2
    have z_b1 : w.heap.size < w2.heap.size := qB b10
    have z_b2 : w.heap.size + 1 < w2.heap.size := qB b20
    have s_w2 : w.heap.size ≤ w2.heap.size := Xw2.size
    clear hW3
    refine bodyPost_ret (v := .tuple #[.agg #[.int .i64 0, .slice none 0 0, .slice none 0 0], .bool false]) (by simp only [results, Try.results36]; go_simp) rfl ?_
    rw [add_no (fun h => by have := h.2.1; have := h.2.2.1; omega)]
    exact PVWB.no (Xw2.trans qXt)
   ·
    by_cases hc6 : (s1.length : Int) < (d : Int)
    ·
     go_wp2_with fail
     generalize hW4 : (((w1.setCell ⟨w.heap.size + 1, 0, none⟩ (.int .i64 0)).setCell ⟨w.heap.size + 1, 1, none⟩ (.slice none 0 0)).setCell ⟨w.heap.size + 1, 2, none⟩ (.slice none 0 0)) = w2 at *
     have Kw2 : Chg (w.heap.size + 1) (w.heap.size + 1 + 1) w1 w2 := by subst hW4; exact qCh
     have Xw2 : Ext w w2 := by subst hW4; exact qXt
     replace b10 := Kw2.cell (by omega) b10
     replace b11 := Kw2.cell (by omega) b11
     replace b12 := Kw2.cell (by omega) b12
     replace b20 : w2.cell? ⟨w.heap.size + 1, 0, none⟩ = some (.int .i64 0) := by subst hW4; go_simp
     replace f_b20 : w2.frozen? ⟨w.heap.size + 1, 0, none⟩ = false := by subst hW4; go_simp
     replace b21 : w2.cell? ⟨w.heap.size + 1, 1, none⟩ = some (.slice none 0 0) := by subst hW4; go_simp
     replace f_b21 : w2.frozen? ⟨w.heap.size + 1, 1, none⟩ = false := by subst hW4; go_simp
     replace b22 : w2.cell? ⟨w.heap.size + 1, 2, none⟩ = some (.slice none 0 0) := by subst hW4; go_simp
     replace f_b22 : w2.frozen? ⟨w.heap.size + 1, 2, none⟩ = false := by subst hW4; go_simp
     clear Kw2
     have z_b1 : w.heap.size < w2.heap.size := qB b10
     have z_b2 : w.heap.size + 1 < w2.heap.size := qB b20
     have s_w2 : w.heap.size ≤ w2.heap.size := Xw2.size
     clear hW4
     refine bodyPost_ret (v := .tuple #[.agg #[.int .i64 0, .slice none 0 0, .slice none 0 0], .bool false]) (by simp only [results, Try.results36]; go_simp) rfl ?_
     rw [add_no (fun h => by have := h.2.1; have := h.2.2.1; omega)]
     exact PVWB.no (Xw2.trans qXt)
    ·
     have h4n := Lib.hid (show ¬ s1.length = 4 from fun h => hc4.out (by omega))
     obtain ⟨D, rfl⟩ : ∃ D : Nat, d = D := ⟨d.toNat, by omega⟩
     have hDs : D ≤ s1.length := by omega
     have hDt : D ≤ t1.length := by have := hts.out; omega
     go_wp2_with fail
     have Q13_b10 := Lib.hid b10
     have Q13_b11 := Lib.hid b11
     have Q13_b12 := Lib.hid b12
     have Q13_zb1 := z_b1
     have Q13_b20 := Lib.hid b20
     have Q13_f_b20 := Lib.hid f_b20
     have Q13_b21 := Lib.hid b21
     have Q13_f_b21 := Lib.hid f_b21
     have Q13_b22 := Lib.hid b22
     have Q13_f_b22 := Lib.hid f_b22
     have Q13_zb2 := z_b2
     have BL14 : Ext w1 w1 := Ext.refl _
     refine (copyViewO_c b1 (.slice p0 s1.length c0) (.slice p1 t1.length c1) s1 t1 _ _ _ (h1.ext (Xw1.trans qXt)) (k1.ext (Xw1.trans qXt))).mono ?_
     rintro e w2 ⟨gr7, gr8, rr9, rr10, rfl, O11, O12, Ggr7, Ggr7', Ggr8, Ggr8', hggr7, xw2⟩
     have Lw2 : Ext w1 w2 := Ext.trans qXt xw2
     have Xw2 : Ext w w2 := Xw1.trans Lw2
     replace b10 := Lw2.cell b10
     replace b11 := Lw2.cell b11
     replace b12 := Lw2.cell b12
     replace b20 := Lw2.cell b20
     replace b21 := Lw2.cell b21
     replace b22 := Lw2.cell b22
     replace f_b20 := Lw2.frz z_b2 f_b20
     replace f_b21 := Lw2.frz z_b2 f_b21
     replace f_b22 := Lw2.frz z_b2 f_b22
     have z_b1 : w.heap.size < w2.heap.size := qB b10
     have z_b2 : w.heap.size + 1 < w2.heap.size := qB b20
     have s_w2 : w.heap.size ≤ w2.heap.size := Xw2.size
     have BL14_w2 : Ext w1 w2 := BL14.trans Lw2
     clear xw2
     have Q15_b10 := Lib.hid b10
     have Q15_b11 := Lib.hid b11
     have Q15_b12 := Lib.hid b12
     have Q15_zb1 := z_b1
     have Q15_b20 := Lib.hid b20
     have Q15_f_b20 := Lib.hid f_b20
     have Q15_b21 := Lib.hid b21
     have Q15_f_b21 := Lib.hid f_b21
     have Q15_b22 := Lib.hid b22
     have Q15_f_b22 := Lib.hid f_b22
     have Q15_zb2 := z_b2
     have Q15_O11 := Lib.hid O11
     have Q15_O12 := Lib.hid O12
     have BL16 : Ext w2 w2 := Ext.refl _
     go_upto_region 4 with fail
     generalize hW5 : w2.alloc (.cells #[.int .i64 b1, .slice (some ⟨gr7, 0, none⟩) s1.length rr9, .slice (some ⟨gr8, 0, none⟩) t1.length rr10] 25) = w3 at *
     have Lw3 : Ext w2 w3 := by subst hW5; exact qXt
     have Xw3 : Ext w w3 := Xw2.trans Lw3
     replace b10 := Lw3.cell b10
     replace b11 := Lw3.cell b11
     replace b12 := Lw3.cell b12
     replace b20 := Lw3.cell b20
     replace b21 := Lw3.cell b21
     replace b22 := Lw3.cell b22
     replace f_b20 := Lw3.frz z_b2 f_b20
     replace f_b21 := Lw3.frz z_b2 f_b21
     replace f_b22 := Lw3.frz z_b2 f_b22
     have b170 : w3.cell? ⟨w2.heap.size, 0, none⟩ = some (.int .i64 b1) := by subst hW5; exact qCl
     have b171 : w3.cell? ⟨w2.heap.size, 1, none⟩ = some (.slice (some ⟨gr7, 0, none⟩) s1.length rr9) := by subst hW5; exact qCl
     have b172 : w3.cell? ⟨w2.heap.size, 2, none⟩ = some (.slice (some ⟨gr8, 0, none⟩) t1.length rr10) := by subst hW5; exact qCl
     have f_b170 : w3.frozen? ⟨w2.heap.size, 0, none⟩ = false := by subst hW5; exact qFz
     have f_b171 : w3.frozen? ⟨w2.heap.size, 1, none⟩ = false := by subst hW5; exact qFz
     have f_b172 : w3.frozen? ⟨w2.heap.size, 2, none⟩ = false := by subst hW5; exact qFz
     have z_b1 : w.heap.size < w3.heap.size := qB b10
     have z_b2 : w.heap.size + 1 < w3.heap.size := qB b20
     have z_b17 : w2.heap.size < w3.heap.size := qB b170
     replace O11 := O11.ext Lw3
     replace O12 := O12.ext Lw3
     have s_w3 : w.heap.size ≤ w3.heap.size := Xw3.size
     have BL14_w3 : Ext w1 w3 := BL14_w2.trans Lw3
     have BL16_w3 : Ext w2 w3 := BL16.trans Lw3
     clear hW5
     go_wp2_with fail
     refine (insert_i s1 gr7 _ _ _ D 1 _ (w3) (by omega) (O11.ext qXt) hDs (by omega)).mono ?_
     rintro e w4 ⟨gr19, rr20, rfl, i18, Ggr19, Hgr19, Cw4⟩
     have zc_w4 := Cw4.size
     have Xw4 : Ext w w4 := Rch.toExt' Cw4 (by omega) (Xw3)
     replace b10 := Cw4.cell (by omega) b10
     replace b11 := Cw4.cell (by omega) b11
     replace b12 := Cw4.cell (by omega) b12
     replace b20 := Cw4.cell (by omega) b20
     replace f_b20 := Cw4.frzO (by omega) (by omega) f_b20
     replace b21 := Cw4.cell (by omega) b21
     replace f_b21 := Cw4.frzO (by omega) (by omega) f_b21
     replace b22 := Cw4.cell (by omega) b22
     replace f_b22 := Cw4.frzO (by omega) (by omega) f_b22
     replace b170 := Cw4.cell (by omega) b170
     replace f_b170 := Cw4.frzO (by omega) (by omega) f_b170
     replace b171 := Cw4.cell (by omega) b171
     replace f_b171 := Cw4.frzO (by omega) (by omega) f_b171
     replace b172 := Cw4.cell (by omega) b172
     replace f_b172 := Cw4.frzO (by omega) (by omega) f_b172
     have BL14_w4 : Ext w1 w4 := Rch.toExt' Cw4 (by omega) (BL14_w3)
     have z_b1 : w.heap.size < w4.heap.size := qB b10
     have z_b2 : w.heap.size + 1 < w4.heap.size := qB b20
     have z_b17 : w2.heap.size < w4.heap.size := qB b170
     replace O12 := O12.chgN Cw4 (by omega)
     have s_w4 : w.heap.size ≤ w4.heap.size := Xw4.size
     clear Cw4
     clear O11
     go_upto_region 5 with fail
     generalize hW6 : (w4.setCell ⟨w2.heap.size, 1, none⟩ (.slice (some ⟨gr19, 0, none⟩) (s1.length + 1) rr20)) = w5 at *
     have Kw5 : Chg (w2.heap.size) (w2.heap.size + 1) w4 w5 := by subst hW6; exact qCh
     have Xw5 : Ext w w5 := by subst hW6; exact qXt
     have BL14_w5 : Ext w1 w5 := by subst hW6; exact qXt
     replace b10 := BL14_w5.cell Q13_b10.out
     replace b11 := BL14_w5.cell Q13_b11.out
     replace b12 := BL14_w5.cell Q13_b12.out
     replace b20 := BL14_w5.cell Q13_b20.out
     replace f_b20 := BL14_w5.frz Q13_zb2 Q13_f_b20.out
     replace b21 := BL14_w5.cell Q13_b21.out
     replace f_b21 := BL14_w5.frz Q13_zb2 Q13_f_b21.out
     replace b22 := BL14_w5.cell Q13_b22.out
     replace f_b22 := BL14_w5.frz Q13_zb2 Q13_f_b22.out
     replace b170 : w5.cell? ⟨w2.heap.size, 0, none⟩ = some (.int .i64 b1) := by subst hW6; go_simp
     replace f_b170 : w5.frozen? ⟨w2.heap.size, 0, none⟩ = false := by subst hW6; go_simp
     replace b171 : w5.cell? ⟨w2.heap.size, 1, none⟩ = some (.slice (some ⟨gr19, 0, none⟩) (s1.length + 1) rr20) := by subst hW6; go_simp
     replace f_b171 : w5.frozen? ⟨w2.heap.size, 1, none⟩ = false := by subst hW6; go_simp
     replace b172 : w5.cell? ⟨w2.heap.size, 2, none⟩ = some (.slice (some ⟨gr8, 0, none⟩) t1.length rr10) := by subst hW6; go_simp
     replace f_b172 : w5.frozen? ⟨w2.heap.size, 2, none⟩ = false := by subst hW6; go_simp
     replace O12 := O12.chgN Kw5 (by omega)
     replace i18 := i18.chgN Kw5 (by omega)
     clear Kw5
     have z_b1 : w.heap.size < w5.heap.size := qB b10
     have z_b2 : w.heap.size + 1 < w5.heap.size := qB b20
     have z_b17 : w2.heap.size < w5.heap.size := qB b170
     have s_w5 : w.heap.size ≤ w5.heap.size := Xw5.size
     clear hW6
     go_wp2_with fail
     refine (insert_i t1 gr8 _ _ _ D 0 _ (w5) (by omega) (O12.ext qXt) hDt (by omega)).mono ?_
     rintro e w6 ⟨gr23, rr24, rfl, i22, Ggr23, Hgr23, Cw6⟩
     have zc_w6 := Cw6.size
     have Xw6 : Ext w w6 := Rch.toExt' Cw6 (by omega) (Xw5)
     replace b10 := Cw6.cell (by omega) b10
     replace b11 := Cw6.cell (by omega) b11
     replace b12 := Cw6.cell (by omega) b12
     replace b20 := Cw6.cell (by omega) b20
     replace f_b20 := Cw6.frzO (by omega) (by omega) f_b20
     replace b21 := Cw6.cell (by omega) b21
     replace f_b21 := Cw6.frzO (by omega) (by omega) f_b21
     replace b22 := Cw6.cell (by omega) b22
     replace f_b22 := Cw6.frzO (by omega) (by omega) f_b22
     replace b170 := Cw6.cell (by omega) b170
     replace f_b170 := Cw6.frzO (by omega) (by omega) f_b170
     replace b171 := Cw6.cell (by omega) b171
     replace f_b171 := Cw6.frzO (by omega) (by omega) f_b171
     replace b172 := Cw6.cell (by omega) b172
     replace f_b172 := Cw6.frzO (by omega) (by omega) f_b172
     have BL14_w6 : Ext w1 w6 := Rch.toExt' Cw6 (by omega) (BL14_w5)
     have z_b1 : w.heap.size < w6.heap.size := qB b10
     have z_b2 : w.heap.size + 1 < w6.heap.size := qB b20
     have z_b17 : w2.heap.size < w6.heap.size := qB b170
     replace i18 := i18.chgN Cw6 (by omega)
     have s_w6 : w.heap.size ≤ w6.heap.size := Xw6.size
     clear Cw6
     clear O12
     go_upto_region 6 with fail
     generalize hW7 : (w6.setCell ⟨w2.heap.size, 2, none⟩ (.slice (some ⟨gr23, 0, none⟩) (t1.length + 1) rr24)) = w7 at *
     have Kw7 : Chg (w2.heap.size) (w2.heap.size + 1) w6 w7 := by subst hW7; exact qCh
     have Xw7 : Ext w w7 := by subst hW7; exact qXt
     have BL14_w7 : Ext w1 w7 := by subst hW7; exact qXt
     replace b10 := BL14_w7.cell Q13_b10.out
     replace b11 := BL14_w7.cell Q13_b11.out
     replace b12 := BL14_w7.cell Q13_b12.out
     replace b20 := BL14_w7.cell Q13_b20.out
     replace f_b20 := BL14_w7.frz Q13_zb2 Q13_f_b20.out
     replace b21 := BL14_w7.cell Q13_b21.out
     replace f_b21 := BL14_w7.frz Q13_zb2 Q13_f_b21.out
     replace b22 := BL14_w7.cell Q13_b22.out
     replace f_b22 := BL14_w7.frz Q13_zb2 Q13_f_b22.out
     replace b170 : w7.cell? ⟨w2.heap.size, 0, none⟩ = some (.int .i64 b1) := by subst hW7; go_simp
     replace f_b170 : w7.frozen? ⟨w2.heap.size, 0, none⟩ = false := by subst hW7; go_simp
     replace b171 : w7.cell? ⟨w2.heap.size, 1, none⟩ = some (.slice (some ⟨gr19, 0, none⟩) (s1.length + 1) rr20) := by subst hW7; go_simp
     replace f_b171 : w7.frozen? ⟨w2.heap.size, 1, none⟩ = false := by subst hW7; go_simp
     replace b172 : w7.cell? ⟨w2.heap.size, 2, none⟩ = some (.slice (some ⟨gr23, 0, none⟩) (t1.length + 1) rr24) := by subst hW7; go_simp
     replace f_b172 : w7.frozen? ⟨w2.heap.size, 2, none⟩ = false := by subst hW7; go_simp
     replace i18 := i18.chgN Kw7 (by omega)
     replace i22 := i22.chgN Kw7 (by omega)
     clear Kw7
     have z_b1 : w.heap.size < w7.heap.size := qB b10
     have z_b2 : w.heap.size + 1 < w7.heap.size := qB b20
     have z_b17 : w2.heap.size < w7.heap.size := qB b170
     have s_w7 : w.heap.size ≤ w7.heap.size := Xw7.size
     clear hW7
     go_wp2_with fail
     generalize hW8 : (((w7.setCell ⟨w.heap.size + 1, 0, none⟩ (.int .i64 b1)).setCell ⟨w.heap.size + 1, 1, none⟩ (.slice (some ⟨gr19, 0, none⟩) (s1.length + 1) rr20)).setCell ⟨w.heap.size + 1, 2, none⟩ (.slice (some ⟨gr23, 0, none⟩) (t1.length + 1) rr24)) = w8 at *
     have Kw8 : Chg (w.heap.size + 1) (w.heap.size + 1 + 1) w7 w8 := by subst hW8; exact qCh
     have Xw8 : Ext w w8 := by subst hW8; exact qXt
     replace b10 := Kw8.cell (by omega) b10
     replace b11 := Kw8.cell (by omega) b11
     replace b12 := Kw8.cell (by omega) b12
     replace b20 : w8.cell? ⟨w.heap.size + 1, 0, none⟩ = some (.int .i64 b1) := by subst hW8; go_simp
     replace f_b20 : w8.frozen? ⟨w.heap.size + 1, 0, none⟩ = false := by subst hW8; go_simp
     replace b21 : w8.cell? ⟨w.heap.size + 1, 1, none⟩ = some (.slice (some ⟨gr19, 0, none⟩) (s1.length + 1) rr20) := by subst hW8; go_simp
     replace f_b21 : w8.frozen? ⟨w.heap.size + 1, 1, none⟩ = false := by subst hW8; go_simp
     replace b22 : w8.cell? ⟨w.heap.size + 1, 2, none⟩ = some (.slice (some ⟨gr23, 0, none⟩) (t1.length + 1) rr24) := by subst hW8; go_simp
     replace f_b22 : w8.frozen? ⟨w.heap.size + 1, 2, none⟩ = false := by subst hW8; go_simp
     replace b170 := Kw8.cell (by omega) b170
     replace f_b170 := Kw8.frzO (by omega) z_b17 f_b170
     replace b171 := Kw8.cell (by omega) b171
     replace f_b171 := Kw8.frzO (by omega) z_b17 f_b171
     replace b172 := Kw8.cell (by omega) b172
     replace f_b172 := Kw8.frzO (by omega) z_b17 f_b172
     replace i18 := i18.chgN Kw8 (by omega)
     replace i22 := i22.chgN Kw8 (by omega)
     clear Kw8
     have z_b1 : w.heap.size < w8.heap.size := qB b10
     have z_b2 : w.heap.size + 1 < w8.heap.size := qB b20
     have z_b17 : w2.heap.size < w8.heap.size := qB b170
     have s_w8 : w.heap.size ≤ w8.heap.size := Xw8.size
     clear hW8
     refine bodyPost_ret (v := .tuple #[.agg #[.int .i64 b1, .slice (some ⟨gr19, 0, none⟩) (s1.length + 1) rr20, .slice (some ⟨gr23, 0, none⟩) (t1.length + 1) rr24], .bool true]) (by simp only [results, Try.results36]; go_simp) rfl ?_
     rw [add_yes hB3.out hDs h4n.out]
     exact ⟨_, _, rfl, i18.lower (by omega), i22.lower (by omega), (Xw8.trans qXt)⟩


end Go.Proofs.Ytonnnjaooifpjaa

/- Walks: drawn memories, views of memories, values. -/
namespace Go.Proofs.Ytonnnjaooifpjaa
open Go.RowKit
set_option linter.unusedVariables false
set_option maxRecDepth 100000

theorem Ints.len_eq {w : World} {lo : Nat} {p : Option Addr} {n r : Nat} {s : List Int} (h : Ints w lo (.slice p n r) s) : n = s.length := by
  obtain ⟨a, c, e⟩ := h.form; simp at e; exact e.2.1
def PMem (rb k : Nat) (w : World) (e : Ending) (w' : World) : Prop := ∃ v xs, e = .returned v ∧ OwnI w' w.heap.size v xs ∧ xs.length ≤ 60 ∧ Rd w' rb k ∧ Chg rb (rb + 1) w w'
set_option maxHeartbeats 3200000 in
theorem someMemory_c (rb k : Nat) (w : World) (hr : Rd w rb k) (hk : k ≤ 700000) :
    Calls Try.prog 132 #[.pointer (some ⟨rb, 0, none⟩)] w (PMem rb (k + 70) w) := by
  have hlt := hr.lt
  go_enter Try.func132, Try.ntmps132
  go_wp2_with fail
  refine (oneLit_c _ _ _ rb _ _ (by repeat (first | (with_reducible exact hr) | (with_reducible apply Rd.drewN) | (with_reducible apply Rd.drew) | (with_reducible apply Rd.alloc) | ((with_reducible apply Rd.set2); (· first | assumption | (simp; omega) | (simp; done) | omega)))) (by omega) (by rfl) (by rfl) (by constructor <;> simp) (by first | rfl | simp)).mono ?_
  rintro e w1 ⟨n, rfl, hn, hr1, hC1⟩
  have hn' : 5 ≤ n ∧ n ≤ 60 := by simp [litL] at hn; omega
  clear hn
  obtain ⟨m, rfl⟩ : ∃ m : Nat, n = m := ⟨n.toNat, by omega⟩
  have ho1 : OwnI w1 w.heap.size (.slice (some ⟨w.heap.size, 0, none⟩) 0 0) [] := ((OwnI.lit0 w w.heap.size (Nat.le_refl _)).ext qXo).chg hC1 hlt
  have hX1 : Chg rb (rb + 1) w w1 := Chg.trans (Chg.of_ext qXo) hC1
  clear hC1
  go_wp2_with fail
  go_loopw [3, 4] (fun v i wr => ∃ (q m : Nat) (xs : List Int), i = .int .i64 m ∧ (xs.length + m ≤ 60 ∧ 1 ≤ xs.length + m) ∧ OwnI wr w.heap.size v xs ∧ Rd wr rb q ∧ q + m ≤ k + 62 ∧ Chg rb (rb + 1) w wr) (fun _ i _ => (intOf i).toNat)
  case atStart => exact ⟨k + 1, m, [], rfl, by simp; omega, ho1, hr1, by omega, hX1⟩
  case round =>
    obtain ⟨q, m, xs, rfl, hl, ho, hr, hq, hX⟩ := hrel
    have hz : w.heap.size ≤ wr.heap.size := hX.size
    cases m with
    | succ m =>
      have hI : (0 : Int) < ((m + 1 : Nat) : Int) := by omega
      have hI2 : ((m + 1 : Nat) : Int) - 1 = (m : Int) := by omega
      go_wp2_with fail
      refine (pick1_c _ rb _ _ hr (by omega) (by omega)).mono ?_
      rintro e w2 ⟨x, rfl, hx, hr2, hC2⟩
      have ho2 := ho.chg hC2 hlt
      have hX2 : Chg rb (rb + 1) w w2 := hX.trans hC2
      have hz2 : w.heap.size ≤ w2.heap.size := hX2.size
      clear hC2 hX ho hr hx
      replace ho2 := Lib.hid ho2
      replace hX2 := Lib.hid hX2
      replace hr2 := Lib.hid hr2
      go_wp2_with (at_builtin; refine wpList_app rfl (.tmp 13) (.tmp 16) rfl rfl rfl (ho2.out.ext ((Ext.refl _).alloc _)) (Ints.one _ 0 _ (Nat.zero_le _)) (by simp only [List.length_cons, List.length_nil]; omega) (by simp; omega) ?_; intro v' w3 ho3 _ hb3 _; replace ho3 := Lib.hid ho3)
      go_roundw
      case rel => exact ⟨q + 1, m, xs ++ [x], by first | rfl | go_num, by simp; omega, ho3.out, (hr2.out.alloc _).below hb3 hlt, by omega, Rch.below (hX2.out.ext qXo) hb3⟩
      case measure => simp [intOf]
    | zero =>
      have hne : xs ≠ [] := by intro h; subst h; simp at hl
      obtain ⟨g, n2, c, rfl, hn2, G, G'⟩ := ho.row2 hne
      have hlx : 0 < xs.length := by omega
      have hnI : Hid ((0 : Int) < (n2 : Int)) := Lib.hid (by have := hn2.out; omega)
      replace hne := Lib.hid hne
      go_wp2_with fail
      refine (pick1_c _ rb _ _ hr (by omega) (by omega)).mono ?_
      rintro e w2 ⟨x, rfl, hx, hr2, hC2⟩
      have ho2 := ho.chg hC2 hlt
      have hX2 : Chg rb (rb + 1) w w2 := hX.trans hC2
      clear hC2 hX ho hr hx
      by_cases hx0 : x = 0
      · subst hx0
        go_wp2_with fail
        refine (oneLit_c _ _ _ rb _ _ (by exact hr2) (by omega) (by rfl) (by rfl) (by constructor <;> simp) (by first | rfl | simp)).mono ?_
        rintro e w3 ⟨y, rfl, hy, hr3, hC3⟩
        have ho3 := (ho2.ext qXo).chg hC3 hlt
        have hX3 : Chg rb (rb + 1) w w3 := (hX2.ext qXo).trans hC3
        have hz3 := hX3.size
        clear hC3 hX2 ho2 hr2 hy
        obtain ⟨A1, A2⟩ := ho3.cell 0 hlx
        have hnI' := hnI.out
        replace ho3 := Lib.hid ho3
        go_wp2_with fail
        go_ret
        exact ⟨_, xs.set 0 y, rfl, ho3.out.set 0 y hlx, by simp; omega, (Rd.set2 (by simp; omega) hr3).mono (by omega), Rch.set hX3 (by simp; omega) _⟩
      · have hxe : (x == 0) = false := by simpa using hx0
        replace hx0 := Lib.hid hx0
        replace ho2 := Lib.hid ho2
        go_wp2_with fail
        go_ret
        exact ⟨_, xs, rfl, ho2.out, by omega, hr2.mono (by omega), hX2⟩

/-- a memory and a view are drawn -/
def PMV (lo : Nat) (e : Ending) (w' : World) : Prop := ∃ (mem : List Int) (p0 : Option Addr) (n0 r0 : Nat) (b : Int) (s t : List Int) (p1 p2 : Option Addr) (n1 r1 n2 r2 : Nat), e = .returned (.tuple #[.slice p0 n0 r0, .agg #[.int .i64 b, .slice p1 n1 r1, .slice p2 n2 r2]]) ∧ mem.length ≤ 60 ∧
  Ints w' lo (.slice p0 n0 r0) mem ∧ Ints w' lo (.slice p1 n1 r1) s ∧ Ints w' lo (.slice p2 n2 r2) t ∧ s.length ≤ 4 ∧ t.length ≤ 5
set_option maxHeartbeats 3200000 in
theorem memView_c (rb k : Nat) (w : World) (hr : Rd w rb k) (hk : k ≤ 600000) :
    Calls Try.prog 78 #[.pointer (some ⟨rb, 0, none⟩)] w (fun e w' => PMV w.heap.size e w' ∧ Rd w' rb (k + 280) ∧ Chg rb (rb + 1) w w') := by
  have hlt := hr.lt
  go_enter Try.func78, Try.ntmps78
  go_wp2_with fail
  refine (someMemory_c rb k _ (hr.alloc _) (by omega)).mono ?_
  rintro e w1 ⟨v, mem, rfl, o0, hml, hr1, C1⟩
  have i0 := (o0.ints (by omega)).lower (show w.heap.size + 1 ≤ _ by simp)
  clear o0
  obtain ⟨p0, n0, r0, rfl⟩ := i0.any
  have E0 : Ext w (w.alloc (.cells #[.int .i64 0, .slice none 0 0, .slice none 0 0] 25)) := qXt
  have X1 : Chg rb (rb + 1) w w1 := (Chg.of_ext E0).trans C1
  have q0 : w1.cell? ⟨w.heap.size, 0, none⟩ = some (.int .i64 0) := C1.cell (.inr (by omega)) (by simp)
  have q1 : w1.cell? ⟨w.heap.size, 1, none⟩ = some (.slice none 0 0) := C1.cell (.inr (by omega)) (by simp)
  have q2 : w1.cell? ⟨w.heap.size, 2, none⟩ = some (.slice none 0 0) := C1.cell (.inr (by omega)) (by simp)
  have f0 : w1.frozen? ⟨w.heap.size, 0, none⟩ = false := C1.frzO (.inr (by omega)) (by simp) (by simp)
  have f1 : w1.frozen? ⟨w.heap.size, 1, none⟩ = false := C1.frzO (.inr (by omega)) (by simp) (by simp)
  have f2 : w1.frozen? ⟨w.heap.size, 2, none⟩ = false := C1.frzO (.inr (by omega)) (by simp) (by simp)
  have z1 : w.heap.size < w1.heap.size := qB q0
  clear C1 E0 hr
  go_wp2_with fail
  refine (someView_c _ _ _ hr1 (by omega)).mono ?_
  rintro e w2 ⟨b, s, t, p1, p2, n1, r1, n2, r2, rfl, i1, i2, l1, l2, hr2, C⟩
  have X2 : Chg rb (rb + 1) w w2 := X1.trans C
  replace i0 := i0.chg C (by omega)
  replace q0 := C.cell (.inr (by omega)) q0
  replace q1 := C.cell (.inr (by omega)) q1
  replace q2 := C.cell (.inr (by omega)) q2
  replace f0 := C.frzO (.inr (by omega)) (by omega) f0
  replace f1 := C.frzO (.inr (by omega)) (by omega) f1
  replace f2 := C.frzO (.inr (by omega)) (by omega) f2
  have z2 : w.heap.size < w2.heap.size := qB q0
  have z12 := C.size
  clear C X1 hr1
  go_wp2_with fail
  refine bodyPost_ret (v := .tuple #[.slice p0 n0 r0, .agg #[.int .i64 b, .slice p1 n1 r1, .slice p2 n2 r2]]) (by simp only [results, Try.results78]; go_simp) rfl ?_
  have K := Chg.three (lo := w.heap.size) w2 (.int .i64 b) (.slice p1 n1 r1) (.slice p2 n2 r2)
  replace i1 := i1.chg K (by omega)
  replace i2 := i2.chg K (by omega)
  exact ⟨⟨mem, p0, n0, r0, b, s, t, p1, p2, n1, r1, n2, r2, rfl, hml, (i0.chg K (by omega)).lower (by omega), i1.lower (by omega), i2.lower (by omega), l1, l2⟩, (Rd.set2 (by simp; omega) (Rd.set2 (by simp; omega) (Rd.set2 (by simp; omega) hr2))).mono (by omega), Rch.set (Rch.set (Rch.set X2 (by simp) _) (by simp) _) (by simp) _⟩
def PMemView (w : World) (e : Ending) (w' : World) : Prop := PMV w.heap.size e w' ∧ Ext w w'

end Go.Proofs.Ytonnnjaooifpjaa

/- Walks: views and memories are drawn. -/
namespace Go.Proofs.Ytonnnjaooifpjaa
open Go.RowKit
set_option linter.unusedVariables false
set_option maxRecDepth 100000

set_option maxHeartbeats 3200000 in
theorem drawIsCol_c (a : Option Addr) (n cap : Nat) (w : World) (hb : BysIn w a n cap) :
    Calls Try.prog 15 #[.slice a n cap] w (PDraw w) := by
  go_enter Try.func15, Try.ntmps15
  go_wp2_with fail
  refine (newReader_c a n cap _ (hb.ext qXt)).mono ?_
  rintro e w1 ⟨rfl, hr, x1⟩
  simp only [World.size_alloc] at hr
  have X1 : Ext w w1 := Ext.trans qXt x1
  have q0 : w1.cell? ⟨w.heap.size, 0, none⟩ = some (.int .i64 0) := x1.cell (by simp)
  have q1 : w1.cell? ⟨w.heap.size, 1, none⟩ = some (.slice none 0 0) := x1.cell (by simp)
  have q2 : w1.cell? ⟨w.heap.size, 2, none⟩ = some (.slice none 0 0) := x1.cell (by simp)
  have f0 : w1.frozen? ⟨w.heap.size, 0, none⟩ = false := x1.frz (by simp) (by simp)
  have f1 : w1.frozen? ⟨w.heap.size, 1, none⟩ = false := x1.frz (by simp) (by simp)
  have f2 : w1.frozen? ⟨w.heap.size, 2, none⟩ = false := x1.frz (by simp) (by simp)
  have z1 := hr.lt
  clear hb x1
  go_wp2_with fail
  refine (someView_c _ 0 _ hr (by omega)).mono ?_
  rintro e w2 ⟨b, s, t, p1, p2, n1, r1, n2, r2, rfl, i1, i2, l1, l2, hr2, C⟩
  have X2 : Ext w w2 := Rch.toExt' C (by omega) X1
  replace q0 := C.cell (.inl (by omega)) q0
  replace q1 := C.cell (.inl (by omega)) q1
  replace q2 := C.cell (.inl (by omega)) q2
  replace f0 := C.frzO (.inl (by omega)) (by omega) f0
  replace f1 := C.frzO (.inl (by omega)) (by omega) f1
  replace f2 := C.frzO (.inl (by omega)) (by omega) f2
  have z2 : w.heap.size < w2.heap.size := qB q0
  clear C X1 hr
  go_wp2_with fail
  refine bodyPost_ret (v := .agg #[.int .i64 b, .slice p1 n1 r1, .slice p2 n2 r2]) (by simp only [results, Try.results15]; go_simp) rfl ?_
  have K := Chg.three (lo := w.heap.size) w2 (.int .i64 b) (.slice p1 n1 r1) (.slice p2 n2 r2)
  replace i1 := i1.chg K (by omega)
  replace i2 := i2.chg K (by omega)
  have X9 : Ext w (((w2.setCell ⟨w.heap.size, 0, none⟩ (.int .i64 b)).setCell ⟨w.heap.size, 1, none⟩ (.slice p1 n1 r1)).setCell ⟨w.heap.size, 2, none⟩ (.slice p2 n2 r2)) := Ext.chg (lo := w.heap.size) (hi := w.heap.size + 1) X2 K (Nat.le_refl _)
  exact ⟨b, s, t, p1, p2, n1, r1, n2, r2, rfl, i1.lower (by omega), i2.lower (by omega), l1, l2, X9⟩


set_option maxHeartbeats 3200000 in
theorem drawTensorOf_c (a : Option Addr) (n cap : Nat) (w : World) (hb : BysIn w a n cap) :
    Calls Try.prog 23 #[.slice a n cap] w (PMemView w) := by
  go_enter Try.func23, Try.ntmps23
  go_wp2_with fail
  refine (newReader_c a n cap _ (hb.ext qXt)).mono ?_
  rintro e w1 ⟨rfl, hr, x1⟩
  simp only [World.size_alloc] at hr
  have X1 : Ext w w1 := Ext.trans qXt x1
  have q0 : w1.cell? ⟨w.heap.size, 0, none⟩ = some (.int .i64 0) := x1.cell (by simp)
  have q1 : w1.cell? ⟨w.heap.size, 1, none⟩ = some (.slice none 0 0) := x1.cell (by simp)
  have q2 : w1.cell? ⟨w.heap.size, 2, none⟩ = some (.slice none 0 0) := x1.cell (by simp)
  have f0 : w1.frozen? ⟨w.heap.size, 0, none⟩ = false := x1.frz (by simp) (by simp)
  have f1 : w1.frozen? ⟨w.heap.size, 1, none⟩ = false := x1.frz (by simp) (by simp)
  have f2 : w1.frozen? ⟨w.heap.size, 2, none⟩ = false := x1.frz (by simp) (by simp)
  have z1 := hr.lt
  clear hb x1
  go_wp2_with fail
  refine (memView_c _ 0 _ hr (by omega)).mono ?_
  rintro e w2 ⟨⟨mem, p0, n0, r0, b, s, t, p1, p2, n1, r1, n2, r2, rfl, hml, i0, i1, i2, l1, l2⟩, hr2, C⟩
  have X2 : Ext w w2 := Rch.toExt' C (by omega) X1
  replace q0 := C.cell (.inl (by omega)) q0
  replace q1 := C.cell (.inl (by omega)) q1
  replace q2 := C.cell (.inl (by omega)) q2
  replace f0 := C.frzO (.inl (by omega)) (by omega) f0
  replace f1 := C.frzO (.inl (by omega)) (by omega) f1
  replace f2 := C.frzO (.inl (by omega)) (by omega) f2
  have z2 : w.heap.size < w2.heap.size := qB q0
  clear C X1 hr
  go_wp2_with fail
  refine bodyPost_ret (v := .tuple #[.slice p0 n0 r0, .agg #[.int .i64 b, .slice p1 n1 r1, .slice p2 n2 r2]]) (by simp only [results, Try.results23]; go_simp) rfl ?_
  have K := Chg.three (lo := w.heap.size) w2 (.int .i64 b) (.slice p1 n1 r1) (.slice p2 n2 r2)
  replace i0 := i0.chg K (by omega)
  replace i1 := i1.chg K (by omega)
  replace i2 := i2.chg K (by omega)
  have X9 : Ext w (((w2.setCell ⟨w.heap.size, 0, none⟩ (.int .i64 b)).setCell ⟨w.heap.size, 1, none⟩ (.slice p1 n1 r1)).setCell ⟨w.heap.size, 2, none⟩ (.slice p2 n2 r2)) := Ext.chg (lo := w.heap.size) (hi := w.heap.size + 1) X2 K (Nat.le_refl _)
  exact ⟨⟨mem, p0, n0, r0, b, s, t, p1, p2, n1, r1, n2, r2, rfl, hml, i0.lower (by omega), i1.lower (by omega), i2.lower (by omega), l1, l2⟩, X9⟩


end Go.Proofs.Ytonnnjaooifpjaa

/- Walks: a view and a dimension are drawn. -/
namespace Go.Proofs.Ytonnnjaooifpjaa
open Go.RowKit
set_option linter.unusedVariables false
set_option maxRecDepth 100000

def SDim (rb k : Nat) (w : World) (e : Ending) (w' : World) : Prop := ∃ (b : Int) (s t : List Int) (p1 p2 : Option Addr) (r1 r2 : Nat) (x : Int), e = .returned (.tuple #[.agg #[.int .i64 b, .slice p1 s.length r1, .slice p2 t.length r2], .int .i64 x]) ∧
 Ints w' w.heap.size (.slice p1 s.length r1) s ∧ Ints w' w.heap.size (.slice p2 t.length r2) t ∧ s.length ≤ 4 ∧ t.length ≤ 5 ∧ (-1 ≤ x ∧ x ≤ 5) ∧ Rd w' rb k ∧ Chg rb (rb + 1) w w'
set_option maxHeartbeats 3200000 in
theorem dimOf_c (rb k : Nat) (w : World) (hr : Rd w rb k) (hk : k ≤ 600000) :
  Calls Try.prog 88 #[.pointer (some ⟨rb, 0, none⟩)] w (SDim rb (k + 300) w) := by
 have hlt := hr.lt
 go_enter Try.func88, Try.ntmps88
 go_wp2_with fail
 generalize hW1 : w.alloc (.cells #[.int .i64 0, .slice none 0 0, .slice none 0 0] 25) = w1 at *
 have Lw1 : Ext w w1 := by subst hW1; exact qXt
 have Xw1 : Rch rb w w1 := Rch.ext (Rch.refl rb w) Lw1
 replace hr := hr.ext Lw1
 have q0 : w1.cell? ⟨w.heap.size, 0, none⟩ = some (.int .i64 0) := by subst hW1; exact qCl
 have q1 : w1.cell? ⟨w.heap.size, 1, none⟩ = some (.slice none 0 0) := by subst hW1; exact qCl
 have q2 : w1.cell? ⟨w.heap.size, 2, none⟩ = some (.slice none 0 0) := by subst hW1; exact qCl
 have f_q0 : w1.frozen? ⟨w.heap.size, 0, none⟩ = false := by subst hW1; exact qFz
 have f_q1 : w1.frozen? ⟨w.heap.size, 1, none⟩ = false := by subst hW1; exact qFz
 have f_q2 : w1.frozen? ⟨w.heap.size, 2, none⟩ = false := by subst hW1; exact qFz
 have z_q : w.heap.size < w1.heap.size := qB q0
 have s_w1 : w.heap.size ≤ w1.heap.size := Xw1.size
 clear hW1
 refine (someView_c rb k _ hr (by omega)).mono ?_
 rintro e w2 ⟨b, s, t, p1, p2, n1, r1, n2, r2, rfl, i1, i2, l1, l2, Rw2, Cw2⟩
 have zc_w2 := Cw2.size
 have Xw2 : Rch rb w w2 := Rch.step (Xw1) Cw2
 replace q0 := Cw2.cell (by omega) q0
 replace f_q0 := Cw2.frzO (by omega) (by omega) f_q0
 replace q1 := Cw2.cell (by omega) q1
 replace f_q1 := Cw2.frzO (by omega) (by omega) f_q1
 replace q2 := Cw2.cell (by omega) q2
 replace f_q2 := Cw2.frzO (by omega) (by omega) f_q2
 have z_q : w.heap.size < w2.heap.size := qB q0
 have s_w2 : w.heap.size ≤ w2.heap.size := Xw2.size
 clear hr Cw2
 obtain rfl := i1.len_eq
 obtain rfl := i2.len_eq
 go_wp2_with fail
 generalize hW2 : w2.alloc (.cells #[.int .i64 b, .slice p1 s.length r1, .slice p2 t.length r2] 25) = w3 at *
 have Lw3 : Ext w2 w3 := by subst hW2; exact qXt
 have Xw3 : Rch rb w w3 := Rch.ext Xw2 Lw3
 replace Rw2 := Rw2.ext Lw3
 replace q0 := Lw3.cell q0
 replace q1 := Lw3.cell q1
 replace q2 := Lw3.cell q2
 replace f_q0 := Lw3.frz z_q f_q0
 replace f_q1 := Lw3.frz z_q f_q1
 replace f_q2 := Lw3.frz z_q f_q2
 have v0 : w3.cell? ⟨w2.heap.size, 0, none⟩ = some (.int .i64 b) := by subst hW2; exact qCl
 have v1 : w3.cell? ⟨w2.heap.size, 1, none⟩ = some (.slice p1 s.length r1) := by subst hW2; exact qCl
 have v2 : w3.cell? ⟨w2.heap.size, 2, none⟩ = some (.slice p2 t.length r2) := by subst hW2; exact qCl
 have z_q : w.heap.size < w3.heap.size := qB q0
 have z_v : w2.heap.size < w3.heap.size := qB v0
 replace i1 := i1.ext Lw3
 replace i2 := i2.ext Lw3
 have s_w3 : w.heap.size ≤ w3.heap.size := Xw3.size
 clear hW2
 go_wp2_with fail
 have hw0 : IntKind.i64.wrap ((s.length : Int) + 1) = (s.length : Int) + 1 := IntWalk.i64_in _ (by omega)
 refine wp_region_held_drew (S := fun w' => w'.cell? ⟨w2.heap.size, 0, none⟩ = some (.int .i64 b) ∧ w'.cell? ⟨w2.heap.size, 1, none⟩ = some (.slice p1 s.length r1) ∧ w'.cell? ⟨w2.heap.size, 2, none⟩ = some (.slice p2 t.length r2)) qKr ⟨v0, v1, v2⟩ (fun hHeld => ?_)
 refine qHk (v := ?_) 0 rfl (.inl ⟨by rfl, ?_⟩) ?_
 rotate_left
 ·
  (intro w hSw; (try dsimp only at hSw); go_simp; try with_reducible rfl)
 try simp only [Act.put, qa, qb, qc, qD, qE, qF]
 refine qHk (v := ?_) 1 rfl (.inl ⟨by rfl, ?_⟩) ?_
 rotate_left
 ·
  (intro w hSw; (try dsimp only at hSw); go_simp; try with_reducible rfl)
 try simp only [Act.put, qa, qb, qc, qD, qE, qF]
 refine qHk (v := ?_) 2 rfl (.inl ⟨by rfl, ?_⟩) ?_
 rotate_left
 ·
  (intro w hSw; (try dsimp only at hSw); go_simp; try with_reducible rfl)
 try simp only [Act.put, qa, qb, qc, qD, qE, qF]
 refine qHk (v := ?_) 3 rfl (.inl ⟨by rfl, ?_⟩) ?_
 rotate_left
 ·
  (intro w hSw; (try dsimp only at hSw); go_simp; try with_reducible rfl)
 try simp only [Act.put, qa, qb, qc, qD, qE, qF]
 refine qHk (v := ?_) 4 rfl (.inl ⟨by rfl, ?_⟩) ?_
 rotate_left
 ·
  (intro w hSw; (try dsimp only at hSw); go_simp; try with_reducible rfl)
 try simp only [Act.put, qa, qb, qc, qD, qE, qF]
 refine qHk (v := ?_) 5 rfl (.inl ⟨by rfl, ?_⟩) ?_
 rotate_left
 ·
  (intro w hSw; (try dsimp only at hSw); go_simp; try with_reducible rfl)
 try simp only [Act.put, qa, qb, qc, qD, qE, qF]
 refine qHk (v := ?_) 6 rfl (.inl ⟨by rfl, ?_⟩) ?_
 rotate_left
 ·
  (intro w hSw; (try dsimp only at hSw); go_simp; try with_reducible rfl)
 try simp only [Act.put, qa, qb, qc, qD, qE, qF]
 refine qHk (v := ?_) 8 rfl (.inl ⟨by rfl, ?_⟩) ?_
 rotate_left
 ·
  (intro w hSw; (try dsimp only at hSw); go_simp; try with_reducible rfl)
 try simp only [Act.put, qa, qb, qc, qD, qE, qF]
 refine qHk (v := ?_) 9 rfl (.inl ⟨by rfl, ?_⟩) ?_
 rotate_left
 ·
  (intro w hSw; (try dsimp only at hSw); go_simp; try with_reducible rfl)
 try simp only [Act.put, qa, qb, qc, qD, qE, qF]
 refine qHk (v := ?_) 10 rfl (.inl ⟨by rfl, ?_⟩) ?_
 rotate_left
 ·
  (intro w hSw; (try dsimp only at hSw); go_simp; try with_reducible rfl)
 try simp only [Act.put, qa, qb, qc, qD, qE, qF]
 refine qHk (v := ?_) 11 rfl (.inl ⟨by rfl, ?_⟩) ?_
 rotate_left
 ·
  (intro w hSw; (try dsimp only at hSw); go_simp; try with_reducible rfl)
 try simp only [Act.put, qa, qb, qc, qD, qE, qF]
 refine qHk (v := ?_) 12 rfl (.inl ⟨by rfl, ?_⟩) ?_
 rotate_left
 ·
  (intro w hSw; (try dsimp only at hSw); go_simp; try with_reducible rfl)
 try simp only [Act.put, qa, qb, qc, qD, qE, qF]
 refine qHr 7 rfl (fun K hK => ?_)
 try simp only [Act.put, qa, qb, qc, qD, qE, qF]
 go_simp
 refine (pick1_c ((s.length : Int) + 1) rb _ _ (Rw2.ext qXt) (by omega) (by omega)).mono ?_
 rintro e w4 ⟨x1, rfl, hx1, Rw4, Cw4⟩
 have Ew4 : Ext w3 (w3.drew) := qXt
 have e_w4 := Ew4.size
 have zc_w4 := Cw4.size
 simp only [World.size_drew, World.size_alloc] at zc_w4
 have Xw4 : Rch rb w w4 := Rch.step (Rch.ext Xw3 Ew4) Cw4
 replace q0 := Cw4.cell (by omega) (Ew4.cell q0)
 replace f_q0 := Cw4.frzO (by omega) (by omega) (Ew4.frz z_q f_q0)
 replace q1 := Cw4.cell (by omega) (Ew4.cell q1)
 replace f_q1 := Cw4.frzO (by omega) (by omega) (Ew4.frz z_q f_q1)
 replace q2 := Cw4.cell (by omega) (Ew4.cell q2)
 replace f_q2 := Cw4.frzO (by omega) (by omega) (Ew4.frz z_q f_q2)
 replace v0 := Cw4.cell (by omega) (Ew4.cell v0)
 replace v1 := Cw4.cell (by omega) (Ew4.cell v1)
 replace v2 := Cw4.cell (by omega) (Ew4.cell v2)
 have z_q : w.heap.size < w4.heap.size := qB q0
 have z_v : w2.heap.size < w4.heap.size := qB v0
 replace i1 := (i1.ext Ew4).chg Cw4 (by omega)
 replace i2 := (i2.ext Ew4).chg Cw4 (by omega)
 have s_w4 : w.heap.size ≤ w4.heap.size := Xw4.size
 clear Rw2 Cw4 Ew4
 refine hK.out _ _ ⟨v0, v1, v2⟩ (fun hHeld => ?_)
 clear hK K
 try simp only [Act.put, qa, qb, qc, qD, qE, qF]
 refine qHr 13 rfl (fun K hK => ?_)
 try simp only [Act.put, qa, qb, qc, qD, qE, qF]
 go_simp
 refine (pick1_c ((s.length : Int) + 1) rb _ _ Rw4 (by omega) (by omega)).mono ?_
 rintro e w5 ⟨x2, rfl, hx2, Rw5, Cw5⟩
 have zc_w5 := Cw5.size
 have Xw5 : Rch rb w w5 := Rch.step (Xw4) Cw5
 replace q0 := Cw5.cell (by omega) q0
 replace f_q0 := Cw5.frzO (by omega) (by omega) f_q0
 replace q1 := Cw5.cell (by omega) q1
 replace f_q1 := Cw5.frzO (by omega) (by omega) f_q1
 replace q2 := Cw5.cell (by omega) q2
 replace f_q2 := Cw5.frzO (by omega) (by omega) f_q2
 replace v0 := Cw5.cell (by omega) v0
 replace v1 := Cw5.cell (by omega) v1
 replace v2 := Cw5.cell (by omega) v2
 have z_q : w.heap.size < w5.heap.size := qB q0
 have z_v : w2.heap.size < w5.heap.size := qB v0
 replace i1 := i1.chg Cw5 (by omega)
 replace i2 := i2.chg Cw5 (by omega)
 have s_w5 : w.heap.size ≤ w5.heap.size := Xw5.size
 clear Rw4 Cw5
 refine hK.out _ _ ⟨v0, v1, v2⟩ (fun hHeld => ?_)
 clear hK K
 try simp only [Act.put, qa, qb, qc, qD, qE, qF]
 refine qHr 14 rfl (fun K hK => ?_)
 try simp only [Act.put, qa, qb, qc, qD, qE, qF]
 go_simp
 skip
 refine hK.out _ _ ⟨(show Ext w5 _ from qXt).cell v0, (show Ext w5 _ from qXt).cell v1, (show Ext w5 _ from qXt).cell v2⟩ (fun hHeld => ?_)
 clear hK K
 try simp only [Act.put, qa, qb, qc, qD, qE, qF]
 refine qHr 15 rfl (fun K hK => ?_)
 try simp only [Act.put, qa, qb, qc, qD, qE, qF]
 go_simp
 refine (oneLit_c _ _ _ rb _ _ Rw5 (by omega) (by rfl) (by rfl) (by constructor <;> simp) (by first | rfl | simp)).mono ?_
 rintro e w6 ⟨x, rfl, hx, Rw6, Cw6⟩
 have Ew6 : Ext w5 (w5.alloc (.cells #[.int .i64 0, .int .i64 x1, .int .i64 1, .int .i64 x2, .int .i64 (-1)] 3)) := qXt
 have e_w6 := Ew6.size
 have zc_w6 := Cw6.size
 have Xw6 : Rch rb w w6 := Rch.step (Rch.ext Xw5 Ew6) Cw6
 replace q0 := Cw6.cell (by omega) (Ew6.cell q0)
 replace f_q0 := Cw6.frzO (by omega) (by omega) (Ew6.frz z_q f_q0)
 replace q1 := Cw6.cell (by omega) (Ew6.cell q1)
 replace f_q1 := Cw6.frzO (by omega) (by omega) (Ew6.frz z_q f_q1)
 replace q2 := Cw6.cell (by omega) (Ew6.cell q2)
 replace f_q2 := Cw6.frzO (by omega) (by omega) (Ew6.frz z_q f_q2)
 replace v0 := Cw6.cell (by omega) (Ew6.cell v0)
 replace v1 := Cw6.cell (by omega) (Ew6.cell v1)
 replace v2 := Cw6.cell (by omega) (Ew6.cell v2)
 have z_q : w.heap.size < w6.heap.size := qB q0
 have z_v : w2.heap.size < w6.heap.size := qB v0
 replace i1 := (i1.ext Ew6).chg Cw6 (by omega)
 replace i2 := (i2.ext Ew6).chg Cw6 (by omega)
 have s_w6 : w.heap.size ≤ w6.heap.size := Xw6.size
 clear Rw5 Cw6 Ew6
 replace hx : -1 ≤ x ∧ x ≤ 5 := by simp [litL] at hx; omega
 refine hK.out _ _ ⟨v0, v1, v2⟩ (fun hHeld => ?_)
 clear hK K
 try simp only [Act.put, qa, qb, qc, qD, qE, qF]
 refine qHr 16 rfl (fun K hK => ?_)
 try simp only [Act.put, qa, qb, qc, qD, qE, qF]
 go_simp
 generalize hW3 : (((w6.setCell ⟨w.heap.size, 0, none⟩ (.int .i64 b)).setCell ⟨w.heap.size, 1, none⟩ (.slice p1 s.length r1)).setCell ⟨w.heap.size, 2, none⟩ (.slice p2 t.length r2)) = w7 at *
 have Kw7 : Chg (w.heap.size) (w.heap.size + 1) w6 w7 := by subst hW3; exact qCh
 have Xw7 : Rch rb w w7 := by subst hW3; exact qRt
 replace Rw6 := (Rd.set2 (a := ⟨w.heap.size, 2, none⟩) (u := .slice p2 t.length r2) (show rb < w.heap.size by omega) (Rd.set2 (a := ⟨w.heap.size, 1, none⟩) (u := .slice p1 s.length r1) (show rb < w.heap.size by omega) (Rd.set2 (a := ⟨w.heap.size, 0, none⟩) (u := .int .i64 b) (show rb < w.heap.size by omega) Rw6)))
 rw [hW3] at Rw6
 replace q0 : w7.cell? ⟨w.heap.size, 0, none⟩ = some (.int .i64 b) := by subst hW3; go_simp
 replace f_q0 : w7.frozen? ⟨w.heap.size, 0, none⟩ = false := by subst hW3; go_simp
 replace q1 : w7.cell? ⟨w.heap.size, 1, none⟩ = some (.slice p1 s.length r1) := by subst hW3; go_simp
 replace f_q1 : w7.frozen? ⟨w.heap.size, 1, none⟩ = false := by subst hW3; go_simp
 replace q2 : w7.cell? ⟨w.heap.size, 2, none⟩ = some (.slice p2 t.length r2) := by subst hW3; go_simp
 replace f_q2 : w7.frozen? ⟨w.heap.size, 2, none⟩ = false := by subst hW3; go_simp
 replace v0 := Kw7.cell (by omega) v0
 replace v1 := Kw7.cell (by omega) v1
 replace v2 := Kw7.cell (by omega) v2
 replace i1 := i1.chg Kw7 (by omega)
 replace i2 := i2.chg Kw7 (by omega)
 clear Kw7
 have z_q : w.heap.size < w7.heap.size := qB q0
 have z_v : w2.heap.size < w7.heap.size := qB v0
 have s_w7 : w.heap.size ≤ w7.heap.size := Xw7.size
 clear hW3
 refine hK.out _ _ ⟨v0, v1, v2⟩ (fun hHeld => ?_)
 clear hK K
 try simp only [Act.put, qa, qb, qc, qD, qE, qF]
 refine qHk (v := ?_) 17 rfl (.inl ⟨by rfl, ?_⟩) ?_
 rotate_left
 ·
  (intro w hSw; (try dsimp only at hSw); go_simp; try with_reducible rfl)
 try simp only [Act.put, qa, qb, qc, qD, qE, qF]
 refine wpAnyH_done qKr ?_ _
 clear hHeld hw0
 go_wp2_with fail
 refine bodyPost_ret (v := .tuple #[.agg #[.int .i64 b, .slice p1 s.length r1, .slice p2 t.length r2], .int .i64 x]) (by simp only [results, Try.results88]; go_simp) rfl ?_
 exact ⟨b, s, t, p1, p2, r1, r2, x, rfl, i1.lower (by omega), i2.lower (by omega), l1, l2, hx, Rw6.mono (by omega), Xw7⟩

/-- a view, a dimension and a number are drawn -/
def PVDI (w : World) (e : Ending) (w' : World) : Prop := ∃ (b : Int) (s t : List Int) (p1 p2 : Option Addr) (r1 r2 : Nat) (d x : Int), e = .returned (.tuple #[.agg #[.int .i64 b, .slice p1 s.length r1, .slice p2 t.length r2], .int .i64 d, .int .i64 x]) ∧
 Ints w' w.heap.size (.slice p1 s.length r1) s ∧ Ints w' w.heap.size (.slice p2 t.length r2) t ∧ s.length ≤ 4 ∧ t.length ≤ 5 ∧ (-1 ≤ d ∧ d ≤ 5) ∧ (-100 ≤ x ∧ x ≤ 100) ∧ Ext w w'
set_option maxHeartbeats 3200000 in
theorem drawPickDim_c (a : Option Addr) (n cap : Nat) (w : World) (hb : BysIn w a n cap) :
  Calls Try.prog 41 #[.slice a n cap] w (PVDI w) := by
 go_enter Try.func41, Try.ntmps41
 go_wp2_with fail
 refine (newReader_c a n cap _ (hb.ext qXt)).mono ?_
 rintro e w1 ⟨rfl, hr, xw1⟩
 have Lw1 : Ext w w1 := Ext.trans qXt xw1
 have Xw1 : Ext w w1 := Lw1
 have q0 : w1.cell? ⟨w.heap.size, 0, none⟩ = some (.int .i64 0) := xw1.cell qCl
 have q1 : w1.cell? ⟨w.heap.size, 1, none⟩ = some (.slice none 0 0) := xw1.cell qCl
 have q2 : w1.cell? ⟨w.heap.size, 2, none⟩ = some (.slice none 0 0) := xw1.cell qCl
 have f_q0 : w1.frozen? ⟨w.heap.size, 0, none⟩ = false := xw1.frz (by simp <;> omega) qFz
 have f_q1 : w1.frozen? ⟨w.heap.size, 1, none⟩ = false := xw1.frz (by simp <;> omega) qFz
 have f_q2 : w1.frozen? ⟨w.heap.size, 2, none⟩ = false := xw1.frz (by simp <;> omega) qFz
 have z_q : w.heap.size < w1.heap.size := qB q0
 have s_w1 : w.heap.size ≤ w1.heap.size := Xw1.size
 clear xw1
 simp only [World.size_alloc] at hr
 have z1 := hr.lt
 clear hb
 go_wp2_with fail
 refine (dimOf_c _ 0 _ hr (by omega)).mono ?_
 rintro e w2 ⟨b, s, t, p1, p2, r1, r2, d, rfl, i1, i2, l1, l2, hd, Rw2, Cw2⟩
 have zc_w2 := Cw2.size
 have Xw2 : Ext w w2 := Rch.toExt' Cw2 (by omega) (Xw1)
 replace q0 := Cw2.cell (by omega) q0
 replace f_q0 := Cw2.frzO (by omega) (by omega) f_q0
 replace q1 := Cw2.cell (by omega) q1
 replace f_q1 := Cw2.frzO (by omega) (by omega) f_q1
 replace q2 := Cw2.cell (by omega) q2
 replace f_q2 := Cw2.frzO (by omega) (by omega) f_q2
 have z_q : w.heap.size < w2.heap.size := qB q0
 have s_w2 : w.heap.size ≤ w2.heap.size := Xw2.size
 clear hr Cw2
 go_wp2_with fail
 generalize hW4 : w2.alloc (.cells #[.int .i64 b, .slice p1 s.length r1, .slice p2 t.length r2] 25) = w3 at *
 have Lw3 : Ext w2 w3 := by subst hW4; exact qXt
 have Xw3 : Ext w w3 := Xw2.trans Lw3
 replace Rw2 := Rw2.ext Lw3
 replace q0 := Lw3.cell q0
 replace q1 := Lw3.cell q1
 replace q2 := Lw3.cell q2
 replace f_q0 := Lw3.frz z_q f_q0
 replace f_q1 := Lw3.frz z_q f_q1
 replace f_q2 := Lw3.frz z_q f_q2
 have v0 : w3.cell? ⟨w2.heap.size, 0, none⟩ = some (.int .i64 b) := by subst hW4; exact qCl
 have v1 : w3.cell? ⟨w2.heap.size, 1, none⟩ = some (.slice p1 s.length r1) := by subst hW4; exact qCl
 have v2 : w3.cell? ⟨w2.heap.size, 2, none⟩ = some (.slice p2 t.length r2) := by subst hW4; exact qCl
 have z_q : w.heap.size < w3.heap.size := qB q0
 have z_v : w2.heap.size < w3.heap.size := qB v0
 replace i1 := i1.ext Lw3
 replace i2 := i2.ext Lw3
 have s_w3 : w.heap.size ≤ w3.heap.size := Xw3.size
 clear hW4
 go_wp2_with fail
 refine wp_region_held_drew (S := fun w' => w'.cell? ⟨w2.heap.size, 0, none⟩ = some (.int .i64 b) ∧ w'.cell? ⟨w2.heap.size, 1, none⟩ = some (.slice p1 s.length r1) ∧ w'.cell? ⟨w2.heap.size, 2, none⟩ = some (.slice p2 t.length r2)) qKr ⟨v0, v1, v2⟩ (fun hHeld => ?_)
 refine qHk (v := ?_) 0 rfl (.inl ⟨by rfl, ?_⟩) ?_
 rotate_left
 ·
  (intro w hSw; (try dsimp only at hSw); go_simp; try with_reducible rfl)
 try simp only [Act.put, qa, qb, qc, qD, qE, qF]
 refine qHk (v := ?_) 1 rfl (.inl ⟨by rfl, ?_⟩) ?_
 rotate_left
 ·
  (intro w hSw; (try dsimp only at hSw); go_simp; try with_reducible rfl)
 try simp only [Act.put, qa, qb, qc, qD, qE, qF]
 refine qHk (v := ?_) 2 rfl (.inl ⟨by rfl, ?_⟩) ?_
 rotate_left
 ·
  (intro w hSw; (try dsimp only at hSw); go_simp; try with_reducible rfl)
 try simp only [Act.put, qa, qb, qc, qD, qE, qF]
 refine qHr 3 rfl (fun K hK => ?_)
 try simp only [Act.put, qa, qb, qc, qD, qE, qF]
 go_simp
 skip
 refine hK.out _ _ ⟨(show Ext w3 _ from qXt).cell v0, (show Ext w3 _ from qXt).cell v1, (show Ext w3 _ from qXt).cell v2⟩ (fun hHeld => ?_)
 clear hK K
 try simp only [Act.put, qa, qb, qc, qD, qE, qF]
 refine qHr 4 rfl (fun K hK => ?_)
 try simp only [Act.put, qa, qb, qc, qD, qE, qF]
 go_simp
 refine (oneLit_c #[.int .i64 0, .int .i64 1, .int .i64 (-1), .int .i64 2, .int .i64 (-2), .int .i64 5] 6 _ _ _ w3.drew (Rw2.ext qXt) (by omega) (by rfl) (by rfl) (by constructor <;> simp) (by first | rfl | simp)).mono ?_
 rintro e w4 ⟨x, rfl, hx, Rw4, Cw4⟩
 have Ew4 : Ext w3 (w3.drew.alloc (.cells #[.int .i64 0, .int .i64 1, .int .i64 (-1), .int .i64 2, .int .i64 (-2), .int .i64 5] 3)) := qXt
 have e_w4 := Ew4.size
 have zc_w4 := Cw4.size
 simp only [World.size_drew, World.size_alloc] at zc_w4
 have Xw4 : Ext w w4 := Rch.toExt' Cw4 (by omega) (Xw3.trans Ew4)
 replace q0 := Cw4.cell (by omega) (Ew4.cell q0)
 replace f_q0 := Cw4.frzO (by omega) (by omega) (Ew4.frz z_q f_q0)
 replace q1 := Cw4.cell (by omega) (Ew4.cell q1)
 replace f_q1 := Cw4.frzO (by omega) (by omega) (Ew4.frz z_q f_q1)
 replace q2 := Cw4.cell (by omega) (Ew4.cell q2)
 replace f_q2 := Cw4.frzO (by omega) (by omega) (Ew4.frz z_q f_q2)
 replace v0 := Cw4.cell (by omega) (Ew4.cell v0)
 replace v1 := Cw4.cell (by omega) (Ew4.cell v1)
 replace v2 := Cw4.cell (by omega) (Ew4.cell v2)
 have z_q : w.heap.size < w4.heap.size := qB q0
 have z_v : w2.heap.size < w4.heap.size := qB v0
 replace i1 := (i1.ext Ew4).chg Cw4 (by omega)
 replace i2 := (i2.ext Ew4).chg Cw4 (by omega)
 have s_w4 : w.heap.size ≤ w4.heap.size := Xw4.size
 clear Rw2 Cw4 Ew4
 replace hx : -100 ≤ x ∧ x ≤ 100 := by simp [litL] at hx; omega
 refine hK.out _ _ ⟨v0, v1, v2⟩ (fun hHeld => ?_)
 clear hK K
 try simp only [Act.put, qa, qb, qc, qD, qE, qF]
 refine qHr 5 rfl (fun K hK => ?_)
 try simp only [Act.put, qa, qb, qc, qD, qE, qF]
 go_simp
 generalize hW5 : (((w4.setCell ⟨w.heap.size, 0, none⟩ (.int .i64 b)).setCell ⟨w.heap.size, 1, none⟩ (.slice p1 s.length r1)).setCell ⟨w.heap.size, 2, none⟩ (.slice p2 t.length r2)) = w5 at *
 have Kw5 : Chg (w.heap.size) (w.heap.size + 1) w4 w5 := by subst hW5; exact qCh
 have Xw5 : Ext w w5 := by subst hW5; exact qXt
 replace q0 : w5.cell? ⟨w.heap.size, 0, none⟩ = some (.int .i64 b) := by subst hW5; go_simp
 replace f_q0 : w5.frozen? ⟨w.heap.size, 0, none⟩ = false := by subst hW5; go_simp
 replace q1 : w5.cell? ⟨w.heap.size, 1, none⟩ = some (.slice p1 s.length r1) := by subst hW5; go_simp
 replace f_q1 : w5.frozen? ⟨w.heap.size, 1, none⟩ = false := by subst hW5; go_simp
 replace q2 : w5.cell? ⟨w.heap.size, 2, none⟩ = some (.slice p2 t.length r2) := by subst hW5; go_simp
 replace f_q2 : w5.frozen? ⟨w.heap.size, 2, none⟩ = false := by subst hW5; go_simp
 replace v0 := Kw5.cell (by omega) v0
 replace v1 := Kw5.cell (by omega) v1
 replace v2 := Kw5.cell (by omega) v2
 replace i1 := i1.chg Kw5 (by omega)
 replace i2 := i2.chg Kw5 (by omega)
 clear Kw5
 have z_q : w.heap.size < w5.heap.size := qB q0
 have z_v : w2.heap.size < w5.heap.size := qB v0
 have s_w5 : w.heap.size ≤ w5.heap.size := Xw5.size
 clear hW5
 refine hK.out _ _ ⟨v0, v1, v2⟩ (fun hHeld => ?_)
 clear hK K
 try simp only [Act.put, qa, qb, qc, qD, qE, qF]
 refine qHk (v := ?_) 6 rfl (.inl ⟨by rfl, ?_⟩) ?_
 rotate_left
 ·
  (intro w hSw; (try dsimp only at hSw); go_simp; try with_reducible rfl)
 try simp only [Act.put, qa, qb, qc, qD, qE, qF]
 refine qHk (v := ?_) 7 rfl (.inl ⟨by rfl, ?_⟩) ?_
 rotate_left
 ·
  (intro w hSw; (try dsimp only at hSw); go_simp; try with_reducible rfl)
 try simp only [Act.put, qa, qb, qc, qD, qE, qF]
 refine wpAnyH_done qKr ?_ _
 clear hHeld
 go_wp2_with fail
 refine bodyPost_ret (v := .tuple #[.agg #[.int .i64 b, .slice p1 s.length r1, .slice p2 t.length r2], .int .i64 d, .int .i64 x]) (by simp only [results, Try.results41]; go_simp) rfl ?_
 exact ⟨b, s, t, p1, p2, r1, r2, d, x, rfl, i1.lower (by omega), i2.lower (by omega), l1, l2, hd, hx, Xw5⟩

end Go.Proofs.Ytonnnjaooifpjaa

/- Walks: views, dimensions and numbers are drawn. -/
namespace Go.Proofs.Ytonnnjaooifpjaa
open Go.RowKit
set_option linter.unusedVariables false
set_option maxRecDepth 100000

set_option maxHeartbeats 3200000 in
theorem drawWindowsOf_c (a : Option Addr) (n cap : Nat) (w : World) (hb : BysIn w a n cap) :
  Calls Try.prog 45 #[.slice a n cap] w (PVDI w) := by
 go_enter Try.func45, Try.ntmps45
 go_wp2_with fail
 refine (newReader_c a n cap _ (hb.ext qXt)).mono ?_
 rintro e w1 ⟨rfl, hr, xw1⟩
 have Lw1 : Ext w w1 := Ext.trans qXt xw1
 have Xw1 : Ext w w1 := Lw1
 have q0 : w1.cell? ⟨w.heap.size, 0, none⟩ = some (.int .i64 0) := xw1.cell qCl
 have q1 : w1.cell? ⟨w.heap.size, 1, none⟩ = some (.slice none 0 0) := xw1.cell qCl
 have q2 : w1.cell? ⟨w.heap.size, 2, none⟩ = some (.slice none 0 0) := xw1.cell qCl
 have f_q0 : w1.frozen? ⟨w.heap.size, 0, none⟩ = false := xw1.frz (by simp <;> omega) qFz
 have f_q1 : w1.frozen? ⟨w.heap.size, 1, none⟩ = false := xw1.frz (by simp <;> omega) qFz
 have f_q2 : w1.frozen? ⟨w.heap.size, 2, none⟩ = false := xw1.frz (by simp <;> omega) qFz
 have z_q : w.heap.size < w1.heap.size := qB q0
 have s_w1 : w.heap.size ≤ w1.heap.size := Xw1.size
 clear xw1
 simp only [World.size_alloc] at hr
 have z1 := hr.lt
 clear hb
 go_wp2_with fail
 refine (dimOf_c _ 0 _ hr (by omega)).mono ?_
 rintro e w2 ⟨b, s, t, p1, p2, r1, r2, d, rfl, i1, i2, l1, l2, hd, Rw2, Cw2⟩
 have zc_w2 := Cw2.size
 have Xw2 : Ext w w2 := Rch.toExt' Cw2 (by omega) (Xw1)
 replace q0 := Cw2.cell (by omega) q0
 replace f_q0 := Cw2.frzO (by omega) (by omega) f_q0
 replace q1 := Cw2.cell (by omega) q1
 replace f_q1 := Cw2.frzO (by omega) (by omega) f_q1
 replace q2 := Cw2.cell (by omega) q2
 replace f_q2 := Cw2.frzO (by omega) (by omega) f_q2
 have z_q : w.heap.size < w2.heap.size := qB q0
 have s_w2 : w.heap.size ≤ w2.heap.size := Xw2.size
 clear hr Cw2
 go_wp2_with fail
 generalize hW1 : w2.alloc (.cells #[.int .i64 b, .slice p1 s.length r1, .slice p2 t.length r2] 25) = w3 at *
 have Lw3 : Ext w2 w3 := by subst hW1; exact qXt
 have Xw3 : Ext w w3 := Xw2.trans Lw3
 replace Rw2 := Rw2.ext Lw3
 replace q0 := Lw3.cell q0
 replace q1 := Lw3.cell q1
 replace q2 := Lw3.cell q2
 replace f_q0 := Lw3.frz z_q f_q0
 replace f_q1 := Lw3.frz z_q f_q1
 replace f_q2 := Lw3.frz z_q f_q2
 have v0 : w3.cell? ⟨w2.heap.size, 0, none⟩ = some (.int .i64 b) := by subst hW1; exact qCl
 have v1 : w3.cell? ⟨w2.heap.size, 1, none⟩ = some (.slice p1 s.length r1) := by subst hW1; exact qCl
 have v2 : w3.cell? ⟨w2.heap.size, 2, none⟩ = some (.slice p2 t.length r2) := by subst hW1; exact qCl
 have z_q : w.heap.size < w3.heap.size := qB q0
 have z_v : w2.heap.size < w3.heap.size := qB v0
 replace i1 := i1.ext Lw3
 replace i2 := i2.ext Lw3
 have s_w3 : w.heap.size ≤ w3.heap.size := Xw3.size
 clear hW1
 go_wp2_with fail
 refine wp_region_held_drew (S := fun w' => w'.cell? ⟨w2.heap.size, 0, none⟩ = some (.int .i64 b) ∧ w'.cell? ⟨w2.heap.size, 1, none⟩ = some (.slice p1 s.length r1) ∧ w'.cell? ⟨w2.heap.size, 2, none⟩ = some (.slice p2 t.length r2)) qKr ⟨v0, v1, v2⟩ (fun hHeld => ?_)
 refine qHk (v := ?_) 0 rfl (.inl ⟨by rfl, ?_⟩) ?_
 rotate_left
 ·
  (intro w hSw; (try dsimp only at hSw); go_simp; try with_reducible rfl)
 try simp only [Act.put, qa, qb, qc, qD, qE, qF]
 refine qHk (v := ?_) 1 rfl (.inl ⟨by rfl, ?_⟩) ?_
 rotate_left
 ·
  (intro w hSw; (try dsimp only at hSw); go_simp; try with_reducible rfl)
 try simp only [Act.put, qa, qb, qc, qD, qE, qF]
 refine qHk (v := ?_) 2 rfl (.inl ⟨by rfl, ?_⟩) ?_
 rotate_left
 ·
  (intro w hSw; (try dsimp only at hSw); go_simp; try with_reducible rfl)
 try simp only [Act.put, qa, qb, qc, qD, qE, qF]
 refine qHr 3 rfl (fun K hK => ?_)
 try simp only [Act.put, qa, qb, qc, qD, qE, qF]
 go_simp
 skip
 refine hK.out _ _ ⟨(show Ext w3 _ from qXt).cell v0, (show Ext w3 _ from qXt).cell v1, (show Ext w3 _ from qXt).cell v2⟩ (fun hHeld => ?_)
 clear hK K
 try simp only [Act.put, qa, qb, qc, qD, qE, qF]
 refine qHr 4 rfl (fun K hK => ?_)
 try simp only [Act.put, qa, qb, qc, qD, qE, qF]
 go_simp
 refine (oneLit_c #[.int .i64 2, .int .i64 1, .int .i64 3, .int .i64 0, .int .i64 9] 5 _ _ _ w3.drew (Rw2.ext qXt) (by omega) (by rfl) (by rfl) (by constructor <;> simp) (by first | rfl | simp)).mono ?_
 rintro e w4 ⟨x, rfl, hx, Rw4, Cw4⟩
 have Ew4 : Ext w3 (w3.drew.alloc (.cells #[.int .i64 2, .int .i64 1, .int .i64 3, .int .i64 0, .int .i64 9] 3)) := qXt
 have e_w4 := Ew4.size
 have zc_w4 := Cw4.size
 simp only [World.size_drew, World.size_alloc] at zc_w4
 have Xw4 : Ext w w4 := Rch.toExt' Cw4 (by omega) (Xw3.trans Ew4)
 replace q0 := Cw4.cell (by omega) (Ew4.cell q0)
 replace f_q0 := Cw4.frzO (by omega) (by omega) (Ew4.frz z_q f_q0)
 replace q1 := Cw4.cell (by omega) (Ew4.cell q1)
 replace f_q1 := Cw4.frzO (by omega) (by omega) (Ew4.frz z_q f_q1)
 replace q2 := Cw4.cell (by omega) (Ew4.cell q2)
 replace f_q2 := Cw4.frzO (by omega) (by omega) (Ew4.frz z_q f_q2)
 replace v0 := Cw4.cell (by omega) (Ew4.cell v0)
 replace v1 := Cw4.cell (by omega) (Ew4.cell v1)
 replace v2 := Cw4.cell (by omega) (Ew4.cell v2)
 have z_q : w.heap.size < w4.heap.size := qB q0
 have z_v : w2.heap.size < w4.heap.size := qB v0
 replace i1 := (i1.ext Ew4).chg Cw4 (by omega)
 replace i2 := (i2.ext Ew4).chg Cw4 (by omega)
 have s_w4 : w.heap.size ≤ w4.heap.size := Xw4.size
 clear Rw2 Cw4 Ew4
 replace hx : -100 ≤ x ∧ x ≤ 100 := by simp [litL] at hx; omega
 refine hK.out _ _ ⟨v0, v1, v2⟩ (fun hHeld => ?_)
 clear hK K
 try simp only [Act.put, qa, qb, qc, qD, qE, qF]
 refine qHr 5 rfl (fun K hK => ?_)
 try simp only [Act.put, qa, qb, qc, qD, qE, qF]
 go_simp
 generalize hW2 : (((w4.setCell ⟨w.heap.size, 0, none⟩ (.int .i64 b)).setCell ⟨w.heap.size, 1, none⟩ (.slice p1 s.length r1)).setCell ⟨w.heap.size, 2, none⟩ (.slice p2 t.length r2)) = w5 at *
 have Kw5 : Chg (w.heap.size) (w.heap.size + 1) w4 w5 := by subst hW2; exact qCh
 have Xw5 : Ext w w5 := by subst hW2; exact qXt
 replace q0 : w5.cell? ⟨w.heap.size, 0, none⟩ = some (.int .i64 b) := by subst hW2; go_simp
 replace f_q0 : w5.frozen? ⟨w.heap.size, 0, none⟩ = false := by subst hW2; go_simp
 replace q1 : w5.cell? ⟨w.heap.size, 1, none⟩ = some (.slice p1 s.length r1) := by subst hW2; go_simp
 replace f_q1 : w5.frozen? ⟨w.heap.size, 1, none⟩ = false := by subst hW2; go_simp
 replace q2 : w5.cell? ⟨w.heap.size, 2, none⟩ = some (.slice p2 t.length r2) := by subst hW2; go_simp
 replace f_q2 : w5.frozen? ⟨w.heap.size, 2, none⟩ = false := by subst hW2; go_simp
 replace v0 := Kw5.cell (by omega) v0
 replace v1 := Kw5.cell (by omega) v1
 replace v2 := Kw5.cell (by omega) v2
 replace i1 := i1.chg Kw5 (by omega)
 replace i2 := i2.chg Kw5 (by omega)
 clear Kw5
 have z_q : w.heap.size < w5.heap.size := qB q0
 have z_v : w2.heap.size < w5.heap.size := qB v0
 have s_w5 : w.heap.size ≤ w5.heap.size := Xw5.size
 clear hW2
 refine hK.out _ _ ⟨v0, v1, v2⟩ (fun hHeld => ?_)
 clear hK K
 try simp only [Act.put, qa, qb, qc, qD, qE, qF]
 refine qHk (v := ?_) 6 rfl (.inl ⟨by rfl, ?_⟩) ?_
 rotate_left
 ·
  (intro w hSw; (try dsimp only at hSw); go_simp; try with_reducible rfl)
 try simp only [Act.put, qa, qb, qc, qD, qE, qF]
 refine qHk (v := ?_) 7 rfl (.inl ⟨by rfl, ?_⟩) ?_
 rotate_left
 ·
  (intro w hSw; (try dsimp only at hSw); go_simp; try with_reducible rfl)
 try simp only [Act.put, qa, qb, qc, qD, qE, qF]
 refine wpAnyH_done qKr ?_ _
 clear hHeld
 go_wp2_with fail
 refine bodyPost_ret (v := .tuple #[.agg #[.int .i64 b, .slice p1 s.length r1, .slice p2 t.length r2], .int .i64 d, .int .i64 x]) (by simp only [results, Try.results45]; go_simp) rfl ?_
 exact ⟨b, s, t, p1, p2, r1, r2, d, x, rfl, i1.lower (by omega), i2.lower (by omega), l1, l2, hd, hx, Xw5⟩

set_option maxHeartbeats 3200000 in
theorem drawSplitDim_c (a : Option Addr) (n cap : Nat) (w : World) (hb : BysIn w a n cap) :
  Calls Try.prog 51 #[.slice a n cap] w (PVDI w) := by
 go_enter Try.func51, Try.ntmps51
 go_wp2_with fail
 refine (newReader_c a n cap _ (hb.ext qXt)).mono ?_
 rintro e w1 ⟨rfl, hr, xw1⟩
 have Lw1 : Ext w w1 := Ext.trans qXt xw1
 have Xw1 : Ext w w1 := Lw1
 have q0 : w1.cell? ⟨w.heap.size, 0, none⟩ = some (.int .i64 0) := xw1.cell qCl
 have q1 : w1.cell? ⟨w.heap.size, 1, none⟩ = some (.slice none 0 0) := xw1.cell qCl
 have q2 : w1.cell? ⟨w.heap.size, 2, none⟩ = some (.slice none 0 0) := xw1.cell qCl
 have f_q0 : w1.frozen? ⟨w.heap.size, 0, none⟩ = false := xw1.frz (by simp <;> omega) qFz
 have f_q1 : w1.frozen? ⟨w.heap.size, 1, none⟩ = false := xw1.frz (by simp <;> omega) qFz
 have f_q2 : w1.frozen? ⟨w.heap.size, 2, none⟩ = false := xw1.frz (by simp <;> omega) qFz
 have z_q : w.heap.size < w1.heap.size := qB q0
 have s_w1 : w.heap.size ≤ w1.heap.size := Xw1.size
 clear xw1
 simp only [World.size_alloc] at hr
 have z1 := hr.lt
 clear hb
 go_wp2_with fail
 refine (dimOf_c _ 0 _ hr (by omega)).mono ?_
 rintro e w2 ⟨b, s, t, p1, p2, r1, r2, d, rfl, i1, i2, l1, l2, hd, Rw2, Cw2⟩
 have zc_w2 := Cw2.size
 have Xw2 : Ext w w2 := Rch.toExt' Cw2 (by omega) (Xw1)
 replace q0 := Cw2.cell (by omega) q0
 replace f_q0 := Cw2.frzO (by omega) (by omega) f_q0
 replace q1 := Cw2.cell (by omega) q1
 replace f_q1 := Cw2.frzO (by omega) (by omega) f_q1
 replace q2 := Cw2.cell (by omega) q2
 replace f_q2 := Cw2.frzO (by omega) (by omega) f_q2
 have z_q : w.heap.size < w2.heap.size := qB q0
 have s_w2 : w.heap.size ≤ w2.heap.size := Xw2.size
 clear hr Cw2
 go_wp2_with fail
 generalize hW3 : w2.alloc (.cells #[.int .i64 b, .slice p1 s.length r1, .slice p2 t.length r2] 25) = w3 at *
 have Lw3 : Ext w2 w3 := by subst hW3; exact qXt
 have Xw3 : Ext w w3 := Xw2.trans Lw3
 replace Rw2 := Rw2.ext Lw3
 replace q0 := Lw3.cell q0
 replace q1 := Lw3.cell q1
 replace q2 := Lw3.cell q2
 replace f_q0 := Lw3.frz z_q f_q0
 replace f_q1 := Lw3.frz z_q f_q1
 replace f_q2 := Lw3.frz z_q f_q2
 have v0 : w3.cell? ⟨w2.heap.size, 0, none⟩ = some (.int .i64 b) := by subst hW3; exact qCl
 have v1 : w3.cell? ⟨w2.heap.size, 1, none⟩ = some (.slice p1 s.length r1) := by subst hW3; exact qCl
 have v2 : w3.cell? ⟨w2.heap.size, 2, none⟩ = some (.slice p2 t.length r2) := by subst hW3; exact qCl
 have z_q : w.heap.size < w3.heap.size := qB q0
 have z_v : w2.heap.size < w3.heap.size := qB v0
 replace i1 := i1.ext Lw3
 replace i2 := i2.ext Lw3
 have s_w3 : w.heap.size ≤ w3.heap.size := Xw3.size
 clear hW3
 go_wp2_with fail
 refine wp_region_held_drew (S := fun w' => w'.cell? ⟨w2.heap.size, 0, none⟩ = some (.int .i64 b) ∧ w'.cell? ⟨w2.heap.size, 1, none⟩ = some (.slice p1 s.length r1) ∧ w'.cell? ⟨w2.heap.size, 2, none⟩ = some (.slice p2 t.length r2)) qKr ⟨v0, v1, v2⟩ (fun hHeld => ?_)
 refine qHk (v := ?_) 0 rfl (.inl ⟨by rfl, ?_⟩) ?_
 rotate_left
 ·
  (intro w hSw; (try dsimp only at hSw); go_simp; try with_reducible rfl)
 try simp only [Act.put, qa, qb, qc, qD, qE, qF]
 refine qHk (v := ?_) 1 rfl (.inl ⟨by rfl, ?_⟩) ?_
 rotate_left
 ·
  (intro w hSw; (try dsimp only at hSw); go_simp; try with_reducible rfl)
 try simp only [Act.put, qa, qb, qc, qD, qE, qF]
 refine qHk (v := ?_) 2 rfl (.inl ⟨by rfl, ?_⟩) ?_
 rotate_left
 ·
  (intro w hSw; (try dsimp only at hSw); go_simp; try with_reducible rfl)
 try simp only [Act.put, qa, qb, qc, qD, qE, qF]
 refine qHr 3 rfl (fun K hK => ?_)
 try simp only [Act.put, qa, qb, qc, qD, qE, qF]
 go_simp
 skip
 refine hK.out _ _ ⟨(show Ext w3 _ from qXt).cell v0, (show Ext w3 _ from qXt).cell v1, (show Ext w3 _ from qXt).cell v2⟩ (fun hHeld => ?_)
 clear hK K
 try simp only [Act.put, qa, qb, qc, qD, qE, qF]
 refine qHr 4 rfl (fun K hK => ?_)
 try simp only [Act.put, qa, qb, qc, qD, qE, qF]
 go_simp
 refine (oneLit_c #[.int .i64 2, .int .i64 1, .int .i64 3, .int .i64 4, .int .i64 0, .int .i64 5] 6 _ _ _ w3.drew (Rw2.ext qXt) (by omega) (by rfl) (by rfl) (by constructor <;> simp) (by first | rfl | simp)).mono ?_
 rintro e w4 ⟨x, rfl, hx, Rw4, Cw4⟩
 have Ew4 : Ext w3 (w3.drew.alloc (.cells #[.int .i64 2, .int .i64 1, .int .i64 3, .int .i64 4, .int .i64 0, .int .i64 5] 3)) := qXt
 have e_w4 := Ew4.size
 have zc_w4 := Cw4.size
 simp only [World.size_drew, World.size_alloc] at zc_w4
 have Xw4 : Ext w w4 := Rch.toExt' Cw4 (by omega) (Xw3.trans Ew4)
 replace q0 := Cw4.cell (by omega) (Ew4.cell q0)
 replace f_q0 := Cw4.frzO (by omega) (by omega) (Ew4.frz z_q f_q0)
 replace q1 := Cw4.cell (by omega) (Ew4.cell q1)
 replace f_q1 := Cw4.frzO (by omega) (by omega) (Ew4.frz z_q f_q1)
 replace q2 := Cw4.cell (by omega) (Ew4.cell q2)
 replace f_q2 := Cw4.frzO (by omega) (by omega) (Ew4.frz z_q f_q2)
 replace v0 := Cw4.cell (by omega) (Ew4.cell v0)
 replace v1 := Cw4.cell (by omega) (Ew4.cell v1)
 replace v2 := Cw4.cell (by omega) (Ew4.cell v2)
 have z_q : w.heap.size < w4.heap.size := qB q0
 have z_v : w2.heap.size < w4.heap.size := qB v0
 replace i1 := (i1.ext Ew4).chg Cw4 (by omega)
 replace i2 := (i2.ext Ew4).chg Cw4 (by omega)
 have s_w4 : w.heap.size ≤ w4.heap.size := Xw4.size
 clear Rw2 Cw4 Ew4
 replace hx : -100 ≤ x ∧ x ≤ 100 := by simp [litL] at hx; omega
 refine hK.out _ _ ⟨v0, v1, v2⟩ (fun hHeld => ?_)
 clear hK K
 try simp only [Act.put, qa, qb, qc, qD, qE, qF]
 refine qHr 5 rfl (fun K hK => ?_)
 try simp only [Act.put, qa, qb, qc, qD, qE, qF]
 go_simp
 generalize hW4 : (((w4.setCell ⟨w.heap.size, 0, none⟩ (.int .i64 b)).setCell ⟨w.heap.size, 1, none⟩ (.slice p1 s.length r1)).setCell ⟨w.heap.size, 2, none⟩ (.slice p2 t.length r2)) = w5 at *
 have Kw5 : Chg (w.heap.size) (w.heap.size + 1) w4 w5 := by subst hW4; exact qCh
 have Xw5 : Ext w w5 := by subst hW4; exact qXt
 replace q0 : w5.cell? ⟨w.heap.size, 0, none⟩ = some (.int .i64 b) := by subst hW4; go_simp
 replace f_q0 : w5.frozen? ⟨w.heap.size, 0, none⟩ = false := by subst hW4; go_simp
 replace q1 : w5.cell? ⟨w.heap.size, 1, none⟩ = some (.slice p1 s.length r1) := by subst hW4; go_simp
 replace f_q1 : w5.frozen? ⟨w.heap.size, 1, none⟩ = false := by subst hW4; go_simp
 replace q2 : w5.cell? ⟨w.heap.size, 2, none⟩ = some (.slice p2 t.length r2) := by subst hW4; go_simp
 replace f_q2 : w5.frozen? ⟨w.heap.size, 2, none⟩ = false := by subst hW4; go_simp
 replace v0 := Kw5.cell (by omega) v0
 replace v1 := Kw5.cell (by omega) v1
 replace v2 := Kw5.cell (by omega) v2
 replace i1 := i1.chg Kw5 (by omega)
 replace i2 := i2.chg Kw5 (by omega)
 clear Kw5
 have z_q : w.heap.size < w5.heap.size := qB q0
 have z_v : w2.heap.size < w5.heap.size := qB v0
 have s_w5 : w.heap.size ≤ w5.heap.size := Xw5.size
 clear hW4
 refine hK.out _ _ ⟨v0, v1, v2⟩ (fun hHeld => ?_)
 clear hK K
 try simp only [Act.put, qa, qb, qc, qD, qE, qF]
 refine qHk (v := ?_) 6 rfl (.inl ⟨by rfl, ?_⟩) ?_
 rotate_left
 ·
  (intro w hSw; (try dsimp only at hSw); go_simp; try with_reducible rfl)
 try simp only [Act.put, qa, qb, qc, qD, qE, qF]
 refine qHk (v := ?_) 7 rfl (.inl ⟨by rfl, ?_⟩) ?_
 rotate_left
 ·
  (intro w hSw; (try dsimp only at hSw); go_simp; try with_reducible rfl)
 try simp only [Act.put, qa, qb, qc, qD, qE, qF]
 refine wpAnyH_done qKr ?_ _
 clear hHeld
 go_wp2_with fail
 refine bodyPost_ret (v := .tuple #[.agg #[.int .i64 b, .slice p1 s.length r1, .slice p2 t.length r2], .int .i64 d, .int .i64 x]) (by simp only [results, Try.results51]; go_simp) rfl ?_
 exact ⟨b, s, t, p1, p2, r1, r2, d, x, rfl, i1.lower (by omega), i2.lower (by omega), l1, l2, hd, hx, Xw5⟩

/-- a view and a dimension are drawn -/
def PVD (w : World) (e : Ending) (w' : World) : Prop := ∃ (b : Int) (s t : List Int) (p1 p2 : Option Addr) (r1 r2 : Nat) (d : Int), e = .returned (.tuple #[.agg #[.int .i64 b, .slice p1 s.length r1, .slice p2 t.length r2], .int .i64 d]) ∧
 Ints w' w.heap.size (.slice p1 s.length r1) s ∧ Ints w' w.heap.size (.slice p2 t.length r2) t ∧ s.length ≤ 4 ∧ t.length ≤ 5 ∧ (-1 ≤ d ∧ d ≤ 5) ∧ Ext w w'
set_option maxHeartbeats 3200000 in
theorem drawAddDim_c (a : Option Addr) (n cap : Nat) (w : World) (hb : BysIn w a n cap) :
  Calls Try.prog 35 #[.slice a n cap] w (PVD w) := by
 go_enter Try.func35, Try.ntmps35
 go_wp2_with fail
 refine (newReader_c a n cap _ (hb.ext qXt)).mono ?_
 rintro e w1 ⟨rfl, hr, xw1⟩
 have Lw1 : Ext w w1 := Ext.trans qXt xw1
 have Xw1 : Ext w w1 := Lw1
 have q0 : w1.cell? ⟨w.heap.size, 0, none⟩ = some (.int .i64 0) := xw1.cell qCl
 have q1 : w1.cell? ⟨w.heap.size, 1, none⟩ = some (.slice none 0 0) := xw1.cell qCl
 have q2 : w1.cell? ⟨w.heap.size, 2, none⟩ = some (.slice none 0 0) := xw1.cell qCl
 have f_q0 : w1.frozen? ⟨w.heap.size, 0, none⟩ = false := xw1.frz (by simp <;> omega) qFz
 have f_q1 : w1.frozen? ⟨w.heap.size, 1, none⟩ = false := xw1.frz (by simp <;> omega) qFz
 have f_q2 : w1.frozen? ⟨w.heap.size, 2, none⟩ = false := xw1.frz (by simp <;> omega) qFz
 have z_q : w.heap.size < w1.heap.size := qB q0
 have s_w1 : w.heap.size ≤ w1.heap.size := Xw1.size
 clear xw1
 simp only [World.size_alloc] at hr
 have z1 := hr.lt
 clear hb
 go_wp2_with fail
 refine (dimOf_c _ 0 _ hr (by omega)).mono ?_
 rintro e w2 ⟨b, s, t, p1, p2, r1, r2, d, rfl, i1, i2, l1, l2, hd, Rw2, Cw2⟩
 have zc_w2 := Cw2.size
 have Xw2 : Ext w w2 := Rch.toExt' Cw2 (by omega) (Xw1)
 replace q0 := Cw2.cell (by omega) q0
 replace f_q0 := Cw2.frzO (by omega) (by omega) f_q0
 replace q1 := Cw2.cell (by omega) q1
 replace f_q1 := Cw2.frzO (by omega) (by omega) f_q1
 replace q2 := Cw2.cell (by omega) q2
 replace f_q2 := Cw2.frzO (by omega) (by omega) f_q2
 have z_q : w.heap.size < w2.heap.size := qB q0
 have s_w2 : w.heap.size ≤ w2.heap.size := Xw2.size
 clear hr Cw2
 go_wp2_with fail
 generalize hW5 : (((w2.setCell ⟨w.heap.size, 0, none⟩ (.int .i64 b)).setCell ⟨w.heap.size, 1, none⟩ (.slice p1 s.length r1)).setCell ⟨w.heap.size, 2, none⟩ (.slice p2 t.length r2)) = w3 at *
 have Kw3 : Chg (w.heap.size) (w.heap.size + 1) w2 w3 := by subst hW5; exact qCh
 have Xw3 : Ext w w3 := by subst hW5; exact qXt
 replace q0 : w3.cell? ⟨w.heap.size, 0, none⟩ = some (.int .i64 b) := by subst hW5; go_simp
 replace f_q0 : w3.frozen? ⟨w.heap.size, 0, none⟩ = false := by subst hW5; go_simp
 replace q1 : w3.cell? ⟨w.heap.size, 1, none⟩ = some (.slice p1 s.length r1) := by subst hW5; go_simp
 replace f_q1 : w3.frozen? ⟨w.heap.size, 1, none⟩ = false := by subst hW5; go_simp
 replace q2 : w3.cell? ⟨w.heap.size, 2, none⟩ = some (.slice p2 t.length r2) := by subst hW5; go_simp
 replace f_q2 : w3.frozen? ⟨w.heap.size, 2, none⟩ = false := by subst hW5; go_simp
 replace i1 := i1.chg Kw3 (by omega)
 replace i2 := i2.chg Kw3 (by omega)
 clear Kw3
 have z_q : w.heap.size < w3.heap.size := qB q0
 have s_w3 : w.heap.size ≤ w3.heap.size := Xw3.size
 clear hW5
 refine bodyPost_ret (v := .tuple #[.agg #[.int .i64 b, .slice p1 s.length r1, .slice p2 t.length r2], .int .i64 d]) (by simp only [results, Try.results35]; go_simp) rfl ?_
 exact ⟨b, s, t, p1, p2, r1, r2, d, rfl, i1.lower (by omega), i2.lower (by omega), l1, l2, hd, Xw3⟩

set_option maxHeartbeats 3200000 in
theorem drawJoinDims_c (a : Option Addr) (n cap : Nat) (w : World) (hb : BysIn w a n cap) :
  Calls Try.prog 30 #[.slice a n cap] w (PVD w) := by
 go_enter Try.func30, Try.ntmps30
 go_wp2_with fail
 refine (newReader_c a n cap _ (hb.ext qXt)).mono ?_
 rintro e w1 ⟨rfl, hr, xw1⟩
 have Lw1 : Ext w w1 := Ext.trans qXt xw1
 have Xw1 : Ext w w1 := Lw1
 have q0 : w1.cell? ⟨w.heap.size, 0, none⟩ = some (.int .i64 0) := xw1.cell qCl
 have q1 : w1.cell? ⟨w.heap.size, 1, none⟩ = some (.slice none 0 0) := xw1.cell qCl
 have q2 : w1.cell? ⟨w.heap.size, 2, none⟩ = some (.slice none 0 0) := xw1.cell qCl
 have f_q0 : w1.frozen? ⟨w.heap.size, 0, none⟩ = false := xw1.frz (by simp <;> omega) qFz
 have f_q1 : w1.frozen? ⟨w.heap.size, 1, none⟩ = false := xw1.frz (by simp <;> omega) qFz
 have f_q2 : w1.frozen? ⟨w.heap.size, 2, none⟩ = false := xw1.frz (by simp <;> omega) qFz
 have z_q : w.heap.size < w1.heap.size := qB q0
 have s_w1 : w.heap.size ≤ w1.heap.size := Xw1.size
 clear xw1
 simp only [World.size_alloc] at hr
 have z1 := hr.lt
 clear hb
 go_wp2_with fail
 refine (dimOf_c _ 0 _ hr (by omega)).mono ?_
 rintro e w2 ⟨b, s, t, p1, p2, r1, r2, d, rfl, i1, i2, l1, l2, hd, Rw2, Cw2⟩
 have zc_w2 := Cw2.size
 have Xw2 : Ext w w2 := Rch.toExt' Cw2 (by omega) (Xw1)
 replace q0 := Cw2.cell (by omega) q0
 replace f_q0 := Cw2.frzO (by omega) (by omega) f_q0
 replace q1 := Cw2.cell (by omega) q1
 replace f_q1 := Cw2.frzO (by omega) (by omega) f_q1
 replace q2 := Cw2.cell (by omega) q2
 replace f_q2 := Cw2.frzO (by omega) (by omega) f_q2
 have z_q : w.heap.size < w2.heap.size := qB q0
 have s_w2 : w.heap.size ≤ w2.heap.size := Xw2.size
 clear hr Cw2
 go_wp2_with fail
 generalize hW6 : (((w2.setCell ⟨w.heap.size, 0, none⟩ (.int .i64 b)).setCell ⟨w.heap.size, 1, none⟩ (.slice p1 s.length r1)).setCell ⟨w.heap.size, 2, none⟩ (.slice p2 t.length r2)) = w3 at *
 have Kw3 : Chg (w.heap.size) (w.heap.size + 1) w2 w3 := by subst hW6; exact qCh
 have Xw3 : Ext w w3 := by subst hW6; exact qXt
 replace q0 : w3.cell? ⟨w.heap.size, 0, none⟩ = some (.int .i64 b) := by subst hW6; go_simp
 replace f_q0 : w3.frozen? ⟨w.heap.size, 0, none⟩ = false := by subst hW6; go_simp
 replace q1 : w3.cell? ⟨w.heap.size, 1, none⟩ = some (.slice p1 s.length r1) := by subst hW6; go_simp
 replace f_q1 : w3.frozen? ⟨w.heap.size, 1, none⟩ = false := by subst hW6; go_simp
 replace q2 : w3.cell? ⟨w.heap.size, 2, none⟩ = some (.slice p2 t.length r2) := by subst hW6; go_simp
 replace f_q2 : w3.frozen? ⟨w.heap.size, 2, none⟩ = false := by subst hW6; go_simp
 replace i1 := i1.chg Kw3 (by omega)
 replace i2 := i2.chg Kw3 (by omega)
 clear Kw3
 have z_q : w.heap.size < w3.heap.size := qB q0
 have s_w3 : w.heap.size ≤ w3.heap.size := Xw3.size
 clear hW6
 refine bodyPost_ret (v := .tuple #[.agg #[.int .i64 b, .slice p1 s.length r1, .slice p2 t.length r2], .int .i64 d]) (by simp only [results, Try.results30]; go_simp) rfl ?_
 exact ⟨b, s, t, p1, p2, r1, r2, d, rfl, i1.lower (by omega), i2.lower (by omega), l1, l2, hd, Xw3⟩

end Go.Proofs.Ytonnnjaooifpjaa

/- FnAddDim returns true for all bytes: no condition. -/
namespace Go.Proofs.Ytonnnjaooifpjaa
open Go.RowKit
set_option linter.unusedVariables false
set_option maxRecDepth 100000

set_option maxHeartbeats 6400000 in
theorem lawFnAddDim_c (a : Option Addr) (n cap : Nat) (w : World) (hb : BysIn w a n cap) :
  Calls Try.prog 6 #[.slice a n cap] w fun e w' => e = .returned (.bool true) ∧ Ext w w' := by
 have hcm := hb.1
 have hcm2 := hb.2.1
 unfold maxLen at hcm2
 go_enter Try.func6, Try.ntmps6
 by_cases hc1 : (1048576 : Int) < (n : Int)
 ·
  go_wp2_with fail
  go_ret
  exact ⟨rfl, qXo⟩
 ·
  go_wp2_with fail
  refine (drawAddDim_c a n cap _ hb).mono ?_
  rintro e w1 ⟨b, s, t, p1, p2, r1, r2, d, rfl, i1, i2, l1, l2, hd5, xw1⟩
  have Lw1 : Ext w w1 := Ext.trans qXt xw1
  have Xw1 : Ext w w1 := Lw1
  have s_w1 : w.heap.size ≤ w1.heap.size := Xw1.size
  clear xw1
  clear hb
  obtain ⟨PB, PS, PT, PO, hP⟩ : ∃ PB PS PT PO, addV b s t d = (PB, PS, PT, PO) := ⟨_, _, _, _, rfl⟩
  cases PO
  ·
   replace hP := Lib.hid hP
   go_wp2_with fail
   refine (pvx_eq hP.out (implAddDim_c b (.slice p1 s.length r1) (.slice p2 t.length r2) s t d _ _ _ (i1.ext qXt) (i2.ext qXt))).mono ?_
   rintro e w2 ⟨fv3u, fv3v, rfl, i4u, i4v, xw2⟩
   have Lw2 : Ext w1 w2 := Ext.trans qXt xw2
   have Xw2 : Ext w w2 := Xw1.trans Lw2
   have b20 : w2.cell? ⟨w1.heap.size, 0, none⟩ = some (.int .i64 b) := xw2.cell qCl
   have b21 : w2.cell? ⟨w1.heap.size, 1, none⟩ = some (.slice p1 s.length r1) := xw2.cell qCl
   have b22 : w2.cell? ⟨w1.heap.size, 2, none⟩ = some (.slice p2 t.length r2) := xw2.cell qCl
   have z_b2 : w1.heap.size < w2.heap.size := qB b20
   replace i1 := i1.ext Lw2
   replace i2 := i2.ext Lw2
   have s_w2 : w.heap.size ≤ w2.heap.size := Xw2.size
   clear xw2
   try simp only [World.size_alloc, World.size_drew] at i4u
   try simp only [World.size_alloc, World.size_drew] at i4v
   obtain ⟨afv3u, cfv3u, rfl⟩ := i4u.form
   obtain ⟨afv3v, cfv3v, rfl⟩ := i4v.form
   go_wp2_with fail
   refine (pv_eq hP.out (specAddDim_c b (.slice p1 s.length r1) (.slice p2 t.length r2) s t d _ _ _ (i1.ext qXt) (i2.ext qXt))).mono ?_
   rintro e w3 ⟨fv6u, fv6v, rfl, i7u, i7v, -, -, -, xw3⟩
   have Lw3 : Ext w2 w3 := Ext.trans qXt xw3
   have Xw3 : Ext w w3 := Xw2.trans Lw3
   replace b20 := Lw3.cell b20
   replace b21 := Lw3.cell b21
   replace b22 := Lw3.cell b22
   have b50 : w3.cell? ⟨w2.heap.size, 0, none⟩ = some (.int .i64 PB) := xw3.cell qCl
   have b51 : w3.cell? ⟨w2.heap.size, 1, none⟩ = some (.slice afv3u PS.length cfv3u) := xw3.cell qCl
   have b52 : w3.cell? ⟨w2.heap.size, 2, none⟩ = some (.slice afv3v PT.length cfv3v) := xw3.cell qCl
   have z_b2 : w1.heap.size < w3.heap.size := qB b20
   have z_b5 : w2.heap.size < w3.heap.size := qB b50
   replace i1 := i1.ext Lw3
   replace i2 := i2.ext Lw3
   replace i4u := i4u.ext Lw3
   replace i4v := i4v.ext Lw3
   have s_w3 : w.heap.size ≤ w3.heap.size := Xw3.size
   clear xw3
   try simp only [World.size_alloc, World.size_drew] at i7u
   try simp only [World.size_alloc, World.size_drew] at i7v
   obtain ⟨afv6u, cfv6u, rfl⟩ := i7u.form
   obtain ⟨afv6v, cfv6v, rfl⟩ := i7v.form
   go_wp2_with fail
   refine (leqView_c PB (.slice afv3u PS.length cfv3u) (.slice afv3v PT.length cfv3v) (.slice afv6u PS.length cfv6u) (.slice afv6v PT.length cfv6v) PS PT _ _ _ _ _ (i4u.ext qXt) (i4v.ext qXt) (i7u.ext qXt) (i7v.ext qXt)).mono ?_
   rintro e w4 ⟨rfl, xw4⟩
   have Lw4 : Ext w3 w4 := Ext.trans qXt xw4
   have Xw4 : Ext w w4 := Xw3.trans Lw4
   replace b20 := Lw4.cell b20
   replace b21 := Lw4.cell b21
   replace b22 := Lw4.cell b22
   replace b50 := Lw4.cell b50
   replace b51 := Lw4.cell b51
   replace b52 := Lw4.cell b52
   have b80 : w4.cell? ⟨w3.heap.size, 0, none⟩ = some (.int .i64 PB) := xw4.cell qCl
   have b81 : w4.cell? ⟨w3.heap.size, 1, none⟩ = some (.slice afv6u PS.length cfv6u) := xw4.cell qCl
   have b82 : w4.cell? ⟨w3.heap.size, 2, none⟩ = some (.slice afv6v PT.length cfv6v) := xw4.cell qCl
   have z_b2 : w1.heap.size < w4.heap.size := qB b20
   have z_b5 : w2.heap.size < w4.heap.size := qB b50
   have z_b8 : w3.heap.size < w4.heap.size := qB b80
   replace i1 := i1.ext Lw4
   replace i2 := i2.ext Lw4
   replace i4u := i4u.ext Lw4
   replace i4v := i4v.ext Lw4
   replace i7u := i7u.ext Lw4
   replace i7v := i7v.ext Lw4
   have s_w4 : w.heap.size ≤ w4.heap.size := Xw4.size
   clear xw4
   go_wp2_with fail
   refine (leqView_c PB (.slice afv3u PS.length cfv3u) (.slice afv3v PT.length cfv3v) (.slice afv6u PS.length cfv6u) (.slice afv6v PT.length cfv6v) PS PT _ _ _ _ _ (i4u.ext qXt) (i4v.ext qXt) (i7u.ext qXt) (i7v.ext qXt)).mono ?_
   rintro e w5 ⟨rfl, xw5⟩
   have Lw5 : Ext w4 w5 := Ext.trans qXt xw5
   have Xw5 : Ext w w5 := Xw4.trans Lw5
   replace b20 := Lw5.cell b20
   replace b21 := Lw5.cell b21
   replace b22 := Lw5.cell b22
   replace b50 := Lw5.cell b50
   replace b51 := Lw5.cell b51
   replace b52 := Lw5.cell b52
   replace b80 := Lw5.cell b80
   replace b81 := Lw5.cell b81
   replace b82 := Lw5.cell b82
   have z_b2 : w1.heap.size < w5.heap.size := qB b20
   have z_b5 : w2.heap.size < w5.heap.size := qB b50
   have z_b8 : w3.heap.size < w5.heap.size := qB b80
   replace i1 := i1.ext Lw5
   replace i2 := i2.ext Lw5
   replace i4u := i4u.ext Lw5
   replace i4v := i4v.ext Lw5
   replace i7u := i7u.ext Lw5
   replace i7v := i7v.ext Lw5
   have s_w5 : w.heap.size ≤ w5.heap.size := Xw5.size
   clear xw5
   go_wp2_with fail
   go_ret
   exact ⟨rfl, (Xw5.trans qXt)⟩
  ·
   obtain ⟨D, rfl, hDN, hD4, hgo, hoff, QB, QS, QT, hq, hsm⟩ := add_law hP
   replace hgo := Lib.hid hgo
   replace hoff := Lib.hid hoff
   replace hq := Lib.hid hq
   replace hsm := Lib.hid hsm
   replace hP := Lib.hid hP
   go_wp2_with fail
   refine (pvx_eq hP.out (implAddDim_c b (.slice p1 s.length r1) (.slice p2 t.length r2) s t (D : Int) _ _ _ (i1.ext qXt) (i2.ext qXt))).mono ?_
   rintro e w2 ⟨fv10u, fv10v, rfl, i11u, i11v, xw2⟩
   have Lw2 : Ext w1 w2 := Ext.trans qXt xw2
   have Xw2 : Ext w w2 := Xw1.trans Lw2
   have b90 : w2.cell? ⟨w1.heap.size, 0, none⟩ = some (.int .i64 b) := xw2.cell qCl
   have b91 : w2.cell? ⟨w1.heap.size, 1, none⟩ = some (.slice p1 s.length r1) := xw2.cell qCl
   have b92 : w2.cell? ⟨w1.heap.size, 2, none⟩ = some (.slice p2 t.length r2) := xw2.cell qCl
   have z_b9 : w1.heap.size < w2.heap.size := qB b90
   replace i1 := i1.ext Lw2
   replace i2 := i2.ext Lw2
   have s_w2 : w.heap.size ≤ w2.heap.size := Xw2.size
   clear xw2
   try simp only [World.size_alloc, World.size_drew] at i11u
   try simp only [World.size_alloc, World.size_drew] at i11v
   obtain ⟨afv10u, cfv10u, rfl⟩ := i11u.form
   obtain ⟨afv10v, cfv10v, rfl⟩ := i11v.form
   go_wp2_with fail
   refine (pv_eq hP.out (specAddDim_c b (.slice p1 s.length r1) (.slice p2 t.length r2) s t (D : Int) _ _ _ (i1.ext qXt) (i2.ext qXt))).mono ?_
   rintro e w3 ⟨fv13u, fv13v, rfl, i14u, i14v, -, -, -, xw3⟩
   have Lw3 : Ext w2 w3 := Ext.trans qXt xw3
   have Xw3 : Ext w w3 := Xw2.trans Lw3
   replace b90 := Lw3.cell b90
   replace b91 := Lw3.cell b91
   replace b92 := Lw3.cell b92
   have b120 : w3.cell? ⟨w2.heap.size, 0, none⟩ = some (.int .i64 PB) := xw3.cell qCl
   have b121 : w3.cell? ⟨w2.heap.size, 1, none⟩ = some (.slice afv10u PS.length cfv10u) := xw3.cell qCl
   have b122 : w3.cell? ⟨w2.heap.size, 2, none⟩ = some (.slice afv10v PT.length cfv10v) := xw3.cell qCl
   have z_b9 : w1.heap.size < w3.heap.size := qB b90
   have z_b12 : w2.heap.size < w3.heap.size := qB b120
   replace i1 := i1.ext Lw3
   replace i2 := i2.ext Lw3
   replace i11u := i11u.ext Lw3
   replace i11v := i11v.ext Lw3
   have s_w3 : w.heap.size ≤ w3.heap.size := Xw3.size
   clear xw3
   try simp only [World.size_alloc, World.size_drew] at i14u
   try simp only [World.size_alloc, World.size_drew] at i14v
   obtain ⟨afv13u, cfv13u, rfl⟩ := i14u.form
   obtain ⟨afv13v, cfv13v, rfl⟩ := i14v.form
   go_wp2_with fail
   refine (leqView_c PB (.slice afv10u PS.length cfv10u) (.slice afv10v PT.length cfv10v) (.slice afv13u PS.length cfv13u) (.slice afv13v PT.length cfv13v) PS PT _ _ _ _ _ (i11u.ext qXt) (i11v.ext qXt) (i14u.ext qXt) (i14v.ext qXt)).mono ?_
   rintro e w4 ⟨rfl, xw4⟩
   have Lw4 : Ext w3 w4 := Ext.trans qXt xw4
   have Xw4 : Ext w w4 := Xw3.trans Lw4
   replace b90 := Lw4.cell b90
   replace b91 := Lw4.cell b91
   replace b92 := Lw4.cell b92
   replace b120 := Lw4.cell b120
   replace b121 := Lw4.cell b121
   replace b122 := Lw4.cell b122
   have b150 : w4.cell? ⟨w3.heap.size, 0, none⟩ = some (.int .i64 PB) := xw4.cell qCl
   have b151 : w4.cell? ⟨w3.heap.size, 1, none⟩ = some (.slice afv13u PS.length cfv13u) := xw4.cell qCl
   have b152 : w4.cell? ⟨w3.heap.size, 2, none⟩ = some (.slice afv13v PT.length cfv13v) := xw4.cell qCl
   have z_b9 : w1.heap.size < w4.heap.size := qB b90
   have z_b12 : w2.heap.size < w4.heap.size := qB b120
   have z_b15 : w3.heap.size < w4.heap.size := qB b150
   replace i1 := i1.ext Lw4
   replace i2 := i2.ext Lw4
   replace i11u := i11u.ext Lw4
   replace i11v := i11v.ext Lw4
   replace i14u := i14u.ext Lw4
   replace i14v := i14v.ext Lw4
   have s_w4 : w.heap.size ≤ w4.heap.size := Xw4.size
   clear xw4
   go_wp2_with fail
   refine (pvx_eq hq.out (implPickDim_c PB (.slice afv10u PS.length cfv10u) (.slice afv10v PT.length cfv10v) PS PT (D : Int) 0 _ _ _ (i11u.ext qXt) (i11v.ext qXt) (by omega))).mono ?_
   rintro e w5 ⟨fv16u, fv16v, rfl, i17u, i17v, xw5⟩
   have Lw5 : Ext w4 w5 := Ext.trans qXt xw5
   have Xw5 : Ext w w5 := Xw4.trans Lw5
   replace b90 := Lw5.cell b90
   replace b91 := Lw5.cell b91
   replace b92 := Lw5.cell b92
   replace b120 := Lw5.cell b120
   replace b121 := Lw5.cell b121
   replace b122 := Lw5.cell b122
   replace b150 := Lw5.cell b150
   replace b151 := Lw5.cell b151
   replace b152 := Lw5.cell b152
   have z_b9 : w1.heap.size < w5.heap.size := qB b90
   have z_b12 : w2.heap.size < w5.heap.size := qB b120
   have z_b15 : w3.heap.size < w5.heap.size := qB b150
   replace i1 := i1.ext Lw5
   replace i2 := i2.ext Lw5
   replace i11u := i11u.ext Lw5
   replace i11v := i11v.ext Lw5
   replace i14u := i14u.ext Lw5
   replace i14v := i14v.ext Lw5
   have s_w5 : w.heap.size ≤ w5.heap.size := Xw5.size
   clear xw5
   obtain ⟨afv16u, cfv16u, rfl⟩ := i17u.form
   obtain ⟨afv16v, cfv16v, rfl⟩ := i17v.form
   go_wp2_with fail
   generalize hW1 : w5.alloc (.cells #[.int .i64 QB, .slice afv16u QS.length cfv16u, .slice afv16v QT.length cfv16v] 25) = w6 at *
   have Lw6 : Ext w5 w6 := by subst hW1; exact qXt
   have Xw6 : Ext w w6 := Xw5.trans Lw6
   replace b90 := Lw6.cell b90
   replace b91 := Lw6.cell b91
   replace b92 := Lw6.cell b92
   replace b120 := Lw6.cell b120
   replace b121 := Lw6.cell b121
   replace b122 := Lw6.cell b122
   replace b150 := Lw6.cell b150
   replace b151 := Lw6.cell b151
   replace b152 := Lw6.cell b152
   have b180 : w6.cell? ⟨w5.heap.size, 0, none⟩ = some (.int .i64 QB) := by subst hW1; exact qCl
   have b181 : w6.cell? ⟨w5.heap.size, 1, none⟩ = some (.slice afv16u QS.length cfv16u) := by subst hW1; exact qCl
   have b182 : w6.cell? ⟨w5.heap.size, 2, none⟩ = some (.slice afv16v QT.length cfv16v) := by subst hW1; exact qCl
   have z_b9 : w1.heap.size < w6.heap.size := qB b90
   have z_b12 : w2.heap.size < w6.heap.size := qB b120
   have z_b15 : w3.heap.size < w6.heap.size := qB b150
   have z_b18 : w5.heap.size < w6.heap.size := qB b180
   replace i1 := i1.ext Lw6
   replace i2 := i2.ext Lw6
   replace i11u := i11u.ext Lw6
   replace i11v := i11v.ext Lw6
   replace i14u := i14u.ext Lw6
   replace i14v := i14v.ext Lw6
   replace i17u := i17u.ext Lw6
   replace i17v := i17v.ext Lw6
   have s_w6 : w.heap.size ≤ w6.heap.size := Xw6.size
   clear hW1
   refine wp_region_tail (S := fun w' => w'.cell? ⟨w1.heap.size, 0, none⟩ = some (.int .i64 b) ∧ w'.cell? ⟨w1.heap.size, 1, none⟩ = some (.slice p1 s.length r1) ∧ w'.cell? ⟨w1.heap.size, 2, none⟩ = some (.slice p2 t.length r2) ∧ w'.cell? ⟨w2.heap.size, 0, none⟩ = some (.int .i64 PB) ∧ w'.cell? ⟨w2.heap.size, 1, none⟩ = some (.slice afv10u PS.length cfv10u) ∧ w'.cell? ⟨w2.heap.size, 2, none⟩ = some (.slice afv10v PT.length cfv10v) ∧ w'.cell? ⟨w5.heap.size, 0, none⟩ = some (.int .i64 QB) ∧ w'.cell? ⟨w5.heap.size, 1, none⟩ = some (.slice afv16u QS.length cfv16u) ∧ w'.cell? ⟨w5.heap.size, 2, none⟩ = some (.slice afv16v QT.length cfv16v)) (fun i => decide (22 ≤ i)) qKr ⟨b90, b91, b92, b120, b121, b122, b180, b181, b182⟩ (fun hHeld => ?_)
   refine qTk (v := ?_) 0 rfl (.inl ⟨by rfl, ?_⟩) ?_
   rotate_left
   ·
    (intro w hSw; (try dsimp only at hSw); go_simp; try with_reducible rfl)
   try simp only [Act.put, qa, qb, qc, qD, qE, qF]
   refine qTk (v := ?_) 2 rfl (.inl ⟨by rfl, ?_⟩) ?_
   rotate_left
   ·
    (intro w hSw; (try dsimp only at hSw); go_simp; try with_reducible rfl)
   try simp only [Act.put, qa, qb, qc, qD, qE, qF]
   refine wpTail_one (i := 1) qKr rfl rfl (fun K hK => ?_)
   try simp only [Act.put, qa, qb, qc, qD, qE, qF]
   go_simp
   refine (implOffsetsOf_c PB (.slice afv10u PS.length cfv10u) (.slice afv10v PT.length cfv10v) PS PT _ _ _ (i11u.ext qXt) (i11v.ext qXt)).mono ?_
   rintro e w7 ⟨fv19, rfl, i20, -, xw7⟩
   have Lw7 : Ext w6 w7 := Ext.trans qXt xw7
   have Xw7 : Ext w w7 := Xw6.trans Lw7
   replace b90 := Lw7.cell b90
   replace b91 := Lw7.cell b91
   replace b92 := Lw7.cell b92
   replace b120 := Lw7.cell b120
   replace b121 := Lw7.cell b121
   replace b122 := Lw7.cell b122
   replace b150 := Lw7.cell b150
   replace b151 := Lw7.cell b151
   replace b152 := Lw7.cell b152
   replace b180 := Lw7.cell b180
   replace b181 := Lw7.cell b181
   replace b182 := Lw7.cell b182
   have z_b9 : w1.heap.size < w7.heap.size := qB b90
   have z_b12 : w2.heap.size < w7.heap.size := qB b120
   have z_b15 : w3.heap.size < w7.heap.size := qB b150
   have z_b18 : w5.heap.size < w7.heap.size := qB b180
   replace i1 := i1.ext Lw7
   replace i2 := i2.ext Lw7
   replace i11u := i11u.ext Lw7
   replace i11v := i11v.ext Lw7
   replace i14u := i14u.ext Lw7
   replace i14v := i14v.ext Lw7
   replace i17u := i17u.ext Lw7
   replace i17v := i17v.ext Lw7
   have s_w7 : w.heap.size ≤ w7.heap.size := Xw7.size
   clear xw7
   try simp only [World.size_alloc, World.size_drew] at i20
   obtain ⟨afv19, cfv19, rfl⟩ := i20.form
   refine hK.out _ _ ⟨b90, b91, b92, b120, b121, b122, b180, b181, b182⟩ (fun hHeld => ?_)
   clear hK K
   try simp only [Act.put, qa, qb, qc, qD, qE, qF]
   refine wpTail_one (i := 3) qKr rfl rfl (fun K hK => ?_)
   try simp only [Act.put, qa, qb, qc, qD, qE, qF]
   go_simp
   refine (implOffsetsOf_c b (.slice p1 s.length r1) (.slice p2 t.length r2) s t _ _ _ (i1.ext qXt) (i2.ext qXt)).mono ?_
   rintro e w8 ⟨fv21, rfl, i22, -, xw8⟩
   have Lw8 : Ext w7 w8 := Ext.trans qXt xw8
   have Xw8 : Ext w w8 := Xw7.trans Lw8
   replace b90 := Lw8.cell b90
   replace b91 := Lw8.cell b91
   replace b92 := Lw8.cell b92
   replace b120 := Lw8.cell b120
   replace b121 := Lw8.cell b121
   replace b122 := Lw8.cell b122
   replace b150 := Lw8.cell b150
   replace b151 := Lw8.cell b151
   replace b152 := Lw8.cell b152
   replace b180 := Lw8.cell b180
   replace b181 := Lw8.cell b181
   replace b182 := Lw8.cell b182
   have z_b9 : w1.heap.size < w8.heap.size := qB b90
   have z_b12 : w2.heap.size < w8.heap.size := qB b120
   have z_b15 : w3.heap.size < w8.heap.size := qB b150
   have z_b18 : w5.heap.size < w8.heap.size := qB b180
   replace i1 := i1.ext Lw8
   replace i2 := i2.ext Lw8
   replace i11u := i11u.ext Lw8
   replace i11v := i11v.ext Lw8
   replace i14u := i14u.ext Lw8
   replace i14v := i14v.ext Lw8
   replace i17u := i17u.ext Lw8
   replace i17v := i17v.ext Lw8
   replace i20 := i20.ext Lw8
   have s_w8 : w.heap.size ≤ w8.heap.size := Xw8.size
   clear xw8
   try simp only [World.size_alloc, World.size_drew] at i22
   obtain ⟨afv21, cfv21, rfl⟩ := i22.form
   refine hK.out _ _ ⟨b90, b91, b92, b120, b121, b122, b180, b181, b182⟩ (fun hHeld => ?_)
   clear hK K
   try simp only [Act.put, qa, qb, qc, qD, qE, qF]
   refine wpTail_one (i := 4) qKr rfl rfl (fun K hK => ?_)
   try simp only [Act.put, qa, qb, qc, qD, qE, qF]
   go_simp
   refine (leqInts_e (offA PB PS PT) (offA b s t) (.slice afv19 ((offA PB PS PT).length) cfv19) (.slice afv21 ((offA b s t).length) cfv21) _ _ _ (i20.ext qXt) (i22.ext qXt) hoff.out).mono ?_
   rintro e w9 ⟨rfl, xw9⟩
   have Lw9 : Ext w8 w9 := Ext.trans qXt xw9
   have Xw9 : Ext w w9 := Xw8.trans Lw9
   replace b90 := Lw9.cell b90
   replace b91 := Lw9.cell b91
   replace b92 := Lw9.cell b92
   replace b120 := Lw9.cell b120
   replace b121 := Lw9.cell b121
   replace b122 := Lw9.cell b122
   replace b150 := Lw9.cell b150
   replace b151 := Lw9.cell b151
   replace b152 := Lw9.cell b152
   replace b180 := Lw9.cell b180
   replace b181 := Lw9.cell b181
   replace b182 := Lw9.cell b182
   have z_b9 : w1.heap.size < w9.heap.size := qB b90
   have z_b12 : w2.heap.size < w9.heap.size := qB b120
   have z_b15 : w3.heap.size < w9.heap.size := qB b150
   have z_b18 : w5.heap.size < w9.heap.size := qB b180
   replace i1 := i1.ext Lw9
   replace i2 := i2.ext Lw9
   replace i11u := i11u.ext Lw9
   replace i11v := i11v.ext Lw9
   replace i14u := i14u.ext Lw9
   replace i14v := i14v.ext Lw9
   replace i17u := i17u.ext Lw9
   replace i17v := i17v.ext Lw9
   replace i20 := i20.ext Lw9
   replace i22 := i22.ext Lw9
   have s_w9 : w.heap.size ≤ w9.heap.size := Xw9.size
   clear xw9
   refine hK.out _ _ ⟨b90, b91, b92, b120, b121, b122, b180, b181, b182⟩ (fun hHeld => ?_)
   clear hK K
   try simp only [Act.put, qa, qb, qc, qD, qE, qF]
   refine qTk (v := ?_) 5 rfl (.inl ⟨by rfl, ?_⟩) ?_
   rotate_left
   ·
    (intro w hSw; (try dsimp only at hSw); go_simp; try with_reducible rfl)
   try simp only [Act.put, qa, qb, qc, qD, qE, qF]
   refine qTk (v := ?_) 6 rfl (.inl ⟨by rfl, ?_⟩) ?_
   rotate_left
   ·
    (intro w hSw; (try dsimp only at hSw); go_simp; try with_reducible rfl)
   try simp only [Act.put, qa, qb, qc, qD, qE, qF]
   refine qTk (v := ?_) 7 rfl (.inl ⟨by rfl, ?_⟩) ?_
   rotate_left
   ·
    (intro w hSw; (try dsimp only at hSw); go_simp; try with_reducible rfl)
   try simp only [Act.put, qa, qb, qc, qD, qE, qF]
   refine qTk (v := ?_) 8 rfl (.inl ⟨by rfl, ?_⟩) ?_
   rotate_left
   ·
    (intro w hSw; (try dsimp only at hSw); go_simp; try with_reducible rfl)
   try simp only [Act.put, qa, qb, qc, qD, qE, qF]
   refine qTk (v := ?_) 9 rfl (.inl ⟨by rfl, ?_⟩) ?_
   rotate_left
   ·
    (intro w hSw; (try dsimp only at hSw); go_simp; try with_reducible rfl)
   try simp only [Act.put, qa, qb, qc, qD, qE, qF]
   refine qTk (v := ?_) 10 rfl (.inl ⟨by rfl, ?_⟩) ?_
   rotate_left
   ·
    (intro w hSw; (try dsimp only at hSw); go_simp; try with_reducible rfl)
   try simp only [Act.put, qa, qb, qc, qD, qE, qF]
   refine wpTail_one (i := 11) qKr rfl rfl (fun K hK => ?_)
   try simp only [Act.put, qa, qb, qc, qD, qE, qF]
   go_simp
   refine (implSameView_c QB (.slice afv16u QS.length cfv16u) (.slice afv16v QT.length cfv16v) QS QT b (.slice p1 s.length r1) (.slice p2 t.length r2) s t _ _ _ (i17u.ext qXt) (i17v.ext qXt) _ _ (i1.ext qXt) (i2.ext qXt)).mono ?_
   rintro e w10 ⟨rfl, xw10⟩
   have Lw10 : Ext w9 w10 := Ext.trans qXt xw10
   have Xw10 : Ext w w10 := Xw9.trans Lw10
   replace b90 := Lw10.cell b90
   replace b91 := Lw10.cell b91
   replace b92 := Lw10.cell b92
   replace b120 := Lw10.cell b120
   replace b121 := Lw10.cell b121
   replace b122 := Lw10.cell b122
   replace b150 := Lw10.cell b150
   replace b151 := Lw10.cell b151
   replace b152 := Lw10.cell b152
   replace b180 := Lw10.cell b180
   replace b181 := Lw10.cell b181
   replace b182 := Lw10.cell b182
   have z_b9 : w1.heap.size < w10.heap.size := qB b90
   have z_b12 : w2.heap.size < w10.heap.size := qB b120
   have z_b15 : w3.heap.size < w10.heap.size := qB b150
   have z_b18 : w5.heap.size < w10.heap.size := qB b180
   replace i1 := i1.ext Lw10
   replace i2 := i2.ext Lw10
   replace i11u := i11u.ext Lw10
   replace i11v := i11v.ext Lw10
   replace i14u := i14u.ext Lw10
   replace i14v := i14v.ext Lw10
   replace i17u := i17u.ext Lw10
   replace i17v := i17v.ext Lw10
   replace i20 := i20.ext Lw10
   replace i22 := i22.ext Lw10
   have s_w10 : w.heap.size ≤ w10.heap.size := Xw10.size
   clear xw10
   rw [hsm.out]
   refine hK.out _ _ ⟨b90, b91, b92, b120, b121, b122, b180, b181, b182⟩ (fun hHeld => ?_)
   clear hK K
   try simp only [Act.put, qa, qb, qc, qD, qE, qF]
   refine qTk (v := ?_) 12 rfl (.inl ⟨by rfl, ?_⟩) ?_
   rotate_left
   ·
    (intro w hSw; (try dsimp only at hSw); go_simp; try with_reducible rfl)
   try simp only [Act.put, qa, qb, qc, qD, qE, qF]
   refine qTk (v := ?_) 13 rfl (.inl ⟨by rfl, ?_⟩) ?_
   rotate_left
   ·
    (intro w hSw; (try dsimp only at hSw); go_simp; try with_reducible rfl)
   try simp only [Act.put, qa, qb, qc, qD, qE, qF]
   refine qTk (v := ?_) 14 rfl (.inl ⟨by rfl, ?_⟩) ?_
   rotate_left
   ·
    (intro w hSw; (try dsimp only at hSw); go_simp; try with_reducible rfl)
   try simp only [Act.put, qa, qb, qc, qD, qE, qF]
   refine qTk (v := ?_) 15 rfl (.inl ⟨by rfl, ?_⟩) ?_
   rotate_left
   ·
    (intro w hSw; (try dsimp only at hSw); go_simp; try with_reducible rfl)
   try simp only [Act.put, qa, qb, qc, qD, qE, qF]
   refine qTk (v := ?_) 16 rfl (.inl ⟨by rfl, ?_⟩) ?_
   rotate_left
   ·
    (intro w hSw; (try dsimp only at hSw); go_simp; try with_reducible rfl)
   try simp only [Act.put, qa, qb, qc, qD, qE, qF]
   have hN_e25 : D < PS.length := hDN
   have hI_e25 : (D : Int) < (PS.length : Int) := by omega
   obtain ⟨bl23, ol24, rfl, e250⟩ := i11u.at D hDN
   obtain ⟨v26, hv26⟩ : ∃ v, PS.getD D 0 = v := ⟨_, rfl⟩
   rw [hv26] at e250
   replace hv26 := Lib.hid hv26
   have y_e25 : bl23 < w10.heap.size := qB e250
   have z_e25 := y_e25
   obtain rfl : 1 = v26 := hgo.out.symm.trans hv26.out
   refine qTk (v := ?_) 17 rfl (.inl ⟨by rfl, ?_⟩) ?_
   rotate_left
   ·
    (intro w hSw; (try dsimp only at hSw); go_simp; try with_reducible rfl)
   try simp only [Act.put, qa, qb, qc, qD, qE, qF]
   refine wpTail_one (i := 18) qKr rfl rfl (fun K hK => ?_)
   try simp only [Act.put, qa, qb, qc, qD, qE, qF]
   go_simp
   refine hK.out _ _ ⟨b90, b91, b92, b120, b121, b122, b180, b181, b182⟩ (fun hHeld => ?_)
   clear hK K
   try simp only [Act.put, qa, qb, qc, qD, qE, qF]
   refine qTk (v := ?_) 19 rfl (.inl ⟨by rfl, ?_⟩) ?_
   rotate_left
   ·
    (intro w hSw; (try dsimp only at hSw); go_simp; try with_reducible rfl)
   try simp only [Act.put, qa, qb, qc, qD, qE, qF]
   refine qTk (v := ?_) 20 rfl (.inl ⟨by rfl, ?_⟩) ?_
   rotate_left
   ·
    (intro w hSw; (try dsimp only at hSw); go_simp; try with_reducible rfl)
   try simp only [Act.put, qa, qb, qc, qD, qE, qF]
   refine qTk (v := ?_) 21 rfl (.inl ⟨by rfl, ?_⟩) ?_
   rotate_left
   ·
    (intro w hSw; (try dsimp only at hSw); go_simp; try with_reducible rfl)
   try simp only [Act.put, qa, qb, qc, qD, qE, qF]
   refine wpTail_done qKr ?_ _
   clear hHeld 
   go_wp2_with fail
   go_ret
   exact ⟨rfl, (Xw10.trans qXt)⟩


end Go.Proofs.Ytonnnjaooifpjaa

/- The law FnAddDim holds for all bytes: the call returns true, and its argument reads as it did. No condition. -/
namespace Go.Proofs.Ytonnnjaooifpjaa.rowFnAddDim
open Go.ChangeShapes Go.WideShapes Go.ChangeAt Go.RowKit
set_option linter.unusedVariables false

set_option maxHeartbeats 1000000 in
set_option maxRecDepth 100000 in
theorem lifted (os : Os) (started : os.Started) (H : Type) (enc : TypeId × Value → H) :
    ReturnsInHanded {} Try.checked os 6 .any (Rows.fnAddDimSpec.pre6 enc Try.prog Try.f6 Rows.fnAddDimRow.domain false) (Rows.fnAddDimSpec.post enc Try.prog Try.f6 false true false false) := by
  refine returnsInHanded_of_change (C := Try.checked) own started qKr Try.func6
    (ChangeSpec.witness6 (enc := enc) (C := Try.checked) false ⟨#[], #[.slice none 0 0], []⟩ 8 qKr qKr qKr qKr) ?_
  intro W base args ds gs before hval0 hW hcnd _
  have hval : ∀ (j : Nat) t v, Try.f6.params[j]? = some t → args[j]? = some v → Value.okWide Try.prog W .any base t v := hval0
  have hW' := hW
  obtain ⟨p, q, hA0, hV, rfl, hfz, hnd⟩ := hW
  have hA : DataW.TrodAll enc Try.prog W 0 (fun _ => true) true Try.f6.params.toList args.toList ds p := hA0
  rw [Try.params6] at hA hval
  obtain ⟨v0, vs0, d0, ds0, p0, q0, hargs0, rfl, rfl, h0, r0⟩ := trodAll_cons hA
  obtain ⟨rfl, rfl, rfl⟩ := trodAll_nil r0
  obtain rfl : args = #[v0] := by cases args; simp_all
  obtain ⟨rfl, rfl⟩ := trodVars_none hV
  obtain ⟨a0, len0, cap0, rfl⟩ := okWide_slice Try.underlying22 (hval 0 22 v0 rfl rfl)
  have k0 := h0
  have lt0 : ∀ x ∈ p0, x.block < W.heap.size := by obtain ⟨m, hm⟩ := k0; exact DataW.trod_lt m _ _ _ hm
  have w0 : BysIn W a0 len0 cap0 := by
    obtain ⟨fuel, hf⟩ := h0
    rcases open_ints Try.underlying22 Try.underlying5 qKr hf with ⟨hcs, _⟩ | ⟨x, l, c, zs, hcs, _, hl, hm, hz, _, hcell, hwz⟩
    · simp [Value.cells] at hcs
      obtain ⟨rfl, rfl, rfl⟩ := hcs
      exact ⟨Nat.le_refl _, by simp, fun i hi => absurd hi (by simp)⟩
    · simp [Value.cells] at hcs
      obtain ⟨rfl, rfl, rfl⟩ := hcs
      have hzl : zs.length = cap0 := by simpa using hz
      exact bys_of_cells hl hm hzl hcell hwz
  clear hA0 hval0
  refine (lawFnAddDim_c a0 len0 cap0 W w0).mono fun e W' ⟨he, bel⟩ => ?_
  subst he
  exact ⟨_, rfl, _, _, _, [], _, [], hW', trodAll_mk1 (shut_bool Try.underlying4 _), (trodAll_cons_mk (Below.trod laidOut qKr (of_decide_eq_true qKr) k0 bel lt0) trodAll_mk0), rfl, Below.frame bel _, fun h => by cases h⟩

set_option maxHeartbeats 2000000 in
theorem closed : joinedFacts Try.checked.prog 6 Try.f6 Rows.fnAddDimSpec Rows.fnAddDimRow = true :=
  facts.all qKr qKr qKr qKr qKr (by as_aux_lemma => kernel_rfl) (by as_aux_lemma => kernel_rfl) (by as_aux_lemma => kernel_rfl) (by as_aux_lemma => kernel_rfl)
    (by as_aux_lemma => kernel_rfl) (by as_aux_lemma => kernel_rfl) rfl rfl rfl rfl qKr qKr (by as_aux_lemma => kernel_rfl) (by as_aux_lemma => kernel_rfl)

theorem named : Try.pinned.checked.prog.funcNamed Rows.fnAddDimRow.func = some 6 := by kernel_rfl

theorem over : Rows.fnAddDimRow.holds Try.pinned (OpenSpec.ofChange Rows.fnAddDimSpec) :=
  OpenClaim.holds_of_wide 6 Try.f6 rfl rfl rfl rfl rfl rfl rfl ⟨rfl, rfl, rfl, rfl, rfl⟩ rfl rfl rfl rfl rfl named Try.func6 closed
    (of_decide_eq_true qKr) (by unfold Func.isWrapper; exact ⟨rfl, rfl⟩)
    (fun os started H enc _ => lifted os started H enc)

theorem proved : Rows.FnAddDimSaid := over

end Go.Proofs.Ytonnnjaooifpjaa.rowFnAddDim
