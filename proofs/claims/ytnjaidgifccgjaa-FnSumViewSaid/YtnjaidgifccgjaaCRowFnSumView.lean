/- Texts of these proofs put together: LvM, LawFnSumView, RowFnSumView. No condition. -/
import Derived.Test.YtnjaidgifccgjaaD1RowFnSumView
import Derived.Test.YtnjaidgifccgjaaM1
import Derived.Test.YtnjaidgifccgjaaM4
import Derived.Test.YtnjaidgifccgjaaM5
set_option linter.unusedVariables false
set_option linter.unusedSimpArgs false
/- Walks: PermuteDims of the program. -/
namespace Go.Proofs.Ytnjaidgifccgjaa
open Go.RowKit
set_option linter.unusedVariables false
set_option maxRecDepth 100000


def OrdTo (ord : List Int) (n k : Nat) : Prop := (∀ x ∈ ord.take k, 0 ≤ x ∧ x < n) ∧ (ord.take k).Nodup
theorem take_snoc (l : List Int) (k : Nat) (h : k < l.length) : l.take (k+1) = l.take k ++ [l.getD k 0] := by
  rw [List.take_succ_eq_append_getElem h]; simp [h]
theorem OrdTo.zero (ord : List Int) (n : Nat) : OrdTo ord n 0 := ⟨by simp, by simp⟩
theorem OrdTo.succ {ord : List Int} {n k : Nat} (h : OrdTo ord n k) (hk : k < ord.length) {x : Int} (hx : ord.getD k 0 = x) (h1 : 0 ≤ x ∧ x < n) (h2 : hasB (ord.take k) x = false) : OrdTo ord n (k+1) := by
  unfold OrdTo
  rw [take_snoc ord k hk, hx]
  refine ⟨fun y hy => ?_, ?_⟩
  · rcases List.mem_append.1 hy with hy | hy
    · exact h.1 y hy
    · simp at hy; subst hy; exact h1
  · rw [List.nodup_append]
    refine ⟨h.2, by simp, fun y hy z hz e => ?_⟩
    simp at hz; subst hz; subst e
    unfold hasB at h2
    have := List.contains_iff_mem.2 hy
    rw [h2] at this; cases this
theorem ord_yes {ord : List Int} {n : Nat} (hl : ord.length = n) (h : OrdTo ord n ord.length) : orderB ord n = true := by
  unfold OrdTo at h
  rw [List.take_length] at h
  unfold orderB
  simp only [Bool.and_eq_true, decide_eq_true_eq, List.all_eq_true, inB]
  exact ⟨by omega, fun x hx => by have := h.1 x hx; omega, h.2⟩
theorem ord_no {ord : List Int} {n k : Nat} (hk : k < ord.length) {x : Int} (hx : ord.getD k 0 = x) (h : x < 0 ∨ (n : Int) ≤ x ∨ hasB (ord.take k) x = true) : orderB ord n = false := by
  cases hb : orderB ord n with
  | false => rfl
  | true =>
    obtain ⟨h1, h2, h3⟩ := orderB_in hb
    have hm : x ∈ ord := hx ▸ getD_mem hk
    have := h2 x hm
    rcases h with h | h | h
    · omega
    · omega
    · unfold hasB at h
      have h4 := List.contains_iff_mem.1 h
      have h5 : (ord.take (k+1)).Nodup := h3.sublist (List.take_sublist _ _)
      rw [take_snoc ord k hk, hx, List.nodup_append] at h5
      exact absurd rfl (h5.2.2 x h4 x (by simp))
theorem ord_len {ord : List Int} {n : Nat} (h : ¬ (ord.length : Int) = n) : orderB ord n = false := by
  unfold orderB; simp [h]

set_option maxHeartbeats 3200000 in
theorem implPermuteDims_c (b1 : Int) (u1 v1 : Value) (s1 t1 : List Int) (v3 : Value) (ord : List Int) (w : World) (l1 m1 : Nat) (h1 : Ints w l1 u1 s1) (k1 : Ints w m1 v1 t1) (l3 : Nat) (h3 : Ints w l3 v3 ord) :
    Calls Try.prog 51 #[.agg #[.int .i64 b1, u1, v1], v3] w (PVB w (permV b1 s1 t1 ord)) := by
  obtain ⟨p0, c0, rfl⟩ := h1.form
  obtain ⟨p1, c1, rfl⟩ := k1.form
  obtain ⟨p2, c2, rfl⟩ := h3.form
  go_enter Try.func51, Try.ntmps51
  go_wp2_with fail
  refine (isView_c b1 (.slice p0 s1.length c0) (.slice p1 t1.length c1) s1 t1 _ _ _ (h1.ext (by repeat (first | (with_reducible assumption) | (with_reducible refine Ext.setCell ?_ (by first | (simp; done) | (simp; omega) | omega) _) | (with_reducible apply Ext.alloc) | (with_reducible apply Ext.drew) | (with_reducible apply Ext.drewN) | (with_reducible exact Ext.refl _)))) (k1.ext (by repeat (first | (with_reducible assumption) | (with_reducible refine Ext.setCell ?_ (by first | (simp; done) | (simp; omega) | omega) _) | (with_reducible apply Ext.alloc) | (with_reducible apply Ext.drew) | (with_reducible apply Ext.drewN) | (with_reducible exact Ext.refl _))))).mono ?_
  rintro e w1 ⟨rfl, xw1⟩
  have Lw1 : Ext w w1 := Ext.trans (by repeat (first | (with_reducible assumption) | (with_reducible refine Ext.setCell ?_ (by first | (simp; done) | (simp; omega) | omega) _) | (with_reducible apply Ext.alloc) | (with_reducible apply Ext.drew) | (with_reducible apply Ext.drewN) | (with_reducible exact Ext.refl _))) xw1
  have Xw1 : Ext w w1 := Lw1
  have b10 : w1.cell? ⟨w.heap.size, 0, none⟩ = some (.int .i64 b1) := xw1.cell (by first | (simp; done) | ((repeat rw [World.cell?_alloc_lt _ _ _ (by simp <;> omega)]); simp; done) | (go_simp; done))
  have b11 : w1.cell? ⟨w.heap.size, 1, none⟩ = some (.slice p0 s1.length c0) := xw1.cell (by first | (simp; done) | ((repeat rw [World.cell?_alloc_lt _ _ _ (by simp <;> omega)]); simp; done) | (go_simp; done))
  have b12 : w1.cell? ⟨w.heap.size, 2, none⟩ = some (.slice p1 t1.length c1) := xw1.cell (by first | (simp; done) | ((repeat rw [World.cell?_alloc_lt _ _ _ (by simp <;> omega)]); simp; done) | (go_simp; done))
  have b20 : w1.cell? ⟨w.heap.size + 1, 0, none⟩ = some (.int .i64 0) := xw1.cell (by first | (simp; done) | ((repeat rw [World.cell?_alloc_lt _ _ _ (by simp <;> omega)]); simp; done) | (go_simp; done))
  have b21 : w1.cell? ⟨w.heap.size + 1, 1, none⟩ = some (.slice none 0 0) := xw1.cell (by first | (simp; done) | ((repeat rw [World.cell?_alloc_lt _ _ _ (by simp <;> omega)]); simp; done) | (go_simp; done))
  have b22 : w1.cell? ⟨w.heap.size + 1, 2, none⟩ = some (.slice none 0 0) := xw1.cell (by first | (simp; done) | ((repeat rw [World.cell?_alloc_lt _ _ _ (by simp <;> omega)]); simp; done) | (go_simp; done))
  have f_b20 : w1.frozen? ⟨w.heap.size + 1, 0, none⟩ = false := xw1.frz (by simp <;> omega) (by first | (simp; done) | (go_simp; done))
  have f_b21 : w1.frozen? ⟨w.heap.size + 1, 1, none⟩ = false := xw1.frz (by simp <;> omega) (by first | (simp; done) | (go_simp; done))
  have f_b22 : w1.frozen? ⟨w.heap.size + 1, 2, none⟩ = false := xw1.frz (by simp <;> omega) (by first | (simp; done) | (go_simp; done))
  have z_b1 : w.heap.size < w1.heap.size := World.block_lt_of_cell? _ _ b10
  have z_b2 : w.heap.size + 1 < w1.heap.size := World.block_lt_of_cell? _ _ b20
  have s_w1 : w.heap.size ≤ w1.heap.size := Xw1.size
  clear xw1
  cases hB3 : viewB b1 s1 t1
  · replace hB3 := Lib.hid hB3
    go_wp2_with fail
    have Kw2 : Chg (w.heap.size + 1) (w.heap.size + 1 + 1) w1 (((w1.setCell ⟨w.heap.size + 1, 0, none⟩ (.int .i64 0)).setCell ⟨w.heap.size + 1, 1, none⟩ (.slice none 0 0)).setCell ⟨w.heap.size + 1, 2, none⟩ (.slice none 0 0)) := (Chg.setCell (p := ⟨w.heap.size + 1, 2, none⟩) (Chg.setCell (p := ⟨w.heap.size + 1, 1, none⟩) (Chg.setCell (p := ⟨w.heap.size + 1, 0, none⟩) (Chg.refl (w.heap.size + 1) (w.heap.size + 1 + 1) _) (Nat.le_refl _) (Nat.lt_succ_self _) (.int .i64 0)) (Nat.le_refl _) (Nat.lt_succ_self _) (.slice none 0 0)) (Nat.le_refl _) (Nat.lt_succ_self _) (.slice none 0 0))
    have Xw2 : Ext w (((w1.setCell ⟨w.heap.size + 1, 0, none⟩ (.int .i64 0)).setCell ⟨w.heap.size + 1, 1, none⟩ (.slice none 0 0)).setCell ⟨w.heap.size + 1, 2, none⟩ (.slice none 0 0)) := (Ext.setCell (p := ⟨w.heap.size + 1, 2, none⟩) (Ext.setCell (p := ⟨w.heap.size + 1, 1, none⟩) (Ext.setCell (p := ⟨w.heap.size + 1, 0, none⟩) Xw1 (by first | (simp; done) | (simp; omega) | omega) (.int .i64 0)) (by first | (simp; done) | (simp; omega) | omega) (.slice none 0 0)) (by first | (simp; done) | (simp; omega) | omega) (.slice none 0 0))
    replace b10 := Kw2.cell (by omega) b10
    replace b11 := Kw2.cell (by omega) b11
    replace b12 := Kw2.cell (by omega) b12
    have n_b20 : (((w1.setCell ⟨w.heap.size + 1, 0, none⟩ (.int .i64 0)).setCell ⟨w.heap.size + 1, 1, none⟩ (.slice none 0 0)).setCell ⟨w.heap.size + 1, 2, none⟩ (.slice none 0 0)).cell? ⟨w.heap.size + 1, 0, none⟩ = some (.int .i64 0) := by go_simp
    have n_f_b20 : (((w1.setCell ⟨w.heap.size + 1, 0, none⟩ (.int .i64 0)).setCell ⟨w.heap.size + 1, 1, none⟩ (.slice none 0 0)).setCell ⟨w.heap.size + 1, 2, none⟩ (.slice none 0 0)).frozen? ⟨w.heap.size + 1, 0, none⟩ = false := by go_simp
    have n_b21 : (((w1.setCell ⟨w.heap.size + 1, 0, none⟩ (.int .i64 0)).setCell ⟨w.heap.size + 1, 1, none⟩ (.slice none 0 0)).setCell ⟨w.heap.size + 1, 2, none⟩ (.slice none 0 0)).cell? ⟨w.heap.size + 1, 1, none⟩ = some (.slice none 0 0) := by go_simp
    have n_f_b21 : (((w1.setCell ⟨w.heap.size + 1, 0, none⟩ (.int .i64 0)).setCell ⟨w.heap.size + 1, 1, none⟩ (.slice none 0 0)).setCell ⟨w.heap.size + 1, 2, none⟩ (.slice none 0 0)).frozen? ⟨w.heap.size + 1, 1, none⟩ = false := by go_simp
    have n_b22 : (((w1.setCell ⟨w.heap.size + 1, 0, none⟩ (.int .i64 0)).setCell ⟨w.heap.size + 1, 1, none⟩ (.slice none 0 0)).setCell ⟨w.heap.size + 1, 2, none⟩ (.slice none 0 0)).cell? ⟨w.heap.size + 1, 2, none⟩ = some (.slice none 0 0) := by go_simp
    have n_f_b22 : (((w1.setCell ⟨w.heap.size + 1, 0, none⟩ (.int .i64 0)).setCell ⟨w.heap.size + 1, 1, none⟩ (.slice none 0 0)).setCell ⟨w.heap.size + 1, 2, none⟩ (.slice none 0 0)).frozen? ⟨w.heap.size + 1, 2, none⟩ = false := by go_simp
    replace b20 := n_b20
    clear n_b20
    replace f_b20 := n_f_b20
    clear n_f_b20
    replace b21 := n_b21
    clear n_b21
    replace f_b21 := n_f_b21
    clear n_f_b21
    replace b22 := n_b22
    clear n_b22
    replace f_b22 := n_f_b22
    clear n_f_b22
    clear Kw2
    have z_b1 : w.heap.size < (((w1.setCell ⟨w.heap.size + 1, 0, none⟩ (.int .i64 0)).setCell ⟨w.heap.size + 1, 1, none⟩ (.slice none 0 0)).setCell ⟨w.heap.size + 1, 2, none⟩ (.slice none 0 0)).heap.size := World.block_lt_of_cell? _ _ b10
    have z_b2 : w.heap.size + 1 < (((w1.setCell ⟨w.heap.size + 1, 0, none⟩ (.int .i64 0)).setCell ⟨w.heap.size + 1, 1, none⟩ (.slice none 0 0)).setCell ⟨w.heap.size + 1, 2, none⟩ (.slice none 0 0)).heap.size := World.block_lt_of_cell? _ _ b20
    have s_w2 : w.heap.size ≤ (((w1.setCell ⟨w.heap.size + 1, 0, none⟩ (.int .i64 0)).setCell ⟨w.heap.size + 1, 1, none⟩ (.slice none 0 0)).setCell ⟨w.heap.size + 1, 2, none⟩ (.slice none 0 0)).heap.size := Xw2.size
    generalize (((w1.setCell ⟨w.heap.size + 1, 0, none⟩ (.int .i64 0)).setCell ⟨w.heap.size + 1, 1, none⟩ (.slice none 0 0)).setCell ⟨w.heap.size + 1, 2, none⟩ (.slice none 0 0)) = w2 at *
    refine bodyPost_ret (v := .tuple #[.agg #[.int .i64 0, .slice none 0 0, .slice none 0 0], .bool false]) (by simp only [results, Try.results51]; go_simp) rfl ?_
    rw [show permV b1 s1 t1 ord = noV by unfold permV; rw [hB3.out, Bool.false_and] <;> rfl]
    exact PViewB.no (Xw2.trans (by repeat (first | (with_reducible assumption) | (with_reducible refine Ext.setCell ?_ (by first | (simp; done) | (simp; omega) | omega) _) | (with_reducible apply Ext.alloc) | (with_reducible apply Ext.drew) | (with_reducible apply Ext.drewN) | (with_reducible exact Ext.refl _))))
  · replace hB3 := Lib.hid hB3
    by_cases hc4 : (ord.length : Int) = (s1.length : Int)
    · have hc4e : ((ord.length : Int) == (s1.length : Int)) = true := by simpa using hc4
      have hc4n : ((ord.length : Int) != (s1.length : Int)) = false := by simpa using hc4
      replace hc4 := Lib.hid hc4
      go_wp2_with fail
      have Lw2 : Ext w1 (w1.alloc (.cells #[.int .i64 b1, .slice none 0 0, .slice none 0 0] 25)) := (by repeat (first | (with_reducible assumption) | (with_reducible refine Ext.setCell ?_ (by first | (simp; done) | (simp; omega) | omega) _) | (with_reducible apply Ext.alloc) | (with_reducible apply Ext.drew) | (with_reducible apply Ext.drewN) | (with_reducible exact Ext.refl _)))
      have Xw2 : Ext w (w1.alloc (.cells #[.int .i64 b1, .slice none 0 0, .slice none 0 0] 25)) := Xw1.trans Lw2
      replace b10 := Lw2.cell b10
      replace b11 := Lw2.cell b11
      replace b12 := Lw2.cell b12
      replace b20 := Lw2.cell b20
      replace b21 := Lw2.cell b21
      replace b22 := Lw2.cell b22
      replace f_b20 := Lw2.frz z_b2 f_b20
      replace f_b21 := Lw2.frz z_b2 f_b21
      replace f_b22 := Lw2.frz z_b2 f_b22
      have b50 : (w1.alloc (.cells #[.int .i64 b1, .slice none 0 0, .slice none 0 0] 25)).cell? ⟨w1.heap.size, 0, none⟩ = some (.int .i64 b1) := (by first | (simp; done) | ((repeat rw [World.cell?_alloc_lt _ _ _ (by simp <;> omega)]); simp; done) | (go_simp; done))
      have b51 : (w1.alloc (.cells #[.int .i64 b1, .slice none 0 0, .slice none 0 0] 25)).cell? ⟨w1.heap.size, 1, none⟩ = some (.slice none 0 0) := (by first | (simp; done) | ((repeat rw [World.cell?_alloc_lt _ _ _ (by simp <;> omega)]); simp; done) | (go_simp; done))
      have b52 : (w1.alloc (.cells #[.int .i64 b1, .slice none 0 0, .slice none 0 0] 25)).cell? ⟨w1.heap.size, 2, none⟩ = some (.slice none 0 0) := (by first | (simp; done) | ((repeat rw [World.cell?_alloc_lt _ _ _ (by simp <;> omega)]); simp; done) | (go_simp; done))
      have f_b50 : (w1.alloc (.cells #[.int .i64 b1, .slice none 0 0, .slice none 0 0] 25)).frozen? ⟨w1.heap.size, 0, none⟩ = false := (by first | (simp; done) | (go_simp; done))
      have f_b51 : (w1.alloc (.cells #[.int .i64 b1, .slice none 0 0, .slice none 0 0] 25)).frozen? ⟨w1.heap.size, 1, none⟩ = false := (by first | (simp; done) | (go_simp; done))
      have f_b52 : (w1.alloc (.cells #[.int .i64 b1, .slice none 0 0, .slice none 0 0] 25)).frozen? ⟨w1.heap.size, 2, none⟩ = false := (by first | (simp; done) | (go_simp; done))
      have z_b1 : w.heap.size < (w1.alloc (.cells #[.int .i64 b1, .slice none 0 0, .slice none 0 0] 25)).heap.size := World.block_lt_of_cell? _ _ b10
      have z_b2 : w.heap.size + 1 < (w1.alloc (.cells #[.int .i64 b1, .slice none 0 0, .slice none 0 0] 25)).heap.size := World.block_lt_of_cell? _ _ b20
      have z_b5 : w1.heap.size < (w1.alloc (.cells #[.int .i64 b1, .slice none 0 0, .slice none 0 0] 25)).heap.size := World.block_lt_of_cell? _ _ b50
      have s_w2 : w.heap.size ≤ (w1.alloc (.cells #[.int .i64 b1, .slice none 0 0, .slice none 0 0] 25)).heap.size := Xw2.size
      generalize w1.alloc (.cells #[.int .i64 b1, .slice none 0 0, .slice none 0 0] 25) = w2 at *
      have hol : ord.length ≤ 4 := by have := (vw hB3.out).2.2.2.1; have := hc4.out; omega
      have hst : s1.length ≤ t1.length := (vw hB3.out).1
      have hos : ord.length = s1.length := by have := hc4.out; omega
      replace hos := Lib.hid hos
      have yE_b1 := z_b1
      have yE_b2 := z_b2
      have yE_b5 := z_b5
      go_loopw [7, 8, 26] (fun x y i wr => ∃ (k : Nat) (pr1 pr2 : Value), k ≤ ord.length ∧ i = .int .i64 k ∧ Hid (OrdTo ord s1.length k) ∧ Two (w2.heap.size) wr pr1 pr2 (takL s1 (ord.take k)) (takL t1 (ord.take k)) ∧ Ext w wr ∧ wr.cell? ⟨w.heap.size, 0, none⟩ = some (.int .i64 b1) ∧ wr.cell? ⟨w.heap.size, 1, none⟩ = some (.slice p0 s1.length c0) ∧ wr.cell? ⟨w.heap.size, 2, none⟩ = some (.slice p1 t1.length c1) ∧ wr.cell? ⟨w.heap.size + 1, 0, none⟩ = some (.int .i64 0) ∧ wr.cell? ⟨w.heap.size + 1, 1, none⟩ = some (.slice none 0 0) ∧ wr.cell? ⟨w.heap.size + 1, 2, none⟩ = some (.slice none 0 0) ∧ wr.frozen? ⟨w.heap.size + 1, 0, none⟩ = false ∧ wr.frozen? ⟨w.heap.size + 1, 1, none⟩ = false ∧ wr.frozen? ⟨w.heap.size + 1, 2, none⟩ = false ∧ wr.cell? ⟨w1.heap.size, 0, none⟩ = some (.int .i64 b1) ∧ wr.cell? ⟨w1.heap.size, 1, none⟩ = some (pr1) ∧ wr.cell? ⟨w1.heap.size, 2, none⟩ = some (pr2) ∧ wr.frozen? ⟨w1.heap.size, 0, none⟩ = false ∧ wr.frozen? ⟨w1.heap.size, 1, none⟩ = false ∧ wr.frozen? ⟨w1.heap.size, 2, none⟩ = false) (fun x y i _ => ord.length - (intOf i).toNat)
      case atStart => exact ⟨0, _, _, Nat.zero_le _, rfl, Lib.hid (OrdTo.zero _ _), by simpa [takL] using Two.nil (by omega), (Xw2.trans (by repeat (first | (with_reducible assumption) | (with_reducible refine Ext.setCell ?_ (by first | (simp; done) | (simp; omega) | omega) _) | (with_reducible apply Ext.alloc) | (with_reducible apply Ext.drew) | (with_reducible apply Ext.drewN) | (with_reducible exact Ext.refl _)))), b10, b11, b12, b20, b21, b22, f_b20, f_b21, f_b22, b50, b51, b52, f_b50, f_b51, f_b52⟩
      case round =>
        obtain ⟨k, pr1, pr2, hk, rfl, hok, T, Xr, b10, b11, b12, b20, b21, b22, f_b20, f_b21, f_b22, b50, b51, b52, f_b50, f_b51, f_b52⟩ := hrel
        have hTs := T.size
        have z_b1 : w.heap.size < wr.heap.size := World.block_lt_of_cell? _ _ b10
        have z_b2 : w.heap.size + 1 < wr.heap.size := World.block_lt_of_cell? _ _ b20
        have z_b5 : w1.heap.size < wr.heap.size := World.block_lt_of_cell? _ _ b50
        by_cases hlt : k < ord.length
        · have hkI : (k : Int) < ord.length := by omega
          have hs1 := takL_take s1 ord k hlt
          have hs2 := takL_take t1 ord k hlt
          rw [← getD_get hlt] at hs1 hs2
          have tl1 : (takL s1 (ord.take k)).length = k := by rw [takL_len, List.length_take]; omega
          have tl2 : (takL t1 (ord.take k)).length = k := by rw [takL_len, List.length_take]; omega
          replace tl1 := Lib.hid tl1
          replace tl2 := Lib.hid tl2
          have hN_e8 : k < ord.length := (by omega)
          have hI_e8 : (k : Int) < (ord.length : Int) := by omega
          obtain ⟨bl6, ol7, rfl, e80⟩ := h3.at k (by omega)
          have y_e8 : bl6 < w.heap.size := World.block_lt_of_cell? _ _ e80
          replace e80 := Xr.cell e80
          obtain ⟨v9, hv9⟩ : ∃ v, ord.getD k 0 = v := ⟨_, rfl⟩
          rw [hv9] at e80
          replace hv9 := Lib.hid hv9
          have z_e8 : bl6 < wr.heap.size := World.block_lt_of_cell? _ _ e80
          by_cases hc10 : (v9 : Int) < (0 : Int)
          · go_wp2_with fail
            have Kw3 : Chg (w.heap.size + 1) (w.heap.size + 1 + 1) wr (((wr.setCell ⟨w.heap.size + 1, 0, none⟩ (.int .i64 0)).setCell ⟨w.heap.size + 1, 1, none⟩ (.slice none 0 0)).setCell ⟨w.heap.size + 1, 2, none⟩ (.slice none 0 0)) := (Chg.setCell (p := ⟨w.heap.size + 1, 2, none⟩) (Chg.setCell (p := ⟨w.heap.size + 1, 1, none⟩) (Chg.setCell (p := ⟨w.heap.size + 1, 0, none⟩) (Chg.refl (w.heap.size + 1) (w.heap.size + 1 + 1) _) (Nat.le_refl _) (Nat.lt_succ_self _) (.int .i64 0)) (Nat.le_refl _) (Nat.lt_succ_self _) (.slice none 0 0)) (Nat.le_refl _) (Nat.lt_succ_self _) (.slice none 0 0))
            have Xw3 : Ext w (((wr.setCell ⟨w.heap.size + 1, 0, none⟩ (.int .i64 0)).setCell ⟨w.heap.size + 1, 1, none⟩ (.slice none 0 0)).setCell ⟨w.heap.size + 1, 2, none⟩ (.slice none 0 0)) := (Ext.setCell (p := ⟨w.heap.size + 1, 2, none⟩) (Ext.setCell (p := ⟨w.heap.size + 1, 1, none⟩) (Ext.setCell (p := ⟨w.heap.size + 1, 0, none⟩) Xr (by first | (simp; done) | (simp; omega) | omega) (.int .i64 0)) (by first | (simp; done) | (simp; omega) | omega) (.slice none 0 0)) (by first | (simp; done) | (simp; omega) | omega) (.slice none 0 0))
            replace b10 := Kw3.cell (by omega) b10
            replace b11 := Kw3.cell (by omega) b11
            replace b12 := Kw3.cell (by omega) b12
            have n_b20 : (((wr.setCell ⟨w.heap.size + 1, 0, none⟩ (.int .i64 0)).setCell ⟨w.heap.size + 1, 1, none⟩ (.slice none 0 0)).setCell ⟨w.heap.size + 1, 2, none⟩ (.slice none 0 0)).cell? ⟨w.heap.size + 1, 0, none⟩ = some (.int .i64 0) := by go_simp
            have n_f_b20 : (((wr.setCell ⟨w.heap.size + 1, 0, none⟩ (.int .i64 0)).setCell ⟨w.heap.size + 1, 1, none⟩ (.slice none 0 0)).setCell ⟨w.heap.size + 1, 2, none⟩ (.slice none 0 0)).frozen? ⟨w.heap.size + 1, 0, none⟩ = false := by go_simp
            have n_b21 : (((wr.setCell ⟨w.heap.size + 1, 0, none⟩ (.int .i64 0)).setCell ⟨w.heap.size + 1, 1, none⟩ (.slice none 0 0)).setCell ⟨w.heap.size + 1, 2, none⟩ (.slice none 0 0)).cell? ⟨w.heap.size + 1, 1, none⟩ = some (.slice none 0 0) := by go_simp
            have n_f_b21 : (((wr.setCell ⟨w.heap.size + 1, 0, none⟩ (.int .i64 0)).setCell ⟨w.heap.size + 1, 1, none⟩ (.slice none 0 0)).setCell ⟨w.heap.size + 1, 2, none⟩ (.slice none 0 0)).frozen? ⟨w.heap.size + 1, 1, none⟩ = false := by go_simp
            have n_b22 : (((wr.setCell ⟨w.heap.size + 1, 0, none⟩ (.int .i64 0)).setCell ⟨w.heap.size + 1, 1, none⟩ (.slice none 0 0)).setCell ⟨w.heap.size + 1, 2, none⟩ (.slice none 0 0)).cell? ⟨w.heap.size + 1, 2, none⟩ = some (.slice none 0 0) := by go_simp
            have n_f_b22 : (((wr.setCell ⟨w.heap.size + 1, 0, none⟩ (.int .i64 0)).setCell ⟨w.heap.size + 1, 1, none⟩ (.slice none 0 0)).setCell ⟨w.heap.size + 1, 2, none⟩ (.slice none 0 0)).frozen? ⟨w.heap.size + 1, 2, none⟩ = false := by go_simp
            replace b20 := n_b20
            clear n_b20
            replace f_b20 := n_f_b20
            clear n_f_b20
            replace b21 := n_b21
            clear n_b21
            replace f_b21 := n_f_b21
            clear n_f_b21
            replace b22 := n_b22
            clear n_b22
            replace f_b22 := n_f_b22
            clear n_f_b22
            replace b50 := Kw3.cell (by omega) b50
            replace f_b50 := Kw3.frzO (by omega) z_b5 f_b50
            replace b51 := Kw3.cell (by omega) b51
            replace f_b51 := Kw3.frzO (by omega) z_b5 f_b51
            replace b52 := Kw3.cell (by omega) b52
            replace f_b52 := Kw3.frzO (by omega) z_b5 f_b52
            replace e80 := Kw3.cell (by omega) e80
            replace T := T.chg Kw3 (by omega)
            clear Kw3
            have z_b1 : w.heap.size < (((wr.setCell ⟨w.heap.size + 1, 0, none⟩ (.int .i64 0)).setCell ⟨w.heap.size + 1, 1, none⟩ (.slice none 0 0)).setCell ⟨w.heap.size + 1, 2, none⟩ (.slice none 0 0)).heap.size := World.block_lt_of_cell? _ _ b10
            have z_b2 : w.heap.size + 1 < (((wr.setCell ⟨w.heap.size + 1, 0, none⟩ (.int .i64 0)).setCell ⟨w.heap.size + 1, 1, none⟩ (.slice none 0 0)).setCell ⟨w.heap.size + 1, 2, none⟩ (.slice none 0 0)).heap.size := World.block_lt_of_cell? _ _ b20
            have z_b5 : w1.heap.size < (((wr.setCell ⟨w.heap.size + 1, 0, none⟩ (.int .i64 0)).setCell ⟨w.heap.size + 1, 1, none⟩ (.slice none 0 0)).setCell ⟨w.heap.size + 1, 2, none⟩ (.slice none 0 0)).heap.size := World.block_lt_of_cell? _ _ b50
            have z_e8 : bl6 < (((wr.setCell ⟨w.heap.size + 1, 0, none⟩ (.int .i64 0)).setCell ⟨w.heap.size + 1, 1, none⟩ (.slice none 0 0)).setCell ⟨w.heap.size + 1, 2, none⟩ (.slice none 0 0)).heap.size := World.block_lt_of_cell? _ _ e80
            have s_w3 : w.heap.size ≤ (((wr.setCell ⟨w.heap.size + 1, 0, none⟩ (.int .i64 0)).setCell ⟨w.heap.size + 1, 1, none⟩ (.slice none 0 0)).setCell ⟨w.heap.size + 1, 2, none⟩ (.slice none 0 0)).heap.size := Xw3.size
            generalize (((wr.setCell ⟨w.heap.size + 1, 0, none⟩ (.int .i64 0)).setCell ⟨w.heap.size + 1, 1, none⟩ (.slice none 0 0)).setCell ⟨w.heap.size + 1, 2, none⟩ (.slice none 0 0)) = w3 at *
            refine bodyPost_ret (v := .tuple #[.agg #[.int .i64 0, .slice none 0 0, .slice none 0 0], .bool false]) (by simp only [results, Try.results51]; go_simp) rfl ?_
            rw [show permV b1 s1 t1 ord = noV by unfold permV; rw [hB3.out, ord_no hlt hv9.out (by have := hc4.out; omega), Bool.and_false] <;> rfl]
            exact PViewB.no (Xw3.trans (by repeat (first | (with_reducible assumption) | (with_reducible refine Ext.setCell ?_ (by first | (simp; done) | (simp; omega) | omega) _) | (with_reducible apply Ext.alloc) | (with_reducible apply Ext.drew) | (with_reducible apply Ext.drewN) | (with_reducible exact Ext.refl _))))
          · by_cases hc11 : (ord.length : Int) ≤ (v9 : Int)
            · go_wp2_with fail
              have Kw3 : Chg (w.heap.size + 1) (w.heap.size + 1 + 1) wr (((wr.setCell ⟨w.heap.size + 1, 0, none⟩ (.int .i64 0)).setCell ⟨w.heap.size + 1, 1, none⟩ (.slice none 0 0)).setCell ⟨w.heap.size + 1, 2, none⟩ (.slice none 0 0)) := (Chg.setCell (p := ⟨w.heap.size + 1, 2, none⟩) (Chg.setCell (p := ⟨w.heap.size + 1, 1, none⟩) (Chg.setCell (p := ⟨w.heap.size + 1, 0, none⟩) (Chg.refl (w.heap.size + 1) (w.heap.size + 1 + 1) _) (Nat.le_refl _) (Nat.lt_succ_self _) (.int .i64 0)) (Nat.le_refl _) (Nat.lt_succ_self _) (.slice none 0 0)) (Nat.le_refl _) (Nat.lt_succ_self _) (.slice none 0 0))
              have Xw3 : Ext w (((wr.setCell ⟨w.heap.size + 1, 0, none⟩ (.int .i64 0)).setCell ⟨w.heap.size + 1, 1, none⟩ (.slice none 0 0)).setCell ⟨w.heap.size + 1, 2, none⟩ (.slice none 0 0)) := (Ext.setCell (p := ⟨w.heap.size + 1, 2, none⟩) (Ext.setCell (p := ⟨w.heap.size + 1, 1, none⟩) (Ext.setCell (p := ⟨w.heap.size + 1, 0, none⟩) Xr (by first | (simp; done) | (simp; omega) | omega) (.int .i64 0)) (by first | (simp; done) | (simp; omega) | omega) (.slice none 0 0)) (by first | (simp; done) | (simp; omega) | omega) (.slice none 0 0))
              replace b10 := Kw3.cell (by omega) b10
              replace b11 := Kw3.cell (by omega) b11
              replace b12 := Kw3.cell (by omega) b12
              have n_b20 : (((wr.setCell ⟨w.heap.size + 1, 0, none⟩ (.int .i64 0)).setCell ⟨w.heap.size + 1, 1, none⟩ (.slice none 0 0)).setCell ⟨w.heap.size + 1, 2, none⟩ (.slice none 0 0)).cell? ⟨w.heap.size + 1, 0, none⟩ = some (.int .i64 0) := by go_simp
              have n_f_b20 : (((wr.setCell ⟨w.heap.size + 1, 0, none⟩ (.int .i64 0)).setCell ⟨w.heap.size + 1, 1, none⟩ (.slice none 0 0)).setCell ⟨w.heap.size + 1, 2, none⟩ (.slice none 0 0)).frozen? ⟨w.heap.size + 1, 0, none⟩ = false := by go_simp
              have n_b21 : (((wr.setCell ⟨w.heap.size + 1, 0, none⟩ (.int .i64 0)).setCell ⟨w.heap.size + 1, 1, none⟩ (.slice none 0 0)).setCell ⟨w.heap.size + 1, 2, none⟩ (.slice none 0 0)).cell? ⟨w.heap.size + 1, 1, none⟩ = some (.slice none 0 0) := by go_simp
              have n_f_b21 : (((wr.setCell ⟨w.heap.size + 1, 0, none⟩ (.int .i64 0)).setCell ⟨w.heap.size + 1, 1, none⟩ (.slice none 0 0)).setCell ⟨w.heap.size + 1, 2, none⟩ (.slice none 0 0)).frozen? ⟨w.heap.size + 1, 1, none⟩ = false := by go_simp
              have n_b22 : (((wr.setCell ⟨w.heap.size + 1, 0, none⟩ (.int .i64 0)).setCell ⟨w.heap.size + 1, 1, none⟩ (.slice none 0 0)).setCell ⟨w.heap.size + 1, 2, none⟩ (.slice none 0 0)).cell? ⟨w.heap.size + 1, 2, none⟩ = some (.slice none 0 0) := by go_simp
              have n_f_b22 : (((wr.setCell ⟨w.heap.size + 1, 0, none⟩ (.int .i64 0)).setCell ⟨w.heap.size + 1, 1, none⟩ (.slice none 0 0)).setCell ⟨w.heap.size + 1, 2, none⟩ (.slice none 0 0)).frozen? ⟨w.heap.size + 1, 2, none⟩ = false := by go_simp
              replace b20 := n_b20
              clear n_b20
              replace f_b20 := n_f_b20
              clear n_f_b20
              replace b21 := n_b21
              clear n_b21
              replace f_b21 := n_f_b21
              clear n_f_b21
              replace b22 := n_b22
              clear n_b22
              replace f_b22 := n_f_b22
              clear n_f_b22
              replace b50 := Kw3.cell (by omega) b50
              replace f_b50 := Kw3.frzO (by omega) z_b5 f_b50
              replace b51 := Kw3.cell (by omega) b51
              replace f_b51 := Kw3.frzO (by omega) z_b5 f_b51
              replace b52 := Kw3.cell (by omega) b52
              replace f_b52 := Kw3.frzO (by omega) z_b5 f_b52
              replace e80 := Kw3.cell (by omega) e80
              replace T := T.chg Kw3 (by omega)
              clear Kw3
              have z_b1 : w.heap.size < (((wr.setCell ⟨w.heap.size + 1, 0, none⟩ (.int .i64 0)).setCell ⟨w.heap.size + 1, 1, none⟩ (.slice none 0 0)).setCell ⟨w.heap.size + 1, 2, none⟩ (.slice none 0 0)).heap.size := World.block_lt_of_cell? _ _ b10
              have z_b2 : w.heap.size + 1 < (((wr.setCell ⟨w.heap.size + 1, 0, none⟩ (.int .i64 0)).setCell ⟨w.heap.size + 1, 1, none⟩ (.slice none 0 0)).setCell ⟨w.heap.size + 1, 2, none⟩ (.slice none 0 0)).heap.size := World.block_lt_of_cell? _ _ b20
              have z_b5 : w1.heap.size < (((wr.setCell ⟨w.heap.size + 1, 0, none⟩ (.int .i64 0)).setCell ⟨w.heap.size + 1, 1, none⟩ (.slice none 0 0)).setCell ⟨w.heap.size + 1, 2, none⟩ (.slice none 0 0)).heap.size := World.block_lt_of_cell? _ _ b50
              have z_e8 : bl6 < (((wr.setCell ⟨w.heap.size + 1, 0, none⟩ (.int .i64 0)).setCell ⟨w.heap.size + 1, 1, none⟩ (.slice none 0 0)).setCell ⟨w.heap.size + 1, 2, none⟩ (.slice none 0 0)).heap.size := World.block_lt_of_cell? _ _ e80
              have s_w3 : w.heap.size ≤ (((wr.setCell ⟨w.heap.size + 1, 0, none⟩ (.int .i64 0)).setCell ⟨w.heap.size + 1, 1, none⟩ (.slice none 0 0)).setCell ⟨w.heap.size + 1, 2, none⟩ (.slice none 0 0)).heap.size := Xw3.size
              generalize (((wr.setCell ⟨w.heap.size + 1, 0, none⟩ (.int .i64 0)).setCell ⟨w.heap.size + 1, 1, none⟩ (.slice none 0 0)).setCell ⟨w.heap.size + 1, 2, none⟩ (.slice none 0 0)) = w3 at *
              refine bodyPost_ret (v := .tuple #[.agg #[.int .i64 0, .slice none 0 0, .slice none 0 0], .bool false]) (by simp only [results, Try.results51]; go_simp) rfl ?_
              rw [show permV b1 s1 t1 ord = noV by unfold permV; rw [hB3.out, ord_no hlt hv9.out (by have := hc4.out; omega), Bool.and_false] <;> rfl]
              exact PViewB.no (Xw3.trans (by repeat (first | (with_reducible assumption) | (with_reducible refine Ext.setCell ?_ (by first | (simp; done) | (simp; omega) | omega) _) | (with_reducible apply Ext.alloc) | (with_reducible apply Ext.drew) | (with_reducible apply Ext.drewN) | (with_reducible exact Ext.refl _))))
            · have hsl12 : (k : Int) ≤ c2 := by have := ((h3.ext Xr)).capLe; omega
              go_wp2_with fail
              refine (contains_c (ord.take k) (.slice (some ⟨bl6, ol7, none⟩) k c2) v9 _ _ ((h3.take k (by omega)).ext (Xr.trans (by repeat (first | (with_reducible assumption) | (with_reducible refine Ext.setCell ?_ (by first | (simp; done) | (simp; omega) | omega) _) | (with_reducible apply Ext.alloc) | (with_reducible apply Ext.drew) | (with_reducible apply Ext.drewN) | (with_reducible exact Ext.refl _)))))).mono ?_
              rintro e w' ⟨rfl, rfl⟩
              cases hB13 : hasB (ord.take k) v9
              · replace hB13 := Lib.hid hB13
                obtain ⟨mv9, rfl⟩ : ∃ m : Nat, v9 = m := ⟨v9.toNat, by omega⟩
                rw [hv9.out, Int.toNat_natCast] at hs1 hs2
                go_wp2_with fail
                skip
                have hN_e16 : mv9 < s1.length := (by have := hos.out; omega)
                have hI_e16 : (mv9 : Int) < (s1.length : Int) := by omega
                obtain ⟨bl14, ol15, rfl, e160⟩ := h1.at mv9 (by have := hos.out; omega)
                have y_e16 : bl14 < w.heap.size := World.block_lt_of_cell? _ _ e160
                replace e160 := Xr.cell e160
                obtain ⟨v17, hv17⟩ : ∃ v, s1.getD mv9 0 = v := ⟨_, rfl⟩
                rw [hv17] at e160
                replace hv17 := Lib.hid hv17
                have z_e16 : bl14 < wr.heap.size := World.block_lt_of_cell? _ _ e160
                rw [hv17.out] at hs1
                replace hs1 := Lib.hid hs1
                refine wp_region_tail (S := fun w' => w'.cell? ⟨w.heap.size, 0, none⟩ = some (.int .i64 b1) ∧ w'.cell? ⟨w.heap.size, 1, none⟩ = some (.slice (some ⟨bl14, ol15, none⟩) s1.length c0) ∧ w'.cell? ⟨w.heap.size, 2, none⟩ = some (.slice p1 t1.length c1) ∧ w'.cell? ⟨w.heap.size + 1, 0, none⟩ = some (.int .i64 0) ∧ w'.cell? ⟨w.heap.size + 1, 1, none⟩ = some (.slice none 0 0) ∧ w'.cell? ⟨w.heap.size + 1, 2, none⟩ = some (.slice none 0 0) ∧ w'.cell? ⟨w1.heap.size, 0, none⟩ = some (.int .i64 b1) ∧ w'.cell? ⟨w1.heap.size, 1, none⟩ = some (pr1) ∧ w'.cell? ⟨w1.heap.size, 2, none⟩ = some (pr2) ∧ w'.cell? ⟨bl6, ol7 + k, none⟩ = some (.int .i64 (mv9 : Int)) ∧ w'.cell? ⟨bl14, ol15 + mv9, none⟩ = some (.int .i64 v17)) (fun i => decide (10 ≤ i)) (by kernel_rfl) ⟨b10, b11, b12, b20, b21, b22, b50, b51, b52, e80, e160⟩ (fun hHeld => ?_)
                refine wpTail_take (i := 0) (v := ?_) rfl (by kernel_rfl) (by kernel_rfl) (by kernel_rfl) rfl (by kernel_rfl) (fun _ _ _ h => h) (Or.inl ⟨by rfl, ?_⟩) (by assumption) ?_
                rotate_left
                · (intro w hSw; (try dsimp only at hSw); go_simp; try with_reducible rfl)
                try simp only [Act.put, List.setIfInBounds_toArray, List.set_cons_zero, List.set_cons_succ, List.getElem_toArray, List.getElem_cons_succ, List.getElem_cons_zero]
                refine wpTail_take (i := 1) (v := ?_) rfl (by kernel_rfl) (by kernel_rfl) (by kernel_rfl) rfl (by kernel_rfl) (fun _ _ _ h => h) (Or.inl ⟨by rfl, ?_⟩) (by assumption) ?_
                rotate_left
                · (intro w hSw; (try dsimp only at hSw); go_simp; try with_reducible rfl)
                try simp only [Act.put, List.setIfInBounds_toArray, List.set_cons_zero, List.set_cons_succ, List.getElem_toArray, List.getElem_cons_succ, List.getElem_cons_zero]
                refine wpTail_take (i := 2) (v := ?_) rfl (by kernel_rfl) (by kernel_rfl) (by kernel_rfl) rfl (by kernel_rfl) (fun _ _ _ h => h) (Or.inl ⟨by rfl, ?_⟩) (by assumption) ?_
                rotate_left
                · (intro w hSw; (try dsimp only at hSw); go_simp; try with_reducible rfl)
                try simp only [Act.put, List.setIfInBounds_toArray, List.set_cons_zero, List.set_cons_succ, List.getElem_toArray, List.getElem_cons_succ, List.getElem_cons_zero]
                refine wpTail_take (i := 3) (v := ?_) rfl (by kernel_rfl) (by kernel_rfl) (by kernel_rfl) rfl (by kernel_rfl) (fun _ _ _ h => h) (Or.inl ⟨by rfl, ?_⟩) (by assumption) ?_
                rotate_left
                · (intro w hSw; (try dsimp only at hSw); go_simp; try with_reducible rfl)
                try simp only [Act.put, List.setIfInBounds_toArray, List.set_cons_zero, List.set_cons_succ, List.getElem_toArray, List.getElem_cons_succ, List.getElem_cons_zero]
                refine wpTail_take (i := 4) (v := ?_) rfl (by kernel_rfl) (by kernel_rfl) (by kernel_rfl) rfl (by kernel_rfl) (fun _ _ _ h => h) (Or.inl ⟨by rfl, ?_⟩) (by assumption) ?_
                rotate_left
                · (intro w hSw; (try dsimp only at hSw); go_simp; try with_reducible rfl)
                try simp only [Act.put, List.setIfInBounds_toArray, List.set_cons_zero, List.set_cons_succ, List.getElem_toArray, List.getElem_cons_succ, List.getElem_cons_zero]
                refine wpTail_take (i := 5) (v := ?_) rfl (by kernel_rfl) (by kernel_rfl) (by kernel_rfl) rfl (by kernel_rfl) (fun _ _ _ h => h) (Or.inl ⟨by rfl, ?_⟩) (by assumption) ?_
                rotate_left
                · (intro w hSw; (try dsimp only at hSw); go_simp; try with_reducible rfl)
                try simp only [Act.put, List.setIfInBounds_toArray, List.set_cons_zero, List.set_cons_succ, List.getElem_toArray, List.getElem_cons_succ, List.getElem_cons_zero]
                refine wpTail_take (i := 6) (v := ?_) rfl (by kernel_rfl) (by kernel_rfl) (by kernel_rfl) rfl (by kernel_rfl) (fun _ _ _ h => h) (Or.inl ⟨by rfl, ?_⟩) (by assumption) ?_
                rotate_left
                · (intro w hSw; (try dsimp only at hSw); go_simp; try with_reducible rfl)
                try simp only [Act.put, List.setIfInBounds_toArray, List.set_cons_zero, List.set_cons_succ, List.getElem_toArray, List.getElem_cons_succ, List.getElem_cons_zero]
                refine wpTail_one (i := 7) (by kernel_rfl) rfl rfl (fun K hK => ?_)
                try simp only [Act.put, List.setIfInBounds_toArray, List.set_cons_zero, List.set_cons_succ, List.getElem_toArray, List.getElem_cons_succ, List.getElem_cons_zero]
                go_simp
                refine hK.out _ _ ⟨Ext.cell (w := wr) (by repeat (first | (with_reducible assumption) | (with_reducible refine Ext.setCell ?_ (by first | (simp; done) | (simp; omega) | omega) _) | (with_reducible apply Ext.alloc) | (with_reducible apply Ext.drew) | (with_reducible apply Ext.drewN) | (with_reducible exact Ext.refl _))) b10, Ext.cell (w := wr) (by repeat (first | (with_reducible assumption) | (with_reducible refine Ext.setCell ?_ (by first | (simp; done) | (simp; omega) | omega) _) | (with_reducible apply Ext.alloc) | (with_reducible apply Ext.drew) | (with_reducible apply Ext.drewN) | (with_reducible exact Ext.refl _))) b11, Ext.cell (w := wr) (by repeat (first | (with_reducible assumption) | (with_reducible refine Ext.setCell ?_ (by first | (simp; done) | (simp; omega) | omega) _) | (with_reducible apply Ext.alloc) | (with_reducible apply Ext.drew) | (with_reducible apply Ext.drewN) | (with_reducible exact Ext.refl _))) b12, Ext.cell (w := wr) (by repeat (first | (with_reducible assumption) | (with_reducible refine Ext.setCell ?_ (by first | (simp; done) | (simp; omega) | omega) _) | (with_reducible apply Ext.alloc) | (with_reducible apply Ext.drew) | (with_reducible apply Ext.drewN) | (with_reducible exact Ext.refl _))) b20, Ext.cell (w := wr) (by repeat (first | (with_reducible assumption) | (with_reducible refine Ext.setCell ?_ (by first | (simp; done) | (simp; omega) | omega) _) | (with_reducible apply Ext.alloc) | (with_reducible apply Ext.drew) | (with_reducible apply Ext.drewN) | (with_reducible exact Ext.refl _))) b21, Ext.cell (w := wr) (by repeat (first | (with_reducible assumption) | (with_reducible refine Ext.setCell ?_ (by first | (simp; done) | (simp; omega) | omega) _) | (with_reducible apply Ext.alloc) | (with_reducible apply Ext.drew) | (with_reducible apply Ext.drewN) | (with_reducible exact Ext.refl _))) b22, Ext.cell (w := wr) (by repeat (first | (with_reducible assumption) | (with_reducible refine Ext.setCell ?_ (by first | (simp; done) | (simp; omega) | omega) _) | (with_reducible apply Ext.alloc) | (with_reducible apply Ext.drew) | (with_reducible apply Ext.drewN) | (with_reducible exact Ext.refl _))) b50, Ext.cell (w := wr) (by repeat (first | (with_reducible assumption) | (with_reducible refine Ext.setCell ?_ (by first | (simp; done) | (simp; omega) | omega) _) | (with_reducible apply Ext.alloc) | (with_reducible apply Ext.drew) | (with_reducible apply Ext.drewN) | (with_reducible exact Ext.refl _))) b51, Ext.cell (w := wr) (by repeat (first | (with_reducible assumption) | (with_reducible refine Ext.setCell ?_ (by first | (simp; done) | (simp; omega) | omega) _) | (with_reducible apply Ext.alloc) | (with_reducible apply Ext.drew) | (with_reducible apply Ext.drewN) | (with_reducible exact Ext.refl _))) b52, Ext.cell (w := wr) (by repeat (first | (with_reducible assumption) | (with_reducible refine Ext.setCell ?_ (by first | (simp; done) | (simp; omega) | omega) _) | (with_reducible apply Ext.alloc) | (with_reducible apply Ext.drew) | (with_reducible apply Ext.drewN) | (with_reducible exact Ext.refl _))) e80, Ext.cell (w := wr) (by repeat (first | (with_reducible assumption) | (with_reducible refine Ext.setCell ?_ (by first | (simp; done) | (simp; omega) | omega) _) | (with_reducible apply Ext.alloc) | (with_reducible apply Ext.drew) | (with_reducible apply Ext.drewN) | (with_reducible exact Ext.refl _))) e160⟩ (fun hHeld => ?_)
                clear hK K
                try simp only [Act.put, List.setIfInBounds_toArray, List.set_cons_zero, List.set_cons_succ, List.getElem_toArray, List.getElem_cons_succ, List.getElem_cons_zero]
                refine wpTail_one (i := 8) (by kernel_rfl) rfl rfl (fun K hK => ?_)
                have Ew3 : Ext wr ((wr.drew).alloc (.cells #[.int .i64 (v17)] 3)) := (by repeat (first | (with_reducible assumption) | (with_reducible refine Ext.setCell ?_ (by first | (simp; done) | (simp; omega) | omega) _) | (with_reducible apply Ext.alloc) | (with_reducible apply Ext.drew) | (with_reducible apply Ext.drewN) | (with_reducible exact Ext.refl _)))
                have Sw3 : Ints ((wr.drew).alloc (.cells #[.int .i64 (v17)] 3)) 0 (.slice (some ⟨wr.heap.size, 0, none⟩) 1 1) [v17] := by simpa using Ints.one wr.drew 0 (v17) (Nat.zero_le _)
                refine step_app rfl (.tmp 48) (.tmp 54) rfl rfl rfl (by exact T.o1.ext Ew3) (by exact Sw3) (by have := tl1.out; simp only [List.length_cons, List.length_nil]; omega) (by simp <;> omega) ?_
                intro vw3 w3 ho hgr hbl hvb
                obtain ⟨pa_w3, pn_w3, pc_w3, rfl⟩ := ho.any
                have Xw3 : Ext w w3 := Ext.below (Xr.trans Ew3) hbl (by omega)
                replace b10 := below_cell hbl (by omega) (Ew3.cell b10)
                replace b11 := below_cell hbl (by omega) (Ew3.cell b11)
                replace b12 := below_cell hbl (by omega) (Ew3.cell b12)
                replace b20 := below_cell hbl (by omega) (Ew3.cell b20)
                replace f_b20 := below_frz hbl (by omega) (Ew3.frz z_b2 f_b20)
                replace b21 := below_cell hbl (by omega) (Ew3.cell b21)
                replace f_b21 := below_frz hbl (by omega) (Ew3.frz z_b2 f_b21)
                replace b22 := below_cell hbl (by omega) (Ew3.cell b22)
                replace f_b22 := below_frz hbl (by omega) (Ew3.frz z_b2 f_b22)
                replace b50 := below_cell hbl (by omega) (Ew3.cell b50)
                replace f_b50 := below_frz hbl (by omega) (Ew3.frz z_b5 f_b50)
                replace b51 := below_cell hbl (by omega) (Ew3.cell b51)
                replace f_b51 := below_frz hbl (by omega) (Ew3.frz z_b5 f_b51)
                replace b52 := below_cell hbl (by omega) (Ew3.cell b52)
                replace f_b52 := below_frz hbl (by omega) (Ew3.frz z_b5 f_b52)
                replace e80 := below_cell hbl (by omega) (Ew3.cell e80)
                replace e160 := below_cell hbl (by omega) (Ew3.cell e160)
                have z_b1 : w.heap.size < w3.heap.size := World.block_lt_of_cell? _ _ b10
                have z_b2 : w.heap.size + 1 < w3.heap.size := World.block_lt_of_cell? _ _ b20
                have z_b5 : w1.heap.size < w3.heap.size := World.block_lt_of_cell? _ _ b50
                have z_e8 : bl6 < w3.heap.size := World.block_lt_of_cell? _ _ e80
                have z_e16 : bl14 < w3.heap.size := World.block_lt_of_cell? _ _ e160
                replace T := (T.ext Ew3).app1 ho hgr hvb
                have s_w3 : w.heap.size ≤ w3.heap.size := Xw3.size
                clear ho hgr hbl hvb Ew3 Sw3
                refine hK.out _ _ ⟨b10, b11, b12, b20, b21, b22, b50, b51, b52, e80, e160⟩ (fun hHeld => ?_)
                clear hK K
                try simp only [Act.put, List.setIfInBounds_toArray, List.set_cons_zero, List.set_cons_succ, List.getElem_toArray, List.getElem_cons_succ, List.getElem_cons_zero]
                refine wpTail_take (i := 9) (v := ?_) rfl (by kernel_rfl) (by kernel_rfl) (by kernel_rfl) rfl (by kernel_rfl) (fun _ _ _ h => h) (Or.inl ⟨by rfl, ?_⟩) (by assumption) ?_
                rotate_left
                · (intro w hSw; (try dsimp only at hSw); go_simp; try with_reducible rfl)
                try simp only [Act.put, List.setIfInBounds_toArray, List.set_cons_zero, List.set_cons_succ, List.getElem_toArray, List.getElem_cons_succ, List.getElem_cons_zero]
                refine wpTail_last (i := 10) (by kernel_rfl) rfl rfl (fun K hK => ?_)
                try simp only [Act.put, List.setIfInBounds_toArray, List.set_cons_zero, List.set_cons_succ, List.getElem_toArray, List.getElem_cons_succ, List.getElem_cons_zero]
                go_simp
                refine hK.out _ _ ?_
                clear hK K
                try simp only [Act.put, List.setIfInBounds_toArray, List.set_cons_zero, List.set_cons_succ, List.getElem_toArray, List.getElem_cons_succ, List.getElem_cons_zero]
                refine wpTail_done (by kernel_rfl) ?_ _
                clear hHeld
                have Kw4 : Chg (w1.heap.size) (w1.heap.size + 1) w3 (w3.setCell ⟨w1.heap.size, 1, none⟩ (.slice pa_w3 pn_w3 pc_w3)) := (Chg.setCell (p := ⟨w1.heap.size, 1, none⟩) (Chg.refl (w1.heap.size) (w1.heap.size + 1) _) (Nat.le_refl _) (Nat.lt_succ_self _) (.slice pa_w3 pn_w3 pc_w3))
                have Xw4 : Ext w (w3.setCell ⟨w1.heap.size, 1, none⟩ (.slice pa_w3 pn_w3 pc_w3)) := (Ext.setCell (p := ⟨w1.heap.size, 1, none⟩) Xw3 (by first | (simp; done) | (simp; omega) | omega) (.slice pa_w3 pn_w3 pc_w3))
                replace b10 := Kw4.cell (by omega) b10
                replace b11 := Kw4.cell (by omega) b11
                replace b12 := Kw4.cell (by omega) b12
                replace b20 := Kw4.cell (by omega) b20
                replace f_b20 := Kw4.frzO (by omega) z_b2 f_b20
                replace b21 := Kw4.cell (by omega) b21
                replace f_b21 := Kw4.frzO (by omega) z_b2 f_b21
                replace b22 := Kw4.cell (by omega) b22
                replace f_b22 := Kw4.frzO (by omega) z_b2 f_b22
                have n_b50 : (w3.setCell ⟨w1.heap.size, 1, none⟩ (.slice pa_w3 pn_w3 pc_w3)).cell? ⟨w1.heap.size, 0, none⟩ = some (.int .i64 b1) := by go_simp
                have n_f_b50 : (w3.setCell ⟨w1.heap.size, 1, none⟩ (.slice pa_w3 pn_w3 pc_w3)).frozen? ⟨w1.heap.size, 0, none⟩ = false := by go_simp
                have n_b51 : (w3.setCell ⟨w1.heap.size, 1, none⟩ (.slice pa_w3 pn_w3 pc_w3)).cell? ⟨w1.heap.size, 1, none⟩ = some (.slice pa_w3 pn_w3 pc_w3) := by go_simp
                have n_f_b51 : (w3.setCell ⟨w1.heap.size, 1, none⟩ (.slice pa_w3 pn_w3 pc_w3)).frozen? ⟨w1.heap.size, 1, none⟩ = false := by go_simp
                have n_b52 : (w3.setCell ⟨w1.heap.size, 1, none⟩ (.slice pa_w3 pn_w3 pc_w3)).cell? ⟨w1.heap.size, 2, none⟩ = some (pr2) := by go_simp
                have n_f_b52 : (w3.setCell ⟨w1.heap.size, 1, none⟩ (.slice pa_w3 pn_w3 pc_w3)).frozen? ⟨w1.heap.size, 2, none⟩ = false := by go_simp
                replace b50 := n_b50
                clear n_b50
                replace f_b50 := n_f_b50
                clear n_f_b50
                replace b51 := n_b51
                clear n_b51
                replace f_b51 := n_f_b51
                clear n_f_b51
                replace b52 := n_b52
                clear n_b52
                replace f_b52 := n_f_b52
                clear n_f_b52
                replace e80 := Kw4.cell (by omega) e80
                replace e160 := Kw4.cell (by omega) e160
                replace T := T.chg Kw4 (by omega)
                clear Kw4
                have z_b1 : w.heap.size < (w3.setCell ⟨w1.heap.size, 1, none⟩ (.slice pa_w3 pn_w3 pc_w3)).heap.size := World.block_lt_of_cell? _ _ b10
                have z_b2 : w.heap.size + 1 < (w3.setCell ⟨w1.heap.size, 1, none⟩ (.slice pa_w3 pn_w3 pc_w3)).heap.size := World.block_lt_of_cell? _ _ b20
                have z_b5 : w1.heap.size < (w3.setCell ⟨w1.heap.size, 1, none⟩ (.slice pa_w3 pn_w3 pc_w3)).heap.size := World.block_lt_of_cell? _ _ b50
                have z_e8 : bl6 < (w3.setCell ⟨w1.heap.size, 1, none⟩ (.slice pa_w3 pn_w3 pc_w3)).heap.size := World.block_lt_of_cell? _ _ e80
                have z_e16 : bl14 < (w3.setCell ⟨w1.heap.size, 1, none⟩ (.slice pa_w3 pn_w3 pc_w3)).heap.size := World.block_lt_of_cell? _ _ e160
                have s_w4 : w.heap.size ≤ (w3.setCell ⟨w1.heap.size, 1, none⟩ (.slice pa_w3 pn_w3 pc_w3)).heap.size := Xw4.size
                generalize (w3.setCell ⟨w1.heap.size, 1, none⟩ (.slice pa_w3 pn_w3 pc_w3)) = w4 at *
                have hTs := T.size
                go_wp2_with fail
                skip
                have hN_e23 : mv9 < t1.length := (by have := hos.out; omega)
                have hI_e23 : (mv9 : Int) < (t1.length : Int) := by omega
                obtain ⟨bl21, ol22, rfl, e230⟩ := k1.at mv9 (by have := hos.out; omega)
                have y_e23 : bl21 < w.heap.size := World.block_lt_of_cell? _ _ e230
                replace e230 := Xw4.cell e230
                obtain ⟨v24, hv24⟩ : ∃ v, t1.getD mv9 0 = v := ⟨_, rfl⟩
                rw [hv24] at e230
                replace hv24 := Lib.hid hv24
                have z_e23 : bl21 < w4.heap.size := World.block_lt_of_cell? _ _ e230
                rw [hv24.out] at hs2
                replace hs2 := Lib.hid hs2
                refine wp_region_tail (S := fun w' => w'.cell? ⟨w.heap.size, 0, none⟩ = some (.int .i64 b1) ∧ w'.cell? ⟨w.heap.size, 1, none⟩ = some (.slice (some ⟨bl14, ol15, none⟩) s1.length c0) ∧ w'.cell? ⟨w.heap.size, 2, none⟩ = some (.slice (some ⟨bl21, ol22, none⟩) t1.length c1) ∧ w'.cell? ⟨w.heap.size + 1, 0, none⟩ = some (.int .i64 0) ∧ w'.cell? ⟨w.heap.size + 1, 1, none⟩ = some (.slice none 0 0) ∧ w'.cell? ⟨w.heap.size + 1, 2, none⟩ = some (.slice none 0 0) ∧ w'.cell? ⟨w1.heap.size, 0, none⟩ = some (.int .i64 b1) ∧ w'.cell? ⟨w1.heap.size, 1, none⟩ = some (.slice pa_w3 pn_w3 pc_w3) ∧ w'.cell? ⟨w1.heap.size, 2, none⟩ = some (pr2) ∧ w'.cell? ⟨bl6, ol7 + k, none⟩ = some (.int .i64 (mv9 : Int)) ∧ w'.cell? ⟨bl14, ol15 + mv9, none⟩ = some (.int .i64 v17) ∧ w'.cell? ⟨bl21, ol22 + mv9, none⟩ = some (.int .i64 v24)) (fun i => decide (10 ≤ i)) (by kernel_rfl) ⟨b10, b11, b12, b20, b21, b22, b50, b51, b52, e80, e160, e230⟩ (fun hHeld => ?_)
                refine wpTail_take (i := 0) (v := ?_) rfl (by kernel_rfl) (by kernel_rfl) (by kernel_rfl) rfl (by kernel_rfl) (fun _ _ _ h => h) (Or.inl ⟨by rfl, ?_⟩) (by assumption) ?_
                rotate_left
                · (intro w hSw; (try dsimp only at hSw); go_simp; try with_reducible rfl)
                try simp only [Act.put, List.setIfInBounds_toArray, List.set_cons_zero, List.set_cons_succ, List.getElem_toArray, List.getElem_cons_succ, List.getElem_cons_zero]
                refine wpTail_take (i := 1) (v := ?_) rfl (by kernel_rfl) (by kernel_rfl) (by kernel_rfl) rfl (by kernel_rfl) (fun _ _ _ h => h) (Or.inl ⟨by rfl, ?_⟩) (by assumption) ?_
                rotate_left
                · (intro w hSw; (try dsimp only at hSw); go_simp; try with_reducible rfl)
                try simp only [Act.put, List.setIfInBounds_toArray, List.set_cons_zero, List.set_cons_succ, List.getElem_toArray, List.getElem_cons_succ, List.getElem_cons_zero]
                refine wpTail_take (i := 2) (v := ?_) rfl (by kernel_rfl) (by kernel_rfl) (by kernel_rfl) rfl (by kernel_rfl) (fun _ _ _ h => h) (Or.inl ⟨by rfl, ?_⟩) (by assumption) ?_
                rotate_left
                · (intro w hSw; (try dsimp only at hSw); go_simp; try with_reducible rfl)
                try simp only [Act.put, List.setIfInBounds_toArray, List.set_cons_zero, List.set_cons_succ, List.getElem_toArray, List.getElem_cons_succ, List.getElem_cons_zero]
                refine wpTail_take (i := 3) (v := ?_) rfl (by kernel_rfl) (by kernel_rfl) (by kernel_rfl) rfl (by kernel_rfl) (fun _ _ _ h => h) (Or.inl ⟨by rfl, ?_⟩) (by assumption) ?_
                rotate_left
                · (intro w hSw; (try dsimp only at hSw); go_simp; try with_reducible rfl)
                try simp only [Act.put, List.setIfInBounds_toArray, List.set_cons_zero, List.set_cons_succ, List.getElem_toArray, List.getElem_cons_succ, List.getElem_cons_zero]
                refine wpTail_take (i := 4) (v := ?_) rfl (by kernel_rfl) (by kernel_rfl) (by kernel_rfl) rfl (by kernel_rfl) (fun _ _ _ h => h) (Or.inl ⟨by rfl, ?_⟩) (by assumption) ?_
                rotate_left
                · (intro w hSw; (try dsimp only at hSw); go_simp; try with_reducible rfl)
                try simp only [Act.put, List.setIfInBounds_toArray, List.set_cons_zero, List.set_cons_succ, List.getElem_toArray, List.getElem_cons_succ, List.getElem_cons_zero]
                refine wpTail_take (i := 5) (v := ?_) rfl (by kernel_rfl) (by kernel_rfl) (by kernel_rfl) rfl (by kernel_rfl) (fun _ _ _ h => h) (Or.inl ⟨by rfl, ?_⟩) (by assumption) ?_
                rotate_left
                · (intro w hSw; (try dsimp only at hSw); go_simp; try with_reducible rfl)
                try simp only [Act.put, List.setIfInBounds_toArray, List.set_cons_zero, List.set_cons_succ, List.getElem_toArray, List.getElem_cons_succ, List.getElem_cons_zero]
                refine wpTail_take (i := 6) (v := ?_) rfl (by kernel_rfl) (by kernel_rfl) (by kernel_rfl) rfl (by kernel_rfl) (fun _ _ _ h => h) (Or.inl ⟨by rfl, ?_⟩) (by assumption) ?_
                rotate_left
                · (intro w hSw; (try dsimp only at hSw); go_simp; try with_reducible rfl)
                try simp only [Act.put, List.setIfInBounds_toArray, List.set_cons_zero, List.set_cons_succ, List.getElem_toArray, List.getElem_cons_succ, List.getElem_cons_zero]
                refine wpTail_one (i := 7) (by kernel_rfl) rfl rfl (fun K hK => ?_)
                try simp only [Act.put, List.setIfInBounds_toArray, List.set_cons_zero, List.set_cons_succ, List.getElem_toArray, List.getElem_cons_succ, List.getElem_cons_zero]
                go_simp
                refine hK.out _ _ ⟨Ext.cell (w := w4) (by repeat (first | (with_reducible assumption) | (with_reducible refine Ext.setCell ?_ (by first | (simp; done) | (simp; omega) | omega) _) | (with_reducible apply Ext.alloc) | (with_reducible apply Ext.drew) | (with_reducible apply Ext.drewN) | (with_reducible exact Ext.refl _))) b10, Ext.cell (w := w4) (by repeat (first | (with_reducible assumption) | (with_reducible refine Ext.setCell ?_ (by first | (simp; done) | (simp; omega) | omega) _) | (with_reducible apply Ext.alloc) | (with_reducible apply Ext.drew) | (with_reducible apply Ext.drewN) | (with_reducible exact Ext.refl _))) b11, Ext.cell (w := w4) (by repeat (first | (with_reducible assumption) | (with_reducible refine Ext.setCell ?_ (by first | (simp; done) | (simp; omega) | omega) _) | (with_reducible apply Ext.alloc) | (with_reducible apply Ext.drew) | (with_reducible apply Ext.drewN) | (with_reducible exact Ext.refl _))) b12, Ext.cell (w := w4) (by repeat (first | (with_reducible assumption) | (with_reducible refine Ext.setCell ?_ (by first | (simp; done) | (simp; omega) | omega) _) | (with_reducible apply Ext.alloc) | (with_reducible apply Ext.drew) | (with_reducible apply Ext.drewN) | (with_reducible exact Ext.refl _))) b20, Ext.cell (w := w4) (by repeat (first | (with_reducible assumption) | (with_reducible refine Ext.setCell ?_ (by first | (simp; done) | (simp; omega) | omega) _) | (with_reducible apply Ext.alloc) | (with_reducible apply Ext.drew) | (with_reducible apply Ext.drewN) | (with_reducible exact Ext.refl _))) b21, Ext.cell (w := w4) (by repeat (first | (with_reducible assumption) | (with_reducible refine Ext.setCell ?_ (by first | (simp; done) | (simp; omega) | omega) _) | (with_reducible apply Ext.alloc) | (with_reducible apply Ext.drew) | (with_reducible apply Ext.drewN) | (with_reducible exact Ext.refl _))) b22, Ext.cell (w := w4) (by repeat (first | (with_reducible assumption) | (with_reducible refine Ext.setCell ?_ (by first | (simp; done) | (simp; omega) | omega) _) | (with_reducible apply Ext.alloc) | (with_reducible apply Ext.drew) | (with_reducible apply Ext.drewN) | (with_reducible exact Ext.refl _))) b50, Ext.cell (w := w4) (by repeat (first | (with_reducible assumption) | (with_reducible refine Ext.setCell ?_ (by first | (simp; done) | (simp; omega) | omega) _) | (with_reducible apply Ext.alloc) | (with_reducible apply Ext.drew) | (with_reducible apply Ext.drewN) | (with_reducible exact Ext.refl _))) b51, Ext.cell (w := w4) (by repeat (first | (with_reducible assumption) | (with_reducible refine Ext.setCell ?_ (by first | (simp; done) | (simp; omega) | omega) _) | (with_reducible apply Ext.alloc) | (with_reducible apply Ext.drew) | (with_reducible apply Ext.drewN) | (with_reducible exact Ext.refl _))) b52, Ext.cell (w := w4) (by repeat (first | (with_reducible assumption) | (with_reducible refine Ext.setCell ?_ (by first | (simp; done) | (simp; omega) | omega) _) | (with_reducible apply Ext.alloc) | (with_reducible apply Ext.drew) | (with_reducible apply Ext.drewN) | (with_reducible exact Ext.refl _))) e80, Ext.cell (w := w4) (by repeat (first | (with_reducible assumption) | (with_reducible refine Ext.setCell ?_ (by first | (simp; done) | (simp; omega) | omega) _) | (with_reducible apply Ext.alloc) | (with_reducible apply Ext.drew) | (with_reducible apply Ext.drewN) | (with_reducible exact Ext.refl _))) e160, Ext.cell (w := w4) (by repeat (first | (with_reducible assumption) | (with_reducible refine Ext.setCell ?_ (by first | (simp; done) | (simp; omega) | omega) _) | (with_reducible apply Ext.alloc) | (with_reducible apply Ext.drew) | (with_reducible apply Ext.drewN) | (with_reducible exact Ext.refl _))) e230⟩ (fun hHeld => ?_)
                clear hK K
                try simp only [Act.put, List.setIfInBounds_toArray, List.set_cons_zero, List.set_cons_succ, List.getElem_toArray, List.getElem_cons_succ, List.getElem_cons_zero]
                refine wpTail_one (i := 8) (by kernel_rfl) rfl rfl (fun K hK => ?_)
                have Ew5 : Ext w4 ((w4.drew).alloc (.cells #[.int .i64 (v24)] 3)) := (by repeat (first | (with_reducible assumption) | (with_reducible refine Ext.setCell ?_ (by first | (simp; done) | (simp; omega) | omega) _) | (with_reducible apply Ext.alloc) | (with_reducible apply Ext.drew) | (with_reducible apply Ext.drewN) | (with_reducible exact Ext.refl _)))
                have Sw5 : Ints ((w4.drew).alloc (.cells #[.int .i64 (v24)] 3)) 0 (.slice (some ⟨w4.heap.size, 0, none⟩) 1 1) [v24] := by simpa using Ints.one w4.drew 0 (v24) (Nat.zero_le _)
                refine step_app rfl (.tmp 58) (.tmp 64) rfl rfl rfl (by exact T.o2.ext Ew5) (by exact Sw5) (by have := tl2.out; simp only [List.length_cons, List.length_nil]; omega) (by simp <;> omega) ?_
                intro vw5 w5 ho hgr hbl hvb
                obtain ⟨pa_w5, pn_w5, pc_w5, rfl⟩ := ho.any
                have Xw5 : Ext w w5 := Ext.below (Xw4.trans Ew5) hbl (by omega)
                replace b10 := below_cell hbl (by omega) (Ew5.cell b10)
                replace b11 := below_cell hbl (by omega) (Ew5.cell b11)
                replace b12 := below_cell hbl (by omega) (Ew5.cell b12)
                replace b20 := below_cell hbl (by omega) (Ew5.cell b20)
                replace f_b20 := below_frz hbl (by omega) (Ew5.frz z_b2 f_b20)
                replace b21 := below_cell hbl (by omega) (Ew5.cell b21)
                replace f_b21 := below_frz hbl (by omega) (Ew5.frz z_b2 f_b21)
                replace b22 := below_cell hbl (by omega) (Ew5.cell b22)
                replace f_b22 := below_frz hbl (by omega) (Ew5.frz z_b2 f_b22)
                replace b50 := below_cell hbl (by omega) (Ew5.cell b50)
                replace f_b50 := below_frz hbl (by omega) (Ew5.frz z_b5 f_b50)
                replace b51 := below_cell hbl (by omega) (Ew5.cell b51)
                replace f_b51 := below_frz hbl (by omega) (Ew5.frz z_b5 f_b51)
                replace b52 := below_cell hbl (by omega) (Ew5.cell b52)
                replace f_b52 := below_frz hbl (by omega) (Ew5.frz z_b5 f_b52)
                replace e80 := below_cell hbl (by omega) (Ew5.cell e80)
                replace e160 := below_cell hbl (by omega) (Ew5.cell e160)
                replace e230 := below_cell hbl (by omega) (Ew5.cell e230)
                have z_b1 : w.heap.size < w5.heap.size := World.block_lt_of_cell? _ _ b10
                have z_b2 : w.heap.size + 1 < w5.heap.size := World.block_lt_of_cell? _ _ b20
                have z_b5 : w1.heap.size < w5.heap.size := World.block_lt_of_cell? _ _ b50
                have z_e8 : bl6 < w5.heap.size := World.block_lt_of_cell? _ _ e80
                have z_e16 : bl14 < w5.heap.size := World.block_lt_of_cell? _ _ e160
                have z_e23 : bl21 < w5.heap.size := World.block_lt_of_cell? _ _ e230
                replace T := (T.ext Ew5).app2 ho hgr hvb
                have s_w5 : w.heap.size ≤ w5.heap.size := Xw5.size
                clear ho hgr hbl hvb Ew5 Sw5
                refine hK.out _ _ ⟨b10, b11, b12, b20, b21, b22, b50, b51, b52, e80, e160, e230⟩ (fun hHeld => ?_)
                clear hK K
                try simp only [Act.put, List.setIfInBounds_toArray, List.set_cons_zero, List.set_cons_succ, List.getElem_toArray, List.getElem_cons_succ, List.getElem_cons_zero]
                refine wpTail_take (i := 9) (v := ?_) rfl (by kernel_rfl) (by kernel_rfl) (by kernel_rfl) rfl (by kernel_rfl) (fun _ _ _ h => h) (Or.inl ⟨by rfl, ?_⟩) (by assumption) ?_
                rotate_left
                · (intro w hSw; (try dsimp only at hSw); go_simp; try with_reducible rfl)
                try simp only [Act.put, List.setIfInBounds_toArray, List.set_cons_zero, List.set_cons_succ, List.getElem_toArray, List.getElem_cons_succ, List.getElem_cons_zero]
                refine wpTail_last (i := 10) (by kernel_rfl) rfl rfl (fun K hK => ?_)
                try simp only [Act.put, List.setIfInBounds_toArray, List.set_cons_zero, List.set_cons_succ, List.getElem_toArray, List.getElem_cons_succ, List.getElem_cons_zero]
                go_simp
                refine hK.out _ _ ?_
                clear hK K
                try simp only [Act.put, List.setIfInBounds_toArray, List.set_cons_zero, List.set_cons_succ, List.getElem_toArray, List.getElem_cons_succ, List.getElem_cons_zero]
                refine wpTail_done (by kernel_rfl) ?_ _
                clear hHeld
                have Kw6 : Chg (w1.heap.size) (w1.heap.size + 1) w5 (w5.setCell ⟨w1.heap.size, 2, none⟩ (.slice pa_w5 pn_w5 pc_w5)) := (Chg.setCell (p := ⟨w1.heap.size, 2, none⟩) (Chg.refl (w1.heap.size) (w1.heap.size + 1) _) (Nat.le_refl _) (Nat.lt_succ_self _) (.slice pa_w5 pn_w5 pc_w5))
                have Xw6 : Ext w (w5.setCell ⟨w1.heap.size, 2, none⟩ (.slice pa_w5 pn_w5 pc_w5)) := (Ext.setCell (p := ⟨w1.heap.size, 2, none⟩) Xw5 (by first | (simp; done) | (simp; omega) | omega) (.slice pa_w5 pn_w5 pc_w5))
                replace b10 := Kw6.cell (by omega) b10
                replace b11 := Kw6.cell (by omega) b11
                replace b12 := Kw6.cell (by omega) b12
                replace b20 := Kw6.cell (by omega) b20
                replace f_b20 := Kw6.frzO (by omega) z_b2 f_b20
                replace b21 := Kw6.cell (by omega) b21
                replace f_b21 := Kw6.frzO (by omega) z_b2 f_b21
                replace b22 := Kw6.cell (by omega) b22
                replace f_b22 := Kw6.frzO (by omega) z_b2 f_b22
                have n_b50 : (w5.setCell ⟨w1.heap.size, 2, none⟩ (.slice pa_w5 pn_w5 pc_w5)).cell? ⟨w1.heap.size, 0, none⟩ = some (.int .i64 b1) := by go_simp
                have n_f_b50 : (w5.setCell ⟨w1.heap.size, 2, none⟩ (.slice pa_w5 pn_w5 pc_w5)).frozen? ⟨w1.heap.size, 0, none⟩ = false := by go_simp
                have n_b51 : (w5.setCell ⟨w1.heap.size, 2, none⟩ (.slice pa_w5 pn_w5 pc_w5)).cell? ⟨w1.heap.size, 1, none⟩ = some (.slice pa_w3 pn_w3 pc_w3) := by go_simp
                have n_f_b51 : (w5.setCell ⟨w1.heap.size, 2, none⟩ (.slice pa_w5 pn_w5 pc_w5)).frozen? ⟨w1.heap.size, 1, none⟩ = false := by go_simp
                have n_b52 : (w5.setCell ⟨w1.heap.size, 2, none⟩ (.slice pa_w5 pn_w5 pc_w5)).cell? ⟨w1.heap.size, 2, none⟩ = some (.slice pa_w5 pn_w5 pc_w5) := by go_simp
                have n_f_b52 : (w5.setCell ⟨w1.heap.size, 2, none⟩ (.slice pa_w5 pn_w5 pc_w5)).frozen? ⟨w1.heap.size, 2, none⟩ = false := by go_simp
                replace b50 := n_b50
                clear n_b50
                replace f_b50 := n_f_b50
                clear n_f_b50
                replace b51 := n_b51
                clear n_b51
                replace f_b51 := n_f_b51
                clear n_f_b51
                replace b52 := n_b52
                clear n_b52
                replace f_b52 := n_f_b52
                clear n_f_b52
                replace e80 := Kw6.cell (by omega) e80
                replace e160 := Kw6.cell (by omega) e160
                replace e230 := Kw6.cell (by omega) e230
                replace T := T.chg Kw6 (by omega)
                clear Kw6
                have z_b1 : w.heap.size < (w5.setCell ⟨w1.heap.size, 2, none⟩ (.slice pa_w5 pn_w5 pc_w5)).heap.size := World.block_lt_of_cell? _ _ b10
                have z_b2 : w.heap.size + 1 < (w5.setCell ⟨w1.heap.size, 2, none⟩ (.slice pa_w5 pn_w5 pc_w5)).heap.size := World.block_lt_of_cell? _ _ b20
                have z_b5 : w1.heap.size < (w5.setCell ⟨w1.heap.size, 2, none⟩ (.slice pa_w5 pn_w5 pc_w5)).heap.size := World.block_lt_of_cell? _ _ b50
                have z_e8 : bl6 < (w5.setCell ⟨w1.heap.size, 2, none⟩ (.slice pa_w5 pn_w5 pc_w5)).heap.size := World.block_lt_of_cell? _ _ e80
                have z_e16 : bl14 < (w5.setCell ⟨w1.heap.size, 2, none⟩ (.slice pa_w5 pn_w5 pc_w5)).heap.size := World.block_lt_of_cell? _ _ e160
                have z_e23 : bl21 < (w5.setCell ⟨w1.heap.size, 2, none⟩ (.slice pa_w5 pn_w5 pc_w5)).heap.size := World.block_lt_of_cell? _ _ e230
                have s_w6 : w.heap.size ≤ (w5.setCell ⟨w1.heap.size, 2, none⟩ (.slice pa_w5 pn_w5 pc_w5)).heap.size := Xw6.size
                generalize (w5.setCell ⟨w1.heap.size, 2, none⟩ (.slice pa_w5 pn_w5 pc_w5)) = w6 at *
                have hTs := T.size
                go_wp2_with fail
                go_roundw
                case rel => exact ⟨k + 1, _, _, by omega, by go_num, Lib.hid (hok.out.succ hlt hv9.out (by have := hos.out; omega) hB13.out), by rw [hs1.out, hs2.out]; exact T, Xw6, b10, b11, b12, b20, b21, b22, f_b20, f_b21, f_b22, b50, b51, b52, f_b50, f_b51, f_b52⟩
                case measure => simp [intOf]; omega
              · replace hB13 := Lib.hid hB13
                go_wp2_with fail
                have Kw3 : Chg (w.heap.size + 1) (w.heap.size + 1 + 1) wr (((wr.setCell ⟨w.heap.size + 1, 0, none⟩ (.int .i64 0)).setCell ⟨w.heap.size + 1, 1, none⟩ (.slice none 0 0)).setCell ⟨w.heap.size + 1, 2, none⟩ (.slice none 0 0)) := (Chg.setCell (p := ⟨w.heap.size + 1, 2, none⟩) (Chg.setCell (p := ⟨w.heap.size + 1, 1, none⟩) (Chg.setCell (p := ⟨w.heap.size + 1, 0, none⟩) (Chg.refl (w.heap.size + 1) (w.heap.size + 1 + 1) _) (Nat.le_refl _) (Nat.lt_succ_self _) (.int .i64 0)) (Nat.le_refl _) (Nat.lt_succ_self _) (.slice none 0 0)) (Nat.le_refl _) (Nat.lt_succ_self _) (.slice none 0 0))
                have Xw3 : Ext w (((wr.setCell ⟨w.heap.size + 1, 0, none⟩ (.int .i64 0)).setCell ⟨w.heap.size + 1, 1, none⟩ (.slice none 0 0)).setCell ⟨w.heap.size + 1, 2, none⟩ (.slice none 0 0)) := (Ext.setCell (p := ⟨w.heap.size + 1, 2, none⟩) (Ext.setCell (p := ⟨w.heap.size + 1, 1, none⟩) (Ext.setCell (p := ⟨w.heap.size + 1, 0, none⟩) Xr (by first | (simp; done) | (simp; omega) | omega) (.int .i64 0)) (by first | (simp; done) | (simp; omega) | omega) (.slice none 0 0)) (by first | (simp; done) | (simp; omega) | omega) (.slice none 0 0))
                replace b10 := Kw3.cell (by omega) b10
                replace b11 := Kw3.cell (by omega) b11
                replace b12 := Kw3.cell (by omega) b12
                have n_b20 : (((wr.setCell ⟨w.heap.size + 1, 0, none⟩ (.int .i64 0)).setCell ⟨w.heap.size + 1, 1, none⟩ (.slice none 0 0)).setCell ⟨w.heap.size + 1, 2, none⟩ (.slice none 0 0)).cell? ⟨w.heap.size + 1, 0, none⟩ = some (.int .i64 0) := by go_simp
                have n_f_b20 : (((wr.setCell ⟨w.heap.size + 1, 0, none⟩ (.int .i64 0)).setCell ⟨w.heap.size + 1, 1, none⟩ (.slice none 0 0)).setCell ⟨w.heap.size + 1, 2, none⟩ (.slice none 0 0)).frozen? ⟨w.heap.size + 1, 0, none⟩ = false := by go_simp
                have n_b21 : (((wr.setCell ⟨w.heap.size + 1, 0, none⟩ (.int .i64 0)).setCell ⟨w.heap.size + 1, 1, none⟩ (.slice none 0 0)).setCell ⟨w.heap.size + 1, 2, none⟩ (.slice none 0 0)).cell? ⟨w.heap.size + 1, 1, none⟩ = some (.slice none 0 0) := by go_simp
                have n_f_b21 : (((wr.setCell ⟨w.heap.size + 1, 0, none⟩ (.int .i64 0)).setCell ⟨w.heap.size + 1, 1, none⟩ (.slice none 0 0)).setCell ⟨w.heap.size + 1, 2, none⟩ (.slice none 0 0)).frozen? ⟨w.heap.size + 1, 1, none⟩ = false := by go_simp
                have n_b22 : (((wr.setCell ⟨w.heap.size + 1, 0, none⟩ (.int .i64 0)).setCell ⟨w.heap.size + 1, 1, none⟩ (.slice none 0 0)).setCell ⟨w.heap.size + 1, 2, none⟩ (.slice none 0 0)).cell? ⟨w.heap.size + 1, 2, none⟩ = some (.slice none 0 0) := by go_simp
                have n_f_b22 : (((wr.setCell ⟨w.heap.size + 1, 0, none⟩ (.int .i64 0)).setCell ⟨w.heap.size + 1, 1, none⟩ (.slice none 0 0)).setCell ⟨w.heap.size + 1, 2, none⟩ (.slice none 0 0)).frozen? ⟨w.heap.size + 1, 2, none⟩ = false := by go_simp
                replace b20 := n_b20
                clear n_b20
                replace f_b20 := n_f_b20
                clear n_f_b20
                replace b21 := n_b21
                clear n_b21
                replace f_b21 := n_f_b21
                clear n_f_b21
                replace b22 := n_b22
                clear n_b22
                replace f_b22 := n_f_b22
                clear n_f_b22
                replace b50 := Kw3.cell (by omega) b50
                replace f_b50 := Kw3.frzO (by omega) z_b5 f_b50
                replace b51 := Kw3.cell (by omega) b51
                replace f_b51 := Kw3.frzO (by omega) z_b5 f_b51
                replace b52 := Kw3.cell (by omega) b52
                replace f_b52 := Kw3.frzO (by omega) z_b5 f_b52
                replace e80 := Kw3.cell (by omega) e80
                replace T := T.chg Kw3 (by omega)
                clear Kw3
                have z_b1 : w.heap.size < (((wr.setCell ⟨w.heap.size + 1, 0, none⟩ (.int .i64 0)).setCell ⟨w.heap.size + 1, 1, none⟩ (.slice none 0 0)).setCell ⟨w.heap.size + 1, 2, none⟩ (.slice none 0 0)).heap.size := World.block_lt_of_cell? _ _ b10
                have z_b2 : w.heap.size + 1 < (((wr.setCell ⟨w.heap.size + 1, 0, none⟩ (.int .i64 0)).setCell ⟨w.heap.size + 1, 1, none⟩ (.slice none 0 0)).setCell ⟨w.heap.size + 1, 2, none⟩ (.slice none 0 0)).heap.size := World.block_lt_of_cell? _ _ b20
                have z_b5 : w1.heap.size < (((wr.setCell ⟨w.heap.size + 1, 0, none⟩ (.int .i64 0)).setCell ⟨w.heap.size + 1, 1, none⟩ (.slice none 0 0)).setCell ⟨w.heap.size + 1, 2, none⟩ (.slice none 0 0)).heap.size := World.block_lt_of_cell? _ _ b50
                have z_e8 : bl6 < (((wr.setCell ⟨w.heap.size + 1, 0, none⟩ (.int .i64 0)).setCell ⟨w.heap.size + 1, 1, none⟩ (.slice none 0 0)).setCell ⟨w.heap.size + 1, 2, none⟩ (.slice none 0 0)).heap.size := World.block_lt_of_cell? _ _ e80
                have s_w3 : w.heap.size ≤ (((wr.setCell ⟨w.heap.size + 1, 0, none⟩ (.int .i64 0)).setCell ⟨w.heap.size + 1, 1, none⟩ (.slice none 0 0)).setCell ⟨w.heap.size + 1, 2, none⟩ (.slice none 0 0)).heap.size := Xw3.size
                generalize (((wr.setCell ⟨w.heap.size + 1, 0, none⟩ (.int .i64 0)).setCell ⟨w.heap.size + 1, 1, none⟩ (.slice none 0 0)).setCell ⟨w.heap.size + 1, 2, none⟩ (.slice none 0 0)) = w3 at *
                refine bodyPost_ret (v := .tuple #[.agg #[.int .i64 0, .slice none 0 0, .slice none 0 0], .bool false]) (by simp only [results, Try.results51]; go_simp) rfl ?_
                rw [show permV b1 s1 t1 ord = noV by unfold permV; rw [hB3.out, ord_no hlt hv9.out (.inr (.inr hB13.out)), Bool.and_false] <;> rfl]
                exact PViewB.no (Xw3.trans (by repeat (first | (with_reducible assumption) | (with_reducible refine Ext.setCell ?_ (by first | (simp; done) | (simp; omega) | omega) _) | (with_reducible apply Ext.alloc) | (with_reducible apply Ext.drew) | (with_reducible apply Ext.drewN) | (with_reducible exact Ext.refl _))))
        · have hkI : ¬ (k : Int) < ord.length := by omega
          obtain rfl : k = ord.length := by omega
          rw [List.take_length] at T
          obtain ⟨a5, c5, rfl⟩ := (T.o1.ints (by rw [takL_len]; omega)).form
          obtain ⟨a6, c6, rfl⟩ := (T.o2.ints (by rw [takL_len]; omega)).form
          simp only [takL_len] at b51 b52 T
          go_wp2_with fail
          have Kw3 : Chg (w.heap.size + 1) (w.heap.size + 1 + 1) wr (((wr.setCell ⟨w.heap.size + 1, 0, none⟩ (.int .i64 b1)).setCell ⟨w.heap.size + 1, 1, none⟩ (.slice a5 ord.length c5)).setCell ⟨w.heap.size + 1, 2, none⟩ (.slice a6 ord.length c6)) := (Chg.setCell (p := ⟨w.heap.size + 1, 2, none⟩) (Chg.setCell (p := ⟨w.heap.size + 1, 1, none⟩) (Chg.setCell (p := ⟨w.heap.size + 1, 0, none⟩) (Chg.refl (w.heap.size + 1) (w.heap.size + 1 + 1) _) (Nat.le_refl _) (Nat.lt_succ_self _) (.int .i64 b1)) (Nat.le_refl _) (Nat.lt_succ_self _) (.slice a5 ord.length c5)) (Nat.le_refl _) (Nat.lt_succ_self _) (.slice a6 ord.length c6))
          have Xw3 : Ext w (((wr.setCell ⟨w.heap.size + 1, 0, none⟩ (.int .i64 b1)).setCell ⟨w.heap.size + 1, 1, none⟩ (.slice a5 ord.length c5)).setCell ⟨w.heap.size + 1, 2, none⟩ (.slice a6 ord.length c6)) := (Ext.setCell (p := ⟨w.heap.size + 1, 2, none⟩) (Ext.setCell (p := ⟨w.heap.size + 1, 1, none⟩) (Ext.setCell (p := ⟨w.heap.size + 1, 0, none⟩) Xr (by first | (simp; done) | (simp; omega) | omega) (.int .i64 b1)) (by first | (simp; done) | (simp; omega) | omega) (.slice a5 ord.length c5)) (by first | (simp; done) | (simp; omega) | omega) (.slice a6 ord.length c6))
          replace b10 := Kw3.cell (by omega) b10
          replace b11 := Kw3.cell (by omega) b11
          replace b12 := Kw3.cell (by omega) b12
          have n_b20 : (((wr.setCell ⟨w.heap.size + 1, 0, none⟩ (.int .i64 b1)).setCell ⟨w.heap.size + 1, 1, none⟩ (.slice a5 ord.length c5)).setCell ⟨w.heap.size + 1, 2, none⟩ (.slice a6 ord.length c6)).cell? ⟨w.heap.size + 1, 0, none⟩ = some (.int .i64 b1) := by go_simp
          have n_f_b20 : (((wr.setCell ⟨w.heap.size + 1, 0, none⟩ (.int .i64 b1)).setCell ⟨w.heap.size + 1, 1, none⟩ (.slice a5 ord.length c5)).setCell ⟨w.heap.size + 1, 2, none⟩ (.slice a6 ord.length c6)).frozen? ⟨w.heap.size + 1, 0, none⟩ = false := by go_simp
          have n_b21 : (((wr.setCell ⟨w.heap.size + 1, 0, none⟩ (.int .i64 b1)).setCell ⟨w.heap.size + 1, 1, none⟩ (.slice a5 ord.length c5)).setCell ⟨w.heap.size + 1, 2, none⟩ (.slice a6 ord.length c6)).cell? ⟨w.heap.size + 1, 1, none⟩ = some (.slice a5 ord.length c5) := by go_simp
          have n_f_b21 : (((wr.setCell ⟨w.heap.size + 1, 0, none⟩ (.int .i64 b1)).setCell ⟨w.heap.size + 1, 1, none⟩ (.slice a5 ord.length c5)).setCell ⟨w.heap.size + 1, 2, none⟩ (.slice a6 ord.length c6)).frozen? ⟨w.heap.size + 1, 1, none⟩ = false := by go_simp
          have n_b22 : (((wr.setCell ⟨w.heap.size + 1, 0, none⟩ (.int .i64 b1)).setCell ⟨w.heap.size + 1, 1, none⟩ (.slice a5 ord.length c5)).setCell ⟨w.heap.size + 1, 2, none⟩ (.slice a6 ord.length c6)).cell? ⟨w.heap.size + 1, 2, none⟩ = some (.slice a6 ord.length c6) := by go_simp
          have n_f_b22 : (((wr.setCell ⟨w.heap.size + 1, 0, none⟩ (.int .i64 b1)).setCell ⟨w.heap.size + 1, 1, none⟩ (.slice a5 ord.length c5)).setCell ⟨w.heap.size + 1, 2, none⟩ (.slice a6 ord.length c6)).frozen? ⟨w.heap.size + 1, 2, none⟩ = false := by go_simp
          replace b20 := n_b20
          clear n_b20
          replace f_b20 := n_f_b20
          clear n_f_b20
          replace b21 := n_b21
          clear n_b21
          replace f_b21 := n_f_b21
          clear n_f_b21
          replace b22 := n_b22
          clear n_b22
          replace f_b22 := n_f_b22
          clear n_f_b22
          replace b50 := Kw3.cell (by omega) b50
          replace f_b50 := Kw3.frzO (by omega) z_b5 f_b50
          replace b51 := Kw3.cell (by omega) b51
          replace f_b51 := Kw3.frzO (by omega) z_b5 f_b51
          replace b52 := Kw3.cell (by omega) b52
          replace f_b52 := Kw3.frzO (by omega) z_b5 f_b52
          replace T := T.chg Kw3 (by omega)
          clear Kw3
          have z_b1 : w.heap.size < (((wr.setCell ⟨w.heap.size + 1, 0, none⟩ (.int .i64 b1)).setCell ⟨w.heap.size + 1, 1, none⟩ (.slice a5 ord.length c5)).setCell ⟨w.heap.size + 1, 2, none⟩ (.slice a6 ord.length c6)).heap.size := World.block_lt_of_cell? _ _ b10
          have z_b2 : w.heap.size + 1 < (((wr.setCell ⟨w.heap.size + 1, 0, none⟩ (.int .i64 b1)).setCell ⟨w.heap.size + 1, 1, none⟩ (.slice a5 ord.length c5)).setCell ⟨w.heap.size + 1, 2, none⟩ (.slice a6 ord.length c6)).heap.size := World.block_lt_of_cell? _ _ b20
          have z_b5 : w1.heap.size < (((wr.setCell ⟨w.heap.size + 1, 0, none⟩ (.int .i64 b1)).setCell ⟨w.heap.size + 1, 1, none⟩ (.slice a5 ord.length c5)).setCell ⟨w.heap.size + 1, 2, none⟩ (.slice a6 ord.length c6)).heap.size := World.block_lt_of_cell? _ _ b50
          have s_w3 : w.heap.size ≤ (((wr.setCell ⟨w.heap.size + 1, 0, none⟩ (.int .i64 b1)).setCell ⟨w.heap.size + 1, 1, none⟩ (.slice a5 ord.length c5)).setCell ⟨w.heap.size + 1, 2, none⟩ (.slice a6 ord.length c6)).heap.size := Xw3.size
          generalize (((wr.setCell ⟨w.heap.size + 1, 0, none⟩ (.int .i64 b1)).setCell ⟨w.heap.size + 1, 1, none⟩ (.slice a5 ord.length c5)).setCell ⟨w.heap.size + 1, 2, none⟩ (.slice a6 ord.length c6)) = w3 at *
          refine bodyPost_ret (v := .tuple #[.agg #[.int .i64 b1, .slice a5 ord.length c5, .slice a6 ord.length c6], .bool true]) (by simp only [results, Try.results51]; go_simp) rfl ?_
          rw [show permV b1 s1 t1 ord = (b1, takL s1 ord, takL t1 ord, true) by unfold permV madeV; rw [hB3.out, ord_yes (by have := hos.out; omega) hok.out, (perm_view hB3.out (ord_yes (by have := hos.out; omega) hok.out)).1] <;> rfl]
          exact PViewB.two T (by omega) (by rw [takL_len]; omega) (by rw [takL_len]; omega) Xw3
    · have hc4e : ((ord.length : Int) == (s1.length : Int)) = false := by simpa using hc4
      have hc4n : ((ord.length : Int) != (s1.length : Int)) = true := by simpa using hc4
      replace hc4 := Lib.hid hc4
      go_wp2_with fail
      have Kw2 : Chg (w.heap.size + 1) (w.heap.size + 1 + 1) w1 (((w1.setCell ⟨w.heap.size + 1, 0, none⟩ (.int .i64 0)).setCell ⟨w.heap.size + 1, 1, none⟩ (.slice none 0 0)).setCell ⟨w.heap.size + 1, 2, none⟩ (.slice none 0 0)) := (Chg.setCell (p := ⟨w.heap.size + 1, 2, none⟩) (Chg.setCell (p := ⟨w.heap.size + 1, 1, none⟩) (Chg.setCell (p := ⟨w.heap.size + 1, 0, none⟩) (Chg.refl (w.heap.size + 1) (w.heap.size + 1 + 1) _) (Nat.le_refl _) (Nat.lt_succ_self _) (.int .i64 0)) (Nat.le_refl _) (Nat.lt_succ_self _) (.slice none 0 0)) (Nat.le_refl _) (Nat.lt_succ_self _) (.slice none 0 0))
      have Xw2 : Ext w (((w1.setCell ⟨w.heap.size + 1, 0, none⟩ (.int .i64 0)).setCell ⟨w.heap.size + 1, 1, none⟩ (.slice none 0 0)).setCell ⟨w.heap.size + 1, 2, none⟩ (.slice none 0 0)) := (Ext.setCell (p := ⟨w.heap.size + 1, 2, none⟩) (Ext.setCell (p := ⟨w.heap.size + 1, 1, none⟩) (Ext.setCell (p := ⟨w.heap.size + 1, 0, none⟩) Xw1 (by first | (simp; done) | (simp; omega) | omega) (.int .i64 0)) (by first | (simp; done) | (simp; omega) | omega) (.slice none 0 0)) (by first | (simp; done) | (simp; omega) | omega) (.slice none 0 0))
      replace b10 := Kw2.cell (by omega) b10
      replace b11 := Kw2.cell (by omega) b11
      replace b12 := Kw2.cell (by omega) b12
      have n_b20 : (((w1.setCell ⟨w.heap.size + 1, 0, none⟩ (.int .i64 0)).setCell ⟨w.heap.size + 1, 1, none⟩ (.slice none 0 0)).setCell ⟨w.heap.size + 1, 2, none⟩ (.slice none 0 0)).cell? ⟨w.heap.size + 1, 0, none⟩ = some (.int .i64 0) := by go_simp
      have n_f_b20 : (((w1.setCell ⟨w.heap.size + 1, 0, none⟩ (.int .i64 0)).setCell ⟨w.heap.size + 1, 1, none⟩ (.slice none 0 0)).setCell ⟨w.heap.size + 1, 2, none⟩ (.slice none 0 0)).frozen? ⟨w.heap.size + 1, 0, none⟩ = false := by go_simp
      have n_b21 : (((w1.setCell ⟨w.heap.size + 1, 0, none⟩ (.int .i64 0)).setCell ⟨w.heap.size + 1, 1, none⟩ (.slice none 0 0)).setCell ⟨w.heap.size + 1, 2, none⟩ (.slice none 0 0)).cell? ⟨w.heap.size + 1, 1, none⟩ = some (.slice none 0 0) := by go_simp
      have n_f_b21 : (((w1.setCell ⟨w.heap.size + 1, 0, none⟩ (.int .i64 0)).setCell ⟨w.heap.size + 1, 1, none⟩ (.slice none 0 0)).setCell ⟨w.heap.size + 1, 2, none⟩ (.slice none 0 0)).frozen? ⟨w.heap.size + 1, 1, none⟩ = false := by go_simp
      have n_b22 : (((w1.setCell ⟨w.heap.size + 1, 0, none⟩ (.int .i64 0)).setCell ⟨w.heap.size + 1, 1, none⟩ (.slice none 0 0)).setCell ⟨w.heap.size + 1, 2, none⟩ (.slice none 0 0)).cell? ⟨w.heap.size + 1, 2, none⟩ = some (.slice none 0 0) := by go_simp
      have n_f_b22 : (((w1.setCell ⟨w.heap.size + 1, 0, none⟩ (.int .i64 0)).setCell ⟨w.heap.size + 1, 1, none⟩ (.slice none 0 0)).setCell ⟨w.heap.size + 1, 2, none⟩ (.slice none 0 0)).frozen? ⟨w.heap.size + 1, 2, none⟩ = false := by go_simp
      replace b20 := n_b20
      clear n_b20
      replace f_b20 := n_f_b20
      clear n_f_b20
      replace b21 := n_b21
      clear n_b21
      replace f_b21 := n_f_b21
      clear n_f_b21
      replace b22 := n_b22
      clear n_b22
      replace f_b22 := n_f_b22
      clear n_f_b22
      clear Kw2
      have z_b1 : w.heap.size < (((w1.setCell ⟨w.heap.size + 1, 0, none⟩ (.int .i64 0)).setCell ⟨w.heap.size + 1, 1, none⟩ (.slice none 0 0)).setCell ⟨w.heap.size + 1, 2, none⟩ (.slice none 0 0)).heap.size := World.block_lt_of_cell? _ _ b10
      have z_b2 : w.heap.size + 1 < (((w1.setCell ⟨w.heap.size + 1, 0, none⟩ (.int .i64 0)).setCell ⟨w.heap.size + 1, 1, none⟩ (.slice none 0 0)).setCell ⟨w.heap.size + 1, 2, none⟩ (.slice none 0 0)).heap.size := World.block_lt_of_cell? _ _ b20
      have s_w2 : w.heap.size ≤ (((w1.setCell ⟨w.heap.size + 1, 0, none⟩ (.int .i64 0)).setCell ⟨w.heap.size + 1, 1, none⟩ (.slice none 0 0)).setCell ⟨w.heap.size + 1, 2, none⟩ (.slice none 0 0)).heap.size := Xw2.size
      generalize (((w1.setCell ⟨w.heap.size + 1, 0, none⟩ (.int .i64 0)).setCell ⟨w.heap.size + 1, 1, none⟩ (.slice none 0 0)).setCell ⟨w.heap.size + 1, 2, none⟩ (.slice none 0 0)) = w2 at *
      refine bodyPost_ret (v := .tuple #[.agg #[.int .i64 0, .slice none 0 0, .slice none 0 0], .bool false]) (by simp only [results, Try.results51]; go_simp) rfl ?_
      rw [show permV b1 s1 t1 ord = noV by unfold permV; rw [hB3.out, ord_len hc4.out, Bool.and_false] <;> rfl]
      exact PViewB.no (Xw2.trans (by repeat (first | (with_reducible assumption) | (with_reducible refine Ext.setCell ?_ (by first | (simp; done) | (simp; omega) | omega) _) | (with_reducible apply Ext.alloc) | (with_reducible apply Ext.drew) | (with_reducible apply Ext.drewN) | (with_reducible exact Ext.refl _))))


end Go.Proofs.Ytnjaidgifccgjaa

/- FnSumView returns true for all bytes: no condition. -/
namespace Go.Proofs.Ytnjaidgifccgjaa
open Go.RowKit
set_option linter.unusedVariables false
set_option maxRecDepth 100000


theorem sumL_sum (xs : List Int) : sumL xs = xs.sum := by
  have key : ∀ (ys : List Int) (a : Int), ys.foldl (· + ·) a = a + ys.sum := by
    intro ys
    induction ys with
    | nil => intro a; simp
    | cons y r ih => intro a; simp only [List.foldl_cons, List.sum_cons]; rw [ih]; omega
  unfold sumL; rw [key]; omega
theorem hold_mk {mem : List Int} {b : Int} {s t : List Int} (h1 : memB mem = true) (h2 : viewB b s t = true) (h3 : ∀ x ∈ offsL b s t, x < mem.length) : holdB mem b s t = true := by
  unfold holdB fitB
  rw [h1, h2]
  simp only [Bool.true_and, List.all_eq_true]
  intro x hx
  have := h3 x hx
  have h4 := (viewB_in h2).2.2.2.2 x hx
  simp [inB]; omega
theorem sum_neg {mem : List Int} {b : Int} {s t : List Int} (h : ¬ sumA mem b s t < 0) : holdB mem b s t = true := by
  cases hh : holdB mem b s t with
  | true => rfl
  | false => exact absurd h (by unfold sumA; rw [hh]; simp)
theorem sum_law {mem : List Int} {b : Int} {s t : List Int} (h : holdB mem b s t = true) :
    sumA mem b s t = sumL (loadA mem b s t) ∧ (∀ x ∈ loadA mem b s t, -1000000 ≤ x ∧ x ≤ 1000000) ∧ permV b s t (upL s.length).reverse = (b, takL s (upL s.length).reverse, takL t (upL s.length).reverse, true) ∧ sumA mem b (takL s (upL s.length).reverse) (takL t (upL s.length).reverse) = sumA mem b s t := by
  obtain ⟨h1, h2, h3⟩ := hold_in h
  have ho := order_back s.length
  obtain ⟨p1, p2⟩ := perm_view h2 ho
  have e1 : loadA mem b s t = loadL mem b s t := by unfold loadA; rw [if_pos h]
  have hh : holdB mem b (takL s (upL s.length).reverse) (takL t (upL s.length).reverse) = true := hold_mk h1 p1 fun x hx => (h3 x (p2.mem_iff.1 hx)).2
  refine ⟨by unfold sumA; rw [if_pos h, e1], fun x hx => by rw [e1] at hx; have := loadL_bd h x hx; omega, by unfold permV madeV; rw [h2, ho, p1]; rfl, ?_⟩
  unfold sumA
  rw [if_pos h, if_pos hh, sumL_sum, sumL_sum]
  exact takL_sum_perm p2

set_option maxHeartbeats 3200000 in
theorem lawFnSumView_c (a : Option Addr) (n cap : Nat) (w : World) (hb : BysIn w a n cap) :
    Calls Try.prog 12 #[.slice a n cap] w fun e w' => e = .returned (.bool true) ∧ Ext w w' := by
  have hcm := hb.1
  have hcm2 := hb.2.1
  unfold maxLen at hcm2
  go_enter Try.func12, Try.ntmps12
  by_cases hc1 : (1048576 : Int) < (n : Int)
  · go_wp2_with fail
    go_ret
    exact ⟨rfl, (by repeat (first | exact Ext.refl _ | assumption | apply Ext.drewN | apply Ext.drew | apply Ext.alloc))⟩
  · go_wp2_with fail
    refine (drawSumView_c a n cap _ hb).mono ?_
    rintro e w1 ⟨⟨mem, p0, n0, r0, b, s, t, p1, p2, n1, r1, n2, r2, rfl, l0, i0, i1, i2, l1, l2⟩, xw1⟩
    have Lw1 : Ext w w1 := Ext.trans (by repeat (first | (with_reducible assumption) | (with_reducible refine Ext.setCell ?_ (by first | (simp; done) | (simp; omega) | omega) _) | (with_reducible apply Ext.alloc) | (with_reducible apply Ext.drew) | (with_reducible apply Ext.drewN) | (with_reducible exact Ext.refl _))) xw1
    have Xw1 : Ext w w1 := Lw1
    have s_w1 : w.heap.size ≤ w1.heap.size := Xw1.size
    clear xw1
    obtain rfl := i0.len_eq
    obtain rfl := i1.len_eq
    obtain rfl := i2.len_eq
    clear hb
    go_wp2_with fail
    refine (implSumView_c mem (.slice p0 mem.length r0) b (.slice p1 s.length r1) (.slice p2 t.length r2) s t _ _ (i0.ext (by repeat (first | (with_reducible assumption) | (with_reducible refine Ext.setCell ?_ (by first | (simp; done) | (simp; omega) | omega) _) | (with_reducible apply Ext.alloc) | (with_reducible apply Ext.drew) | (with_reducible apply Ext.drewN) | (with_reducible exact Ext.refl _)))) _ _ (i1.ext (by repeat (first | (with_reducible assumption) | (with_reducible refine Ext.setCell ?_ (by first | (simp; done) | (simp; omega) | omega) _) | (with_reducible apply Ext.alloc) | (with_reducible apply Ext.drew) | (with_reducible apply Ext.drewN) | (with_reducible exact Ext.refl _)))) (i2.ext (by repeat (first | (with_reducible assumption) | (with_reducible refine Ext.setCell ?_ (by first | (simp; done) | (simp; omega) | omega) _) | (with_reducible apply Ext.alloc) | (with_reducible apply Ext.drew) | (with_reducible apply Ext.drewN) | (with_reducible exact Ext.refl _))))).mono ?_
    rintro e w2 ⟨rfl, xw2⟩
    have Lw2 : Ext w1 w2 := Ext.trans (by repeat (first | (with_reducible assumption) | (with_reducible refine Ext.setCell ?_ (by first | (simp; done) | (simp; omega) | omega) _) | (with_reducible apply Ext.alloc) | (with_reducible apply Ext.drew) | (with_reducible apply Ext.drewN) | (with_reducible exact Ext.refl _))) xw2
    have Xw2 : Ext w w2 := Xw1.trans Lw2
    have b20 : w2.cell? ⟨w1.heap.size, 0, none⟩ = some (.int .i64 b) := xw2.cell (by first | (simp; done) | ((repeat rw [World.cell?_alloc_lt _ _ _ (by simp <;> omega)]); simp; done) | (go_simp; done))
    have b21 : w2.cell? ⟨w1.heap.size, 1, none⟩ = some (.slice p1 s.length r1) := xw2.cell (by first | (simp; done) | ((repeat rw [World.cell?_alloc_lt _ _ _ (by simp <;> omega)]); simp; done) | (go_simp; done))
    have b22 : w2.cell? ⟨w1.heap.size, 2, none⟩ = some (.slice p2 t.length r2) := xw2.cell (by first | (simp; done) | ((repeat rw [World.cell?_alloc_lt _ _ _ (by simp <;> omega)]); simp; done) | (go_simp; done))
    have z_b2 : w1.heap.size < w2.heap.size := World.block_lt_of_cell? _ _ b20
    replace i0 := i0.ext Lw2
    replace i1 := i1.ext Lw2
    replace i2 := i2.ext Lw2
    have s_w2 : w.heap.size ≤ w2.heap.size := Xw2.size
    clear xw2
    go_wp2_with fail
    refine (specSumView_c mem (.slice p0 mem.length r0) b (.slice p1 s.length r1) (.slice p2 t.length r2) s t _ _ (i0.ext (by repeat (first | (with_reducible assumption) | (with_reducible refine Ext.setCell ?_ (by first | (simp; done) | (simp; omega) | omega) _) | (with_reducible apply Ext.alloc) | (with_reducible apply Ext.drew) | (with_reducible apply Ext.drewN) | (with_reducible exact Ext.refl _)))) _ _ (i1.ext (by repeat (first | (with_reducible assumption) | (with_reducible refine Ext.setCell ?_ (by first | (simp; done) | (simp; omega) | omega) _) | (with_reducible apply Ext.alloc) | (with_reducible apply Ext.drew) | (with_reducible apply Ext.drewN) | (with_reducible exact Ext.refl _)))) (i2.ext (by repeat (first | (with_reducible assumption) | (with_reducible refine Ext.setCell ?_ (by first | (simp; done) | (simp; omega) | omega) _) | (with_reducible apply Ext.alloc) | (with_reducible apply Ext.drew) | (with_reducible apply Ext.drewN) | (with_reducible exact Ext.refl _))))).mono ?_
    rintro e w3 ⟨rfl, xw3⟩
    have Lw3 : Ext w2 w3 := Ext.trans (by repeat (first | (with_reducible assumption) | (with_reducible refine Ext.setCell ?_ (by first | (simp; done) | (simp; omega) | omega) _) | (with_reducible apply Ext.alloc) | (with_reducible apply Ext.drew) | (with_reducible apply Ext.drewN) | (with_reducible exact Ext.refl _))) xw3
    have Xw3 : Ext w w3 := Xw2.trans Lw3
    replace b20 := Lw3.cell b20
    replace b21 := Lw3.cell b21
    replace b22 := Lw3.cell b22
    have z_b2 : w1.heap.size < w3.heap.size := World.block_lt_of_cell? _ _ b20
    replace i0 := i0.ext Lw3
    replace i1 := i1.ext Lw3
    replace i2 := i2.ext Lw3
    have s_w3 : w.heap.size ≤ w3.heap.size := Xw3.size
    clear xw3
    by_cases hc3 : (sumA mem b s t : Int) < (0 : Int)
    · go_wp2_with fail
      refine (specSumView_c mem (.slice p0 mem.length r0) b (.slice p1 s.length r1) (.slice p2 t.length r2) s t _ _ (i0.ext (by repeat (first | (with_reducible assumption) | (with_reducible refine Ext.setCell ?_ (by first | (simp; done) | (simp; omega) | omega) _) | (with_reducible apply Ext.alloc) | (with_reducible apply Ext.drew) | (with_reducible apply Ext.drewN) | (with_reducible exact Ext.refl _)))) _ _ (i1.ext (by repeat (first | (with_reducible assumption) | (with_reducible refine Ext.setCell ?_ (by first | (simp; done) | (simp; omega) | omega) _) | (with_reducible apply Ext.alloc) | (with_reducible apply Ext.drew) | (with_reducible apply Ext.drewN) | (with_reducible exact Ext.refl _)))) (i2.ext (by repeat (first | (with_reducible assumption) | (with_reducible refine Ext.setCell ?_ (by first | (simp; done) | (simp; omega) | omega) _) | (with_reducible apply Ext.alloc) | (with_reducible apply Ext.drew) | (with_reducible apply Ext.drewN) | (with_reducible exact Ext.refl _))))).mono ?_
      rintro e w4 ⟨rfl, xw4⟩
      have Lw4 : Ext w3 w4 := Ext.trans (by repeat (first | (with_reducible assumption) | (with_reducible refine Ext.setCell ?_ (by first | (simp; done) | (simp; omega) | omega) _) | (with_reducible apply Ext.alloc) | (with_reducible apply Ext.drew) | (with_reducible apply Ext.drewN) | (with_reducible exact Ext.refl _))) xw4
      have Xw4 : Ext w w4 := Xw3.trans Lw4
      replace b20 := Lw4.cell b20
      replace b21 := Lw4.cell b21
      replace b22 := Lw4.cell b22
      have z_b2 : w1.heap.size < w4.heap.size := World.block_lt_of_cell? _ _ b20
      replace i0 := i0.ext Lw4
      replace i1 := i1.ext Lw4
      replace i2 := i2.ext Lw4
      have s_w4 : w.heap.size ≤ w4.heap.size := Xw4.size
      clear xw4
      go_wp2_with fail
      go_ret
      exact ⟨rfl, (Xw4.trans (by repeat (first | (with_reducible assumption) | (with_reducible refine Ext.setCell ?_ (by first | (simp; done) | (simp; omega) | omega) _) | (with_reducible apply Ext.alloc) | (with_reducible apply Ext.drew) | (with_reducible apply Ext.drewN) | (with_reducible exact Ext.refl _))))⟩
    · obtain ⟨hl1, hl2, hl3, hl4⟩ := sum_law (sum_neg hc3)
      replace hl1 := Lib.hid hl1
      replace hl2 := Lib.hid hl2
      obtain ⟨R, hR⟩ : ∃ R, (upL s.length).reverse = R := ⟨_, rfl⟩
      rw [hR] at hl3 hl4
      obtain ⟨PS, hPS⟩ : ∃ x, takL s R = x := ⟨_, rfl⟩
      obtain ⟨PT, hPT⟩ : ∃ x, takL t R = x := ⟨_, rfl⟩
      rw [hPS, hPT] at hl3 hl4
      replace hl3 := Lib.hid hl3
      replace hl4 := Lib.hid hl4
      replace hR := Lib.hid hR
      clear hPS hPT
      go_wp2_with fail
      go_cut [6, 7] (fun s6 s7 wx => ∃ (g : Nat) (afv8u : Option Addr) (cfv8u : Nat) (afv8v : Option Addr) (cfv8v : Nat), s6 = .pointer (some ⟨g, 0, none⟩) ∧ s7 = .bool true ∧ Ext w3 wx ∧ w3.heap.size ≤ g ∧ wx.cell? ⟨g, 0, none⟩ = some (.int .i64 b) ∧ wx.cell? ⟨g, 1, none⟩ = some (.slice afv8u PS.length cfv8u) ∧ wx.cell? ⟨g, 2, none⟩ = some (.slice afv8v PT.length cfv8v) ∧ wx.frozen? ⟨g, 0, none⟩ = false ∧ wx.frozen? ⟨g, 1, none⟩ = false ∧ wx.frozen? ⟨g, 2, none⟩ = false ∧ Ints wx w3.heap.size (.slice afv8u PS.length cfv8u) PS ∧ Ints wx w3.heap.size (.slice afv8v PT.length cfv8v) PT)
      case first =>
        have BD7 : Ext w3 w3 := Ext.refl _
        refine wp_region_held_drew (S := fun w' => w'.cell? ⟨w1.heap.size, 0, none⟩ = some (.int .i64 b) ∧ w'.cell? ⟨w1.heap.size, 1, none⟩ = some (.slice p1 s.length r1) ∧ w'.cell? ⟨w1.heap.size, 2, none⟩ = some (.slice p2 t.length r2)) (by kernel_rfl) ⟨b20, b21, b22⟩ (fun hHeld => ?_)
        refine wpAnyH_take (i := 0) (v := ?_) rfl (by kernel_rfl) (by kernel_rfl) (by kernel_rfl) (fun _ _ _ h => h) (Or.inl ⟨by rfl, ?_⟩) (by assumption) ?_
        rotate_left
        · (intro w hSw; (try dsimp only at hSw); go_simp; try with_reducible rfl)
        try simp only [Act.put, List.setIfInBounds_toArray, List.set_cons_zero, List.set_cons_succ, List.getElem_toArray, List.getElem_cons_succ, List.getElem_cons_zero]
        refine wpAnyH_take (i := 1) (v := ?_) rfl (by kernel_rfl) (by kernel_rfl) (by kernel_rfl) (fun _ _ _ h => h) (Or.inl ⟨by rfl, ?_⟩) (by assumption) ?_
        rotate_left
        · (intro w hSw; (try dsimp only at hSw); go_simp; try with_reducible rfl)
        try simp only [Act.put, List.setIfInBounds_toArray, List.set_cons_zero, List.set_cons_succ, List.getElem_toArray, List.getElem_cons_succ, List.getElem_cons_zero]
        refine wpAnyH_take (i := 2) (v := ?_) rfl (by kernel_rfl) (by kernel_rfl) (by kernel_rfl) (fun _ _ _ h => h) (Or.inl ⟨by rfl, ?_⟩) (by assumption) ?_
        rotate_left
        · (intro w hSw; (try dsimp only at hSw); go_simp; try with_reducible rfl)
        try simp only [Act.put, List.setIfInBounds_toArray, List.set_cons_zero, List.set_cons_succ, List.getElem_toArray, List.getElem_cons_succ, List.getElem_cons_zero]
        refine wpAnyH_take (i := 3) (v := ?_) rfl (by kernel_rfl) (by kernel_rfl) (by kernel_rfl) (fun _ _ _ h => h) (Or.inl ⟨by rfl, ?_⟩) (by assumption) ?_
        rotate_left
        · (intro w hSw; (try dsimp only at hSw); go_simp; try with_reducible rfl)
        try simp only [Act.put, List.setIfInBounds_toArray, List.set_cons_zero, List.set_cons_succ, List.getElem_toArray, List.getElem_cons_succ, List.getElem_cons_zero]
        refine wpAnyH_ready (rs := [4, 10]) (by kernel_rfl) (by simp) ?_
        refine AllReadyH.cons rfl (fun K hK => ?_) (AllReadyH.cons rfl (fun K hK => ?_) AllReadyH.nil)
        · try simp only [Act.put, List.setIfInBounds_toArray, List.set_cons_zero, List.set_cons_succ, List.getElem_toArray, List.getElem_cons_succ, List.getElem_cons_zero]
          go_simp
          refine (lupTo_c s.length _ (by omega)).mono ?_
          rintro e w4 ⟨fv4, rfl, i5, -, xw4⟩
          have Lw4 : Ext w3 w4 := Ext.trans (by repeat (first | (with_reducible assumption) | (with_reducible refine Ext.setCell ?_ (by first | (simp; done) | (simp; omega) | omega) _) | (with_reducible apply Ext.alloc) | (with_reducible apply Ext.drew) | (with_reducible apply Ext.drewN) | (with_reducible exact Ext.refl _))) xw4
          have Xw4 : Ext w w4 := Xw3.trans Lw4
          replace b20 := Lw4.cell b20
          replace b21 := Lw4.cell b21
          replace b22 := Lw4.cell b22
          have z_b2 : w1.heap.size < w4.heap.size := World.block_lt_of_cell? _ _ b20
          replace i0 := i0.ext Lw4
          replace i1 := i1.ext Lw4
          replace i2 := i2.ext Lw4
          have s_w4 : w.heap.size ≤ w4.heap.size := Xw4.size
          have BD7_w4 : Ext w3 w4 := BD7.trans Lw4
          clear xw4
          try simp only [World.size_alloc, World.size_drew] at i5
          obtain ⟨afv4, cfv4, rfl⟩ := i5.form
          have zD_w4 := (BD7_w4).size
          refine hK.out _ _ ⟨b20, b21, b22⟩ (fun hHeld => ?_)
          clear hK K
          try simp only [Act.put, List.setIfInBounds_toArray, List.set_cons_zero, List.set_cons_succ, List.getElem_toArray, List.getElem_cons_succ, List.getElem_cons_zero]
          refine wpAnyH_ready (rs := [5, 10]) (by kernel_rfl) (by simp) ?_
          refine AllReadyH.cons rfl (fun K hK => ?_) (AllReadyH.cons rfl (fun K hK => ?_) AllReadyH.nil)
          · try simp only [Act.put, List.setIfInBounds_toArray, List.set_cons_zero, List.set_cons_succ, List.getElem_toArray, List.getElem_cons_succ, List.getElem_cons_zero]
            go_simp
            refine (pi_eq hR.out (back_c (upL s.length) (.slice afv4 ((upL s.length).length) cfv4) _ _ (i5.ext (by repeat (first | (with_reducible assumption) | (with_reducible refine Ext.setCell ?_ (by first | (simp; done) | (simp; omega) | omega) _) | (with_reducible apply Ext.alloc) | (with_reducible apply Ext.drew) | (with_reducible apply Ext.drewN) | (with_reducible exact Ext.refl _)))))).mono ?_
            rintro e w5 ⟨fv6, rfl, i7, -, xw5⟩
            have Lw5 : Ext w4 w5 := Ext.trans (by repeat (first | (with_reducible assumption) | (with_reducible refine Ext.setCell ?_ (by first | (simp; done) | (simp; omega) | omega) _) | (with_reducible apply Ext.alloc) | (with_reducible apply Ext.drew) | (with_reducible apply Ext.drewN) | (with_reducible exact Ext.refl _))) xw5
            have Xw5 : Ext w w5 := Xw4.trans Lw5
            replace b20 := Lw5.cell b20
            replace b21 := Lw5.cell b21
            replace b22 := Lw5.cell b22
            have z_b2 : w1.heap.size < w5.heap.size := World.block_lt_of_cell? _ _ b20
            replace i0 := i0.ext Lw5
            replace i1 := i1.ext Lw5
            replace i2 := i2.ext Lw5
            replace i5 := i5.ext Lw5
            have s_w5 : w.heap.size ≤ w5.heap.size := Xw5.size
            have BD7_w5 : Ext w3 w5 := BD7_w4.trans Lw5
            clear xw5
            try simp only [World.size_alloc, World.size_drew] at i7
            obtain ⟨afv6, cfv6, rfl⟩ := i7.form
            have zD_w5 := (BD7_w5).size
            refine hK.out _ _ ⟨b20, b21, b22⟩ (fun hHeld => ?_)
            clear hK K
            try simp only [Act.put, List.setIfInBounds_toArray, List.set_cons_zero, List.set_cons_succ, List.getElem_toArray, List.getElem_cons_succ, List.getElem_cons_zero]
            refine wpAnyH_ready (rs := [6, 10]) (by kernel_rfl) (by simp) ?_
            refine AllReadyH.cons rfl (fun K hK => ?_) (AllReadyH.cons rfl (fun K hK => ?_) AllReadyH.nil)
            · try simp only [Act.put, List.setIfInBounds_toArray, List.set_cons_zero, List.set_cons_succ, List.getElem_toArray, List.getElem_cons_succ, List.getElem_cons_zero]
              go_simp
              refine (pv_eq hl3.out (implPermuteDims_c b (.slice p1 s.length r1) (.slice p2 t.length r2) s t (.slice afv6 R.length cfv6) R _ _ _ (i1.ext (by repeat (first | (with_reducible assumption) | (with_reducible refine Ext.setCell ?_ (by first | (simp; done) | (simp; omega) | omega) _) | (with_reducible apply Ext.alloc) | (with_reducible apply Ext.drew) | (with_reducible apply Ext.drewN) | (with_reducible exact Ext.refl _)))) (i2.ext (by repeat (first | (with_reducible assumption) | (with_reducible refine Ext.setCell ?_ (by first | (simp; done) | (simp; omega) | omega) _) | (with_reducible apply Ext.alloc) | (with_reducible apply Ext.drew) | (with_reducible apply Ext.drewN) | (with_reducible exact Ext.refl _)))) _ (i7.ext (by repeat (first | (with_reducible assumption) | (with_reducible refine Ext.setCell ?_ (by first | (simp; done) | (simp; omega) | omega) _) | (with_reducible apply Ext.alloc) | (with_reducible apply Ext.drew) | (with_reducible apply Ext.drewN) | (with_reducible exact Ext.refl _)))))).mono ?_
              rintro e w6 ⟨fv8u, fv8v, rfl, i9u, i9v, -, -, -, xw6⟩
              have Lw6 : Ext w5 w6 := Ext.trans (by repeat (first | (with_reducible assumption) | (with_reducible refine Ext.setCell ?_ (by first | (simp; done) | (simp; omega) | omega) _) | (with_reducible apply Ext.alloc) | (with_reducible apply Ext.drew) | (with_reducible apply Ext.drewN) | (with_reducible exact Ext.refl _))) xw6
              have Xw6 : Ext w w6 := Xw5.trans Lw6
              replace b20 := Lw6.cell b20
              replace b21 := Lw6.cell b21
              replace b22 := Lw6.cell b22
              have z_b2 : w1.heap.size < w6.heap.size := World.block_lt_of_cell? _ _ b20
              replace i0 := i0.ext Lw6
              replace i1 := i1.ext Lw6
              replace i2 := i2.ext Lw6
              replace i5 := i5.ext Lw6
              replace i7 := i7.ext Lw6
              have s_w6 : w.heap.size ≤ w6.heap.size := Xw6.size
              have BD7_w6 : Ext w3 w6 := BD7_w5.trans Lw6
              clear xw6
              try simp only [World.size_alloc, World.size_drew] at i9u i9v
              obtain ⟨afv8u, cfv8u, rfl⟩ := i9u.form
              obtain ⟨afv8v, cfv8v, rfl⟩ := i9v.form
              have zD_w6 := (BD7_w6).size
              refine hK.out _ _ ⟨b20, b21, b22⟩ (fun hHeld => ?_)
              clear hK K
              try simp only [Act.put, List.setIfInBounds_toArray, List.set_cons_zero, List.set_cons_succ, List.getElem_toArray, List.getElem_cons_succ, List.getElem_cons_zero]
              refine wpAnyH_take (i := 7) (v := ?_) rfl (by kernel_rfl) (by kernel_rfl) (by kernel_rfl) (fun _ _ _ h => h) (Or.inl ⟨by rfl, ?_⟩) (by assumption) ?_
              rotate_left
              · (intro w hSw; (try dsimp only at hSw); go_simp; try with_reducible rfl)
              try simp only [Act.put, List.setIfInBounds_toArray, List.set_cons_zero, List.set_cons_succ, List.getElem_toArray, List.getElem_cons_succ, List.getElem_cons_zero]
              refine wpAnyH_take (i := 8) (v := ?_) rfl (by kernel_rfl) (by kernel_rfl) (by kernel_rfl) (fun _ _ _ h => h) (Or.inl ⟨by rfl, ?_⟩) (by assumption) ?_
              rotate_left
              · (intro w hSw; (try dsimp only at hSw); go_simp; try with_reducible rfl)
              try simp only [Act.put, List.setIfInBounds_toArray, List.set_cons_zero, List.set_cons_succ, List.getElem_toArray, List.getElem_cons_succ, List.getElem_cons_zero]
              refine wpAnyH_take (i := 9) (v := ?_) rfl (by kernel_rfl) (by kernel_rfl) (by kernel_rfl) (fun _ _ _ h => h) (Or.inl ⟨by rfl, ?_⟩) (by assumption) ?_
              rotate_left
              · (intro w hSw; (try dsimp only at hSw); go_simp; try with_reducible rfl)
              try simp only [Act.put, List.setIfInBounds_toArray, List.set_cons_zero, List.set_cons_succ, List.getElem_toArray, List.getElem_cons_succ, List.getElem_cons_zero]
              refine wpAnyH_ready (rs := [10]) (by kernel_rfl) (by simp) ?_
              refine AllReadyH.cons rfl (fun K hK => ?_) AllReadyH.nil
              try simp only [Act.put, List.setIfInBounds_toArray, List.set_cons_zero, List.set_cons_succ, List.getElem_toArray, List.getElem_cons_succ, List.getElem_cons_zero]
              go_simp
              have Q10_b20 := Lib.hid b20
              have Q10_b21 := Lib.hid b21
              have Q10_b22 := Lib.hid b22
              have Q10_zb2 := z_b2
              have Q10_i0 := Lib.hid i0
              have Q10_i1 := Lib.hid i1
              have Q10_i2 := Lib.hid i2
              have Q10_i5 := Lib.hid i5
              have Q10_i7 := Lib.hid i7
              have Q10_i9u := Lib.hid i9u
              have Q10_i9v := Lib.hid i9v
              have BL11 : Ext w6 w6 := Ext.refl _
              refine hK.out _ _ ⟨(show Ext w6 _ from (by repeat (first | (with_reducible assumption) | (with_reducible refine Ext.setCell ?_ (by first | (simp; done) | (simp; omega) | omega) _) | (with_reducible apply Ext.alloc) | (with_reducible apply Ext.drew) | (with_reducible apply Ext.drewN) | (with_reducible exact Ext.refl _)))).cell b20, (show Ext w6 _ from (by repeat (first | (with_reducible assumption) | (with_reducible refine Ext.setCell ?_ (by first | (simp; done) | (simp; omega) | omega) _) | (with_reducible apply Ext.alloc) | (with_reducible apply Ext.drew) | (with_reducible apply Ext.drewN) | (with_reducible exact Ext.refl _)))).cell b21, (show Ext w6 _ from (by repeat (first | (with_reducible assumption) | (with_reducible refine Ext.setCell ?_ (by first | (simp; done) | (simp; omega) | omega) _) | (with_reducible apply Ext.alloc) | (with_reducible apply Ext.drew) | (with_reducible apply Ext.drewN) | (with_reducible exact Ext.refl _)))).cell b22⟩ (fun hHeld => ?_)
              clear hK K
              try simp only [Act.put, List.setIfInBounds_toArray, List.set_cons_zero, List.set_cons_succ, List.getElem_toArray, List.getElem_cons_succ, List.getElem_cons_zero]
              refine wpAnyH_ready (rs := [11]) (by kernel_rfl) (by simp) ?_
              refine AllReadyH.cons rfl (fun K hK => ?_) AllReadyH.nil
              try simp only [Act.put, List.setIfInBounds_toArray, List.set_cons_zero, List.set_cons_succ, List.getElem_toArray, List.getElem_cons_succ, List.getElem_cons_zero]
              go_simp
              have Lw7 : Ext w6 (w6.alloc (.cells #[.int .i64 b, .slice afv8u PS.length cfv8u, .slice afv8v PT.length cfv8v] 25)) := (by repeat (first | (with_reducible assumption) | (with_reducible refine Ext.setCell ?_ (by first | (simp; done) | (simp; omega) | omega) _) | (with_reducible apply Ext.alloc) | (with_reducible apply Ext.drew) | (with_reducible apply Ext.drewN) | (with_reducible exact Ext.refl _)))
              have Xw7 : Ext w (w6.alloc (.cells #[.int .i64 b, .slice afv8u PS.length cfv8u, .slice afv8v PT.length cfv8v] 25)) := Xw6.trans Lw7
              replace b20 := Lw7.cell b20
              replace b21 := Lw7.cell b21
              replace b22 := Lw7.cell b22
              have b120 : (w6.alloc (.cells #[.int .i64 b, .slice afv8u PS.length cfv8u, .slice afv8v PT.length cfv8v] 25)).cell? ⟨w6.heap.size, 0, none⟩ = some (.int .i64 b) := (by first | (simp; done) | ((repeat rw [World.cell?_alloc_lt _ _ _ (by simp <;> omega)]); simp; done) | (go_simp; done))
              have b121 : (w6.alloc (.cells #[.int .i64 b, .slice afv8u PS.length cfv8u, .slice afv8v PT.length cfv8v] 25)).cell? ⟨w6.heap.size, 1, none⟩ = some (.slice afv8u PS.length cfv8u) := (by first | (simp; done) | ((repeat rw [World.cell?_alloc_lt _ _ _ (by simp <;> omega)]); simp; done) | (go_simp; done))
              have b122 : (w6.alloc (.cells #[.int .i64 b, .slice afv8u PS.length cfv8u, .slice afv8v PT.length cfv8v] 25)).cell? ⟨w6.heap.size, 2, none⟩ = some (.slice afv8v PT.length cfv8v) := (by first | (simp; done) | ((repeat rw [World.cell?_alloc_lt _ _ _ (by simp <;> omega)]); simp; done) | (go_simp; done))
              have f_b120 : (w6.alloc (.cells #[.int .i64 b, .slice afv8u PS.length cfv8u, .slice afv8v PT.length cfv8v] 25)).frozen? ⟨w6.heap.size, 0, none⟩ = false := (by first | (simp; done) | (go_simp; done))
              have f_b121 : (w6.alloc (.cells #[.int .i64 b, .slice afv8u PS.length cfv8u, .slice afv8v PT.length cfv8v] 25)).frozen? ⟨w6.heap.size, 1, none⟩ = false := (by first | (simp; done) | (go_simp; done))
              have f_b122 : (w6.alloc (.cells #[.int .i64 b, .slice afv8u PS.length cfv8u, .slice afv8v PT.length cfv8v] 25)).frozen? ⟨w6.heap.size, 2, none⟩ = false := (by first | (simp; done) | (go_simp; done))
              have z_b2 : w1.heap.size < (w6.alloc (.cells #[.int .i64 b, .slice afv8u PS.length cfv8u, .slice afv8v PT.length cfv8v] 25)).heap.size := World.block_lt_of_cell? _ _ b20
              have z_b12 : w6.heap.size < (w6.alloc (.cells #[.int .i64 b, .slice afv8u PS.length cfv8u, .slice afv8v PT.length cfv8v] 25)).heap.size := World.block_lt_of_cell? _ _ b120
              replace i0 := i0.ext Lw7
              replace i1 := i1.ext Lw7
              replace i2 := i2.ext Lw7
              replace i5 := i5.ext Lw7
              replace i7 := i7.ext Lw7
              replace i9u := i9u.ext Lw7
              replace i9v := i9v.ext Lw7
              have s_w7 : w.heap.size ≤ (w6.alloc (.cells #[.int .i64 b, .slice afv8u PS.length cfv8u, .slice afv8v PT.length cfv8v] 25)).heap.size := Xw7.size
              have BD7_w7 : Ext w3 (w6.alloc (.cells #[.int .i64 b, .slice afv8u PS.length cfv8u, .slice afv8v PT.length cfv8v] 25)) := BD7_w6.trans Lw7
              have BL11_w7 : Ext w6 (w6.alloc (.cells #[.int .i64 b, .slice afv8u PS.length cfv8u, .slice afv8v PT.length cfv8v] 25)) := BL11.trans Lw7
              generalize w6.alloc (.cells #[.int .i64 b, .slice afv8u PS.length cfv8u, .slice afv8v PT.length cfv8v] 25) = w7 at *
              refine hK.out _ _ ⟨b20, b21, b22⟩ (fun hHeld => ?_)
              clear hK K
              try simp only [Act.put, List.setIfInBounds_toArray, List.set_cons_zero, List.set_cons_succ, List.getElem_toArray, List.getElem_cons_succ, List.getElem_cons_zero]
              refine wpAnyH_take (i := 12) (v := ?_) rfl (by kernel_rfl) (by kernel_rfl) (by kernel_rfl) (fun _ _ _ h => h) (Or.inl ⟨by rfl, ?_⟩) (by assumption) ?_
              rotate_left
              · (intro w hSw; (try dsimp only at hSw); go_simp; try with_reducible rfl)
              try simp only [Act.put, List.setIfInBounds_toArray, List.set_cons_zero, List.set_cons_succ, List.getElem_toArray, List.getElem_cons_succ, List.getElem_cons_zero]
              refine wpAnyH_done (by kernel_rfl) ?_ _
              clear hHeld
              go_step
              go_step
              go_meet
              case rel => exact ⟨_, _, _, _, _, rfl, rfl, BD7_w7, (by omega), b120, b121, b122, f_b120, f_b121, f_b122, i9u.lower (by omega), i9v.lower (by omega)⟩
            · try simp only [Act.put, List.setIfInBounds_toArray, List.set_cons_zero, List.set_cons_succ, List.getElem_toArray, List.getElem_cons_succ, List.getElem_cons_zero]
              go_simp
              have Q13_b20 := Lib.hid b20
              have Q13_b21 := Lib.hid b21
              have Q13_b22 := Lib.hid b22
              have Q13_zb2 := z_b2
              have Q13_i0 := Lib.hid i0
              have Q13_i1 := Lib.hid i1
              have Q13_i2 := Lib.hid i2
              have Q13_i5 := Lib.hid i5
              have Q13_i7 := Lib.hid i7
              have BL14 : Ext w5 w5 := Ext.refl _
              refine hK.out _ _ ⟨(show Ext w5 _ from (by repeat (first | (with_reducible assumption) | (with_reducible refine Ext.setCell ?_ (by first | (simp; done) | (simp; omega) | omega) _) | (with_reducible apply Ext.alloc) | (with_reducible apply Ext.drew) | (with_reducible apply Ext.drewN) | (with_reducible exact Ext.refl _)))).cell b20, (show Ext w5 _ from (by repeat (first | (with_reducible assumption) | (with_reducible refine Ext.setCell ?_ (by first | (simp; done) | (simp; omega) | omega) _) | (with_reducible apply Ext.alloc) | (with_reducible apply Ext.drew) | (with_reducible apply Ext.drewN) | (with_reducible exact Ext.refl _)))).cell b21, (show Ext w5 _ from (by repeat (first | (with_reducible assumption) | (with_reducible refine Ext.setCell ?_ (by first | (simp; done) | (simp; omega) | omega) _) | (with_reducible apply Ext.alloc) | (with_reducible apply Ext.drew) | (with_reducible apply Ext.drewN) | (with_reducible exact Ext.refl _)))).cell b22⟩ (fun hHeld => ?_)
              clear hK K
              try simp only [Act.put, List.setIfInBounds_toArray, List.set_cons_zero, List.set_cons_succ, List.getElem_toArray, List.getElem_cons_succ, List.getElem_cons_zero]
              refine wpAnyH_ready (rs := [6]) (by kernel_rfl) (by simp) ?_
              refine AllReadyH.cons rfl (fun K hK => ?_) AllReadyH.nil
              try simp only [Act.put, List.setIfInBounds_toArray, List.set_cons_zero, List.set_cons_succ, List.getElem_toArray, List.getElem_cons_succ, List.getElem_cons_zero]
              go_simp
              refine (pv_eq hl3.out (implPermuteDims_c b (.slice p1 s.length r1) (.slice p2 t.length r2) s t (.slice afv6 R.length cfv6) R _ _ _ (i1.ext (by repeat (first | (with_reducible assumption) | (with_reducible refine Ext.setCell ?_ (by first | (simp; done) | (simp; omega) | omega) _) | (with_reducible apply Ext.alloc) | (with_reducible apply Ext.drew) | (with_reducible apply Ext.drewN) | (with_reducible exact Ext.refl _)))) (i2.ext (by repeat (first | (with_reducible assumption) | (with_reducible refine Ext.setCell ?_ (by first | (simp; done) | (simp; omega) | omega) _) | (with_reducible apply Ext.alloc) | (with_reducible apply Ext.drew) | (with_reducible apply Ext.drewN) | (with_reducible exact Ext.refl _)))) _ (i7.ext (by repeat (first | (with_reducible assumption) | (with_reducible refine Ext.setCell ?_ (by first | (simp; done) | (simp; omega) | omega) _) | (with_reducible apply Ext.alloc) | (with_reducible apply Ext.drew) | (with_reducible apply Ext.drewN) | (with_reducible exact Ext.refl _)))))).mono ?_
              rintro e w6 ⟨fv16u, fv16v, rfl, i17u, i17v, -, -, -, xw6⟩
              have Lw6 : Ext w5 w6 := Ext.trans (by repeat (first | (with_reducible assumption) | (with_reducible refine Ext.setCell ?_ (by first | (simp; done) | (simp; omega) | omega) _) | (with_reducible apply Ext.alloc) | (with_reducible apply Ext.drew) | (with_reducible apply Ext.drewN) | (with_reducible exact Ext.refl _))) xw6
              have Xw6 : Ext w w6 := Xw5.trans Lw6
              replace b20 := Lw6.cell b20
              replace b21 := Lw6.cell b21
              replace b22 := Lw6.cell b22
              have b150 : w6.cell? ⟨w5.heap.size, 0, none⟩ = some (.int .i64 0) := xw6.cell (by first | (simp; done) | ((repeat rw [World.cell?_alloc_lt _ _ _ (by simp <;> omega)]); simp; done) | (go_simp; done))
              have b151 : w6.cell? ⟨w5.heap.size, 1, none⟩ = some (.slice none 0 0) := xw6.cell (by first | (simp; done) | ((repeat rw [World.cell?_alloc_lt _ _ _ (by simp <;> omega)]); simp; done) | (go_simp; done))
              have b152 : w6.cell? ⟨w5.heap.size, 2, none⟩ = some (.slice none 0 0) := xw6.cell (by first | (simp; done) | ((repeat rw [World.cell?_alloc_lt _ _ _ (by simp <;> omega)]); simp; done) | (go_simp; done))
              have f_b150 : w6.frozen? ⟨w5.heap.size, 0, none⟩ = false := xw6.frz (by simp <;> omega) (by first | (simp; done) | (go_simp; done))
              have f_b151 : w6.frozen? ⟨w5.heap.size, 1, none⟩ = false := xw6.frz (by simp <;> omega) (by first | (simp; done) | (go_simp; done))
              have f_b152 : w6.frozen? ⟨w5.heap.size, 2, none⟩ = false := xw6.frz (by simp <;> omega) (by first | (simp; done) | (go_simp; done))
              have z_b2 : w1.heap.size < w6.heap.size := World.block_lt_of_cell? _ _ b20
              have z_b15 : w5.heap.size < w6.heap.size := World.block_lt_of_cell? _ _ b150
              replace i0 := i0.ext Lw6
              replace i1 := i1.ext Lw6
              replace i2 := i2.ext Lw6
              replace i5 := i5.ext Lw6
              replace i7 := i7.ext Lw6
              have s_w6 : w.heap.size ≤ w6.heap.size := Xw6.size
              have BD7_w6 : Ext w3 w6 := BD7_w5.trans Lw6
              have BL14_w6 : Ext w5 w6 := BL14.trans Lw6
              clear xw6
              try simp only [World.size_alloc, World.size_drew] at i17u i17v
              obtain ⟨afv16u, cfv16u, rfl⟩ := i17u.form
              obtain ⟨afv16v, cfv16v, rfl⟩ := i17v.form
              have zD_w6 := (BD7_w6).size
              refine hK.out _ _ ⟨b20, b21, b22⟩ (fun hHeld => ?_)
              clear hK K
              try simp only [Act.put, List.setIfInBounds_toArray, List.set_cons_zero, List.set_cons_succ, List.getElem_toArray, List.getElem_cons_succ, List.getElem_cons_zero]
              refine wpAnyH_take (i := 7) (v := ?_) rfl (by kernel_rfl) (by kernel_rfl) (by kernel_rfl) (fun _ _ _ h => h) (Or.inl ⟨by rfl, ?_⟩) (by assumption) ?_
              rotate_left
              · (intro w hSw; (try dsimp only at hSw); go_simp; try with_reducible rfl)
              try simp only [Act.put, List.setIfInBounds_toArray, List.set_cons_zero, List.set_cons_succ, List.getElem_toArray, List.getElem_cons_succ, List.getElem_cons_zero]
              refine wpAnyH_take (i := 8) (v := ?_) rfl (by kernel_rfl) (by kernel_rfl) (by kernel_rfl) (fun _ _ _ h => h) (Or.inl ⟨by rfl, ?_⟩) (by assumption) ?_
              rotate_left
              · (intro w hSw; (try dsimp only at hSw); go_simp; try with_reducible rfl)
              try simp only [Act.put, List.setIfInBounds_toArray, List.set_cons_zero, List.set_cons_succ, List.getElem_toArray, List.getElem_cons_succ, List.getElem_cons_zero]
              refine wpAnyH_take (i := 9) (v := ?_) rfl (by kernel_rfl) (by kernel_rfl) (by kernel_rfl) (fun _ _ _ h => h) (Or.inl ⟨by rfl, ?_⟩) (by assumption) ?_
              rotate_left
              · (intro w hSw; (try dsimp only at hSw); go_simp; try with_reducible rfl)
              try simp only [Act.put, List.setIfInBounds_toArray, List.set_cons_zero, List.set_cons_succ, List.getElem_toArray, List.getElem_cons_succ, List.getElem_cons_zero]
              refine wpAnyH_ready (rs := [11]) (by kernel_rfl) (by simp) ?_
              refine AllReadyH.cons rfl (fun K hK => ?_) AllReadyH.nil
              try simp only [Act.put, List.setIfInBounds_toArray, List.set_cons_zero, List.set_cons_succ, List.getElem_toArray, List.getElem_cons_succ, List.getElem_cons_zero]
              go_simp
              have Kw7 : Chg (w5.heap.size) (w5.heap.size + 1) w6 (((w6.setCell ⟨w5.heap.size, 0, none⟩ (.int .i64 b)).setCell ⟨w5.heap.size, 1, none⟩ (.slice afv16u PS.length cfv16u)).setCell ⟨w5.heap.size, 2, none⟩ (.slice afv16v PT.length cfv16v)) := (Chg.setCell (p := ⟨w5.heap.size, 2, none⟩) (Chg.setCell (p := ⟨w5.heap.size, 1, none⟩) (Chg.setCell (p := ⟨w5.heap.size, 0, none⟩) (Chg.refl (w5.heap.size) (w5.heap.size + 1) _) (Nat.le_refl _) (Nat.lt_succ_self _) (.int .i64 b)) (Nat.le_refl _) (Nat.lt_succ_self _) (.slice afv16u PS.length cfv16u)) (Nat.le_refl _) (Nat.lt_succ_self _) (.slice afv16v PT.length cfv16v))
              have Xw7 : Ext w (((w6.setCell ⟨w5.heap.size, 0, none⟩ (.int .i64 b)).setCell ⟨w5.heap.size, 1, none⟩ (.slice afv16u PS.length cfv16u)).setCell ⟨w5.heap.size, 2, none⟩ (.slice afv16v PT.length cfv16v)) := (Ext.setCell (p := ⟨w5.heap.size, 2, none⟩) (Ext.setCell (p := ⟨w5.heap.size, 1, none⟩) (Ext.setCell (p := ⟨w5.heap.size, 0, none⟩) Xw6 (by first | (simp; done) | (simp; omega) | omega) (.int .i64 b)) (by first | (simp; done) | (simp; omega) | omega) (.slice afv16u PS.length cfv16u)) (by first | (simp; done) | (simp; omega) | omega) (.slice afv16v PT.length cfv16v))
              have BD7_w7 : Ext w3 (((w6.setCell ⟨w5.heap.size, 0, none⟩ (.int .i64 b)).setCell ⟨w5.heap.size, 1, none⟩ (.slice afv16u PS.length cfv16u)).setCell ⟨w5.heap.size, 2, none⟩ (.slice afv16v PT.length cfv16v)) := (Ext.setCell (p := ⟨w5.heap.size, 2, none⟩) (Ext.setCell (p := ⟨w5.heap.size, 1, none⟩) (Ext.setCell (p := ⟨w5.heap.size, 0, none⟩) BD7_w6 (by first | (simp; done) | (simp; omega) | omega) (.int .i64 b)) (by first | (simp; done) | (simp; omega) | omega) (.slice afv16u PS.length cfv16u)) (by first | (simp; done) | (simp; omega) | omega) (.slice afv16v PT.length cfv16v))
              have BL14_w7 : Ext w5 (((w6.setCell ⟨w5.heap.size, 0, none⟩ (.int .i64 b)).setCell ⟨w5.heap.size, 1, none⟩ (.slice afv16u PS.length cfv16u)).setCell ⟨w5.heap.size, 2, none⟩ (.slice afv16v PT.length cfv16v)) := (Ext.setCell (p := ⟨w5.heap.size, 2, none⟩) (Ext.setCell (p := ⟨w5.heap.size, 1, none⟩) (Ext.setCell (p := ⟨w5.heap.size, 0, none⟩) BL14_w6 (by first | (simp; done) | (simp; omega) | omega) (.int .i64 b)) (by first | (simp; done) | (simp; omega) | omega) (.slice afv16u PS.length cfv16u)) (by first | (simp; done) | (simp; omega) | omega) (.slice afv16v PT.length cfv16v))
              replace b20 := BL14_w7.cell Q13_b20.out
              replace b21 := BL14_w7.cell Q13_b21.out
              replace b22 := BL14_w7.cell Q13_b22.out
              have n_b150 : (((w6.setCell ⟨w5.heap.size, 0, none⟩ (.int .i64 b)).setCell ⟨w5.heap.size, 1, none⟩ (.slice afv16u PS.length cfv16u)).setCell ⟨w5.heap.size, 2, none⟩ (.slice afv16v PT.length cfv16v)).cell? ⟨w5.heap.size, 0, none⟩ = some (.int .i64 b) := by go_simp
              have n_f_b150 : (((w6.setCell ⟨w5.heap.size, 0, none⟩ (.int .i64 b)).setCell ⟨w5.heap.size, 1, none⟩ (.slice afv16u PS.length cfv16u)).setCell ⟨w5.heap.size, 2, none⟩ (.slice afv16v PT.length cfv16v)).frozen? ⟨w5.heap.size, 0, none⟩ = false := by go_simp
              have n_b151 : (((w6.setCell ⟨w5.heap.size, 0, none⟩ (.int .i64 b)).setCell ⟨w5.heap.size, 1, none⟩ (.slice afv16u PS.length cfv16u)).setCell ⟨w5.heap.size, 2, none⟩ (.slice afv16v PT.length cfv16v)).cell? ⟨w5.heap.size, 1, none⟩ = some (.slice afv16u PS.length cfv16u) := by go_simp
              have n_f_b151 : (((w6.setCell ⟨w5.heap.size, 0, none⟩ (.int .i64 b)).setCell ⟨w5.heap.size, 1, none⟩ (.slice afv16u PS.length cfv16u)).setCell ⟨w5.heap.size, 2, none⟩ (.slice afv16v PT.length cfv16v)).frozen? ⟨w5.heap.size, 1, none⟩ = false := by go_simp
              have n_b152 : (((w6.setCell ⟨w5.heap.size, 0, none⟩ (.int .i64 b)).setCell ⟨w5.heap.size, 1, none⟩ (.slice afv16u PS.length cfv16u)).setCell ⟨w5.heap.size, 2, none⟩ (.slice afv16v PT.length cfv16v)).cell? ⟨w5.heap.size, 2, none⟩ = some (.slice afv16v PT.length cfv16v) := by go_simp
              have n_f_b152 : (((w6.setCell ⟨w5.heap.size, 0, none⟩ (.int .i64 b)).setCell ⟨w5.heap.size, 1, none⟩ (.slice afv16u PS.length cfv16u)).setCell ⟨w5.heap.size, 2, none⟩ (.slice afv16v PT.length cfv16v)).frozen? ⟨w5.heap.size, 2, none⟩ = false := by go_simp
              replace b150 := n_b150
              clear n_b150
              replace f_b150 := n_f_b150
              clear n_f_b150
              replace b151 := n_b151
              clear n_b151
              replace f_b151 := n_f_b151
              clear n_f_b151
              replace b152 := n_b152
              clear n_b152
              replace f_b152 := n_f_b152
              clear n_f_b152
              replace i0 := (Q13_i0.out).ext BL14_w7
              replace i1 := (Q13_i1.out).ext BL14_w7
              replace i2 := (Q13_i2.out).ext BL14_w7
              replace i5 := (Q13_i5.out).ext BL14_w7
              replace i7 := (Q13_i7.out).ext BL14_w7
              replace i17u := i17u.chg Kw7 (by omega)
              replace i17v := i17v.chg Kw7 (by omega)
              clear Kw7
              have z_b2 : w1.heap.size < (((w6.setCell ⟨w5.heap.size, 0, none⟩ (.int .i64 b)).setCell ⟨w5.heap.size, 1, none⟩ (.slice afv16u PS.length cfv16u)).setCell ⟨w5.heap.size, 2, none⟩ (.slice afv16v PT.length cfv16v)).heap.size := World.block_lt_of_cell? _ _ b20
              have z_b15 : w5.heap.size < (((w6.setCell ⟨w5.heap.size, 0, none⟩ (.int .i64 b)).setCell ⟨w5.heap.size, 1, none⟩ (.slice afv16u PS.length cfv16u)).setCell ⟨w5.heap.size, 2, none⟩ (.slice afv16v PT.length cfv16v)).heap.size := World.block_lt_of_cell? _ _ b150
              have s_w7 : w.heap.size ≤ (((w6.setCell ⟨w5.heap.size, 0, none⟩ (.int .i64 b)).setCell ⟨w5.heap.size, 1, none⟩ (.slice afv16u PS.length cfv16u)).setCell ⟨w5.heap.size, 2, none⟩ (.slice afv16v PT.length cfv16v)).heap.size := Xw7.size
              generalize (((w6.setCell ⟨w5.heap.size, 0, none⟩ (.int .i64 b)).setCell ⟨w5.heap.size, 1, none⟩ (.slice afv16u PS.length cfv16u)).setCell ⟨w5.heap.size, 2, none⟩ (.slice afv16v PT.length cfv16v)) = w7 at *
              refine hK.out _ _ ⟨b20, b21, b22⟩ (fun hHeld => ?_)
              clear hK K
              try simp only [Act.put, List.setIfInBounds_toArray, List.set_cons_zero, List.set_cons_succ, List.getElem_toArray, List.getElem_cons_succ, List.getElem_cons_zero]
              refine wpAnyH_take (i := 12) (v := ?_) rfl (by kernel_rfl) (by kernel_rfl) (by kernel_rfl) (fun _ _ _ h => h) (Or.inl ⟨by rfl, ?_⟩) (by assumption) ?_
              rotate_left
              · (intro w hSw; (try dsimp only at hSw); go_simp; try with_reducible rfl)
              try simp only [Act.put, List.setIfInBounds_toArray, List.set_cons_zero, List.set_cons_succ, List.getElem_toArray, List.getElem_cons_succ, List.getElem_cons_zero]
              refine wpAnyH_done (by kernel_rfl) ?_ _
              clear hHeld
              go_step
              go_step
              go_meet
              case rel => exact ⟨_, _, _, _, _, rfl, rfl, BD7_w7, (by omega), b150, b151, b152, f_b150, f_b151, f_b152, i17u.lower (by omega), i17v.lower (by omega)⟩
          · try simp only [Act.put, List.setIfInBounds_toArray, List.set_cons_zero, List.set_cons_succ, List.getElem_toArray, List.getElem_cons_succ, List.getElem_cons_zero]
            go_simp
            have Q18_b20 := Lib.hid b20
            have Q18_b21 := Lib.hid b21
            have Q18_b22 := Lib.hid b22
            have Q18_zb2 := z_b2
            have Q18_i0 := Lib.hid i0
            have Q18_i1 := Lib.hid i1
            have Q18_i2 := Lib.hid i2
            have Q18_i5 := Lib.hid i5
            have BL19 : Ext w4 w4 := Ext.refl _
            refine hK.out _ _ ⟨(show Ext w4 _ from (by repeat (first | (with_reducible assumption) | (with_reducible refine Ext.setCell ?_ (by first | (simp; done) | (simp; omega) | omega) _) | (with_reducible apply Ext.alloc) | (with_reducible apply Ext.drew) | (with_reducible apply Ext.drewN) | (with_reducible exact Ext.refl _)))).cell b20, (show Ext w4 _ from (by repeat (first | (with_reducible assumption) | (with_reducible refine Ext.setCell ?_ (by first | (simp; done) | (simp; omega) | omega) _) | (with_reducible apply Ext.alloc) | (with_reducible apply Ext.drew) | (with_reducible apply Ext.drewN) | (with_reducible exact Ext.refl _)))).cell b21, (show Ext w4 _ from (by repeat (first | (with_reducible assumption) | (with_reducible refine Ext.setCell ?_ (by first | (simp; done) | (simp; omega) | omega) _) | (with_reducible apply Ext.alloc) | (with_reducible apply Ext.drew) | (with_reducible apply Ext.drewN) | (with_reducible exact Ext.refl _)))).cell b22⟩ (fun hHeld => ?_)
            clear hK K
            try simp only [Act.put, List.setIfInBounds_toArray, List.set_cons_zero, List.set_cons_succ, List.getElem_toArray, List.getElem_cons_succ, List.getElem_cons_zero]
            refine wpAnyH_ready (rs := [5]) (by kernel_rfl) (by simp) ?_
            refine AllReadyH.cons rfl (fun K hK => ?_) AllReadyH.nil
            try simp only [Act.put, List.setIfInBounds_toArray, List.set_cons_zero, List.set_cons_succ, List.getElem_toArray, List.getElem_cons_succ, List.getElem_cons_zero]
            go_simp
            refine (pi_eq hR.out (back_c (upL s.length) (.slice afv4 ((upL s.length).length) cfv4) _ _ (i5.ext (by repeat (first | (with_reducible assumption) | (with_reducible refine Ext.setCell ?_ (by first | (simp; done) | (simp; omega) | omega) _) | (with_reducible apply Ext.alloc) | (with_reducible apply Ext.drew) | (with_reducible apply Ext.drewN) | (with_reducible exact Ext.refl _)))))).mono ?_
            rintro e w5 ⟨fv21, rfl, i22, -, xw5⟩
            have Lw5 : Ext w4 w5 := Ext.trans (by repeat (first | (with_reducible assumption) | (with_reducible refine Ext.setCell ?_ (by first | (simp; done) | (simp; omega) | omega) _) | (with_reducible apply Ext.alloc) | (with_reducible apply Ext.drew) | (with_reducible apply Ext.drewN) | (with_reducible exact Ext.refl _))) xw5
            have Xw5 : Ext w w5 := Xw4.trans Lw5
            replace b20 := Lw5.cell b20
            replace b21 := Lw5.cell b21
            replace b22 := Lw5.cell b22
            have b200 : w5.cell? ⟨w4.heap.size, 0, none⟩ = some (.int .i64 0) := xw5.cell (by first | (simp; done) | ((repeat rw [World.cell?_alloc_lt _ _ _ (by simp <;> omega)]); simp; done) | (go_simp; done))
            have b201 : w5.cell? ⟨w4.heap.size, 1, none⟩ = some (.slice none 0 0) := xw5.cell (by first | (simp; done) | ((repeat rw [World.cell?_alloc_lt _ _ _ (by simp <;> omega)]); simp; done) | (go_simp; done))
            have b202 : w5.cell? ⟨w4.heap.size, 2, none⟩ = some (.slice none 0 0) := xw5.cell (by first | (simp; done) | ((repeat rw [World.cell?_alloc_lt _ _ _ (by simp <;> omega)]); simp; done) | (go_simp; done))
            have f_b200 : w5.frozen? ⟨w4.heap.size, 0, none⟩ = false := xw5.frz (by simp <;> omega) (by first | (simp; done) | (go_simp; done))
            have f_b201 : w5.frozen? ⟨w4.heap.size, 1, none⟩ = false := xw5.frz (by simp <;> omega) (by first | (simp; done) | (go_simp; done))
            have f_b202 : w5.frozen? ⟨w4.heap.size, 2, none⟩ = false := xw5.frz (by simp <;> omega) (by first | (simp; done) | (go_simp; done))
            have z_b2 : w1.heap.size < w5.heap.size := World.block_lt_of_cell? _ _ b20
            have z_b20 : w4.heap.size < w5.heap.size := World.block_lt_of_cell? _ _ b200
            replace i0 := i0.ext Lw5
            replace i1 := i1.ext Lw5
            replace i2 := i2.ext Lw5
            replace i5 := i5.ext Lw5
            have s_w5 : w.heap.size ≤ w5.heap.size := Xw5.size
            have BD7_w5 : Ext w3 w5 := BD7_w4.trans Lw5
            have BL19_w5 : Ext w4 w5 := BL19.trans Lw5
            clear xw5
            try simp only [World.size_alloc, World.size_drew] at i22
            obtain ⟨afv21, cfv21, rfl⟩ := i22.form
            have zD_w5 := (BD7_w5).size
            refine hK.out _ _ ⟨b20, b21, b22⟩ (fun hHeld => ?_)
            clear hK K
            try simp only [Act.put, List.setIfInBounds_toArray, List.set_cons_zero, List.set_cons_succ, List.getElem_toArray, List.getElem_cons_succ, List.getElem_cons_zero]
            refine wpAnyH_ready (rs := [6]) (by kernel_rfl) (by simp) ?_
            refine AllReadyH.cons rfl (fun K hK => ?_) AllReadyH.nil
            try simp only [Act.put, List.setIfInBounds_toArray, List.set_cons_zero, List.set_cons_succ, List.getElem_toArray, List.getElem_cons_succ, List.getElem_cons_zero]
            go_simp
            refine (pv_eq hl3.out (implPermuteDims_c b (.slice p1 s.length r1) (.slice p2 t.length r2) s t (.slice afv21 R.length cfv21) R _ _ _ (i1.ext (by repeat (first | (with_reducible assumption) | (with_reducible refine Ext.setCell ?_ (by first | (simp; done) | (simp; omega) | omega) _) | (with_reducible apply Ext.alloc) | (with_reducible apply Ext.drew) | (with_reducible apply Ext.drewN) | (with_reducible exact Ext.refl _)))) (i2.ext (by repeat (first | (with_reducible assumption) | (with_reducible refine Ext.setCell ?_ (by first | (simp; done) | (simp; omega) | omega) _) | (with_reducible apply Ext.alloc) | (with_reducible apply Ext.drew) | (with_reducible apply Ext.drewN) | (with_reducible exact Ext.refl _)))) _ (i22.ext (by repeat (first | (with_reducible assumption) | (with_reducible refine Ext.setCell ?_ (by first | (simp; done) | (simp; omega) | omega) _) | (with_reducible apply Ext.alloc) | (with_reducible apply Ext.drew) | (with_reducible apply Ext.drewN) | (with_reducible exact Ext.refl _)))))).mono ?_
            rintro e w6 ⟨fv23u, fv23v, rfl, i24u, i24v, -, -, -, xw6⟩
            have Lw6 : Ext w5 w6 := Ext.trans (by repeat (first | (with_reducible assumption) | (with_reducible refine Ext.setCell ?_ (by first | (simp; done) | (simp; omega) | omega) _) | (with_reducible apply Ext.alloc) | (with_reducible apply Ext.drew) | (with_reducible apply Ext.drewN) | (with_reducible exact Ext.refl _))) xw6
            have Xw6 : Ext w w6 := Xw5.trans Lw6
            replace b20 := Lw6.cell b20
            replace b21 := Lw6.cell b21
            replace b22 := Lw6.cell b22
            replace b200 := Lw6.cell b200
            replace b201 := Lw6.cell b201
            replace b202 := Lw6.cell b202
            replace f_b200 := Lw6.frz z_b20 f_b200
            replace f_b201 := Lw6.frz z_b20 f_b201
            replace f_b202 := Lw6.frz z_b20 f_b202
            have z_b2 : w1.heap.size < w6.heap.size := World.block_lt_of_cell? _ _ b20
            have z_b20 : w4.heap.size < w6.heap.size := World.block_lt_of_cell? _ _ b200
            replace i0 := i0.ext Lw6
            replace i1 := i1.ext Lw6
            replace i2 := i2.ext Lw6
            replace i5 := i5.ext Lw6
            replace i22 := i22.ext Lw6
            have s_w6 : w.heap.size ≤ w6.heap.size := Xw6.size
            have BD7_w6 : Ext w3 w6 := BD7_w5.trans Lw6
            have BL19_w6 : Ext w4 w6 := BL19_w5.trans Lw6
            clear xw6
            try simp only [World.size_alloc, World.size_drew] at i24u i24v
            obtain ⟨afv23u, cfv23u, rfl⟩ := i24u.form
            obtain ⟨afv23v, cfv23v, rfl⟩ := i24v.form
            have zD_w6 := (BD7_w6).size
            refine hK.out _ _ ⟨b20, b21, b22⟩ (fun hHeld => ?_)
            clear hK K
            try simp only [Act.put, List.setIfInBounds_toArray, List.set_cons_zero, List.set_cons_succ, List.getElem_toArray, List.getElem_cons_succ, List.getElem_cons_zero]
            refine wpAnyH_take (i := 7) (v := ?_) rfl (by kernel_rfl) (by kernel_rfl) (by kernel_rfl) (fun _ _ _ h => h) (Or.inl ⟨by rfl, ?_⟩) (by assumption) ?_
            rotate_left
            · (intro w hSw; (try dsimp only at hSw); go_simp; try with_reducible rfl)
            try simp only [Act.put, List.setIfInBounds_toArray, List.set_cons_zero, List.set_cons_succ, List.getElem_toArray, List.getElem_cons_succ, List.getElem_cons_zero]
            refine wpAnyH_take (i := 8) (v := ?_) rfl (by kernel_rfl) (by kernel_rfl) (by kernel_rfl) (fun _ _ _ h => h) (Or.inl ⟨by rfl, ?_⟩) (by assumption) ?_
            rotate_left
            · (intro w hSw; (try dsimp only at hSw); go_simp; try with_reducible rfl)
            try simp only [Act.put, List.setIfInBounds_toArray, List.set_cons_zero, List.set_cons_succ, List.getElem_toArray, List.getElem_cons_succ, List.getElem_cons_zero]
            refine wpAnyH_take (i := 9) (v := ?_) rfl (by kernel_rfl) (by kernel_rfl) (by kernel_rfl) (fun _ _ _ h => h) (Or.inl ⟨by rfl, ?_⟩) (by assumption) ?_
            rotate_left
            · (intro w hSw; (try dsimp only at hSw); go_simp; try with_reducible rfl)
            try simp only [Act.put, List.setIfInBounds_toArray, List.set_cons_zero, List.set_cons_succ, List.getElem_toArray, List.getElem_cons_succ, List.getElem_cons_zero]
            refine wpAnyH_ready (rs := [11]) (by kernel_rfl) (by simp) ?_
            refine AllReadyH.cons rfl (fun K hK => ?_) AllReadyH.nil
            try simp only [Act.put, List.setIfInBounds_toArray, List.set_cons_zero, List.set_cons_succ, List.getElem_toArray, List.getElem_cons_succ, List.getElem_cons_zero]
            go_simp
            have Kw7 : Chg (w4.heap.size) (w4.heap.size + 1) w6 (((w6.setCell ⟨w4.heap.size, 0, none⟩ (.int .i64 b)).setCell ⟨w4.heap.size, 1, none⟩ (.slice afv23u PS.length cfv23u)).setCell ⟨w4.heap.size, 2, none⟩ (.slice afv23v PT.length cfv23v)) := (Chg.setCell (p := ⟨w4.heap.size, 2, none⟩) (Chg.setCell (p := ⟨w4.heap.size, 1, none⟩) (Chg.setCell (p := ⟨w4.heap.size, 0, none⟩) (Chg.refl (w4.heap.size) (w4.heap.size + 1) _) (Nat.le_refl _) (Nat.lt_succ_self _) (.int .i64 b)) (Nat.le_refl _) (Nat.lt_succ_self _) (.slice afv23u PS.length cfv23u)) (Nat.le_refl _) (Nat.lt_succ_self _) (.slice afv23v PT.length cfv23v))
            have Xw7 : Ext w (((w6.setCell ⟨w4.heap.size, 0, none⟩ (.int .i64 b)).setCell ⟨w4.heap.size, 1, none⟩ (.slice afv23u PS.length cfv23u)).setCell ⟨w4.heap.size, 2, none⟩ (.slice afv23v PT.length cfv23v)) := (Ext.setCell (p := ⟨w4.heap.size, 2, none⟩) (Ext.setCell (p := ⟨w4.heap.size, 1, none⟩) (Ext.setCell (p := ⟨w4.heap.size, 0, none⟩) Xw6 (by first | (simp; done) | (simp; omega) | omega) (.int .i64 b)) (by first | (simp; done) | (simp; omega) | omega) (.slice afv23u PS.length cfv23u)) (by first | (simp; done) | (simp; omega) | omega) (.slice afv23v PT.length cfv23v))
            have BD7_w7 : Ext w3 (((w6.setCell ⟨w4.heap.size, 0, none⟩ (.int .i64 b)).setCell ⟨w4.heap.size, 1, none⟩ (.slice afv23u PS.length cfv23u)).setCell ⟨w4.heap.size, 2, none⟩ (.slice afv23v PT.length cfv23v)) := (Ext.setCell (p := ⟨w4.heap.size, 2, none⟩) (Ext.setCell (p := ⟨w4.heap.size, 1, none⟩) (Ext.setCell (p := ⟨w4.heap.size, 0, none⟩) BD7_w6 (by first | (simp; done) | (simp; omega) | omega) (.int .i64 b)) (by first | (simp; done) | (simp; omega) | omega) (.slice afv23u PS.length cfv23u)) (by first | (simp; done) | (simp; omega) | omega) (.slice afv23v PT.length cfv23v))
            have BL19_w7 : Ext w4 (((w6.setCell ⟨w4.heap.size, 0, none⟩ (.int .i64 b)).setCell ⟨w4.heap.size, 1, none⟩ (.slice afv23u PS.length cfv23u)).setCell ⟨w4.heap.size, 2, none⟩ (.slice afv23v PT.length cfv23v)) := (Ext.setCell (p := ⟨w4.heap.size, 2, none⟩) (Ext.setCell (p := ⟨w4.heap.size, 1, none⟩) (Ext.setCell (p := ⟨w4.heap.size, 0, none⟩) BL19_w6 (by first | (simp; done) | (simp; omega) | omega) (.int .i64 b)) (by first | (simp; done) | (simp; omega) | omega) (.slice afv23u PS.length cfv23u)) (by first | (simp; done) | (simp; omega) | omega) (.slice afv23v PT.length cfv23v))
            replace b20 := BL19_w7.cell Q18_b20.out
            replace b21 := BL19_w7.cell Q18_b21.out
            replace b22 := BL19_w7.cell Q18_b22.out
            have n_b200 : (((w6.setCell ⟨w4.heap.size, 0, none⟩ (.int .i64 b)).setCell ⟨w4.heap.size, 1, none⟩ (.slice afv23u PS.length cfv23u)).setCell ⟨w4.heap.size, 2, none⟩ (.slice afv23v PT.length cfv23v)).cell? ⟨w4.heap.size, 0, none⟩ = some (.int .i64 b) := by go_simp
            have n_f_b200 : (((w6.setCell ⟨w4.heap.size, 0, none⟩ (.int .i64 b)).setCell ⟨w4.heap.size, 1, none⟩ (.slice afv23u PS.length cfv23u)).setCell ⟨w4.heap.size, 2, none⟩ (.slice afv23v PT.length cfv23v)).frozen? ⟨w4.heap.size, 0, none⟩ = false := by go_simp
            have n_b201 : (((w6.setCell ⟨w4.heap.size, 0, none⟩ (.int .i64 b)).setCell ⟨w4.heap.size, 1, none⟩ (.slice afv23u PS.length cfv23u)).setCell ⟨w4.heap.size, 2, none⟩ (.slice afv23v PT.length cfv23v)).cell? ⟨w4.heap.size, 1, none⟩ = some (.slice afv23u PS.length cfv23u) := by go_simp
            have n_f_b201 : (((w6.setCell ⟨w4.heap.size, 0, none⟩ (.int .i64 b)).setCell ⟨w4.heap.size, 1, none⟩ (.slice afv23u PS.length cfv23u)).setCell ⟨w4.heap.size, 2, none⟩ (.slice afv23v PT.length cfv23v)).frozen? ⟨w4.heap.size, 1, none⟩ = false := by go_simp
            have n_b202 : (((w6.setCell ⟨w4.heap.size, 0, none⟩ (.int .i64 b)).setCell ⟨w4.heap.size, 1, none⟩ (.slice afv23u PS.length cfv23u)).setCell ⟨w4.heap.size, 2, none⟩ (.slice afv23v PT.length cfv23v)).cell? ⟨w4.heap.size, 2, none⟩ = some (.slice afv23v PT.length cfv23v) := by go_simp
            have n_f_b202 : (((w6.setCell ⟨w4.heap.size, 0, none⟩ (.int .i64 b)).setCell ⟨w4.heap.size, 1, none⟩ (.slice afv23u PS.length cfv23u)).setCell ⟨w4.heap.size, 2, none⟩ (.slice afv23v PT.length cfv23v)).frozen? ⟨w4.heap.size, 2, none⟩ = false := by go_simp
            replace b200 := n_b200
            clear n_b200
            replace f_b200 := n_f_b200
            clear n_f_b200
            replace b201 := n_b201
            clear n_b201
            replace f_b201 := n_f_b201
            clear n_f_b201
            replace b202 := n_b202
            clear n_b202
            replace f_b202 := n_f_b202
            clear n_f_b202
            replace i0 := (Q18_i0.out).ext BL19_w7
            replace i1 := (Q18_i1.out).ext BL19_w7
            replace i2 := (Q18_i2.out).ext BL19_w7
            replace i5 := (Q18_i5.out).ext BL19_w7
            replace i22 := i22.chg Kw7 (by omega)
            replace i24u := i24u.chg Kw7 (by omega)
            replace i24v := i24v.chg Kw7 (by omega)
            clear Kw7
            have z_b2 : w1.heap.size < (((w6.setCell ⟨w4.heap.size, 0, none⟩ (.int .i64 b)).setCell ⟨w4.heap.size, 1, none⟩ (.slice afv23u PS.length cfv23u)).setCell ⟨w4.heap.size, 2, none⟩ (.slice afv23v PT.length cfv23v)).heap.size := World.block_lt_of_cell? _ _ b20
            have z_b20 : w4.heap.size < (((w6.setCell ⟨w4.heap.size, 0, none⟩ (.int .i64 b)).setCell ⟨w4.heap.size, 1, none⟩ (.slice afv23u PS.length cfv23u)).setCell ⟨w4.heap.size, 2, none⟩ (.slice afv23v PT.length cfv23v)).heap.size := World.block_lt_of_cell? _ _ b200
            have s_w7 : w.heap.size ≤ (((w6.setCell ⟨w4.heap.size, 0, none⟩ (.int .i64 b)).setCell ⟨w4.heap.size, 1, none⟩ (.slice afv23u PS.length cfv23u)).setCell ⟨w4.heap.size, 2, none⟩ (.slice afv23v PT.length cfv23v)).heap.size := Xw7.size
            generalize (((w6.setCell ⟨w4.heap.size, 0, none⟩ (.int .i64 b)).setCell ⟨w4.heap.size, 1, none⟩ (.slice afv23u PS.length cfv23u)).setCell ⟨w4.heap.size, 2, none⟩ (.slice afv23v PT.length cfv23v)) = w7 at *
            refine hK.out _ _ ⟨b20, b21, b22⟩ (fun hHeld => ?_)
            clear hK K
            try simp only [Act.put, List.setIfInBounds_toArray, List.set_cons_zero, List.set_cons_succ, List.getElem_toArray, List.getElem_cons_succ, List.getElem_cons_zero]
            refine wpAnyH_take (i := 12) (v := ?_) rfl (by kernel_rfl) (by kernel_rfl) (by kernel_rfl) (fun _ _ _ h => h) (Or.inl ⟨by rfl, ?_⟩) (by assumption) ?_
            rotate_left
            · (intro w hSw; (try dsimp only at hSw); go_simp; try with_reducible rfl)
            try simp only [Act.put, List.setIfInBounds_toArray, List.set_cons_zero, List.set_cons_succ, List.getElem_toArray, List.getElem_cons_succ, List.getElem_cons_zero]
            refine wpAnyH_done (by kernel_rfl) ?_ _
            clear hHeld
            go_step
            go_step
            go_meet
            case rel => exact ⟨_, _, _, _, _, rfl, rfl, BD7_w7, (by omega), b200, b201, b202, f_b200, f_b201, f_b202, i24u.lower (by omega), i24v.lower (by omega)⟩
        · try simp only [Act.put, List.setIfInBounds_toArray, List.set_cons_zero, List.set_cons_succ, List.getElem_toArray, List.getElem_cons_succ, List.getElem_cons_zero]
          go_simp
          have Q25_b20 := Lib.hid b20
          have Q25_b21 := Lib.hid b21
          have Q25_b22 := Lib.hid b22
          have Q25_zb2 := z_b2
          have Q25_i0 := Lib.hid i0
          have Q25_i1 := Lib.hid i1
          have Q25_i2 := Lib.hid i2
          have BL26 : Ext w3 w3 := Ext.refl _
          refine hK.out _ _ ⟨(show Ext w3 _ from (by repeat (first | (with_reducible assumption) | (with_reducible refine Ext.setCell ?_ (by first | (simp; done) | (simp; omega) | omega) _) | (with_reducible apply Ext.alloc) | (with_reducible apply Ext.drew) | (with_reducible apply Ext.drewN) | (with_reducible exact Ext.refl _)))).cell b20, (show Ext w3 _ from (by repeat (first | (with_reducible assumption) | (with_reducible refine Ext.setCell ?_ (by first | (simp; done) | (simp; omega) | omega) _) | (with_reducible apply Ext.alloc) | (with_reducible apply Ext.drew) | (with_reducible apply Ext.drewN) | (with_reducible exact Ext.refl _)))).cell b21, (show Ext w3 _ from (by repeat (first | (with_reducible assumption) | (with_reducible refine Ext.setCell ?_ (by first | (simp; done) | (simp; omega) | omega) _) | (with_reducible apply Ext.alloc) | (with_reducible apply Ext.drew) | (with_reducible apply Ext.drewN) | (with_reducible exact Ext.refl _)))).cell b22⟩ (fun hHeld => ?_)
          clear hK K
          try simp only [Act.put, List.setIfInBounds_toArray, List.set_cons_zero, List.set_cons_succ, List.getElem_toArray, List.getElem_cons_succ, List.getElem_cons_zero]
          refine wpAnyH_ready (rs := [4]) (by kernel_rfl) (by simp) ?_
          refine AllReadyH.cons rfl (fun K hK => ?_) AllReadyH.nil
          try simp only [Act.put, List.setIfInBounds_toArray, List.set_cons_zero, List.set_cons_succ, List.getElem_toArray, List.getElem_cons_succ, List.getElem_cons_zero]
          go_simp
          refine (lupTo_c s.length _ (by omega)).mono ?_
          rintro e w4 ⟨fv28, rfl, i29, -, xw4⟩
          have Lw4 : Ext w3 w4 := Ext.trans (by repeat (first | (with_reducible assumption) | (with_reducible refine Ext.setCell ?_ (by first | (simp; done) | (simp; omega) | omega) _) | (with_reducible apply Ext.alloc) | (with_reducible apply Ext.drew) | (with_reducible apply Ext.drewN) | (with_reducible exact Ext.refl _))) xw4
          have Xw4 : Ext w w4 := Xw3.trans Lw4
          replace b20 := Lw4.cell b20
          replace b21 := Lw4.cell b21
          replace b22 := Lw4.cell b22
          have b270 : w4.cell? ⟨w3.heap.size, 0, none⟩ = some (.int .i64 0) := xw4.cell (by first | (simp; done) | ((repeat rw [World.cell?_alloc_lt _ _ _ (by simp <;> omega)]); simp; done) | (go_simp; done))
          have b271 : w4.cell? ⟨w3.heap.size, 1, none⟩ = some (.slice none 0 0) := xw4.cell (by first | (simp; done) | ((repeat rw [World.cell?_alloc_lt _ _ _ (by simp <;> omega)]); simp; done) | (go_simp; done))
          have b272 : w4.cell? ⟨w3.heap.size, 2, none⟩ = some (.slice none 0 0) := xw4.cell (by first | (simp; done) | ((repeat rw [World.cell?_alloc_lt _ _ _ (by simp <;> omega)]); simp; done) | (go_simp; done))
          have f_b270 : w4.frozen? ⟨w3.heap.size, 0, none⟩ = false := xw4.frz (by simp <;> omega) (by first | (simp; done) | (go_simp; done))
          have f_b271 : w4.frozen? ⟨w3.heap.size, 1, none⟩ = false := xw4.frz (by simp <;> omega) (by first | (simp; done) | (go_simp; done))
          have f_b272 : w4.frozen? ⟨w3.heap.size, 2, none⟩ = false := xw4.frz (by simp <;> omega) (by first | (simp; done) | (go_simp; done))
          have z_b2 : w1.heap.size < w4.heap.size := World.block_lt_of_cell? _ _ b20
          have z_b27 : w3.heap.size < w4.heap.size := World.block_lt_of_cell? _ _ b270
          replace i0 := i0.ext Lw4
          replace i1 := i1.ext Lw4
          replace i2 := i2.ext Lw4
          have s_w4 : w.heap.size ≤ w4.heap.size := Xw4.size
          have BD7_w4 : Ext w3 w4 := BD7.trans Lw4
          have BL26_w4 : Ext w3 w4 := BL26.trans Lw4
          clear xw4
          try simp only [World.size_alloc, World.size_drew] at i29
          obtain ⟨afv28, cfv28, rfl⟩ := i29.form
          have zD_w4 := (BD7_w4).size
          refine hK.out _ _ ⟨b20, b21, b22⟩ (fun hHeld => ?_)
          clear hK K
          try simp only [Act.put, List.setIfInBounds_toArray, List.set_cons_zero, List.set_cons_succ, List.getElem_toArray, List.getElem_cons_succ, List.getElem_cons_zero]
          refine wpAnyH_ready (rs := [5]) (by kernel_rfl) (by simp) ?_
          refine AllReadyH.cons rfl (fun K hK => ?_) AllReadyH.nil
          try simp only [Act.put, List.setIfInBounds_toArray, List.set_cons_zero, List.set_cons_succ, List.getElem_toArray, List.getElem_cons_succ, List.getElem_cons_zero]
          go_simp
          refine (pi_eq hR.out (back_c (upL s.length) (.slice afv28 ((upL s.length).length) cfv28) _ _ (i29.ext (by repeat (first | (with_reducible assumption) | (with_reducible refine Ext.setCell ?_ (by first | (simp; done) | (simp; omega) | omega) _) | (with_reducible apply Ext.alloc) | (with_reducible apply Ext.drew) | (with_reducible apply Ext.drewN) | (with_reducible exact Ext.refl _)))))).mono ?_
          rintro e w5 ⟨fv30, rfl, i31, -, xw5⟩
          have Lw5 : Ext w4 w5 := Ext.trans (by repeat (first | (with_reducible assumption) | (with_reducible refine Ext.setCell ?_ (by first | (simp; done) | (simp; omega) | omega) _) | (with_reducible apply Ext.alloc) | (with_reducible apply Ext.drew) | (with_reducible apply Ext.drewN) | (with_reducible exact Ext.refl _))) xw5
          have Xw5 : Ext w w5 := Xw4.trans Lw5
          replace b20 := Lw5.cell b20
          replace b21 := Lw5.cell b21
          replace b22 := Lw5.cell b22
          replace b270 := Lw5.cell b270
          replace b271 := Lw5.cell b271
          replace b272 := Lw5.cell b272
          replace f_b270 := Lw5.frz z_b27 f_b270
          replace f_b271 := Lw5.frz z_b27 f_b271
          replace f_b272 := Lw5.frz z_b27 f_b272
          have z_b2 : w1.heap.size < w5.heap.size := World.block_lt_of_cell? _ _ b20
          have z_b27 : w3.heap.size < w5.heap.size := World.block_lt_of_cell? _ _ b270
          replace i0 := i0.ext Lw5
          replace i1 := i1.ext Lw5
          replace i2 := i2.ext Lw5
          replace i29 := i29.ext Lw5
          have s_w5 : w.heap.size ≤ w5.heap.size := Xw5.size
          have BD7_w5 : Ext w3 w5 := BD7_w4.trans Lw5
          have BL26_w5 : Ext w3 w5 := BL26_w4.trans Lw5
          clear xw5
          try simp only [World.size_alloc, World.size_drew] at i31
          obtain ⟨afv30, cfv30, rfl⟩ := i31.form
          have zD_w5 := (BD7_w5).size
          refine hK.out _ _ ⟨b20, b21, b22⟩ (fun hHeld => ?_)
          clear hK K
          try simp only [Act.put, List.setIfInBounds_toArray, List.set_cons_zero, List.set_cons_succ, List.getElem_toArray, List.getElem_cons_succ, List.getElem_cons_zero]
          refine wpAnyH_ready (rs := [6]) (by kernel_rfl) (by simp) ?_
          refine AllReadyH.cons rfl (fun K hK => ?_) AllReadyH.nil
          try simp only [Act.put, List.setIfInBounds_toArray, List.set_cons_zero, List.set_cons_succ, List.getElem_toArray, List.getElem_cons_succ, List.getElem_cons_zero]
          go_simp
          refine (pv_eq hl3.out (implPermuteDims_c b (.slice p1 s.length r1) (.slice p2 t.length r2) s t (.slice afv30 R.length cfv30) R _ _ _ (i1.ext (by repeat (first | (with_reducible assumption) | (with_reducible refine Ext.setCell ?_ (by first | (simp; done) | (simp; omega) | omega) _) | (with_reducible apply Ext.alloc) | (with_reducible apply Ext.drew) | (with_reducible apply Ext.drewN) | (with_reducible exact Ext.refl _)))) (i2.ext (by repeat (first | (with_reducible assumption) | (with_reducible refine Ext.setCell ?_ (by first | (simp; done) | (simp; omega) | omega) _) | (with_reducible apply Ext.alloc) | (with_reducible apply Ext.drew) | (with_reducible apply Ext.drewN) | (with_reducible exact Ext.refl _)))) _ (i31.ext (by repeat (first | (with_reducible assumption) | (with_reducible refine Ext.setCell ?_ (by first | (simp; done) | (simp; omega) | omega) _) | (with_reducible apply Ext.alloc) | (with_reducible apply Ext.drew) | (with_reducible apply Ext.drewN) | (with_reducible exact Ext.refl _)))))).mono ?_
          rintro e w6 ⟨fv32u, fv32v, rfl, i33u, i33v, -, -, -, xw6⟩
          have Lw6 : Ext w5 w6 := Ext.trans (by repeat (first | (with_reducible assumption) | (with_reducible refine Ext.setCell ?_ (by first | (simp; done) | (simp; omega) | omega) _) | (with_reducible apply Ext.alloc) | (with_reducible apply Ext.drew) | (with_reducible apply Ext.drewN) | (with_reducible exact Ext.refl _))) xw6
          have Xw6 : Ext w w6 := Xw5.trans Lw6
          replace b20 := Lw6.cell b20
          replace b21 := Lw6.cell b21
          replace b22 := Lw6.cell b22
          replace b270 := Lw6.cell b270
          replace b271 := Lw6.cell b271
          replace b272 := Lw6.cell b272
          replace f_b270 := Lw6.frz z_b27 f_b270
          replace f_b271 := Lw6.frz z_b27 f_b271
          replace f_b272 := Lw6.frz z_b27 f_b272
          have z_b2 : w1.heap.size < w6.heap.size := World.block_lt_of_cell? _ _ b20
          have z_b27 : w3.heap.size < w6.heap.size := World.block_lt_of_cell? _ _ b270
          replace i0 := i0.ext Lw6
          replace i1 := i1.ext Lw6
          replace i2 := i2.ext Lw6
          replace i29 := i29.ext Lw6
          replace i31 := i31.ext Lw6
          have s_w6 : w.heap.size ≤ w6.heap.size := Xw6.size
          have BD7_w6 : Ext w3 w6 := BD7_w5.trans Lw6
          have BL26_w6 : Ext w3 w6 := BL26_w5.trans Lw6
          clear xw6
          try simp only [World.size_alloc, World.size_drew] at i33u i33v
          obtain ⟨afv32u, cfv32u, rfl⟩ := i33u.form
          obtain ⟨afv32v, cfv32v, rfl⟩ := i33v.form
          have zD_w6 := (BD7_w6).size
          refine hK.out _ _ ⟨b20, b21, b22⟩ (fun hHeld => ?_)
          clear hK K
          try simp only [Act.put, List.setIfInBounds_toArray, List.set_cons_zero, List.set_cons_succ, List.getElem_toArray, List.getElem_cons_succ, List.getElem_cons_zero]
          refine wpAnyH_take (i := 7) (v := ?_) rfl (by kernel_rfl) (by kernel_rfl) (by kernel_rfl) (fun _ _ _ h => h) (Or.inl ⟨by rfl, ?_⟩) (by assumption) ?_
          rotate_left
          · (intro w hSw; (try dsimp only at hSw); go_simp; try with_reducible rfl)
          try simp only [Act.put, List.setIfInBounds_toArray, List.set_cons_zero, List.set_cons_succ, List.getElem_toArray, List.getElem_cons_succ, List.getElem_cons_zero]
          refine wpAnyH_take (i := 8) (v := ?_) rfl (by kernel_rfl) (by kernel_rfl) (by kernel_rfl) (fun _ _ _ h => h) (Or.inl ⟨by rfl, ?_⟩) (by assumption) ?_
          rotate_left
          · (intro w hSw; (try dsimp only at hSw); go_simp; try with_reducible rfl)
          try simp only [Act.put, List.setIfInBounds_toArray, List.set_cons_zero, List.set_cons_succ, List.getElem_toArray, List.getElem_cons_succ, List.getElem_cons_zero]
          refine wpAnyH_take (i := 9) (v := ?_) rfl (by kernel_rfl) (by kernel_rfl) (by kernel_rfl) (fun _ _ _ h => h) (Or.inl ⟨by rfl, ?_⟩) (by assumption) ?_
          rotate_left
          · (intro w hSw; (try dsimp only at hSw); go_simp; try with_reducible rfl)
          try simp only [Act.put, List.setIfInBounds_toArray, List.set_cons_zero, List.set_cons_succ, List.getElem_toArray, List.getElem_cons_succ, List.getElem_cons_zero]
          refine wpAnyH_ready (rs := [11]) (by kernel_rfl) (by simp) ?_
          refine AllReadyH.cons rfl (fun K hK => ?_) AllReadyH.nil
          try simp only [Act.put, List.setIfInBounds_toArray, List.set_cons_zero, List.set_cons_succ, List.getElem_toArray, List.getElem_cons_succ, List.getElem_cons_zero]
          go_simp
          have Kw7 : Chg (w3.heap.size) (w3.heap.size + 1) w6 (((w6.setCell ⟨w3.heap.size, 0, none⟩ (.int .i64 b)).setCell ⟨w3.heap.size, 1, none⟩ (.slice afv32u PS.length cfv32u)).setCell ⟨w3.heap.size, 2, none⟩ (.slice afv32v PT.length cfv32v)) := (Chg.setCell (p := ⟨w3.heap.size, 2, none⟩) (Chg.setCell (p := ⟨w3.heap.size, 1, none⟩) (Chg.setCell (p := ⟨w3.heap.size, 0, none⟩) (Chg.refl (w3.heap.size) (w3.heap.size + 1) _) (Nat.le_refl _) (Nat.lt_succ_self _) (.int .i64 b)) (Nat.le_refl _) (Nat.lt_succ_self _) (.slice afv32u PS.length cfv32u)) (Nat.le_refl _) (Nat.lt_succ_self _) (.slice afv32v PT.length cfv32v))
          have Xw7 : Ext w (((w6.setCell ⟨w3.heap.size, 0, none⟩ (.int .i64 b)).setCell ⟨w3.heap.size, 1, none⟩ (.slice afv32u PS.length cfv32u)).setCell ⟨w3.heap.size, 2, none⟩ (.slice afv32v PT.length cfv32v)) := (Ext.setCell (p := ⟨w3.heap.size, 2, none⟩) (Ext.setCell (p := ⟨w3.heap.size, 1, none⟩) (Ext.setCell (p := ⟨w3.heap.size, 0, none⟩) Xw6 (by first | (simp; done) | (simp; omega) | omega) (.int .i64 b)) (by first | (simp; done) | (simp; omega) | omega) (.slice afv32u PS.length cfv32u)) (by first | (simp; done) | (simp; omega) | omega) (.slice afv32v PT.length cfv32v))
          have BD7_w7 : Ext w3 (((w6.setCell ⟨w3.heap.size, 0, none⟩ (.int .i64 b)).setCell ⟨w3.heap.size, 1, none⟩ (.slice afv32u PS.length cfv32u)).setCell ⟨w3.heap.size, 2, none⟩ (.slice afv32v PT.length cfv32v)) := (Ext.setCell (p := ⟨w3.heap.size, 2, none⟩) (Ext.setCell (p := ⟨w3.heap.size, 1, none⟩) (Ext.setCell (p := ⟨w3.heap.size, 0, none⟩) BD7_w6 (by first | (simp; done) | (simp; omega) | omega) (.int .i64 b)) (by first | (simp; done) | (simp; omega) | omega) (.slice afv32u PS.length cfv32u)) (by first | (simp; done) | (simp; omega) | omega) (.slice afv32v PT.length cfv32v))
          have BL26_w7 : Ext w3 (((w6.setCell ⟨w3.heap.size, 0, none⟩ (.int .i64 b)).setCell ⟨w3.heap.size, 1, none⟩ (.slice afv32u PS.length cfv32u)).setCell ⟨w3.heap.size, 2, none⟩ (.slice afv32v PT.length cfv32v)) := (Ext.setCell (p := ⟨w3.heap.size, 2, none⟩) (Ext.setCell (p := ⟨w3.heap.size, 1, none⟩) (Ext.setCell (p := ⟨w3.heap.size, 0, none⟩) BL26_w6 (by first | (simp; done) | (simp; omega) | omega) (.int .i64 b)) (by first | (simp; done) | (simp; omega) | omega) (.slice afv32u PS.length cfv32u)) (by first | (simp; done) | (simp; omega) | omega) (.slice afv32v PT.length cfv32v))
          replace b20 := BL26_w7.cell Q25_b20.out
          replace b21 := BL26_w7.cell Q25_b21.out
          replace b22 := BL26_w7.cell Q25_b22.out
          have n_b270 : (((w6.setCell ⟨w3.heap.size, 0, none⟩ (.int .i64 b)).setCell ⟨w3.heap.size, 1, none⟩ (.slice afv32u PS.length cfv32u)).setCell ⟨w3.heap.size, 2, none⟩ (.slice afv32v PT.length cfv32v)).cell? ⟨w3.heap.size, 0, none⟩ = some (.int .i64 b) := by go_simp
          have n_f_b270 : (((w6.setCell ⟨w3.heap.size, 0, none⟩ (.int .i64 b)).setCell ⟨w3.heap.size, 1, none⟩ (.slice afv32u PS.length cfv32u)).setCell ⟨w3.heap.size, 2, none⟩ (.slice afv32v PT.length cfv32v)).frozen? ⟨w3.heap.size, 0, none⟩ = false := by go_simp
          have n_b271 : (((w6.setCell ⟨w3.heap.size, 0, none⟩ (.int .i64 b)).setCell ⟨w3.heap.size, 1, none⟩ (.slice afv32u PS.length cfv32u)).setCell ⟨w3.heap.size, 2, none⟩ (.slice afv32v PT.length cfv32v)).cell? ⟨w3.heap.size, 1, none⟩ = some (.slice afv32u PS.length cfv32u) := by go_simp
          have n_f_b271 : (((w6.setCell ⟨w3.heap.size, 0, none⟩ (.int .i64 b)).setCell ⟨w3.heap.size, 1, none⟩ (.slice afv32u PS.length cfv32u)).setCell ⟨w3.heap.size, 2, none⟩ (.slice afv32v PT.length cfv32v)).frozen? ⟨w3.heap.size, 1, none⟩ = false := by go_simp
          have n_b272 : (((w6.setCell ⟨w3.heap.size, 0, none⟩ (.int .i64 b)).setCell ⟨w3.heap.size, 1, none⟩ (.slice afv32u PS.length cfv32u)).setCell ⟨w3.heap.size, 2, none⟩ (.slice afv32v PT.length cfv32v)).cell? ⟨w3.heap.size, 2, none⟩ = some (.slice afv32v PT.length cfv32v) := by go_simp
          have n_f_b272 : (((w6.setCell ⟨w3.heap.size, 0, none⟩ (.int .i64 b)).setCell ⟨w3.heap.size, 1, none⟩ (.slice afv32u PS.length cfv32u)).setCell ⟨w3.heap.size, 2, none⟩ (.slice afv32v PT.length cfv32v)).frozen? ⟨w3.heap.size, 2, none⟩ = false := by go_simp
          replace b270 := n_b270
          clear n_b270
          replace f_b270 := n_f_b270
          clear n_f_b270
          replace b271 := n_b271
          clear n_b271
          replace f_b271 := n_f_b271
          clear n_f_b271
          replace b272 := n_b272
          clear n_b272
          replace f_b272 := n_f_b272
          clear n_f_b272
          replace i0 := (Q25_i0.out).ext BL26_w7
          replace i1 := (Q25_i1.out).ext BL26_w7
          replace i2 := (Q25_i2.out).ext BL26_w7
          replace i29 := i29.chg Kw7 (by omega)
          replace i31 := i31.chg Kw7 (by omega)
          replace i33u := i33u.chg Kw7 (by omega)
          replace i33v := i33v.chg Kw7 (by omega)
          clear Kw7
          have z_b2 : w1.heap.size < (((w6.setCell ⟨w3.heap.size, 0, none⟩ (.int .i64 b)).setCell ⟨w3.heap.size, 1, none⟩ (.slice afv32u PS.length cfv32u)).setCell ⟨w3.heap.size, 2, none⟩ (.slice afv32v PT.length cfv32v)).heap.size := World.block_lt_of_cell? _ _ b20
          have z_b27 : w3.heap.size < (((w6.setCell ⟨w3.heap.size, 0, none⟩ (.int .i64 b)).setCell ⟨w3.heap.size, 1, none⟩ (.slice afv32u PS.length cfv32u)).setCell ⟨w3.heap.size, 2, none⟩ (.slice afv32v PT.length cfv32v)).heap.size := World.block_lt_of_cell? _ _ b270
          have s_w7 : w.heap.size ≤ (((w6.setCell ⟨w3.heap.size, 0, none⟩ (.int .i64 b)).setCell ⟨w3.heap.size, 1, none⟩ (.slice afv32u PS.length cfv32u)).setCell ⟨w3.heap.size, 2, none⟩ (.slice afv32v PT.length cfv32v)).heap.size := Xw7.size
          generalize (((w6.setCell ⟨w3.heap.size, 0, none⟩ (.int .i64 b)).setCell ⟨w3.heap.size, 1, none⟩ (.slice afv32u PS.length cfv32u)).setCell ⟨w3.heap.size, 2, none⟩ (.slice afv32v PT.length cfv32v)) = w7 at *
          refine hK.out _ _ ⟨b20, b21, b22⟩ (fun hHeld => ?_)
          clear hK K
          try simp only [Act.put, List.setIfInBounds_toArray, List.set_cons_zero, List.set_cons_succ, List.getElem_toArray, List.getElem_cons_succ, List.getElem_cons_zero]
          refine wpAnyH_take (i := 12) (v := ?_) rfl (by kernel_rfl) (by kernel_rfl) (by kernel_rfl) (fun _ _ _ h => h) (Or.inl ⟨by rfl, ?_⟩) (by assumption) ?_
          rotate_left
          · (intro w hSw; (try dsimp only at hSw); go_simp; try with_reducible rfl)
          try simp only [Act.put, List.setIfInBounds_toArray, List.set_cons_zero, List.set_cons_succ, List.getElem_toArray, List.getElem_cons_succ, List.getElem_cons_zero]
          refine wpAnyH_done (by kernel_rfl) ?_ _
          clear hHeld
          go_step
          go_step
          go_meet
          case rel => exact ⟨_, _, _, _, _, rfl, rfl, BD7_w7, (by omega), b270, b271, b272, f_b270, f_b271, f_b272, i33u.lower (by omega), i33v.lower (by omega)⟩
      case rest =>
        generalize wc = wc35 at hcut ⊢
        obtain ⟨g36, af40, cf41, af42, cf43, rfl, rfl, xx37, hg_b34, b340, b341, b342, f_b340, f_b341, f_b342, i38, i39⟩ := hcut
        have Lwc35 : Ext w3 wc35 := Ext.trans (by repeat (first | (with_reducible assumption) | (with_reducible refine Ext.setCell ?_ (by first | (simp; done) | (simp; omega) | omega) _) | (with_reducible apply Ext.alloc) | (with_reducible apply Ext.drew) | (with_reducible apply Ext.drewN) | (with_reducible exact Ext.refl _))) xx37
        have Xwc35 : Ext w wc35 := Xw3.trans Lwc35
        replace b20 := Lwc35.cell b20
        replace b21 := Lwc35.cell b21
        replace b22 := Lwc35.cell b22
        have z_b2 : w1.heap.size < wc35.heap.size := World.block_lt_of_cell? _ _ b20
        replace i0 := i0.ext Lwc35
        replace i1 := i1.ext Lwc35
        replace i2 := i2.ext Lwc35
        have s_wc35 : w.heap.size ≤ wc35.heap.size := Xwc35.size
        clear xx37
        have z_b34 : g36 < wc35.heap.size := World.block_lt_of_cell? _ _ b340
        go_wp2_with fail
        refine (implLoadView_c mem (.slice p0 mem.length r0) b (.slice p1 s.length r1) (.slice p2 t.length r2) s t _ _ _ _ (i0.ext (by repeat (first | (with_reducible assumption) | (with_reducible refine Ext.setCell ?_ (by first | (simp; done) | (simp; omega) | omega) _) | (with_reducible apply Ext.alloc) | (with_reducible apply Ext.drew) | (with_reducible apply Ext.drewN) | (with_reducible exact Ext.refl _)))) (i1.ext (by repeat (first | (with_reducible assumption) | (with_reducible refine Ext.setCell ?_ (by first | (simp; done) | (simp; omega) | omega) _) | (with_reducible apply Ext.alloc) | (with_reducible apply Ext.drew) | (with_reducible apply Ext.drewN) | (with_reducible exact Ext.refl _)))) (i2.ext (by repeat (first | (with_reducible assumption) | (with_reducible refine Ext.setCell ?_ (by first | (simp; done) | (simp; omega) | omega) _) | (with_reducible apply Ext.alloc) | (with_reducible apply Ext.drew) | (with_reducible apply Ext.drewN) | (with_reducible exact Ext.refl _))))).mono ?_
        rintro e w4 ⟨fv44, rfl, i45, -, xw4⟩
        have Lw4 : Ext wc35 w4 := Ext.trans (by repeat (first | (with_reducible assumption) | (with_reducible refine Ext.setCell ?_ (by first | (simp; done) | (simp; omega) | omega) _) | (with_reducible apply Ext.alloc) | (with_reducible apply Ext.drew) | (with_reducible apply Ext.drewN) | (with_reducible exact Ext.refl _))) xw4
        have Xw4 : Ext w w4 := Xwc35.trans Lw4
        replace b20 := Lw4.cell b20
        replace b21 := Lw4.cell b21
        replace b22 := Lw4.cell b22
        replace b340 := Lw4.cell b340
        replace b341 := Lw4.cell b341
        replace b342 := Lw4.cell b342
        replace f_b340 := Lw4.frz z_b34 f_b340
        replace f_b341 := Lw4.frz z_b34 f_b341
        replace f_b342 := Lw4.frz z_b34 f_b342
        have z_b2 : w1.heap.size < w4.heap.size := World.block_lt_of_cell? _ _ b20
        have z_b34 : g36 < w4.heap.size := World.block_lt_of_cell? _ _ b340
        replace i0 := i0.ext Lw4
        replace i1 := i1.ext Lw4
        replace i2 := i2.ext Lw4
        replace i38 := i38.ext Lw4
        replace i39 := i39.ext Lw4
        have s_w4 : w.heap.size ≤ w4.heap.size := Xw4.size
        clear xw4
        try simp only [World.size_alloc, World.size_drew] at i45
        obtain ⟨afv44, cfv44, rfl⟩ := i45.form
        go_wp2_with fail
        refine (total_c (loadA mem b s t) (.slice afv44 ((loadA mem b s t).length) cfv44) _ _ (i45.ext (by repeat (first | (with_reducible assumption) | (with_reducible refine Ext.setCell ?_ (by first | (simp; done) | (simp; omega) | omega) _) | (with_reducible apply Ext.alloc) | (with_reducible apply Ext.drew) | (with_reducible apply Ext.drewN) | (with_reducible exact Ext.refl _)))) hl2.out).mono ?_
        rintro e w' ⟨rfl, rfl⟩
        have hq46e : ((sumA mem b s t : Int) == (sumL (loadA mem b s t) : Int)) = true := by have h7 : (sumA mem b s t : Int) = (sumL (loadA mem b s t) : Int) := hl1.out; simpa using h7
        have hq46n : ((sumA mem b s t : Int) != (sumL (loadA mem b s t) : Int)) = false := by have h7 : (sumA mem b s t : Int) = (sumL (loadA mem b s t) : Int) := hl1.out; simpa using h7
        go_wp2_with fail
        refine (implSumView_c mem (.slice p0 mem.length r0) b (.slice af40 PS.length cf41) (.slice af42 PT.length cf43) PS PT _ _ (i0.ext (by repeat (first | (with_reducible assumption) | (with_reducible refine Ext.setCell ?_ (by first | (simp; done) | (simp; omega) | omega) _) | (with_reducible apply Ext.alloc) | (with_reducible apply Ext.drew) | (with_reducible apply Ext.drewN) | (with_reducible exact Ext.refl _)))) _ _ (i38.ext (by repeat (first | (with_reducible assumption) | (with_reducible refine Ext.setCell ?_ (by first | (simp; done) | (simp; omega) | omega) _) | (with_reducible apply Ext.alloc) | (with_reducible apply Ext.drew) | (with_reducible apply Ext.drewN) | (with_reducible exact Ext.refl _)))) (i39.ext (by repeat (first | (with_reducible assumption) | (with_reducible refine Ext.setCell ?_ (by first | (simp; done) | (simp; omega) | omega) _) | (with_reducible apply Ext.alloc) | (with_reducible apply Ext.drew) | (with_reducible apply Ext.drewN) | (with_reducible exact Ext.refl _))))).mono ?_
        rintro e w5 ⟨rfl, xw5⟩
        have Lw5 : Ext w4 w5 := Ext.trans (by repeat (first | (with_reducible assumption) | (with_reducible refine Ext.setCell ?_ (by first | (simp; done) | (simp; omega) | omega) _) | (with_reducible apply Ext.alloc) | (with_reducible apply Ext.drew) | (with_reducible apply Ext.drewN) | (with_reducible exact Ext.refl _))) xw5
        have Xw5 : Ext w w5 := Xw4.trans Lw5
        replace b20 := Lw5.cell b20
        replace b21 := Lw5.cell b21
        replace b22 := Lw5.cell b22
        replace b340 := Lw5.cell b340
        replace b341 := Lw5.cell b341
        replace b342 := Lw5.cell b342
        replace f_b340 := Lw5.frz z_b34 f_b340
        replace f_b341 := Lw5.frz z_b34 f_b341
        replace f_b342 := Lw5.frz z_b34 f_b342
        have z_b2 : w1.heap.size < w5.heap.size := World.block_lt_of_cell? _ _ b20
        have z_b34 : g36 < w5.heap.size := World.block_lt_of_cell? _ _ b340
        replace i0 := i0.ext Lw5
        replace i1 := i1.ext Lw5
        replace i2 := i2.ext Lw5
        replace i38 := i38.ext Lw5
        replace i39 := i39.ext Lw5
        replace i45 := i45.ext Lw5
        have s_w5 : w.heap.size ≤ w5.heap.size := Xw5.size
        clear xw5
        have hq47e : ((sumA mem b PS PT : Int) == (sumA mem b s t : Int)) = true := by have h7 : (sumA mem b PS PT : Int) = (sumA mem b s t : Int) := hl4.out; simpa using h7
        have hq47n : ((sumA mem b PS PT : Int) != (sumA mem b s t : Int)) = false := by have h7 : (sumA mem b PS PT : Int) = (sumA mem b s t : Int) := hl4.out; simpa using h7
        go_wp2_with fail
        go_ret
        exact ⟨rfl, (Xw5.trans (by repeat (first | (with_reducible assumption) | (with_reducible refine Ext.setCell ?_ (by first | (simp; done) | (simp; omega) | omega) _) | (with_reducible apply Ext.alloc) | (with_reducible apply Ext.drew) | (with_reducible apply Ext.drewN) | (with_reducible exact Ext.refl _))))⟩


end Go.Proofs.Ytnjaidgifccgjaa

/- The law FnSumView holds for all bytes: the call returns true, and its argument reads as it did. No condition. -/
namespace Go.Proofs.Ytnjaidgifccgjaa.rowFnSumView
open Go.ChangeShapes Go.WideShapes Go.ChangeAt Go.RowKit
set_option linter.unusedVariables false

set_option maxHeartbeats 1000000 in
set_option maxRecDepth 100000 in
theorem lifted (os : Os) (started : os.Started) (H : Type) (enc : TypeId × Value → H) :
    ReturnsInHanded {} Try.checked os 12 .any (Rows.fnSumViewSpec.pre6 enc Try.prog Try.f12 Rows.fnSumViewRow.domain false) (Rows.fnSumViewSpec.post enc Try.prog Try.f12 false true false false) := by
  refine returnsInHanded_of_change (C := Try.checked) own started (by kernel_rfl) Try.func12
    (ChangeSpec.witness6 (enc := enc) (C := Try.checked) false ⟨#[], #[.slice none 0 0], []⟩ 8 (by kernel_rfl) (by kernel_rfl) (by kernel_rfl) (by kernel_rfl)) ?_
  intro W base args ds gs before hval0 hW hcnd _
  have hval : ∀ (j : Nat) t v, Try.f12.params[j]? = some t → args[j]? = some v → Value.okWide Try.prog W .any base t v := hval0
  have hW' := hW
  obtain ⟨p, q, hA0, hV, rfl, hfz, hnd⟩ := hW
  have hA : DataW.TrodAll enc Try.prog W 0 (fun _ => true) true Try.f12.params.toList args.toList ds p := hA0
  rw [Try.params12] at hA hval
  obtain ⟨v0, vs0, d0, ds0, p0, q0, hargs0, rfl, rfl, h0, r0⟩ := trodAll_cons hA
  obtain ⟨rfl, rfl, rfl⟩ := trodAll_nil r0
  obtain rfl : args = #[v0] := by cases args; simp_all
  obtain ⟨rfl, rfl⟩ := trodVars_none hV
  obtain ⟨a0, len0, cap0, rfl⟩ := okWide_slice Try.underlying22 (hval 0 22 v0 rfl rfl)
  have k0 := h0
  have lt0 : ∀ x ∈ p0, x.block < W.heap.size := by obtain ⟨m, hm⟩ := k0; exact DataW.trod_lt m _ _ _ hm
  have w0 : BysIn W a0 len0 cap0 := by
    obtain ⟨fuel, hf⟩ := h0
    rcases open_ints Try.underlying22 Try.underlying5 (by kernel_rfl) hf with ⟨hcs, _⟩ | ⟨x, l, c, zs, hcs, _, hl, hm, hz, _, hcell, hwz⟩
    · simp [Value.cells] at hcs
      obtain ⟨rfl, rfl, rfl⟩ := hcs
      exact ⟨Nat.le_refl _, by simp, fun i hi => absurd hi (by simp)⟩
    · simp [Value.cells] at hcs
      obtain ⟨rfl, rfl, rfl⟩ := hcs
      have hzl : zs.length = cap0 := by simpa using hz
      exact bys_of_cells hl hm hzl hcell hwz
  clear hA0 hval0
  refine (lawFnSumView_c a0 len0 cap0 W w0).mono fun e W' ⟨he, bel⟩ => ?_
  subst he
  exact ⟨_, rfl, _, _, _, [], _, [], hW', trodAll_mk1 (shut_bool Try.underlying4 _), (trodAll_cons_mk (Below.trod laidOut (by kernel_rfl) (of_decide_eq_true (by kernel_rfl)) k0 bel lt0) trodAll_mk0), rfl, Below.frame bel _, fun h => by cases h⟩

set_option maxHeartbeats 2000000 in
theorem closed : joinedFacts Try.checked.prog 12 Try.f12 Rows.fnSumViewSpec Rows.fnSumViewRow = true :=
  facts.all (by kernel_rfl) (by kernel_rfl) (by kernel_rfl) (by kernel_rfl) (by kernel_rfl) (by as_aux_lemma => kernel_rfl) (by as_aux_lemma => kernel_rfl) (by as_aux_lemma => kernel_rfl) (by as_aux_lemma => kernel_rfl)
    (by as_aux_lemma => kernel_rfl) (by as_aux_lemma => kernel_rfl) rfl rfl rfl rfl (by kernel_rfl) (by kernel_rfl) (by as_aux_lemma => kernel_rfl) (by as_aux_lemma => kernel_rfl)

theorem named : Try.pinned.checked.prog.funcNamed Rows.fnSumViewRow.func = some 12 := by kernel_rfl

theorem over : Rows.fnSumViewRow.holds Try.pinned (OpenSpec.ofChange Rows.fnSumViewSpec) :=
  OpenClaim.holds_of_wide 12 Try.f12 rfl rfl rfl rfl rfl rfl rfl ⟨rfl, rfl, rfl, rfl, rfl⟩ rfl rfl rfl rfl rfl named Try.func12 closed
    (of_decide_eq_true (by kernel_rfl)) (by unfold Func.isWrapper; exact ⟨rfl, rfl⟩)
    (fun os started H enc _ => lifted os started H enc)

theorem proved : Rows.FnSumViewSaid := over

end Go.Proofs.Ytnjaidgifccgjaa.rowFnSumView
