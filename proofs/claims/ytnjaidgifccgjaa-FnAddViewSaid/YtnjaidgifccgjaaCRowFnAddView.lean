/- Texts of these proofs put together: LvL, LvN, LvO, LvP, LawFnAddView, RowFnAddView. No condition. -/
import Derived.Test.YtnjaidgifccgjaaD1RowFnAddView
import Derived.Test.YtnjaidgifccgjaaM1
import Derived.Test.YtnjaidgifccgjaaM5
import Derived.Test.YtnjaidgifccgjaaM2
set_option linter.unusedVariables false
set_option linter.unusedSimpArgs false
/- Walks: bounds of the reference. -/
namespace Go.Proofs.Ytnjaidgifccgjaa
open Go.RowKit
set_option linter.unusedVariables false
set_option maxRecDepth 100000


theorem foldl_take_succ (f : Int → Int → Int) (l : List Int) (a : Int) (k : Nat) (h : k < l.length) : (l.take (k+1)).foldl f a = f ((l.take k).foldl f a) (l.getD k 0) := by
  rw [List.take_succ_eq_append_getElem h, List.foldl_append]; simp [h]
theorem offs_bd {b : Int} {s t : List Int} (h : viewB b s t = true) : ∀ x ∈ offsL b s t, 0 ≤ x ∧ x ≤ 59 := (viewB_in h).2.2.2.2
theorem offs_pos {b : Int} {s t : List Int} (h : viewB b s t = true) (hc : ¬ countL s = 0) : 0 < (offsL b s t).length := by
  have := shapeB_in (viewB_in h).1
  rw [offs_count]; omega
theorem offs_len60 {b : Int} {s t : List Int} (h : viewB b s t = true) : (offsL b s t).length ≤ 60 := by
  have := shapeB_in (viewB_in h).1
  rw [offs_count]; omega

set_option maxHeartbeats 1600000 in
theorem specBoundsOf_c (b1 : Int) (u1 v1 : Value) (s1 t1 : List Int) (w : World) (l1 m1 : Nat) (h1 : Ints w l1 u1 s1) (k1 : Ints w m1 v1 t1) :
    Calls Try.prog 28 #[.agg #[.int .i64 b1, u1, v1]] w (fun e w' => e = .returned (.tuple #[.int .i64 (bndT b1 s1 t1).1, .int .i64 (bndT b1 s1 t1).2]) ∧ Ext w w') := by
  obtain ⟨p0, c0, rfl⟩ := h1.form
  obtain ⟨p1, c1, rfl⟩ := k1.form
  go_enter Try.func28, Try.ntmps28
  go_wp2_with fail
  refine (validView_c b1 (.slice p0 s1.length c0) (.slice p1 t1.length c1) s1 t1 _ _ _ (h1.ext (by repeat (first | (with_reducible assumption) | (with_reducible refine Ext.setCell ?_ (by first | (simp; done) | (simp; omega) | omega) _) | (with_reducible apply Ext.alloc) | (with_reducible apply Ext.drew) | (with_reducible apply Ext.drewN) | (with_reducible exact Ext.refl _)))) (k1.ext (by repeat (first | (with_reducible assumption) | (with_reducible refine Ext.setCell ?_ (by first | (simp; done) | (simp; omega) | omega) _) | (with_reducible apply Ext.alloc) | (with_reducible apply Ext.drew) | (with_reducible apply Ext.drewN) | (with_reducible exact Ext.refl _))))).mono ?_
  rintro e w1 ⟨rfl, xw1⟩
  have Lw1 : Ext w w1 := Ext.trans (by repeat (first | (with_reducible assumption) | (with_reducible refine Ext.setCell ?_ (by first | (simp; done) | (simp; omega) | omega) _) | (with_reducible apply Ext.alloc) | (with_reducible apply Ext.drew) | (with_reducible apply Ext.drewN) | (with_reducible exact Ext.refl _))) xw1
  have Xw1 : Ext w w1 := Lw1
  have b10 : w1.cell? ⟨w.heap.size, 0, none⟩ = some (.int .i64 b1) := xw1.cell (by first | (simp; done) | ((repeat rw [World.cell?_alloc_lt _ _ _ (by simp <;> omega)]); simp; done) | (go_simp; done))
  have b11 : w1.cell? ⟨w.heap.size, 1, none⟩ = some (.slice p0 s1.length c0) := xw1.cell (by first | (simp; done) | ((repeat rw [World.cell?_alloc_lt _ _ _ (by simp <;> omega)]); simp; done) | (go_simp; done))
  have b12 : w1.cell? ⟨w.heap.size, 2, none⟩ = some (.slice p1 t1.length c1) := xw1.cell (by first | (simp; done) | ((repeat rw [World.cell?_alloc_lt _ _ _ (by simp <;> omega)]); simp; done) | (go_simp; done))
  have z_b1 : w.heap.size < w1.heap.size := World.block_lt_of_cell? _ _ b10
  have s_w1 : w.heap.size ≤ w1.heap.size := Xw1.size
  clear xw1
  cases hB2 : viewB b1 s1 t1
  · replace hB2 := Lib.hid hB2
    go_wp2_with fail
    go_ret2
    exact ⟨by rw [show bndT b1 s1 t1 = (-1, -1) from by unfold bndT; rw [hB2.out]; rfl] <;> rfl, (Xw1.trans (by repeat (first | (with_reducible assumption) | (with_reducible refine Ext.setCell ?_ (by first | (simp; done) | (simp; omega) | omega) _) | (with_reducible apply Ext.alloc) | (with_reducible apply Ext.drew) | (with_reducible apply Ext.drewN) | (with_reducible exact Ext.refl _))))⟩
  · replace hB2 := Lib.hid hB2
    go_wp2_with fail
    refine (count_c s1 (.slice p0 s1.length c0) _ _ (h1.ext (Xw1.trans (by repeat (first | (with_reducible assumption) | (with_reducible refine Ext.setCell ?_ (by first | (simp; done) | (simp; omega) | omega) _) | (with_reducible apply Ext.alloc) | (with_reducible apply Ext.drew) | (with_reducible apply Ext.drewN) | (with_reducible exact Ext.refl _)))))).mono ?_
    rintro e w' ⟨rfl, rfl⟩
    by_cases hc3 : (countL s1 : Int) = (0 : Int)
    · have hc3e : ((countL s1 : Int) == (0 : Int)) = true := by simpa using hc3
      have hc3n : ((countL s1 : Int) != (0 : Int)) = false := by simpa using hc3
      replace hc3 := Lib.hid hc3
      go_wp2_with fail
      go_ret2
      exact ⟨by rw [show bndT b1 s1 t1 = (-1, -1) from by unfold bndT; rw [if_neg (by simp [hc3.out])]] <;> rfl, (Xw1.trans (by repeat (first | (with_reducible assumption) | (with_reducible refine Ext.setCell ?_ (by first | (simp; done) | (simp; omega) | omega) _) | (with_reducible apply Ext.alloc) | (with_reducible apply Ext.drew) | (with_reducible apply Ext.drewN) | (with_reducible exact Ext.refl _))))⟩
    · have hc3e : ((countL s1 : Int) == (0 : Int)) = false := by simpa using hc3
      have hc3n : ((countL s1 : Int) != (0 : Int)) = true := by simpa using hc3
      replace hc3 := Lib.hid hc3
      go_wp2_with fail
      refine (offsets_c b1 (.slice p0 s1.length c0) (.slice p1 t1.length c1) s1 t1 _ _ _ (h1.ext (Xw1.trans (by repeat (first | (with_reducible assumption) | (with_reducible refine Ext.setCell ?_ (by first | (simp; done) | (simp; omega) | omega) _) | (with_reducible apply Ext.alloc) | (with_reducible apply Ext.drew) | (with_reducible apply Ext.drewN) | (with_reducible exact Ext.refl _))))) (k1.ext (Xw1.trans (by repeat (first | (with_reducible assumption) | (with_reducible refine Ext.setCell ?_ (by first | (simp; done) | (simp; omega) | omega) _) | (with_reducible apply Ext.alloc) | (with_reducible apply Ext.drew) | (with_reducible apply Ext.drewN) | (with_reducible exact Ext.refl _))))) (by first | omega | exact (vw hB2.out).1 | exact (vw hB2.out).2.1 | exact (vw hB2.out).2.2.1 | exact (vw hB2.out).2.2.2) (by first | omega | exact (vw hB2.out).1 | exact (vw hB2.out).2.1 | exact (vw hB2.out).2.2.1 | exact (vw hB2.out).2.2.2) (by first | omega | exact (vw hB2.out).1 | exact (vw hB2.out).2.1 | exact (vw hB2.out).2.2.1 | exact (vw hB2.out).2.2.2)).mono ?_
      rintro e w2 ⟨fv4, rfl, i5, -, xw2⟩
      have Lw2 : Ext w1 w2 := Ext.trans (by repeat (first | (with_reducible assumption) | (with_reducible refine Ext.setCell ?_ (by first | (simp; done) | (simp; omega) | omega) _) | (with_reducible apply Ext.alloc) | (with_reducible apply Ext.drew) | (with_reducible apply Ext.drewN) | (with_reducible exact Ext.refl _))) xw2
      have Xw2 : Ext w w2 := Xw1.trans Lw2
      replace b10 := Lw2.cell b10
      replace b11 := Lw2.cell b11
      replace b12 := Lw2.cell b12
      have z_b1 : w.heap.size < w2.heap.size := World.block_lt_of_cell? _ _ b10
      have s_w2 : w.heap.size ≤ w2.heap.size := Xw2.size
      clear xw2
      obtain ⟨afv4, cfv4, rfl⟩ := i5.form
      have hI_e8 : (0 : Int) < ((offsL b1 s1 t1).length : Int) := by have hB7 : 0 < (offsL b1 s1 t1).length := (offs_pos hB2.out hc3.out); omega
      obtain ⟨bl6, ol7, rfl, e80⟩ := i5.at 0 (offs_pos hB2.out hc3.out)
      rw [Nat.add_zero] at e80
      obtain ⟨v9, hv9⟩ : ∃ v, (offsL b1 s1 t1).getD 0 0 = v := ⟨_, rfl⟩
      rw [hv9] at e80
      replace hv9 := Lib.hid hv9
      have y_e8 : bl6 < w2.heap.size := World.block_lt_of_cell? _ _ e80
      have z_e8 := y_e8
      go_wp2_with fail
      have hlen := offs_len60 hB2.out
      go_loop [5, 6, 7] (fun x y i => ∃ (k : Nat), k ≤ (offsL b1 s1 t1).length ∧ i = .int .i64 k ∧ x = .int .i64 (((offsL b1 s1 t1).take k).foldl min v9) ∧ y = .int .i64 (((offsL b1 s1 t1).take k).foldl max v9)) (fun _ _ i => (offsL b1 s1 t1).length - (intOf i).toNat)
      case atStart => exact ⟨0, Nat.zero_le _, rfl, rfl, rfl⟩
      case round =>
        obtain ⟨k, hk, rfl, rfl, rfl⟩ := hrel
        by_cases hlt : k < (offsL b1 s1 t1).length
        · have hkI : (k : Int) < (offsL b1 s1 t1).length := by omega
          have hs1 := foldl_take_succ min (offsL b1 s1 t1) v9 k hlt
          have hs2 := foldl_take_succ max (offsL b1 s1 t1) v9 k hlt
          obtain ⟨b_e15, o_e15, h_e15, e150⟩ := i5.at k (by omega)
          cases h_e15
          obtain ⟨v16, hv16⟩ : ∃ v, (offsL b1 s1 t1).getD k 0 = v := ⟨_, rfl⟩
          rw [hv16] at e150
          replace hv16 := Lib.hid hv16
          have y_e15 : bl6 < w2.heap.size := World.block_lt_of_cell? _ _ e150
          have z_e15 := y_e15
          rw [hv16.out] at hs1 hs2
          replace hs1 := Lib.hid hs1
          replace hs2 := Lib.hid hs2
          go_wp2_with fail
          go_round
          case rel => exact ⟨k + 1, by omega, by go_num, by rw [hs1.out], by rw [hs2.out]⟩
          case measure => simp [intOf]; omega
        · have hkI : ¬ (k : Int) < (offsL b1 s1 t1).length := by omega
          go_wp2_with fail
          go_ret2
          exact ⟨by rw [show bndT b1 s1 t1 = (((offsL b1 s1 t1).take k).foldl min v9, ((offsL b1 s1 t1).take k).foldl max v9) by (unfold bndT minL maxL; rw [if_pos (by simp [hB2.out, hc3.out]), List.take_of_length_le (by omega), hv9.out])] <;> rfl, (Xw2.trans (by repeat (first | (with_reducible assumption) | (with_reducible refine Ext.setCell ?_ (by first | (simp; done) | (simp; omega) | omega) _) | (with_reducible apply Ext.alloc) | (with_reducible apply Ext.drew) | (with_reducible apply Ext.drewN) | (with_reducible exact Ext.refl _))))⟩


end Go.Proofs.Ytnjaidgifccgjaa

/- Walks: values that are stored, of the program and of the reference. -/
namespace Go.Proofs.Ytnjaidgifccgjaa
open Go.RowKit
set_option linter.unusedVariables false
set_option maxRecDepth 100000


def badV (vs : List Int) : Bool := vs.any (fun x => !inB 0 255 x)
def storeB (mem : List Int) (b : Int) (s t vs : List Int) : Bool := holdB mem b s t && (decide ((vs.length : Int) = countL s) && !badV vs)
def putA (mem : List Int) (b : Int) (s t vs : List Int) : List Int := if storeB mem b s t vs then putL mem (offsL b s t) vs else []
def addA (mem : List Int) (b : Int) (s t vs : List Int) : List Int := if storeB mem b s t vs then addUp mem (offsL b s t) vs (offsL b s t).length else []
theorem canStoreF_c (w : World) : Asks 106 #[] w (fun x => !inB 0 255 x) := by
  refine ⟨⟨Try.f106, Try.func106, rfl, by decide +kernel⟩, fun x => ?_⟩
  rw [show (#[Value.int .i64 x] ++ #[]) = #[.int .i64 x] by simp]
  go_enter Try.func106, Try.ntmps106
  go_wp2_with (go_at_call 105; refine (isValue_c _ _).mono ?_; rintro e w' ⟨rfl, rfl⟩)
  go_ret
  exact ⟨rfl, rfl⟩
theorem canStoreB_c (vs : List Int) (v : Value) (w : World) (lo : Nat) (hv : Ints w lo v vs) :
    Calls Try.prog 95 #[v, .func (.func 106) #[] #[]] w fun e w' => e = .returned (.bool (badV vs)) ∧ w = w' := containsFunc_c _ _ _ vs v w lo hv (canStoreF_c w)
theorem badV_all (vs : List Int) : vs.all (inB 0 255) = !badV vs := by unfold badV; simp [List.all_eq_not_any_not]
theorem store_in {mem : List Int} {b : Int} {s t vs : List Int} (h : storeB mem b s t vs = true) : holdB mem b s t = true ∧ vs.length = (offsL b s t).length ∧ (∀ x ∈ vs, 0 ≤ x ∧ x ≤ 255) ∧ viewB b s t = true ∧ (∀ x ∈ offsL b s t, 0 ≤ x ∧ x < mem.length) ∧ (mem.length ≤ 60 ∧ ∀ x ∈ mem, 0 ≤ x ∧ x ≤ 255) ∧ (offsL b s t).length ≤ 60 := by
  unfold storeB at h
  simp only [Bool.and_eq_true, decide_eq_true_eq, Bool.not_eq_true'] at h
  obtain ⟨h1, h2, h3⟩ := h
  obtain ⟨g1, g2, g3⟩ := hold_in h1
  have g4 := shapeB_in (viewB_in g2).1
  have g5 := badV_all vs
  rw [h3] at g5
  simp only [Bool.not_false, List.all_eq_true, inB, decide_eq_true_eq] at g5
  have g6 := g1
  unfold memB at g6
  simp only [Bool.and_eq_true, List.all_eq_true, decide_eq_true_eq, inB] at g6
  exact ⟨h1, by rw [offs_count]; omega, g5, g2, g3, g6, by rw [offs_count]; omega⟩
theorem PIntsB.nil {w w' : World} (h : Ext w w') : PIntsB w [] false (.returned (.tuple #[.slice none 0 0, .bool false])) w' :=
  ⟨_, rfl, Ints.nil _ _ _ _ (by simp) (fun _ => rfl), .inl ⟨rfl, none, 0, rfl, by simp, fun _ => rfl⟩, h⟩
theorem store_nil {mem : List Int} {b : Int} {s t vs : List Int} (h : storeB mem b s t vs = true) (hm : mem = []) : (offsL b s t).length = 0 := by
  obtain ⟨-, -, -, -, h5, -, -⟩ := store_in h
  cases hl : offsL b s t with
  | nil => rfl
  | cons x r => have := h5 x (by rw [hl]; simp); subst hm; simp at this; omega
theorem addUp_bd (mem ix vs : List Int) (hm : ∀ x ∈ mem, 0 ≤ x ∧ x ≤ 255) (k : Nat) : ∀ x ∈ addUp mem ix vs k, 0 ≤ x ∧ x ≤ 255 := by
  induction k with
  | zero => exact hm
  | succ k ih =>
    rw [addUp_succ]
    intro x hx
    rcases List.mem_or_eq_of_mem_set hx with h | h
    · exact ih x h
    · have := Int.emod_nonneg ((addUp mem ix vs k).getD (ix.getD k 0).toNat 0 + vs.getD k 0) (show (256 : Int) ≠ 0 by omega)
      have := Int.emod_lt_of_pos ((addUp mem ix vs k).getD (ix.getD k 0).toNat 0 + vs.getD k 0) (show (0 : Int) < 256 by omega)
      omega
theorem addUp_step {mem ix vs : List Int} {k j : Nat} {x y : Int} (hj : ix.getD k 0 = (j : Int)) (hx : (addUp mem ix vs k).getD j 0 = x) (hy : vs.getD k 0 = y) (h0 : 0 ≤ x) (h1 : 0 ≤ y) : addUp mem ix vs (k+1) = (addUp mem ix vs k).set j ((x + y).tmod 256) := by
  rw [addUp_succ, hj, hy, Int.toNat_natCast, hx, Int.tmod_eq_emod_of_nonneg (by omega)]

set_option maxHeartbeats 1600000 in
theorem canStore_c (mem : List Int) (a0 : Value) (b1 : Int) (u1 v1 : Value) (s1 t1 : List Int) (a3 : Value) (vs : List Int) (w : World) (l0 : Nat) (h0 : Ints w l0 a0 mem) (l1 m1 : Nat) (h1 : Ints w l1 u1 s1) (k1 : Ints w m1 v1 t1) (l3 : Nat) (h3 : Ints w l3 a3 vs) :
    Calls Try.prog 88 #[a0, .agg #[.int .i64 b1, u1, v1], a3] w (fun e w' => e = .returned (.bool (storeB mem b1 s1 t1 vs)) ∧ Ext w w') := by
  obtain ⟨p0, c0, rfl⟩ := h1.form
  obtain ⟨p1, c1, rfl⟩ := k1.form
  obtain ⟨p2, c2, rfl⟩ := h0.form
  obtain ⟨p3, c3, rfl⟩ := h3.form
  go_enter Try.func88, Try.ntmps88
  go_wp2_with fail
  refine (canHold_c mem (.slice p2 mem.length c2) b1 (.slice p0 s1.length c0) (.slice p1 t1.length c1) s1 t1 _ _ _ _ (h0.ext (by repeat (first | (with_reducible assumption) | (with_reducible refine Ext.setCell ?_ (by first | (simp; done) | (simp; omega) | omega) _) | (with_reducible apply Ext.alloc) | (with_reducible apply Ext.drew) | (with_reducible apply Ext.drewN) | (with_reducible exact Ext.refl _)))) (h1.ext (by repeat (first | (with_reducible assumption) | (with_reducible refine Ext.setCell ?_ (by first | (simp; done) | (simp; omega) | omega) _) | (with_reducible apply Ext.alloc) | (with_reducible apply Ext.drew) | (with_reducible apply Ext.drewN) | (with_reducible exact Ext.refl _)))) (k1.ext (by repeat (first | (with_reducible assumption) | (with_reducible refine Ext.setCell ?_ (by first | (simp; done) | (simp; omega) | omega) _) | (with_reducible apply Ext.alloc) | (with_reducible apply Ext.drew) | (with_reducible apply Ext.drewN) | (with_reducible exact Ext.refl _))))).mono ?_
  rintro e w1 ⟨rfl, xw1⟩
  have Lw1 : Ext w w1 := Ext.trans (by repeat (first | (with_reducible assumption) | (with_reducible refine Ext.setCell ?_ (by first | (simp; done) | (simp; omega) | omega) _) | (with_reducible apply Ext.alloc) | (with_reducible apply Ext.drew) | (with_reducible apply Ext.drewN) | (with_reducible exact Ext.refl _))) xw1
  have Xw1 : Ext w w1 := Lw1
  have b10 : w1.cell? ⟨w.heap.size, 0, none⟩ = some (.int .i64 b1) := xw1.cell (by first | (simp; done) | ((repeat rw [World.cell?_alloc_lt _ _ _ (by simp <;> omega)]); simp; done) | (go_simp; done))
  have b11 : w1.cell? ⟨w.heap.size, 1, none⟩ = some (.slice p0 s1.length c0) := xw1.cell (by first | (simp; done) | ((repeat rw [World.cell?_alloc_lt _ _ _ (by simp <;> omega)]); simp; done) | (go_simp; done))
  have b12 : w1.cell? ⟨w.heap.size, 2, none⟩ = some (.slice p1 t1.length c1) := xw1.cell (by first | (simp; done) | ((repeat rw [World.cell?_alloc_lt _ _ _ (by simp <;> omega)]); simp; done) | (go_simp; done))
  have z_b1 : w.heap.size < w1.heap.size := World.block_lt_of_cell? _ _ b10
  have s_w1 : w.heap.size ≤ w1.heap.size := Xw1.size
  clear xw1
  cases hB2 : holdB mem b1 s1 t1
  · replace hB2 := Lib.hid hB2
    go_wp2_with fail
    go_ret
    exact ⟨by rw [show storeB mem b1 s1 t1 vs = false from by unfold storeB; rw [hB2.out] <;> rfl] <;> rfl, (Xw1.trans (by repeat (first | (with_reducible assumption) | (with_reducible refine Ext.setCell ?_ (by first | (simp; done) | (simp; omega) | omega) _) | (with_reducible apply Ext.alloc) | (with_reducible apply Ext.drew) | (with_reducible apply Ext.drewN) | (with_reducible exact Ext.refl _))))⟩
  · replace hB2 := Lib.hid hB2
    go_wp2_with fail
    refine (countOf_c s1 (.slice p0 s1.length c0) _ _ (h1.ext (Xw1.trans (by repeat (first | (with_reducible assumption) | (with_reducible refine Ext.setCell ?_ (by first | (simp; done) | (simp; omega) | omega) _) | (with_reducible apply Ext.alloc) | (with_reducible apply Ext.drew) | (with_reducible apply Ext.drewN) | (with_reducible exact Ext.refl _)))))).mono ?_
    rintro e w' ⟨rfl, rfl⟩
    by_cases hc3 : (vs.length : Int) = (countL s1 : Int)
    · have hc3e : ((vs.length : Int) == (countL s1 : Int)) = true := by simpa using hc3
      have hc3n : ((vs.length : Int) != (countL s1 : Int)) = false := by simpa using hc3
      replace hc3 := Lib.hid hc3
      go_wp2_with fail
      refine (canStoreB_c vs (.slice p3 vs.length c3) _ _ (h3.ext (Xw1.trans (by repeat (first | (with_reducible assumption) | (with_reducible refine Ext.setCell ?_ (by first | (simp; done) | (simp; omega) | omega) _) | (with_reducible apply Ext.alloc) | (with_reducible apply Ext.drew) | (with_reducible apply Ext.drewN) | (with_reducible exact Ext.refl _)))))).mono ?_
      rintro e w' ⟨rfl, rfl⟩
      cases hB4 : badV vs
      · replace hB4 := Lib.hid hB4
        go_wp2_with fail
        go_ret
        exact ⟨by rw [show storeB mem b1 s1 t1 vs = true from by unfold storeB; rw [hB2.out, decide_eq_true hc3.out, hB4.out] <;> rfl] <;> rfl, (Xw1.trans (by repeat (first | (with_reducible assumption) | (with_reducible refine Ext.setCell ?_ (by first | (simp; done) | (simp; omega) | omega) _) | (with_reducible apply Ext.alloc) | (with_reducible apply Ext.drew) | (with_reducible apply Ext.drewN) | (with_reducible exact Ext.refl _))))⟩
      · replace hB4 := Lib.hid hB4
        go_wp2_with fail
        go_ret
        exact ⟨by rw [show storeB mem b1 s1 t1 vs = false from by unfold storeB; rw [hB2.out, decide_eq_true hc3.out, hB4.out] <;> rfl] <;> rfl, (Xw1.trans (by repeat (first | (with_reducible assumption) | (with_reducible refine Ext.setCell ?_ (by first | (simp; done) | (simp; omega) | omega) _) | (with_reducible apply Ext.alloc) | (with_reducible apply Ext.drew) | (with_reducible apply Ext.drewN) | (with_reducible exact Ext.refl _))))⟩
    · have hc3e : ((vs.length : Int) == (countL s1 : Int)) = false := by simpa using hc3
      have hc3n : ((vs.length : Int) != (countL s1 : Int)) = true := by simpa using hc3
      replace hc3 := Lib.hid hc3
      go_wp2_with fail
      go_ret
      exact ⟨by rw [show storeB mem b1 s1 t1 vs = false from by unfold storeB; rw [hB2.out, decide_eq_false hc3.out] <;> rfl] <;> rfl, (Xw1.trans (by repeat (first | (with_reducible assumption) | (with_reducible refine Ext.setCell ?_ (by first | (simp; done) | (simp; omega) | omega) _) | (with_reducible apply Ext.alloc) | (with_reducible apply Ext.drew) | (with_reducible apply Ext.drewN) | (with_reducible exact Ext.refl _))))⟩

set_option maxHeartbeats 1600000 in
theorem implStoreView_c (mem : List Int) (a0 : Value) (b1 : Int) (u1 v1 : Value) (s1 t1 : List Int) (a3 : Value) (vs : List Int) (w : World) (l0 : Nat) (h0 : Ints w l0 a0 mem) (l1 m1 : Nat) (h1 : Ints w l1 u1 s1) (k1 : Ints w m1 v1 t1) (l3 : Nat) (h3 : Ints w l3 a3 vs) :
    Calls Try.prog 39 #[a0, .agg #[.int .i64 b1, u1, v1], a3] w (PIntsB w (putA mem b1 s1 t1 vs) (storeB mem b1 s1 t1 vs)) := by
  obtain ⟨p0, c0, rfl⟩ := h1.form
  obtain ⟨p1, c1, rfl⟩ := k1.form
  obtain ⟨p2, c2, rfl⟩ := h0.form
  obtain ⟨p3, c3, rfl⟩ := h3.form
  go_enter Try.func39, Try.ntmps39
  go_wp2_with fail
  refine (canStore_c mem (.slice p2 mem.length c2) b1 (.slice p0 s1.length c0) (.slice p1 t1.length c1) s1 t1 (.slice p3 vs.length c3) vs _ _ (h0.ext (by repeat (first | (with_reducible assumption) | (with_reducible refine Ext.setCell ?_ (by first | (simp; done) | (simp; omega) | omega) _) | (with_reducible apply Ext.alloc) | (with_reducible apply Ext.drew) | (with_reducible apply Ext.drewN) | (with_reducible exact Ext.refl _)))) _ _ (h1.ext (by repeat (first | (with_reducible assumption) | (with_reducible refine Ext.setCell ?_ (by first | (simp; done) | (simp; omega) | omega) _) | (with_reducible apply Ext.alloc) | (with_reducible apply Ext.drew) | (with_reducible apply Ext.drewN) | (with_reducible exact Ext.refl _)))) (k1.ext (by repeat (first | (with_reducible assumption) | (with_reducible refine Ext.setCell ?_ (by first | (simp; done) | (simp; omega) | omega) _) | (with_reducible apply Ext.alloc) | (with_reducible apply Ext.drew) | (with_reducible apply Ext.drewN) | (with_reducible exact Ext.refl _)))) _ (h3.ext (by repeat (first | (with_reducible assumption) | (with_reducible refine Ext.setCell ?_ (by first | (simp; done) | (simp; omega) | omega) _) | (with_reducible apply Ext.alloc) | (with_reducible apply Ext.drew) | (with_reducible apply Ext.drewN) | (with_reducible exact Ext.refl _))))).mono ?_
  rintro e w1 ⟨rfl, xw1⟩
  have Lw1 : Ext w w1 := Ext.trans (by repeat (first | (with_reducible assumption) | (with_reducible refine Ext.setCell ?_ (by first | (simp; done) | (simp; omega) | omega) _) | (with_reducible apply Ext.alloc) | (with_reducible apply Ext.drew) | (with_reducible apply Ext.drewN) | (with_reducible exact Ext.refl _))) xw1
  have Xw1 : Ext w w1 := Lw1
  have b10 : w1.cell? ⟨w.heap.size, 0, none⟩ = some (.int .i64 b1) := xw1.cell (by first | (simp; done) | ((repeat rw [World.cell?_alloc_lt _ _ _ (by simp <;> omega)]); simp; done) | (go_simp; done))
  have b11 : w1.cell? ⟨w.heap.size, 1, none⟩ = some (.slice p0 s1.length c0) := xw1.cell (by first | (simp; done) | ((repeat rw [World.cell?_alloc_lt _ _ _ (by simp <;> omega)]); simp; done) | (go_simp; done))
  have b12 : w1.cell? ⟨w.heap.size, 2, none⟩ = some (.slice p1 t1.length c1) := xw1.cell (by first | (simp; done) | ((repeat rw [World.cell?_alloc_lt _ _ _ (by simp <;> omega)]); simp; done) | (go_simp; done))
  have z_b1 : w.heap.size < w1.heap.size := World.block_lt_of_cell? _ _ b10
  have s_w1 : w.heap.size ≤ w1.heap.size := Xw1.size
  clear xw1
  cases hB2 : storeB mem b1 s1 t1 vs
  · replace hB2 := Lib.hid hB2
    go_wp2_with fail
    go_ret2
    rw [show putA mem b1 s1 t1 vs = [] by unfold putA; rw [hB2.out]; rfl, hB2.out]
    exact PIntsB.nil (Xw1.trans (by repeat (first | (with_reducible assumption) | (with_reducible refine Ext.setCell ?_ (by first | (simp; done) | (simp; omega) | omega) _) | (with_reducible apply Ext.alloc) | (with_reducible apply Ext.drew) | (with_reducible apply Ext.drewN) | (with_reducible exact Ext.refl _))))
  · replace hB2 := Lib.hid hB2
    go_wp2_with fail
    refine (storeView_c mem vs (.slice p2 mem.length c2) (.slice p3 vs.length c3) b1 (.slice p0 s1.length c0) (.slice p1 t1.length c1) s1 t1 _ _ _ _ _ (h0.ext (Xw1.trans (by repeat (first | (with_reducible assumption) | (with_reducible refine Ext.setCell ?_ (by first | (simp; done) | (simp; omega) | omega) _) | (with_reducible apply Ext.alloc) | (with_reducible apply Ext.drew) | (with_reducible apply Ext.drewN) | (with_reducible exact Ext.refl _))))) (h1.ext (Xw1.trans (by repeat (first | (with_reducible assumption) | (with_reducible refine Ext.setCell ?_ (by first | (simp; done) | (simp; omega) | omega) _) | (with_reducible apply Ext.alloc) | (with_reducible apply Ext.drew) | (with_reducible apply Ext.drewN) | (with_reducible exact Ext.refl _))))) (k1.ext (Xw1.trans (by repeat (first | (with_reducible assumption) | (with_reducible refine Ext.setCell ?_ (by first | (simp; done) | (simp; omega) | omega) _) | (with_reducible apply Ext.alloc) | (with_reducible apply Ext.drew) | (with_reducible apply Ext.drewN) | (with_reducible exact Ext.refl _))))) (h3.ext (Xw1.trans (by repeat (first | (with_reducible assumption) | (with_reducible refine Ext.setCell ?_ (by first | (simp; done) | (simp; omega) | omega) _) | (with_reducible apply Ext.alloc) | (with_reducible apply Ext.drew) | (with_reducible apply Ext.drewN) | (with_reducible exact Ext.refl _))))) (store_in hB2.out).2.2.2.2.2.1.1 (store_in hB2.out).2.2.2.1 (store_in hB2.out).2.2.2.2.1 (store_in hB2.out).2.1).mono ?_
    rintro e w2 ⟨fv3, rfl, i4, i4z, xw2⟩
    have Lw2 : Ext w1 w2 := Ext.trans (by repeat (first | (with_reducible assumption) | (with_reducible refine Ext.setCell ?_ (by first | (simp; done) | (simp; omega) | omega) _) | (with_reducible apply Ext.alloc) | (with_reducible apply Ext.drew) | (with_reducible apply Ext.drewN) | (with_reducible exact Ext.refl _))) xw2
    have Xw2 : Ext w w2 := Xw1.trans Lw2
    replace b10 := Lw2.cell b10
    replace b11 := Lw2.cell b11
    replace b12 := Lw2.cell b12
    have z_b1 : w.heap.size < w2.heap.size := World.block_lt_of_cell? _ _ b10
    have s_w2 : w.heap.size ≤ w2.heap.size := Xw2.size
    clear xw2
    obtain ⟨afv3, cfv3, rfl⟩ := i4.form
    go_wp2_with fail
    go_ret2
    rw [show putA mem b1 s1 t1 vs = putL mem (offsL b1 s1 t1) vs by unfold putA; rw [hB2.out]; rfl, hB2.out]
    exact ⟨_, rfl, i4.lower (by omega), i4z.lower (by omega), Xw2⟩

set_option maxHeartbeats 1600000 in
theorem specStoreView_c (mem : List Int) (a0 : Value) (b1 : Int) (u1 v1 : Value) (s1 t1 : List Int) (a3 : Value) (vs : List Int) (w : World) (l0 : Nat) (h0 : Ints w l0 a0 mem) (l1 m1 : Nat) (h1 : Ints w l1 u1 s1) (k1 : Ints w m1 v1 t1) (l3 : Nat) (h3 : Ints w l3 a3 vs) :
    Calls Try.prog 40 #[a0, .agg #[.int .i64 b1, u1, v1], a3] w (PIntsB w (putA mem b1 s1 t1 vs) (storeB mem b1 s1 t1 vs)) := by
  obtain ⟨p0, c0, rfl⟩ := h1.form
  obtain ⟨p1, c1, rfl⟩ := k1.form
  obtain ⟨p2, c2, rfl⟩ := h0.form
  obtain ⟨p3, c3, rfl⟩ := h3.form
  go_enter Try.func40, Try.ntmps40
  go_wp2_with fail
  refine (sees_c mem (.slice p2 mem.length c2) b1 (.slice p0 s1.length c0) (.slice p1 t1.length c1) s1 t1 _ _ _ _ (h0.ext (by repeat (first | (with_reducible assumption) | (with_reducible refine Ext.setCell ?_ (by first | (simp; done) | (simp; omega) | omega) _) | (with_reducible apply Ext.alloc) | (with_reducible apply Ext.drew) | (with_reducible apply Ext.drewN) | (with_reducible exact Ext.refl _)))) (h1.ext (by repeat (first | (with_reducible assumption) | (with_reducible refine Ext.setCell ?_ (by first | (simp; done) | (simp; omega) | omega) _) | (with_reducible apply Ext.alloc) | (with_reducible apply Ext.drew) | (with_reducible apply Ext.drewN) | (with_reducible exact Ext.refl _)))) (k1.ext (by repeat (first | (with_reducible assumption) | (with_reducible refine Ext.setCell ?_ (by first | (simp; done) | (simp; omega) | omega) _) | (with_reducible apply Ext.alloc) | (with_reducible apply Ext.drew) | (with_reducible apply Ext.drewN) | (with_reducible exact Ext.refl _))))).mono ?_
  rintro e w1 ⟨rfl, xw1⟩
  have Lw1 : Ext w w1 := Ext.trans (by repeat (first | (with_reducible assumption) | (with_reducible refine Ext.setCell ?_ (by first | (simp; done) | (simp; omega) | omega) _) | (with_reducible apply Ext.alloc) | (with_reducible apply Ext.drew) | (with_reducible apply Ext.drewN) | (with_reducible exact Ext.refl _))) xw1
  have Xw1 : Ext w w1 := Lw1
  have b10 : w1.cell? ⟨w.heap.size, 0, none⟩ = some (.int .i64 b1) := xw1.cell (by first | (simp; done) | ((repeat rw [World.cell?_alloc_lt _ _ _ (by simp <;> omega)]); simp; done) | (go_simp; done))
  have b11 : w1.cell? ⟨w.heap.size, 1, none⟩ = some (.slice p0 s1.length c0) := xw1.cell (by first | (simp; done) | ((repeat rw [World.cell?_alloc_lt _ _ _ (by simp <;> omega)]); simp; done) | (go_simp; done))
  have b12 : w1.cell? ⟨w.heap.size, 2, none⟩ = some (.slice p1 t1.length c1) := xw1.cell (by first | (simp; done) | ((repeat rw [World.cell?_alloc_lt _ _ _ (by simp <;> omega)]); simp; done) | (go_simp; done))
  have z_b1 : w.heap.size < w1.heap.size := World.block_lt_of_cell? _ _ b10
  have s_w1 : w.heap.size ≤ w1.heap.size := Xw1.size
  clear xw1
  cases hB2 : holdB mem b1 s1 t1
  · replace hB2 := Lib.hid hB2
    go_wp2_with fail
    go_ret2
    rw [show putA mem b1 s1 t1 vs = [] by unfold putA; rw [(show storeB mem b1 s1 t1 vs = false from by unfold storeB; rw [hB2.out] <;> rfl)]; rfl, (show storeB mem b1 s1 t1 vs = false from by unfold storeB; rw [hB2.out] <;> rfl)]
    exact PIntsB.nil (Xw1.trans (by repeat (first | (with_reducible assumption) | (with_reducible refine Ext.setCell ?_ (by first | (simp; done) | (simp; omega) | omega) _) | (with_reducible apply Ext.alloc) | (with_reducible apply Ext.drew) | (with_reducible apply Ext.drewN) | (with_reducible exact Ext.refl _))))
  · replace hB2 := Lib.hid hB2
    go_wp2_with fail
    refine (count_c s1 (.slice p0 s1.length c0) _ _ (h1.ext (Xw1.trans (by repeat (first | (with_reducible assumption) | (with_reducible refine Ext.setCell ?_ (by first | (simp; done) | (simp; omega) | omega) _) | (with_reducible apply Ext.alloc) | (with_reducible apply Ext.drew) | (with_reducible apply Ext.drewN) | (with_reducible exact Ext.refl _)))))).mono ?_
    rintro e w' ⟨rfl, rfl⟩
    by_cases hc3 : (vs.length : Int) = (countL s1 : Int)
    · have hc3e : ((vs.length : Int) == (countL s1 : Int)) = true := by simpa using hc3
      have hc3n : ((vs.length : Int) != (countL s1 : Int)) = false := by simpa using hc3
      replace hc3 := Lib.hid hc3
      go_wp2_with fail
      refine (allIn_c vs (.slice p3 vs.length c3) 0 255 _ _ (h3.ext (Xw1.trans (by repeat (first | (with_reducible assumption) | (with_reducible refine Ext.setCell ?_ (by first | (simp; done) | (simp; omega) | omega) _) | (with_reducible apply Ext.alloc) | (with_reducible apply Ext.drew) | (with_reducible apply Ext.drewN) | (with_reducible exact Ext.refl _)))))).mono ?_
      rintro e w' ⟨rfl, rfl⟩
      cases hB4 : vs.all (inB 0 255)
      · replace hB4 := Lib.hid hB4
        go_wp2_with fail
        go_ret2
        rw [show putA mem b1 s1 t1 vs = [] by unfold putA; rw [(show storeB mem b1 s1 t1 vs = false from by unfold storeB; rw [hB2.out, decide_eq_true hc3.out, ← badV_all, hB4.out] <;> rfl)]; rfl, (show storeB mem b1 s1 t1 vs = false from by unfold storeB; rw [hB2.out, decide_eq_true hc3.out, ← badV_all, hB4.out] <;> rfl)]
        exact PIntsB.nil (Xw1.trans (by repeat (first | (with_reducible assumption) | (with_reducible refine Ext.setCell ?_ (by first | (simp; done) | (simp; omega) | omega) _) | (with_reducible apply Ext.alloc) | (with_reducible apply Ext.drew) | (with_reducible apply Ext.drewN) | (with_reducible exact Ext.refl _))))
      · replace hB4 := Lib.hid hB4
        have hst : storeB mem b1 s1 t1 vs = true := by unfold storeB; rw [hB2.out, decide_eq_true hc3.out, ← badV_all, hB4.out] <;> rfl
        replace hst := Lib.hid hst
        go_wp2_with fail
        refine (put_c mem vs (.slice p2 mem.length c2) (.slice p3 vs.length c3) b1 (.slice p0 s1.length c0) (.slice p1 t1.length c1) s1 t1 _ _ _ _ _ (h0.ext (Xw1.trans (by repeat (first | (with_reducible assumption) | (with_reducible refine Ext.setCell ?_ (by first | (simp; done) | (simp; omega) | omega) _) | (with_reducible apply Ext.alloc) | (with_reducible apply Ext.drew) | (with_reducible apply Ext.drewN) | (with_reducible exact Ext.refl _))))) (h1.ext (Xw1.trans (by repeat (first | (with_reducible assumption) | (with_reducible refine Ext.setCell ?_ (by first | (simp; done) | (simp; omega) | omega) _) | (with_reducible apply Ext.alloc) | (with_reducible apply Ext.drew) | (with_reducible apply Ext.drewN) | (with_reducible exact Ext.refl _))))) (k1.ext (Xw1.trans (by repeat (first | (with_reducible assumption) | (with_reducible refine Ext.setCell ?_ (by first | (simp; done) | (simp; omega) | omega) _) | (with_reducible apply Ext.alloc) | (with_reducible apply Ext.drew) | (with_reducible apply Ext.drewN) | (with_reducible exact Ext.refl _))))) (h3.ext (Xw1.trans (by repeat (first | (with_reducible assumption) | (with_reducible refine Ext.setCell ?_ (by first | (simp; done) | (simp; omega) | omega) _) | (with_reducible apply Ext.alloc) | (with_reducible apply Ext.drew) | (with_reducible apply Ext.drewN) | (with_reducible exact Ext.refl _))))) (store_in hst.out).2.2.2.2.2.1.1 (store_in hst.out).2.2.2.1 (store_in hst.out).2.2.2.2.1 (store_in hst.out).2.1).mono ?_
        rintro e w2 ⟨fv5, rfl, i6, i6z, xw2⟩
        have Lw2 : Ext w1 w2 := Ext.trans (by repeat (first | (with_reducible assumption) | (with_reducible refine Ext.setCell ?_ (by first | (simp; done) | (simp; omega) | omega) _) | (with_reducible apply Ext.alloc) | (with_reducible apply Ext.drew) | (with_reducible apply Ext.drewN) | (with_reducible exact Ext.refl _))) xw2
        have Xw2 : Ext w w2 := Xw1.trans Lw2
        replace b10 := Lw2.cell b10
        replace b11 := Lw2.cell b11
        replace b12 := Lw2.cell b12
        have z_b1 : w.heap.size < w2.heap.size := World.block_lt_of_cell? _ _ b10
        have s_w2 : w.heap.size ≤ w2.heap.size := Xw2.size
        clear xw2
        obtain ⟨afv5, cfv5, rfl⟩ := i6.form
        go_wp2_with fail
        go_ret2
        rw [show putA mem b1 s1 t1 vs = putL mem (offsL b1 s1 t1) vs by unfold putA; rw [hst.out]; rfl, hst.out]
        exact ⟨_, rfl, i6.lower (by omega), i6z.lower (by omega), Xw2⟩
    · have hc3e : ((vs.length : Int) == (countL s1 : Int)) = false := by simpa using hc3
      have hc3n : ((vs.length : Int) != (countL s1 : Int)) = true := by simpa using hc3
      replace hc3 := Lib.hid hc3
      go_wp2_with fail
      go_ret2
      rw [show putA mem b1 s1 t1 vs = [] by unfold putA; rw [(show storeB mem b1 s1 t1 vs = false from by unfold storeB; rw [hB2.out, decide_eq_false hc3.out] <;> rfl)]; rfl, (show storeB mem b1 s1 t1 vs = false from by unfold storeB; rw [hB2.out, decide_eq_false hc3.out] <;> rfl)]
      exact PIntsB.nil (Xw1.trans (by repeat (first | (with_reducible assumption) | (with_reducible refine Ext.setCell ?_ (by first | (simp; done) | (simp; omega) | omega) _) | (with_reducible apply Ext.alloc) | (with_reducible apply Ext.drew) | (with_reducible apply Ext.drewN) | (with_reducible exact Ext.refl _))))


end Go.Proofs.Ytnjaidgifccgjaa

/- Walks: values that are added, of the program. -/
namespace Go.Proofs.Ytnjaidgifccgjaa
open Go.RowKit
set_option linter.unusedVariables false
set_option maxRecDepth 100000

set_option maxHeartbeats 3200000 in
theorem implAddView0 (mem : List Int) (a0 : Value) (b1 : Int) (u1 v1 : Value) (s1 t1 : List Int) (a3 : Value) (vs : List Int) (w : World) (l0 : Nat) (h0 : Ints w l0 a0 mem) (l1 m1 : Nat) (h1 : Ints w l1 u1 s1) (k1 : Ints w m1 v1 t1) (l3 : Nat) (h3 : Ints w l3 a3 vs) (hme : mem = []) :
    Calls Try.prog 42 #[a0, .agg #[.int .i64 b1, u1, v1], a3] w (PIntsB w (addA mem b1 s1 t1 vs) (storeB mem b1 s1 t1 vs)) := by
  obtain ⟨p0, c0, rfl⟩ := h1.form
  obtain ⟨p1, c1, rfl⟩ := k1.form
  obtain ⟨p2, c2, rfl⟩ := h0.form
  obtain ⟨p3, c3, rfl⟩ := h3.form
  replace hme := Lib.hid hme
  go_enter Try.func42, Try.ntmps42
  go_wp2_with fail
  refine (canStore_c mem (.slice p2 mem.length c2) b1 (.slice p0 s1.length c0) (.slice p1 t1.length c1) s1 t1 (.slice p3 vs.length c3) vs _ _ (h0.ext (by repeat (first | (with_reducible assumption) | (with_reducible refine Ext.setCell ?_ (by first | (simp; done) | (simp; omega) | omega) _) | (with_reducible apply Ext.alloc) | (with_reducible apply Ext.drew) | (with_reducible apply Ext.drewN) | (with_reducible exact Ext.refl _)))) _ _ (h1.ext (by repeat (first | (with_reducible assumption) | (with_reducible refine Ext.setCell ?_ (by first | (simp; done) | (simp; omega) | omega) _) | (with_reducible apply Ext.alloc) | (with_reducible apply Ext.drew) | (with_reducible apply Ext.drewN) | (with_reducible exact Ext.refl _)))) (k1.ext (by repeat (first | (with_reducible assumption) | (with_reducible refine Ext.setCell ?_ (by first | (simp; done) | (simp; omega) | omega) _) | (with_reducible apply Ext.alloc) | (with_reducible apply Ext.drew) | (with_reducible apply Ext.drewN) | (with_reducible exact Ext.refl _)))) _ (h3.ext (by repeat (first | (with_reducible assumption) | (with_reducible refine Ext.setCell ?_ (by first | (simp; done) | (simp; omega) | omega) _) | (with_reducible apply Ext.alloc) | (with_reducible apply Ext.drew) | (with_reducible apply Ext.drewN) | (with_reducible exact Ext.refl _))))).mono ?_
  rintro e w1 ⟨rfl, xw1⟩
  have Lw1 : Ext w w1 := Ext.trans (by repeat (first | (with_reducible assumption) | (with_reducible refine Ext.setCell ?_ (by first | (simp; done) | (simp; omega) | omega) _) | (with_reducible apply Ext.alloc) | (with_reducible apply Ext.drew) | (with_reducible apply Ext.drewN) | (with_reducible exact Ext.refl _))) xw1
  have Xw1 : Ext w w1 := Lw1
  have b10 : w1.cell? ⟨w.heap.size, 0, none⟩ = some (.int .i64 b1) := xw1.cell (by first | (simp; done) | ((repeat rw [World.cell?_alloc_lt _ _ _ (by simp <;> omega)]); simp; done) | (go_simp; done))
  have b11 : w1.cell? ⟨w.heap.size, 1, none⟩ = some (.slice p0 s1.length c0) := xw1.cell (by first | (simp; done) | ((repeat rw [World.cell?_alloc_lt _ _ _ (by simp <;> omega)]); simp; done) | (go_simp; done))
  have b12 : w1.cell? ⟨w.heap.size, 2, none⟩ = some (.slice p1 t1.length c1) := xw1.cell (by first | (simp; done) | ((repeat rw [World.cell?_alloc_lt _ _ _ (by simp <;> omega)]); simp; done) | (go_simp; done))
  have z_b1 : w.heap.size < w1.heap.size := World.block_lt_of_cell? _ _ b10
  have s_w1 : w.heap.size ≤ w1.heap.size := Xw1.size
  clear xw1
  cases hB2 : storeB mem b1 s1 t1 vs
  · replace hB2 := Lib.hid hB2
    go_wp2_with fail
    go_ret2
    rw [show addA mem b1 s1 t1 vs = [] by unfold addA; rw [hB2.out]; rfl, hB2.out]
    exact PIntsB.nil (Xw1.trans (by repeat (first | (with_reducible assumption) | (with_reducible refine Ext.setCell ?_ (by first | (simp; done) | (simp; omega) | omega) _) | (with_reducible apply Ext.alloc) | (with_reducible apply Ext.drew) | (with_reducible apply Ext.drewN) | (with_reducible exact Ext.refl _))))
  · replace hB2 := Lib.hid hB2
    have Q6_b10 := Lib.hid b10
    have Q6_b11 := Lib.hid b11
    have Q6_b12 := Lib.hid b12
    have Q6_zb1 := z_b1
    have BL7 : Ext w1 w1 := Ext.refl _
    have hln3 : mem.length ≤ 4194304 := ((h0.ext Xw1)).len
    go_wp2_with (at_builtin; refine wpList_app rfl (.tmp 16) (.tmp 17) rfl rfl rfl (OwnI.lit0 w1 w1.heap.size (Nat.le_refl _)) ((h0.ext Xw1).ext ((Ext.refl _).alloc _)) (by simpa using hln3) (by simp) ?_)
    intro vv5 w2 O4 hg7 hb7 _
    have xw2 : Ext w1 w2 := ((Ext.refl _).alloc _).below hb7 (Nat.le_refl _)
    clear hg7 hb7
    replace O4 : OwnI w2 w1.heap.size vv5 mem := O4
    have Lw2 : Ext w1 w2 := Ext.trans (by repeat (first | (with_reducible assumption) | (with_reducible refine Ext.setCell ?_ (by first | (simp; done) | (simp; omega) | omega) _) | (with_reducible apply Ext.alloc) | (with_reducible apply Ext.drew) | (with_reducible apply Ext.drewN) | (with_reducible exact Ext.refl _))) xw2
    have Xw2 : Ext w w2 := Xw1.trans Lw2
    replace b10 := Lw2.cell b10
    replace b11 := Lw2.cell b11
    replace b12 := Lw2.cell b12
    have z_b1 : w.heap.size < w2.heap.size := World.block_lt_of_cell? _ _ b10
    have s_w2 : w.heap.size ≤ w2.heap.size := Xw2.size
    have BL7_w2 : Ext w1 w2 := BL7.trans Lw2
    clear xw2
    obtain ⟨aa8, cc9, rfl⟩ := (O4.ints hln3).form
    go_wp2_with fail
    refine (offsetsOf_c b1 (.slice p0 s1.length c0) (.slice p1 t1.length c1) s1 t1 _ _ _ (h1.ext (Xw2.trans (by repeat (first | (with_reducible assumption) | (with_reducible refine Ext.setCell ?_ (by first | (simp; done) | (simp; omega) | omega) _) | (with_reducible apply Ext.alloc) | (with_reducible apply Ext.drew) | (with_reducible apply Ext.drewN) | (with_reducible exact Ext.refl _))))) (k1.ext (Xw2.trans (by repeat (first | (with_reducible assumption) | (with_reducible refine Ext.setCell ?_ (by first | (simp; done) | (simp; omega) | omega) _) | (with_reducible apply Ext.alloc) | (with_reducible apply Ext.drew) | (with_reducible apply Ext.drewN) | (with_reducible exact Ext.refl _))))) (vw (store_in hB2.out).2.2.2.1).1 (vw (store_in hB2.out).2.2.2.1).2.1 (vw (store_in hB2.out).2.2.2.1).2.2.1).mono ?_
    rintro e w3 ⟨fv10, rfl, i11, i11z, xw3⟩
    have Lw3 : Ext w2 w3 := Ext.trans (by repeat (first | (with_reducible assumption) | (with_reducible refine Ext.setCell ?_ (by first | (simp; done) | (simp; omega) | omega) _) | (with_reducible apply Ext.alloc) | (with_reducible apply Ext.drew) | (with_reducible apply Ext.drewN) | (with_reducible exact Ext.refl _))) xw3
    have Xw3 : Ext w w3 := Xw2.trans Lw3
    replace b10 := Lw3.cell b10
    replace b11 := Lw3.cell b11
    replace b12 := Lw3.cell b12
    have z_b1 : w.heap.size < w3.heap.size := World.block_lt_of_cell? _ _ b10
    replace O4 := O4.ext Lw3
    have s_w3 : w.heap.size ≤ w3.heap.size := Xw3.size
    have BL7_w3 : Ext w1 w3 := BL7_w2.trans Lw3
    clear xw3
    obtain ⟨afv10, cfv10, rfl⟩ := i11.form
    go_wp2_with fail
    have hz := Lib.hid (store_nil (show storeB mem b1 s1 t1 vs = true from hB2.out) hme.out)
    go_loopw [9, 10, 22] (fun x9 x10 i wr => i = .int .i64 0 ∧ Ext w3 wr) (fun _ _ _ _ => 0)
    case atStart => exact ⟨rfl, (by repeat (first | (with_reducible assumption) | (with_reducible refine Ext.setCell ?_ (by first | (simp; done) | (simp; omega) | omega) _) | (with_reducible apply Ext.alloc) | (with_reducible apply Ext.drew) | (with_reducible apply Ext.drewN) | (with_reducible exact Ext.refl _)))⟩
    case round =>
      obtain ⟨rfl, Lwr⟩ := hrel
      have Xwr : Ext w wr := Xw3.trans Lwr
      have s_wr : w.heap.size ≤ wr.heap.size := Xwr.size
      have t_wr : w3.heap.size ≤ wr.heap.size := Lwr.size
      replace b10 := Lwr.cell b10
      replace b11 := Lwr.cell b11
      replace b12 := Lwr.cell b12
      have z_b1 : w.heap.size < wr.heap.size := World.block_lt_of_cell? _ _ b10
      replace O4 := O4.ext Lwr
      replace i11 := i11.ext Lwr
      replace i11z := i11z.ext Lwr
      have BL7_wr : Ext w1 wr := BL7_w3.trans Lwr
      have Bwr : Ext w3 wr := Lwr
      skip
      · have hkI : ¬ (0 : Int) < (offsL b1 s1 t1).length := by have := hz.out; omega
        go_wp2_with fail
        go_ret2
        rw [show addA mem b1 s1 t1 vs = mem by unfold addA; rw [hB2.out, if_pos rfl, hz.out]; rfl, hB2.out]
        exact ⟨_, rfl, ((O4.ints (by first | exact hln3 | (simp only [List.length_set]; exact hln3) | (rw [addUp_len]; exact hln3) | (rw [List.length_set, addUp_len]; exact hln3)))).lower (by omega), (O4.lower (by omega)).z, (Xwr.trans (by repeat (first | (with_reducible assumption) | (with_reducible refine Ext.setCell ?_ (by first | (simp; done) | (simp; omega) | omega) _) | (with_reducible apply Ext.alloc) | (with_reducible apply Ext.drew) | (with_reducible apply Ext.drewN) | (with_reducible exact Ext.refl _))))⟩

set_option maxHeartbeats 3200000 in
theorem implAddView1 (mem : List Int) (a0 : Value) (b1 : Int) (u1 v1 : Value) (s1 t1 : List Int) (a3 : Value) (vs : List Int) (w : World) (l0 : Nat) (h0 : Ints w l0 a0 mem) (l1 m1 : Nat) (h1 : Ints w l1 u1 s1) (k1 : Ints w m1 v1 t1) (l3 : Nat) (h3 : Ints w l3 a3 vs) (hme : mem ≠ []) :
    Calls Try.prog 42 #[a0, .agg #[.int .i64 b1, u1, v1], a3] w (PIntsB w (addA mem b1 s1 t1 vs) (storeB mem b1 s1 t1 vs)) := by
  obtain ⟨p0, c0, rfl⟩ := h1.form
  obtain ⟨p1, c1, rfl⟩ := k1.form
  obtain ⟨p2, c2, rfl⟩ := h0.form
  obtain ⟨p3, c3, rfl⟩ := h3.form
  have hmne := Lib.hid hme
  clear hme
  go_enter Try.func42, Try.ntmps42
  go_wp2_with fail
  refine (canStore_c mem (.slice p2 mem.length c2) b1 (.slice p0 s1.length c0) (.slice p1 t1.length c1) s1 t1 (.slice p3 vs.length c3) vs _ _ (h0.ext (by repeat (first | (with_reducible assumption) | (with_reducible refine Ext.setCell ?_ (by first | (simp; done) | (simp; omega) | omega) _) | (with_reducible apply Ext.alloc) | (with_reducible apply Ext.drew) | (with_reducible apply Ext.drewN) | (with_reducible exact Ext.refl _)))) _ _ (h1.ext (by repeat (first | (with_reducible assumption) | (with_reducible refine Ext.setCell ?_ (by first | (simp; done) | (simp; omega) | omega) _) | (with_reducible apply Ext.alloc) | (with_reducible apply Ext.drew) | (with_reducible apply Ext.drewN) | (with_reducible exact Ext.refl _)))) (k1.ext (by repeat (first | (with_reducible assumption) | (with_reducible refine Ext.setCell ?_ (by first | (simp; done) | (simp; omega) | omega) _) | (with_reducible apply Ext.alloc) | (with_reducible apply Ext.drew) | (with_reducible apply Ext.drewN) | (with_reducible exact Ext.refl _)))) _ (h3.ext (by repeat (first | (with_reducible assumption) | (with_reducible refine Ext.setCell ?_ (by first | (simp; done) | (simp; omega) | omega) _) | (with_reducible apply Ext.alloc) | (with_reducible apply Ext.drew) | (with_reducible apply Ext.drewN) | (with_reducible exact Ext.refl _))))).mono ?_
  rintro e w1 ⟨rfl, xw1⟩
  have Lw1 : Ext w w1 := Ext.trans (by repeat (first | (with_reducible assumption) | (with_reducible refine Ext.setCell ?_ (by first | (simp; done) | (simp; omega) | omega) _) | (with_reducible apply Ext.alloc) | (with_reducible apply Ext.drew) | (with_reducible apply Ext.drewN) | (with_reducible exact Ext.refl _))) xw1
  have Xw1 : Ext w w1 := Lw1
  have b10 : w1.cell? ⟨w.heap.size, 0, none⟩ = some (.int .i64 b1) := xw1.cell (by first | (simp; done) | ((repeat rw [World.cell?_alloc_lt _ _ _ (by simp <;> omega)]); simp; done) | (go_simp; done))
  have b11 : w1.cell? ⟨w.heap.size, 1, none⟩ = some (.slice p0 s1.length c0) := xw1.cell (by first | (simp; done) | ((repeat rw [World.cell?_alloc_lt _ _ _ (by simp <;> omega)]); simp; done) | (go_simp; done))
  have b12 : w1.cell? ⟨w.heap.size, 2, none⟩ = some (.slice p1 t1.length c1) := xw1.cell (by first | (simp; done) | ((repeat rw [World.cell?_alloc_lt _ _ _ (by simp <;> omega)]); simp; done) | (go_simp; done))
  have z_b1 : w.heap.size < w1.heap.size := World.block_lt_of_cell? _ _ b10
  have s_w1 : w.heap.size ≤ w1.heap.size := Xw1.size
  clear xw1
  cases hB2 : storeB mem b1 s1 t1 vs
  · replace hB2 := Lib.hid hB2
    go_wp2_with fail
    go_ret2
    rw [show addA mem b1 s1 t1 vs = [] by unfold addA; rw [hB2.out]; rfl, hB2.out]
    exact PIntsB.nil (Xw1.trans (by repeat (first | (with_reducible assumption) | (with_reducible refine Ext.setCell ?_ (by first | (simp; done) | (simp; omega) | omega) _) | (with_reducible apply Ext.alloc) | (with_reducible apply Ext.drew) | (with_reducible apply Ext.drewN) | (with_reducible exact Ext.refl _))))
  · replace hB2 := Lib.hid hB2
    have Q6_b10 := Lib.hid b10
    have Q6_b11 := Lib.hid b11
    have Q6_b12 := Lib.hid b12
    have Q6_zb1 := z_b1
    have BL7 : Ext w1 w1 := Ext.refl _
    have hln3 : mem.length ≤ 4194304 := ((h0.ext Xw1)).len
    go_wp2_with (at_builtin; refine wpList_app rfl (.tmp 16) (.tmp 17) rfl rfl rfl (OwnI.lit0 w1 w1.heap.size (Nat.le_refl _)) ((h0.ext Xw1).ext ((Ext.refl _).alloc _)) (by simpa using hln3) (by simp) ?_)
    intro vv5 w2 O4 hg7 hb7 _
    have xw2 : Ext w1 w2 := ((Ext.refl _).alloc _).below hb7 (Nat.le_refl _)
    clear hg7 hb7
    replace O4 : OwnI w2 w1.heap.size vv5 mem := O4
    have Lw2 : Ext w1 w2 := Ext.trans (by repeat (first | (with_reducible assumption) | (with_reducible refine Ext.setCell ?_ (by first | (simp; done) | (simp; omega) | omega) _) | (with_reducible apply Ext.alloc) | (with_reducible apply Ext.drew) | (with_reducible apply Ext.drewN) | (with_reducible exact Ext.refl _))) xw2
    have Xw2 : Ext w w2 := Xw1.trans Lw2
    replace b10 := Lw2.cell b10
    replace b11 := Lw2.cell b11
    replace b12 := Lw2.cell b12
    have z_b1 : w.heap.size < w2.heap.size := World.block_lt_of_cell? _ _ b10
    have s_w2 : w.heap.size ≤ w2.heap.size := Xw2.size
    have BL7_w2 : Ext w1 w2 := BL7.trans Lw2
    clear xw2
    obtain ⟨gr8, rr9, rfl, Ggr8, Ggr8'⟩ := O4.row hmne.out
    go_wp2_with fail
    refine (offsetsOf_c b1 (.slice p0 s1.length c0) (.slice p1 t1.length c1) s1 t1 _ _ _ (h1.ext (Xw2.trans (by repeat (first | (with_reducible assumption) | (with_reducible refine Ext.setCell ?_ (by first | (simp; done) | (simp; omega) | omega) _) | (with_reducible apply Ext.alloc) | (with_reducible apply Ext.drew) | (with_reducible apply Ext.drewN) | (with_reducible exact Ext.refl _))))) (k1.ext (Xw2.trans (by repeat (first | (with_reducible assumption) | (with_reducible refine Ext.setCell ?_ (by first | (simp; done) | (simp; omega) | omega) _) | (with_reducible apply Ext.alloc) | (with_reducible apply Ext.drew) | (with_reducible apply Ext.drewN) | (with_reducible exact Ext.refl _))))) (vw (store_in hB2.out).2.2.2.1).1 (vw (store_in hB2.out).2.2.2.1).2.1 (vw (store_in hB2.out).2.2.2.1).2.2.1).mono ?_
    rintro e w3 ⟨fv10, rfl, i11, -, xw3⟩
    have Lw3 : Ext w2 w3 := Ext.trans (by repeat (first | (with_reducible assumption) | (with_reducible refine Ext.setCell ?_ (by first | (simp; done) | (simp; omega) | omega) _) | (with_reducible apply Ext.alloc) | (with_reducible apply Ext.drew) | (with_reducible apply Ext.drewN) | (with_reducible exact Ext.refl _))) xw3
    have Xw3 : Ext w w3 := Xw2.trans Lw3
    replace b10 := Lw3.cell b10
    replace b11 := Lw3.cell b11
    replace b12 := Lw3.cell b12
    have z_b1 : w.heap.size < w3.heap.size := World.block_lt_of_cell? _ _ b10
    replace O4 := O4.ext Lw3
    have s_w3 : w.heap.size ≤ w3.heap.size := Xw3.size
    have BL7_w3 : Ext w1 w3 := BL7_w2.trans Lw3
    clear xw3
    obtain ⟨afv10, cfv10, rfl⟩ := i11.form
    go_wp2_with fail
    obtain ⟨-, hvl, hv255, -, hix, ⟨hm60, hm255⟩, ho60⟩ := store_in hB2.out
    replace hix := Lib.hid hix
    replace hv255 := Lib.hid hv255
    replace hm255 := Lib.hid hm255
    replace hvl := Lib.hid hvl
    go_loopw [9, 10, 22] (fun x9 x10 i wr => ∃ (k : Nat), k ≤ (offsL b1 s1 t1).length ∧ i = .int .i64 k ∧ OwnI wr (w1.heap.size) (.slice (some ⟨gr8, 0, none⟩) mem.length rr9) (addUp mem (offsL b1 s1 t1) vs k) ∧ Chg gr8 (gr8 + 1) w3 wr ∧ Ext w1 wr) (fun _ _ i _ => (offsL b1 s1 t1).length - (intOf i).toNat)
    case atStart => exact ⟨0, Nat.zero_le _, rfl, (show OwnI _ _ _ (addUp mem (offsL b1 s1 t1) vs 0) from (O4.ext (by repeat (first | (with_reducible assumption) | (with_reducible refine Ext.setCell ?_ (by first | (simp; done) | (simp; omega) | omega) _) | (with_reducible apply Ext.alloc) | (with_reducible apply Ext.drew) | (with_reducible apply Ext.drewN) | (with_reducible exact Ext.refl _))))), Chg.refl _ _ _, BL7_w3⟩
    case round =>
      obtain ⟨k, hk, rfl, O4n, Kr12, Er13⟩ := hrel
      have Xwr : Ext w wr := Xw1.trans Er13
      have s_wr : w.heap.size ≤ wr.heap.size := Xwr.size
      have t_wr : w3.heap.size ≤ wr.heap.size := Kr12.size
      replace b10 := Er13.cell Q6_b10.out
      replace b11 := Er13.cell Q6_b11.out
      replace b12 := Er13.cell Q6_b12.out
      have z_b1 : w.heap.size < wr.heap.size := World.block_lt_of_cell? _ _ b10
      clear O4
      have O4 := O4n
      clear O4n
      replace i11 := i11.chg Kr12 (by omega)
      by_cases hlt : k < (offsL b1 s1 t1).length
      · have hkI : (k : Int) < (offsL b1 s1 t1).length := by omega
        obtain ⟨hi0, hi1⟩ := hix.out _ (getD_mem hlt)
        obtain ⟨j, hj⟩ : ∃ j : Nat, (offsL b1 s1 t1).getD k 0 = j := ⟨((offsL b1 s1 t1).getD k 0).toNat, by omega⟩
        rw [hj] at hi0 hi1
        replace hj := Lib.hid hj
        have hal := Lib.hid (addUp_len mem (offsL b1 s1 t1) vs k)
        have hN_e16 : k < (offsL b1 s1 t1).length := (by omega)
        have hI_e16 : (k : Int) < ((offsL b1 s1 t1).length : Int) := by omega
        obtain ⟨bl14, ol15, rfl, e160⟩ := i11.at k (by omega)
        obtain ⟨v17, hv17⟩ : ∃ v, (offsL b1 s1 t1).getD k 0 = v := ⟨_, rfl⟩
        rw [hv17] at e160
        replace hv17 := Lib.hid hv17
        have y_e16 : bl14 < wr.heap.size := World.block_lt_of_cell? _ _ e160
        have z_e16 := y_e16
        obtain rfl : v17 = (j : Int) := by rw [← hv17.out]; exact hj.out
        go_wp2_with fail
        have hN_e20 : j < (addUp mem (offsL b1 s1 t1) vs k).length := (by rw [addUp_len]; omega)
        have hI_e20 : (j : Int) < ((addUp mem (offsL b1 s1 t1) vs k).length : Int) := by omega
        obtain ⟨b_e20, o_e20, h_e20, e200⟩ := (O4.ints (by first | exact hln3 | (simp only [List.length_set]; exact hln3) | (rw [addUp_len]; exact hln3) | (rw [List.length_set, addUp_len]; exact hln3))).at j (by rw [addUp_len]; omega)
        cases h_e20
        rw [Nat.zero_add] at e200
        obtain ⟨v21, hv21⟩ : ∃ v, (addUp mem (offsL b1 s1 t1) vs k).getD j 0 = v := ⟨_, rfl⟩
        rw [hv21] at e200
        replace hv21 := Lib.hid hv21
        have y_e20 : gr8 < wr.heap.size := World.block_lt_of_cell? _ _ e200
        have z_e20 := y_e20
        have hbv21 := addUp_bd mem (offsL b1 s1 t1) vs hm255.out k _ (getD_mem (show j < (addUp mem (offsL b1 s1 t1) vs k).length by rw [addUp_len]; omega))
        rw [hv21.out] at hbv21
        have hN_e24 : k < vs.length := (by have := hvl.out; omega)
        have hI_e24 : (k : Int) < (vs.length : Int) := by omega
        obtain ⟨bl22, ol23, rfl, e240⟩ := h3.at k (by have := hvl.out; omega)
        have y_e24 : bl22 < w.heap.size := World.block_lt_of_cell? _ _ e240
        replace e240 := Xwr.cell e240
        obtain ⟨v25, hv25⟩ : ∃ v, vs.getD k 0 = v := ⟨_, rfl⟩
        rw [hv25] at e240
        replace hv25 := Lib.hid hv25
        have z_e24 : bl22 < wr.heap.size := World.block_lt_of_cell? _ _ e240
        have hbv25 := hv255.out _ (getD_mem (show k < vs.length by have := hvl.out; omega))
        rw [hv25.out] at hbv25
        have hs := Lib.hid (addUp_step hj.out hv21.out hv25.out hbv21.1 hbv25.1)
        have A26 := O4.cell j (by rw [addUp_len]; omega)
        obtain ⟨A26a, A26b⟩ := A26
        refine wp_region_tail (S := fun w' => w'.cell? ⟨w.heap.size, 0, none⟩ = some (.int .i64 b1) ∧ w'.cell? ⟨w.heap.size, 1, none⟩ = some (.slice p0 s1.length c0) ∧ w'.cell? ⟨w.heap.size, 2, none⟩ = some (.slice p1 t1.length c1) ∧ w'.cell? ⟨bl14, ol15 + k, none⟩ = some (.int .i64 (j : Int)) ∧ w'.cell? ⟨gr8, j, none⟩ = some (.int .i64 v21) ∧ w'.cell? ⟨bl22, ol23 + k, none⟩ = some (.int .i64 v25)) (fun i => decide (13 ≤ i)) (by kernel_rfl) ⟨b10, b11, b12, e160, e200, e240⟩ (fun hHeld => ?_)
        refine wpTail_take (i := 0) (v := ?_) rfl (by kernel_rfl) (by kernel_rfl) (by kernel_rfl) rfl (by kernel_rfl) (fun _ _ _ h => h) (Or.inl ⟨by rfl, ?_⟩) (by assumption) ?_
        rotate_left
        · (intro w hSw; (try dsimp only at hSw); go_simp; try with_reducible rfl)
        try simp only [Act.put, List.setIfInBounds_toArray, List.set_cons_zero, List.set_cons_succ, List.getElem_toArray, List.getElem_cons_succ, List.getElem_cons_zero]
        refine wpTail_take (i := 1) (v := ?_) rfl (by kernel_rfl) (by kernel_rfl) (by kernel_rfl) rfl (by kernel_rfl) (fun _ _ _ h => h) (Or.inl ⟨by rfl, ?_⟩) (by assumption) ?_
        rotate_left
        · (intro w hSw; (try dsimp only at hSw); go_simp; try with_reducible rfl)
        try simp only [Act.put, List.setIfInBounds_toArray, List.set_cons_zero, List.set_cons_succ, List.getElem_toArray, List.getElem_cons_succ, List.getElem_cons_zero]
        refine wpTail_take (i := 2) (v := ?_) rfl (by kernel_rfl) (by kernel_rfl) (by kernel_rfl) rfl (by kernel_rfl) (fun _ _ _ h => h) (Or.inl ⟨by rfl, ?_⟩) (by assumption) ?_
        rotate_left
        · (intro w hSw; (try dsimp only at hSw); go_simp; try with_reducible rfl)
        try simp only [Act.put, List.setIfInBounds_toArray, List.set_cons_zero, List.set_cons_succ, List.getElem_toArray, List.getElem_cons_succ, List.getElem_cons_zero]
        refine wpTail_take (i := 3) (v := ?_) rfl (by kernel_rfl) (by kernel_rfl) (by kernel_rfl) rfl (by kernel_rfl) (fun _ _ _ h => h) (Or.inl ⟨by rfl, ?_⟩) (by assumption) ?_
        rotate_left
        · (intro w hSw; (try dsimp only at hSw); go_simp; try with_reducible rfl)
        try simp only [Act.put, List.setIfInBounds_toArray, List.set_cons_zero, List.set_cons_succ, List.getElem_toArray, List.getElem_cons_succ, List.getElem_cons_zero]
        refine wpTail_take (i := 4) (v := ?_) rfl (by kernel_rfl) (by kernel_rfl) (by kernel_rfl) rfl (by kernel_rfl) (fun _ _ _ h => h) (Or.inl ⟨by rfl, ?_⟩) (by assumption) ?_
        rotate_left
        · (intro w hSw; (try dsimp only at hSw); go_simp; try with_reducible rfl)
        try simp only [Act.put, List.setIfInBounds_toArray, List.set_cons_zero, List.set_cons_succ, List.getElem_toArray, List.getElem_cons_succ, List.getElem_cons_zero]
        refine wpTail_take (i := 5) (v := ?_) rfl (by kernel_rfl) (by kernel_rfl) (by kernel_rfl) rfl (by kernel_rfl) (fun _ _ _ h => h) (Or.inl ⟨by rfl, ?_⟩) (by assumption) ?_
        rotate_left
        · (intro w hSw; (try dsimp only at hSw); go_simp; try with_reducible rfl)
        try simp only [Act.put, List.setIfInBounds_toArray, List.set_cons_zero, List.set_cons_succ, List.getElem_toArray, List.getElem_cons_succ, List.getElem_cons_zero]
        refine wpTail_take (i := 6) (v := ?_) rfl (by kernel_rfl) (by kernel_rfl) (by kernel_rfl) rfl (by kernel_rfl) (fun _ _ _ h => h) (Or.inl ⟨by rfl, ?_⟩) (by assumption) ?_
        rotate_left
        · (intro w hSw; (try dsimp only at hSw); go_simp; try with_reducible rfl)
        try simp only [Act.put, List.setIfInBounds_toArray, List.set_cons_zero, List.set_cons_succ, List.getElem_toArray, List.getElem_cons_succ, List.getElem_cons_zero]
        refine wpTail_take (i := 7) (v := ?_) rfl (by kernel_rfl) (by kernel_rfl) (by kernel_rfl) rfl (by kernel_rfl) (fun _ _ _ h => h) (Or.inl ⟨by rfl, ?_⟩) (by assumption) ?_
        rotate_left
        · (intro w hSw; (try dsimp only at hSw); go_simp; try with_reducible rfl)
        try simp only [Act.put, List.setIfInBounds_toArray, List.set_cons_zero, List.set_cons_succ, List.getElem_toArray, List.getElem_cons_succ, List.getElem_cons_zero]
        refine wpTail_take (i := 8) (v := ?_) rfl (by kernel_rfl) (by kernel_rfl) (by kernel_rfl) rfl (by kernel_rfl) (fun _ _ _ h => h) (Or.inl ⟨by rfl, ?_⟩) (by assumption) ?_
        rotate_left
        · (intro w hSw; (try dsimp only at hSw); go_simp; try with_reducible rfl)
        try simp only [Act.put, List.setIfInBounds_toArray, List.set_cons_zero, List.set_cons_succ, List.getElem_toArray, List.getElem_cons_succ, List.getElem_cons_zero]
        refine wpTail_take (i := 9) (v := ?_) rfl (by kernel_rfl) (by kernel_rfl) (by kernel_rfl) rfl (by kernel_rfl) (fun _ _ _ h => h) (Or.inl ⟨by rfl, ?_⟩) (by assumption) ?_
        rotate_left
        · (intro w hSw; (try dsimp only at hSw); go_simp; try with_reducible rfl)
        try simp only [Act.put, List.setIfInBounds_toArray, List.set_cons_zero, List.set_cons_succ, List.getElem_toArray, List.getElem_cons_succ, List.getElem_cons_zero]
        have hw33 : IntKind.i64.wrap (v21 + v25) = v21 + v25 := IntWalk.i64_in _ (by omega)
        refine wpTail_take (i := 10) (v := ?_) rfl (by kernel_rfl) (by kernel_rfl) (by kernel_rfl) rfl (by kernel_rfl) (fun _ _ _ h => h) (Or.inl ⟨by rfl, ?_⟩) (by assumption) ?_
        rotate_left
        · (intro w hSw; (try dsimp only at hSw); go_simp; try with_reducible rfl)
        try simp only [Act.put, List.setIfInBounds_toArray, List.set_cons_zero, List.set_cons_succ, List.getElem_toArray, List.getElem_cons_succ, List.getElem_cons_zero]
        refine wpTail_take (i := 11) (v := ?_) rfl (by kernel_rfl) (by kernel_rfl) (by kernel_rfl) rfl (by kernel_rfl) (fun _ _ _ h => h) (Or.inl ⟨by rfl, ?_⟩) (by assumption) ?_
        rotate_left
        · (intro w hSw; (try dsimp only at hSw); go_simp; try with_reducible rfl)
        try simp only [Act.put, List.setIfInBounds_toArray, List.set_cons_zero, List.set_cons_succ, List.getElem_toArray, List.getElem_cons_succ, List.getElem_cons_zero]
        refine wpTail_take (i := 12) (v := ?_) rfl (by kernel_rfl) (by kernel_rfl) (by kernel_rfl) rfl (by kernel_rfl) (fun _ _ _ h => h) (Or.inl ⟨by rfl, ?_⟩) (by assumption) ?_
        rotate_left
        · (intro w hSw; (try dsimp only at hSw); go_simp; try with_reducible rfl)
        try simp only [Act.put, List.setIfInBounds_toArray, List.set_cons_zero, List.set_cons_succ, List.getElem_toArray, List.getElem_cons_succ, List.getElem_cons_zero]
        refine wpTail_last (i := 13) (by kernel_rfl) rfl rfl (fun K hK => ?_)
        try simp only [Act.put, List.setIfInBounds_toArray, List.set_cons_zero, List.set_cons_succ, List.getElem_toArray, List.getElem_cons_succ, List.getElem_cons_zero]
        go_simp
        refine hK.out _ _ ?_
        clear hK K
        try simp only [Act.put, List.setIfInBounds_toArray, List.set_cons_zero, List.set_cons_succ, List.getElem_toArray, List.getElem_cons_succ, List.getElem_cons_zero]
        refine wpTail_done (by kernel_rfl) ?_ _
        clear hHeld hw33
        clear e160 z_e16
        clear e200 z_e20
        clear e240 z_e24
        have Kw4 : Chg (gr8) (gr8 + 1) wr ((wr.setCell ⟨gr8, j, none⟩ (.int .i64 ((v21 + v25).tmod 256))).drew) := ((Chg.setCell (p := ⟨gr8, j, none⟩) (Chg.refl (gr8) (gr8 + 1) _) (Nat.le_refl _) (Nat.lt_succ_self _) (.int .i64 ((v21 + v25).tmod 256))).ext (Ext.drew (Ext.refl _)))
        have Xw4 : Ext w ((wr.setCell ⟨gr8, j, none⟩ (.int .i64 ((v21 + v25).tmod 256))).drew) := (Ext.drew (Ext.setCell (p := ⟨gr8, j, none⟩) Xwr (by first | (simp; done) | (simp; omega) | omega) (.int .i64 ((v21 + v25).tmod 256))))
        have BL7_w4 : Ext w1 ((wr.setCell ⟨gr8, j, none⟩ (.int .i64 ((v21 + v25).tmod 256))).drew) := (Ext.drew (Ext.setCell (p := ⟨gr8, j, none⟩) Er13 (by first | (simp; done) | (simp; omega) | omega) (.int .i64 ((v21 + v25).tmod 256))))
        have Kr12_w4 : Chg gr8 (gr8 + 1) w3 ((wr.setCell ⟨gr8, j, none⟩ (.int .i64 ((v21 + v25).tmod 256))).drew) := Chg.trans Kr12 Kw4
        replace b10 := BL7_w4.cell Q6_b10.out
        replace b11 := BL7_w4.cell Q6_b11.out
        replace b12 := BL7_w4.cell Q6_b12.out
        have n_O4 := O4.setD j ((v21 + v25).tmod 256) (by first | omega | (simp; omega))
        replace O4 := n_O4
        clear n_O4
        replace i11 := i11.chg Kw4 (by omega)
        clear Kw4
        have z_b1 : w.heap.size < ((wr.setCell ⟨gr8, j, none⟩ (.int .i64 ((v21 + v25).tmod 256))).drew).heap.size := World.block_lt_of_cell? _ _ b10
        have s_w4 : w.heap.size ≤ ((wr.setCell ⟨gr8, j, none⟩ (.int .i64 ((v21 + v25).tmod 256))).drew).heap.size := Xw4.size
        generalize ((wr.setCell ⟨gr8, j, none⟩ (.int .i64 ((v21 + v25).tmod 256))).drew) = w4 at *
        clear A26a A26b
        go_wp2_with fail
        go_roundw
        case rel => exact ⟨k + 1, by omega, by go_num, (by rw [hs.out]; exact O4.ext (by repeat (first | (with_reducible assumption) | (with_reducible refine Ext.setCell ?_ (by first | (simp; done) | (simp; omega) | omega) _) | (with_reducible apply Ext.alloc) | (with_reducible apply Ext.drew) | (with_reducible apply Ext.drewN) | (with_reducible exact Ext.refl _)))), Kr12_w4.ext (by repeat (first | (with_reducible assumption) | (with_reducible refine Ext.setCell ?_ (by first | (simp; done) | (simp; omega) | omega) _) | (with_reducible apply Ext.alloc) | (with_reducible apply Ext.drew) | (with_reducible apply Ext.drewN) | (with_reducible exact Ext.refl _))), BL7_w4.trans (by repeat (first | (with_reducible assumption) | (with_reducible refine Ext.setCell ?_ (by first | (simp; done) | (simp; omega) | omega) _) | (with_reducible apply Ext.alloc) | (with_reducible apply Ext.drew) | (with_reducible apply Ext.drewN) | (with_reducible exact Ext.refl _)))⟩
        case measure => simp [intOf]; omega
      · have hkI : ¬ (k : Int) < (offsL b1 s1 t1).length := by omega
        go_wp2_with fail
        go_ret2
        rw [show addA mem b1 s1 t1 vs = addUp mem (offsL b1 s1 t1) vs k by unfold addA; rw [hB2.out, if_pos rfl, show k = (offsL b1 s1 t1).length by omega], hB2.out]
        exact ⟨_, rfl, (O4.ints (by rw [addUp_len]; omega)).lower (by omega), (O4.lower (by omega)).z, Xwr⟩

set_option maxHeartbeats 1600000 in
theorem implAddView_c (mem : List Int) (a0 : Value) (b1 : Int) (u1 v1 : Value) (s1 t1 : List Int) (a3 : Value) (vs : List Int) (w : World) (l0 : Nat) (h0 : Ints w l0 a0 mem) (l1 m1 : Nat) (h1 : Ints w l1 u1 s1) (k1 : Ints w m1 v1 t1) (l3 : Nat) (h3 : Ints w l3 a3 vs) :
    Calls Try.prog 42 #[a0, .agg #[.int .i64 b1, u1, v1], a3] w (PIntsB w (addA mem b1 s1 t1 vs) (storeB mem b1 s1 t1 vs)) := by
  by_cases hme : mem = []
  · exact implAddView0 mem a0 b1 u1 v1 s1 t1 a3 vs w l0 h0 l1 m1 h1 k1 l3 h3 hme
  · exact implAddView1 mem a0 b1 u1 v1 s1 t1 a3 vs w l0 h0 l1 m1 h1 k1 l3 h3 hme


end Go.Proofs.Ytnjaidgifccgjaa

/- Walks: values that are added, of the reference. -/
namespace Go.Proofs.Ytnjaidgifccgjaa
open Go.RowKit
set_option linter.unusedVariables false
set_option maxRecDepth 100000

set_option maxHeartbeats 3200000 in
theorem specAddView0 (mem : List Int) (a0 : Value) (b1 : Int) (u1 v1 : Value) (s1 t1 : List Int) (a3 : Value) (vs : List Int) (w : World) (l0 : Nat) (h0 : Ints w l0 a0 mem) (l1 m1 : Nat) (h1 : Ints w l1 u1 s1) (k1 : Ints w m1 v1 t1) (l3 : Nat) (h3 : Ints w l3 a3 vs) (hme : mem = []) :
    Calls Try.prog 43 #[a0, .agg #[.int .i64 b1, u1, v1], a3] w (PIntsB w (addA mem b1 s1 t1 vs) (storeB mem b1 s1 t1 vs)) := by
  obtain ⟨p0, c0, rfl⟩ := h1.form
  obtain ⟨p1, c1, rfl⟩ := k1.form
  obtain ⟨p2, c2, rfl⟩ := h0.form
  obtain ⟨p3, c3, rfl⟩ := h3.form
  replace hme := Lib.hid hme
  go_enter Try.func43, Try.ntmps43
  go_wp2_with fail
  refine (sees_c mem (.slice p2 mem.length c2) b1 (.slice p0 s1.length c0) (.slice p1 t1.length c1) s1 t1 _ _ _ _ (h0.ext (by repeat (first | (with_reducible assumption) | (with_reducible refine Ext.setCell ?_ (by first | (simp; done) | (simp; omega) | omega) _) | (with_reducible apply Ext.alloc) | (with_reducible apply Ext.drew) | (with_reducible apply Ext.drewN) | (with_reducible exact Ext.refl _)))) (h1.ext (by repeat (first | (with_reducible assumption) | (with_reducible refine Ext.setCell ?_ (by first | (simp; done) | (simp; omega) | omega) _) | (with_reducible apply Ext.alloc) | (with_reducible apply Ext.drew) | (with_reducible apply Ext.drewN) | (with_reducible exact Ext.refl _)))) (k1.ext (by repeat (first | (with_reducible assumption) | (with_reducible refine Ext.setCell ?_ (by first | (simp; done) | (simp; omega) | omega) _) | (with_reducible apply Ext.alloc) | (with_reducible apply Ext.drew) | (with_reducible apply Ext.drewN) | (with_reducible exact Ext.refl _))))).mono ?_
  rintro e w1 ⟨rfl, xw1⟩
  have Lw1 : Ext w w1 := Ext.trans (by repeat (first | (with_reducible assumption) | (with_reducible refine Ext.setCell ?_ (by first | (simp; done) | (simp; omega) | omega) _) | (with_reducible apply Ext.alloc) | (with_reducible apply Ext.drew) | (with_reducible apply Ext.drewN) | (with_reducible exact Ext.refl _))) xw1
  have Xw1 : Ext w w1 := Lw1
  have b10 : w1.cell? ⟨w.heap.size, 0, none⟩ = some (.int .i64 b1) := xw1.cell (by first | (simp; done) | ((repeat rw [World.cell?_alloc_lt _ _ _ (by simp <;> omega)]); simp; done) | (go_simp; done))
  have b11 : w1.cell? ⟨w.heap.size, 1, none⟩ = some (.slice p0 s1.length c0) := xw1.cell (by first | (simp; done) | ((repeat rw [World.cell?_alloc_lt _ _ _ (by simp <;> omega)]); simp; done) | (go_simp; done))
  have b12 : w1.cell? ⟨w.heap.size, 2, none⟩ = some (.slice p1 t1.length c1) := xw1.cell (by first | (simp; done) | ((repeat rw [World.cell?_alloc_lt _ _ _ (by simp <;> omega)]); simp; done) | (go_simp; done))
  have z_b1 : w.heap.size < w1.heap.size := World.block_lt_of_cell? _ _ b10
  have s_w1 : w.heap.size ≤ w1.heap.size := Xw1.size
  clear xw1
  cases hB2 : holdB mem b1 s1 t1
  · replace hB2 := Lib.hid hB2
    go_wp2_with fail
    go_ret2
    rw [show addA mem b1 s1 t1 vs = [] by unfold addA; rw [(show storeB mem b1 s1 t1 vs = false from by unfold storeB; rw [hB2.out] <;> rfl)]; rfl, (show storeB mem b1 s1 t1 vs = false from by unfold storeB; rw [hB2.out] <;> rfl)]
    exact PIntsB.nil (Xw1.trans (by repeat (first | (with_reducible assumption) | (with_reducible refine Ext.setCell ?_ (by first | (simp; done) | (simp; omega) | omega) _) | (with_reducible apply Ext.alloc) | (with_reducible apply Ext.drew) | (with_reducible apply Ext.drewN) | (with_reducible exact Ext.refl _))))
  · replace hB2 := Lib.hid hB2
    go_wp2_with fail
    refine (count_c s1 (.slice p0 s1.length c0) _ _ (h1.ext (Xw1.trans (by repeat (first | (with_reducible assumption) | (with_reducible refine Ext.setCell ?_ (by first | (simp; done) | (simp; omega) | omega) _) | (with_reducible apply Ext.alloc) | (with_reducible apply Ext.drew) | (with_reducible apply Ext.drewN) | (with_reducible exact Ext.refl _)))))).mono ?_
    rintro e w' ⟨rfl, rfl⟩
    by_cases hc3 : (vs.length : Int) = (countL s1 : Int)
    · have hc3e : ((vs.length : Int) == (countL s1 : Int)) = true := by simpa using hc3
      have hc3n : ((vs.length : Int) != (countL s1 : Int)) = false := by simpa using hc3
      replace hc3 := Lib.hid hc3
      go_wp2_with fail
      refine (allIn_c vs (.slice p3 vs.length c3) 0 255 _ _ (h3.ext (Xw1.trans (by repeat (first | (with_reducible assumption) | (with_reducible refine Ext.setCell ?_ (by first | (simp; done) | (simp; omega) | omega) _) | (with_reducible apply Ext.alloc) | (with_reducible apply Ext.drew) | (with_reducible apply Ext.drewN) | (with_reducible exact Ext.refl _)))))).mono ?_
      rintro e w' ⟨rfl, rfl⟩
      cases hB4 : vs.all (inB 0 255)
      · replace hB4 := Lib.hid hB4
        go_wp2_with fail
        go_ret2
        rw [show addA mem b1 s1 t1 vs = [] by unfold addA; rw [(show storeB mem b1 s1 t1 vs = false from by unfold storeB; rw [hB2.out, decide_eq_true hc3.out, ← badV_all, hB4.out] <;> rfl)]; rfl, (show storeB mem b1 s1 t1 vs = false from by unfold storeB; rw [hB2.out, decide_eq_true hc3.out, ← badV_all, hB4.out] <;> rfl)]
        exact PIntsB.nil (Xw1.trans (by repeat (first | (with_reducible assumption) | (with_reducible refine Ext.setCell ?_ (by first | (simp; done) | (simp; omega) | omega) _) | (with_reducible apply Ext.alloc) | (with_reducible apply Ext.drew) | (with_reducible apply Ext.drewN) | (with_reducible exact Ext.refl _))))
      · replace hB4 := Lib.hid hB4
        have hst : storeB mem b1 s1 t1 vs = true := by unfold storeB; rw [hB2.out, decide_eq_true hc3.out, ← badV_all, hB4.out] <;> rfl
        replace hst := Lib.hid hst
        go_wp2_with fail
        refine (copyInts_c mem (.slice p2 mem.length c2) _ _ (h0.ext (Xw1.trans (by repeat (first | (with_reducible assumption) | (with_reducible refine Ext.setCell ?_ (by first | (simp; done) | (simp; omega) | omega) _) | (with_reducible apply Ext.alloc) | (with_reducible apply Ext.drew) | (with_reducible apply Ext.drewN) | (with_reducible exact Ext.refl _)))))).mono ?_
        rintro e w2 ⟨fv5, rfl, i6, i6z, xw2⟩
        have Lw2 : Ext w1 w2 := Ext.trans (by repeat (first | (with_reducible assumption) | (with_reducible refine Ext.setCell ?_ (by first | (simp; done) | (simp; omega) | omega) _) | (with_reducible apply Ext.alloc) | (with_reducible apply Ext.drew) | (with_reducible apply Ext.drewN) | (with_reducible exact Ext.refl _))) xw2
        have Xw2 : Ext w w2 := Xw1.trans Lw2
        replace b10 := Lw2.cell b10
        replace b11 := Lw2.cell b11
        replace b12 := Lw2.cell b12
        have z_b1 : w.heap.size < w2.heap.size := World.block_lt_of_cell? _ _ b10
        have s_w2 : w.heap.size ≤ w2.heap.size := Xw2.size
        clear xw2
        obtain ⟨afv5, cfv5, rfl⟩ := i6.form
        go_wp2_with fail
        refine (offsets_c b1 (.slice p0 s1.length c0) (.slice p1 t1.length c1) s1 t1 _ _ _ (h1.ext (Xw2.trans (by repeat (first | (with_reducible assumption) | (with_reducible refine Ext.setCell ?_ (by first | (simp; done) | (simp; omega) | omega) _) | (with_reducible apply Ext.alloc) | (with_reducible apply Ext.drew) | (with_reducible apply Ext.drewN) | (with_reducible exact Ext.refl _))))) (k1.ext (Xw2.trans (by repeat (first | (with_reducible assumption) | (with_reducible refine Ext.setCell ?_ (by first | (simp; done) | (simp; omega) | omega) _) | (with_reducible apply Ext.alloc) | (with_reducible apply Ext.drew) | (with_reducible apply Ext.drewN) | (with_reducible exact Ext.refl _))))) (vw (store_in hst.out).2.2.2.1).1 (vw (store_in hst.out).2.2.2.1).2.1 (vw (store_in hst.out).2.2.2.1).2.2.1).mono ?_
        rintro e w3 ⟨fv7, rfl, i8, i8z, xw3⟩
        have Lw3 : Ext w2 w3 := Ext.trans (by repeat (first | (with_reducible assumption) | (with_reducible refine Ext.setCell ?_ (by first | (simp; done) | (simp; omega) | omega) _) | (with_reducible apply Ext.alloc) | (with_reducible apply Ext.drew) | (with_reducible apply Ext.drewN) | (with_reducible exact Ext.refl _))) xw3
        have Xw3 : Ext w w3 := Xw2.trans Lw3
        replace b10 := Lw3.cell b10
        replace b11 := Lw3.cell b11
        replace b12 := Lw3.cell b12
        have z_b1 : w.heap.size < w3.heap.size := World.block_lt_of_cell? _ _ b10
        replace i6 := i6.ext Lw3
        replace i6z := i6z.ext Lw3
        have s_w3 : w.heap.size ≤ w3.heap.size := Xw3.size
        clear xw3
        obtain ⟨afv7, cfv7, rfl⟩ := i8.form
        go_wp2_with fail
        have hz := Lib.hid (store_nil (show storeB mem b1 s1 t1 vs = true from hst.out) hme.out)
        go_loopw [10] (fun i wr => i = .int .i64 0 ∧ Ext w3 wr) (fun _ _ => 0)
        case atStart => exact ⟨rfl, (by repeat (first | (with_reducible assumption) | (with_reducible refine Ext.setCell ?_ (by first | (simp; done) | (simp; omega) | omega) _) | (with_reducible apply Ext.alloc) | (with_reducible apply Ext.drew) | (with_reducible apply Ext.drewN) | (with_reducible exact Ext.refl _)))⟩
        case round =>
          obtain ⟨rfl, Lwr⟩ := hrel
          have Xwr : Ext w wr := Xw3.trans Lwr
          have s_wr : w.heap.size ≤ wr.heap.size := Xwr.size
          have t_wr : w3.heap.size ≤ wr.heap.size := Lwr.size
          replace b10 := Lwr.cell b10
          replace b11 := Lwr.cell b11
          replace b12 := Lwr.cell b12
          have z_b1 : w.heap.size < wr.heap.size := World.block_lt_of_cell? _ _ b10
          replace i6 := i6.ext Lwr
          replace i6z := i6z.ext Lwr
          replace i8 := i8.ext Lwr
          replace i8z := i8z.ext Lwr
          have Bwr : Ext w3 wr := Lwr
          skip
          · have hkI : ¬ (0 : Int) < (offsL b1 s1 t1).length := by have := hz.out; omega
            go_wp2_with fail
            go_ret2
            rw [show addA mem b1 s1 t1 vs = mem by unfold addA; rw [hst.out, if_pos rfl, hz.out]; rfl, hst.out]
            exact ⟨_, rfl, (i6).lower (by omega), i6z.lower (by omega), (Xwr.trans (by repeat (first | (with_reducible assumption) | (with_reducible refine Ext.setCell ?_ (by first | (simp; done) | (simp; omega) | omega) _) | (with_reducible apply Ext.alloc) | (with_reducible apply Ext.drew) | (with_reducible apply Ext.drewN) | (with_reducible exact Ext.refl _))))⟩
    · have hc3e : ((vs.length : Int) == (countL s1 : Int)) = false := by simpa using hc3
      have hc3n : ((vs.length : Int) != (countL s1 : Int)) = true := by simpa using hc3
      replace hc3 := Lib.hid hc3
      go_wp2_with fail
      go_ret2
      rw [show addA mem b1 s1 t1 vs = [] by unfold addA; rw [(show storeB mem b1 s1 t1 vs = false from by unfold storeB; rw [hB2.out, decide_eq_false hc3.out] <;> rfl)]; rfl, (show storeB mem b1 s1 t1 vs = false from by unfold storeB; rw [hB2.out, decide_eq_false hc3.out] <;> rfl)]
      exact PIntsB.nil (Xw1.trans (by repeat (first | (with_reducible assumption) | (with_reducible refine Ext.setCell ?_ (by first | (simp; done) | (simp; omega) | omega) _) | (with_reducible apply Ext.alloc) | (with_reducible apply Ext.drew) | (with_reducible apply Ext.drewN) | (with_reducible exact Ext.refl _))))

set_option maxHeartbeats 3200000 in
theorem specAddView1 (mem : List Int) (a0 : Value) (b1 : Int) (u1 v1 : Value) (s1 t1 : List Int) (a3 : Value) (vs : List Int) (w : World) (l0 : Nat) (h0 : Ints w l0 a0 mem) (l1 m1 : Nat) (h1 : Ints w l1 u1 s1) (k1 : Ints w m1 v1 t1) (l3 : Nat) (h3 : Ints w l3 a3 vs) (hme : mem ≠ []) :
    Calls Try.prog 43 #[a0, .agg #[.int .i64 b1, u1, v1], a3] w (PIntsB w (addA mem b1 s1 t1 vs) (storeB mem b1 s1 t1 vs)) := by
  obtain ⟨p0, c0, rfl⟩ := h1.form
  obtain ⟨p1, c1, rfl⟩ := k1.form
  obtain ⟨p2, c2, rfl⟩ := h0.form
  obtain ⟨p3, c3, rfl⟩ := h3.form
  have hmne := Lib.hid hme
  clear hme
  go_enter Try.func43, Try.ntmps43
  go_wp2_with fail
  refine (sees_c mem (.slice p2 mem.length c2) b1 (.slice p0 s1.length c0) (.slice p1 t1.length c1) s1 t1 _ _ _ _ (h0.ext (by repeat (first | (with_reducible assumption) | (with_reducible refine Ext.setCell ?_ (by first | (simp; done) | (simp; omega) | omega) _) | (with_reducible apply Ext.alloc) | (with_reducible apply Ext.drew) | (with_reducible apply Ext.drewN) | (with_reducible exact Ext.refl _)))) (h1.ext (by repeat (first | (with_reducible assumption) | (with_reducible refine Ext.setCell ?_ (by first | (simp; done) | (simp; omega) | omega) _) | (with_reducible apply Ext.alloc) | (with_reducible apply Ext.drew) | (with_reducible apply Ext.drewN) | (with_reducible exact Ext.refl _)))) (k1.ext (by repeat (first | (with_reducible assumption) | (with_reducible refine Ext.setCell ?_ (by first | (simp; done) | (simp; omega) | omega) _) | (with_reducible apply Ext.alloc) | (with_reducible apply Ext.drew) | (with_reducible apply Ext.drewN) | (with_reducible exact Ext.refl _))))).mono ?_
  rintro e w1 ⟨rfl, xw1⟩
  have Lw1 : Ext w w1 := Ext.trans (by repeat (first | (with_reducible assumption) | (with_reducible refine Ext.setCell ?_ (by first | (simp; done) | (simp; omega) | omega) _) | (with_reducible apply Ext.alloc) | (with_reducible apply Ext.drew) | (with_reducible apply Ext.drewN) | (with_reducible exact Ext.refl _))) xw1
  have Xw1 : Ext w w1 := Lw1
  have b10 : w1.cell? ⟨w.heap.size, 0, none⟩ = some (.int .i64 b1) := xw1.cell (by first | (simp; done) | ((repeat rw [World.cell?_alloc_lt _ _ _ (by simp <;> omega)]); simp; done) | (go_simp; done))
  have b11 : w1.cell? ⟨w.heap.size, 1, none⟩ = some (.slice p0 s1.length c0) := xw1.cell (by first | (simp; done) | ((repeat rw [World.cell?_alloc_lt _ _ _ (by simp <;> omega)]); simp; done) | (go_simp; done))
  have b12 : w1.cell? ⟨w.heap.size, 2, none⟩ = some (.slice p1 t1.length c1) := xw1.cell (by first | (simp; done) | ((repeat rw [World.cell?_alloc_lt _ _ _ (by simp <;> omega)]); simp; done) | (go_simp; done))
  have z_b1 : w.heap.size < w1.heap.size := World.block_lt_of_cell? _ _ b10
  have s_w1 : w.heap.size ≤ w1.heap.size := Xw1.size
  clear xw1
  cases hB2 : holdB mem b1 s1 t1
  · replace hB2 := Lib.hid hB2
    go_wp2_with fail
    go_ret2
    rw [show addA mem b1 s1 t1 vs = [] by unfold addA; rw [(show storeB mem b1 s1 t1 vs = false from by unfold storeB; rw [hB2.out] <;> rfl)]; rfl, (show storeB mem b1 s1 t1 vs = false from by unfold storeB; rw [hB2.out] <;> rfl)]
    exact PIntsB.nil (Xw1.trans (by repeat (first | (with_reducible assumption) | (with_reducible refine Ext.setCell ?_ (by first | (simp; done) | (simp; omega) | omega) _) | (with_reducible apply Ext.alloc) | (with_reducible apply Ext.drew) | (with_reducible apply Ext.drewN) | (with_reducible exact Ext.refl _))))
  · replace hB2 := Lib.hid hB2
    go_wp2_with fail
    refine (count_c s1 (.slice p0 s1.length c0) _ _ (h1.ext (Xw1.trans (by repeat (first | (with_reducible assumption) | (with_reducible refine Ext.setCell ?_ (by first | (simp; done) | (simp; omega) | omega) _) | (with_reducible apply Ext.alloc) | (with_reducible apply Ext.drew) | (with_reducible apply Ext.drewN) | (with_reducible exact Ext.refl _)))))).mono ?_
    rintro e w' ⟨rfl, rfl⟩
    by_cases hc3 : (vs.length : Int) = (countL s1 : Int)
    · have hc3e : ((vs.length : Int) == (countL s1 : Int)) = true := by simpa using hc3
      have hc3n : ((vs.length : Int) != (countL s1 : Int)) = false := by simpa using hc3
      replace hc3 := Lib.hid hc3
      go_wp2_with fail
      refine (allIn_c vs (.slice p3 vs.length c3) 0 255 _ _ (h3.ext (Xw1.trans (by repeat (first | (with_reducible assumption) | (with_reducible refine Ext.setCell ?_ (by first | (simp; done) | (simp; omega) | omega) _) | (with_reducible apply Ext.alloc) | (with_reducible apply Ext.drew) | (with_reducible apply Ext.drewN) | (with_reducible exact Ext.refl _)))))).mono ?_
      rintro e w' ⟨rfl, rfl⟩
      cases hB4 : vs.all (inB 0 255)
      · replace hB4 := Lib.hid hB4
        go_wp2_with fail
        go_ret2
        rw [show addA mem b1 s1 t1 vs = [] by unfold addA; rw [(show storeB mem b1 s1 t1 vs = false from by unfold storeB; rw [hB2.out, decide_eq_true hc3.out, ← badV_all, hB4.out] <;> rfl)]; rfl, (show storeB mem b1 s1 t1 vs = false from by unfold storeB; rw [hB2.out, decide_eq_true hc3.out, ← badV_all, hB4.out] <;> rfl)]
        exact PIntsB.nil (Xw1.trans (by repeat (first | (with_reducible assumption) | (with_reducible refine Ext.setCell ?_ (by first | (simp; done) | (simp; omega) | omega) _) | (with_reducible apply Ext.alloc) | (with_reducible apply Ext.drew) | (with_reducible apply Ext.drewN) | (with_reducible exact Ext.refl _))))
      · replace hB4 := Lib.hid hB4
        have hst : storeB mem b1 s1 t1 vs = true := by unfold storeB; rw [hB2.out, decide_eq_true hc3.out, ← badV_all, hB4.out] <;> rfl
        replace hst := Lib.hid hst
        go_wp2_with fail
        have Q5_b10 := Lib.hid b10
        have Q5_b11 := Lib.hid b11
        have Q5_b12 := Lib.hid b12
        have Q5_zb1 := z_b1
        have BL6 : Ext w1 w1 := Ext.refl _
        refine (copyInts_c mem (.slice p2 mem.length c2) _ _ (h0.ext (Xw1.trans (by repeat (first | (with_reducible assumption) | (with_reducible refine Ext.setCell ?_ (by first | (simp; done) | (simp; omega) | omega) _) | (with_reducible apply Ext.alloc) | (with_reducible apply Ext.drew) | (with_reducible apply Ext.drewN) | (with_reducible exact Ext.refl _)))))).mono ?_
        rintro e w2 ⟨fv7, rfl, i8, i8z, xw2⟩
        have Lw2 : Ext w1 w2 := Ext.trans (by repeat (first | (with_reducible assumption) | (with_reducible refine Ext.setCell ?_ (by first | (simp; done) | (simp; omega) | omega) _) | (with_reducible apply Ext.alloc) | (with_reducible apply Ext.drew) | (with_reducible apply Ext.drewN) | (with_reducible exact Ext.refl _))) xw2
        have Xw2 : Ext w w2 := Xw1.trans Lw2
        replace b10 := Lw2.cell b10
        replace b11 := Lw2.cell b11
        replace b12 := Lw2.cell b12
        have z_b1 : w.heap.size < w2.heap.size := World.block_lt_of_cell? _ _ b10
        have s_w2 : w.heap.size ≤ w2.heap.size := Xw2.size
        have BL6_w2 : Ext w1 w2 := BL6.trans Lw2
        clear xw2
        obtain ⟨afv7, cfv7, rfl⟩ := i8.form
        have O9 := i8z.ofNe hmne.out
        obtain ⟨gr10, rr11, hvgr10, Ggr10, Ggr10'⟩ := O9.row hmne.out
        cases hvgr10
        clear i8 i8z
        skip
        go_wp2_with fail
        refine (offsets_c b1 (.slice p0 s1.length c0) (.slice p1 t1.length c1) s1 t1 _ _ _ (h1.ext (Xw2.trans (by repeat (first | (with_reducible assumption) | (with_reducible refine Ext.setCell ?_ (by first | (simp; done) | (simp; omega) | omega) _) | (with_reducible apply Ext.alloc) | (with_reducible apply Ext.drew) | (with_reducible apply Ext.drewN) | (with_reducible exact Ext.refl _))))) (k1.ext (Xw2.trans (by repeat (first | (with_reducible assumption) | (with_reducible refine Ext.setCell ?_ (by first | (simp; done) | (simp; omega) | omega) _) | (with_reducible apply Ext.alloc) | (with_reducible apply Ext.drew) | (with_reducible apply Ext.drewN) | (with_reducible exact Ext.refl _))))) (vw (store_in hst.out).2.2.2.1).1 (vw (store_in hst.out).2.2.2.1).2.1 (vw (store_in hst.out).2.2.2.1).2.2.1).mono ?_
        rintro e w3 ⟨fv13, rfl, i14, i14z, xw3⟩
        have Lw3 : Ext w2 w3 := Ext.trans (by repeat (first | (with_reducible assumption) | (with_reducible refine Ext.setCell ?_ (by first | (simp; done) | (simp; omega) | omega) _) | (with_reducible apply Ext.alloc) | (with_reducible apply Ext.drew) | (with_reducible apply Ext.drewN) | (with_reducible exact Ext.refl _))) xw3
        have Xw3 : Ext w w3 := Xw2.trans Lw3
        replace b10 := Lw3.cell b10
        replace b11 := Lw3.cell b11
        replace b12 := Lw3.cell b12
        have z_b1 : w.heap.size < w3.heap.size := World.block_lt_of_cell? _ _ b10
        replace O9 := O9.ext Lw3
        have s_w3 : w.heap.size ≤ w3.heap.size := Xw3.size
        have BL6_w3 : Ext w1 w3 := BL6_w2.trans Lw3
        clear xw3
        obtain ⟨afv13, cfv13, rfl⟩ := i14.form
        go_wp2_with fail
        obtain ⟨-, hvl, hv255, -, hix, ⟨hm60, hm255⟩, ho60⟩ := store_in hst.out
        replace hix := Lib.hid hix
        replace hv255 := Lib.hid hv255
        replace hm255 := Lib.hid hm255
        replace hvl := Lib.hid hvl
        go_loopw [10] (fun i wr => ∃ (k : Nat), k ≤ (offsL b1 s1 t1).length ∧ i = .int .i64 k ∧ OwnI wr (w1.heap.size) (.slice (some ⟨gr10, 0, none⟩) mem.length cfv7) (addUp mem (offsL b1 s1 t1) vs k) ∧ Chg gr10 (gr10 + 1) w3 wr ∧ Ext w1 wr) (fun i _ => (offsL b1 s1 t1).length - (intOf i).toNat)
        case atStart => exact ⟨0, Nat.zero_le _, rfl, (show OwnI _ _ _ (addUp mem (offsL b1 s1 t1) vs 0) from (O9.ext (by repeat (first | (with_reducible assumption) | (with_reducible refine Ext.setCell ?_ (by first | (simp; done) | (simp; omega) | omega) _) | (with_reducible apply Ext.alloc) | (with_reducible apply Ext.drew) | (with_reducible apply Ext.drewN) | (with_reducible exact Ext.refl _))))), Chg.refl _ _ _, BL6_w3⟩
        case round =>
          obtain ⟨k, hk, rfl, O9n, Kr15, Er16⟩ := hrel
          have Xwr : Ext w wr := Xw1.trans Er16
          have s_wr : w.heap.size ≤ wr.heap.size := Xwr.size
          have t_wr : w3.heap.size ≤ wr.heap.size := Kr15.size
          replace b10 := Er16.cell Q5_b10.out
          replace b11 := Er16.cell Q5_b11.out
          replace b12 := Er16.cell Q5_b12.out
          have z_b1 : w.heap.size < wr.heap.size := World.block_lt_of_cell? _ _ b10
          clear O9
          have O9 := O9n
          clear O9n
          replace i14 := i14.chg Kr15 (by omega)
          replace i14z := i14z.chg Kr15 (by omega)
          by_cases hlt : k < (offsL b1 s1 t1).length
          · have hkI : (k : Int) < (offsL b1 s1 t1).length := by omega
            obtain ⟨hi0, hi1⟩ := hix.out _ (getD_mem hlt)
            obtain ⟨j, hj⟩ : ∃ j : Nat, (offsL b1 s1 t1).getD k 0 = j := ⟨((offsL b1 s1 t1).getD k 0).toNat, by omega⟩
            rw [hj] at hi0 hi1
            replace hj := Lib.hid hj
            have hal := Lib.hid (addUp_len mem (offsL b1 s1 t1) vs k)
            go_wp2_with fail
            have hN_e19 : k < (offsL b1 s1 t1).length := (by omega)
            have hI_e19 : (k : Int) < ((offsL b1 s1 t1).length : Int) := by omega
            obtain ⟨bl17, ol18, rfl, e190⟩ := i14.at k (by omega)
            obtain ⟨v20, hv20⟩ : ∃ v, (offsL b1 s1 t1).getD k 0 = v := ⟨_, rfl⟩
            rw [hv20] at e190
            replace hv20 := Lib.hid hv20
            have y_e19 : bl17 < wr.heap.size := World.block_lt_of_cell? _ _ e190
            have z_e19 := y_e19
            obtain rfl : v20 = (j : Int) := by rw [← hv20.out]; exact hj.out
            have hN_e26 : j < (addUp mem (offsL b1 s1 t1) vs k).length := (by rw [addUp_len]; omega)
            have hI_e26 : (j : Int) < ((addUp mem (offsL b1 s1 t1) vs k).length : Int) := by omega
            obtain ⟨b_e26, o_e26, h_e26, e260⟩ := (O9.ints (by first | assumption | (simp only [addUp_len, List.length_set]; omega) | omega)).at j (by rw [addUp_len]; omega)
            cases h_e26
            rw [Nat.zero_add] at e260
            obtain ⟨v27, hv27⟩ : ∃ v, (addUp mem (offsL b1 s1 t1) vs k).getD j 0 = v := ⟨_, rfl⟩
            rw [hv27] at e260
            replace hv27 := Lib.hid hv27
            have y_e26 : gr10 < wr.heap.size := World.block_lt_of_cell? _ _ e260
            have z_e26 := y_e26
            have hbv27 := addUp_bd mem (offsL b1 s1 t1) vs hm255.out k _ (getD_mem (show j < (addUp mem (offsL b1 s1 t1) vs k).length by rw [addUp_len]; omega))
            rw [hv27.out] at hbv27
            have hN_e30 : k < vs.length := (by have := hvl.out; omega)
            have hI_e30 : (k : Int) < (vs.length : Int) := by omega
            obtain ⟨bl28, ol29, rfl, e300⟩ := h3.at k (by have := hvl.out; omega)
            have y_e30 : bl28 < w.heap.size := World.block_lt_of_cell? _ _ e300
            replace e300 := Xwr.cell e300
            obtain ⟨v31, hv31⟩ : ∃ v, vs.getD k 0 = v := ⟨_, rfl⟩
            rw [hv31] at e300
            replace hv31 := Lib.hid hv31
            have z_e30 : bl28 < wr.heap.size := World.block_lt_of_cell? _ _ e300
            have hbv31 := hv255.out _ (getD_mem (show k < vs.length by have := hvl.out; omega))
            rw [hv31.out] at hbv31
            have hs := Lib.hid (addUp_step hj.out hv27.out hv31.out hbv27.1 hbv31.1)
            have A32 := O9.cell j (by rw [addUp_len]; omega)
            obtain ⟨A32a, A32b⟩ := A32
            refine wp_region_tail (S := fun w' => w'.cell? ⟨w.heap.size, 0, none⟩ = some (.int .i64 b1) ∧ w'.cell? ⟨w.heap.size, 1, none⟩ = some (.slice p0 s1.length c0) ∧ w'.cell? ⟨w.heap.size, 2, none⟩ = some (.slice p1 t1.length c1) ∧ w'.cell? ⟨bl17, ol18 + k, none⟩ = some (.int .i64 (j : Int)) ∧ w'.cell? ⟨gr10, j, none⟩ = some (.int .i64 v27) ∧ w'.cell? ⟨bl28, ol29 + k, none⟩ = some (.int .i64 v31)) (fun i => decide (19 ≤ i)) (by kernel_rfl) ⟨b10, b11, b12, e190, e260, e300⟩ (fun hHeld => ?_)
            refine wpTail_take (i := 0) (v := ?_) rfl (by kernel_rfl) (by kernel_rfl) (by kernel_rfl) rfl (by kernel_rfl) (fun _ _ _ h => h) (Or.inl ⟨by rfl, ?_⟩) (by assumption) ?_
            rotate_left
            · (intro w hSw; (try dsimp only at hSw); go_simp; try with_reducible rfl)
            try simp only [Act.put, List.setIfInBounds_toArray, List.set_cons_zero, List.set_cons_succ, List.getElem_toArray, List.getElem_cons_succ, List.getElem_cons_zero]
            refine wpTail_take (i := 1) (v := ?_) rfl (by kernel_rfl) (by kernel_rfl) (by kernel_rfl) rfl (by kernel_rfl) (fun _ _ _ h => h) (Or.inl ⟨by rfl, ?_⟩) (by assumption) ?_
            rotate_left
            · (intro w hSw; (try dsimp only at hSw); go_simp; try with_reducible rfl)
            try simp only [Act.put, List.setIfInBounds_toArray, List.set_cons_zero, List.set_cons_succ, List.getElem_toArray, List.getElem_cons_succ, List.getElem_cons_zero]
            refine wpTail_take (i := 2) (v := ?_) rfl (by kernel_rfl) (by kernel_rfl) (by kernel_rfl) rfl (by kernel_rfl) (fun _ _ _ h => h) (Or.inl ⟨by rfl, ?_⟩) (by assumption) ?_
            rotate_left
            · (intro w hSw; (try dsimp only at hSw); go_simp; try with_reducible rfl)
            try simp only [Act.put, List.setIfInBounds_toArray, List.set_cons_zero, List.set_cons_succ, List.getElem_toArray, List.getElem_cons_succ, List.getElem_cons_zero]
            refine wpTail_take (i := 3) (v := ?_) rfl (by kernel_rfl) (by kernel_rfl) (by kernel_rfl) rfl (by kernel_rfl) (fun _ _ _ h => h) (Or.inl ⟨by rfl, ?_⟩) (by assumption) ?_
            rotate_left
            · (intro w hSw; (try dsimp only at hSw); go_simp; try with_reducible rfl)
            try simp only [Act.put, List.setIfInBounds_toArray, List.set_cons_zero, List.set_cons_succ, List.getElem_toArray, List.getElem_cons_succ, List.getElem_cons_zero]
            refine wpTail_take (i := 4) (v := ?_) rfl (by kernel_rfl) (by kernel_rfl) (by kernel_rfl) rfl (by kernel_rfl) (fun _ _ _ h => h) (Or.inl ⟨by rfl, ?_⟩) (by assumption) ?_
            rotate_left
            · (intro w hSw; (try dsimp only at hSw); go_simp; try with_reducible rfl)
            try simp only [Act.put, List.setIfInBounds_toArray, List.set_cons_zero, List.set_cons_succ, List.getElem_toArray, List.getElem_cons_succ, List.getElem_cons_zero]
            refine wpTail_take (i := 5) (v := ?_) rfl (by kernel_rfl) (by kernel_rfl) (by kernel_rfl) rfl (by kernel_rfl) (fun _ _ _ h => h) (Or.inl ⟨by rfl, ?_⟩) (by assumption) ?_
            rotate_left
            · (intro w hSw; (try dsimp only at hSw); go_simp; try with_reducible rfl)
            try simp only [Act.put, List.setIfInBounds_toArray, List.set_cons_zero, List.set_cons_succ, List.getElem_toArray, List.getElem_cons_succ, List.getElem_cons_zero]
            refine wpTail_take (i := 6) (v := ?_) rfl (by kernel_rfl) (by kernel_rfl) (by kernel_rfl) rfl (by kernel_rfl) (fun _ _ _ h => h) (Or.inl ⟨by rfl, ?_⟩) (by assumption) ?_
            rotate_left
            · (intro w hSw; (try dsimp only at hSw); go_simp; try with_reducible rfl)
            try simp only [Act.put, List.setIfInBounds_toArray, List.set_cons_zero, List.set_cons_succ, List.getElem_toArray, List.getElem_cons_succ, List.getElem_cons_zero]
            refine wpTail_take (i := 7) (v := ?_) rfl (by kernel_rfl) (by kernel_rfl) (by kernel_rfl) rfl (by kernel_rfl) (fun _ _ _ h => h) (Or.inl ⟨by rfl, ?_⟩) (by assumption) ?_
            rotate_left
            · (intro w hSw; (try dsimp only at hSw); go_simp; try with_reducible rfl)
            try simp only [Act.put, List.setIfInBounds_toArray, List.set_cons_zero, List.set_cons_succ, List.getElem_toArray, List.getElem_cons_succ, List.getElem_cons_zero]
            refine wpTail_take (i := 8) (v := ?_) rfl (by kernel_rfl) (by kernel_rfl) (by kernel_rfl) rfl (by kernel_rfl) (fun _ _ _ h => h) (Or.inl ⟨by rfl, ?_⟩) (by assumption) ?_
            rotate_left
            · (intro w hSw; (try dsimp only at hSw); go_simp; try with_reducible rfl)
            try simp only [Act.put, List.setIfInBounds_toArray, List.set_cons_zero, List.set_cons_succ, List.getElem_toArray, List.getElem_cons_succ, List.getElem_cons_zero]
            refine wpTail_take (i := 9) (v := ?_) rfl (by kernel_rfl) (by kernel_rfl) (by kernel_rfl) rfl (by kernel_rfl) (fun _ _ _ h => h) (Or.inl ⟨by rfl, ?_⟩) (by assumption) ?_
            rotate_left
            · (intro w hSw; (try dsimp only at hSw); go_simp; try with_reducible rfl)
            try simp only [Act.put, List.setIfInBounds_toArray, List.set_cons_zero, List.set_cons_succ, List.getElem_toArray, List.getElem_cons_succ, List.getElem_cons_zero]
            refine wpTail_take (i := 10) (v := ?_) rfl (by kernel_rfl) (by kernel_rfl) (by kernel_rfl) rfl (by kernel_rfl) (fun _ _ _ h => h) (Or.inl ⟨by rfl, ?_⟩) (by assumption) ?_
            rotate_left
            · (intro w hSw; (try dsimp only at hSw); go_simp; try with_reducible rfl)
            try simp only [Act.put, List.setIfInBounds_toArray, List.set_cons_zero, List.set_cons_succ, List.getElem_toArray, List.getElem_cons_succ, List.getElem_cons_zero]
            refine wpTail_take (i := 11) (v := ?_) rfl (by kernel_rfl) (by kernel_rfl) (by kernel_rfl) rfl (by kernel_rfl) (fun _ _ _ h => h) (Or.inl ⟨by rfl, ?_⟩) (by assumption) ?_
            rotate_left
            · (intro w hSw; (try dsimp only at hSw); go_simp; try with_reducible rfl)
            try simp only [Act.put, List.setIfInBounds_toArray, List.set_cons_zero, List.set_cons_succ, List.getElem_toArray, List.getElem_cons_succ, List.getElem_cons_zero]
            refine wpTail_take (i := 12) (v := ?_) rfl (by kernel_rfl) (by kernel_rfl) (by kernel_rfl) rfl (by kernel_rfl) (fun _ _ _ h => h) (Or.inl ⟨by rfl, ?_⟩) (by assumption) ?_
            rotate_left
            · (intro w hSw; (try dsimp only at hSw); go_simp; try with_reducible rfl)
            try simp only [Act.put, List.setIfInBounds_toArray, List.set_cons_zero, List.set_cons_succ, List.getElem_toArray, List.getElem_cons_succ, List.getElem_cons_zero]
            refine wpTail_take (i := 13) (v := ?_) rfl (by kernel_rfl) (by kernel_rfl) (by kernel_rfl) rfl (by kernel_rfl) (fun _ _ _ h => h) (Or.inl ⟨by rfl, ?_⟩) (by assumption) ?_
            rotate_left
            · (intro w hSw; (try dsimp only at hSw); go_simp; try with_reducible rfl)
            try simp only [Act.put, List.setIfInBounds_toArray, List.set_cons_zero, List.set_cons_succ, List.getElem_toArray, List.getElem_cons_succ, List.getElem_cons_zero]
            refine wpTail_take (i := 14) (v := ?_) rfl (by kernel_rfl) (by kernel_rfl) (by kernel_rfl) rfl (by kernel_rfl) (fun _ _ _ h => h) (Or.inl ⟨by rfl, ?_⟩) (by assumption) ?_
            rotate_left
            · (intro w hSw; (try dsimp only at hSw); go_simp; try with_reducible rfl)
            try simp only [Act.put, List.setIfInBounds_toArray, List.set_cons_zero, List.set_cons_succ, List.getElem_toArray, List.getElem_cons_succ, List.getElem_cons_zero]
            refine wpTail_take (i := 15) (v := ?_) rfl (by kernel_rfl) (by kernel_rfl) (by kernel_rfl) rfl (by kernel_rfl) (fun _ _ _ h => h) (Or.inl ⟨by rfl, ?_⟩) (by assumption) ?_
            rotate_left
            · (intro w hSw; (try dsimp only at hSw); go_simp; try with_reducible rfl)
            try simp only [Act.put, List.setIfInBounds_toArray, List.set_cons_zero, List.set_cons_succ, List.getElem_toArray, List.getElem_cons_succ, List.getElem_cons_zero]
            have hw45 : IntKind.i64.wrap (v27 + v31) = v27 + v31 := IntWalk.i64_in _ (by omega)
            refine wpTail_take (i := 16) (v := ?_) rfl (by kernel_rfl) (by kernel_rfl) (by kernel_rfl) rfl (by kernel_rfl) (fun _ _ _ h => h) (Or.inl ⟨by rfl, ?_⟩) (by assumption) ?_
            rotate_left
            · (intro w hSw; (try dsimp only at hSw); go_simp; try with_reducible rfl)
            try simp only [Act.put, List.setIfInBounds_toArray, List.set_cons_zero, List.set_cons_succ, List.getElem_toArray, List.getElem_cons_succ, List.getElem_cons_zero]
            refine wpTail_take (i := 17) (v := ?_) rfl (by kernel_rfl) (by kernel_rfl) (by kernel_rfl) rfl (by kernel_rfl) (fun _ _ _ h => h) (Or.inl ⟨by rfl, ?_⟩) (by assumption) ?_
            rotate_left
            · (intro w hSw; (try dsimp only at hSw); go_simp; try with_reducible rfl)
            try simp only [Act.put, List.setIfInBounds_toArray, List.set_cons_zero, List.set_cons_succ, List.getElem_toArray, List.getElem_cons_succ, List.getElem_cons_zero]
            refine wpTail_take (i := 18) (v := ?_) rfl (by kernel_rfl) (by kernel_rfl) (by kernel_rfl) rfl (by kernel_rfl) (fun _ _ _ h => h) (Or.inl ⟨by rfl, ?_⟩) (by assumption) ?_
            rotate_left
            · (intro w hSw; (try dsimp only at hSw); go_simp; try with_reducible rfl)
            try simp only [Act.put, List.setIfInBounds_toArray, List.set_cons_zero, List.set_cons_succ, List.getElem_toArray, List.getElem_cons_succ, List.getElem_cons_zero]
            refine wpTail_last (i := 19) (by kernel_rfl) rfl rfl (fun K hK => ?_)
            try simp only [Act.put, List.setIfInBounds_toArray, List.set_cons_zero, List.set_cons_succ, List.getElem_toArray, List.getElem_cons_succ, List.getElem_cons_zero]
            go_simp
            refine hK.out _ _ ?_
            clear hK K
            try simp only [Act.put, List.setIfInBounds_toArray, List.set_cons_zero, List.set_cons_succ, List.getElem_toArray, List.getElem_cons_succ, List.getElem_cons_zero]
            refine wpTail_done (by kernel_rfl) ?_ _
            clear hHeld hw45
            clear e190 z_e19
            clear e260 z_e26
            clear e300 z_e30
            have Kw4 : Chg (gr10) (gr10 + 1) wr ((wr.setCell ⟨gr10, j, none⟩ (.int .i64 ((v27 + v31).tmod 256))).drew) := ((Chg.setCell (p := ⟨gr10, j, none⟩) (Chg.refl (gr10) (gr10 + 1) _) (Nat.le_refl _) (Nat.lt_succ_self _) (.int .i64 ((v27 + v31).tmod 256))).ext (Ext.drew (Ext.refl _)))
            have Xw4 : Ext w ((wr.setCell ⟨gr10, j, none⟩ (.int .i64 ((v27 + v31).tmod 256))).drew) := (Ext.drew (Ext.setCell (p := ⟨gr10, j, none⟩) Xwr (by first | (simp; done) | (simp; omega) | omega) (.int .i64 ((v27 + v31).tmod 256))))
            have BL6_w4 : Ext w1 ((wr.setCell ⟨gr10, j, none⟩ (.int .i64 ((v27 + v31).tmod 256))).drew) := (Ext.drew (Ext.setCell (p := ⟨gr10, j, none⟩) Er16 (by first | (simp; done) | (simp; omega) | omega) (.int .i64 ((v27 + v31).tmod 256))))
            have Kr15_w4 : Chg gr10 (gr10 + 1) w3 ((wr.setCell ⟨gr10, j, none⟩ (.int .i64 ((v27 + v31).tmod 256))).drew) := Chg.trans Kr15 Kw4
            replace b10 := BL6_w4.cell Q5_b10.out
            replace b11 := BL6_w4.cell Q5_b11.out
            replace b12 := BL6_w4.cell Q5_b12.out
            have n_O9 := O9.setD j ((v27 + v31).tmod 256) (by first | omega | (simp; omega))
            replace O9 := n_O9
            clear n_O9
            replace i14 := i14.chg Kw4 (by omega)
            replace i14z := i14z.chg Kw4 (by omega)
            clear Kw4
            have z_b1 : w.heap.size < ((wr.setCell ⟨gr10, j, none⟩ (.int .i64 ((v27 + v31).tmod 256))).drew).heap.size := World.block_lt_of_cell? _ _ b10
            have s_w4 : w.heap.size ≤ ((wr.setCell ⟨gr10, j, none⟩ (.int .i64 ((v27 + v31).tmod 256))).drew).heap.size := Xw4.size
            generalize ((wr.setCell ⟨gr10, j, none⟩ (.int .i64 ((v27 + v31).tmod 256))).drew) = w4 at *
            clear A32a A32b
            go_wp2_with fail
            go_roundw
            case rel => exact ⟨k + 1, by omega, by go_num, (by rw [hs.out]; exact O9.ext (by repeat (first | (with_reducible assumption) | (with_reducible refine Ext.setCell ?_ (by first | (simp; done) | (simp; omega) | omega) _) | (with_reducible apply Ext.alloc) | (with_reducible apply Ext.drew) | (with_reducible apply Ext.drewN) | (with_reducible exact Ext.refl _)))), Kr15_w4.ext (by repeat (first | (with_reducible assumption) | (with_reducible refine Ext.setCell ?_ (by first | (simp; done) | (simp; omega) | omega) _) | (with_reducible apply Ext.alloc) | (with_reducible apply Ext.drew) | (with_reducible apply Ext.drewN) | (with_reducible exact Ext.refl _))), BL6_w4.trans (by repeat (first | (with_reducible assumption) | (with_reducible refine Ext.setCell ?_ (by first | (simp; done) | (simp; omega) | omega) _) | (with_reducible apply Ext.alloc) | (with_reducible apply Ext.drew) | (with_reducible apply Ext.drewN) | (with_reducible exact Ext.refl _)))⟩
            case measure => simp [intOf]; omega
          · have hkI : ¬ (k : Int) < (offsL b1 s1 t1).length := by omega
            go_wp2_with fail
            go_ret2
            rw [show addA mem b1 s1 t1 vs = addUp mem (offsL b1 s1 t1) vs k by unfold addA; rw [hst.out, if_pos rfl, show k = (offsL b1 s1 t1).length by omega], hst.out]
            exact ⟨_, rfl, (O9.ints (by rw [addUp_len]; omega)).lower (by omega), (O9.lower (by omega)).z, Xwr⟩
    · have hc3e : ((vs.length : Int) == (countL s1 : Int)) = false := by simpa using hc3
      have hc3n : ((vs.length : Int) != (countL s1 : Int)) = true := by simpa using hc3
      replace hc3 := Lib.hid hc3
      go_wp2_with fail
      go_ret2
      rw [show addA mem b1 s1 t1 vs = [] by unfold addA; rw [(show storeB mem b1 s1 t1 vs = false from by unfold storeB; rw [hB2.out, decide_eq_false hc3.out] <;> rfl)]; rfl, (show storeB mem b1 s1 t1 vs = false from by unfold storeB; rw [hB2.out, decide_eq_false hc3.out] <;> rfl)]
      exact PIntsB.nil (Xw1.trans (by repeat (first | (with_reducible assumption) | (with_reducible refine Ext.setCell ?_ (by first | (simp; done) | (simp; omega) | omega) _) | (with_reducible apply Ext.alloc) | (with_reducible apply Ext.drew) | (with_reducible apply Ext.drewN) | (with_reducible exact Ext.refl _))))

set_option maxHeartbeats 1600000 in
theorem specAddView_c (mem : List Int) (a0 : Value) (b1 : Int) (u1 v1 : Value) (s1 t1 : List Int) (a3 : Value) (vs : List Int) (w : World) (l0 : Nat) (h0 : Ints w l0 a0 mem) (l1 m1 : Nat) (h1 : Ints w l1 u1 s1) (k1 : Ints w m1 v1 t1) (l3 : Nat) (h3 : Ints w l3 a3 vs) :
    Calls Try.prog 43 #[a0, .agg #[.int .i64 b1, u1, v1], a3] w (PIntsB w (addA mem b1 s1 t1 vs) (storeB mem b1 s1 t1 vs)) := by
  by_cases hme : mem = []
  · exact specAddView0 mem a0 b1 u1 v1 s1 t1 a3 vs w l0 h0 l1 m1 h1 k1 l3 h3 hme
  · exact specAddView1 mem a0 b1 u1 v1 s1 t1 a3 vs w l0 h0 l1 m1 h1 k1 l3 h3 hme


end Go.Proofs.Ytnjaidgifccgjaa

/- FnAddView returns true for all bytes: no condition. -/
namespace Go.Proofs.Ytnjaidgifccgjaa
open Go.RowKit
set_option linter.unusedVariables false
set_option maxRecDepth 100000


theorem sumAt_bd (ix vs : List Int) (x : Int) (hv : ∀ y ∈ vs, 0 ≤ y ∧ y ≤ 255) : ∀ k : Nat, k ≤ vs.length → 0 ≤ sumAt ix vs x k ∧ sumAt ix vs x k ≤ 255 * (k : Int)
  | 0, _ => by simp [sumAt]
  | k+1, h => by
    have ih := sumAt_bd ix vs x hv k (by omega)
    have h1 := hv _ (getD_mem (show k < vs.length by omega))
    simp only [sumAt]
    split <;> omega
theorem add_law {mem : List Int} {b : Int} {s t vs : List Int} (h : storeB mem b s t vs = true) :
    (addA mem b s t vs).length = mem.length ∧ vs.length = (offA b s t).length ∧ (offA b s t).length ≤ 60 ∧ (∀ x ∈ vs, 0 ≤ x ∧ x ≤ 255) ∧ (∀ x ∈ mem, 0 ≤ x ∧ x ≤ 255) ∧
    (∀ x : Nat, x < mem.length → (addA mem b s t vs).getD x 0 = (mem.getD x 0 + sumAt (offA b s t) vs x (offA b s t).length) % 256) := by
  obtain ⟨-, h1, h2, h3, h4, ⟨h5, h6⟩, h7⟩ := store_in h
  have e : offA b s t = offsL b s t := by unfold offA; rw [if_pos h3]
  have e2 : addA mem b s t vs = addUp mem (offsL b s t) vs (offsL b s t).length := by unfold addA; rw [if_pos h]
  rw [e, e2]
  refine ⟨addUp_len _ _ _ _, h1, h7, h2, h6, fun x hx => addUp_get _ _ _ h6 h4 x hx _ (Nat.le_refl _)⟩

set_option maxHeartbeats 3200000 in
theorem lawFnAddView_c (a : Option Addr) (n cap : Nat) (w : World) (hb : BysIn w a n cap) :
    Calls Try.prog 10 #[.slice a n cap] w fun e w' => e = .returned (.bool true) ∧ Ext w w' := by
  have hcm := hb.1
  have hcm2 := hb.2.1
  unfold maxLen at hcm2
  go_enter Try.func10, Try.ntmps10
  by_cases hc1 : (1048576 : Int) < (n : Int)
  · go_wp2_with fail
    go_ret
    exact ⟨rfl, (by repeat (first | exact Ext.refl _ | assumption | apply Ext.drewN | apply Ext.drew | apply Ext.alloc))⟩
  · go_wp2_with fail
    refine (drawAddView_c a n cap _ hb).mono ?_
    rintro e w1 ⟨⟨mem, p0, n0, r0, b, s, t, p1, p2, n1, r1, n2, r2, vs, p3, n3, r3, rfl, l0, i0, i1, i2, l1, l2, i3, l3⟩, xw1⟩
    have Lw1 : Ext w w1 := Ext.trans (by repeat (first | (with_reducible assumption) | (with_reducible refine Ext.setCell ?_ (by first | (simp; done) | (simp; omega) | omega) _) | (with_reducible apply Ext.alloc) | (with_reducible apply Ext.drew) | (with_reducible apply Ext.drewN) | (with_reducible exact Ext.refl _))) xw1
    have Xw1 : Ext w w1 := Lw1
    have s_w1 : w.heap.size ≤ w1.heap.size := Xw1.size
    clear xw1
    obtain rfl := i0.len_eq
    obtain rfl := i1.len_eq
    obtain rfl := i2.len_eq
    obtain rfl := i3.len_eq
    clear hb
    go_wp2_with fail
    refine (implAddView_c mem (.slice p0 mem.length r0) b (.slice p1 s.length r1) (.slice p2 t.length r2) s t (.slice p3 vs.length r3) vs _ _ (i0.ext (by repeat (first | (with_reducible assumption) | (with_reducible refine Ext.setCell ?_ (by first | (simp; done) | (simp; omega) | omega) _) | (with_reducible apply Ext.alloc) | (with_reducible apply Ext.drew) | (with_reducible apply Ext.drewN) | (with_reducible exact Ext.refl _)))) _ _ (i1.ext (by repeat (first | (with_reducible assumption) | (with_reducible refine Ext.setCell ?_ (by first | (simp; done) | (simp; omega) | omega) _) | (with_reducible apply Ext.alloc) | (with_reducible apply Ext.drew) | (with_reducible apply Ext.drewN) | (with_reducible exact Ext.refl _)))) (i2.ext (by repeat (first | (with_reducible assumption) | (with_reducible refine Ext.setCell ?_ (by first | (simp; done) | (simp; omega) | omega) _) | (with_reducible apply Ext.alloc) | (with_reducible apply Ext.drew) | (with_reducible apply Ext.drewN) | (with_reducible exact Ext.refl _)))) _ (i3.ext (by repeat (first | (with_reducible assumption) | (with_reducible refine Ext.setCell ?_ (by first | (simp; done) | (simp; omega) | omega) _) | (with_reducible apply Ext.alloc) | (with_reducible apply Ext.drew) | (with_reducible apply Ext.drewN) | (with_reducible exact Ext.refl _))))).mono ?_
    rintro e w2 ⟨fv3, rfl, i4, -, xw2⟩
    have Lw2 : Ext w1 w2 := Ext.trans (by repeat (first | (with_reducible assumption) | (with_reducible refine Ext.setCell ?_ (by first | (simp; done) | (simp; omega) | omega) _) | (with_reducible apply Ext.alloc) | (with_reducible apply Ext.drew) | (with_reducible apply Ext.drewN) | (with_reducible exact Ext.refl _))) xw2
    have Xw2 : Ext w w2 := Xw1.trans Lw2
    have b20 : w2.cell? ⟨w1.heap.size, 0, none⟩ = some (.int .i64 b) := xw2.cell (by first | (simp; done) | ((repeat rw [World.cell?_alloc_lt _ _ _ (by simp <;> omega)]); simp; done) | (go_simp; done))
    have b21 : w2.cell? ⟨w1.heap.size, 1, none⟩ = some (.slice p1 s.length r1) := xw2.cell (by first | (simp; done) | ((repeat rw [World.cell?_alloc_lt _ _ _ (by simp <;> omega)]); simp; done) | (go_simp; done))
    have b22 : w2.cell? ⟨w1.heap.size, 2, none⟩ = some (.slice p2 t.length r2) := xw2.cell (by first | (simp; done) | ((repeat rw [World.cell?_alloc_lt _ _ _ (by simp <;> omega)]); simp; done) | (go_simp; done))
    have z_b2 : w1.heap.size < w2.heap.size := World.block_lt_of_cell? _ _ b20
    replace i0 := i0.ext Lw2
    replace i1 := i1.ext Lw2
    replace i2 := i2.ext Lw2
    replace i3 := i3.ext Lw2
    have s_w2 : w.heap.size ≤ w2.heap.size := Xw2.size
    clear xw2
    obtain ⟨afv3, cfv3, rfl⟩ := i4.form
    cases hB5 : storeB mem b s t vs
    · replace hB5 := Lib.hid hB5
      go_wp2_with fail
      refine (specAddView_c mem (.slice p0 mem.length r0) b (.slice p1 s.length r1) (.slice p2 t.length r2) s t (.slice p3 vs.length r3) vs _ _ (i0.ext (by repeat (first | (with_reducible assumption) | (with_reducible refine Ext.setCell ?_ (by first | (simp; done) | (simp; omega) | omega) _) | (with_reducible apply Ext.alloc) | (with_reducible apply Ext.drew) | (with_reducible apply Ext.drewN) | (with_reducible exact Ext.refl _)))) _ _ (i1.ext (by repeat (first | (with_reducible assumption) | (with_reducible refine Ext.setCell ?_ (by first | (simp; done) | (simp; omega) | omega) _) | (with_reducible apply Ext.alloc) | (with_reducible apply Ext.drew) | (with_reducible apply Ext.drewN) | (with_reducible exact Ext.refl _)))) (i2.ext (by repeat (first | (with_reducible assumption) | (with_reducible refine Ext.setCell ?_ (by first | (simp; done) | (simp; omega) | omega) _) | (with_reducible apply Ext.alloc) | (with_reducible apply Ext.drew) | (with_reducible apply Ext.drewN) | (with_reducible exact Ext.refl _)))) _ (i3.ext (by repeat (first | (with_reducible assumption) | (with_reducible refine Ext.setCell ?_ (by first | (simp; done) | (simp; omega) | omega) _) | (with_reducible apply Ext.alloc) | (with_reducible apply Ext.drew) | (with_reducible apply Ext.drewN) | (with_reducible exact Ext.refl _))))).mono ?_
      rintro e w3 ⟨fv6, rfl, i7, -, xw3⟩
      have Lw3 : Ext w2 w3 := Ext.trans (by repeat (first | (with_reducible assumption) | (with_reducible refine Ext.setCell ?_ (by first | (simp; done) | (simp; omega) | omega) _) | (with_reducible apply Ext.alloc) | (with_reducible apply Ext.drew) | (with_reducible apply Ext.drewN) | (with_reducible exact Ext.refl _))) xw3
      have Xw3 : Ext w w3 := Xw2.trans Lw3
      replace b20 := Lw3.cell b20
      replace b21 := Lw3.cell b21
      replace b22 := Lw3.cell b22
      have z_b2 : w1.heap.size < w3.heap.size := World.block_lt_of_cell? _ _ b20
      replace i0 := i0.ext Lw3
      replace i1 := i1.ext Lw3
      replace i2 := i2.ext Lw3
      replace i3 := i3.ext Lw3
      replace i4 := i4.ext Lw3
      have s_w3 : w.heap.size ≤ w3.heap.size := Xw3.size
      clear xw3
      obtain ⟨afv6, cfv6, rfl⟩ := i7.form
      rw [hB5.out]
      go_wp2_with fail
      refine (leqInts_c (addA mem b s t vs) (.slice afv3 ((addA mem b s t vs).length) cfv3) (.slice afv6 ((addA mem b s t vs).length) cfv6) _ _ _ (i4.ext (by repeat (first | (with_reducible assumption) | (with_reducible refine Ext.setCell ?_ (by first | (simp; done) | (simp; omega) | omega) _) | (with_reducible apply Ext.alloc) | (with_reducible apply Ext.drew) | (with_reducible apply Ext.drewN) | (with_reducible exact Ext.refl _)))) (i7.ext (by repeat (first | (with_reducible assumption) | (with_reducible refine Ext.setCell ?_ (by first | (simp; done) | (simp; omega) | omega) _) | (with_reducible apply Ext.alloc) | (with_reducible apply Ext.drew) | (with_reducible apply Ext.drewN) | (with_reducible exact Ext.refl _))))).mono ?_
      rintro e w4 ⟨rfl, xw4⟩
      have Lw4 : Ext w3 w4 := Ext.trans (by repeat (first | (with_reducible assumption) | (with_reducible refine Ext.setCell ?_ (by first | (simp; done) | (simp; omega) | omega) _) | (with_reducible apply Ext.alloc) | (with_reducible apply Ext.drew) | (with_reducible apply Ext.drewN) | (with_reducible exact Ext.refl _))) xw4
      have Xw4 : Ext w w4 := Xw3.trans Lw4
      replace b20 := Lw4.cell b20
      replace b21 := Lw4.cell b21
      replace b22 := Lw4.cell b22
      have z_b2 : w1.heap.size < w4.heap.size := World.block_lt_of_cell? _ _ b20
      replace i0 := i0.ext Lw4
      replace i1 := i1.ext Lw4
      replace i2 := i2.ext Lw4
      replace i3 := i3.ext Lw4
      replace i4 := i4.ext Lw4
      replace i7 := i7.ext Lw4
      have s_w4 : w.heap.size ≤ w4.heap.size := Xw4.size
      clear xw4
      go_wp2_with fail
      refine (leqInts_c (addA mem b s t vs) (.slice afv3 ((addA mem b s t vs).length) cfv3) (.slice afv6 ((addA mem b s t vs).length) cfv6) _ _ _ (i4.ext (by repeat (first | (with_reducible assumption) | (with_reducible refine Ext.setCell ?_ (by first | (simp; done) | (simp; omega) | omega) _) | (with_reducible apply Ext.alloc) | (with_reducible apply Ext.drew) | (with_reducible apply Ext.drewN) | (with_reducible exact Ext.refl _)))) (i7.ext (by repeat (first | (with_reducible assumption) | (with_reducible refine Ext.setCell ?_ (by first | (simp; done) | (simp; omega) | omega) _) | (with_reducible apply Ext.alloc) | (with_reducible apply Ext.drew) | (with_reducible apply Ext.drewN) | (with_reducible exact Ext.refl _))))).mono ?_
      rintro e w5 ⟨rfl, xw5⟩
      have Lw5 : Ext w4 w5 := Ext.trans (by repeat (first | (with_reducible assumption) | (with_reducible refine Ext.setCell ?_ (by first | (simp; done) | (simp; omega) | omega) _) | (with_reducible apply Ext.alloc) | (with_reducible apply Ext.drew) | (with_reducible apply Ext.drewN) | (with_reducible exact Ext.refl _))) xw5
      have Xw5 : Ext w w5 := Xw4.trans Lw5
      replace b20 := Lw5.cell b20
      replace b21 := Lw5.cell b21
      replace b22 := Lw5.cell b22
      have z_b2 : w1.heap.size < w5.heap.size := World.block_lt_of_cell? _ _ b20
      replace i0 := i0.ext Lw5
      replace i1 := i1.ext Lw5
      replace i2 := i2.ext Lw5
      replace i3 := i3.ext Lw5
      replace i4 := i4.ext Lw5
      replace i7 := i7.ext Lw5
      have s_w5 : w.heap.size ≤ w5.heap.size := Xw5.size
      clear xw5
      go_wp2_with fail
      go_ret
      exact ⟨rfl, (Xw5.trans (by repeat (first | (with_reducible assumption) | (with_reducible refine Ext.setCell ?_ (by first | (simp; done) | (simp; omega) | omega) _) | (with_reducible apply Ext.alloc) | (with_reducible apply Ext.drew) | (with_reducible apply Ext.drewN) | (with_reducible exact Ext.refl _))))⟩
    · replace hB5 := Lib.hid hB5
      go_wp2_with fail
      refine (specAddView_c mem (.slice p0 mem.length r0) b (.slice p1 s.length r1) (.slice p2 t.length r2) s t (.slice p3 vs.length r3) vs _ _ (i0.ext (by repeat (first | (with_reducible assumption) | (with_reducible refine Ext.setCell ?_ (by first | (simp; done) | (simp; omega) | omega) _) | (with_reducible apply Ext.alloc) | (with_reducible apply Ext.drew) | (with_reducible apply Ext.drewN) | (with_reducible exact Ext.refl _)))) _ _ (i1.ext (by repeat (first | (with_reducible assumption) | (with_reducible refine Ext.setCell ?_ (by first | (simp; done) | (simp; omega) | omega) _) | (with_reducible apply Ext.alloc) | (with_reducible apply Ext.drew) | (with_reducible apply Ext.drewN) | (with_reducible exact Ext.refl _)))) (i2.ext (by repeat (first | (with_reducible assumption) | (with_reducible refine Ext.setCell ?_ (by first | (simp; done) | (simp; omega) | omega) _) | (with_reducible apply Ext.alloc) | (with_reducible apply Ext.drew) | (with_reducible apply Ext.drewN) | (with_reducible exact Ext.refl _)))) _ (i3.ext (by repeat (first | (with_reducible assumption) | (with_reducible refine Ext.setCell ?_ (by first | (simp; done) | (simp; omega) | omega) _) | (with_reducible apply Ext.alloc) | (with_reducible apply Ext.drew) | (with_reducible apply Ext.drewN) | (with_reducible exact Ext.refl _))))).mono ?_
      rintro e w3 ⟨fv8, rfl, i9, -, xw3⟩
      have Lw3 : Ext w2 w3 := Ext.trans (by repeat (first | (with_reducible assumption) | (with_reducible refine Ext.setCell ?_ (by first | (simp; done) | (simp; omega) | omega) _) | (with_reducible apply Ext.alloc) | (with_reducible apply Ext.drew) | (with_reducible apply Ext.drewN) | (with_reducible exact Ext.refl _))) xw3
      have Xw3 : Ext w w3 := Xw2.trans Lw3
      replace b20 := Lw3.cell b20
      replace b21 := Lw3.cell b21
      replace b22 := Lw3.cell b22
      have z_b2 : w1.heap.size < w3.heap.size := World.block_lt_of_cell? _ _ b20
      replace i0 := i0.ext Lw3
      replace i1 := i1.ext Lw3
      replace i2 := i2.ext Lw3
      replace i3 := i3.ext Lw3
      replace i4 := i4.ext Lw3
      have s_w3 : w.heap.size ≤ w3.heap.size := Xw3.size
      clear xw3
      obtain ⟨afv8, cfv8, rfl⟩ := i9.form
      rw [hB5.out]
      go_wp2_with fail
      refine (leqInts_c (addA mem b s t vs) (.slice afv3 ((addA mem b s t vs).length) cfv3) (.slice afv8 ((addA mem b s t vs).length) cfv8) _ _ _ (i4.ext (by repeat (first | (with_reducible assumption) | (with_reducible refine Ext.setCell ?_ (by first | (simp; done) | (simp; omega) | omega) _) | (with_reducible apply Ext.alloc) | (with_reducible apply Ext.drew) | (with_reducible apply Ext.drewN) | (with_reducible exact Ext.refl _)))) (i9.ext (by repeat (first | (with_reducible assumption) | (with_reducible refine Ext.setCell ?_ (by first | (simp; done) | (simp; omega) | omega) _) | (with_reducible apply Ext.alloc) | (with_reducible apply Ext.drew) | (with_reducible apply Ext.drewN) | (with_reducible exact Ext.refl _))))).mono ?_
      rintro e w4 ⟨rfl, xw4⟩
      have Lw4 : Ext w3 w4 := Ext.trans (by repeat (first | (with_reducible assumption) | (with_reducible refine Ext.setCell ?_ (by first | (simp; done) | (simp; omega) | omega) _) | (with_reducible apply Ext.alloc) | (with_reducible apply Ext.drew) | (with_reducible apply Ext.drewN) | (with_reducible exact Ext.refl _))) xw4
      have Xw4 : Ext w w4 := Xw3.trans Lw4
      replace b20 := Lw4.cell b20
      replace b21 := Lw4.cell b21
      replace b22 := Lw4.cell b22
      have z_b2 : w1.heap.size < w4.heap.size := World.block_lt_of_cell? _ _ b20
      replace i0 := i0.ext Lw4
      replace i1 := i1.ext Lw4
      replace i2 := i2.ext Lw4
      replace i3 := i3.ext Lw4
      replace i4 := i4.ext Lw4
      replace i9 := i9.ext Lw4
      have s_w4 : w.heap.size ≤ w4.heap.size := Xw4.size
      clear xw4
      go_wp2_with fail
      refine (implOffsetsOf_c b (.slice p1 s.length r1) (.slice p2 t.length r2) s t _ _ _ (i1.ext (by repeat (first | (with_reducible assumption) | (with_reducible refine Ext.setCell ?_ (by first | (simp; done) | (simp; omega) | omega) _) | (with_reducible apply Ext.alloc) | (with_reducible apply Ext.drew) | (with_reducible apply Ext.drewN) | (with_reducible exact Ext.refl _)))) (i2.ext (by repeat (first | (with_reducible assumption) | (with_reducible refine Ext.setCell ?_ (by first | (simp; done) | (simp; omega) | omega) _) | (with_reducible apply Ext.alloc) | (with_reducible apply Ext.drew) | (with_reducible apply Ext.drewN) | (with_reducible exact Ext.refl _))))).mono ?_
      rintro e w5 ⟨fv10, rfl, i11, -, xw5⟩
      have Lw5 : Ext w4 w5 := Ext.trans (by repeat (first | (with_reducible assumption) | (with_reducible refine Ext.setCell ?_ (by first | (simp; done) | (simp; omega) | omega) _) | (with_reducible apply Ext.alloc) | (with_reducible apply Ext.drew) | (with_reducible apply Ext.drewN) | (with_reducible exact Ext.refl _))) xw5
      have Xw5 : Ext w w5 := Xw4.trans Lw5
      replace b20 := Lw5.cell b20
      replace b21 := Lw5.cell b21
      replace b22 := Lw5.cell b22
      have z_b2 : w1.heap.size < w5.heap.size := World.block_lt_of_cell? _ _ b20
      replace i0 := i0.ext Lw5
      replace i1 := i1.ext Lw5
      replace i2 := i2.ext Lw5
      replace i3 := i3.ext Lw5
      replace i4 := i4.ext Lw5
      replace i9 := i9.ext Lw5
      have s_w5 : w.heap.size ≤ w5.heap.size := Xw5.size
      clear xw5
      obtain ⟨afv10, cfv10, rfl⟩ := i11.form
      go_wp2_with fail
      obtain ⟨ha1, ha2, ha3, hv255, hm255, hfin⟩ := add_law hB5.out
      replace ha1 := Lib.hid ha1
      replace ha2 := Lib.hid ha2
      replace hv255 := Lib.hid hv255
      replace hm255 := Lib.hid hm255
      replace hfin := Lib.hid hfin
      go_loopw [11, 12, 13] (fun i x12 x13 wa => ∃ (x : Nat), x ≤ mem.length ∧ i = .int .i64 x ∧ Ext w5 wa) (fun i _ _ _ => mem.length - (intOf i).toNat)
      case atStart => exact ⟨0, Nat.zero_le _, rfl, (by repeat (first | (with_reducible assumption) | (with_reducible refine Ext.setCell ?_ (by first | (simp; done) | (simp; omega) | omega) _) | (with_reducible apply Ext.alloc) | (with_reducible apply Ext.drew) | (with_reducible apply Ext.drewN) | (with_reducible exact Ext.refl _)))⟩
      case round =>
        generalize wr = wa at hrel ⊢
        obtain ⟨x, hx, rfl, Lwa⟩ := hrel
        have Xwa : Ext w wa := Xw5.trans Lwa
        have s_wa : w.heap.size ≤ wa.heap.size := Xwa.size
        have t_wa : w5.heap.size ≤ wa.heap.size := Lwa.size
        replace b20 := Lwa.cell b20
        replace b21 := Lwa.cell b21
        replace b22 := Lwa.cell b22
        have z_b2 : w1.heap.size < wa.heap.size := World.block_lt_of_cell? _ _ b20
        replace i0 := i0.ext Lwa
        replace i1 := i1.ext Lwa
        replace i2 := i2.ext Lwa
        replace i3 := i3.ext Lwa
        replace i4 := i4.ext Lwa
        replace i9 := i9.ext Lwa
        replace i11 := i11.ext Lwa
        have Bwa : Ext w5 wa := Lwa
        by_cases hlt : x < mem.length
        · have hkI : (x : Int) < mem.length := by omega
          have hN_e14 : x < mem.length := (by omega)
          have hI_e14 : (x : Int) < (mem.length : Int) := by omega
          obtain ⟨bl12, ol13, rfl, e140⟩ := i0.at x (by omega)
          obtain ⟨v15, hv15⟩ : ∃ v, mem.getD x 0 = v := ⟨_, rfl⟩
          rw [hv15] at e140
          replace hv15 := Lib.hid hv15
          have y_e14 : bl12 < wa.heap.size := World.block_lt_of_cell? _ _ e140
          have z_e14 := y_e14
          have hbv15 := hm255.out _ (getD_mem (show x < mem.length by omega))
          rw [hv15.out] at hbv15
          go_wp2_with fail
          go_loopw [12, 13] (fun n i wb => ∃ (k : Nat), k ≤ (offA b s t).length ∧ i = .int .i64 k ∧ n = .int .i64 (v15 + sumAt (offA b s t) vs (x : Int) k) ∧ Ext wa wb) (fun _ i _ => (offA b s t).length - (intOf i).toNat)
          case atStart => exact ⟨0, Nat.zero_le _, rfl, by simp [sumAt], (by repeat (first | (with_reducible assumption) | (with_reducible refine Ext.setCell ?_ (by first | (simp; done) | (simp; omega) | omega) _) | (with_reducible apply Ext.alloc) | (with_reducible apply Ext.drew) | (with_reducible apply Ext.drewN) | (with_reducible exact Ext.refl _)))⟩
          case round =>
            generalize wr = wb at hrel ⊢
            obtain ⟨k, hkl, rfl, rfl, Lwb⟩ := hrel
            have Xwb : Ext w wb := Xwa.trans Lwb
            have s_wb : w.heap.size ≤ wb.heap.size := Xwb.size
            have t_wb : wa.heap.size ≤ wb.heap.size := Lwb.size
            replace b20 := Lwb.cell b20
            replace b21 := Lwb.cell b21
            replace b22 := Lwb.cell b22
            replace e140 := Lwb.cell e140
            have z_b2 : w1.heap.size < wb.heap.size := World.block_lt_of_cell? _ _ b20
            have z_e14 : bl12 < wb.heap.size := World.block_lt_of_cell? _ _ e140
            replace i0 := i0.ext Lwb
            replace i1 := i1.ext Lwb
            replace i2 := i2.ext Lwb
            replace i3 := i3.ext Lwb
            replace i4 := i4.ext Lwb
            replace i9 := i9.ext Lwb
            replace i11 := i11.ext Lwb
            have Bwa_wb : Ext w5 wb := Bwa.trans Lwb
            have Bwb : Ext wa wb := Lwb
            have hNb := sumAt_bd (offA b s t) vs (x : Int) hv255.out k (by have := ha2.out; omega)
            obtain ⟨N, hN⟩ : ∃ N, v15 + sumAt (offA b s t) vs (x : Int) k = N := ⟨_, rfl⟩
            have hN2 : 0 ≤ N ∧ N ≤ 20000 := by omega
            rw [hN]
            replace hN := Lib.hid hN
            clear hNb
            by_cases hjlt : k < (offA b s t).length
            · have hjI : (k : Int) < (offA b s t).length := by omega
              have hN_e18 : k < (offA b s t).length := (by omega)
              have hI_e18 : (k : Int) < ((offA b s t).length : Int) := by omega
              obtain ⟨bl16, ol17, rfl, e180⟩ := i11.at k (by omega)
              obtain ⟨v19, hv19⟩ : ∃ v, (offA b s t).getD k 0 = v := ⟨_, rfl⟩
              rw [hv19] at e180
              replace hv19 := Lib.hid hv19
              have y_e18 : bl16 < wb.heap.size := World.block_lt_of_cell? _ _ e180
              have z_e18 := y_e18
              by_cases hc20 : (v19 : Int) = (x : Int)
              · have hc20e : ((v19 : Int) == (x : Int)) = true := by simpa using hc20
                have hc20n : ((v19 : Int) != (x : Int)) = false := by simpa using hc20
                replace hc20 := Lib.hid hc20
                have hN_e23 : k < vs.length := (by have := ha2.out; omega)
                have hI_e23 : (k : Int) < (vs.length : Int) := by omega
                obtain ⟨bl21, ol22, rfl, e230⟩ := i3.at k (by have := ha2.out; omega)
                obtain ⟨v24, hv24⟩ : ∃ v, vs.getD k 0 = v := ⟨_, rfl⟩
                rw [hv24] at e230
                replace hv24 := Lib.hid hv24
                have y_e23 : bl21 < wb.heap.size := World.block_lt_of_cell? _ _ e230
                have z_e23 := y_e23
                have hbv24 := hv255.out _ (getD_mem (show k < vs.length by have := ha2.out; omega))
                rw [hv24.out] at hbv24
                go_wp2_with fail
                have hs : Hid (v15 + sumAt (offA b s t) vs (x : Int) (k + 1) = N + v24) := Lib.hid (by simp only [sumAt]; rw [hv19.out, if_pos hc20.out, hv24.out]; have := hN.out; omega)
                go_roundw
                case rel => exact ⟨k + 1, by omega, by go_num, by rw [hs.out], (Bwb.trans (by repeat (first | (with_reducible assumption) | (with_reducible refine Ext.setCell ?_ (by first | (simp; done) | (simp; omega) | omega) _) | (with_reducible apply Ext.alloc) | (with_reducible apply Ext.drew) | (with_reducible apply Ext.drewN) | (with_reducible exact Ext.refl _))))⟩
                case measure => simp [intOf]; omega
              · have hc20e : ((v19 : Int) == (x : Int)) = false := by simpa using hc20
                have hc20n : ((v19 : Int) != (x : Int)) = true := by simpa using hc20
                replace hc20 := Lib.hid hc20
                go_wp2_with fail
                have hs : Hid (v15 + sumAt (offA b s t) vs (x : Int) (k + 1) = N) := Lib.hid (by simp only [sumAt]; rw [hv19.out, if_neg hc20.out]; have := hN.out; omega)
                go_roundw
                case rel => exact ⟨k + 1, by omega, by go_num, by rw [hs.out], (Bwb.trans (by repeat (first | (with_reducible assumption) | (with_reducible refine Ext.setCell ?_ (by first | (simp; done) | (simp; omega) | omega) _) | (with_reducible apply Ext.alloc) | (with_reducible apply Ext.drew) | (with_reducible apply Ext.drewN) | (with_reducible exact Ext.refl _))))⟩
                case measure => simp [intOf]; omega
            · have hjI : ¬ (k : Int) < (offA b s t).length := by omega
              have hke : k = (offA b s t).length := by omega
              have hfx := Lib.hid (hfin.out x hlt)
              replace hN : Hid ((v15 + sumAt (offA b s t) vs (x : Int) (offA b s t).length) = N) := Lib.hid (by have := hN.out; rw [hke] at this; exact this)
              clear hke
              have hN_e27 : x < (addA mem b s t vs).length := (by have := ha1.out; omega)
              have hI_e27 : (x : Int) < ((addA mem b s t vs).length : Int) := by omega
              obtain ⟨bl25, ol26, rfl, e270⟩ := i4.at x (by have := ha1.out; omega)
              obtain ⟨v28, hv28⟩ : ∃ v, (addA mem b s t vs).getD x 0 = v := ⟨_, rfl⟩
              rw [hv28] at e270
              replace hv28 := Lib.hid hv28
              have y_e27 : bl25 < wb.heap.size := World.block_lt_of_cell? _ _ e270
              have z_e27 := y_e27
              have hq29e : ((v28 : Int) == ((N).tmod 256 : Int)) = true := by have h7 : (v28 : Int) = ((N).tmod 256 : Int) := (by rw [← hv28.out, hfx.out, hv15.out, hN.out, Int.tmod_eq_emod_of_nonneg hN2.1]); simpa using h7
              have hq29n : ((v28 : Int) != ((N).tmod 256 : Int)) = false := by have h7 : (v28 : Int) = ((N).tmod 256 : Int) := (by rw [← hv28.out, hfx.out, hv15.out, hN.out, Int.tmod_eq_emod_of_nonneg hN2.1]); simpa using h7
              have hq29m : ((v28 : Int) == (N % 256 : Int)) = true := by rw [← Int.tmod_eq_emod_of_nonneg (by omega)]; exact hq29e
              have hq29o : ((v28 : Int) != (N % 256 : Int)) = false := by rw [← Int.tmod_eq_emod_of_nonneg (by omega)]; exact hq29n
              go_wp2_with fail
              go_roundw
              case rel => exact ⟨x + 1, by omega, by go_num, (Bwa_wb.trans (by repeat (first | (with_reducible assumption) | (with_reducible refine Ext.setCell ?_ (by first | (simp; done) | (simp; omega) | omega) _) | (with_reducible apply Ext.alloc) | (with_reducible apply Ext.drew) | (with_reducible apply Ext.drewN) | (with_reducible exact Ext.refl _))))⟩
              case measure => simp [intOf]; omega
        · have hkI : ¬ (x : Int) < mem.length := by omega
          go_wp2_with fail
          go_ret
          exact ⟨rfl, (Xwa.trans (by repeat (first | (with_reducible assumption) | (with_reducible refine Ext.setCell ?_ (by first | (simp; done) | (simp; omega) | omega) _) | (with_reducible apply Ext.alloc) | (with_reducible apply Ext.drew) | (with_reducible apply Ext.drewN) | (with_reducible exact Ext.refl _))))⟩


end Go.Proofs.Ytnjaidgifccgjaa

/- The law FnAddView holds for all bytes: the call returns true, and its argument reads as it did. No condition. -/
namespace Go.Proofs.Ytnjaidgifccgjaa.rowFnAddView
open Go.ChangeShapes Go.WideShapes Go.ChangeAt Go.RowKit
set_option linter.unusedVariables false

set_option maxHeartbeats 1000000 in
set_option maxRecDepth 100000 in
theorem lifted (os : Os) (started : os.Started) (H : Type) (enc : TypeId × Value → H) :
    ReturnsInHanded {} Try.checked os 10 .any (Rows.fnAddViewSpec.pre6 enc Try.prog Try.f10 Rows.fnAddViewRow.domain false) (Rows.fnAddViewSpec.post enc Try.prog Try.f10 false true false false) := by
  refine returnsInHanded_of_change (C := Try.checked) own started (by kernel_rfl) Try.func10
    (ChangeSpec.witness6 (enc := enc) (C := Try.checked) false ⟨#[], #[.slice none 0 0], []⟩ 8 (by kernel_rfl) (by kernel_rfl) (by kernel_rfl) (by kernel_rfl)) ?_
  intro W base args ds gs before hval0 hW hcnd _
  have hval : ∀ (j : Nat) t v, Try.f10.params[j]? = some t → args[j]? = some v → Value.okWide Try.prog W .any base t v := hval0
  have hW' := hW
  obtain ⟨p, q, hA0, hV, rfl, hfz, hnd⟩ := hW
  have hA : DataW.TrodAll enc Try.prog W 0 (fun _ => true) true Try.f10.params.toList args.toList ds p := hA0
  rw [Try.params10] at hA hval
  obtain ⟨v0, vs0, d0, ds0, p0, q0, hargs0, rfl, rfl, h0, r0⟩ := trodAll_cons hA
  obtain ⟨rfl, rfl, rfl⟩ := trodAll_nil r0
  obtain rfl : args = #[v0] := by cases args; simp_all
  obtain ⟨rfl, rfl⟩ := trodVars_none hV
  obtain ⟨a0, len0, cap0, rfl⟩ := okWide_slice Try.underlying22 (hval 0 22 v0 rfl rfl)
  have k0 := h0
  have lt0 : ∀ x ∈ p0, x.block < W.heap.size := by obtain ⟨m, hm⟩ := k0; exact DataW.trod_lt m _ _ _ hm
  have w0 : BysIn W a0 len0 cap0 := by
    obtain ⟨fuel, hf⟩ := h0
    rcases open_ints Try.underlying22 Try.underlying5 (by kernel_rfl) hf with ⟨hcs, _⟩ | ⟨x, l, c, zs, hcs, _, hl, hm, hz, _, hcell, hwz⟩
    · simp [Value.cells] at hcs
      obtain ⟨rfl, rfl, rfl⟩ := hcs
      exact ⟨Nat.le_refl _, by simp, fun i hi => absurd hi (by simp)⟩
    · simp [Value.cells] at hcs
      obtain ⟨rfl, rfl, rfl⟩ := hcs
      have hzl : zs.length = cap0 := by simpa using hz
      exact bys_of_cells hl hm hzl hcell hwz
  clear hA0 hval0
  refine (lawFnAddView_c a0 len0 cap0 W w0).mono fun e W' ⟨he, bel⟩ => ?_
  subst he
  exact ⟨_, rfl, _, _, _, [], _, [], hW', trodAll_mk1 (shut_bool Try.underlying4 _), (trodAll_cons_mk (Below.trod laidOut (by kernel_rfl) (of_decide_eq_true (by kernel_rfl)) k0 bel lt0) trodAll_mk0), rfl, Below.frame bel _, fun h => by cases h⟩

set_option maxHeartbeats 2000000 in
theorem closed : joinedFacts Try.checked.prog 10 Try.f10 Rows.fnAddViewSpec Rows.fnAddViewRow = true :=
  facts.all (by kernel_rfl) (by kernel_rfl) (by kernel_rfl) (by kernel_rfl) (by kernel_rfl) (by as_aux_lemma => kernel_rfl) (by as_aux_lemma => kernel_rfl) (by as_aux_lemma => kernel_rfl) (by as_aux_lemma => kernel_rfl)
    (by as_aux_lemma => kernel_rfl) (by as_aux_lemma => kernel_rfl) rfl rfl rfl rfl (by kernel_rfl) (by kernel_rfl) (by as_aux_lemma => kernel_rfl) (by as_aux_lemma => kernel_rfl)

theorem named : Try.pinned.checked.prog.funcNamed Rows.fnAddViewRow.func = some 10 := by kernel_rfl

theorem over : Rows.fnAddViewRow.holds Try.pinned (OpenSpec.ofChange Rows.fnAddViewSpec) :=
  OpenClaim.holds_of_wide 10 Try.f10 rfl rfl rfl rfl rfl rfl rfl ⟨rfl, rfl, rfl, rfl, rfl⟩ rfl rfl rfl rfl rfl named Try.func10 closed
    (of_decide_eq_true (by kernel_rfl)) (by unfold Func.isWrapper; exact ⟨rfl, rfl⟩)
    (fun os started H enc _ => lifted os started H enc)

theorem proved : Rows.FnAddViewSaid := over

end Go.Proofs.Ytnjaidgifccgjaa.rowFnAddView
