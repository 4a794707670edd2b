/- Texts of these proofs put together: LvL, LvN, LawFnStoreViewLast, RowFnStoreViewLast. No condition. -/
import Derived.Test.YtnjaidgifccgjaaD1RowFnStoreViewLast
import Derived.Test.YtnjaidgifccgjaaM1
import Derived.Test.YtnjaidgifccgjaaM5
import Derived.Test.YtnjaidgifccgjaaM2
set_option linter.unusedVariables false
set_option linter.unusedSimpArgs false
/- Walks: bounds of the reference. -/
namespace Go.Proofs.Ytnjaidgifccgjaa
open Go.RowKit
set_option linter.unusedVariables false
set_option maxRecDepth 100000


theorem foldl_take_succ (f : Int → Int → Int) (l : List Int) (a : Int) (k : Nat) (h : k < l.length) : (l.take (k+1)).foldl f a = f ((l.take k).foldl f a) (l.getD k 0) := by
  rw [List.take_succ_eq_append_getElem h, List.foldl_append]; simp [h]
theorem offs_bd {b : Int} {s t : List Int} (h : viewB b s t = true) : ∀ x ∈ offsL b s t, 0 ≤ x ∧ x ≤ 59 := (viewB_in h).2.2.2.2
theorem offs_pos {b : Int} {s t : List Int} (h : viewB b s t = true) (hc : ¬ countL s = 0) : 0 < (offsL b s t).length := by
  have := shapeB_in (viewB_in h).1
  rw [offs_count]; omega
theorem offs_len60 {b : Int} {s t : List Int} (h : viewB b s t = true) : (offsL b s t).length ≤ 60 := by
  have := shapeB_in (viewB_in h).1
  rw [offs_count]; omega

set_option maxHeartbeats 1600000 in
theorem specBoundsOf_c (b1 : Int) (u1 v1 : Value) (s1 t1 : List Int) (w : World) (l1 m1 : Nat) (h1 : Ints w l1 u1 s1) (k1 : Ints w m1 v1 t1) :
    Calls Try.prog 28 #[.agg #[.int .i64 b1, u1, v1]] w (fun e w' => e = .returned (.tuple #[.int .i64 (bndT b1 s1 t1).1, .int .i64 (bndT b1 s1 t1).2]) ∧ Ext w w') := by
  obtain ⟨p0, c0, rfl⟩ := h1.form
  obtain ⟨p1, c1, rfl⟩ := k1.form
  go_enter Try.func28, Try.ntmps28
  go_wp2_with fail
  refine (validView_c b1 (.slice p0 s1.length c0) (.slice p1 t1.length c1) s1 t1 _ _ _ (h1.ext (by repeat (first | (with_reducible assumption) | (with_reducible refine Ext.setCell ?_ (by first | (simp; done) | (simp; omega) | omega) _) | (with_reducible apply Ext.alloc) | (with_reducible apply Ext.drew) | (with_reducible apply Ext.drewN) | (with_reducible exact Ext.refl _)))) (k1.ext (by repeat (first | (with_reducible assumption) | (with_reducible refine Ext.setCell ?_ (by first | (simp; done) | (simp; omega) | omega) _) | (with_reducible apply Ext.alloc) | (with_reducible apply Ext.drew) | (with_reducible apply Ext.drewN) | (with_reducible exact Ext.refl _))))).mono ?_
  rintro e w1 ⟨rfl, xw1⟩
  have Lw1 : Ext w w1 := Ext.trans (by repeat (first | (with_reducible assumption) | (with_reducible refine Ext.setCell ?_ (by first | (simp; done) | (simp; omega) | omega) _) | (with_reducible apply Ext.alloc) | (with_reducible apply Ext.drew) | (with_reducible apply Ext.drewN) | (with_reducible exact Ext.refl _))) xw1
  have Xw1 : Ext w w1 := Lw1
  have b10 : w1.cell? ⟨w.heap.size, 0, none⟩ = some (.int .i64 b1) := xw1.cell (by first | (simp; done) | ((repeat rw [World.cell?_alloc_lt _ _ _ (by simp <;> omega)]); simp; done) | (go_simp; done))
  have b11 : w1.cell? ⟨w.heap.size, 1, none⟩ = some (.slice p0 s1.length c0) := xw1.cell (by first | (simp; done) | ((repeat rw [World.cell?_alloc_lt _ _ _ (by simp <;> omega)]); simp; done) | (go_simp; done))
  have b12 : w1.cell? ⟨w.heap.size, 2, none⟩ = some (.slice p1 t1.length c1) := xw1.cell (by first | (simp; done) | ((repeat rw [World.cell?_alloc_lt _ _ _ (by simp <;> omega)]); simp; done) | (go_simp; done))
  have z_b1 : w.heap.size < w1.heap.size := World.block_lt_of_cell? _ _ b10
  have s_w1 : w.heap.size ≤ w1.heap.size := Xw1.size
  clear xw1
  cases hB2 : viewB b1 s1 t1
  · replace hB2 := Lib.hid hB2
    go_wp2_with fail
    go_ret2
    exact ⟨by rw [show bndT b1 s1 t1 = (-1, -1) from by unfold bndT; rw [hB2.out]; rfl] <;> rfl, (Xw1.trans (by repeat (first | (with_reducible assumption) | (with_reducible refine Ext.setCell ?_ (by first | (simp; done) | (simp; omega) | omega) _) | (with_reducible apply Ext.alloc) | (with_reducible apply Ext.drew) | (with_reducible apply Ext.drewN) | (with_reducible exact Ext.refl _))))⟩
  · replace hB2 := Lib.hid hB2
    go_wp2_with fail
    refine (count_c s1 (.slice p0 s1.length c0) _ _ (h1.ext (Xw1.trans (by repeat (first | (with_reducible assumption) | (with_reducible refine Ext.setCell ?_ (by first | (simp; done) | (simp; omega) | omega) _) | (with_reducible apply Ext.alloc) | (with_reducible apply Ext.drew) | (with_reducible apply Ext.drewN) | (with_reducible exact Ext.refl _)))))).mono ?_
    rintro e w' ⟨rfl, rfl⟩
    by_cases hc3 : (countL s1 : Int) = (0 : Int)
    · have hc3e : ((countL s1 : Int) == (0 : Int)) = true := by simpa using hc3
      have hc3n : ((countL s1 : Int) != (0 : Int)) = false := by simpa using hc3
      replace hc3 := Lib.hid hc3
      go_wp2_with fail
      go_ret2
      exact ⟨by rw [show bndT b1 s1 t1 = (-1, -1) from by unfold bndT; rw [if_neg (by simp [hc3.out])]] <;> rfl, (Xw1.trans (by repeat (first | (with_reducible assumption) | (with_reducible refine Ext.setCell ?_ (by first | (simp; done) | (simp; omega) | omega) _) | (with_reducible apply Ext.alloc) | (with_reducible apply Ext.drew) | (with_reducible apply Ext.drewN) | (with_reducible exact Ext.refl _))))⟩
    · have hc3e : ((countL s1 : Int) == (0 : Int)) = false := by simpa using hc3
      have hc3n : ((countL s1 : Int) != (0 : Int)) = true := by simpa using hc3
      replace hc3 := Lib.hid hc3
      go_wp2_with fail
      refine (offsets_c b1 (.slice p0 s1.length c0) (.slice p1 t1.length c1) s1 t1 _ _ _ (h1.ext (Xw1.trans (by repeat (first | (with_reducible assumption) | (with_reducible refine Ext.setCell ?_ (by first | (simp; done) | (simp; omega) | omega) _) | (with_reducible apply Ext.alloc) | (with_reducible apply Ext.drew) | (with_reducible apply Ext.drewN) | (with_reducible exact Ext.refl _))))) (k1.ext (Xw1.trans (by repeat (first | (with_reducible assumption) | (with_reducible refine Ext.setCell ?_ (by first | (simp; done) | (simp; omega) | omega) _) | (with_reducible apply Ext.alloc) | (with_reducible apply Ext.drew) | (with_reducible apply Ext.drewN) | (with_reducible exact Ext.refl _))))) (by first | omega | exact (vw hB2.out).1 | exact (vw hB2.out).2.1 | exact (vw hB2.out).2.2.1 | exact (vw hB2.out).2.2.2) (by first | omega | exact (vw hB2.out).1 | exact (vw hB2.out).2.1 | exact (vw hB2.out).2.2.1 | exact (vw hB2.out).2.2.2) (by first | omega | exact (vw hB2.out).1 | exact (vw hB2.out).2.1 | exact (vw hB2.out).2.2.1 | exact (vw hB2.out).2.2.2)).mono ?_
      rintro e w2 ⟨fv4, rfl, i5, -, xw2⟩
      have Lw2 : Ext w1 w2 := Ext.trans (by repeat (first | (with_reducible assumption) | (with_reducible refine Ext.setCell ?_ (by first | (simp; done) | (simp; omega) | omega) _) | (with_reducible apply Ext.alloc) | (with_reducible apply Ext.drew) | (with_reducible apply Ext.drewN) | (with_reducible exact Ext.refl _))) xw2
      have Xw2 : Ext w w2 := Xw1.trans Lw2
      replace b10 := Lw2.cell b10
      replace b11 := Lw2.cell b11
      replace b12 := Lw2.cell b12
      have z_b1 : w.heap.size < w2.heap.size := World.block_lt_of_cell? _ _ b10
      have s_w2 : w.heap.size ≤ w2.heap.size := Xw2.size
      clear xw2
      obtain ⟨afv4, cfv4, rfl⟩ := i5.form
      have hI_e8 : (0 : Int) < ((offsL b1 s1 t1).length : Int) := by have hB7 : 0 < (offsL b1 s1 t1).length := (offs_pos hB2.out hc3.out); omega
      obtain ⟨bl6, ol7, rfl, e80⟩ := i5.at 0 (offs_pos hB2.out hc3.out)
      rw [Nat.add_zero] at e80
      obtain ⟨v9, hv9⟩ : ∃ v, (offsL b1 s1 t1).getD 0 0 = v := ⟨_, rfl⟩
      rw [hv9] at e80
      replace hv9 := Lib.hid hv9
      have y_e8 : bl6 < w2.heap.size := World.block_lt_of_cell? _ _ e80
      have z_e8 := y_e8
      go_wp2_with fail
      have hlen := offs_len60 hB2.out
      go_loop [5, 6, 7] (fun x y i => ∃ (k : Nat), k ≤ (offsL b1 s1 t1).length ∧ i = .int .i64 k ∧ x = .int .i64 (((offsL b1 s1 t1).take k).foldl min v9) ∧ y = .int .i64 (((offsL b1 s1 t1).take k).foldl max v9)) (fun _ _ i => (offsL b1 s1 t1).length - (intOf i).toNat)
      case atStart => exact ⟨0, Nat.zero_le _, rfl, rfl, rfl⟩
      case round =>
        obtain ⟨k, hk, rfl, rfl, rfl⟩ := hrel
        by_cases hlt : k < (offsL b1 s1 t1).length
        · have hkI : (k : Int) < (offsL b1 s1 t1).length := by omega
          have hs1 := foldl_take_succ min (offsL b1 s1 t1) v9 k hlt
          have hs2 := foldl_take_succ max (offsL b1 s1 t1) v9 k hlt
          obtain ⟨b_e15, o_e15, h_e15, e150⟩ := i5.at k (by omega)
          cases h_e15
          obtain ⟨v16, hv16⟩ : ∃ v, (offsL b1 s1 t1).getD k 0 = v := ⟨_, rfl⟩
          rw [hv16] at e150
          replace hv16 := Lib.hid hv16
          have y_e15 : bl6 < w2.heap.size := World.block_lt_of_cell? _ _ e150
          have z_e15 := y_e15
          rw [hv16.out] at hs1 hs2
          replace hs1 := Lib.hid hs1
          replace hs2 := Lib.hid hs2
          go_wp2_with fail
          go_round
          case rel => exact ⟨k + 1, by omega, by go_num, by rw [hs1.out], by rw [hs2.out]⟩
          case measure => simp [intOf]; omega
        · have hkI : ¬ (k : Int) < (offsL b1 s1 t1).length := by omega
          go_wp2_with fail
          go_ret2
          exact ⟨by rw [show bndT b1 s1 t1 = (((offsL b1 s1 t1).take k).foldl min v9, ((offsL b1 s1 t1).take k).foldl max v9) by (unfold bndT minL maxL; rw [if_pos (by simp [hB2.out, hc3.out]), List.take_of_length_le (by omega), hv9.out])] <;> rfl, (Xw2.trans (by repeat (first | (with_reducible assumption) | (with_reducible refine Ext.setCell ?_ (by first | (simp; done) | (simp; omega) | omega) _) | (with_reducible apply Ext.alloc) | (with_reducible apply Ext.drew) | (with_reducible apply Ext.drewN) | (with_reducible exact Ext.refl _))))⟩


end Go.Proofs.Ytnjaidgifccgjaa

/- Walks: values that are stored, of the program and of the reference. -/
namespace Go.Proofs.Ytnjaidgifccgjaa
open Go.RowKit
set_option linter.unusedVariables false
set_option maxRecDepth 100000


def badV (vs : List Int) : Bool := vs.any (fun x => !inB 0 255 x)
def storeB (mem : List Int) (b : Int) (s t vs : List Int) : Bool := holdB mem b s t && (decide ((vs.length : Int) = countL s) && !badV vs)
def putA (mem : List Int) (b : Int) (s t vs : List Int) : List Int := if storeB mem b s t vs then putL mem (offsL b s t) vs else []
def addA (mem : List Int) (b : Int) (s t vs : List Int) : List Int := if storeB mem b s t vs then addUp mem (offsL b s t) vs (offsL b s t).length else []
theorem canStoreF_c (w : World) : Asks 106 #[] w (fun x => !inB 0 255 x) := by
  refine ⟨⟨Try.f106, Try.func106, rfl, by decide +kernel⟩, fun x => ?_⟩
  rw [show (#[Value.int .i64 x] ++ #[]) = #[.int .i64 x] by simp]
  go_enter Try.func106, Try.ntmps106
  go_wp2_with (go_at_call 105; refine (isValue_c _ _).mono ?_; rintro e w' ⟨rfl, rfl⟩)
  go_ret
  exact ⟨rfl, rfl⟩
theorem canStoreB_c (vs : List Int) (v : Value) (w : World) (lo : Nat) (hv : Ints w lo v vs) :
    Calls Try.prog 95 #[v, .func (.func 106) #[] #[]] w fun e w' => e = .returned (.bool (badV vs)) ∧ w = w' := containsFunc_c _ _ _ vs v w lo hv (canStoreF_c w)
theorem badV_all (vs : List Int) : vs.all (inB 0 255) = !badV vs := by unfold badV; simp [List.all_eq_not_any_not]
theorem store_in {mem : List Int} {b : Int} {s t vs : List Int} (h : storeB mem b s t vs = true) : holdB mem b s t = true ∧ vs.length = (offsL b s t).length ∧ (∀ x ∈ vs, 0 ≤ x ∧ x ≤ 255) ∧ viewB b s t = true ∧ (∀ x ∈ offsL b s t, 0 ≤ x ∧ x < mem.length) ∧ (mem.length ≤ 60 ∧ ∀ x ∈ mem, 0 ≤ x ∧ x ≤ 255) ∧ (offsL b s t).length ≤ 60 := by
  unfold storeB at h
  simp only [Bool.and_eq_true, decide_eq_true_eq, Bool.not_eq_true'] at h
  obtain ⟨h1, h2, h3⟩ := h
  obtain ⟨g1, g2, g3⟩ := hold_in h1
  have g4 := shapeB_in (viewB_in g2).1
  have g5 := badV_all vs
  rw [h3] at g5
  simp only [Bool.not_false, List.all_eq_true, inB, decide_eq_true_eq] at g5
  have g6 := g1
  unfold memB at g6
  simp only [Bool.and_eq_true, List.all_eq_true, decide_eq_true_eq, inB] at g6
  exact ⟨h1, by rw [offs_count]; omega, g5, g2, g3, g6, by rw [offs_count]; omega⟩
theorem PIntsB.nil {w w' : World} (h : Ext w w') : PIntsB w [] false (.returned (.tuple #[.slice none 0 0, .bool false])) w' :=
  ⟨_, rfl, Ints.nil _ _ _ _ (by simp) (fun _ => rfl), .inl ⟨rfl, none, 0, rfl, by simp, fun _ => rfl⟩, h⟩
theorem store_nil {mem : List Int} {b : Int} {s t vs : List Int} (h : storeB mem b s t vs = true) (hm : mem = []) : (offsL b s t).length = 0 := by
  obtain ⟨-, -, -, -, h5, -, -⟩ := store_in h
  cases hl : offsL b s t with
  | nil => rfl
  | cons x r => have := h5 x (by rw [hl]; simp); subst hm; simp at this; omega
theorem addUp_bd (mem ix vs : List Int) (hm : ∀ x ∈ mem, 0 ≤ x ∧ x ≤ 255) (k : Nat) : ∀ x ∈ addUp mem ix vs k, 0 ≤ x ∧ x ≤ 255 := by
  induction k with
  | zero => exact hm
  | succ k ih =>
    rw [addUp_succ]
    intro x hx
    rcases List.mem_or_eq_of_mem_set hx with h | h
    · exact ih x h
    · have := Int.emod_nonneg ((addUp mem ix vs k).getD (ix.getD k 0).toNat 0 + vs.getD k 0) (show (256 : Int) ≠ 0 by omega)
      have := Int.emod_lt_of_pos ((addUp mem ix vs k).getD (ix.getD k 0).toNat 0 + vs.getD k 0) (show (0 : Int) < 256 by omega)
      omega
theorem addUp_step {mem ix vs : List Int} {k j : Nat} {x y : Int} (hj : ix.getD k 0 = (j : Int)) (hx : (addUp mem ix vs k).getD j 0 = x) (hy : vs.getD k 0 = y) (h0 : 0 ≤ x) (h1 : 0 ≤ y) : addUp mem ix vs (k+1) = (addUp mem ix vs k).set j ((x + y).tmod 256) := by
  rw [addUp_succ, hj, hy, Int.toNat_natCast, hx, Int.tmod_eq_emod_of_nonneg (by omega)]

set_option maxHeartbeats 1600000 in
theorem canStore_c (mem : List Int) (a0 : Value) (b1 : Int) (u1 v1 : Value) (s1 t1 : List Int) (a3 : Value) (vs : List Int) (w : World) (l0 : Nat) (h0 : Ints w l0 a0 mem) (l1 m1 : Nat) (h1 : Ints w l1 u1 s1) (k1 : Ints w m1 v1 t1) (l3 : Nat) (h3 : Ints w l3 a3 vs) :
    Calls Try.prog 88 #[a0, .agg #[.int .i64 b1, u1, v1], a3] w (fun e w' => e = .returned (.bool (storeB mem b1 s1 t1 vs)) ∧ Ext w w') := by
  obtain ⟨p0, c0, rfl⟩ := h1.form
  obtain ⟨p1, c1, rfl⟩ := k1.form
  obtain ⟨p2, c2, rfl⟩ := h0.form
  obtain ⟨p3, c3, rfl⟩ := h3.form
  go_enter Try.func88, Try.ntmps88
  go_wp2_with fail
  refine (canHold_c mem (.slice p2 mem.length c2) b1 (.slice p0 s1.length c0) (.slice p1 t1.length c1) s1 t1 _ _ _ _ (h0.ext (by repeat (first | (with_reducible assumption) | (with_reducible refine Ext.setCell ?_ (by first | (simp; done) | (simp; omega) | omega) _) | (with_reducible apply Ext.alloc) | (with_reducible apply Ext.drew) | (with_reducible apply Ext.drewN) | (with_reducible exact Ext.refl _)))) (h1.ext (by repeat (first | (with_reducible assumption) | (with_reducible refine Ext.setCell ?_ (by first | (simp; done) | (simp; omega) | omega) _) | (with_reducible apply Ext.alloc) | (with_reducible apply Ext.drew) | (with_reducible apply Ext.drewN) | (with_reducible exact Ext.refl _)))) (k1.ext (by repeat (first | (with_reducible assumption) | (with_reducible refine Ext.setCell ?_ (by first | (simp; done) | (simp; omega) | omega) _) | (with_reducible apply Ext.alloc) | (with_reducible apply Ext.drew) | (with_reducible apply Ext.drewN) | (with_reducible exact Ext.refl _))))).mono ?_
  rintro e w1 ⟨rfl, xw1⟩
  have Lw1 : Ext w w1 := Ext.trans (by repeat (first | (with_reducible assumption) | (with_reducible refine Ext.setCell ?_ (by first | (simp; done) | (simp; omega) | omega) _) | (with_reducible apply Ext.alloc) | (with_reducible apply Ext.drew) | (with_reducible apply Ext.drewN) | (with_reducible exact Ext.refl _))) xw1
  have Xw1 : Ext w w1 := Lw1
  have b10 : w1.cell? ⟨w.heap.size, 0, none⟩ = some (.int .i64 b1) := xw1.cell (by first | (simp; done) | ((repeat rw [World.cell?_alloc_lt _ _ _ (by simp <;> omega)]); simp; done) | (go_simp; done))
  have b11 : w1.cell? ⟨w.heap.size, 1, none⟩ = some (.slice p0 s1.length c0) := xw1.cell (by first | (simp; done) | ((repeat rw [World.cell?_alloc_lt _ _ _ (by simp <;> omega)]); simp; done) | (go_simp; done))
  have b12 : w1.cell? ⟨w.heap.size, 2, none⟩ = some (.slice p1 t1.length c1) := xw1.cell (by first | (simp; done) | ((repeat rw [World.cell?_alloc_lt _ _ _ (by simp <;> omega)]); simp; done) | (go_simp; done))
  have z_b1 : w.heap.size < w1.heap.size := World.block_lt_of_cell? _ _ b10
  have s_w1 : w.heap.size ≤ w1.heap.size := Xw1.size
  clear xw1
  cases hB2 : holdB mem b1 s1 t1
  · replace hB2 := Lib.hid hB2
    go_wp2_with fail
    go_ret
    exact ⟨by rw [show storeB mem b1 s1 t1 vs = false from by unfold storeB; rw [hB2.out] <;> rfl] <;> rfl, (Xw1.trans (by repeat (first | (with_reducible assumption) | (with_reducible refine Ext.setCell ?_ (by first | (simp; done) | (simp; omega) | omega) _) | (with_reducible apply Ext.alloc) | (with_reducible apply Ext.drew) | (with_reducible apply Ext.drewN) | (with_reducible exact Ext.refl _))))⟩
  · replace hB2 := Lib.hid hB2
    go_wp2_with fail
    refine (countOf_c s1 (.slice p0 s1.length c0) _ _ (h1.ext (Xw1.trans (by repeat (first | (with_reducible assumption) | (with_reducible refine Ext.setCell ?_ (by first | (simp; done) | (simp; omega) | omega) _) | (with_reducible apply Ext.alloc) | (with_reducible apply Ext.drew) | (with_reducible apply Ext.drewN) | (with_reducible exact Ext.refl _)))))).mono ?_
    rintro e w' ⟨rfl, rfl⟩
    by_cases hc3 : (vs.length : Int) = (countL s1 : Int)
    · have hc3e : ((vs.length : Int) == (countL s1 : Int)) = true := by simpa using hc3
      have hc3n : ((vs.length : Int) != (countL s1 : Int)) = false := by simpa using hc3
      replace hc3 := Lib.hid hc3
      go_wp2_with fail
      refine (canStoreB_c vs (.slice p3 vs.length c3) _ _ (h3.ext (Xw1.trans (by repeat (first | (with_reducible assumption) | (with_reducible refine Ext.setCell ?_ (by first | (simp; done) | (simp; omega) | omega) _) | (with_reducible apply Ext.alloc) | (with_reducible apply Ext.drew) | (with_reducible apply Ext.drewN) | (with_reducible exact Ext.refl _)))))).mono ?_
      rintro e w' ⟨rfl, rfl⟩
      cases hB4 : badV vs
      · replace hB4 := Lib.hid hB4
        go_wp2_with fail
        go_ret
        exact ⟨by rw [show storeB mem b1 s1 t1 vs = true from by unfold storeB; rw [hB2.out, decide_eq_true hc3.out, hB4.out] <;> rfl] <;> rfl, (Xw1.trans (by repeat (first | (with_reducible assumption) | (with_reducible refine Ext.setCell ?_ (by first | (simp; done) | (simp; omega) | omega) _) | (with_reducible apply Ext.alloc) | (with_reducible apply Ext.drew) | (with_reducible apply Ext.drewN) | (with_reducible exact Ext.refl _))))⟩
      · replace hB4 := Lib.hid hB4
        go_wp2_with fail
        go_ret
        exact ⟨by rw [show storeB mem b1 s1 t1 vs = false from by unfold storeB; rw [hB2.out, decide_eq_true hc3.out, hB4.out] <;> rfl] <;> rfl, (Xw1.trans (by repeat (first | (with_reducible assumption) | (with_reducible refine Ext.setCell ?_ (by first | (simp; done) | (simp; omega) | omega) _) | (with_reducible apply Ext.alloc) | (with_reducible apply Ext.drew) | (with_reducible apply Ext.drewN) | (with_reducible exact Ext.refl _))))⟩
    · have hc3e : ((vs.length : Int) == (countL s1 : Int)) = false := by simpa using hc3
      have hc3n : ((vs.length : Int) != (countL s1 : Int)) = true := by simpa using hc3
      replace hc3 := Lib.hid hc3
      go_wp2_with fail
      go_ret
      exact ⟨by rw [show storeB mem b1 s1 t1 vs = false from by unfold storeB; rw [hB2.out, decide_eq_false hc3.out] <;> rfl] <;> rfl, (Xw1.trans (by repeat (first | (with_reducible assumption) | (with_reducible refine Ext.setCell ?_ (by first | (simp; done) | (simp; omega) | omega) _) | (with_reducible apply Ext.alloc) | (with_reducible apply Ext.drew) | (with_reducible apply Ext.drewN) | (with_reducible exact Ext.refl _))))⟩

set_option maxHeartbeats 1600000 in
theorem implStoreView_c (mem : List Int) (a0 : Value) (b1 : Int) (u1 v1 : Value) (s1 t1 : List Int) (a3 : Value) (vs : List Int) (w : World) (l0 : Nat) (h0 : Ints w l0 a0 mem) (l1 m1 : Nat) (h1 : Ints w l1 u1 s1) (k1 : Ints w m1 v1 t1) (l3 : Nat) (h3 : Ints w l3 a3 vs) :
    Calls Try.prog 39 #[a0, .agg #[.int .i64 b1, u1, v1], a3] w (PIntsB w (putA mem b1 s1 t1 vs) (storeB mem b1 s1 t1 vs)) := by
  obtain ⟨p0, c0, rfl⟩ := h1.form
  obtain ⟨p1, c1, rfl⟩ := k1.form
  obtain ⟨p2, c2, rfl⟩ := h0.form
  obtain ⟨p3, c3, rfl⟩ := h3.form
  go_enter Try.func39, Try.ntmps39
  go_wp2_with fail
  refine (canStore_c mem (.slice p2 mem.length c2) b1 (.slice p0 s1.length c0) (.slice p1 t1.length c1) s1 t1 (.slice p3 vs.length c3) vs _ _ (h0.ext (by repeat (first | (with_reducible assumption) | (with_reducible refine Ext.setCell ?_ (by first | (simp; done) | (simp; omega) | omega) _) | (with_reducible apply Ext.alloc) | (with_reducible apply Ext.drew) | (with_reducible apply Ext.drewN) | (with_reducible exact Ext.refl _)))) _ _ (h1.ext (by repeat (first | (with_reducible assumption) | (with_reducible refine Ext.setCell ?_ (by first | (simp; done) | (simp; omega) | omega) _) | (with_reducible apply Ext.alloc) | (with_reducible apply Ext.drew) | (with_reducible apply Ext.drewN) | (with_reducible exact Ext.refl _)))) (k1.ext (by repeat (first | (with_reducible assumption) | (with_reducible refine Ext.setCell ?_ (by first | (simp; done) | (simp; omega) | omega) _) | (with_reducible apply Ext.alloc) | (with_reducible apply Ext.drew) | (with_reducible apply Ext.drewN) | (with_reducible exact Ext.refl _)))) _ (h3.ext (by repeat (first | (with_reducible assumption) | (with_reducible refine Ext.setCell ?_ (by first | (simp; done) | (simp; omega) | omega) _) | (with_reducible apply Ext.alloc) | (with_reducible apply Ext.drew) | (with_reducible apply Ext.drewN) | (with_reducible exact Ext.refl _))))).mono ?_
  rintro e w1 ⟨rfl, xw1⟩
  have Lw1 : Ext w w1 := Ext.trans (by repeat (first | (with_reducible assumption) | (with_reducible refine Ext.setCell ?_ (by first | (simp; done) | (simp; omega) | omega) _) | (with_reducible apply Ext.alloc) | (with_reducible apply Ext.drew) | (with_reducible apply Ext.drewN) | (with_reducible exact Ext.refl _))) xw1
  have Xw1 : Ext w w1 := Lw1
  have b10 : w1.cell? ⟨w.heap.size, 0, none⟩ = some (.int .i64 b1) := xw1.cell (by first | (simp; done) | ((repeat rw [World.cell?_alloc_lt _ _ _ (by simp <;> omega)]); simp; done) | (go_simp; done))
  have b11 : w1.cell? ⟨w.heap.size, 1, none⟩ = some (.slice p0 s1.length c0) := xw1.cell (by first | (simp; done) | ((repeat rw [World.cell?_alloc_lt _ _ _ (by simp <;> omega)]); simp; done) | (go_simp; done))
  have b12 : w1.cell? ⟨w.heap.size, 2, none⟩ = some (.slice p1 t1.length c1) := xw1.cell (by first | (simp; done) | ((repeat rw [World.cell?_alloc_lt _ _ _ (by simp <;> omega)]); simp; done) | (go_simp; done))
  have z_b1 : w.heap.size < w1.heap.size := World.block_lt_of_cell? _ _ b10
  have s_w1 : w.heap.size ≤ w1.heap.size := Xw1.size
  clear xw1
  cases hB2 : storeB mem b1 s1 t1 vs
  · replace hB2 := Lib.hid hB2
    go_wp2_with fail
    go_ret2
    rw [show putA mem b1 s1 t1 vs = [] by unfold putA; rw [hB2.out]; rfl, hB2.out]
    exact PIntsB.nil (Xw1.trans (by repeat (first | (with_reducible assumption) | (with_reducible refine Ext.setCell ?_ (by first | (simp; done) | (simp; omega) | omega) _) | (with_reducible apply Ext.alloc) | (with_reducible apply Ext.drew) | (with_reducible apply Ext.drewN) | (with_reducible exact Ext.refl _))))
  · replace hB2 := Lib.hid hB2
    go_wp2_with fail
    refine (storeView_c mem vs (.slice p2 mem.length c2) (.slice p3 vs.length c3) b1 (.slice p0 s1.length c0) (.slice p1 t1.length c1) s1 t1 _ _ _ _ _ (h0.ext (Xw1.trans (by repeat (first | (with_reducible assumption) | (with_reducible refine Ext.setCell ?_ (by first | (simp; done) | (simp; omega) | omega) _) | (with_reducible apply Ext.alloc) | (with_reducible apply Ext.drew) | (with_reducible apply Ext.drewN) | (with_reducible exact Ext.refl _))))) (h1.ext (Xw1.trans (by repeat (first | (with_reducible assumption) | (with_reducible refine Ext.setCell ?_ (by first | (simp; done) | (simp; omega) | omega) _) | (with_reducible apply Ext.alloc) | (with_reducible apply Ext.drew) | (with_reducible apply Ext.drewN) | (with_reducible exact Ext.refl _))))) (k1.ext (Xw1.trans (by repeat (first | (with_reducible assumption) | (with_reducible refine Ext.setCell ?_ (by first | (simp; done) | (simp; omega) | omega) _) | (with_reducible apply Ext.alloc) | (with_reducible apply Ext.drew) | (with_reducible apply Ext.drewN) | (with_reducible exact Ext.refl _))))) (h3.ext (Xw1.trans (by repeat (first | (with_reducible assumption) | (with_reducible refine Ext.setCell ?_ (by first | (simp; done) | (simp; omega) | omega) _) | (with_reducible apply Ext.alloc) | (with_reducible apply Ext.drew) | (with_reducible apply Ext.drewN) | (with_reducible exact Ext.refl _))))) (store_in hB2.out).2.2.2.2.2.1.1 (store_in hB2.out).2.2.2.1 (store_in hB2.out).2.2.2.2.1 (store_in hB2.out).2.1).mono ?_
    rintro e w2 ⟨fv3, rfl, i4, i4z, xw2⟩
    have Lw2 : Ext w1 w2 := Ext.trans (by repeat (first | (with_reducible assumption) | (with_reducible refine Ext.setCell ?_ (by first | (simp; done) | (simp; omega) | omega) _) | (with_reducible apply Ext.alloc) | (with_reducible apply Ext.drew) | (with_reducible apply Ext.drewN) | (with_reducible exact Ext.refl _))) xw2
    have Xw2 : Ext w w2 := Xw1.trans Lw2
    replace b10 := Lw2.cell b10
    replace b11 := Lw2.cell b11
    replace b12 := Lw2.cell b12
    have z_b1 : w.heap.size < w2.heap.size := World.block_lt_of_cell? _ _ b10
    have s_w2 : w.heap.size ≤ w2.heap.size := Xw2.size
    clear xw2
    obtain ⟨afv3, cfv3, rfl⟩ := i4.form
    go_wp2_with fail
    go_ret2
    rw [show putA mem b1 s1 t1 vs = putL mem (offsL b1 s1 t1) vs by unfold putA; rw [hB2.out]; rfl, hB2.out]
    exact ⟨_, rfl, i4.lower (by omega), i4z.lower (by omega), Xw2⟩

set_option maxHeartbeats 1600000 in
theorem specStoreView_c (mem : List Int) (a0 : Value) (b1 : Int) (u1 v1 : Value) (s1 t1 : List Int) (a3 : Value) (vs : List Int) (w : World) (l0 : Nat) (h0 : Ints w l0 a0 mem) (l1 m1 : Nat) (h1 : Ints w l1 u1 s1) (k1 : Ints w m1 v1 t1) (l3 : Nat) (h3 : Ints w l3 a3 vs) :
    Calls Try.prog 40 #[a0, .agg #[.int .i64 b1, u1, v1], a3] w (PIntsB w (putA mem b1 s1 t1 vs) (storeB mem b1 s1 t1 vs)) := by
  obtain ⟨p0, c0, rfl⟩ := h1.form
  obtain ⟨p1, c1, rfl⟩ := k1.form
  obtain ⟨p2, c2, rfl⟩ := h0.form
  obtain ⟨p3, c3, rfl⟩ := h3.form
  go_enter Try.func40, Try.ntmps40
  go_wp2_with fail
  refine (sees_c mem (.slice p2 mem.length c2) b1 (.slice p0 s1.length c0) (.slice p1 t1.length c1) s1 t1 _ _ _ _ (h0.ext (by repeat (first | (with_reducible assumption) | (with_reducible refine Ext.setCell ?_ (by first | (simp; done) | (simp; omega) | omega) _) | (with_reducible apply Ext.alloc) | (with_reducible apply Ext.drew) | (with_reducible apply Ext.drewN) | (with_reducible exact Ext.refl _)))) (h1.ext (by repeat (first | (with_reducible assumption) | (with_reducible refine Ext.setCell ?_ (by first | (simp; done) | (simp; omega) | omega) _) | (with_reducible apply Ext.alloc) | (with_reducible apply Ext.drew) | (with_reducible apply Ext.drewN) | (with_reducible exact Ext.refl _)))) (k1.ext (by repeat (first | (with_reducible assumption) | (with_reducible refine Ext.setCell ?_ (by first | (simp; done) | (simp; omega) | omega) _) | (with_reducible apply Ext.alloc) | (with_reducible apply Ext.drew) | (with_reducible apply Ext.drewN) | (with_reducible exact Ext.refl _))))).mono ?_
  rintro e w1 ⟨rfl, xw1⟩
  have Lw1 : Ext w w1 := Ext.trans (by repeat (first | (with_reducible assumption) | (with_reducible refine Ext.setCell ?_ (by first | (simp; done) | (simp; omega) | omega) _) | (with_reducible apply Ext.alloc) | (with_reducible apply Ext.drew) | (with_reducible apply Ext.drewN) | (with_reducible exact Ext.refl _))) xw1
  have Xw1 : Ext w w1 := Lw1
  have b10 : w1.cell? ⟨w.heap.size, 0, none⟩ = some (.int .i64 b1) := xw1.cell (by first | (simp; done) | ((repeat rw [World.cell?_alloc_lt _ _ _ (by simp <;> omega)]); simp; done) | (go_simp; done))
  have b11 : w1.cell? ⟨w.heap.size, 1, none⟩ = some (.slice p0 s1.length c0) := xw1.cell (by first | (simp; done) | ((repeat rw [World.cell?_alloc_lt _ _ _ (by simp <;> omega)]); simp; done) | (go_simp; done))
  have b12 : w1.cell? ⟨w.heap.size, 2, none⟩ = some (.slice p1 t1.length c1) := xw1.cell (by first | (simp; done) | ((repeat rw [World.cell?_alloc_lt _ _ _ (by simp <;> omega)]); simp; done) | (go_simp; done))
  have z_b1 : w.heap.size < w1.heap.size := World.block_lt_of_cell? _ _ b10
  have s_w1 : w.heap.size ≤ w1.heap.size := Xw1.size
  clear xw1
  cases hB2 : holdB mem b1 s1 t1
  · replace hB2 := Lib.hid hB2
    go_wp2_with fail
    go_ret2
    rw [show putA mem b1 s1 t1 vs = [] by unfold putA; rw [(show storeB mem b1 s1 t1 vs = false from by unfold storeB; rw [hB2.out] <;> rfl)]; rfl, (show storeB mem b1 s1 t1 vs = false from by unfold storeB; rw [hB2.out] <;> rfl)]
    exact PIntsB.nil (Xw1.trans (by repeat (first | (with_reducible assumption) | (with_reducible refine Ext.setCell ?_ (by first | (simp; done) | (simp; omega) | omega) _) | (with_reducible apply Ext.alloc) | (with_reducible apply Ext.drew) | (with_reducible apply Ext.drewN) | (with_reducible exact Ext.refl _))))
  · replace hB2 := Lib.hid hB2
    go_wp2_with fail
    refine (count_c s1 (.slice p0 s1.length c0) _ _ (h1.ext (Xw1.trans (by repeat (first | (with_reducible assumption) | (with_reducible refine Ext.setCell ?_ (by first | (simp; done) | (simp; omega) | omega) _) | (with_reducible apply Ext.alloc) | (with_reducible apply Ext.drew) | (with_reducible apply Ext.drewN) | (with_reducible exact Ext.refl _)))))).mono ?_
    rintro e w' ⟨rfl, rfl⟩
    by_cases hc3 : (vs.length : Int) = (countL s1 : Int)
    · have hc3e : ((vs.length : Int) == (countL s1 : Int)) = true := by simpa using hc3
      have hc3n : ((vs.length : Int) != (countL s1 : Int)) = false := by simpa using hc3
      replace hc3 := Lib.hid hc3
      go_wp2_with fail
      refine (allIn_c vs (.slice p3 vs.length c3) 0 255 _ _ (h3.ext (Xw1.trans (by repeat (first | (with_reducible assumption) | (with_reducible refine Ext.setCell ?_ (by first | (simp; done) | (simp; omega) | omega) _) | (with_reducible apply Ext.alloc) | (with_reducible apply Ext.drew) | (with_reducible apply Ext.drewN) | (with_reducible exact Ext.refl _)))))).mono ?_
      rintro e w' ⟨rfl, rfl⟩
      cases hB4 : vs.all (inB 0 255)
      · replace hB4 := Lib.hid hB4
        go_wp2_with fail
        go_ret2
        rw [show putA mem b1 s1 t1 vs = [] by unfold putA; rw [(show storeB mem b1 s1 t1 vs = false from by unfold storeB; rw [hB2.out, decide_eq_true hc3.out, ← badV_all, hB4.out] <;> rfl)]; rfl, (show storeB mem b1 s1 t1 vs = false from by unfold storeB; rw [hB2.out, decide_eq_true hc3.out, ← badV_all, hB4.out] <;> rfl)]
        exact PIntsB.nil (Xw1.trans (by repeat (first | (with_reducible assumption) | (with_reducible refine Ext.setCell ?_ (by first | (simp; done) | (simp; omega) | omega) _) | (with_reducible apply Ext.alloc) | (with_reducible apply Ext.drew) | (with_reducible apply Ext.drewN) | (with_reducible exact Ext.refl _))))
      · replace hB4 := Lib.hid hB4
        have hst : storeB mem b1 s1 t1 vs = true := by unfold storeB; rw [hB2.out, decide_eq_true hc3.out, ← badV_all, hB4.out] <;> rfl
        replace hst := Lib.hid hst
        go_wp2_with fail
        refine (put_c mem vs (.slice p2 mem.length c2) (.slice p3 vs.length c3) b1 (.slice p0 s1.length c0) (.slice p1 t1.length c1) s1 t1 _ _ _ _ _ (h0.ext (Xw1.trans (by repeat (first | (with_reducible assumption) | (with_reducible refine Ext.setCell ?_ (by first | (simp; done) | (simp; omega) | omega) _) | (with_reducible apply Ext.alloc) | (with_reducible apply Ext.drew) | (with_reducible apply Ext.drewN) | (with_reducible exact Ext.refl _))))) (h1.ext (Xw1.trans (by repeat (first | (with_reducible assumption) | (with_reducible refine Ext.setCell ?_ (by first | (simp; done) | (simp; omega) | omega) _) | (with_reducible apply Ext.alloc) | (with_reducible apply Ext.drew) | (with_reducible apply Ext.drewN) | (with_reducible exact Ext.refl _))))) (k1.ext (Xw1.trans (by repeat (first | (with_reducible assumption) | (with_reducible refine Ext.setCell ?_ (by first | (simp; done) | (simp; omega) | omega) _) | (with_reducible apply Ext.alloc) | (with_reducible apply Ext.drew) | (with_reducible apply Ext.drewN) | (with_reducible exact Ext.refl _))))) (h3.ext (Xw1.trans (by repeat (first | (with_reducible assumption) | (with_reducible refine Ext.setCell ?_ (by first | (simp; done) | (simp; omega) | omega) _) | (with_reducible apply Ext.alloc) | (with_reducible apply Ext.drew) | (with_reducible apply Ext.drewN) | (with_reducible exact Ext.refl _))))) (store_in hst.out).2.2.2.2.2.1.1 (store_in hst.out).2.2.2.1 (store_in hst.out).2.2.2.2.1 (store_in hst.out).2.1).mono ?_
        rintro e w2 ⟨fv5, rfl, i6, i6z, xw2⟩
        have Lw2 : Ext w1 w2 := Ext.trans (by repeat (first | (with_reducible assumption) | (with_reducible refine Ext.setCell ?_ (by first | (simp; done) | (simp; omega) | omega) _) | (with_reducible apply Ext.alloc) | (with_reducible apply Ext.drew) | (with_reducible apply Ext.drewN) | (with_reducible exact Ext.refl _))) xw2
        have Xw2 : Ext w w2 := Xw1.trans Lw2
        replace b10 := Lw2.cell b10
        replace b11 := Lw2.cell b11
        replace b12 := Lw2.cell b12
        have z_b1 : w.heap.size < w2.heap.size := World.block_lt_of_cell? _ _ b10
        have s_w2 : w.heap.size ≤ w2.heap.size := Xw2.size
        clear xw2
        obtain ⟨afv5, cfv5, rfl⟩ := i6.form
        go_wp2_with fail
        go_ret2
        rw [show putA mem b1 s1 t1 vs = putL mem (offsL b1 s1 t1) vs by unfold putA; rw [hst.out]; rfl, hst.out]
        exact ⟨_, rfl, i6.lower (by omega), i6z.lower (by omega), Xw2⟩
    · have hc3e : ((vs.length : Int) == (countL s1 : Int)) = false := by simpa using hc3
      have hc3n : ((vs.length : Int) != (countL s1 : Int)) = true := by simpa using hc3
      replace hc3 := Lib.hid hc3
      go_wp2_with fail
      go_ret2
      rw [show putA mem b1 s1 t1 vs = [] by unfold putA; rw [(show storeB mem b1 s1 t1 vs = false from by unfold storeB; rw [hB2.out, decide_eq_false hc3.out] <;> rfl)]; rfl, (show storeB mem b1 s1 t1 vs = false from by unfold storeB; rw [hB2.out, decide_eq_false hc3.out] <;> rfl)]
      exact PIntsB.nil (Xw1.trans (by repeat (first | (with_reducible assumption) | (with_reducible refine Ext.setCell ?_ (by first | (simp; done) | (simp; omega) | omega) _) | (with_reducible apply Ext.alloc) | (with_reducible apply Ext.drew) | (with_reducible apply Ext.drewN) | (with_reducible exact Ext.refl _))))


end Go.Proofs.Ytnjaidgifccgjaa

/- FnStoreViewLast returns true for all bytes: no condition. -/
namespace Go.Proofs.Ytnjaidgifccgjaa
open Go.RowKit
set_option linter.unusedVariables false
set_option maxRecDepth 100000


theorem last_law {mem : List Int} {b : Int} {s t vs : List Int} (h : storeB mem b s t vs = true) :
    (putA mem b s t vs).length = mem.length ∧ vs.length = (offA b s t).length ∧ (offA b s t).length ≤ 60 ∧ (∀ x ∈ offA b s t, 0 ≤ x ∧ x < mem.length) ∧
    (∀ i : Nat, i < (offA b s t).length → decide ((offA b s t).getD i 0 ∈ (offA b s t).drop (i + 1)) = false → (putA mem b s t vs).getD ((offA b s t).getD i 0).toNat 0 = vs.getD i 0) := by
  obtain ⟨-, h1, h2, h3, h4, ⟨h5, h6⟩, h7⟩ := store_in h
  have e : offA b s t = offsL b s t := by unfold offA; rw [if_pos h3]
  have e2 : putA mem b s t vs = putL mem (offsL b s t) vs := by unfold putA; rw [if_pos h]
  rw [e, e2]
  refine ⟨putUp_len _ _ _ _, h1, h7, h4, fun i hi hn => put_last _ _ _ h4 i hi ?_⟩
  simp only [decide_eq_false_iff_not] at hn
  cases hc : ((offsL b s t).drop (i + 1)).contains ((offsL b s t).getD i 0) with
  | false => rfl
  | true => exact absurd (List.contains_iff_mem.1 hc) hn
theorem part5 (p q : Prop) (r : Bool) : (p ∧ q ∧ r = false) ∨ (p ∧ q ∧ r = true) ∨ (p ∧ ¬ q ∧ r = false) ∨ (p ∧ ¬ q ∧ r = true) ∨ ¬ p := by
  by_cases hp : p
  · by_cases hq : q
    · cases r
      · exact .inl ⟨hp, hq, rfl⟩
      · exact .inr (.inl ⟨hp, hq, rfl⟩)
    · cases r
      · exact .inr (.inr (.inl ⟨hp, hq, rfl⟩))
      · exact .inr (.inr (.inr (.inl ⟨hp, hq, rfl⟩)))
  · exact .inr (.inr (.inr (.inr hp)))

set_option maxHeartbeats 3200000 in
theorem lawFnStoreViewLast_c (a : Option Addr) (n cap : Nat) (w : World) (hb : BysIn w a n cap) :
    Calls Try.prog 9 #[.slice a n cap] w fun e w' => e = .returned (.bool true) ∧ Ext w w' := by
  have hcm := hb.1
  have hcm2 := hb.2.1
  unfold maxLen at hcm2
  go_enter Try.func9, Try.ntmps9
  by_cases hc1 : (1048576 : Int) < (n : Int)
  · go_wp2_with fail
    go_ret
    exact ⟨rfl, (by repeat (first | exact Ext.refl _ | assumption | apply Ext.drewN | apply Ext.drew | apply Ext.alloc))⟩
  · go_wp2_with fail
    refine (drawStoreView_c a n cap _ hb).mono ?_
    rintro e w1 ⟨⟨mem, p0, n0, r0, b, s, t, p1, p2, n1, r1, n2, r2, vs, p3, n3, r3, rfl, l0, i0, i1, i2, l1, l2, i3, l3⟩, xw1⟩
    have Lw1 : Ext w w1 := Ext.trans (by repeat (first | (with_reducible assumption) | (with_reducible refine Ext.setCell ?_ (by first | (simp; done) | (simp; omega) | omega) _) | (with_reducible apply Ext.alloc) | (with_reducible apply Ext.drew) | (with_reducible apply Ext.drewN) | (with_reducible exact Ext.refl _))) xw1
    have Xw1 : Ext w w1 := Lw1
    have s_w1 : w.heap.size ≤ w1.heap.size := Xw1.size
    clear xw1
    obtain rfl := i0.len_eq
    obtain rfl := i1.len_eq
    obtain rfl := i2.len_eq
    obtain rfl := i3.len_eq
    clear hb
    go_wp2_with fail
    refine (implStoreView_c mem (.slice p0 mem.length r0) b (.slice p1 s.length r1) (.slice p2 t.length r2) s t (.slice p3 vs.length r3) vs _ _ (i0.ext (by repeat (first | (with_reducible assumption) | (with_reducible refine Ext.setCell ?_ (by first | (simp; done) | (simp; omega) | omega) _) | (with_reducible apply Ext.alloc) | (with_reducible apply Ext.drew) | (with_reducible apply Ext.drewN) | (with_reducible exact Ext.refl _)))) _ _ (i1.ext (by repeat (first | (with_reducible assumption) | (with_reducible refine Ext.setCell ?_ (by first | (simp; done) | (simp; omega) | omega) _) | (with_reducible apply Ext.alloc) | (with_reducible apply Ext.drew) | (with_reducible apply Ext.drewN) | (with_reducible exact Ext.refl _)))) (i2.ext (by repeat (first | (with_reducible assumption) | (with_reducible refine Ext.setCell ?_ (by first | (simp; done) | (simp; omega) | omega) _) | (with_reducible apply Ext.alloc) | (with_reducible apply Ext.drew) | (with_reducible apply Ext.drewN) | (with_reducible exact Ext.refl _)))) _ (i3.ext (by repeat (first | (with_reducible assumption) | (with_reducible refine Ext.setCell ?_ (by first | (simp; done) | (simp; omega) | omega) _) | (with_reducible apply Ext.alloc) | (with_reducible apply Ext.drew) | (with_reducible apply Ext.drewN) | (with_reducible exact Ext.refl _))))).mono ?_
    rintro e w2 ⟨fv3, rfl, i4, -, xw2⟩
    have Lw2 : Ext w1 w2 := Ext.trans (by repeat (first | (with_reducible assumption) | (with_reducible refine Ext.setCell ?_ (by first | (simp; done) | (simp; omega) | omega) _) | (with_reducible apply Ext.alloc) | (with_reducible apply Ext.drew) | (with_reducible apply Ext.drewN) | (with_reducible exact Ext.refl _))) xw2
    have Xw2 : Ext w w2 := Xw1.trans Lw2
    have b20 : w2.cell? ⟨w1.heap.size, 0, none⟩ = some (.int .i64 b) := xw2.cell (by first | (simp; done) | ((repeat rw [World.cell?_alloc_lt _ _ _ (by simp <;> omega)]); simp; done) | (go_simp; done))
    have b21 : w2.cell? ⟨w1.heap.size, 1, none⟩ = some (.slice p1 s.length r1) := xw2.cell (by first | (simp; done) | ((repeat rw [World.cell?_alloc_lt _ _ _ (by simp <;> omega)]); simp; done) | (go_simp; done))
    have b22 : w2.cell? ⟨w1.heap.size, 2, none⟩ = some (.slice p2 t.length r2) := xw2.cell (by first | (simp; done) | ((repeat rw [World.cell?_alloc_lt _ _ _ (by simp <;> omega)]); simp; done) | (go_simp; done))
    have z_b2 : w1.heap.size < w2.heap.size := World.block_lt_of_cell? _ _ b20
    replace i0 := i0.ext Lw2
    replace i1 := i1.ext Lw2
    replace i2 := i2.ext Lw2
    replace i3 := i3.ext Lw2
    have s_w2 : w.heap.size ≤ w2.heap.size := Xw2.size
    clear xw2
    obtain ⟨afv3, cfv3, rfl⟩ := i4.form
    cases hB5 : storeB mem b s t vs
    · replace hB5 := Lib.hid hB5
      go_wp2_with fail
      refine (specStoreView_c mem (.slice p0 mem.length r0) b (.slice p1 s.length r1) (.slice p2 t.length r2) s t (.slice p3 vs.length r3) vs _ _ (i0.ext (by repeat (first | (with_reducible assumption) | (with_reducible refine Ext.setCell ?_ (by first | (simp; done) | (simp; omega) | omega) _) | (with_reducible apply Ext.alloc) | (with_reducible apply Ext.drew) | (with_reducible apply Ext.drewN) | (with_reducible exact Ext.refl _)))) _ _ (i1.ext (by repeat (first | (with_reducible assumption) | (with_reducible refine Ext.setCell ?_ (by first | (simp; done) | (simp; omega) | omega) _) | (with_reducible apply Ext.alloc) | (with_reducible apply Ext.drew) | (with_reducible apply Ext.drewN) | (with_reducible exact Ext.refl _)))) (i2.ext (by repeat (first | (with_reducible assumption) | (with_reducible refine Ext.setCell ?_ (by first | (simp; done) | (simp; omega) | omega) _) | (with_reducible apply Ext.alloc) | (with_reducible apply Ext.drew) | (with_reducible apply Ext.drewN) | (with_reducible exact Ext.refl _)))) _ (i3.ext (by repeat (first | (with_reducible assumption) | (with_reducible refine Ext.setCell ?_ (by first | (simp; done) | (simp; omega) | omega) _) | (with_reducible apply Ext.alloc) | (with_reducible apply Ext.drew) | (with_reducible apply Ext.drewN) | (with_reducible exact Ext.refl _))))).mono ?_
      rintro e w3 ⟨fv6, rfl, i7, -, xw3⟩
      have Lw3 : Ext w2 w3 := Ext.trans (by repeat (first | (with_reducible assumption) | (with_reducible refine Ext.setCell ?_ (by first | (simp; done) | (simp; omega) | omega) _) | (with_reducible apply Ext.alloc) | (with_reducible apply Ext.drew) | (with_reducible apply Ext.drewN) | (with_reducible exact Ext.refl _))) xw3
      have Xw3 : Ext w w3 := Xw2.trans Lw3
      replace b20 := Lw3.cell b20
      replace b21 := Lw3.cell b21
      replace b22 := Lw3.cell b22
      have z_b2 : w1.heap.size < w3.heap.size := World.block_lt_of_cell? _ _ b20
      replace i0 := i0.ext Lw3
      replace i1 := i1.ext Lw3
      replace i2 := i2.ext Lw3
      replace i3 := i3.ext Lw3
      replace i4 := i4.ext Lw3
      have s_w3 : w.heap.size ≤ w3.heap.size := Xw3.size
      clear xw3
      obtain ⟨afv6, cfv6, rfl⟩ := i7.form
      rw [hB5.out]
      go_wp2_with fail
      refine (leqInts_c (putA mem b s t vs) (.slice afv3 ((putA mem b s t vs).length) cfv3) (.slice afv6 ((putA mem b s t vs).length) cfv6) _ _ _ (i4.ext (by repeat (first | (with_reducible assumption) | (with_reducible refine Ext.setCell ?_ (by first | (simp; done) | (simp; omega) | omega) _) | (with_reducible apply Ext.alloc) | (with_reducible apply Ext.drew) | (with_reducible apply Ext.drewN) | (with_reducible exact Ext.refl _)))) (i7.ext (by repeat (first | (with_reducible assumption) | (with_reducible refine Ext.setCell ?_ (by first | (simp; done) | (simp; omega) | omega) _) | (with_reducible apply Ext.alloc) | (with_reducible apply Ext.drew) | (with_reducible apply Ext.drewN) | (with_reducible exact Ext.refl _))))).mono ?_
      rintro e w4 ⟨rfl, xw4⟩
      have Lw4 : Ext w3 w4 := Ext.trans (by repeat (first | (with_reducible assumption) | (with_reducible refine Ext.setCell ?_ (by first | (simp; done) | (simp; omega) | omega) _) | (with_reducible apply Ext.alloc) | (with_reducible apply Ext.drew) | (with_reducible apply Ext.drewN) | (with_reducible exact Ext.refl _))) xw4
      have Xw4 : Ext w w4 := Xw3.trans Lw4
      replace b20 := Lw4.cell b20
      replace b21 := Lw4.cell b21
      replace b22 := Lw4.cell b22
      have z_b2 : w1.heap.size < w4.heap.size := World.block_lt_of_cell? _ _ b20
      replace i0 := i0.ext Lw4
      replace i1 := i1.ext Lw4
      replace i2 := i2.ext Lw4
      replace i3 := i3.ext Lw4
      replace i4 := i4.ext Lw4
      replace i7 := i7.ext Lw4
      have s_w4 : w.heap.size ≤ w4.heap.size := Xw4.size
      clear xw4
      go_wp2_with fail
      refine (leqInts_c (putA mem b s t vs) (.slice afv3 ((putA mem b s t vs).length) cfv3) (.slice afv6 ((putA mem b s t vs).length) cfv6) _ _ _ (i4.ext (by repeat (first | (with_reducible assumption) | (with_reducible refine Ext.setCell ?_ (by first | (simp; done) | (simp; omega) | omega) _) | (with_reducible apply Ext.alloc) | (with_reducible apply Ext.drew) | (with_reducible apply Ext.drewN) | (with_reducible exact Ext.refl _)))) (i7.ext (by repeat (first | (with_reducible assumption) | (with_reducible refine Ext.setCell ?_ (by first | (simp; done) | (simp; omega) | omega) _) | (with_reducible apply Ext.alloc) | (with_reducible apply Ext.drew) | (with_reducible apply Ext.drewN) | (with_reducible exact Ext.refl _))))).mono ?_
      rintro e w5 ⟨rfl, xw5⟩
      have Lw5 : Ext w4 w5 := Ext.trans (by repeat (first | (with_reducible assumption) | (with_reducible refine Ext.setCell ?_ (by first | (simp; done) | (simp; omega) | omega) _) | (with_reducible apply Ext.alloc) | (with_reducible apply Ext.drew) | (with_reducible apply Ext.drewN) | (with_reducible exact Ext.refl _))) xw5
      have Xw5 : Ext w w5 := Xw4.trans Lw5
      replace b20 := Lw5.cell b20
      replace b21 := Lw5.cell b21
      replace b22 := Lw5.cell b22
      have z_b2 : w1.heap.size < w5.heap.size := World.block_lt_of_cell? _ _ b20
      replace i0 := i0.ext Lw5
      replace i1 := i1.ext Lw5
      replace i2 := i2.ext Lw5
      replace i3 := i3.ext Lw5
      replace i4 := i4.ext Lw5
      replace i7 := i7.ext Lw5
      have s_w5 : w.heap.size ≤ w5.heap.size := Xw5.size
      clear xw5
      go_wp2_with fail
      go_ret
      exact ⟨rfl, (Xw5.trans (by repeat (first | (with_reducible assumption) | (with_reducible refine Ext.setCell ?_ (by first | (simp; done) | (simp; omega) | omega) _) | (with_reducible apply Ext.alloc) | (with_reducible apply Ext.drew) | (with_reducible apply Ext.drewN) | (with_reducible exact Ext.refl _))))⟩
    · replace hB5 := Lib.hid hB5
      go_wp2_with fail
      refine (specStoreView_c mem (.slice p0 mem.length r0) b (.slice p1 s.length r1) (.slice p2 t.length r2) s t (.slice p3 vs.length r3) vs _ _ (i0.ext (by repeat (first | (with_reducible assumption) | (with_reducible refine Ext.setCell ?_ (by first | (simp; done) | (simp; omega) | omega) _) | (with_reducible apply Ext.alloc) | (with_reducible apply Ext.drew) | (with_reducible apply Ext.drewN) | (with_reducible exact Ext.refl _)))) _ _ (i1.ext (by repeat (first | (with_reducible assumption) | (with_reducible refine Ext.setCell ?_ (by first | (simp; done) | (simp; omega) | omega) _) | (with_reducible apply Ext.alloc) | (with_reducible apply Ext.drew) | (with_reducible apply Ext.drewN) | (with_reducible exact Ext.refl _)))) (i2.ext (by repeat (first | (with_reducible assumption) | (with_reducible refine Ext.setCell ?_ (by first | (simp; done) | (simp; omega) | omega) _) | (with_reducible apply Ext.alloc) | (with_reducible apply Ext.drew) | (with_reducible apply Ext.drewN) | (with_reducible exact Ext.refl _)))) _ (i3.ext (by repeat (first | (with_reducible assumption) | (with_reducible refine Ext.setCell ?_ (by first | (simp; done) | (simp; omega) | omega) _) | (with_reducible apply Ext.alloc) | (with_reducible apply Ext.drew) | (with_reducible apply Ext.drewN) | (with_reducible exact Ext.refl _))))).mono ?_
      rintro e w3 ⟨fv8, rfl, i9, -, xw3⟩
      have Lw3 : Ext w2 w3 := Ext.trans (by repeat (first | (with_reducible assumption) | (with_reducible refine Ext.setCell ?_ (by first | (simp; done) | (simp; omega) | omega) _) | (with_reducible apply Ext.alloc) | (with_reducible apply Ext.drew) | (with_reducible apply Ext.drewN) | (with_reducible exact Ext.refl _))) xw3
      have Xw3 : Ext w w3 := Xw2.trans Lw3
      replace b20 := Lw3.cell b20
      replace b21 := Lw3.cell b21
      replace b22 := Lw3.cell b22
      have z_b2 : w1.heap.size < w3.heap.size := World.block_lt_of_cell? _ _ b20
      replace i0 := i0.ext Lw3
      replace i1 := i1.ext Lw3
      replace i2 := i2.ext Lw3
      replace i3 := i3.ext Lw3
      replace i4 := i4.ext Lw3
      have s_w3 : w.heap.size ≤ w3.heap.size := Xw3.size
      clear xw3
      obtain ⟨afv8, cfv8, rfl⟩ := i9.form
      rw [hB5.out]
      go_wp2_with fail
      refine (leqInts_c (putA mem b s t vs) (.slice afv3 ((putA mem b s t vs).length) cfv3) (.slice afv8 ((putA mem b s t vs).length) cfv8) _ _ _ (i4.ext (by repeat (first | (with_reducible assumption) | (with_reducible refine Ext.setCell ?_ (by first | (simp; done) | (simp; omega) | omega) _) | (with_reducible apply Ext.alloc) | (with_reducible apply Ext.drew) | (with_reducible apply Ext.drewN) | (with_reducible exact Ext.refl _)))) (i9.ext (by repeat (first | (with_reducible assumption) | (with_reducible refine Ext.setCell ?_ (by first | (simp; done) | (simp; omega) | omega) _) | (with_reducible apply Ext.alloc) | (with_reducible apply Ext.drew) | (with_reducible apply Ext.drewN) | (with_reducible exact Ext.refl _))))).mono ?_
      rintro e w4 ⟨rfl, xw4⟩
      have Lw4 : Ext w3 w4 := Ext.trans (by repeat (first | (with_reducible assumption) | (with_reducible refine Ext.setCell ?_ (by first | (simp; done) | (simp; omega) | omega) _) | (with_reducible apply Ext.alloc) | (with_reducible apply Ext.drew) | (with_reducible apply Ext.drewN) | (with_reducible exact Ext.refl _))) xw4
      have Xw4 : Ext w w4 := Xw3.trans Lw4
      replace b20 := Lw4.cell b20
      replace b21 := Lw4.cell b21
      replace b22 := Lw4.cell b22
      have z_b2 : w1.heap.size < w4.heap.size := World.block_lt_of_cell? _ _ b20
      replace i0 := i0.ext Lw4
      replace i1 := i1.ext Lw4
      replace i2 := i2.ext Lw4
      replace i3 := i3.ext Lw4
      replace i4 := i4.ext Lw4
      replace i9 := i9.ext Lw4
      have s_w4 : w.heap.size ≤ w4.heap.size := Xw4.size
      clear xw4
      go_wp2_with fail
      refine (implOffsetsOf_c b (.slice p1 s.length r1) (.slice p2 t.length r2) s t _ _ _ (i1.ext (by repeat (first | (with_reducible assumption) | (with_reducible refine Ext.setCell ?_ (by first | (simp; done) | (simp; omega) | omega) _) | (with_reducible apply Ext.alloc) | (with_reducible apply Ext.drew) | (with_reducible apply Ext.drewN) | (with_reducible exact Ext.refl _)))) (i2.ext (by repeat (first | (with_reducible assumption) | (with_reducible refine Ext.setCell ?_ (by first | (simp; done) | (simp; omega) | omega) _) | (with_reducible apply Ext.alloc) | (with_reducible apply Ext.drew) | (with_reducible apply Ext.drewN) | (with_reducible exact Ext.refl _))))).mono ?_
      rintro e w5 ⟨fv10, rfl, i11, -, xw5⟩
      have Lw5 : Ext w4 w5 := Ext.trans (by repeat (first | (with_reducible assumption) | (with_reducible refine Ext.setCell ?_ (by first | (simp; done) | (simp; omega) | omega) _) | (with_reducible apply Ext.alloc) | (with_reducible apply Ext.drew) | (with_reducible apply Ext.drewN) | (with_reducible exact Ext.refl _))) xw5
      have Xw5 : Ext w w5 := Xw4.trans Lw5
      replace b20 := Lw5.cell b20
      replace b21 := Lw5.cell b21
      replace b22 := Lw5.cell b22
      have z_b2 : w1.heap.size < w5.heap.size := World.block_lt_of_cell? _ _ b20
      replace i0 := i0.ext Lw5
      replace i1 := i1.ext Lw5
      replace i2 := i2.ext Lw5
      replace i3 := i3.ext Lw5
      replace i4 := i4.ext Lw5
      replace i9 := i9.ext Lw5
      have s_w5 : w.heap.size ≤ w5.heap.size := Xw5.size
      clear xw5
      obtain ⟨afv10, cfv10, rfl⟩ := i11.form
      go_wp2_with fail
      obtain ⟨ha1, ha2, ha3, hix, hfin⟩ := last_law hB5.out
      replace ha1 := Lib.hid ha1
      replace ha2 := Lib.hid ha2
      replace hix := Lib.hid hix
      replace hfin := Lib.hid hfin
      go_loopw [11] (fun i wr => ∃ (k : Nat), k ≤ (offA b s t).length ∧ i = .int .i64 k ∧ Ext w5 wr) (fun i _ => (offA b s t).length - (intOf i).toNat)
      case atStart => exact ⟨0, Nat.zero_le _, rfl, (by repeat (first | (with_reducible assumption) | (with_reducible refine Ext.setCell ?_ (by first | (simp; done) | (simp; omega) | omega) _) | (with_reducible apply Ext.alloc) | (with_reducible apply Ext.drew) | (with_reducible apply Ext.drewN) | (with_reducible exact Ext.refl _)))⟩
      case round =>
        obtain ⟨k, hk, rfl, Lwr⟩ := hrel
        have Xwr : Ext w wr := Xw5.trans Lwr
        have s_wr : w.heap.size ≤ wr.heap.size := Xwr.size
        have t_wr : w5.heap.size ≤ wr.heap.size := Lwr.size
        replace b20 := Lwr.cell b20
        replace b21 := Lwr.cell b21
        replace b22 := Lwr.cell b22
        have z_b2 : w1.heap.size < wr.heap.size := World.block_lt_of_cell? _ _ b20
        replace i0 := i0.ext Lwr
        replace i1 := i1.ext Lwr
        replace i2 := i2.ext Lwr
        replace i3 := i3.ext Lwr
        replace i4 := i4.ext Lwr
        replace i9 := i9.ext Lwr
        replace i11 := i11.ext Lwr
        have Bwr : Ext w5 wr := Lwr
        rcases part5 (k < (offA b s t).length) (cfv10 = k + 1) (decide ((offA b s t).getD k 0 ∈ (offA b s t).drop (k + 1))) with ⟨hlt, hcp, hd⟩ | ⟨hlt, hcp, hd⟩ | ⟨hlt, hcp, hd⟩ | ⟨hlt, hcp, hd⟩ | hlt
        · have hkI : (k : Int) < (offA b s t).length := by omega
          have hkI1 : (k : Int) + 1 ≤ ((offA b s t).length : Int) := by omega
          have hkI2 : (0 : Int) ≤ (k : Int) + 1 := by omega
          obtain ⟨hi0, hi1⟩ := hix.out _ (getD_mem hlt)
          obtain ⟨j, hj⟩ : ∃ j : Nat, (offA b s t).getD k 0 = j := ⟨((offA b s t).getD k 0).toNat, by omega⟩
          have hfx := hfin.out k hlt hd
          rw [hj, Int.toNat_natCast] at hfx
          replace hfx := Lib.hid hfx
          rw [hj] at hd hi0 hi1
          replace hj := Lib.hid hj
          replace hd := Lib.hid hd
          have hN_e14 : k < (offA b s t).length := (by omega)
          have hI_e14 : (k : Int) < ((offA b s t).length : Int) := by omega
          obtain ⟨bl12, ol13, rfl, e140⟩ := i11.at k (by omega)
          obtain ⟨v15, hv15⟩ : ∃ v, (offA b s t).getD k 0 = v := ⟨_, rfl⟩
          rw [hv15] at e140
          replace hv15 := Lib.hid hv15
          have y_e14 : bl12 < wr.heap.size := World.block_lt_of_cell? _ _ e140
          have z_e14 := y_e14
          obtain rfl : v15 = (j : Int) := by rw [← hv15.out]; exact hj.out
          have hkc : (k : Int) + 1 ≤ cfv10 := by omega
          have hsl16 := (i11).drop0 (k + 1) (by omega) (by omega)
          subst hcp
          go_wp2_with fail
          have hN_e25 : j < (putA mem b s t vs).length := (by have := ha1.out; omega)
          have hI_e25 : (j : Int) < ((putA mem b s t vs).length : Int) := by omega
          obtain ⟨bl23, ol24, rfl, e250⟩ := i4.at j (by have := ha1.out; omega)
          obtain ⟨v26, hv26⟩ : ∃ v, (putA mem b s t vs).getD j 0 = v := ⟨_, rfl⟩
          rw [hv26] at e250
          replace hv26 := Lib.hid hv26
          have y_e25 : bl23 < wr.heap.size := World.block_lt_of_cell? _ _ e250
          have z_e25 := y_e25
          have hN_e29 : k < vs.length := (by have := ha2.out; omega)
          have hI_e29 : (k : Int) < (vs.length : Int) := by omega
          obtain ⟨bl27, ol28, rfl, e290⟩ := i3.at k (by have := ha2.out; omega)
          obtain ⟨v30, hv30⟩ : ∃ v, vs.getD k 0 = v := ⟨_, rfl⟩
          rw [hv30] at e290
          replace hv30 := Lib.hid hv30
          have y_e29 : bl27 < wr.heap.size := World.block_lt_of_cell? _ _ e290
          have z_e29 := y_e29
          refine wp_region_tail (S := fun w' => w'.cell? ⟨w1.heap.size, 0, none⟩ = some (.int .i64 b) ∧ w'.cell? ⟨w1.heap.size, 1, none⟩ = some (.slice p1 s.length r1) ∧ w'.cell? ⟨w1.heap.size, 2, none⟩ = some (.slice p2 t.length r2) ∧ w'.cell? ⟨bl12, ol13 + k, none⟩ = some (.int .i64 (j : Int)) ∧ w'.cell? ⟨bl23, ol24 + j, none⟩ = some (.int .i64 v26) ∧ w'.cell? ⟨bl27, ol28 + k, none⟩ = some (.int .i64 v30)) (fun i => decide (24 ≤ i)) (by kernel_rfl) ⟨b20, b21, b22, e140, e250, e290⟩ (fun hHeld => ?_)
          refine wpTail_take (i := 0) (v := ?_) rfl (by kernel_rfl) (by kernel_rfl) (by kernel_rfl) rfl (by kernel_rfl) (fun _ _ _ h => h) (Or.inl ⟨by rfl, ?_⟩) (by assumption) ?_
          rotate_left
          · (intro w hSw; (try dsimp only at hSw); go_simp; try with_reducible rfl)
          try simp only [Act.put, List.setIfInBounds_toArray, List.set_cons_zero, List.set_cons_succ, List.getElem_toArray, List.getElem_cons_succ, List.getElem_cons_zero]
          refine wpTail_take (i := 1) (v := ?_) rfl (by kernel_rfl) (by kernel_rfl) (by kernel_rfl) rfl (by kernel_rfl) (fun _ _ _ h => h) (Or.inl ⟨by rfl, ?_⟩) (by assumption) ?_
          rotate_left
          · (intro w hSw; (try dsimp only at hSw); go_simp; try with_reducible rfl)
          try simp only [Act.put, List.setIfInBounds_toArray, List.set_cons_zero, List.set_cons_succ, List.getElem_toArray, List.getElem_cons_succ, List.getElem_cons_zero]
          have hw31 : IntKind.i64.wrap ((k : Int) + 1) = (k : Int) + 1 := IntWalk.i64_in _ (by omega)
          refine wpTail_take (i := 2) (v := ?_) rfl (by kernel_rfl) (by kernel_rfl) (by kernel_rfl) rfl (by kernel_rfl) (fun _ _ _ h => h) (Or.inl ⟨by rfl, ?_⟩) (by assumption) ?_
          rotate_left
          · (intro w hSw; (try dsimp only at hSw); go_simp; try with_reducible rfl)
          try simp only [Act.put, List.setIfInBounds_toArray, List.set_cons_zero, List.set_cons_succ, List.getElem_toArray, List.getElem_cons_succ, List.getElem_cons_zero]
          refine wpTail_take (i := 3) (v := ?_) rfl (by kernel_rfl) (by kernel_rfl) (by kernel_rfl) rfl (by kernel_rfl) (fun _ _ _ h => h) (Or.inl ⟨by rfl, ?_⟩) (by assumption) ?_
          rotate_left
          · (intro w hSw; (try dsimp only at hSw); go_simp; try with_reducible rfl)
          try simp only [Act.put, List.setIfInBounds_toArray, List.set_cons_zero, List.set_cons_succ, List.getElem_toArray, List.getElem_cons_succ, List.getElem_cons_zero]
          refine wpTail_take (i := 4) (v := ?_) rfl (by kernel_rfl) (by kernel_rfl) (by kernel_rfl) rfl (by kernel_rfl) (fun _ _ _ h => h) (Or.inl ⟨by rfl, ?_⟩) (by assumption) ?_
          rotate_left
          · (intro w hSw; (try dsimp only at hSw); go_simp; try with_reducible rfl)
          try simp only [Act.put, List.setIfInBounds_toArray, List.set_cons_zero, List.set_cons_succ, List.getElem_toArray, List.getElem_cons_succ, List.getElem_cons_zero]
          refine wpTail_take (i := 5) (v := ?_) rfl (by kernel_rfl) (by kernel_rfl) (by kernel_rfl) rfl (by kernel_rfl) (fun _ _ _ h => h) (Or.inl ⟨by rfl, ?_⟩) (by assumption) ?_
          rotate_left
          · (intro w hSw; (try dsimp only at hSw); go_simp; try with_reducible rfl)
          try simp only [Act.put, List.setIfInBounds_toArray, List.set_cons_zero, List.set_cons_succ, List.getElem_toArray, List.getElem_cons_succ, List.getElem_cons_zero]
          refine wpTail_take (i := 6) (v := ?_) rfl (by kernel_rfl) (by kernel_rfl) (by kernel_rfl) rfl (by kernel_rfl) (fun _ _ _ h => h) (Or.inl ⟨by rfl, ?_⟩) (by assumption) ?_
          rotate_left
          · (intro w hSw; (try dsimp only at hSw); go_simp; try with_reducible rfl)
          try simp only [Act.put, List.setIfInBounds_toArray, List.set_cons_zero, List.set_cons_succ, List.getElem_toArray, List.getElem_cons_succ, List.getElem_cons_zero]
          refine wpTail_take (i := 7) (v := ?_) rfl (by kernel_rfl) (by kernel_rfl) (by kernel_rfl) rfl (by kernel_rfl) (fun _ _ _ h => h) (Or.inl ⟨by rfl, ?_⟩) (by assumption) ?_
          rotate_left
          · (intro w hSw; (try dsimp only at hSw); go_simp; try with_reducible rfl)
          try simp only [Act.put, List.setIfInBounds_toArray, List.set_cons_zero, List.set_cons_succ, List.getElem_toArray, List.getElem_cons_succ, List.getElem_cons_zero]
          refine wpTail_one (i := 8) (by kernel_rfl) rfl rfl (fun K hK => ?_)
          try simp only [Act.put, List.setIfInBounds_toArray, List.set_cons_zero, List.set_cons_succ, List.getElem_toArray, List.getElem_cons_succ, List.getElem_cons_zero]
          go_simp
          refine (isIn_c ((offA b s t).drop (k + 1)) (j : Int) (.slice (some ⟨bl12, ol13, none⟩) ((offA b s t).length - (k + 1)) 0) _ _ (hsl16.ext (by repeat (first | (with_reducible assumption) | (with_reducible refine Ext.setCell ?_ (by first | (simp; done) | (simp; omega) | omega) _) | (with_reducible apply Ext.alloc) | (with_reducible apply Ext.drew) | (with_reducible apply Ext.drewN) | (with_reducible exact Ext.refl _))))).mono ?_
          rintro e w6 ⟨rfl, xw6⟩
          have Lw6 : Ext wr w6 := Ext.trans (by repeat (first | (with_reducible assumption) | (with_reducible refine Ext.setCell ?_ (by first | (simp; done) | (simp; omega) | omega) _) | (with_reducible apply Ext.alloc) | (with_reducible apply Ext.drew) | (with_reducible apply Ext.drewN) | (with_reducible exact Ext.refl _))) xw6
          have Xw6 : Ext w w6 := Xwr.trans Lw6
          replace b20 := Lw6.cell b20
          replace b21 := Lw6.cell b21
          replace b22 := Lw6.cell b22
          replace e140 := Lw6.cell e140
          replace e250 := Lw6.cell e250
          replace e290 := Lw6.cell e290
          have z_b2 : w1.heap.size < w6.heap.size := World.block_lt_of_cell? _ _ b20
          have z_e14 : bl12 < w6.heap.size := World.block_lt_of_cell? _ _ e140
          have z_e25 : bl23 < w6.heap.size := World.block_lt_of_cell? _ _ e250
          have z_e29 : bl27 < w6.heap.size := World.block_lt_of_cell? _ _ e290
          replace i0 := i0.ext Lw6
          replace i1 := i1.ext Lw6
          replace i2 := i2.ext Lw6
          replace i3 := i3.ext Lw6
          replace i4 := i4.ext Lw6
          replace i9 := i9.ext Lw6
          replace i11 := i11.ext Lw6
          replace hsl16 := hsl16.ext Lw6
          have s_w6 : w.heap.size ≤ w6.heap.size := Xw6.size
          have Bwr_w6 : Ext w5 w6 := Bwr.trans Lw6
          clear xw6
          rw [hd.out]
          refine hK.out _ _ ⟨b20, b21, b22, e140, e250, e290⟩ (fun hHeld => ?_)
          clear hK K
          try simp only [Act.put, List.setIfInBounds_toArray, List.set_cons_zero, List.set_cons_succ, List.getElem_toArray, List.getElem_cons_succ, List.getElem_cons_zero]
          refine wpTail_take (i := 9) (v := ?_) rfl (by kernel_rfl) (by kernel_rfl) (by kernel_rfl) rfl (by kernel_rfl) (fun _ _ _ h => h) (Or.inl ⟨by rfl, ?_⟩) (by assumption) ?_
          rotate_left
          · (intro w hSw; (try dsimp only at hSw); go_simp; try with_reducible rfl)
          try simp only [Act.put, List.setIfInBounds_toArray, List.set_cons_zero, List.set_cons_succ, List.getElem_toArray, List.getElem_cons_succ, List.getElem_cons_zero]
          refine wpTail_take (i := 10) (v := ?_) rfl (by kernel_rfl) (by kernel_rfl) (by kernel_rfl) rfl (by kernel_rfl) (fun _ _ _ h => h) (Or.inl ⟨by rfl, ?_⟩) (by assumption) ?_
          rotate_left
          · (intro w hSw; (try dsimp only at hSw); go_simp; try with_reducible rfl)
          try simp only [Act.put, List.setIfInBounds_toArray, List.set_cons_zero, List.set_cons_succ, List.getElem_toArray, List.getElem_cons_succ, List.getElem_cons_zero]
          refine wpTail_take (i := 11) (v := ?_) rfl (by kernel_rfl) (by kernel_rfl) (by kernel_rfl) rfl (by kernel_rfl) (fun _ _ _ h => h) (Or.inl ⟨by rfl, ?_⟩) (by assumption) ?_
          rotate_left
          · (intro w hSw; (try dsimp only at hSw); go_simp; try with_reducible rfl)
          try simp only [Act.put, List.setIfInBounds_toArray, List.set_cons_zero, List.set_cons_succ, List.getElem_toArray, List.getElem_cons_succ, List.getElem_cons_zero]
          refine wpTail_take (i := 12) (v := ?_) rfl (by kernel_rfl) (by kernel_rfl) (by kernel_rfl) rfl (by kernel_rfl) (fun _ _ _ h => h) (Or.inl ⟨by rfl, ?_⟩) (by assumption) ?_
          rotate_left
          · (intro w hSw; (try dsimp only at hSw); go_simp; try with_reducible rfl)
          try simp only [Act.put, List.setIfInBounds_toArray, List.set_cons_zero, List.set_cons_succ, List.getElem_toArray, List.getElem_cons_succ, List.getElem_cons_zero]
          refine wpTail_take (i := 13) (v := ?_) rfl (by kernel_rfl) (by kernel_rfl) (by kernel_rfl) rfl (by kernel_rfl) (fun _ _ _ h => h) (Or.inl ⟨by rfl, ?_⟩) (by assumption) ?_
          rotate_left
          · (intro w hSw; (try dsimp only at hSw); go_simp; try with_reducible rfl)
          try simp only [Act.put, List.setIfInBounds_toArray, List.set_cons_zero, List.set_cons_succ, List.getElem_toArray, List.getElem_cons_succ, List.getElem_cons_zero]
          refine wpTail_take (i := 14) (v := ?_) rfl (by kernel_rfl) (by kernel_rfl) (by kernel_rfl) rfl (by kernel_rfl) (fun _ _ _ h => h) (Or.inl ⟨by rfl, ?_⟩) (by assumption) ?_
          rotate_left
          · (intro w hSw; (try dsimp only at hSw); go_simp; try with_reducible rfl)
          try simp only [Act.put, List.setIfInBounds_toArray, List.set_cons_zero, List.set_cons_succ, List.getElem_toArray, List.getElem_cons_succ, List.getElem_cons_zero]
          refine wpTail_take (i := 15) (v := ?_) rfl (by kernel_rfl) (by kernel_rfl) (by kernel_rfl) rfl (by kernel_rfl) (fun _ _ _ h => h) (Or.inl ⟨by rfl, ?_⟩) (by assumption) ?_
          rotate_left
          · (intro w hSw; (try dsimp only at hSw); go_simp; try with_reducible rfl)
          try simp only [Act.put, List.setIfInBounds_toArray, List.set_cons_zero, List.set_cons_succ, List.getElem_toArray, List.getElem_cons_succ, List.getElem_cons_zero]
          refine wpTail_take (i := 16) (v := ?_) rfl (by kernel_rfl) (by kernel_rfl) (by kernel_rfl) rfl (by kernel_rfl) (fun _ _ _ h => h) (Or.inl ⟨by rfl, ?_⟩) (by assumption) ?_
          rotate_left
          · (intro w hSw; (try dsimp only at hSw); go_simp; try with_reducible rfl)
          try simp only [Act.put, List.setIfInBounds_toArray, List.set_cons_zero, List.set_cons_succ, List.getElem_toArray, List.getElem_cons_succ, List.getElem_cons_zero]
          refine wpTail_take (i := 17) (v := ?_) rfl (by kernel_rfl) (by kernel_rfl) (by kernel_rfl) rfl (by kernel_rfl) (fun _ _ _ h => h) (Or.inl ⟨by rfl, ?_⟩) (by assumption) ?_
          rotate_left
          · (intro w hSw; (try dsimp only at hSw); go_simp; try with_reducible rfl)
          try simp only [Act.put, List.setIfInBounds_toArray, List.set_cons_zero, List.set_cons_succ, List.getElem_toArray, List.getElem_cons_succ, List.getElem_cons_zero]
          refine wpTail_take (i := 18) (v := ?_) rfl (by kernel_rfl) (by kernel_rfl) (by kernel_rfl) rfl (by kernel_rfl) (fun _ _ _ h => h) (Or.inl ⟨by rfl, ?_⟩) (by assumption) ?_
          rotate_left
          · (intro w hSw; (try dsimp only at hSw); go_simp; try with_reducible rfl)
          try simp only [Act.put, List.setIfInBounds_toArray, List.set_cons_zero, List.set_cons_succ, List.getElem_toArray, List.getElem_cons_succ, List.getElem_cons_zero]
          refine wpTail_take (i := 19) (v := ?_) rfl (by kernel_rfl) (by kernel_rfl) (by kernel_rfl) rfl (by kernel_rfl) (fun _ _ _ h => h) (Or.inl ⟨by rfl, ?_⟩) (by assumption) ?_
          rotate_left
          · (intro w hSw; (try dsimp only at hSw); go_simp; try with_reducible rfl)
          try simp only [Act.put, List.setIfInBounds_toArray, List.set_cons_zero, List.set_cons_succ, List.getElem_toArray, List.getElem_cons_succ, List.getElem_cons_zero]
          refine wpTail_take (i := 20) (v := ?_) rfl (by kernel_rfl) (by kernel_rfl) (by kernel_rfl) rfl (by kernel_rfl) (fun _ _ _ h => h) (Or.inl ⟨by rfl, ?_⟩) (by assumption) ?_
          rotate_left
          · (intro w hSw; (try dsimp only at hSw); go_simp; try with_reducible rfl)
          try simp only [Act.put, List.setIfInBounds_toArray, List.set_cons_zero, List.set_cons_succ, List.getElem_toArray, List.getElem_cons_succ, List.getElem_cons_zero]
          refine wpTail_take (i := 21) (v := ?_) rfl (by kernel_rfl) (by kernel_rfl) (by kernel_rfl) rfl (by kernel_rfl) (fun _ _ _ h => h) (Or.inl ⟨by rfl, ?_⟩) (by assumption) ?_
          rotate_left
          · (intro w hSw; (try dsimp only at hSw); go_simp; try with_reducible rfl)
          try simp only [Act.put, List.setIfInBounds_toArray, List.set_cons_zero, List.set_cons_succ, List.getElem_toArray, List.getElem_cons_succ, List.getElem_cons_zero]
          have hq44e : ((v26 : Int) == (v30 : Int)) = true := by have h7 : (v26 : Int) = (v30 : Int) := (by rw [← hv26.out, hfx.out, hv30.out]); simpa using h7
          have hq44n : ((v26 : Int) != (v30 : Int)) = false := by have h7 : (v26 : Int) = (v30 : Int) := (by rw [← hv26.out, hfx.out, hv30.out]); simpa using h7
          refine wpTail_take (i := 22) (v := ?_) rfl (by kernel_rfl) (by kernel_rfl) (by kernel_rfl) rfl (by kernel_rfl) (fun _ _ _ h => h) (Or.inl ⟨by rfl, ?_⟩) (by assumption) ?_
          rotate_left
          · (intro w hSw; (try dsimp only at hSw); go_simp; try with_reducible rfl)
          try simp only [Act.put, List.setIfInBounds_toArray, List.set_cons_zero, List.set_cons_succ, List.getElem_toArray, List.getElem_cons_succ, List.getElem_cons_zero]
          refine wpTail_take (i := 23) (v := ?_) rfl (by kernel_rfl) (by kernel_rfl) (by kernel_rfl) rfl (by kernel_rfl) (fun _ _ _ h => h) (Or.inl ⟨by rfl, ?_⟩) (by assumption) ?_
          rotate_left
          · (intro w hSw; (try dsimp only at hSw); go_simp; try with_reducible rfl)
          try simp only [Act.put, List.setIfInBounds_toArray, List.set_cons_zero, List.set_cons_succ, List.getElem_toArray, List.getElem_cons_succ, List.getElem_cons_zero]
          refine wpTail_done (by kernel_rfl) ?_ _
          clear hHeld hw31
          go_wp2_with fail
          go_roundw
          case rel => exact ⟨k + 1, by omega, by go_num, (Bwr_w6.trans (by repeat (first | (with_reducible assumption) | (with_reducible refine Ext.setCell ?_ (by first | (simp; done) | (simp; omega) | omega) _) | (with_reducible apply Ext.alloc) | (with_reducible apply Ext.drew) | (with_reducible apply Ext.drewN) | (with_reducible exact Ext.refl _))))⟩
          case measure => simp [intOf]; omega
        · have hkI : (k : Int) < (offA b s t).length := by omega
          have hkI1 : (k : Int) + 1 ≤ ((offA b s t).length : Int) := by omega
          have hkI2 : (0 : Int) ≤ (k : Int) + 1 := by omega
          obtain ⟨hi0, hi1⟩ := hix.out _ (getD_mem hlt)
          obtain ⟨j, hj⟩ : ∃ j : Nat, (offA b s t).getD k 0 = j := ⟨((offA b s t).getD k 0).toNat, by omega⟩
          rw [hj] at hd hi0 hi1
          replace hj := Lib.hid hj
          replace hd := Lib.hid hd
          have hN_e47 : k < (offA b s t).length := (by omega)
          have hI_e47 : (k : Int) < ((offA b s t).length : Int) := by omega
          obtain ⟨bl45, ol46, rfl, e470⟩ := i11.at k (by omega)
          obtain ⟨v48, hv48⟩ : ∃ v, (offA b s t).getD k 0 = v := ⟨_, rfl⟩
          rw [hv48] at e470
          replace hv48 := Lib.hid hv48
          have y_e47 : bl45 < wr.heap.size := World.block_lt_of_cell? _ _ e470
          have z_e47 := y_e47
          obtain rfl : v48 = (j : Int) := by rw [← hv48.out]; exact hj.out
          have hkc : (k : Int) + 1 ≤ cfv10 := by omega
          have hsl49 := (i11).drop0 (k + 1) (by omega) (by omega)
          subst hcp
          go_wp2_with fail
          refine wp_region_tail (S := fun w' => w'.cell? ⟨w1.heap.size, 0, none⟩ = some (.int .i64 b) ∧ w'.cell? ⟨w1.heap.size, 1, none⟩ = some (.slice p1 s.length r1) ∧ w'.cell? ⟨w1.heap.size, 2, none⟩ = some (.slice p2 t.length r2) ∧ w'.cell? ⟨bl45, ol46 + k, none⟩ = some (.int .i64 (j : Int))) (fun i => decide (24 ≤ i)) (by kernel_rfl) ⟨b20, b21, b22, e470⟩ (fun hHeld => ?_)
          refine wpTail_take (i := 0) (v := ?_) rfl (by kernel_rfl) (by kernel_rfl) (by kernel_rfl) rfl (by kernel_rfl) (fun _ _ _ h => h) (Or.inl ⟨by rfl, ?_⟩) (by assumption) ?_
          rotate_left
          · (intro w hSw; (try dsimp only at hSw); go_simp; try with_reducible rfl)
          try simp only [Act.put, List.setIfInBounds_toArray, List.set_cons_zero, List.set_cons_succ, List.getElem_toArray, List.getElem_cons_succ, List.getElem_cons_zero]
          refine wpTail_take (i := 1) (v := ?_) rfl (by kernel_rfl) (by kernel_rfl) (by kernel_rfl) rfl (by kernel_rfl) (fun _ _ _ h => h) (Or.inl ⟨by rfl, ?_⟩) (by assumption) ?_
          rotate_left
          · (intro w hSw; (try dsimp only at hSw); go_simp; try with_reducible rfl)
          try simp only [Act.put, List.setIfInBounds_toArray, List.set_cons_zero, List.set_cons_succ, List.getElem_toArray, List.getElem_cons_succ, List.getElem_cons_zero]
          have hw53 : IntKind.i64.wrap ((k : Int) + 1) = (k : Int) + 1 := IntWalk.i64_in _ (by omega)
          refine wpTail_take (i := 2) (v := ?_) rfl (by kernel_rfl) (by kernel_rfl) (by kernel_rfl) rfl (by kernel_rfl) (fun _ _ _ h => h) (Or.inl ⟨by rfl, ?_⟩) (by assumption) ?_
          rotate_left
          · (intro w hSw; (try dsimp only at hSw); go_simp; try with_reducible rfl)
          try simp only [Act.put, List.setIfInBounds_toArray, List.set_cons_zero, List.set_cons_succ, List.getElem_toArray, List.getElem_cons_succ, List.getElem_cons_zero]
          refine wpTail_take (i := 3) (v := ?_) rfl (by kernel_rfl) (by kernel_rfl) (by kernel_rfl) rfl (by kernel_rfl) (fun _ _ _ h => h) (Or.inl ⟨by rfl, ?_⟩) (by assumption) ?_
          rotate_left
          · (intro w hSw; (try dsimp only at hSw); go_simp; try with_reducible rfl)
          try simp only [Act.put, List.setIfInBounds_toArray, List.set_cons_zero, List.set_cons_succ, List.getElem_toArray, List.getElem_cons_succ, List.getElem_cons_zero]
          refine wpTail_take (i := 4) (v := ?_) rfl (by kernel_rfl) (by kernel_rfl) (by kernel_rfl) rfl (by kernel_rfl) (fun _ _ _ h => h) (Or.inl ⟨by rfl, ?_⟩) (by assumption) ?_
          rotate_left
          · (intro w hSw; (try dsimp only at hSw); go_simp; try with_reducible rfl)
          try simp only [Act.put, List.setIfInBounds_toArray, List.set_cons_zero, List.set_cons_succ, List.getElem_toArray, List.getElem_cons_succ, List.getElem_cons_zero]
          refine wpTail_take (i := 5) (v := ?_) rfl (by kernel_rfl) (by kernel_rfl) (by kernel_rfl) rfl (by kernel_rfl) (fun _ _ _ h => h) (Or.inl ⟨by rfl, ?_⟩) (by assumption) ?_
          rotate_left
          · (intro w hSw; (try dsimp only at hSw); go_simp; try with_reducible rfl)
          try simp only [Act.put, List.setIfInBounds_toArray, List.set_cons_zero, List.set_cons_succ, List.getElem_toArray, List.getElem_cons_succ, List.getElem_cons_zero]
          refine wpTail_take (i := 6) (v := ?_) rfl (by kernel_rfl) (by kernel_rfl) (by kernel_rfl) rfl (by kernel_rfl) (fun _ _ _ h => h) (Or.inl ⟨by rfl, ?_⟩) (by assumption) ?_
          rotate_left
          · (intro w hSw; (try dsimp only at hSw); go_simp; try with_reducible rfl)
          try simp only [Act.put, List.setIfInBounds_toArray, List.set_cons_zero, List.set_cons_succ, List.getElem_toArray, List.getElem_cons_succ, List.getElem_cons_zero]
          refine wpTail_take (i := 7) (v := ?_) rfl (by kernel_rfl) (by kernel_rfl) (by kernel_rfl) rfl (by kernel_rfl) (fun _ _ _ h => h) (Or.inl ⟨by rfl, ?_⟩) (by assumption) ?_
          rotate_left
          · (intro w hSw; (try dsimp only at hSw); go_simp; try with_reducible rfl)
          try simp only [Act.put, List.setIfInBounds_toArray, List.set_cons_zero, List.set_cons_succ, List.getElem_toArray, List.getElem_cons_succ, List.getElem_cons_zero]
          refine wpTail_one (i := 8) (by kernel_rfl) rfl rfl (fun K hK => ?_)
          try simp only [Act.put, List.setIfInBounds_toArray, List.set_cons_zero, List.set_cons_succ, List.getElem_toArray, List.getElem_cons_succ, List.getElem_cons_zero]
          go_simp
          refine (isIn_c ((offA b s t).drop (k + 1)) (j : Int) (.slice (some ⟨bl45, ol46, none⟩) ((offA b s t).length - (k + 1)) 0) _ _ (hsl49.ext (by repeat (first | (with_reducible assumption) | (with_reducible refine Ext.setCell ?_ (by first | (simp; done) | (simp; omega) | omega) _) | (with_reducible apply Ext.alloc) | (with_reducible apply Ext.drew) | (with_reducible apply Ext.drewN) | (with_reducible exact Ext.refl _))))).mono ?_
          rintro e w6 ⟨rfl, xw6⟩
          have Lw6 : Ext wr w6 := Ext.trans (by repeat (first | (with_reducible assumption) | (with_reducible refine Ext.setCell ?_ (by first | (simp; done) | (simp; omega) | omega) _) | (with_reducible apply Ext.alloc) | (with_reducible apply Ext.drew) | (with_reducible apply Ext.drewN) | (with_reducible exact Ext.refl _))) xw6
          have Xw6 : Ext w w6 := Xwr.trans Lw6
          replace b20 := Lw6.cell b20
          replace b21 := Lw6.cell b21
          replace b22 := Lw6.cell b22
          replace e470 := Lw6.cell e470
          have z_b2 : w1.heap.size < w6.heap.size := World.block_lt_of_cell? _ _ b20
          have z_e47 : bl45 < w6.heap.size := World.block_lt_of_cell? _ _ e470
          replace i0 := i0.ext Lw6
          replace i1 := i1.ext Lw6
          replace i2 := i2.ext Lw6
          replace i3 := i3.ext Lw6
          replace i4 := i4.ext Lw6
          replace i9 := i9.ext Lw6
          replace i11 := i11.ext Lw6
          replace hsl49 := hsl49.ext Lw6
          have s_w6 : w.heap.size ≤ w6.heap.size := Xw6.size
          have Bwr_w6 : Ext w5 w6 := Bwr.trans Lw6
          clear xw6
          rw [hd.out]
          refine hK.out _ _ ⟨b20, b21, b22, e470⟩ (fun hHeld => ?_)
          clear hK K
          try simp only [Act.put, List.setIfInBounds_toArray, List.set_cons_zero, List.set_cons_succ, List.getElem_toArray, List.getElem_cons_succ, List.getElem_cons_zero]
          refine wpTail_take (i := 9) (v := ?_) rfl (by kernel_rfl) (by kernel_rfl) (by kernel_rfl) rfl (by kernel_rfl) (fun _ _ _ h => h) (Or.inl ⟨by rfl, ?_⟩) (by assumption) ?_
          rotate_left
          · (intro w hSw; (try dsimp only at hSw); go_simp; try with_reducible rfl)
          try simp only [Act.put, List.setIfInBounds_toArray, List.set_cons_zero, List.set_cons_succ, List.getElem_toArray, List.getElem_cons_succ, List.getElem_cons_zero]
          refine wpTail_take (i := 10) (v := ?_) rfl (by kernel_rfl) (by kernel_rfl) (by kernel_rfl) rfl (by kernel_rfl) (fun _ _ _ h => h) (Or.inl ⟨by rfl, ?_⟩) (by assumption) ?_
          rotate_left
          · (intro w hSw; (try dsimp only at hSw); go_simp; try with_reducible rfl)
          try simp only [Act.put, List.setIfInBounds_toArray, List.set_cons_zero, List.set_cons_succ, List.getElem_toArray, List.getElem_cons_succ, List.getElem_cons_zero]
          refine wpTail_take (i := 11) (v := undef) rfl (by kernel_rfl) (by kernel_rfl) (by kernel_rfl) rfl (by kernel_rfl) (fun _ _ _ h => h) (Or.inr ⟨by rfl, rfl⟩) (by assumption) ?_
          try simp only [Act.put, List.setIfInBounds_toArray, List.set_cons_zero, List.set_cons_succ, List.getElem_toArray, List.getElem_cons_succ, List.getElem_cons_zero]
          refine wpTail_take (i := 12) (v := undef) rfl (by kernel_rfl) (by kernel_rfl) (by kernel_rfl) rfl (by kernel_rfl) (fun _ _ _ h => h) (Or.inr ⟨by rfl, rfl⟩) (by assumption) ?_
          try simp only [Act.put, List.setIfInBounds_toArray, List.set_cons_zero, List.set_cons_succ, List.getElem_toArray, List.getElem_cons_succ, List.getElem_cons_zero]
          refine wpTail_take (i := 13) (v := undef) rfl (by kernel_rfl) (by kernel_rfl) (by kernel_rfl) rfl (by kernel_rfl) (fun _ _ _ h => h) (Or.inr ⟨by rfl, rfl⟩) (by assumption) ?_
          try simp only [Act.put, List.setIfInBounds_toArray, List.set_cons_zero, List.set_cons_succ, List.getElem_toArray, List.getElem_cons_succ, List.getElem_cons_zero]
          refine wpTail_take (i := 14) (v := undef) rfl (by kernel_rfl) (by kernel_rfl) (by kernel_rfl) rfl (by kernel_rfl) (fun _ _ _ h => h) (Or.inr ⟨by rfl, rfl⟩) (by assumption) ?_
          try simp only [Act.put, List.setIfInBounds_toArray, List.set_cons_zero, List.set_cons_succ, List.getElem_toArray, List.getElem_cons_succ, List.getElem_cons_zero]
          refine wpTail_take (i := 15) (v := undef) rfl (by kernel_rfl) (by kernel_rfl) (by kernel_rfl) rfl (by kernel_rfl) (fun _ _ _ h => h) (Or.inr ⟨by rfl, rfl⟩) (by assumption) ?_
          try simp only [Act.put, List.setIfInBounds_toArray, List.set_cons_zero, List.set_cons_succ, List.getElem_toArray, List.getElem_cons_succ, List.getElem_cons_zero]
          refine wpTail_take (i := 16) (v := undef) rfl (by kernel_rfl) (by kernel_rfl) (by kernel_rfl) rfl (by kernel_rfl) (fun _ _ _ h => h) (Or.inr ⟨by rfl, rfl⟩) (by assumption) ?_
          try simp only [Act.put, List.setIfInBounds_toArray, List.set_cons_zero, List.set_cons_succ, List.getElem_toArray, List.getElem_cons_succ, List.getElem_cons_zero]
          refine wpTail_take (i := 17) (v := undef) rfl (by kernel_rfl) (by kernel_rfl) (by kernel_rfl) rfl (by kernel_rfl) (fun _ _ _ h => h) (Or.inr ⟨by rfl, rfl⟩) (by assumption) ?_
          try simp only [Act.put, List.setIfInBounds_toArray, List.set_cons_zero, List.set_cons_succ, List.getElem_toArray, List.getElem_cons_succ, List.getElem_cons_zero]
          refine wpTail_take (i := 18) (v := undef) rfl (by kernel_rfl) (by kernel_rfl) (by kernel_rfl) rfl (by kernel_rfl) (fun _ _ _ h => h) (Or.inr ⟨by rfl, rfl⟩) (by assumption) ?_
          try simp only [Act.put, List.setIfInBounds_toArray, List.set_cons_zero, List.set_cons_succ, List.getElem_toArray, List.getElem_cons_succ, List.getElem_cons_zero]
          refine wpTail_take (i := 19) (v := undef) rfl (by kernel_rfl) (by kernel_rfl) (by kernel_rfl) rfl (by kernel_rfl) (fun _ _ _ h => h) (Or.inr ⟨by rfl, rfl⟩) (by assumption) ?_
          try simp only [Act.put, List.setIfInBounds_toArray, List.set_cons_zero, List.set_cons_succ, List.getElem_toArray, List.getElem_cons_succ, List.getElem_cons_zero]
          refine wpTail_take (i := 20) (v := undef) rfl (by kernel_rfl) (by kernel_rfl) (by kernel_rfl) rfl (by kernel_rfl) (fun _ _ _ h => h) (Or.inr ⟨by rfl, rfl⟩) (by assumption) ?_
          try simp only [Act.put, List.setIfInBounds_toArray, List.set_cons_zero, List.set_cons_succ, List.getElem_toArray, List.getElem_cons_succ, List.getElem_cons_zero]
          refine wpTail_take (i := 21) (v := undef) rfl (by kernel_rfl) (by kernel_rfl) (by kernel_rfl) rfl (by kernel_rfl) (fun _ _ _ h => h) (Or.inr ⟨by rfl, rfl⟩) (by assumption) ?_
          try simp only [Act.put, List.setIfInBounds_toArray, List.set_cons_zero, List.set_cons_succ, List.getElem_toArray, List.getElem_cons_succ, List.getElem_cons_zero]
          refine wpTail_take (i := 22) (v := undef) rfl (by kernel_rfl) (by kernel_rfl) (by kernel_rfl) rfl (by kernel_rfl) (fun _ _ _ h => h) (Or.inr ⟨by rfl, rfl⟩) (by assumption) ?_
          try simp only [Act.put, List.setIfInBounds_toArray, List.set_cons_zero, List.set_cons_succ, List.getElem_toArray, List.getElem_cons_succ, List.getElem_cons_zero]
          refine wpTail_take (i := 23) (v := ?_) rfl (by kernel_rfl) (by kernel_rfl) (by kernel_rfl) rfl (by kernel_rfl) (fun _ _ _ h => h) (Or.inl ⟨by rfl, ?_⟩) (by assumption) ?_
          rotate_left
          · (intro w hSw; (try dsimp only at hSw); go_simp; try with_reducible rfl)
          try simp only [Act.put, List.setIfInBounds_toArray, List.set_cons_zero, List.set_cons_succ, List.getElem_toArray, List.getElem_cons_succ, List.getElem_cons_zero]
          refine wpTail_done (by kernel_rfl) ?_ _
          clear hHeld hw53
          go_wp2_with fail
          go_roundw
          case rel => exact ⟨k + 1, by omega, by go_num, (Bwr_w6.trans (by repeat (first | (with_reducible assumption) | (with_reducible refine Ext.setCell ?_ (by first | (simp; done) | (simp; omega) | omega) _) | (with_reducible apply Ext.alloc) | (with_reducible apply Ext.drew) | (with_reducible apply Ext.drewN) | (with_reducible exact Ext.refl _))))⟩
          case measure => simp [intOf]; omega
        · have hkI : (k : Int) < (offA b s t).length := by omega
          have hkI1 : (k : Int) + 1 ≤ ((offA b s t).length : Int) := by omega
          have hkI2 : (0 : Int) ≤ (k : Int) + 1 := by omega
          obtain ⟨hi0, hi1⟩ := hix.out _ (getD_mem hlt)
          obtain ⟨j, hj⟩ : ∃ j : Nat, (offA b s t).getD k 0 = j := ⟨((offA b s t).getD k 0).toNat, by omega⟩
          have hfx := hfin.out k hlt hd
          rw [hj, Int.toNat_natCast] at hfx
          replace hfx := Lib.hid hfx
          rw [hj] at hd hi0 hi1
          replace hj := Lib.hid hj
          replace hd := Lib.hid hd
          have hN_e59 : k < (offA b s t).length := (by omega)
          have hI_e59 : (k : Int) < ((offA b s t).length : Int) := by omega
          obtain ⟨bl57, ol58, rfl, e590⟩ := i11.at k (by omega)
          obtain ⟨v60, hv60⟩ : ∃ v, (offA b s t).getD k 0 = v := ⟨_, rfl⟩
          rw [hv60] at e590
          replace hv60 := Lib.hid hv60
          have y_e59 : bl57 < wr.heap.size := World.block_lt_of_cell? _ _ e590
          have z_e59 := y_e59
          obtain rfl : v60 = (j : Int) := by rw [← hv60.out]; exact hj.out
          have hkc : (k : Int) + 1 ≤ cfv10 := by have := (i11).capLe; omega
          have hsl61 := (i11).drop1 (k + 1) (by omega) hcp
          go_wp2_with fail
          have hN_e70 : j < (putA mem b s t vs).length := (by have := ha1.out; omega)
          have hI_e70 : (j : Int) < ((putA mem b s t vs).length : Int) := by omega
          obtain ⟨bl68, ol69, rfl, e700⟩ := i4.at j (by have := ha1.out; omega)
          obtain ⟨v71, hv71⟩ : ∃ v, (putA mem b s t vs).getD j 0 = v := ⟨_, rfl⟩
          rw [hv71] at e700
          replace hv71 := Lib.hid hv71
          have y_e70 : bl68 < wr.heap.size := World.block_lt_of_cell? _ _ e700
          have z_e70 := y_e70
          have hN_e74 : k < vs.length := (by have := ha2.out; omega)
          have hI_e74 : (k : Int) < (vs.length : Int) := by omega
          obtain ⟨bl72, ol73, rfl, e740⟩ := i3.at k (by have := ha2.out; omega)
          obtain ⟨v75, hv75⟩ : ∃ v, vs.getD k 0 = v := ⟨_, rfl⟩
          rw [hv75] at e740
          replace hv75 := Lib.hid hv75
          have y_e74 : bl72 < wr.heap.size := World.block_lt_of_cell? _ _ e740
          have z_e74 := y_e74
          refine wp_region_tail (S := fun w' => w'.cell? ⟨w1.heap.size, 0, none⟩ = some (.int .i64 b) ∧ w'.cell? ⟨w1.heap.size, 1, none⟩ = some (.slice p1 s.length r1) ∧ w'.cell? ⟨w1.heap.size, 2, none⟩ = some (.slice p2 t.length r2) ∧ w'.cell? ⟨bl57, ol58 + k, none⟩ = some (.int .i64 (j : Int)) ∧ w'.cell? ⟨bl68, ol69 + j, none⟩ = some (.int .i64 v71) ∧ w'.cell? ⟨bl72, ol73 + k, none⟩ = some (.int .i64 v75)) (fun i => decide (24 ≤ i)) (by kernel_rfl) ⟨b20, b21, b22, e590, e700, e740⟩ (fun hHeld => ?_)
          refine wpTail_take (i := 0) (v := ?_) rfl (by kernel_rfl) (by kernel_rfl) (by kernel_rfl) rfl (by kernel_rfl) (fun _ _ _ h => h) (Or.inl ⟨by rfl, ?_⟩) (by assumption) ?_
          rotate_left
          · (intro w hSw; (try dsimp only at hSw); go_simp; try with_reducible rfl)
          try simp only [Act.put, List.setIfInBounds_toArray, List.set_cons_zero, List.set_cons_succ, List.getElem_toArray, List.getElem_cons_succ, List.getElem_cons_zero]
          refine wpTail_take (i := 1) (v := ?_) rfl (by kernel_rfl) (by kernel_rfl) (by kernel_rfl) rfl (by kernel_rfl) (fun _ _ _ h => h) (Or.inl ⟨by rfl, ?_⟩) (by assumption) ?_
          rotate_left
          · (intro w hSw; (try dsimp only at hSw); go_simp; try with_reducible rfl)
          try simp only [Act.put, List.setIfInBounds_toArray, List.set_cons_zero, List.set_cons_succ, List.getElem_toArray, List.getElem_cons_succ, List.getElem_cons_zero]
          have hw76 : IntKind.i64.wrap ((k : Int) + 1) = (k : Int) + 1 := IntWalk.i64_in _ (by omega)
          refine wpTail_take (i := 2) (v := ?_) rfl (by kernel_rfl) (by kernel_rfl) (by kernel_rfl) rfl (by kernel_rfl) (fun _ _ _ h => h) (Or.inl ⟨by rfl, ?_⟩) (by assumption) ?_
          rotate_left
          · (intro w hSw; (try dsimp only at hSw); go_simp; try with_reducible rfl)
          try simp only [Act.put, List.setIfInBounds_toArray, List.set_cons_zero, List.set_cons_succ, List.getElem_toArray, List.getElem_cons_succ, List.getElem_cons_zero]
          refine wpTail_take (i := 3) (v := ?_) rfl (by kernel_rfl) (by kernel_rfl) (by kernel_rfl) rfl (by kernel_rfl) (fun _ _ _ h => h) (Or.inl ⟨by rfl, ?_⟩) (by assumption) ?_
          rotate_left
          · (intro w hSw; (try dsimp only at hSw); go_simp; try with_reducible rfl)
          try simp only [Act.put, List.setIfInBounds_toArray, List.set_cons_zero, List.set_cons_succ, List.getElem_toArray, List.getElem_cons_succ, List.getElem_cons_zero]
          refine wpTail_take (i := 4) (v := ?_) rfl (by kernel_rfl) (by kernel_rfl) (by kernel_rfl) rfl (by kernel_rfl) (fun _ _ _ h => h) (Or.inl ⟨by rfl, ?_⟩) (by assumption) ?_
          rotate_left
          · (intro w hSw; (try dsimp only at hSw); go_simp; try with_reducible rfl)
          try simp only [Act.put, List.setIfInBounds_toArray, List.set_cons_zero, List.set_cons_succ, List.getElem_toArray, List.getElem_cons_succ, List.getElem_cons_zero]
          refine wpTail_take (i := 5) (v := ?_) rfl (by kernel_rfl) (by kernel_rfl) (by kernel_rfl) rfl (by kernel_rfl) (fun _ _ _ h => h) (Or.inl ⟨by rfl, ?_⟩) (by assumption) ?_
          rotate_left
          · (intro w hSw; (try dsimp only at hSw); go_simp; try with_reducible rfl)
          try simp only [Act.put, List.setIfInBounds_toArray, List.set_cons_zero, List.set_cons_succ, List.getElem_toArray, List.getElem_cons_succ, List.getElem_cons_zero]
          refine wpTail_take (i := 6) (v := ?_) rfl (by kernel_rfl) (by kernel_rfl) (by kernel_rfl) rfl (by kernel_rfl) (fun _ _ _ h => h) (Or.inl ⟨by rfl, ?_⟩) (by assumption) ?_
          rotate_left
          · (intro w hSw; (try dsimp only at hSw); go_simp; try with_reducible rfl)
          try simp only [Act.put, List.setIfInBounds_toArray, List.set_cons_zero, List.set_cons_succ, List.getElem_toArray, List.getElem_cons_succ, List.getElem_cons_zero]
          refine wpTail_take (i := 7) (v := ?_) rfl (by kernel_rfl) (by kernel_rfl) (by kernel_rfl) rfl (by kernel_rfl) (fun _ _ _ h => h) (Or.inl ⟨by rfl, ?_⟩) (by assumption) ?_
          rotate_left
          · (intro w hSw; (try dsimp only at hSw); go_simp; try with_reducible rfl)
          try simp only [Act.put, List.setIfInBounds_toArray, List.set_cons_zero, List.set_cons_succ, List.getElem_toArray, List.getElem_cons_succ, List.getElem_cons_zero]
          refine wpTail_one (i := 8) (by kernel_rfl) rfl rfl (fun K hK => ?_)
          try simp only [Act.put, List.setIfInBounds_toArray, List.set_cons_zero, List.set_cons_succ, List.getElem_toArray, List.getElem_cons_succ, List.getElem_cons_zero]
          go_simp
          refine (isIn_c ((offA b s t).drop (k + 1)) (j : Int) (.slice (some ⟨bl57, ol58 + (k + 1), none⟩) ((offA b s t).length - (k + 1)) (cfv10 - (k + 1))) _ _ (hsl61.ext (by repeat (first | (with_reducible assumption) | (with_reducible refine Ext.setCell ?_ (by first | (simp; done) | (simp; omega) | omega) _) | (with_reducible apply Ext.alloc) | (with_reducible apply Ext.drew) | (with_reducible apply Ext.drewN) | (with_reducible exact Ext.refl _))))).mono ?_
          rintro e w6 ⟨rfl, xw6⟩
          have Lw6 : Ext wr w6 := Ext.trans (by repeat (first | (with_reducible assumption) | (with_reducible refine Ext.setCell ?_ (by first | (simp; done) | (simp; omega) | omega) _) | (with_reducible apply Ext.alloc) | (with_reducible apply Ext.drew) | (with_reducible apply Ext.drewN) | (with_reducible exact Ext.refl _))) xw6
          have Xw6 : Ext w w6 := Xwr.trans Lw6
          replace b20 := Lw6.cell b20
          replace b21 := Lw6.cell b21
          replace b22 := Lw6.cell b22
          replace e590 := Lw6.cell e590
          replace e700 := Lw6.cell e700
          replace e740 := Lw6.cell e740
          have z_b2 : w1.heap.size < w6.heap.size := World.block_lt_of_cell? _ _ b20
          have z_e59 : bl57 < w6.heap.size := World.block_lt_of_cell? _ _ e590
          have z_e70 : bl68 < w6.heap.size := World.block_lt_of_cell? _ _ e700
          have z_e74 : bl72 < w6.heap.size := World.block_lt_of_cell? _ _ e740
          replace i0 := i0.ext Lw6
          replace i1 := i1.ext Lw6
          replace i2 := i2.ext Lw6
          replace i3 := i3.ext Lw6
          replace i4 := i4.ext Lw6
          replace i9 := i9.ext Lw6
          replace i11 := i11.ext Lw6
          replace hsl61 := hsl61.ext Lw6
          have s_w6 : w.heap.size ≤ w6.heap.size := Xw6.size
          have Bwr_w6 : Ext w5 w6 := Bwr.trans Lw6
          clear xw6
          rw [hd.out]
          refine hK.out _ _ ⟨b20, b21, b22, e590, e700, e740⟩ (fun hHeld => ?_)
          clear hK K
          try simp only [Act.put, List.setIfInBounds_toArray, List.set_cons_zero, List.set_cons_succ, List.getElem_toArray, List.getElem_cons_succ, List.getElem_cons_zero]
          refine wpTail_take (i := 9) (v := ?_) rfl (by kernel_rfl) (by kernel_rfl) (by kernel_rfl) rfl (by kernel_rfl) (fun _ _ _ h => h) (Or.inl ⟨by rfl, ?_⟩) (by assumption) ?_
          rotate_left
          · (intro w hSw; (try dsimp only at hSw); go_simp; try with_reducible rfl)
          try simp only [Act.put, List.setIfInBounds_toArray, List.set_cons_zero, List.set_cons_succ, List.getElem_toArray, List.getElem_cons_succ, List.getElem_cons_zero]
          refine wpTail_take (i := 10) (v := ?_) rfl (by kernel_rfl) (by kernel_rfl) (by kernel_rfl) rfl (by kernel_rfl) (fun _ _ _ h => h) (Or.inl ⟨by rfl, ?_⟩) (by assumption) ?_
          rotate_left
          · (intro w hSw; (try dsimp only at hSw); go_simp; try with_reducible rfl)
          try simp only [Act.put, List.setIfInBounds_toArray, List.set_cons_zero, List.set_cons_succ, List.getElem_toArray, List.getElem_cons_succ, List.getElem_cons_zero]
          refine wpTail_take (i := 11) (v := ?_) rfl (by kernel_rfl) (by kernel_rfl) (by kernel_rfl) rfl (by kernel_rfl) (fun _ _ _ h => h) (Or.inl ⟨by rfl, ?_⟩) (by assumption) ?_
          rotate_left
          · (intro w hSw; (try dsimp only at hSw); go_simp; try with_reducible rfl)
          try simp only [Act.put, List.setIfInBounds_toArray, List.set_cons_zero, List.set_cons_succ, List.getElem_toArray, List.getElem_cons_succ, List.getElem_cons_zero]
          refine wpTail_take (i := 12) (v := ?_) rfl (by kernel_rfl) (by kernel_rfl) (by kernel_rfl) rfl (by kernel_rfl) (fun _ _ _ h => h) (Or.inl ⟨by rfl, ?_⟩) (by assumption) ?_
          rotate_left
          · (intro w hSw; (try dsimp only at hSw); go_simp; try with_reducible rfl)
          try simp only [Act.put, List.setIfInBounds_toArray, List.set_cons_zero, List.set_cons_succ, List.getElem_toArray, List.getElem_cons_succ, List.getElem_cons_zero]
          refine wpTail_take (i := 13) (v := ?_) rfl (by kernel_rfl) (by kernel_rfl) (by kernel_rfl) rfl (by kernel_rfl) (fun _ _ _ h => h) (Or.inl ⟨by rfl, ?_⟩) (by assumption) ?_
          rotate_left
          · (intro w hSw; (try dsimp only at hSw); go_simp; try with_reducible rfl)
          try simp only [Act.put, List.setIfInBounds_toArray, List.set_cons_zero, List.set_cons_succ, List.getElem_toArray, List.getElem_cons_succ, List.getElem_cons_zero]
          refine wpTail_take (i := 14) (v := ?_) rfl (by kernel_rfl) (by kernel_rfl) (by kernel_rfl) rfl (by kernel_rfl) (fun _ _ _ h => h) (Or.inl ⟨by rfl, ?_⟩) (by assumption) ?_
          rotate_left
          · (intro w hSw; (try dsimp only at hSw); go_simp; try with_reducible rfl)
          try simp only [Act.put, List.setIfInBounds_toArray, List.set_cons_zero, List.set_cons_succ, List.getElem_toArray, List.getElem_cons_succ, List.getElem_cons_zero]
          refine wpTail_take (i := 15) (v := ?_) rfl (by kernel_rfl) (by kernel_rfl) (by kernel_rfl) rfl (by kernel_rfl) (fun _ _ _ h => h) (Or.inl ⟨by rfl, ?_⟩) (by assumption) ?_
          rotate_left
          · (intro w hSw; (try dsimp only at hSw); go_simp; try with_reducible rfl)
          try simp only [Act.put, List.setIfInBounds_toArray, List.set_cons_zero, List.set_cons_succ, List.getElem_toArray, List.getElem_cons_succ, List.getElem_cons_zero]
          refine wpTail_take (i := 16) (v := ?_) rfl (by kernel_rfl) (by kernel_rfl) (by kernel_rfl) rfl (by kernel_rfl) (fun _ _ _ h => h) (Or.inl ⟨by rfl, ?_⟩) (by assumption) ?_
          rotate_left
          · (intro w hSw; (try dsimp only at hSw); go_simp; try with_reducible rfl)
          try simp only [Act.put, List.setIfInBounds_toArray, List.set_cons_zero, List.set_cons_succ, List.getElem_toArray, List.getElem_cons_succ, List.getElem_cons_zero]
          refine wpTail_take (i := 17) (v := ?_) rfl (by kernel_rfl) (by kernel_rfl) (by kernel_rfl) rfl (by kernel_rfl) (fun _ _ _ h => h) (Or.inl ⟨by rfl, ?_⟩) (by assumption) ?_
          rotate_left
          · (intro w hSw; (try dsimp only at hSw); go_simp; try with_reducible rfl)
          try simp only [Act.put, List.setIfInBounds_toArray, List.set_cons_zero, List.set_cons_succ, List.getElem_toArray, List.getElem_cons_succ, List.getElem_cons_zero]
          refine wpTail_take (i := 18) (v := ?_) rfl (by kernel_rfl) (by kernel_rfl) (by kernel_rfl) rfl (by kernel_rfl) (fun _ _ _ h => h) (Or.inl ⟨by rfl, ?_⟩) (by assumption) ?_
          rotate_left
          · (intro w hSw; (try dsimp only at hSw); go_simp; try with_reducible rfl)
          try simp only [Act.put, List.setIfInBounds_toArray, List.set_cons_zero, List.set_cons_succ, List.getElem_toArray, List.getElem_cons_succ, List.getElem_cons_zero]
          refine wpTail_take (i := 19) (v := ?_) rfl (by kernel_rfl) (by kernel_rfl) (by kernel_rfl) rfl (by kernel_rfl) (fun _ _ _ h => h) (Or.inl ⟨by rfl, ?_⟩) (by assumption) ?_
          rotate_left
          · (intro w hSw; (try dsimp only at hSw); go_simp; try with_reducible rfl)
          try simp only [Act.put, List.setIfInBounds_toArray, List.set_cons_zero, List.set_cons_succ, List.getElem_toArray, List.getElem_cons_succ, List.getElem_cons_zero]
          refine wpTail_take (i := 20) (v := ?_) rfl (by kernel_rfl) (by kernel_rfl) (by kernel_rfl) rfl (by kernel_rfl) (fun _ _ _ h => h) (Or.inl ⟨by rfl, ?_⟩) (by assumption) ?_
          rotate_left
          · (intro w hSw; (try dsimp only at hSw); go_simp; try with_reducible rfl)
          try simp only [Act.put, List.setIfInBounds_toArray, List.set_cons_zero, List.set_cons_succ, List.getElem_toArray, List.getElem_cons_succ, List.getElem_cons_zero]
          refine wpTail_take (i := 21) (v := ?_) rfl (by kernel_rfl) (by kernel_rfl) (by kernel_rfl) rfl (by kernel_rfl) (fun _ _ _ h => h) (Or.inl ⟨by rfl, ?_⟩) (by assumption) ?_
          rotate_left
          · (intro w hSw; (try dsimp only at hSw); go_simp; try with_reducible rfl)
          try simp only [Act.put, List.setIfInBounds_toArray, List.set_cons_zero, List.set_cons_succ, List.getElem_toArray, List.getElem_cons_succ, List.getElem_cons_zero]
          have hq89e : ((v71 : Int) == (v75 : Int)) = true := by have h7 : (v71 : Int) = (v75 : Int) := (by rw [← hv71.out, hfx.out, hv75.out]); simpa using h7
          have hq89n : ((v71 : Int) != (v75 : Int)) = false := by have h7 : (v71 : Int) = (v75 : Int) := (by rw [← hv71.out, hfx.out, hv75.out]); simpa using h7
          refine wpTail_take (i := 22) (v := ?_) rfl (by kernel_rfl) (by kernel_rfl) (by kernel_rfl) rfl (by kernel_rfl) (fun _ _ _ h => h) (Or.inl ⟨by rfl, ?_⟩) (by assumption) ?_
          rotate_left
          · (intro w hSw; (try dsimp only at hSw); go_simp; try with_reducible rfl)
          try simp only [Act.put, List.setIfInBounds_toArray, List.set_cons_zero, List.set_cons_succ, List.getElem_toArray, List.getElem_cons_succ, List.getElem_cons_zero]
          refine wpTail_take (i := 23) (v := ?_) rfl (by kernel_rfl) (by kernel_rfl) (by kernel_rfl) rfl (by kernel_rfl) (fun _ _ _ h => h) (Or.inl ⟨by rfl, ?_⟩) (by assumption) ?_
          rotate_left
          · (intro w hSw; (try dsimp only at hSw); go_simp; try with_reducible rfl)
          try simp only [Act.put, List.setIfInBounds_toArray, List.set_cons_zero, List.set_cons_succ, List.getElem_toArray, List.getElem_cons_succ, List.getElem_cons_zero]
          refine wpTail_done (by kernel_rfl) ?_ _
          clear hHeld hw76
          go_wp2_with fail
          go_roundw
          case rel => exact ⟨k + 1, by omega, by go_num, (Bwr_w6.trans (by repeat (first | (with_reducible assumption) | (with_reducible refine Ext.setCell ?_ (by first | (simp; done) | (simp; omega) | omega) _) | (with_reducible apply Ext.alloc) | (with_reducible apply Ext.drew) | (with_reducible apply Ext.drewN) | (with_reducible exact Ext.refl _))))⟩
          case measure => simp [intOf]; omega
        · have hkI : (k : Int) < (offA b s t).length := by omega
          have hkI1 : (k : Int) + 1 ≤ ((offA b s t).length : Int) := by omega
          have hkI2 : (0 : Int) ≤ (k : Int) + 1 := by omega
          obtain ⟨hi0, hi1⟩ := hix.out _ (getD_mem hlt)
          obtain ⟨j, hj⟩ : ∃ j : Nat, (offA b s t).getD k 0 = j := ⟨((offA b s t).getD k 0).toNat, by omega⟩
          rw [hj] at hd hi0 hi1
          replace hj := Lib.hid hj
          replace hd := Lib.hid hd
          have hN_e92 : k < (offA b s t).length := (by omega)
          have hI_e92 : (k : Int) < ((offA b s t).length : Int) := by omega
          obtain ⟨bl90, ol91, rfl, e920⟩ := i11.at k (by omega)
          obtain ⟨v93, hv93⟩ : ∃ v, (offA b s t).getD k 0 = v := ⟨_, rfl⟩
          rw [hv93] at e920
          replace hv93 := Lib.hid hv93
          have y_e92 : bl90 < wr.heap.size := World.block_lt_of_cell? _ _ e920
          have z_e92 := y_e92
          obtain rfl : v93 = (j : Int) := by rw [← hv93.out]; exact hj.out
          have hkc : (k : Int) + 1 ≤ cfv10 := by have := (i11).capLe; omega
          have hsl94 := (i11).drop1 (k + 1) (by omega) hcp
          go_wp2_with fail
          refine wp_region_tail (S := fun w' => w'.cell? ⟨w1.heap.size, 0, none⟩ = some (.int .i64 b) ∧ w'.cell? ⟨w1.heap.size, 1, none⟩ = some (.slice p1 s.length r1) ∧ w'.cell? ⟨w1.heap.size, 2, none⟩ = some (.slice p2 t.length r2) ∧ w'.cell? ⟨bl90, ol91 + k, none⟩ = some (.int .i64 (j : Int))) (fun i => decide (24 ≤ i)) (by kernel_rfl) ⟨b20, b21, b22, e920⟩ (fun hHeld => ?_)
          refine wpTail_take (i := 0) (v := ?_) rfl (by kernel_rfl) (by kernel_rfl) (by kernel_rfl) rfl (by kernel_rfl) (fun _ _ _ h => h) (Or.inl ⟨by rfl, ?_⟩) (by assumption) ?_
          rotate_left
          · (intro w hSw; (try dsimp only at hSw); go_simp; try with_reducible rfl)
          try simp only [Act.put, List.setIfInBounds_toArray, List.set_cons_zero, List.set_cons_succ, List.getElem_toArray, List.getElem_cons_succ, List.getElem_cons_zero]
          refine wpTail_take (i := 1) (v := ?_) rfl (by kernel_rfl) (by kernel_rfl) (by kernel_rfl) rfl (by kernel_rfl) (fun _ _ _ h => h) (Or.inl ⟨by rfl, ?_⟩) (by assumption) ?_
          rotate_left
          · (intro w hSw; (try dsimp only at hSw); go_simp; try with_reducible rfl)
          try simp only [Act.put, List.setIfInBounds_toArray, List.set_cons_zero, List.set_cons_succ, List.getElem_toArray, List.getElem_cons_succ, List.getElem_cons_zero]
          have hw98 : IntKind.i64.wrap ((k : Int) + 1) = (k : Int) + 1 := IntWalk.i64_in _ (by omega)
          refine wpTail_take (i := 2) (v := ?_) rfl (by kernel_rfl) (by kernel_rfl) (by kernel_rfl) rfl (by kernel_rfl) (fun _ _ _ h => h) (Or.inl ⟨by rfl, ?_⟩) (by assumption) ?_
          rotate_left
          · (intro w hSw; (try dsimp only at hSw); go_simp; try with_reducible rfl)
          try simp only [Act.put, List.setIfInBounds_toArray, List.set_cons_zero, List.set_cons_succ, List.getElem_toArray, List.getElem_cons_succ, List.getElem_cons_zero]
          refine wpTail_take (i := 3) (v := ?_) rfl (by kernel_rfl) (by kernel_rfl) (by kernel_rfl) rfl (by kernel_rfl) (fun _ _ _ h => h) (Or.inl ⟨by rfl, ?_⟩) (by assumption) ?_
          rotate_left
          · (intro w hSw; (try dsimp only at hSw); go_simp; try with_reducible rfl)
          try simp only [Act.put, List.setIfInBounds_toArray, List.set_cons_zero, List.set_cons_succ, List.getElem_toArray, List.getElem_cons_succ, List.getElem_cons_zero]
          refine wpTail_take (i := 4) (v := ?_) rfl (by kernel_rfl) (by kernel_rfl) (by kernel_rfl) rfl (by kernel_rfl) (fun _ _ _ h => h) (Or.inl ⟨by rfl, ?_⟩) (by assumption) ?_
          rotate_left
          · (intro w hSw; (try dsimp only at hSw); go_simp; try with_reducible rfl)
          try simp only [Act.put, List.setIfInBounds_toArray, List.set_cons_zero, List.set_cons_succ, List.getElem_toArray, List.getElem_cons_succ, List.getElem_cons_zero]
          refine wpTail_take (i := 5) (v := ?_) rfl (by kernel_rfl) (by kernel_rfl) (by kernel_rfl) rfl (by kernel_rfl) (fun _ _ _ h => h) (Or.inl ⟨by rfl, ?_⟩) (by assumption) ?_
          rotate_left
          · (intro w hSw; (try dsimp only at hSw); go_simp; try with_reducible rfl)
          try simp only [Act.put, List.setIfInBounds_toArray, List.set_cons_zero, List.set_cons_succ, List.getElem_toArray, List.getElem_cons_succ, List.getElem_cons_zero]
          refine wpTail_take (i := 6) (v := ?_) rfl (by kernel_rfl) (by kernel_rfl) (by kernel_rfl) rfl (by kernel_rfl) (fun _ _ _ h => h) (Or.inl ⟨by rfl, ?_⟩) (by assumption) ?_
          rotate_left
          · (intro w hSw; (try dsimp only at hSw); go_simp; try with_reducible rfl)
          try simp only [Act.put, List.setIfInBounds_toArray, List.set_cons_zero, List.set_cons_succ, List.getElem_toArray, List.getElem_cons_succ, List.getElem_cons_zero]
          refine wpTail_take (i := 7) (v := ?_) rfl (by kernel_rfl) (by kernel_rfl) (by kernel_rfl) rfl (by kernel_rfl) (fun _ _ _ h => h) (Or.inl ⟨by rfl, ?_⟩) (by assumption) ?_
          rotate_left
          · (intro w hSw; (try dsimp only at hSw); go_simp; try with_reducible rfl)
          try simp only [Act.put, List.setIfInBounds_toArray, List.set_cons_zero, List.set_cons_succ, List.getElem_toArray, List.getElem_cons_succ, List.getElem_cons_zero]
          refine wpTail_one (i := 8) (by kernel_rfl) rfl rfl (fun K hK => ?_)
          try simp only [Act.put, List.setIfInBounds_toArray, List.set_cons_zero, List.set_cons_succ, List.getElem_toArray, List.getElem_cons_succ, List.getElem_cons_zero]
          go_simp
          refine (isIn_c ((offA b s t).drop (k + 1)) (j : Int) (.slice (some ⟨bl90, ol91 + (k + 1), none⟩) ((offA b s t).length - (k + 1)) (cfv10 - (k + 1))) _ _ (hsl94.ext (by repeat (first | (with_reducible assumption) | (with_reducible refine Ext.setCell ?_ (by first | (simp; done) | (simp; omega) | omega) _) | (with_reducible apply Ext.alloc) | (with_reducible apply Ext.drew) | (with_reducible apply Ext.drewN) | (with_reducible exact Ext.refl _))))).mono ?_
          rintro e w6 ⟨rfl, xw6⟩
          have Lw6 : Ext wr w6 := Ext.trans (by repeat (first | (with_reducible assumption) | (with_reducible refine Ext.setCell ?_ (by first | (simp; done) | (simp; omega) | omega) _) | (with_reducible apply Ext.alloc) | (with_reducible apply Ext.drew) | (with_reducible apply Ext.drewN) | (with_reducible exact Ext.refl _))) xw6
          have Xw6 : Ext w w6 := Xwr.trans Lw6
          replace b20 := Lw6.cell b20
          replace b21 := Lw6.cell b21
          replace b22 := Lw6.cell b22
          replace e920 := Lw6.cell e920
          have z_b2 : w1.heap.size < w6.heap.size := World.block_lt_of_cell? _ _ b20
          have z_e92 : bl90 < w6.heap.size := World.block_lt_of_cell? _ _ e920
          replace i0 := i0.ext Lw6
          replace i1 := i1.ext Lw6
          replace i2 := i2.ext Lw6
          replace i3 := i3.ext Lw6
          replace i4 := i4.ext Lw6
          replace i9 := i9.ext Lw6
          replace i11 := i11.ext Lw6
          replace hsl94 := hsl94.ext Lw6
          have s_w6 : w.heap.size ≤ w6.heap.size := Xw6.size
          have Bwr_w6 : Ext w5 w6 := Bwr.trans Lw6
          clear xw6
          rw [hd.out]
          refine hK.out _ _ ⟨b20, b21, b22, e920⟩ (fun hHeld => ?_)
          clear hK K
          try simp only [Act.put, List.setIfInBounds_toArray, List.set_cons_zero, List.set_cons_succ, List.getElem_toArray, List.getElem_cons_succ, List.getElem_cons_zero]
          refine wpTail_take (i := 9) (v := ?_) rfl (by kernel_rfl) (by kernel_rfl) (by kernel_rfl) rfl (by kernel_rfl) (fun _ _ _ h => h) (Or.inl ⟨by rfl, ?_⟩) (by assumption) ?_
          rotate_left
          · (intro w hSw; (try dsimp only at hSw); go_simp; try with_reducible rfl)
          try simp only [Act.put, List.setIfInBounds_toArray, List.set_cons_zero, List.set_cons_succ, List.getElem_toArray, List.getElem_cons_succ, List.getElem_cons_zero]
          refine wpTail_take (i := 10) (v := ?_) rfl (by kernel_rfl) (by kernel_rfl) (by kernel_rfl) rfl (by kernel_rfl) (fun _ _ _ h => h) (Or.inl ⟨by rfl, ?_⟩) (by assumption) ?_
          rotate_left
          · (intro w hSw; (try dsimp only at hSw); go_simp; try with_reducible rfl)
          try simp only [Act.put, List.setIfInBounds_toArray, List.set_cons_zero, List.set_cons_succ, List.getElem_toArray, List.getElem_cons_succ, List.getElem_cons_zero]
          refine wpTail_take (i := 11) (v := undef) rfl (by kernel_rfl) (by kernel_rfl) (by kernel_rfl) rfl (by kernel_rfl) (fun _ _ _ h => h) (Or.inr ⟨by rfl, rfl⟩) (by assumption) ?_
          try simp only [Act.put, List.setIfInBounds_toArray, List.set_cons_zero, List.set_cons_succ, List.getElem_toArray, List.getElem_cons_succ, List.getElem_cons_zero]
          refine wpTail_take (i := 12) (v := undef) rfl (by kernel_rfl) (by kernel_rfl) (by kernel_rfl) rfl (by kernel_rfl) (fun _ _ _ h => h) (Or.inr ⟨by rfl, rfl⟩) (by assumption) ?_
          try simp only [Act.put, List.setIfInBounds_toArray, List.set_cons_zero, List.set_cons_succ, List.getElem_toArray, List.getElem_cons_succ, List.getElem_cons_zero]
          refine wpTail_take (i := 13) (v := undef) rfl (by kernel_rfl) (by kernel_rfl) (by kernel_rfl) rfl (by kernel_rfl) (fun _ _ _ h => h) (Or.inr ⟨by rfl, rfl⟩) (by assumption) ?_
          try simp only [Act.put, List.setIfInBounds_toArray, List.set_cons_zero, List.set_cons_succ, List.getElem_toArray, List.getElem_cons_succ, List.getElem_cons_zero]
          refine wpTail_take (i := 14) (v := undef) rfl (by kernel_rfl) (by kernel_rfl) (by kernel_rfl) rfl (by kernel_rfl) (fun _ _ _ h => h) (Or.inr ⟨by rfl, rfl⟩) (by assumption) ?_
          try simp only [Act.put, List.setIfInBounds_toArray, List.set_cons_zero, List.set_cons_succ, List.getElem_toArray, List.getElem_cons_succ, List.getElem_cons_zero]
          refine wpTail_take (i := 15) (v := undef) rfl (by kernel_rfl) (by kernel_rfl) (by kernel_rfl) rfl (by kernel_rfl) (fun _ _ _ h => h) (Or.inr ⟨by rfl, rfl⟩) (by assumption) ?_
          try simp only [Act.put, List.setIfInBounds_toArray, List.set_cons_zero, List.set_cons_succ, List.getElem_toArray, List.getElem_cons_succ, List.getElem_cons_zero]
          refine wpTail_take (i := 16) (v := undef) rfl (by kernel_rfl) (by kernel_rfl) (by kernel_rfl) rfl (by kernel_rfl) (fun _ _ _ h => h) (Or.inr ⟨by rfl, rfl⟩) (by assumption) ?_
          try simp only [Act.put, List.setIfInBounds_toArray, List.set_cons_zero, List.set_cons_succ, List.getElem_toArray, List.getElem_cons_succ, List.getElem_cons_zero]
          refine wpTail_take (i := 17) (v := undef) rfl (by kernel_rfl) (by kernel_rfl) (by kernel_rfl) rfl (by kernel_rfl) (fun _ _ _ h => h) (Or.inr ⟨by rfl, rfl⟩) (by assumption) ?_
          try simp only [Act.put, List.setIfInBounds_toArray, List.set_cons_zero, List.set_cons_succ, List.getElem_toArray, List.getElem_cons_succ, List.getElem_cons_zero]
          refine wpTail_take (i := 18) (v := undef) rfl (by kernel_rfl) (by kernel_rfl) (by kernel_rfl) rfl (by kernel_rfl) (fun _ _ _ h => h) (Or.inr ⟨by rfl, rfl⟩) (by assumption) ?_
          try simp only [Act.put, List.setIfInBounds_toArray, List.set_cons_zero, List.set_cons_succ, List.getElem_toArray, List.getElem_cons_succ, List.getElem_cons_zero]
          refine wpTail_take (i := 19) (v := undef) rfl (by kernel_rfl) (by kernel_rfl) (by kernel_rfl) rfl (by kernel_rfl) (fun _ _ _ h => h) (Or.inr ⟨by rfl, rfl⟩) (by assumption) ?_
          try simp only [Act.put, List.setIfInBounds_toArray, List.set_cons_zero, List.set_cons_succ, List.getElem_toArray, List.getElem_cons_succ, List.getElem_cons_zero]
          refine wpTail_take (i := 20) (v := undef) rfl (by kernel_rfl) (by kernel_rfl) (by kernel_rfl) rfl (by kernel_rfl) (fun _ _ _ h => h) (Or.inr ⟨by rfl, rfl⟩) (by assumption) ?_
          try simp only [Act.put, List.setIfInBounds_toArray, List.set_cons_zero, List.set_cons_succ, List.getElem_toArray, List.getElem_cons_succ, List.getElem_cons_zero]
          refine wpTail_take (i := 21) (v := undef) rfl (by kernel_rfl) (by kernel_rfl) (by kernel_rfl) rfl (by kernel_rfl) (fun _ _ _ h => h) (Or.inr ⟨by rfl, rfl⟩) (by assumption) ?_
          try simp only [Act.put, List.setIfInBounds_toArray, List.set_cons_zero, List.set_cons_succ, List.getElem_toArray, List.getElem_cons_succ, List.getElem_cons_zero]
          refine wpTail_take (i := 22) (v := undef) rfl (by kernel_rfl) (by kernel_rfl) (by kernel_rfl) rfl (by kernel_rfl) (fun _ _ _ h => h) (Or.inr ⟨by rfl, rfl⟩) (by assumption) ?_
          try simp only [Act.put, List.setIfInBounds_toArray, List.set_cons_zero, List.set_cons_succ, List.getElem_toArray, List.getElem_cons_succ, List.getElem_cons_zero]
          refine wpTail_take (i := 23) (v := ?_) rfl (by kernel_rfl) (by kernel_rfl) (by kernel_rfl) rfl (by kernel_rfl) (fun _ _ _ h => h) (Or.inl ⟨by rfl, ?_⟩) (by assumption) ?_
          rotate_left
          · (intro w hSw; (try dsimp only at hSw); go_simp; try with_reducible rfl)
          try simp only [Act.put, List.setIfInBounds_toArray, List.set_cons_zero, List.set_cons_succ, List.getElem_toArray, List.getElem_cons_succ, List.getElem_cons_zero]
          refine wpTail_done (by kernel_rfl) ?_ _
          clear hHeld hw98
          go_wp2_with fail
          go_roundw
          case rel => exact ⟨k + 1, by omega, by go_num, (Bwr_w6.trans (by repeat (first | (with_reducible assumption) | (with_reducible refine Ext.setCell ?_ (by first | (simp; done) | (simp; omega) | omega) _) | (with_reducible apply Ext.alloc) | (with_reducible apply Ext.drew) | (with_reducible apply Ext.drewN) | (with_reducible exact Ext.refl _))))⟩
          case measure => simp [intOf]; omega
        · have hkI : ¬ (k : Int) < (offA b s t).length := by omega
          go_wp2_with fail
          go_ret
          exact ⟨rfl, (Xwr.trans (by repeat (first | (with_reducible assumption) | (with_reducible refine Ext.setCell ?_ (by first | (simp; done) | (simp; omega) | omega) _) | (with_reducible apply Ext.alloc) | (with_reducible apply Ext.drew) | (with_reducible apply Ext.drewN) | (with_reducible exact Ext.refl _))))⟩


end Go.Proofs.Ytnjaidgifccgjaa

/- The law FnStoreViewLast holds for all bytes: the call returns true, and its argument reads as it did. No condition. -/
namespace Go.Proofs.Ytnjaidgifccgjaa.rowFnStoreViewLast
open Go.ChangeShapes Go.WideShapes Go.ChangeAt Go.RowKit
set_option linter.unusedVariables false

set_option maxHeartbeats 1000000 in
set_option maxRecDepth 100000 in
theorem lifted (os : Os) (started : os.Started) (H : Type) (enc : TypeId × Value → H) :
    ReturnsInHanded {} Try.checked os 9 .any (Rows.fnStoreViewLastSpec.pre6 enc Try.prog Try.f9 Rows.fnStoreViewLastRow.domain false) (Rows.fnStoreViewLastSpec.post enc Try.prog Try.f9 false true false false) := by
  refine returnsInHanded_of_change (C := Try.checked) own started (by kernel_rfl) Try.func9
    (ChangeSpec.witness6 (enc := enc) (C := Try.checked) false ⟨#[], #[.slice none 0 0], []⟩ 8 (by kernel_rfl) (by kernel_rfl) (by kernel_rfl) (by kernel_rfl)) ?_
  intro W base args ds gs before hval0 hW hcnd _
  have hval : ∀ (j : Nat) t v, Try.f9.params[j]? = some t → args[j]? = some v → Value.okWide Try.prog W .any base t v := hval0
  have hW' := hW
  obtain ⟨p, q, hA0, hV, rfl, hfz, hnd⟩ := hW
  have hA : DataW.TrodAll enc Try.prog W 0 (fun _ => true) true Try.f9.params.toList args.toList ds p := hA0
  rw [Try.params9] at hA hval
  obtain ⟨v0, vs0, d0, ds0, p0, q0, hargs0, rfl, rfl, h0, r0⟩ := trodAll_cons hA
  obtain ⟨rfl, rfl, rfl⟩ := trodAll_nil r0
  obtain rfl : args = #[v0] := by cases args; simp_all
  obtain ⟨rfl, rfl⟩ := trodVars_none hV
  obtain ⟨a0, len0, cap0, rfl⟩ := okWide_slice Try.underlying22 (hval 0 22 v0 rfl rfl)
  have k0 := h0
  have lt0 : ∀ x ∈ p0, x.block < W.heap.size := by obtain ⟨m, hm⟩ := k0; exact DataW.trod_lt m _ _ _ hm
  have w0 : BysIn W a0 len0 cap0 := by
    obtain ⟨fuel, hf⟩ := h0
    rcases open_ints Try.underlying22 Try.underlying5 (by kernel_rfl) hf with ⟨hcs, _⟩ | ⟨x, l, c, zs, hcs, _, hl, hm, hz, _, hcell, hwz⟩
    · simp [Value.cells] at hcs
      obtain ⟨rfl, rfl, rfl⟩ := hcs
      exact ⟨Nat.le_refl _, by simp, fun i hi => absurd hi (by simp)⟩
    · simp [Value.cells] at hcs
      obtain ⟨rfl, rfl, rfl⟩ := hcs
      have hzl : zs.length = cap0 := by simpa using hz
      exact bys_of_cells hl hm hzl hcell hwz
  clear hA0 hval0
  refine (lawFnStoreViewLast_c a0 len0 cap0 W w0).mono fun e W' ⟨he, bel⟩ => ?_
  subst he
  exact ⟨_, rfl, _, _, _, [], _, [], hW', trodAll_mk1 (shut_bool Try.underlying4 _), (trodAll_cons_mk (Below.trod laidOut (by kernel_rfl) (of_decide_eq_true (by kernel_rfl)) k0 bel lt0) trodAll_mk0), rfl, Below.frame bel _, fun h => by cases h⟩

set_option maxHeartbeats 2000000 in
theorem closed : joinedFacts Try.checked.prog 9 Try.f9 Rows.fnStoreViewLastSpec Rows.fnStoreViewLastRow = true :=
  facts.all (by kernel_rfl) (by kernel_rfl) (by kernel_rfl) (by kernel_rfl) (by kernel_rfl) (by as_aux_lemma => kernel_rfl) (by as_aux_lemma => kernel_rfl) (by as_aux_lemma => kernel_rfl) (by as_aux_lemma => kernel_rfl)
    (by as_aux_lemma => kernel_rfl) (by as_aux_lemma => kernel_rfl) rfl rfl rfl rfl (by kernel_rfl) (by kernel_rfl) (by as_aux_lemma => kernel_rfl) (by as_aux_lemma => kernel_rfl)

theorem named : Try.pinned.checked.prog.funcNamed Rows.fnStoreViewLastRow.func = some 9 := by kernel_rfl

theorem over : Rows.fnStoreViewLastRow.holds Try.pinned (OpenSpec.ofChange Rows.fnStoreViewLastSpec) :=
  OpenClaim.holds_of_wide 9 Try.f9 rfl rfl rfl rfl rfl rfl rfl ⟨rfl, rfl, rfl, rfl, rfl⟩ rfl rfl rfl rfl rfl named Try.func9 closed
    (of_decide_eq_true (by kernel_rfl)) (by unfold Func.isWrapper; exact ⟨rfl, rfl⟩)
    (fun os started H enc _ => lifted os started H enc)

theorem proved : Rows.FnStoreViewLastSaid := over

end Go.Proofs.Ytnjaidgifccgjaa.rowFnStoreViewLast
