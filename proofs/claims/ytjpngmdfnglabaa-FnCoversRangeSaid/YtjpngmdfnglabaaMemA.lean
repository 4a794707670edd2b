/- Walks: values that are loaded from and stored in memories, of the program and of the reference. -/
import Derived.Test.YtjpngmdfnglabaaExI
namespace Go.Proofs.Ytjpngmdfnglabaa
open Go.RowKit
set_option linter.unusedVariables false
set_option maxRecDepth 100000

/-- the numbers of a list at indices -/
def takL (xs ix : List Int) : List Int := ix.map fun i => xs.getD i.toNat 0
theorem takL_take (xs ix : List Int) (k : Nat) (h : k < ix.length) : takL xs (ix.take (k+1)) = takL xs (ix.take k) ++ [xs.getD (ix[k]).toNat 0] := by
  unfold takL; rw [List.take_succ_eq_append_getElem h, List.map_append]; rfl
theorem takL_len (xs ix : List Int) : (takL xs ix).length = ix.length := by simp [takL]
/-- a list after the first k stores -/
def putUp (mem ix vs : List Int) (k : Nat) : List Int := (List.range k).foldl (fun m i => m.set (ix.getD i 0).toNat (vs.getD i 0)) mem
theorem putUp_succ (mem ix vs : List Int) (k : Nat) : putUp mem ix vs (k+1) = (putUp mem ix vs k).set (ix.getD k 0).toNat (vs.getD k 0) := by
  unfold putUp; rw [List.range_succ, List.foldl_append]; rfl
theorem putUp_len (mem ix vs : List Int) (k : Nat) : (putUp mem ix vs k).length = mem.length := by
  induction k with
  | zero => rfl
  | succ k ih => rw [putUp_succ, List.length_set, ih]
def putL (mem ix vs : List Int) : List Int := putUp mem ix vs ix.length
def loadL (mem : List Int) (b : Int) (s t : List Int) : List Int := takL mem (offsL b s t)
def holdB (mem : List Int) (b : Int) (s t : List Int) : Bool := memB mem && (viewB b s t && fitB b s t mem.length)
theorem hold_in {mem : List Int} {b : Int} {s t : List Int} (h : holdB mem b s t = true) : memB mem = true ∧ viewB b s t = true ∧ ∀ x ∈ offsL b s t, 0 ≤ x ∧ x < mem.length := by
  unfold holdB at h
  simp only [Bool.and_eq_true] at h
  refine ⟨h.1, h.2.1, fun x hx => ⟨((viewB_in h.2.1).2.2.2.2 x hx).1, ?_⟩⟩
  have := List.all_eq_true.1 h.2.2 x hx
  simpa using this
theorem mem_len {mem : List Int} (h : memB mem = true) : mem.length ≤ 60 := by
  unfold memB at h; simp only [Bool.and_eq_true, decide_eq_true_eq] at h; exact h.1
theorem OwnI.row {w : World} {base : Nat} {v : Value} {xs : List Int} (h : OwnI w base v xs) (hn : xs ≠ []) : ∃ g cap, v = .slice (some ⟨g, 0, none⟩) xs.length cap ∧ base ≤ g ∧ g < w.heap.size := by
  rcases h.2 with ⟨rfl, h0⟩ | ⟨g, cap, cur, rfl, hb, hg, _⟩
  · exact absurd (List.eq_nil_of_length_eq_zero h0) hn
  · exact ⟨g, cap, rfl, hb, (Array.getElem?_eq_some_iff.1 hg).1⟩

set_option maxHeartbeats 1600000 in
theorem canHold_c (mem : List Int) (a0 : Value) (b1 : Int) (u1 v1 : Value) (s1 t1 : List Int) (w : World) (l0 l1 m1 : Nat) (h0 : Ints w l0 a0 mem) (h1 : Ints w l1 u1 s1) (k1 : Ints w m1 v1 t1) :
    Calls Try.prog 115 #[a0, .agg #[.int .i64 b1, u1, v1]] w (fun e w' => e = .returned (.bool (holdB mem b1 s1 t1)) ∧ Ext w w') := by
  obtain ⟨a0, c0, rfl⟩ := h0.form
  cases hm : memB mem
  · have hr := Lib.hid (show holdB mem b1 s1 t1 = false by unfold holdB; rw [hm]; rfl)
    go_enter Try.func115, Try.ntmps115
    go_wp2_with fail
    refine (isMemory_c mem _ _ _ (h0.ext (by repeat (first | exact Ext.refl _ | assumption | apply Ext.drewN | apply Ext.drew | apply Ext.alloc)))).mono ?_
    rintro e w' ⟨rfl, rfl⟩
    rw [hm]
    go_wp2_with fail
    go_ret
    exact ⟨by rw [hr.out] <;> rfl, (by repeat (first | exact Ext.refl _ | assumption | apply Ext.drewN | apply Ext.drew | apply Ext.alloc))⟩
  · cases ha : viewB b1 s1 t1
    · have hr := Lib.hid (show holdB mem b1 s1 t1 = false by unfold holdB; rw [hm, ha]; rfl)
      have hm' := Lib.hid hm
      clear hm
      go_enter Try.func115, Try.ntmps115
      go_wp2_with fail
      refine (isMemory_c mem _ _ _ (h0.ext (by repeat (first | exact Ext.refl _ | assumption | apply Ext.drewN | apply Ext.drew | apply Ext.alloc)))).mono ?_
      rintro e w' ⟨rfl, rfl⟩
      rw [hm'.out]
      go_wp2_with fail
      refine (isView_c b1 _ _ s1 t1 _ l1 m1 (h1.ext (by repeat (first | exact Ext.refl _ | assumption | apply Ext.drewN | apply Ext.drew | apply Ext.alloc))) (k1.ext (by repeat (first | exact Ext.refl _ | assumption | apply Ext.drewN | apply Ext.drew | apply Ext.alloc)))).mono ?_
      rintro e w1 ⟨rfl, xw1⟩
      have Lw1 : Ext w w1 := Ext.trans (by repeat (first | exact Ext.refl _ | assumption | apply Ext.drewN | apply Ext.drew | apply Ext.alloc)) xw1
      have Xw1 : Ext w w1 := Lw1
      have c10 : w1.cell? ⟨w.heap.size, 0, none⟩ = some (.int .i64 b1) := xw1.cell (by first | (simp; done) | ((repeat rw [World.cell?_alloc_lt _ _ _ (by simp <;> omega)]); simp; done) | (go_simp; done))
      have c11 : w1.cell? ⟨w.heap.size, 1, none⟩ = some (u1) := xw1.cell (by first | (simp; done) | ((repeat rw [World.cell?_alloc_lt _ _ _ (by simp <;> omega)]); simp; done) | (go_simp; done))
      have c12 : w1.cell? ⟨w.heap.size, 2, none⟩ = some (v1) := xw1.cell (by first | (simp; done) | ((repeat rw [World.cell?_alloc_lt _ _ _ (by simp <;> omega)]); simp; done) | (go_simp; done))
      have z1 : w.heap.size < w1.heap.size := World.block_lt_of_cell? _ _ c10
      have sw1 : w.heap.size ≤ w1.heap.size := Lw1.size
      rw [ha]
      go_wp2_with fail
      go_ret
      exact ⟨by rw [hr.out] <;> rfl, Xw1⟩
    · have hr := Lib.hid (show holdB mem b1 s1 t1 = fitB b1 s1 t1 mem.length by unfold holdB; rw [hm, ha]; rfl)
      have hml := mem_len hm
      have hm' := Lib.hid hm
      have ha' := Lib.hid ha
      clear hm ha
      go_enter Try.func115, Try.ntmps115
      go_wp2_with fail
      refine (isMemory_c mem _ _ _ (h0.ext (by repeat (first | exact Ext.refl _ | assumption | apply Ext.drewN | apply Ext.drew | apply Ext.alloc)))).mono ?_
      rintro e w' ⟨rfl, rfl⟩
      rw [hm'.out]
      go_wp2_with fail
      refine (isView_c b1 _ _ s1 t1 _ l1 m1 (h1.ext (by repeat (first | exact Ext.refl _ | assumption | apply Ext.drewN | apply Ext.drew | apply Ext.alloc))) (k1.ext (by repeat (first | exact Ext.refl _ | assumption | apply Ext.drewN | apply Ext.drew | apply Ext.alloc)))).mono ?_
      rintro e w1 ⟨rfl, xw1⟩
      have Lw1 : Ext w w1 := Ext.trans (by repeat (first | exact Ext.refl _ | assumption | apply Ext.drewN | apply Ext.drew | apply Ext.alloc)) xw1
      have Xw1 : Ext w w1 := Lw1
      have c10 : w1.cell? ⟨w.heap.size, 0, none⟩ = some (.int .i64 b1) := xw1.cell (by first | (simp; done) | ((repeat rw [World.cell?_alloc_lt _ _ _ (by simp <;> omega)]); simp; done) | (go_simp; done))
      have c11 : w1.cell? ⟨w.heap.size, 1, none⟩ = some (u1) := xw1.cell (by first | (simp; done) | ((repeat rw [World.cell?_alloc_lt _ _ _ (by simp <;> omega)]); simp; done) | (go_simp; done))
      have c12 : w1.cell? ⟨w.heap.size, 2, none⟩ = some (v1) := xw1.cell (by first | (simp; done) | ((repeat rw [World.cell?_alloc_lt _ _ _ (by simp <;> omega)]); simp; done) | (go_simp; done))
      have z1 : w.heap.size < w1.heap.size := World.block_lt_of_cell? _ _ c10
      have sw1 : w.heap.size ≤ w1.heap.size := Lw1.size
      rw [ha'.out]
      go_wp2_with fail
      refine (fitsIn_c b1 _ _ s1 t1 (mem.length : Int) _ l1 m1 (h1.ext (Xw1.trans (by repeat (first | exact Ext.refl _ | assumption | apply Ext.drewN | apply Ext.drew | apply Ext.alloc)))) (k1.ext (Xw1.trans (by repeat (first | exact Ext.refl _ | assumption | apply Ext.drewN | apply Ext.drew | apply Ext.alloc)))) ha'.out).mono ?_
      rintro e w2 ⟨rfl, xw2⟩
      have Lw2 : Ext w1 w2 := Ext.trans (by repeat (first | exact Ext.refl _ | assumption | apply Ext.drewN | apply Ext.drew | apply Ext.alloc)) xw2
      have Xw2 : Ext w w2 := Xw1.trans Lw2
      replace c10 := Lw2.cell c10
      replace c11 := Lw2.cell c11
      replace c12 := Lw2.cell c12
      have z2 : w.heap.size < w2.heap.size := World.block_lt_of_cell? _ _ c10
      have sw2 : w1.heap.size ≤ w2.heap.size := Lw2.size
      go_wp2_with fail
      go_ret
      exact ⟨by rw [hr.out] <;> rfl, Xw2⟩

set_option maxHeartbeats 1600000 in
theorem sees_c (mem : List Int) (a0 : Value) (b1 : Int) (u1 v1 : Value) (s1 t1 : List Int) (w : World) (l0 l1 m1 : Nat) (h0 : Ints w l0 a0 mem) (h1 : Ints w l1 u1 s1) (k1 : Ints w m1 v1 t1) :
    Calls Try.prog 78 #[a0, .agg #[.int .i64 b1, u1, v1]] w (fun e w' => e = .returned (.bool (holdB mem b1 s1 t1)) ∧ Ext w w') := by
  obtain ⟨a0, c0, rfl⟩ := h0.form
  cases hm : memB mem
  · have hr := Lib.hid (show holdB mem b1 s1 t1 = false by unfold holdB; rw [hm]; rfl)
    go_enter Try.func78, Try.ntmps78
    go_wp2_with fail
    refine (validMemory_c mem _ _ _ (h0.ext (by repeat (first | exact Ext.refl _ | assumption | apply Ext.drewN | apply Ext.drew | apply Ext.alloc)))).mono ?_
    rintro e w' ⟨rfl, rfl⟩
    rw [hm]
    go_wp2_with fail
    go_ret
    exact ⟨by rw [hr.out] <;> rfl, (by repeat (first | exact Ext.refl _ | assumption | apply Ext.drewN | apply Ext.drew | apply Ext.alloc))⟩
  · cases ha : viewB b1 s1 t1
    · have hr := Lib.hid (show holdB mem b1 s1 t1 = false by unfold holdB; rw [hm, ha]; rfl)
      have hm' := Lib.hid hm
      clear hm
      go_enter Try.func78, Try.ntmps78
      go_wp2_with fail
      refine (validMemory_c mem _ _ _ (h0.ext (by repeat (first | exact Ext.refl _ | assumption | apply Ext.drewN | apply Ext.drew | apply Ext.alloc)))).mono ?_
      rintro e w' ⟨rfl, rfl⟩
      rw [hm'.out]
      go_wp2_with fail
      refine (validView_c b1 _ _ s1 t1 _ l1 m1 (h1.ext (by repeat (first | exact Ext.refl _ | assumption | apply Ext.drewN | apply Ext.drew | apply Ext.alloc))) (k1.ext (by repeat (first | exact Ext.refl _ | assumption | apply Ext.drewN | apply Ext.drew | apply Ext.alloc)))).mono ?_
      rintro e w1 ⟨rfl, xw1⟩
      have Lw1 : Ext w w1 := Ext.trans (by repeat (first | exact Ext.refl _ | assumption | apply Ext.drewN | apply Ext.drew | apply Ext.alloc)) xw1
      have Xw1 : Ext w w1 := Lw1
      have c10 : w1.cell? ⟨w.heap.size, 0, none⟩ = some (.int .i64 b1) := xw1.cell (by first | (simp; done) | ((repeat rw [World.cell?_alloc_lt _ _ _ (by simp <;> omega)]); simp; done) | (go_simp; done))
      have c11 : w1.cell? ⟨w.heap.size, 1, none⟩ = some (u1) := xw1.cell (by first | (simp; done) | ((repeat rw [World.cell?_alloc_lt _ _ _ (by simp <;> omega)]); simp; done) | (go_simp; done))
      have c12 : w1.cell? ⟨w.heap.size, 2, none⟩ = some (v1) := xw1.cell (by first | (simp; done) | ((repeat rw [World.cell?_alloc_lt _ _ _ (by simp <;> omega)]); simp; done) | (go_simp; done))
      have z1 : w.heap.size < w1.heap.size := World.block_lt_of_cell? _ _ c10
      have sw1 : w.heap.size ≤ w1.heap.size := Lw1.size
      rw [ha]
      go_wp2_with fail
      go_ret
      exact ⟨by rw [hr.out] <;> rfl, Xw1⟩
    · have hr := Lib.hid (show holdB mem b1 s1 t1 = fitB b1 s1 t1 mem.length by unfold holdB; rw [hm, ha]; rfl)
      have hml := mem_len hm
      have hm' := Lib.hid hm
      have ha' := Lib.hid ha
      clear hm ha
      go_enter Try.func78, Try.ntmps78
      go_wp2_with fail
      refine (validMemory_c mem _ _ _ (h0.ext (by repeat (first | exact Ext.refl _ | assumption | apply Ext.drewN | apply Ext.drew | apply Ext.alloc)))).mono ?_
      rintro e w' ⟨rfl, rfl⟩
      rw [hm'.out]
      go_wp2_with fail
      refine (validView_c b1 _ _ s1 t1 _ l1 m1 (h1.ext (by repeat (first | exact Ext.refl _ | assumption | apply Ext.drewN | apply Ext.drew | apply Ext.alloc))) (k1.ext (by repeat (first | exact Ext.refl _ | assumption | apply Ext.drewN | apply Ext.drew | apply Ext.alloc)))).mono ?_
      rintro e w1 ⟨rfl, xw1⟩
      have Lw1 : Ext w w1 := Ext.trans (by repeat (first | exact Ext.refl _ | assumption | apply Ext.drewN | apply Ext.drew | apply Ext.alloc)) xw1
      have Xw1 : Ext w w1 := Lw1
      have c10 : w1.cell? ⟨w.heap.size, 0, none⟩ = some (.int .i64 b1) := xw1.cell (by first | (simp; done) | ((repeat rw [World.cell?_alloc_lt _ _ _ (by simp <;> omega)]); simp; done) | (go_simp; done))
      have c11 : w1.cell? ⟨w.heap.size, 1, none⟩ = some (u1) := xw1.cell (by first | (simp; done) | ((repeat rw [World.cell?_alloc_lt _ _ _ (by simp <;> omega)]); simp; done) | (go_simp; done))
      have c12 : w1.cell? ⟨w.heap.size, 2, none⟩ = some (v1) := xw1.cell (by first | (simp; done) | ((repeat rw [World.cell?_alloc_lt _ _ _ (by simp <;> omega)]); simp; done) | (go_simp; done))
      have z1 : w.heap.size < w1.heap.size := World.block_lt_of_cell? _ _ c10
      have sw1 : w.heap.size ≤ w1.heap.size := Lw1.size
      rw [ha'.out]
      go_wp2_with fail
      refine (fits_c b1 _ _ s1 t1 (mem.length : Int) _ l1 m1 (h1.ext (Xw1.trans (by repeat (first | exact Ext.refl _ | assumption | apply Ext.drewN | apply Ext.drew | apply Ext.alloc)))) (k1.ext (Xw1.trans (by repeat (first | exact Ext.refl _ | assumption | apply Ext.drewN | apply Ext.drew | apply Ext.alloc)))) ha'.out (by omega) (by omega)).mono ?_
      rintro e w2 ⟨rfl, xw2⟩
      have Lw2 : Ext w1 w2 := Ext.trans (by repeat (first | exact Ext.refl _ | assumption | apply Ext.drewN | apply Ext.drew | apply Ext.alloc)) xw2
      have Xw2 : Ext w w2 := Xw1.trans Lw2
      replace c10 := Lw2.cell c10
      replace c11 := Lw2.cell c11
      replace c12 := Lw2.cell c12
      have z2 : w.heap.size < w2.heap.size := World.block_lt_of_cell? _ _ c10
      have sw2 : w1.heap.size ≤ w2.heap.size := Lw2.size
      go_wp2_with fail
      go_ret
      exact ⟨by rw [hr.out] <;> rfl, Xw2⟩

theorem OwnZ.ofNe {w : World} {base : Nat} {v : Value} {xs : List Int} (h : OwnZ w base v xs) (hn : xs ≠ []) : OwnI w base v xs := h.elim (fun h => absurd h.1 hn) id

end Go.Proofs.Ytjpngmdfnglabaa
