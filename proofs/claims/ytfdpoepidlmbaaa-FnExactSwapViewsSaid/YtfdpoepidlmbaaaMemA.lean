/- Walks: values that are loaded from and stored in memories, of the program and of the reference. -/
import Derived.Test.YtfdpoepidlmbaaaExI
namespace Go.Proofs.Ytfdpoepidlmbaaa
open Go.RowKit
set_option linter.unusedVariables false
set_option maxRecDepth 100000

/-- the numbers of a list at indices -/
def takL (xs ix : List Int) : List Int := ix.map fun i => xs.getD i.toNat 0
theorem takL_take (xs ix : List Int) (k : Nat) (h : k < ix.length) : takL xs (ix.take (k+1)) = takL xs (ix.take k) ++ [xs.getD (ix[k]).toNat 0] := by
  unfold takL; rw [List.take_succ_eq_append_getElem h, List.map_append]; rfl
theorem takL_len (xs ix : List Int) : (takL xs ix).length = ix.length := by simp [takL]
/-- a list after the first k stores -/
def putUp (mem ix vs : List Int) (k : Nat) : List Int := (List.range k).foldl (fun m i => m.set (ix.getD i 0).toNat (vs.getD i 0)) mem
theorem putUp_succ (mem ix vs : List Int) (k : Nat) : putUp mem ix vs (k+1) = (putUp mem ix vs k).set (ix.getD k 0).toNat (vs.getD k 0) := by
  unfold putUp; rw [List.range_succ, List.foldl_append]; rfl
theorem putUp_len (mem ix vs : List Int) (k : Nat) : (putUp mem ix vs k).length = mem.length := by
  induction k with
  | zero => rfl
  | succ k ih => rw [putUp_succ, List.length_set, ih]
def putL (mem ix vs : List Int) : List Int := putUp mem ix vs ix.length
def loadL (mem : List Int) (b : Int) (s t : List Int) : List Int := takL mem (offsL b s t)
def holdB (mem : List Int) (b : Int) (s t : List Int) : Bool := memB mem && (viewB b s t && fitB b s t mem.length)
theorem hold_in {mem : List Int} {b : Int} {s t : List Int} (h : holdB mem b s t = true) : memB mem = true ∧ viewB b s t = true ∧ ∀ x ∈ offsL b s t, 0 ≤ x ∧ x < mem.length := by
  unfold holdB at h
  simp only [Bool.and_eq_true] at h
  refine ⟨h.1, h.2.1, fun x hx => ⟨((viewB_in h.2.1).2.2.2.2 x hx).1, ?_⟩⟩
  have := List.all_eq_true.1 h.2.2 x hx
  simpa using this
theorem mem_len {mem : List Int} (h : memB mem = true) : mem.length ≤ 60 := by
  unfold memB at h; simp only [Bool.and_eq_true, decide_eq_true_eq] at h; exact h.1
theorem OwnI.row {w : World} {base : Nat} {v : Value} {xs : List Int} (h : OwnI w base v xs) (hn : xs ≠ []) : ∃ g cap, v = .slice (some ⟨g, 0, none⟩) xs.length cap ∧ base ≤ g ∧ g < w.heap.size := by
  rcases h.2 with ⟨rfl, h0⟩ | ⟨g, cap, cur, rfl, hb, hg, _⟩
  · exact absurd (List.eq_nil_of_length_eq_zero h0) hn
  · exact ⟨g, cap, rfl, hb, (Array.getElem?_eq_some_iff.1 hg).1⟩

set_option maxHeartbeats 1600000 in
theorem takenOf_c (xs ix : List Int) (a b : Value) (w : World) (la lb : Nat) (ha : Ints w la a xs) (hb : Ints w lb b ix) (hin : ∀ i ∈ ix, 0 ≤ i ∧ i < xs.length) :
    Calls Try.prog 204 #[a, b] w (PInts w (takL xs ix)) := by
  obtain ⟨a1, c1, rfl⟩ := ha.form
  obtain ⟨a2, c2, rfl⟩ := hb.form
  have hlen := hb.len
  replace hin := Lib.hid hin
  go_enter Try.func204, Try.ntmps204
  go_wp2_with fail
  go_loopw [5, 11] (fun v i wr => ∃ k : Nat, k ≤ ix.length ∧ i = .int .i64 k ∧ OwnI wr w.heap.size v (takL xs (ix.take k)) ∧ Ext w wr) (fun _ i _ => ix.length - (intOf i).toNat)
  case atStart => exact ⟨0, Nat.zero_le _, rfl, OwnI.lit0 w w.heap.size (Nat.le_refl _), (by repeat (first | exact Ext.refl _ | assumption | apply Ext.drewN | apply Ext.drew | apply Ext.alloc))⟩
  case round =>
    obtain ⟨k, hk, rfl, ho, hx⟩ := hrel
    have hz := hx.size
    have hl := Lib.hid (takL_len xs (ix.take k))
    by_cases hlt : k < ix.length
    · obtain ⟨_, _, hv, _, _, _, hc⟩ := hb.ext hx
      cases hv
      obtain ⟨b1, off1, rfl, _, hcell, _⟩ := hc k hlt
      have g : ix.getD k 0 = ix[k] := by simp [hlt]
      have hs := takL_take xs ix k hlt
      obtain ⟨i1, i2⟩ := hin.out _ (List.getElem_mem hlt)
      obtain ⟨j, hj⟩ : ∃ j : Nat, ix[k] = j := ⟨_, (Int.toNat_of_nonneg i1).symm⟩
      rw [g, hj] at hcell
      rw [hj] at hs i2
      have hjl : j < xs.length := by omega
      obtain ⟨_, _, hv, _, _, _, hc'⟩ := ha.ext hx
      cases hv
      obtain ⟨b2, off2, rfl, _, hcell2, _⟩ := hc' j hjl
      have g2 : xs.getD j 0 = xs[j] := by simp [hjl]
      rw [g2] at hcell2
      have hs' := Lib.hid (show takL xs (ix.take (k+1)) = takL xs (ix.take k) ++ [xs[j]] by rw [hs]; simp [hjl])
      clear hc hc' g g2 hj hs i1
      go_wp2_with (at_builtin; refine wpList_app rfl (.tmp 15) (.tmp 20) rfl rfl rfl (ho.ext ((Ext.refl _).alloc _)) (Ints.one _ 0 _ (Nat.zero_le _)) (by have := hl.out; simp only [List.length_cons, List.length_nil, List.length_take] at this ⊢; omega) (by simp; omega) ?_)
      intro v' w3 ho3 _ hb3 _
      have hx3 := (hx.alloc (.cells #[.int .i64 xs[j]] 3)).below hb3 (by omega)
      clear hb3 ho
      replace ho3 := Lib.hid ho3
      go_wp2_with fail
      go_roundw
      case rel => exact ⟨k+1, by omega, by go_num, by rw [hs'.out]; exact ho3.out, hx3⟩
      case measure => simp [intOf]; omega
    · obtain rfl : k = ix.length := by omega
      replace ho := Lib.hid ho
      go_wp2_with fail
      go_ret
      exact PInts.mk (by have := ho.out; rw [List.take_length] at this; exact this) (Nat.le_refl _) (by rw [takL_len]; omega) hx

set_option maxHeartbeats 1600000 in
theorem canHold_c (mem : List Int) (a0 : Value) (b1 : Int) (u1 v1 : Value) (s1 t1 : List Int) (w : World) (l0 l1 m1 : Nat) (h0 : Ints w l0 a0 mem) (h1 : Ints w l1 u1 s1) (k1 : Ints w m1 v1 t1) :
    Calls Try.prog 199 #[a0, .agg #[.int .i64 b1, u1, v1]] w (fun e w' => e = .returned (.bool (holdB mem b1 s1 t1)) ∧ Ext w w') := by
  obtain ⟨a0, c0, rfl⟩ := h0.form
  cases hm : memB mem
  · have hr := Lib.hid (show holdB mem b1 s1 t1 = false by unfold holdB; rw [hm]; rfl)
    go_enter Try.func199, Try.ntmps199
    go_wp2_with fail
    refine (isMemory_c mem _ _ _ (h0.ext (by repeat (first | exact Ext.refl _ | assumption | apply Ext.drewN | apply Ext.drew | apply Ext.alloc)))).mono ?_
    rintro e w' ⟨rfl, rfl⟩
    rw [hm]
    go_wp2_with fail
    go_ret
    exact ⟨by rw [hr.out] <;> rfl, (by repeat (first | exact Ext.refl _ | assumption | apply Ext.drewN | apply Ext.drew | apply Ext.alloc))⟩
  · cases ha : viewB b1 s1 t1
    · have hr := Lib.hid (show holdB mem b1 s1 t1 = false by unfold holdB; rw [hm, ha]; rfl)
      have hm' := Lib.hid hm
      clear hm
      go_enter Try.func199, Try.ntmps199
      go_wp2_with fail
      refine (isMemory_c mem _ _ _ (h0.ext (by repeat (first | exact Ext.refl _ | assumption | apply Ext.drewN | apply Ext.drew | apply Ext.alloc)))).mono ?_
      rintro e w' ⟨rfl, rfl⟩
      rw [hm'.out]
      go_wp2_with fail
      refine (isView_c b1 _ _ s1 t1 _ l1 m1 (h1.ext (by repeat (first | exact Ext.refl _ | assumption | apply Ext.drewN | apply Ext.drew | apply Ext.alloc))) (k1.ext (by repeat (first | exact Ext.refl _ | assumption | apply Ext.drewN | apply Ext.drew | apply Ext.alloc)))).mono ?_
      rintro e w1 ⟨rfl, xw1⟩
      have Lw1 : Ext w w1 := Ext.trans (by repeat (first | exact Ext.refl _ | assumption | apply Ext.drewN | apply Ext.drew | apply Ext.alloc)) xw1
      have Xw1 : Ext w w1 := Lw1
      have c10 : w1.cell? ⟨w.heap.size, 0, none⟩ = some (.int .i64 b1) := xw1.cell (by first | (simp; done) | ((repeat rw [World.cell?_alloc_lt _ _ _ (by simp <;> omega)]); simp; done) | (go_simp; done))
      have c11 : w1.cell? ⟨w.heap.size, 1, none⟩ = some (u1) := xw1.cell (by first | (simp; done) | ((repeat rw [World.cell?_alloc_lt _ _ _ (by simp <;> omega)]); simp; done) | (go_simp; done))
      have c12 : w1.cell? ⟨w.heap.size, 2, none⟩ = some (v1) := xw1.cell (by first | (simp; done) | ((repeat rw [World.cell?_alloc_lt _ _ _ (by simp <;> omega)]); simp; done) | (go_simp; done))
      have z1 : w.heap.size < w1.heap.size := World.block_lt_of_cell? _ _ c10
      have sw1 : w.heap.size ≤ w1.heap.size := Lw1.size
      rw [ha]
      go_wp2_with fail
      go_ret
      exact ⟨by rw [hr.out] <;> rfl, Xw1⟩
    · have hr := Lib.hid (show holdB mem b1 s1 t1 = fitB b1 s1 t1 mem.length by unfold holdB; rw [hm, ha]; rfl)
      have hml := mem_len hm
      have hm' := Lib.hid hm
      have ha' := Lib.hid ha
      clear hm ha
      go_enter Try.func199, Try.ntmps199
      go_wp2_with fail
      refine (isMemory_c mem _ _ _ (h0.ext (by repeat (first | exact Ext.refl _ | assumption | apply Ext.drewN | apply Ext.drew | apply Ext.alloc)))).mono ?_
      rintro e w' ⟨rfl, rfl⟩
      rw [hm'.out]
      go_wp2_with fail
      refine (isView_c b1 _ _ s1 t1 _ l1 m1 (h1.ext (by repeat (first | exact Ext.refl _ | assumption | apply Ext.drewN | apply Ext.drew | apply Ext.alloc))) (k1.ext (by repeat (first | exact Ext.refl _ | assumption | apply Ext.drewN | apply Ext.drew | apply Ext.alloc)))).mono ?_
      rintro e w1 ⟨rfl, xw1⟩
      have Lw1 : Ext w w1 := Ext.trans (by repeat (first | exact Ext.refl _ | assumption | apply Ext.drewN | apply Ext.drew | apply Ext.alloc)) xw1
      have Xw1 : Ext w w1 := Lw1
      have c10 : w1.cell? ⟨w.heap.size, 0, none⟩ = some (.int .i64 b1) := xw1.cell (by first | (simp; done) | ((repeat rw [World.cell?_alloc_lt _ _ _ (by simp <;> omega)]); simp; done) | (go_simp; done))
      have c11 : w1.cell? ⟨w.heap.size, 1, none⟩ = some (u1) := xw1.cell (by first | (simp; done) | ((repeat rw [World.cell?_alloc_lt _ _ _ (by simp <;> omega)]); simp; done) | (go_simp; done))
      have c12 : w1.cell? ⟨w.heap.size, 2, none⟩ = some (v1) := xw1.cell (by first | (simp; done) | ((repeat rw [World.cell?_alloc_lt _ _ _ (by simp <;> omega)]); simp; done) | (go_simp; done))
      have z1 : w.heap.size < w1.heap.size := World.block_lt_of_cell? _ _ c10
      have sw1 : w.heap.size ≤ w1.heap.size := Lw1.size
      rw [ha'.out]
      go_wp2_with fail
      refine (fitsIn_c b1 _ _ s1 t1 (mem.length : Int) _ l1 m1 (h1.ext (Xw1.trans (by repeat (first | exact Ext.refl _ | assumption | apply Ext.drewN | apply Ext.drew | apply Ext.alloc)))) (k1.ext (Xw1.trans (by repeat (first | exact Ext.refl _ | assumption | apply Ext.drewN | apply Ext.drew | apply Ext.alloc)))) ha'.out).mono ?_
      rintro e w2 ⟨rfl, xw2⟩
      have Lw2 : Ext w1 w2 := Ext.trans (by repeat (first | exact Ext.refl _ | assumption | apply Ext.drewN | apply Ext.drew | apply Ext.alloc)) xw2
      have Xw2 : Ext w w2 := Xw1.trans Lw2
      replace c10 := Lw2.cell c10
      replace c11 := Lw2.cell c11
      replace c12 := Lw2.cell c12
      have z2 : w.heap.size < w2.heap.size := World.block_lt_of_cell? _ _ c10
      have sw2 : w1.heap.size ≤ w2.heap.size := Lw2.size
      go_wp2_with fail
      go_ret
      exact ⟨by rw [hr.out] <;> rfl, Xw2⟩

set_option maxHeartbeats 1600000 in
theorem sees_c (mem : List Int) (a0 : Value) (b1 : Int) (u1 v1 : Value) (s1 t1 : List Int) (w : World) (l0 l1 m1 : Nat) (h0 : Ints w l0 a0 mem) (h1 : Ints w l1 u1 s1) (k1 : Ints w m1 v1 t1) :
    Calls Try.prog 198 #[a0, .agg #[.int .i64 b1, u1, v1]] w (fun e w' => e = .returned (.bool (holdB mem b1 s1 t1)) ∧ Ext w w') := by
  obtain ⟨a0, c0, rfl⟩ := h0.form
  cases hm : memB mem
  · have hr := Lib.hid (show holdB mem b1 s1 t1 = false by unfold holdB; rw [hm]; rfl)
    go_enter Try.func198, Try.ntmps198
    go_wp2_with fail
    refine (validMemory_c mem _ _ _ (h0.ext (by repeat (first | exact Ext.refl _ | assumption | apply Ext.drewN | apply Ext.drew | apply Ext.alloc)))).mono ?_
    rintro e w' ⟨rfl, rfl⟩
    rw [hm]
    go_wp2_with fail
    go_ret
    exact ⟨by rw [hr.out] <;> rfl, (by repeat (first | exact Ext.refl _ | assumption | apply Ext.drewN | apply Ext.drew | apply Ext.alloc))⟩
  · cases ha : viewB b1 s1 t1
    · have hr := Lib.hid (show holdB mem b1 s1 t1 = false by unfold holdB; rw [hm, ha]; rfl)
      have hm' := Lib.hid hm
      clear hm
      go_enter Try.func198, Try.ntmps198
      go_wp2_with fail
      refine (validMemory_c mem _ _ _ (h0.ext (by repeat (first | exact Ext.refl _ | assumption | apply Ext.drewN | apply Ext.drew | apply Ext.alloc)))).mono ?_
      rintro e w' ⟨rfl, rfl⟩
      rw [hm'.out]
      go_wp2_with fail
      refine (validView_c b1 _ _ s1 t1 _ l1 m1 (h1.ext (by repeat (first | exact Ext.refl _ | assumption | apply Ext.drewN | apply Ext.drew | apply Ext.alloc))) (k1.ext (by repeat (first | exact Ext.refl _ | assumption | apply Ext.drewN | apply Ext.drew | apply Ext.alloc)))).mono ?_
      rintro e w1 ⟨rfl, xw1⟩
      have Lw1 : Ext w w1 := Ext.trans (by repeat (first | exact Ext.refl _ | assumption | apply Ext.drewN | apply Ext.drew | apply Ext.alloc)) xw1
      have Xw1 : Ext w w1 := Lw1
      have c10 : w1.cell? ⟨w.heap.size, 0, none⟩ = some (.int .i64 b1) := xw1.cell (by first | (simp; done) | ((repeat rw [World.cell?_alloc_lt _ _ _ (by simp <;> omega)]); simp; done) | (go_simp; done))
      have c11 : w1.cell? ⟨w.heap.size, 1, none⟩ = some (u1) := xw1.cell (by first | (simp; done) | ((repeat rw [World.cell?_alloc_lt _ _ _ (by simp <;> omega)]); simp; done) | (go_simp; done))
      have c12 : w1.cell? ⟨w.heap.size, 2, none⟩ = some (v1) := xw1.cell (by first | (simp; done) | ((repeat rw [World.cell?_alloc_lt _ _ _ (by simp <;> omega)]); simp; done) | (go_simp; done))
      have z1 : w.heap.size < w1.heap.size := World.block_lt_of_cell? _ _ c10
      have sw1 : w.heap.size ≤ w1.heap.size := Lw1.size
      rw [ha]
      go_wp2_with fail
      go_ret
      exact ⟨by rw [hr.out] <;> rfl, Xw1⟩
    · have hr := Lib.hid (show holdB mem b1 s1 t1 = fitB b1 s1 t1 mem.length by unfold holdB; rw [hm, ha]; rfl)
      have hml := mem_len hm
      have hm' := Lib.hid hm
      have ha' := Lib.hid ha
      clear hm ha
      go_enter Try.func198, Try.ntmps198
      go_wp2_with fail
      refine (validMemory_c mem _ _ _ (h0.ext (by repeat (first | exact Ext.refl _ | assumption | apply Ext.drewN | apply Ext.drew | apply Ext.alloc)))).mono ?_
      rintro e w' ⟨rfl, rfl⟩
      rw [hm'.out]
      go_wp2_with fail
      refine (validView_c b1 _ _ s1 t1 _ l1 m1 (h1.ext (by repeat (first | exact Ext.refl _ | assumption | apply Ext.drewN | apply Ext.drew | apply Ext.alloc))) (k1.ext (by repeat (first | exact Ext.refl _ | assumption | apply Ext.drewN | apply Ext.drew | apply Ext.alloc)))).mono ?_
      rintro e w1 ⟨rfl, xw1⟩
      have Lw1 : Ext w w1 := Ext.trans (by repeat (first | exact Ext.refl _ | assumption | apply Ext.drewN | apply Ext.drew | apply Ext.alloc)) xw1
      have Xw1 : Ext w w1 := Lw1
      have c10 : w1.cell? ⟨w.heap.size, 0, none⟩ = some (.int .i64 b1) := xw1.cell (by first | (simp; done) | ((repeat rw [World.cell?_alloc_lt _ _ _ (by simp <;> omega)]); simp; done) | (go_simp; done))
      have c11 : w1.cell? ⟨w.heap.size, 1, none⟩ = some (u1) := xw1.cell (by first | (simp; done) | ((repeat rw [World.cell?_alloc_lt _ _ _ (by simp <;> omega)]); simp; done) | (go_simp; done))
      have c12 : w1.cell? ⟨w.heap.size, 2, none⟩ = some (v1) := xw1.cell (by first | (simp; done) | ((repeat rw [World.cell?_alloc_lt _ _ _ (by simp <;> omega)]); simp; done) | (go_simp; done))
      have z1 : w.heap.size < w1.heap.size := World.block_lt_of_cell? _ _ c10
      have sw1 : w.heap.size ≤ w1.heap.size := Lw1.size
      rw [ha'.out]
      go_wp2_with fail
      refine (fits_c b1 _ _ s1 t1 (mem.length : Int) _ l1 m1 (h1.ext (Xw1.trans (by repeat (first | exact Ext.refl _ | assumption | apply Ext.drewN | apply Ext.drew | apply Ext.alloc)))) (k1.ext (Xw1.trans (by repeat (first | exact Ext.refl _ | assumption | apply Ext.drewN | apply Ext.drew | apply Ext.alloc)))) ha'.out (by omega) (by omega)).mono ?_
      rintro e w2 ⟨rfl, xw2⟩
      have Lw2 : Ext w1 w2 := Ext.trans (by repeat (first | exact Ext.refl _ | assumption | apply Ext.drewN | apply Ext.drew | apply Ext.alloc)) xw2
      have Xw2 : Ext w w2 := Xw1.trans Lw2
      replace c10 := Lw2.cell c10
      replace c11 := Lw2.cell c11
      replace c12 := Lw2.cell c12
      have z2 : w.heap.size < w2.heap.size := World.block_lt_of_cell? _ _ c10
      have sw2 : w1.heap.size ≤ w2.heap.size := Lw2.size
      go_wp2_with fail
      go_ret
      exact ⟨by rw [hr.out] <;> rfl, Xw2⟩

set_option maxHeartbeats 1600000 in
theorem loadView_c (mem : List Int) (a0 : Value) (b1 : Int) (u1 v1 : Value) (s1 t1 : List Int) (w : World) (l0 l1 m1 : Nat) (h0 : Ints w l0 a0 mem) (h1 : Ints w l1 u1 s1) (k1 : Ints w m1 v1 t1) (hh : holdB mem b1 s1 t1 = true) :
    Calls Try.prog 140 #[a0, .agg #[.int .i64 b1, u1, v1]] w (PInts w (loadL mem b1 s1 t1)) := by
  obtain ⟨hm, ha, hix⟩ := hold_in hh
  obtain ⟨a0, c0, rfl⟩ := h0.form
  replace hix := Lib.hid hix
  obtain ⟨j1, j2, -⟩ := viewB_in ha
  have hin1 := Lib.hid (shapeB_in j1)
  have hg1 := Lib.hid j2
  clear j1 j2
  clear ha hm hh
  go_enter Try.func140, Try.ntmps140
  go_wp2_with fail
  refine (offsetsOf_c b1 _ _ s1 t1 _ l1 m1 (h1.ext (by repeat (first | exact Ext.refl _ | assumption | apply Ext.drewN | apply Ext.drew | apply Ext.alloc))) (k1.ext (by repeat (first | exact Ext.refl _ | assumption | apply Ext.drewN | apply Ext.drew | apply Ext.alloc))) (by have := hg1.out; omega) hin1.out.2.2.2.2 (by have := hin1.out; omega)).mono ?_
  rintro e w1 ⟨r1, rfl, i1, -, xw1⟩
  have Lw1 : Ext w w1 := Ext.trans (by repeat (first | exact Ext.refl _ | assumption | apply Ext.drewN | apply Ext.drew | apply Ext.alloc)) xw1
  have Xw1 : Ext w w1 := Lw1
  have c10 : w1.cell? ⟨w.heap.size, 0, none⟩ = some (.int .i64 b1) := xw1.cell (by first | (simp; done) | ((repeat rw [World.cell?_alloc_lt _ _ _ (by simp <;> omega)]); simp; done) | (go_simp; done))
  have c11 : w1.cell? ⟨w.heap.size, 1, none⟩ = some (u1) := xw1.cell (by first | (simp; done) | ((repeat rw [World.cell?_alloc_lt _ _ _ (by simp <;> omega)]); simp; done) | (go_simp; done))
  have c12 : w1.cell? ⟨w.heap.size, 2, none⟩ = some (v1) := xw1.cell (by first | (simp; done) | ((repeat rw [World.cell?_alloc_lt _ _ _ (by simp <;> omega)]); simp; done) | (go_simp; done))
  have z1 : w.heap.size < w1.heap.size := World.block_lt_of_cell? _ _ c10
  have sw1 : w.heap.size ≤ w1.heap.size := Lw1.size
  go_wp2_with fail
  refine (takenOf_c mem (offsL b1 s1 t1) _ _ _ _ _ (h0.ext (Xw1.trans (by repeat (first | exact Ext.refl _ | assumption | apply Ext.drewN | apply Ext.drew | apply Ext.alloc)))) (i1.ext (by repeat (first | exact Ext.refl _ | assumption | apply Ext.drewN | apply Ext.drew | apply Ext.alloc))) hix.out).mono ?_
  rintro e w2 ⟨r2, rfl, i2, o2, xw2⟩
  have Lw2 : Ext w1 w2 := Ext.trans (by repeat (first | exact Ext.refl _ | assumption | apply Ext.drewN | apply Ext.drew | apply Ext.alloc)) xw2
  have Xw2 : Ext w w2 := Xw1.trans Lw2
  replace c10 := Lw2.cell c10
  replace c11 := Lw2.cell c11
  replace c12 := Lw2.cell c12
  have z2 : w.heap.size < w2.heap.size := World.block_lt_of_cell? _ _ c10
  have sw2 : w1.heap.size ≤ w2.heap.size := Lw2.size
  go_wp2_with fail
  go_ret
  exact PInts.of o2 i2 (Ext.size (show Ext w _ from (Xw1.trans (by repeat (first | exact Ext.refl _ | assumption | apply Ext.drewN | apply Ext.drew | apply Ext.alloc))))) Xw2

set_option maxHeartbeats 3200000 in
theorem load_c (mem : List Int) (a0 : Value) (b1 : Int) (u1 v1 : Value) (s1 t1 : List Int) (w : World) (l0 l1 m1 : Nat) (h0 : Ints w l0 a0 mem) (h1 : Ints w l1 u1 s1) (k1 : Ints w m1 v1 t1) (hh : holdB mem b1 s1 t1 = true) :
    Calls Try.prog 135 #[a0, .agg #[.int .i64 b1, u1, v1]] w (PInts w (loadL mem b1 s1 t1)) := by
  obtain ⟨hm, ha, hix⟩ := hold_in hh
  obtain ⟨a0, c0, rfl⟩ := h0.form
  have hlen := offs_len ha
  replace hix := Lib.hid hix
  obtain ⟨j1, j2, -⟩ := viewB_in ha
  have hin1 := Lib.hid (shapeB_in j1)
  have hg1 := Lib.hid j2
  clear j1 j2
  clear ha hm hh
  go_enter Try.func135, Try.ntmps135
  go_wp2_with fail
  have X0 : Ext w (w.alloc (.cells #[.int .i64 b1, u1, v1] 36)) := (by repeat (first | exact Ext.refl _ | assumption | apply Ext.drewN | apply Ext.drew | apply Ext.alloc))
  refine (offsets_c b1 _ _ s1 t1 _ l1 m1 (h1.ext (by repeat (first | exact Ext.refl _ | assumption | apply Ext.drewN | apply Ext.drew | apply Ext.alloc))) (k1.ext (by repeat (first | exact Ext.refl _ | assumption | apply Ext.drewN | apply Ext.drew | apply Ext.alloc))) (by have := hg1.out; omega) hin1.out.2.2.2.2 (by have := hin1.out; omega)).mono ?_
  rintro e w1 ⟨r1, rfl, i1, -, xw1⟩
  have Xw1 : Ext w w1 := Ext.trans (by repeat (first | exact Ext.refl _ | assumption | apply Ext.drewN | apply Ext.drew | apply Ext.alloc)) xw1
  have hsd := Beside.start (w1 := (w.alloc (.cells #[.int .i64 b1, u1, v1] 36))) xw1 i1 (by simp)
  have hz1 := xw1.size
  simp at hz1
  have hr := Lib.hid (show loadL mem b1 s1 t1 = takL mem (offsL b1 s1 t1) by rfl)
  generalize offsL b1 s1 t1 = ix at *
  obtain ⟨a1, c1, rfl⟩ := i1.form
  clear h1 k1 i1
  go_wp2_with fail
  have hBs : (w.alloc (.cells #[.int .i64 b1, u1, v1] 36)).heap.size = w.heap.size + 1 := by simp
  go_loopw [5, 7] (fun v i wr => ∃ k : Nat, k ≤ ix.length ∧ i = .int .i64 k ∧ Beside (w.heap.size + 1) (w.alloc (.cells #[.int .i64 b1, u1, v1] 36)) wr v (takL mem (ix.take k)) (.slice a1 ix.length c1) ix) (fun _ i _ => ix.length - (intOf i).toNat)
  case atStart => exact ⟨0, Nat.zero_le _, rfl, by simpa [takL] using hsd⟩
  case round =>
    obtain ⟨k, hk, rfl, hB⟩ := hrel
    have hz := hB.size
    have hl := Lib.hid (takL_len mem (ix.take k))
    have hx : Ext w wr := Below.trans X0 (Below.mono hB.bel (by omega))
    have hir := hB.ints
    by_cases hlt : k < ix.length
    · obtain ⟨_, _, hv, _, _, _, hc⟩ := hir
      cases hv
      obtain ⟨b1', off1, rfl, _, hcell, _⟩ := hc k hlt
      have g : ix.getD k 0 = ix[k] := by simp [hlt]
      have hs := takL_take mem ix k hlt
      obtain ⟨i1, i2⟩ := hix.out _ (List.getElem_mem hlt)
      obtain ⟨j, hj⟩ : ∃ j : Nat, ix[k] = j := ⟨_, (Int.toNat_of_nonneg i1).symm⟩
      rw [g, hj] at hcell
      rw [hj] at hs i2
      have hjl : j < mem.length := by omega
      obtain ⟨_, _, hv, _, _, _, hc'⟩ := h0.ext hx
      cases hv
      obtain ⟨b2, off2, rfl, _, hcell2, _⟩ := hc' j hjl
      have g2 : mem.getD j 0 = mem[j] := by simp [hjl]
      rw [g2] at hcell2
      have hs' := Lib.hid (show takL mem (ix.take (k+1)) = takL mem (ix.take k) ++ [mem[j]] by rw [hs]; simp [hjl])
      clear hc hc' g g2 hj hs i1
      go_wp2_with (at_builtin; refine wpList_app rfl (.tmp 17) (.tmp 25) rfl rfl rfl (hB.own.ext ((Ext.refl _).alloc _)) (Ints.one _ 0 _ (Nat.zero_le _)) (by have := hl.out; simp only [List.length_cons, List.length_nil, List.length_take] at this ⊢; omega) (by simp; omega) ?_)
      intro v' w3 ho3 hg3 hb3 hv3
      have hB3 := Lib.hid (hB.app _ ho3 hg3 hb3 (by simpa using hv3))
      clear ho3 hg3 hb3 hv3 hB
      go_wp2_with fail
      go_roundw
      case rel => exact ⟨k+1, by omega, by go_num, by rw [hs'.out]; exact hB3.out⟩
      case measure => simp [intOf]; omega
    · obtain rfl : k = ix.length := by omega
      replace hB := Lib.hid hB
      clear hir
      go_wp2_with fail
      go_ret
      rw [hr.out]
      exact PInts.mk (by have := hB.out.own; rw [List.take_length] at this; exact this) (by omega) (by rw [takL_len]; omega) hx

theorem OwnZ.ofNe {w : World} {base : Nat} {v : Value} {xs : List Int} (h : OwnZ w base v xs) (hn : xs ≠ []) : OwnI w base v xs := h.elim (fun h => absurd h.1 hn) id

set_option maxHeartbeats 3200000 in
theorem storeView_c (mem vs : List Int) (a0 a2 : Value) (b1 : Int) (u1 v1 : Value) (s1 t1 : List Int) (w : World) (l0 l1 m1 l2 : Nat) (h0 : Ints w l0 a0 mem) (h1 : Ints w l1 u1 s1) (k1 : Ints w m1 v1 t1) (h2 : Ints w l2 a2 vs) (hml : mem.length ≤ 60) (ha : viewB b1 s1 t1 = true) (hix : ∀ x ∈ offsL b1 s1 t1, 0 ≤ x ∧ x < mem.length) (hvl : vs.length = (offsL b1 s1 t1).length) :
    Calls Try.prog 139 #[a0, .agg #[.int .i64 b1, u1, v1], a2] w (PInts w (putL mem (offsL b1 s1 t1) vs)) := by
  obtain ⟨a0, c0, rfl⟩ := h0.form
  obtain ⟨a2, c2, rfl⟩ := h2.form
  have hlen := offs_len ha
  replace hix := Lib.hid hix
  replace hvl := Lib.hid hvl
  obtain ⟨j1, j2, -⟩ := viewB_in ha
  have hin1 := Lib.hid (shapeB_in j1)
  have hg1 := Lib.hid j2
  clear j1 j2
  clear ha
  go_enter Try.func139, Try.ntmps139
  have hl0 : OwnI ((w.alloc (.cells #[.int .i64 b1, u1, v1] 36)).alloc (.cells #[] 3)) (w.heap.size + 1) (.slice (some ⟨w.heap.size + 1, 0, none⟩) 0 0) [] := by simpa using OwnI.lit0 (w.alloc (.cells #[.int .i64 b1, u1, v1] 36)) (w.heap.size + 1) (by simp)
  go_wp2_with (at_builtin; refine wpList_app rfl (.tmp 10) (.tmp 11) rfl rfl rfl hl0 (h0.ext (by repeat (first | exact Ext.refl _ | assumption | apply Ext.drewN | apply Ext.drew | apply Ext.alloc))) (by simp; omega) (by simp) ?_)
  intro v0 w1 ho1 _ hb1 _
  have Xw1 : Ext w w1 := Ext.below (w := (w.alloc (.cells #[.int .i64 b1, u1, v1] 36)).alloc (.cells #[] 3)) (by repeat (first | exact Ext.refl _ | assumption | apply Ext.drewN | apply Ext.drew | apply Ext.alloc)) hb1 (by omega)
  have c10 : w1.cell? ⟨w.heap.size, 0, none⟩ = some (.int .i64 b1) := below_cell hb1 (by omega) (by rw [World.cell?_alloc_lt _ _ _ (by simp)]; simp)
  have c11 : w1.cell? ⟨w.heap.size, 1, none⟩ = some u1 := below_cell hb1 (by omega) (by rw [World.cell?_alloc_lt _ _ _ (by simp)]; simp)
  have c12 : w1.cell? ⟨w.heap.size, 2, none⟩ = some v1 := below_cell hb1 (by omega) (by rw [World.cell?_alloc_lt _ _ _ (by simp)]; simp)
  have hz1 := hb1.size
  simp at hz1
  clear hb1
  replace ho1 := Lib.hid ho1
  go_wp2_with fail
  refine (offsetsOf_c b1 _ _ s1 t1 _ l1 m1 (h1.ext (Xw1.trans (by repeat (first | exact Ext.refl _ | assumption | apply Ext.drewN | apply Ext.drew | apply Ext.alloc)))) (k1.ext (Xw1.trans (by repeat (first | exact Ext.refl _ | assumption | apply Ext.drewN | apply Ext.drew | apply Ext.alloc)))) (by have := hg1.out; omega) hin1.out.2.2.2.2 (by have := hin1.out; omega)).mono ?_
  rintro e w2 ⟨r2, rfl, i2, -, xw2⟩
  have Lw2 : Ext w1 w2 := Ext.trans (by repeat (first | exact Ext.refl _ | assumption | apply Ext.drewN | apply Ext.drew | apply Ext.alloc)) xw2
  have Xw2 : Ext w w2 := Xw1.trans Lw2
  replace c10 := Lw2.cell c10
  replace c11 := Lw2.cell c11
  replace c12 := Lw2.cell c12
  have z1 : w.heap.size < w2.heap.size := World.block_lt_of_cell? _ _ c10
  have sw2 : w1.heap.size ≤ w2.heap.size := Lw2.size
  clear c10 c11 c12 h1 k1
  have hr := Lib.hid (show putL mem (offsL b1 s1 t1) vs = putUp mem (offsL b1 s1 t1) vs (offsL b1 s1 t1).length by rfl)
  generalize offsL b1 s1 t1 = ix at *
  obtain ⟨ai, ci, rfl⟩ := i2.form
  by_cases hme : mem = []
  · subst hme
    have hie : ix = [] := by
      cases ix with
      | nil => rfl
      | cons x r => have := hix.out x (List.mem_cons_self ..); simp at this; omega
    subst hie
    have hoz := ho1.out
    go_wp2_with fail
    go_loop [16] (fun i => i = .int .i64 0) (fun _ => 0)
    case atStart => rfl
    case round =>
      subst hrel
      go_wp2_with fail
      go_ret
      rw [hr.out]
      exact PInts.mk (hoz.ext (show Ext w1 _ from Lw2.trans (by repeat (first | exact Ext.refl _ | assumption | apply Ext.drewN | apply Ext.drew | apply Ext.alloc)))) (by omega) (by simp [putUp]) (Xw2.trans (by repeat (first | exact Ext.refl _ | assumption | apply Ext.drewN | apply Ext.drew | apply Ext.alloc)))
  · obtain ⟨g0, cp, hv0, hg1, hg2⟩ := ho1.out.row hme
    subst hv0
    have hg1 : w.heap.size ≤ g0 := by first | omega | exact Nat.le_trans (Ext.size (by repeat (first | exact Ext.refl _ | assumption | apply Ext.drewN | apply Ext.drew | apply Ext.alloc))) hg1
    have hi2' := i2.lower (lo' := w1.heap.size) (Ext.size (by repeat (first | exact Ext.refl _ | assumption | apply Ext.drewN | apply Ext.drew | apply Ext.alloc)))
    have hown := (show OwnI _ w.heap.size _ _ from (ho1.out.lower (by omega)).ext (Lw2.trans (by repeat (first | exact Ext.refl _ | assumption | apply Ext.drewN | apply Ext.drew | apply Ext.alloc))))
    clear i2 hme
    go_wp2_with fail
    go_loopw [16] (fun i wr => ∃ k : Nat, k ≤ ix.length ∧ i = .int .i64 k ∧ wr.ownsRow w.heap.size 3 1 (.slice (some ⟨g0, 0, none⟩) mem.length cp) mem.length ((putUp mem ix vs k).map (Value.int .i64)) ∧ Ext w wr ∧ Ints wr w1.heap.size (.slice ai ix.length ci) ix) (fun i _ => ix.length - (intOf i).toNat)
    case atStart => exact ⟨0, Nat.zero_le _, rfl, hown, Xw2.trans (by repeat (first | exact Ext.refl _ | assumption | apply Ext.drewN | apply Ext.drew | apply Ext.alloc)), hi2'.ext (by repeat (first | exact Ext.refl _ | assumption | apply Ext.drewN | apply Ext.drew | apply Ext.alloc))⟩
    case round =>
      obtain ⟨k, hk, rfl, ho, hx, hir⟩ := hrel
      by_cases hlt : k < ix.length
      · have hir' := hir
        obtain ⟨_, _, hv, _, _, _, hc⟩ := hir'
        cases hv
        obtain ⟨b1', off1, rfl, hlo1, hcell, _⟩ := hc k hlt
        have hkI : (k : Int) < ix.length := by omega
        have g : ix.getD k 0 = ix[k] := by simp [hlt]
        obtain ⟨i1, i2⟩ := hix.out _ (List.getElem_mem hlt)
        obtain ⟨j, hj⟩ : ∃ j : Nat, ix[k] = j := ⟨_, (Int.toNat_of_nonneg i1).symm⟩
        rw [g, hj] at hcell
        rw [hj] at i2
        have hjl : j < mem.length := by omega
        have hjI : (j : Int) < mem.length := by omega
        have h2' := h2
        obtain ⟨_, _, hv, _, _, _, hc'⟩ := h2'
        cases hv
        obtain ⟨b2, off2, rfl, _, hcellw, _⟩ := hc' k (by have := hvl.out; omega)
        have hcell2 := hx.cell hcellw
        have hb2 := World.block_lt_of_cell? _ _ hcellw
        have hb2 : b2 < w.heap.size := hb2
        have hne2 : g0 ≠ b2 := by omega
        have hne3 : b2 ≠ g0 := by omega
        have hne4 : g0 ≠ b1' := by omega
        have hne5 : b1' ≠ g0 := by omega
        have hkv : k < vs.length := by have := hvl.out; omega
        have hkvI : (k : Int) < vs.length := by omega
        have g2 : vs.getD k 0 = vs[k] := by simp [hkv]
        rw [g2] at hcell2
        have hpl := putUp_len mem ix vs k
        obtain ⟨hoc, hof⟩ := own_cell ho j hjl
        have hs' := Lib.hid (show putUp mem ix vs (k+1) = (putUp mem ix vs k).set j vs[k] by rw [putUp_succ, g, hj, g2]; rfl)
        have hst := Lib.hid (own_set ho j vs[k] hjl)
        have hK : Chg w.heap.size w1.heap.size wr (wr.setCell ⟨g0, j, none⟩ (.int .i64 vs[k])) := (Chg.refl _ _ _).setCell hg1 hg2 _
        have hi3 := Lib.hid (hir.chg hK (Nat.le_refl _))
        have hx3 := Lib.hid (hx.chg hK (Nat.le_refl _))
        clear hc hc' g g2 hj i1 hpl hK hir ho hcellw
        go_wp2_with fail
        go_roundw
        case rel => exact ⟨k+1, by omega, by go_num, by rw [hs'.out]; exact hst.out, hx3.out, hi3.out⟩
        case measure => simp [intOf]; omega
      · obtain rfl : k = ix.length := by omega
        have hf := Lib.hid (show OwnI wr w.heap.size (.slice (some ⟨g0, 0, none⟩) mem.length cp) (putUp mem ix vs ix.length) by unfold OwnI; rw [putUp_len]; exact ho)
        clear ho hir
        go_wp2_with fail
        go_ret
        rw [hr.out]
        exact PInts.mk hf.out (Nat.le_refl _) (by rw [putUp_len]; omega) hx

set_option maxHeartbeats 3200000 in
theorem put_c (mem vs : List Int) (a0 a2 : Value) (b1 : Int) (u1 v1 : Value) (s1 t1 : List Int) (w : World) (l0 l1 m1 l2 : Nat) (h0 : Ints w l0 a0 mem) (h1 : Ints w l1 u1 s1) (k1 : Ints w m1 v1 t1) (h2 : Ints w l2 a2 vs) (hml : mem.length ≤ 60) (ha : viewB b1 s1 t1 = true) (hix : ∀ x ∈ offsL b1 s1 t1, 0 ≤ x ∧ x < mem.length) (hvl : vs.length = (offsL b1 s1 t1).length) :
    Calls Try.prog 134 #[a0, .agg #[.int .i64 b1, u1, v1], a2] w (PInts w (putL mem (offsL b1 s1 t1) vs)) := by
  obtain ⟨a0, c0, rfl⟩ := h0.form
  obtain ⟨a2, c2, rfl⟩ := h2.form
  have hlen := offs_len ha
  replace hix := Lib.hid hix
  replace hvl := Lib.hid hvl
  obtain ⟨j1, j2, -⟩ := viewB_in ha
  have hin1 := Lib.hid (shapeB_in j1)
  have hg1 := Lib.hid j2
  clear j1 j2
  clear ha
  go_enter Try.func134, Try.ntmps134
  go_wp2_with fail
  refine (copyInts_c mem _ _ _ (h0.ext (by repeat (first | exact Ext.refl _ | assumption | apply Ext.drewN | apply Ext.drew | apply Ext.alloc)))).mono ?_
  rintro e w1 ⟨v0, rfl, j1, ho1, xw1⟩
  have Lw1 : Ext w w1 := Ext.trans (by repeat (first | exact Ext.refl _ | assumption | apply Ext.drewN | apply Ext.drew | apply Ext.alloc)) xw1
  have Xw1 : Ext w w1 := Lw1
  have c10 : w1.cell? ⟨w.heap.size, 0, none⟩ = some (.int .i64 b1) := xw1.cell (by first | (simp; done) | ((repeat rw [World.cell?_alloc_lt _ _ _ (by simp <;> omega)]); simp; done) | (go_simp; done))
  have c11 : w1.cell? ⟨w.heap.size, 1, none⟩ = some (u1) := xw1.cell (by first | (simp; done) | ((repeat rw [World.cell?_alloc_lt _ _ _ (by simp <;> omega)]); simp; done) | (go_simp; done))
  have c12 : w1.cell? ⟨w.heap.size, 2, none⟩ = some (v1) := xw1.cell (by first | (simp; done) | ((repeat rw [World.cell?_alloc_lt _ _ _ (by simp <;> omega)]); simp; done) | (go_simp; done))
  have z1 : w.heap.size < w1.heap.size := World.block_lt_of_cell? _ _ c10
  have sw1 : w.heap.size ≤ w1.heap.size := Lw1.size
  have hz1 := xw1.size
  simp at hz1
  clear j1
  replace ho1 := Lib.hid ho1
  go_wp2_with fail
  refine (offsets_c b1 _ _ s1 t1 _ l1 m1 (h1.ext (Xw1.trans (by repeat (first | exact Ext.refl _ | assumption | apply Ext.drewN | apply Ext.drew | apply Ext.alloc)))) (k1.ext (Xw1.trans (by repeat (first | exact Ext.refl _ | assumption | apply Ext.drewN | apply Ext.drew | apply Ext.alloc)))) (by have := hg1.out; omega) hin1.out.2.2.2.2 (by have := hin1.out; omega)).mono ?_
  rintro e w2 ⟨r2, rfl, i2, -, xw2⟩
  have Lw2 : Ext w1 w2 := Ext.trans (by repeat (first | exact Ext.refl _ | assumption | apply Ext.drewN | apply Ext.drew | apply Ext.alloc)) xw2
  have Xw2 : Ext w w2 := Xw1.trans Lw2
  replace c10 := Lw2.cell c10
  replace c11 := Lw2.cell c11
  replace c12 := Lw2.cell c12
  have z2 : w.heap.size < w2.heap.size := World.block_lt_of_cell? _ _ c10
  have sw2 : w1.heap.size ≤ w2.heap.size := Lw2.size
  clear c10 c11 c12 h1 k1
  have hr := Lib.hid (show putL mem (offsL b1 s1 t1) vs = putUp mem (offsL b1 s1 t1) vs (offsL b1 s1 t1).length by rfl)
  generalize offsL b1 s1 t1 = ix at *
  obtain ⟨ai, ci, rfl⟩ := i2.form
  by_cases hme : mem = []
  · subst hme
    have hie : ix = [] := by
      cases ix with
      | nil => rfl
      | cons x r => have := hix.out x (List.mem_cons_self ..); simp at this; omega
    subst hie
    have hoz := ho1.out
    go_wp2_with fail
    go_loop [9] (fun i => i = .int .i64 0) (fun _ => 0)
    case atStart => rfl
    case round =>
      subst hrel
      go_wp2_with fail
      go_ret
      rw [hr.out]
      exact PInts.mkz (hoz.ext (show Ext w1 _ from Lw2.trans (by repeat (first | exact Ext.refl _ | assumption | apply Ext.drewN | apply Ext.drew | apply Ext.alloc)))) (Ext.size (by repeat (first | exact Ext.refl _ | assumption | apply Ext.drewN | apply Ext.drew | apply Ext.alloc))) (by simp [putUp]) (Xw2.trans (by repeat (first | exact Ext.refl _ | assumption | apply Ext.drewN | apply Ext.drew | apply Ext.alloc)))
  · obtain ⟨g0, cp, hv0, hg1, hg2⟩ := (ho1.out.ofNe hme).row hme
    subst hv0
    have hg1 : w.heap.size ≤ g0 := by first | omega | exact Nat.le_trans (Ext.size (by repeat (first | exact Ext.refl _ | assumption | apply Ext.drewN | apply Ext.drew | apply Ext.alloc))) hg1
    have hi2' := i2.lower (lo' := w1.heap.size) (Ext.size (by repeat (first | exact Ext.refl _ | assumption | apply Ext.drewN | apply Ext.drew | apply Ext.alloc)))
    have hown := (show OwnI _ w.heap.size _ _ from ((ho1.out.ofNe hme).lower (Ext.size (by repeat (first | exact Ext.refl _ | assumption | apply Ext.drewN | apply Ext.drew | apply Ext.alloc)))).ext (Lw2.trans (by repeat (first | exact Ext.refl _ | assumption | apply Ext.drewN | apply Ext.drew | apply Ext.alloc))))
    clear i2 hme
    go_wp2_with fail
    go_loopw [9] (fun i wr => ∃ k : Nat, k ≤ ix.length ∧ i = .int .i64 k ∧ wr.ownsRow w.heap.size 3 1 (.slice (some ⟨g0, 0, none⟩) mem.length cp) mem.length ((putUp mem ix vs k).map (Value.int .i64)) ∧ Ext w wr ∧ Ints wr w1.heap.size (.slice ai ix.length ci) ix) (fun i _ => ix.length - (intOf i).toNat)
    case atStart => exact ⟨0, Nat.zero_le _, rfl, hown, Xw2.trans (by repeat (first | exact Ext.refl _ | assumption | apply Ext.drewN | apply Ext.drew | apply Ext.alloc)), hi2'.ext (by repeat (first | exact Ext.refl _ | assumption | apply Ext.drewN | apply Ext.drew | apply Ext.alloc))⟩
    case round =>
      obtain ⟨k, hk, rfl, ho, hx, hir⟩ := hrel
      by_cases hlt : k < ix.length
      · have hir' := hir
        obtain ⟨_, _, hv, _, _, _, hc⟩ := hir'
        cases hv
        obtain ⟨b1', off1, rfl, hlo1, hcell, _⟩ := hc k hlt
        have hkI : (k : Int) < ix.length := by omega
        have g : ix.getD k 0 = ix[k] := by simp [hlt]
        obtain ⟨i1, i2⟩ := hix.out _ (List.getElem_mem hlt)
        obtain ⟨j, hj⟩ : ∃ j : Nat, ix[k] = j := ⟨_, (Int.toNat_of_nonneg i1).symm⟩
        rw [g, hj] at hcell
        rw [hj] at i2
        have hjl : j < mem.length := by omega
        have hjI : (j : Int) < mem.length := by omega
        have h2' := h2
        obtain ⟨_, _, hv, _, _, _, hc'⟩ := h2'
        cases hv
        obtain ⟨b2, off2, rfl, _, hcellw, _⟩ := hc' k (by have := hvl.out; omega)
        have hcell2 := hx.cell hcellw
        have hb2 := World.block_lt_of_cell? _ _ hcellw
        have hb2 : b2 < w.heap.size := hb2
        have hne2 : g0 ≠ b2 := by omega
        have hne3 : b2 ≠ g0 := by omega
        have hne4 : g0 ≠ b1' := by omega
        have hne5 : b1' ≠ g0 := by omega
        have hkv : k < vs.length := by have := hvl.out; omega
        have hkvI : (k : Int) < vs.length := by omega
        have g2 : vs.getD k 0 = vs[k] := by simp [hkv]
        rw [g2] at hcell2
        have hpl := putUp_len mem ix vs k
        obtain ⟨hoc, hof⟩ := own_cell ho j hjl
        have hs' := Lib.hid (show putUp mem ix vs (k+1) = (putUp mem ix vs k).set j vs[k] by rw [putUp_succ, g, hj, g2]; rfl)
        have hst := Lib.hid (own_set ho j vs[k] hjl)
        have hK : Chg w.heap.size w1.heap.size wr (wr.setCell ⟨g0, j, none⟩ (.int .i64 vs[k])) := (Chg.refl _ _ _).setCell hg1 hg2 _
        have hi3 := Lib.hid (hir.chg hK (Nat.le_refl _))
        have hx3 := Lib.hid (hx.chg hK (Nat.le_refl _))
        clear hc hc' g g2 hj i1 hpl hK hir ho hcellw
        go_wp2_with fail
        go_region_held3 (fun w' => w'.cell? ⟨b1', off1 + k, none⟩ = some (.int .i64 j) ∧ w'.cell? ⟨b2, off2 + k, none⟩ = some (.int .i64 vs[k])) (go_keep) (fail)
        go_wp2_with fail
        go_roundw
        case rel => exact ⟨k+1, by omega, by go_num, by rw [hs'.out]; exact hst.out, hx3.out.drew, hi3.out.ext (by repeat (first | exact Ext.refl _ | assumption | apply Ext.drewN | apply Ext.drew | apply Ext.alloc))⟩
        case measure => simp [intOf]; omega
      · obtain rfl : k = ix.length := by omega
        have hf := Lib.hid (show OwnI wr w.heap.size (.slice (some ⟨g0, 0, none⟩) mem.length cp) (putUp mem ix vs ix.length) by unfold OwnI; rw [putUp_len]; exact ho)
        clear ho hir
        go_wp2_with fail
        go_ret
        rw [hr.out]
        exact PInts.mk hf.out (Nat.le_refl _) (by rw [putUp_len]; omega) hx

end Go.Proofs.Ytfdpoepidlmbaaa
