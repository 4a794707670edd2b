/- Walks: GapsOf of the program and of the reference. -/
import Derived.Test.YtfdpoepidlmbaaaViewG
import Derived.Test.YtfdpoepidlmbaaaLp
import Derived.Test.YtfdpoepidlmbaaaExD
namespace Go.Proofs.Ytfdpoepidlmbaaa
open Go.RowKit
set_option linter.unusedVariables false
set_option maxRecDepth 100000

def gapA (b : Int) (s t : List Int) : List Int := if viewB b s t then gapL (cellsL b s t) else []
theorem cells_in {b : Int} {s t : List Int} (h : viewB b s t = true) : ∀ x ∈ cellsL b s t, 0 ≤ x ∧ x ≤ 59 := fun x hx => (viewB_in h).2.2.2.2 x (((cellsL_spec b s t).2 x).1 hx)
theorem gapUp_one (cs : List Int) (m : Nat) : gapUp cs (m+1) = gapUp cs m ++ gapR (cs.getD m 0) (cs.getD (m+1) 0) (cs.getD (m+1) 0 - cs.getD m 0 - 1).toNat := rfl

set_option maxHeartbeats 3200000 in
theorem implGapsOf_c (b1 : Int) (u1 v1 : Value) (s1 t1 : List Int) (w : World) (l1 m1 : Nat) (h1 : Ints w l1 u1 s1) (k1 : Ints w m1 v1 t1) :
    Calls Try.prog 88 #[.agg #[.int .i64 b1, u1, v1]] w (PInts w (gapA b1 s1 t1)) := by
  cases ha : viewB b1 s1 t1
  · have hr := Lib.hid (show gapA b1 s1 t1 = [] by unfold gapA; rw [ha]; rfl)
    go_enter Try.func88, Try.ntmps88
    go_wp2_with fail
    refine (isView_c b1 _ _ s1 t1 _ l1 m1 (h1.ext (by repeat (first | exact Ext.refl _ | assumption | apply Ext.drewN | apply Ext.drew | apply Ext.alloc))) (k1.ext (by repeat (first | exact Ext.refl _ | assumption | apply Ext.drewN | apply Ext.drew | apply Ext.alloc)))).mono ?_
    rintro e w1 ⟨rfl, xw1⟩
    have Lw1 : Ext w w1 := Ext.trans (by repeat (first | exact Ext.refl _ | assumption | apply Ext.drewN | apply Ext.drew | apply Ext.alloc)) xw1
    have Xw1 : Ext w w1 := Lw1
    have c10 : w1.cell? ⟨w.heap.size, 0, none⟩ = some (.int .i64 b1) := xw1.cell (by first | (simp; done) | (rw [World.cell?_alloc_lt _ _ _ (by simp)]; simp; done) | (go_simp; done))
    have c11 : w1.cell? ⟨w.heap.size, 1, none⟩ = some (u1) := xw1.cell (by first | (simp; done) | (rw [World.cell?_alloc_lt _ _ _ (by simp)]; simp; done) | (go_simp; done))
    have c12 : w1.cell? ⟨w.heap.size, 2, none⟩ = some (v1) := xw1.cell (by first | (simp; done) | (rw [World.cell?_alloc_lt _ _ _ (by simp)]; simp; done) | (go_simp; done))
    have z1 : w.heap.size < w1.heap.size := World.block_lt_of_cell? _ _ c10
    have sw1 : w.heap.size ≤ w1.heap.size := Lw1.size
    rw [ha]
    go_wp2_with fail
    go_ret
    rw [hr.out]
    exact PInts.nilv Xw1
  · have hr := Lib.hid (show gapA b1 s1 t1 = gapL (cellsL b1 s1 t1) by unfold gapA; rw [ha]; rfl)
    have hlen := offs_len ha
    have hbd := Lib.hid (viewB_in ha).2.2.2.2
    have ha' := Lib.hid ha
    obtain ⟨j1, j2, _⟩ := viewB_in ha
    have hin1 := Lib.hid (shapeB_in j1)
    have hg1 := Lib.hid j2
    clear j1 j2
    clear ha
    go_enter Try.func88, Try.ntmps88
    go_wp2_with fail
    refine (isView_c b1 _ _ s1 t1 _ l1 m1 (h1.ext (by repeat (first | exact Ext.refl _ | assumption | apply Ext.drewN | apply Ext.drew | apply Ext.alloc))) (k1.ext (by repeat (first | exact Ext.refl _ | assumption | apply Ext.drewN | apply Ext.drew | apply Ext.alloc)))).mono ?_
    rintro e w1 ⟨rfl, xw1⟩
    have Lw1 : Ext w w1 := Ext.trans (by repeat (first | exact Ext.refl _ | assumption | apply Ext.drewN | apply Ext.drew | apply Ext.alloc)) xw1
    have Xw1 : Ext w w1 := Lw1
    have c10 : w1.cell? ⟨w.heap.size, 0, none⟩ = some (.int .i64 b1) := xw1.cell (by first | (simp; done) | (rw [World.cell?_alloc_lt _ _ _ (by simp)]; simp; done) | (go_simp; done))
    have c11 : w1.cell? ⟨w.heap.size, 1, none⟩ = some (u1) := xw1.cell (by first | (simp; done) | (rw [World.cell?_alloc_lt _ _ _ (by simp)]; simp; done) | (go_simp; done))
    have c12 : w1.cell? ⟨w.heap.size, 2, none⟩ = some (v1) := xw1.cell (by first | (simp; done) | (rw [World.cell?_alloc_lt _ _ _ (by simp)]; simp; done) | (go_simp; done))
    have z1 : w.heap.size < w1.heap.size := World.block_lt_of_cell? _ _ c10
    have sw1 : w.heap.size ≤ w1.heap.size := Lw1.size
    rw [ha'.out]
    go_wp2_with fail
    refine (cellsOf_c b1 _ _ s1 t1 _ l1 m1 (h1.ext (Xw1.trans (by repeat (first | exact Ext.refl _ | assumption | apply Ext.drewN | apply Ext.drew | apply Ext.alloc)))) (k1.ext (Xw1.trans (by repeat (first | exact Ext.refl _ | assumption | apply Ext.drewN | apply Ext.drew | apply Ext.alloc)))) ha'.out).mono ?_
    rintro e w2 ⟨r2, rfl, i2, _, xw2⟩
    have Lw2 : Ext w1 w2 := Ext.trans (by repeat (first | exact Ext.refl _ | assumption | apply Ext.drewN | apply Ext.drew | apply Ext.alloc)) xw2
    have Xw2 : Ext w w2 := Xw1.trans Lw2
    replace c10 := Lw2.cell c10
    replace c11 := Lw2.cell c11
    replace c12 := Lw2.cell c12
    have z2 : w.heap.size < w2.heap.size := World.block_lt_of_cell? _ _ c10
    have sw2 : w1.heap.size ≤ w2.heap.size := Lw2.size
    have hcl := cells_len ha'.out
    have hcs := Lib.hid (cells_in ha'.out)
    generalize cellsL b1 s1 t1 = cs at *
    obtain ⟨a, c, rfl⟩ := i2.form
    clear c10 c11 c12 z2 h1 k1
    go_wp2_with fail
    go_loopw [4, 5] (fun v i wr => ∃ m : Nat, (m = 0 ∨ m < cs.length) ∧ i = .int .i64 ((m : Int) + 1) ∧ OwnI wr w2.heap.size v (gapUp cs m) ∧ Ext w2 wr) (fun _ i _ => cs.length - (intOf i).toNat)
    case atStart => exact ⟨0, .inl rfl, rfl, OwnI.lit0 w2 w2.heap.size (Nat.le_refl _), (by repeat (first | exact Ext.refl _ | assumption | apply Ext.drewN | apply Ext.drew | apply Ext.alloc))⟩
    case round =>
      obtain ⟨m, hm, rfl, hB⟩ := hrel
      obtain ⟨wo, rfl⟩ : ∃ wo : World, wo = wr := ⟨_, rfl⟩
      have hir := i2.ext hB.2
      by_cases hlt : m + 1 < cs.length
      · have hgl := Lib.hid (gapUp_len hcs.out m (by omega))
        have hs := Lib.hid (gapUp_one cs m)
        have hb1 := hcs.out _ (List.getElem_mem (show m < cs.length by omega))
        have hb2 := hcs.out _ (List.getElem_mem hlt)
        have g1 : cs.getD m 0 = cs[m] := by simp [show m < cs.length by omega]
        have g2 : cs.getD (m+1) 0 = cs[m+1] := by simp [hlt]
        rw [g1, g2] at hs
        have hlI : (m : Int) + 1 < cs.length := by omega
        have hir' := Lib.hid hir
        obtain ⟨_, _, hv, _, hcm, _, hc⟩ := hir
        cases hv
        unfold maxLen at hcm
        obtain ⟨b, off, rfl, _, hcell1, _⟩ := hc m (by omega)
        rw [g1] at hcell1
        clear hc g1 g2
        generalize hx0 : cs[m] = x0 at *
        generalize hy0 : cs[m+1] = y0 at *
        have hB' := Lib.hid hB
        replace hx0 := Lib.hid hx0
        replace hy0 := Lib.hid hy0
        clear hB
        go_wp2_with fail
        go_loopw [4, 6] (fun v x wr => ∃ n : Nat, n ≤ (y0 - x0 - 1).toNat ∧ x = .int .i64 (x0 + 1 + n) ∧ OwnI wr w2.heap.size v (gapUp cs m ++ gapR x0 y0 n) ∧ Ext w2 wr) (fun _ x _ => (60 - intOf x).toNat)
        case atStart => exact ⟨0, Nat.zero_le _, by simp, by simpa [gapR] using hB'.out⟩
        case round =>
          obtain ⟨n, hn, rfl, hB⟩ := hrel
          have hB2 := Lib.hid hB
          have hir := i2.ext hB.2
          obtain ⟨_, _, hv, _, _, _, hc⟩ := hir
          cases hv
          obtain ⟨_, _, hh, _, hcell2, _⟩ := hc (m+1) hlt
          cases hh
          have g2 : cs.getD (m+1) 0 = y0 := by rw [← hy0.out]; simp [hlt]
          rw [g2] at hcell2
          have hz := hB2.out.2.size
          have hgr := gapR_succ x0 y0 n
          replace hgr := Lib.hid hgr
          clear hc hB g2 hcell1
          by_cases hlt2 : x0 + 1 + n < y0
          · go_wp2_with (at_builtin; refine wpList_app rfl (.tmp 33) (.tmp 35) rfl rfl rfl (hB2.out.1.ext ((Ext.refl _).alloc _)) (Ints.one _ 0 _ (Nat.zero_le _)) (by have := hgl.out; simp only [List.length_cons, List.length_nil, List.length_append, gapR_len]; omega) (by simp; omega) ?_)
            intro v' w3 ho3 hg3 hb3 hv3
            have hB3 := Lib.hid (And.intro ho3 ((hB2.out.2.alloc (.cells #[.int .i64 (x0 + 1 + n)] 3)).below hb3 (by omega)))
            clear ho3 hg3 hb3 hv3 hcell2
            go_wp2_with fail
            go_roundw
            case rel => exact ⟨n+1, by omega, by go_num, by rw [hgr.out]; exact hB3.out⟩
            case measure => simp [intOf]; omega
          · obtain rfl : n = (y0 - x0 - 1).toNat := by omega
            go_wp2_with fail
            go_roundw
            case rel => exact ⟨m+1, .inr hlt, by go_num, by rw [hs.out]; exact hB2.out⟩
            case measure => simp [intOf]; omega
      · have hgn : gapL cs = gapUp cs m := by unfold gapL; congr 1; omega
        replace hgn := Lib.hid hgn
        have hgl := gapUp_len hcs.out m hm.symm
        replace hB := Lib.hid hB
        have hlI : ¬ (m : Int) + 1 < cs.length := by omega
        clear hir
        go_wp2_with fail
        go_ret
        rw [hr.out, hgn.out]
        exact PInts.mk hB.out.1 (by omega) (by omega) (Xw2.trans hB.out.2)

set_option maxHeartbeats 3200000 in
theorem specGapsOf_c (b1 : Int) (u1 v1 : Value) (s1 t1 : List Int) (w : World) (l1 m1 : Nat) (h1 : Ints w l1 u1 s1) (k1 : Ints w m1 v1 t1) :
    Calls Try.prog 87 #[.agg #[.int .i64 b1, u1, v1]] w (PInts w (gapA b1 s1 t1)) := by
  cases ha : viewB b1 s1 t1
  · have hr := Lib.hid (show gapA b1 s1 t1 = [] by unfold gapA; rw [ha]; rfl)
    go_enter Try.func87, Try.ntmps87
    go_wp2_with fail
    refine (validView_c b1 _ _ s1 t1 _ l1 m1 (h1.ext (by repeat (first | exact Ext.refl _ | assumption | apply Ext.drewN | apply Ext.drew | apply Ext.alloc))) (k1.ext (by repeat (first | exact Ext.refl _ | assumption | apply Ext.drewN | apply Ext.drew | apply Ext.alloc)))).mono ?_
    rintro e w1 ⟨rfl, xw1⟩
    have Lw1 : Ext w w1 := Ext.trans (by repeat (first | exact Ext.refl _ | assumption | apply Ext.drewN | apply Ext.drew | apply Ext.alloc)) xw1
    have Xw1 : Ext w w1 := Lw1
    have c10 : w1.cell? ⟨w.heap.size, 0, none⟩ = some (.int .i64 b1) := xw1.cell (by first | (simp; done) | (rw [World.cell?_alloc_lt _ _ _ (by simp)]; simp; done) | (go_simp; done))
    have c11 : w1.cell? ⟨w.heap.size, 1, none⟩ = some (u1) := xw1.cell (by first | (simp; done) | (rw [World.cell?_alloc_lt _ _ _ (by simp)]; simp; done) | (go_simp; done))
    have c12 : w1.cell? ⟨w.heap.size, 2, none⟩ = some (v1) := xw1.cell (by first | (simp; done) | (rw [World.cell?_alloc_lt _ _ _ (by simp)]; simp; done) | (go_simp; done))
    have z1 : w.heap.size < w1.heap.size := World.block_lt_of_cell? _ _ c10
    have sw1 : w.heap.size ≤ w1.heap.size := Lw1.size
    rw [ha]
    go_wp2_with fail
    go_ret
    rw [hr.out]
    exact PInts.nilv Xw1
  · have hr := Lib.hid (show gapA b1 s1 t1 = gapL (cellsL b1 s1 t1) by unfold gapA; rw [ha]; rfl)
    have hlen := offs_len ha
    have hbd := Lib.hid (viewB_in ha).2.2.2.2
    have ha' := Lib.hid ha
    obtain ⟨j1, j2, _⟩ := viewB_in ha
    have hin1 := Lib.hid (shapeB_in j1)
    have hg1 := Lib.hid j2
    clear j1 j2
    clear ha
    go_enter Try.func87, Try.ntmps87
    go_wp2_with fail
    refine (validView_c b1 _ _ s1 t1 _ l1 m1 (h1.ext (by repeat (first | exact Ext.refl _ | assumption | apply Ext.drewN | apply Ext.drew | apply Ext.alloc))) (k1.ext (by repeat (first | exact Ext.refl _ | assumption | apply Ext.drewN | apply Ext.drew | apply Ext.alloc)))).mono ?_
    rintro e w1 ⟨rfl, xw1⟩
    have Lw1 : Ext w w1 := Ext.trans (by repeat (first | exact Ext.refl _ | assumption | apply Ext.drewN | apply Ext.drew | apply Ext.alloc)) xw1
    have Xw1 : Ext w w1 := Lw1
    have c10 : w1.cell? ⟨w.heap.size, 0, none⟩ = some (.int .i64 b1) := xw1.cell (by first | (simp; done) | (rw [World.cell?_alloc_lt _ _ _ (by simp)]; simp; done) | (go_simp; done))
    have c11 : w1.cell? ⟨w.heap.size, 1, none⟩ = some (u1) := xw1.cell (by first | (simp; done) | (rw [World.cell?_alloc_lt _ _ _ (by simp)]; simp; done) | (go_simp; done))
    have c12 : w1.cell? ⟨w.heap.size, 2, none⟩ = some (v1) := xw1.cell (by first | (simp; done) | (rw [World.cell?_alloc_lt _ _ _ (by simp)]; simp; done) | (go_simp; done))
    have z1 : w.heap.size < w1.heap.size := World.block_lt_of_cell? _ _ c10
    have sw1 : w.heap.size ≤ w1.heap.size := Lw1.size
    rw [ha'.out]
    go_wp2_with fail
    refine (used_c b1 _ _ s1 t1 _ l1 m1 (h1.ext (Xw1.trans (by repeat (first | exact Ext.refl _ | assumption | apply Ext.drewN | apply Ext.drew | apply Ext.alloc)))) (k1.ext (Xw1.trans (by repeat (first | exact Ext.refl _ | assumption | apply Ext.drewN | apply Ext.drew | apply Ext.alloc)))) ha'.out).mono ?_
    rintro e w2 ⟨r2, rfl, i2, _, xw2⟩
    have Lw2 : Ext w1 w2 := Ext.trans (by repeat (first | exact Ext.refl _ | assumption | apply Ext.drewN | apply Ext.drew | apply Ext.alloc)) xw2
    have Xw2 : Ext w w2 := Xw1.trans Lw2
    replace c10 := Lw2.cell c10
    replace c11 := Lw2.cell c11
    replace c12 := Lw2.cell c12
    have z2 : w.heap.size < w2.heap.size := World.block_lt_of_cell? _ _ c10
    have sw2 : w1.heap.size ≤ w2.heap.size := Lw2.size
    have hcl := cells_len ha'.out
    have hcs := Lib.hid (cells_in ha'.out)
    have hsd := Beside.start xw2 i2 (by simp)
    generalize cellsL b1 s1 t1 = cs at *
    obtain ⟨a, c, rfl⟩ := i2.form
    clear c10 c11 c12 z2 h1 k1 i2
    go_wp2_with fail
    go_loopw [3, 5] (fun v i wr => ∃ m : Nat, (m = 0 ∨ m < cs.length) ∧ i = .int .i64 ((m : Int) + 1) ∧ Beside w1.heap.size w1 wr v (gapUp cs m) (.slice a cs.length c) cs) (fun _ i _ => cs.length - (intOf i).toNat)
    case atStart => exact ⟨0, .inl rfl, rfl, hsd⟩
    case round =>
      obtain ⟨m, hm, rfl, hB⟩ := hrel
      obtain ⟨wo, rfl⟩ : ∃ wo : World, wo = wr := ⟨_, rfl⟩
      have hir := hB.ints
      by_cases hlt : m + 1 < cs.length
      · have hgl := Lib.hid (gapUp_len hcs.out m (by omega))
        have hs := Lib.hid (gapUp_one cs m)
        have hb1 := hcs.out _ (List.getElem_mem (show m < cs.length by omega))
        have hb2 := hcs.out _ (List.getElem_mem hlt)
        have g1 : cs.getD m 0 = cs[m] := by simp [show m < cs.length by omega]
        have g2 : cs.getD (m+1) 0 = cs[m+1] := by simp [hlt]
        rw [g1, g2] at hs
        have hlI : (m : Int) + 1 < cs.length := by omega
        have hir' := Lib.hid hir
        obtain ⟨_, _, hv, _, hcm, _, hc⟩ := hir
        cases hv
        unfold maxLen at hcm
        obtain ⟨b, off, rfl, _, hcell1, _⟩ := hc m (by omega)
        rw [g1] at hcell1
        clear hc g1 g2
        generalize hx0 : cs[m] = x0 at *
        generalize hy0 : cs[m+1] = y0 at *
        have hB' := Lib.hid hB
        replace hx0 := Lib.hid hx0
        replace hy0 := Lib.hid hy0
        clear hB
        go_wp2_with fail
        go_loopw [3, 6] (fun v x wr => ∃ n : Nat, n ≤ (y0 - x0 - 1).toNat ∧ x = .int .i64 (x0 + 1 + n) ∧ Beside w1.heap.size w1 wr v (gapUp cs m ++ gapR x0 y0 n) (.slice (some ⟨b, off, none⟩) cs.length c) cs) (fun _ x _ => (60 - intOf x).toNat)
        case atStart => exact ⟨0, Nat.zero_le _, by simp, by simpa [gapR] using hB'.out⟩
        case round =>
          obtain ⟨n, hn, rfl, hB⟩ := hrel
          have hB2 := Lib.hid hB
          have hir := hB.ints
          obtain ⟨_, _, hv, _, _, _, hc⟩ := hir
          cases hv
          obtain ⟨_, _, hh, _, hcell2, _⟩ := hc (m+1) hlt
          cases hh
          have g2 : cs.getD (m+1) 0 = y0 := by rw [← hy0.out]; simp [hlt]
          rw [g2] at hcell2
          have hz := hB2.out.size
          have hgr := gapR_succ x0 y0 n
          replace hgr := Lib.hid hgr
          clear hc hB g2 hcell1
          by_cases hlt2 : x0 + 1 + n < y0
          · go_wp2_with (at_builtin; refine wpList_app rfl (.tmp 33) (.tmp 35) rfl rfl rfl (hB2.out.own.ext ((Ext.refl _).alloc _)) (Ints.one _ 0 _ (Nat.zero_le _)) (by have := hgl.out; simp only [List.length_cons, List.length_nil, List.length_append, gapR_len]; omega) (by simp; omega) ?_)
            intro v' w3 ho3 hg3 hb3 hv3
            have hB3 := Lib.hid (hB2.out.app _ ho3 hg3 hb3 (by simpa using hv3))
            clear ho3 hg3 hb3 hv3 hcell2
            go_wp2_with fail
            go_roundw
            case rel => exact ⟨n+1, by omega, by go_num, by rw [hgr.out]; exact hB3.out⟩
            case measure => simp [intOf]; omega
          · obtain rfl : n = (y0 - x0 - 1).toNat := by omega
            go_wp2_with fail
            go_roundw
            case rel => exact ⟨m+1, .inr hlt, by go_num, by rw [hs.out]; exact hB2.out⟩
            case measure => simp [intOf]; omega
      · have hgn : gapL cs = gapUp cs m := by unfold gapL; congr 1; omega
        replace hgn := Lib.hid hgn
        have hgl := gapUp_len hcs.out m hm.symm
        replace hB := Lib.hid hB
        have hlI : ¬ (m : Int) + 1 < cs.length := by omega
        clear hir
        go_wp2_with fail
        go_ret
        rw [hr.out, hgn.out]
        exact PInts.mk hB.out.own (by omega) (by omega) (Xw1.below hB.out.bel (by omega))

end Go.Proofs.Ytfdpoepidlmbaaa
