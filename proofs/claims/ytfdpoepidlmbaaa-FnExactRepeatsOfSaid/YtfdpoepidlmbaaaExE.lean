/- Walks: RepeatsOf of the program and of the reference. -/
import Derived.Test.YtfdpoepidlmbaaaViewG
import Derived.Test.YtfdpoepidlmbaaaLp
namespace Go.Proofs.Ytfdpoepidlmbaaa
open Go.RowKit
set_option linter.unusedVariables false
set_option maxRecDepth 100000

def repA (b : Int) (s t : List Int) : List Int := if viewB b s t then repS (offsL b s t) 60 else []

set_option maxHeartbeats 3200000 in
theorem implRepeatsOf_c (b1 : Int) (u1 v1 : Value) (s1 t1 : List Int) (w : World) (l1 m1 : Nat) (h1 : Ints w l1 u1 s1) (k1 : Ints w m1 v1 t1) :
    Calls Try.prog 86 #[.agg #[.int .i64 b1, u1, v1]] w (PInts w (repA b1 s1 t1)) := by
  cases ha : viewB b1 s1 t1
  · have hr := Lib.hid (show repA b1 s1 t1 = [] by unfold repA; rw [ha]; rfl)
    go_enter Try.func86, Try.ntmps86
    go_wp2_with fail
    refine (isView_c b1 _ _ s1 t1 _ l1 m1 (h1.ext (by repeat (first | exact Ext.refl _ | assumption | apply Ext.drewN | apply Ext.drew | apply Ext.alloc))) (k1.ext (by repeat (first | exact Ext.refl _ | assumption | apply Ext.drewN | apply Ext.drew | apply Ext.alloc)))).mono ?_
    rintro e w1 ⟨rfl, xw1⟩
    have Lw1 : Ext w w1 := Ext.trans (by repeat (first | exact Ext.refl _ | assumption | apply Ext.drewN | apply Ext.drew | apply Ext.alloc)) xw1
    have Xw1 : Ext w w1 := Lw1
    have c10 : w1.cell? ⟨w.heap.size, 0, none⟩ = some (.int .i64 b1) := xw1.cell (by first | (simp; done) | (rw [World.cell?_alloc_lt _ _ _ (by simp)]; simp; done) | (go_simp; done))
    have c11 : w1.cell? ⟨w.heap.size, 1, none⟩ = some (u1) := xw1.cell (by first | (simp; done) | (rw [World.cell?_alloc_lt _ _ _ (by simp)]; simp; done) | (go_simp; done))
    have c12 : w1.cell? ⟨w.heap.size, 2, none⟩ = some (v1) := xw1.cell (by first | (simp; done) | (rw [World.cell?_alloc_lt _ _ _ (by simp)]; simp; done) | (go_simp; done))
    have z1 : w.heap.size < w1.heap.size := World.block_lt_of_cell? _ _ c10
    have sw1 : w.heap.size ≤ w1.heap.size := Lw1.size
    rw [ha]
    go_wp2_with fail
    go_ret
    rw [hr.out]
    exact PInts.nilv Xw1
  · have hr := Lib.hid (show repA b1 s1 t1 = repS (offsL b1 s1 t1) 60 by unfold repA; rw [ha]; rfl)
    have hlen := offs_len ha
    have hbd := Lib.hid (viewB_in ha).2.2.2.2
    have ha' := Lib.hid ha
    obtain ⟨j1, j2, _⟩ := viewB_in ha
    have hin1 := Lib.hid (shapeB_in j1)
    have hg1 := Lib.hid j2
    clear j1 j2
    clear ha
    go_enter Try.func86, Try.ntmps86
    go_wp2_with fail
    refine (isView_c b1 _ _ s1 t1 _ l1 m1 (h1.ext (by repeat (first | exact Ext.refl _ | assumption | apply Ext.drewN | apply Ext.drew | apply Ext.alloc))) (k1.ext (by repeat (first | exact Ext.refl _ | assumption | apply Ext.drewN | apply Ext.drew | apply Ext.alloc)))).mono ?_
    rintro e w1 ⟨rfl, xw1⟩
    have Lw1 : Ext w w1 := Ext.trans (by repeat (first | exact Ext.refl _ | assumption | apply Ext.drewN | apply Ext.drew | apply Ext.alloc)) xw1
    have Xw1 : Ext w w1 := Lw1
    have c10 : w1.cell? ⟨w.heap.size, 0, none⟩ = some (.int .i64 b1) := xw1.cell (by first | (simp; done) | (rw [World.cell?_alloc_lt _ _ _ (by simp)]; simp; done) | (go_simp; done))
    have c11 : w1.cell? ⟨w.heap.size, 1, none⟩ = some (u1) := xw1.cell (by first | (simp; done) | (rw [World.cell?_alloc_lt _ _ _ (by simp)]; simp; done) | (go_simp; done))
    have c12 : w1.cell? ⟨w.heap.size, 2, none⟩ = some (v1) := xw1.cell (by first | (simp; done) | (rw [World.cell?_alloc_lt _ _ _ (by simp)]; simp; done) | (go_simp; done))
    have z1 : w.heap.size < w1.heap.size := World.block_lt_of_cell? _ _ c10
    have sw1 : w.heap.size ≤ w1.heap.size := Lw1.size
    rw [ha'.out]
    go_wp2_with fail
    refine (offsetsOf_c b1 _ _ s1 t1 _ l1 m1 (h1.ext (Xw1.trans (by repeat (first | exact Ext.refl _ | assumption | apply Ext.drewN | apply Ext.drew | apply Ext.alloc)))) (k1.ext (Xw1.trans (by repeat (first | exact Ext.refl _ | assumption | apply Ext.drewN | apply Ext.drew | apply Ext.alloc)))) (by have := hg1.out; omega) hin1.out.2.2.2.2 (by have := hin1.out; omega)).mono ?_
    rintro e w2 ⟨r2, rfl, i2, _, xw2⟩
    have Lw2 : Ext w1 w2 := Ext.trans (by repeat (first | exact Ext.refl _ | assumption | apply Ext.drewN | apply Ext.drew | apply Ext.alloc)) xw2
    have Xw2 : Ext w w2 := Xw1.trans Lw2
    replace c10 := Lw2.cell c10
    replace c11 := Lw2.cell c11
    replace c12 := Lw2.cell c12
    have z2 : w.heap.size < w2.heap.size := World.block_lt_of_cell? _ _ c10
    have sw2 : w1.heap.size ≤ w2.heap.size := Lw2.size
    have heq := Lib.hid (rep_eq hbd.out)
    generalize offsL b1 s1 t1 = xs at *
    obtain ⟨a, c, rfl⟩ := i2.form
    clear c10 c11 c12 z2 h1 k1
    go_wp2_with fail
    go_loopw [4, 15] (fun v i wr => ∃ k : Nat, k ≤ xs.length ∧ i = .int .i64 k ∧ OwnI wr w2.heap.size v (repUp xs k) ∧ Ext w2 wr) (fun _ i _ => xs.length - (intOf i).toNat)
    case atStart => exact ⟨0, Nat.zero_le _, rfl, OwnI.lit0 w2 w2.heap.size (Nat.le_refl _), (by repeat (first | exact Ext.refl _ | assumption | apply Ext.drewN | apply Ext.drew | apply Ext.alloc))⟩
    case round =>
      obtain ⟨k, hk, rfl, ho, hx⟩ := hrel
      have hir := i2.ext hx
      have hz := hx.size
      have hl := repUp_len xs k
      by_cases hlt : k < xs.length
      · have hs := Lib.hid (repUp_succ xs k)
        have hvt := Lib.hid (hir.take k (by omega))
        obtain ⟨a', cap, hv, hlc, hcm, _, hc⟩ := hir
        cases hv
        obtain ⟨b, off, rfl, _, hcell, _⟩ := hc k hlt
        have hgd : xs.getD k 0 = xs[k] := by simp [hlt]
        rw [hgd] at hcell
        unfold maxLen at hcm
        have hk4 : (k : Int) < xs.length := by omega
        have hk5 : (k : Int) ≤ c := by omega
        cases h1 : hasB (xs.take k) xs[k]
        · have hs' := Lib.hid (show repUp xs (k+1) = repUp xs k by rw [hs.out, hgd]; rw [show (xs.take k).contains xs[k] = false from h1]; simp)
          have h1' := Lib.hid h1
          clear hc hgd h1
          go_wp2_with fail
          refine (contains_c _ _ _ _ _ hvt.out).mono ?_
          rintro e w' ⟨rfl, rfl⟩
          rw [h1'.out]
          go_wp2_with fail
          go_roundw
          case rel => exact ⟨k+1, by omega, by go_num, by rw [hs'.out]; exact ho, hx⟩
          case measure => simp [intOf]; omega
        · have hs' := Lib.hid (show repUp xs (k+1) = repUp xs k ++ [xs[k]] by rw [hs.out, hgd]; rw [show (xs.take k).contains xs[k] = true from h1]; simp)
          have h1' := Lib.hid h1
          clear hc hgd h1
          go_wp2_with fail
          refine (contains_c _ _ _ _ _ hvt.out).mono ?_
          rintro e w' ⟨rfl, rfl⟩
          rw [h1'.out]
          go_wp2_with (at_builtin; refine wpList_app rfl (.tmp 25) (.tmp 27) rfl rfl rfl (ho.ext ((Ext.refl _).alloc _)) (Ints.one _ 0 _ (Nat.zero_le _)) (by simp only [List.length_cons, List.length_nil]; omega) (by simp; omega) ?_)
          intro v' w3 ho3 _ hb3 _
          have hx3 := (hx.alloc (.cells #[.int .i64 xs[k]] 3)).below hb3 (by omega)
          clear hb3 ho
          replace ho3 := Lib.hid ho3
          go_wp2_with fail
          go_roundw
          case rel => exact ⟨k+1, by omega, by go_num, by rw [hs'.out]; exact ho3.out, hx3⟩
          case measure => simp [intOf]; omega
      · obtain rfl : k = xs.length := by omega
        have ho' := Lib.hid ho
        clear ho hir
        go_wp2_with fail
        refine (sort_c _ _ _ w2.heap.size ho'.out.z (by omega) (by omega)).mono ?_
        rintro e w4 ⟨rfl, ho4, hb4⟩
        have hz4 := hb4.size
        go_wp2_with fail
        refine (compact_c _ _ _ w2.heap.size ho4 (by rw [sortL_len]; omega) (by omega)).mono ?_
        rintro e w5 ⟨v5, rfl, ho5, he5, hb5⟩
        have hcl := compact_len_le (sortL (repUp xs xs.length))
        rw [sortL_len] at hcl
        have hX := ((Xw2.trans hx).below hb4 (by omega)).below hb5 (by omega)
        clear ho4 hb4 hb5 he5
        replace ho5 := Lib.hid ho5
        go_wp2_with fail
        go_ret
        rw [hr.out, ← heq.out]
        exact PInts.mkz ho5.out (by omega) (by omega) hX

set_option maxHeartbeats 3200000 in
theorem specRepeatsOf_c (b1 : Int) (u1 v1 : Value) (s1 t1 : List Int) (w : World) (l1 m1 : Nat) (h1 : Ints w l1 u1 s1) (k1 : Ints w m1 v1 t1) :
    Calls Try.prog 85 #[.agg #[.int .i64 b1, u1, v1]] w (PInts w (repA b1 s1 t1)) := by
  cases ha : viewB b1 s1 t1
  · have hr := Lib.hid (show repA b1 s1 t1 = [] by unfold repA; rw [ha]; rfl)
    go_enter Try.func85, Try.ntmps85
    go_wp2_with fail
    refine (validView_c b1 _ _ s1 t1 _ l1 m1 (h1.ext (by repeat (first | exact Ext.refl _ | assumption | apply Ext.drewN | apply Ext.drew | apply Ext.alloc))) (k1.ext (by repeat (first | exact Ext.refl _ | assumption | apply Ext.drewN | apply Ext.drew | apply Ext.alloc)))).mono ?_
    rintro e w1 ⟨rfl, xw1⟩
    have Lw1 : Ext w w1 := Ext.trans (by repeat (first | exact Ext.refl _ | assumption | apply Ext.drewN | apply Ext.drew | apply Ext.alloc)) xw1
    have Xw1 : Ext w w1 := Lw1
    have c10 : w1.cell? ⟨w.heap.size, 0, none⟩ = some (.int .i64 b1) := xw1.cell (by first | (simp; done) | (rw [World.cell?_alloc_lt _ _ _ (by simp)]; simp; done) | (go_simp; done))
    have c11 : w1.cell? ⟨w.heap.size, 1, none⟩ = some (u1) := xw1.cell (by first | (simp; done) | (rw [World.cell?_alloc_lt _ _ _ (by simp)]; simp; done) | (go_simp; done))
    have c12 : w1.cell? ⟨w.heap.size, 2, none⟩ = some (v1) := xw1.cell (by first | (simp; done) | (rw [World.cell?_alloc_lt _ _ _ (by simp)]; simp; done) | (go_simp; done))
    have z1 : w.heap.size < w1.heap.size := World.block_lt_of_cell? _ _ c10
    have sw1 : w.heap.size ≤ w1.heap.size := Lw1.size
    rw [ha]
    go_wp2_with fail
    go_ret
    rw [hr.out]
    exact PInts.nilv Xw1
  · have hr := Lib.hid (show repA b1 s1 t1 = repS (offsL b1 s1 t1) 60 by unfold repA; rw [ha]; rfl)
    have hlen := offs_len ha
    have hbd := Lib.hid (viewB_in ha).2.2.2.2
    have ha' := Lib.hid ha
    obtain ⟨j1, j2, _⟩ := viewB_in ha
    have hin1 := Lib.hid (shapeB_in j1)
    have hg1 := Lib.hid j2
    clear j1 j2
    clear ha
    go_enter Try.func85, Try.ntmps85
    go_wp2_with fail
    refine (validView_c b1 _ _ s1 t1 _ l1 m1 (h1.ext (by repeat (first | exact Ext.refl _ | assumption | apply Ext.drewN | apply Ext.drew | apply Ext.alloc))) (k1.ext (by repeat (first | exact Ext.refl _ | assumption | apply Ext.drewN | apply Ext.drew | apply Ext.alloc)))).mono ?_
    rintro e w1 ⟨rfl, xw1⟩
    have Lw1 : Ext w w1 := Ext.trans (by repeat (first | exact Ext.refl _ | assumption | apply Ext.drewN | apply Ext.drew | apply Ext.alloc)) xw1
    have Xw1 : Ext w w1 := Lw1
    have c10 : w1.cell? ⟨w.heap.size, 0, none⟩ = some (.int .i64 b1) := xw1.cell (by first | (simp; done) | (rw [World.cell?_alloc_lt _ _ _ (by simp)]; simp; done) | (go_simp; done))
    have c11 : w1.cell? ⟨w.heap.size, 1, none⟩ = some (u1) := xw1.cell (by first | (simp; done) | (rw [World.cell?_alloc_lt _ _ _ (by simp)]; simp; done) | (go_simp; done))
    have c12 : w1.cell? ⟨w.heap.size, 2, none⟩ = some (v1) := xw1.cell (by first | (simp; done) | (rw [World.cell?_alloc_lt _ _ _ (by simp)]; simp; done) | (go_simp; done))
    have z1 : w.heap.size < w1.heap.size := World.block_lt_of_cell? _ _ c10
    have sw1 : w.heap.size ≤ w1.heap.size := Lw1.size
    rw [ha'.out]
    go_wp2_with fail
    refine (offsets_c b1 _ _ s1 t1 _ l1 m1 (h1.ext (Xw1.trans (by repeat (first | exact Ext.refl _ | assumption | apply Ext.drewN | apply Ext.drew | apply Ext.alloc)))) (k1.ext (Xw1.trans (by repeat (first | exact Ext.refl _ | assumption | apply Ext.drewN | apply Ext.drew | apply Ext.alloc)))) (by have := hg1.out; omega) hin1.out.2.2.2.2 (by have := hin1.out; omega)).mono ?_
    rintro e w2 ⟨r2, rfl, i2, _, xw2⟩
    have Lw2 : Ext w1 w2 := Ext.trans (by repeat (first | exact Ext.refl _ | assumption | apply Ext.drewN | apply Ext.drew | apply Ext.alloc)) xw2
    have Xw2 : Ext w w2 := Xw1.trans Lw2
    replace c10 := Lw2.cell c10
    replace c11 := Lw2.cell c11
    replace c12 := Lw2.cell c12
    have z2 : w.heap.size < w2.heap.size := World.block_lt_of_cell? _ _ c10
    have sw2 : w1.heap.size ≤ w2.heap.size := Lw2.size
    have hsd := Beside.start xw2 i2 (by simp)
    generalize offsL b1 s1 t1 = xs at *
    obtain ⟨a, c, rfl⟩ := i2.form
    clear c10 c11 c12 z2 h1 k1 i2
    go_wp2_with fail
    go_loopw [3, 5] (fun v i wr => ∃ k : Nat, k ≤ 60 ∧ i = .int .i64 k ∧ Beside w1.heap.size w1 wr v (repS xs k) (.slice a xs.length c) xs) (fun _ i _ => 60 - (intOf i).toNat)
    case atStart => exact ⟨0, Nat.zero_le _, rfl, hsd⟩
    case round =>
      obtain ⟨k, hk, rfl, hB⟩ := hrel
      have hz := hB.size
      have hl : (repS xs k).length ≤ k := filter_len_up _ _
      have hir := Lib.hid hB.ints
      by_cases hlt : k < 60
      · have hk' : (k : Int) < 60 := by omega
        have hs := Lib.hid (repS_succ xs k)
        by_cases hp : 0 ≤ placeL xs k
        · obtain ⟨j, hj, hj2, _, _⟩ := placeL_some hp
          have hpj : placeL (xs.drop (j+1)) k = placeL (xs.drop ((placeL xs k).toNat + 1)) k := by rw [hj]; rfl
          have hrb : repB xs k = decide (0 ≤ placeL (xs.drop (j+1)) k) := by unfold repB; rw [← hpj, decide_eq_true hp]; rfl
          have hj' := Lib.hid hj
          obtain ⟨_, _, hv, hcap1, hcap2, _, hcl⟩ := hir.out
          cases hv
          obtain ⟨b, off, rfl, _⟩ := hcl j hj2
          unfold maxLen at hcap2
          have hj3 : ((j : Int) + 1) ≤ xs.length := by omega
          have hj4 : ((j : Int) + 1) ≤ c := by omega
          clear hp hj hpj hcl
          by_cases hcj : c = j + 1
          · have hdr := Lib.hid (hir.out.drop0 (j+1) (by omega) hcj)
            have hdn : xs.drop (j+1) = [] := by rw [List.drop_eq_nil_iff]; omega
            have hpn : placeL (xs.drop (j+1)) k = -1 := by rw [hdn]; rfl
            have hs' := Lib.hid (show repS xs (k+1) = repS xs k by rw [hs.out, hrb, hpn]; simp)
            replace hpn := Lib.hid hpn
            subst hcj
            clear hrb hdn hcap1 hcap2
            go_wp2_with fail
            refine (placeIn_c _ _ _ _ _ hir.out).mono ?_
            rintro e w' ⟨rfl, rfl⟩
            rw [hj'.out]
            go_wp2_with fail
            refine (placeIn_c _ _ _ _ _ hdr.out).mono ?_
            rintro e w' ⟨rfl, rfl⟩
            rw [hpn.out]
            go_wp2_with fail
            go_roundw
            case rel => exact ⟨k+1, by omega, by go_num, by rw [hs'.out]; exact hB⟩
            case measure => simp [intOf]; omega
          · have hdr := Lib.hid (hir.out.drop1 (j+1) (by omega) hcj)
            by_cases hq : 0 ≤ placeL (xs.drop (j+1)) k
            · have hs' := Lib.hid (show repS xs (k+1) = repS xs k ++ [(k : Int)] by rw [hs.out, hrb, decide_eq_true hq]; simp)
              clear hrb
              go_wp2_with fail
              refine (placeIn_c _ _ _ _ _ hir.out).mono ?_
              rintro e w' ⟨rfl, rfl⟩
              rw [hj'.out]
              go_wp2_with fail
              refine (placeIn_c _ _ _ _ _ hdr.out).mono ?_
              rintro e w' ⟨rfl, rfl⟩
              go_wp2_with (at_builtin; refine wpList_app rfl (.tmp 31) (.tmp 33) rfl rfl rfl (hB.own.ext ((Ext.refl _).alloc _)) (Ints.one _ 0 _ (Nat.zero_le _)) (by simp only [List.length_cons, List.length_nil]; omega) (by simp; omega) ?_)
              intro v' w3 ho3 hg3 hb3 hv3
              have hB3 := Lib.hid (hB.app _ ho3 hg3 hb3 (by simpa using hv3))
              clear ho3 hg3 hb3 hv3 hB
              go_wp2_with fail
              go_roundw
              case rel => exact ⟨k+1, by omega, by go_num, by rw [hs'.out]; exact hB3.out⟩
              case measure => simp [intOf]; omega
            · have hs' := Lib.hid (show repS xs (k+1) = repS xs k by rw [hs.out, hrb, decide_eq_false hq]; simp)
              clear hrb
              go_wp2_with fail
              refine (placeIn_c _ _ _ _ _ hir.out).mono ?_
              rintro e w' ⟨rfl, rfl⟩
              rw [hj'.out]
              go_wp2_with fail
              refine (placeIn_c _ _ _ _ _ hdr.out).mono ?_
              rintro e w' ⟨rfl, rfl⟩
              go_wp2_with fail
              go_roundw
              case rel => exact ⟨k+1, by omega, by go_num, by rw [hs'.out]; exact hB⟩
              case measure => simp [intOf]; omega
        · have hs' := Lib.hid (show repS xs (k+1) = repS xs k by rw [hs.out]; unfold repB; rw [decide_eq_false hp]; simp)
          go_wp2_with fail
          refine (placeIn_c _ _ _ _ _ hir.out).mono ?_
          rintro e w' ⟨rfl, rfl⟩
          go_wp2_with fail
          go_roundw
          case rel => exact ⟨k+1, by omega, by go_num, by rw [hs'.out]; exact hB⟩
          case measure => simp [intOf]; omega
      · obtain rfl : k = 60 := by omega
        have hB' := Lib.hid hB
        clear hB
        go_wp2_with fail
        go_ret
        rw [hr.out]
        exact PInts.mk hB'.out.own (by omega) (by omega) (Xw1.below hB'.out.bel (by omega))

end Go.Proofs.Ytfdpoepidlmbaaa
