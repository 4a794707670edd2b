/- Walks of the reference's shapes and views. -/
import Derived.Test.YtjpngmdfnglabaaViewC
namespace Go.Proofs.Ytjpngmdfnglabaa
open Go.RowKit
set_option linter.unusedVariables false
set_option maxRecDepth 100000

set_option maxHeartbeats 400000 in
theorem inRange_c (n lo hi : Int) (w : World) :
    Calls Try.prog 70 #[.int .i64 n, .int .i64 lo, .int .i64 hi] w fun e w' => e = .returned (.bool (inB lo hi n)) ∧ w = w' := by
  by_cases h : lo ≤ n
  · go_enter Try.func70, Try.ntmps70
    go_wp2_with fail
    go_ret
    exact ⟨by simp [inB, h], rfl⟩
  · have h' : n < lo := by omega
    go_enter Try.func70, Try.ntmps70
    go_wp2_with fail
    go_ret
    exact ⟨by simp [inB]; intro; omega, rfl⟩

set_option maxHeartbeats 400000 in
theorem allIn_c (xs : List Int) (v : Value) (l h : Int) (w : World) (lo : Nat) (hv : Ints w lo v xs) :
    Calls Try.prog 80 #[v, .int .i64 l, .int .i64 h] w fun e w' => e = .returned (.bool (xs.all (inB l h))) ∧ w = w' := by
  obtain ⟨a, cap, rfl, hlc, hcm, ⟨hlen, _⟩, hc⟩ := hv
  go_enter Try.func80, Try.ntmps80
  go_wp2_with fail
  go_loop [7] (fun i => ∃ k : Nat, k ≤ xs.length ∧ i = .int .i64 k ∧ (xs.take k).all (inB l h) = true) (fun i => xs.length - (intOf i).toNat)
  case atStart => exact ⟨0, Nat.zero_le _, rfl, rfl⟩
  case round =>
    obtain ⟨k, hk, rfl, hall0⟩ := hrel
    have hall := Lib.hid hall0
    clear hall0
    by_cases hlt : k < xs.length
    · obtain ⟨b, off, rfl, _, hcell, _⟩ := hc k hlt
      clear hc
      cases hin : inB l h xs[k]
      all_goals
        go_wp2_with (go_at_call 70; refine (inRange_c _ _ _ _).mono ?_; rintro e w' ⟨rfl, rfl⟩)
      · go_ret
        exact ⟨by rw [all_no _ xs k hlt hin]; rfl, rfl⟩
      · go_round
        case rel => exact ⟨k+1, by omega, by go_num, all_take _ xs k hlt hall.out hin⟩
        case measure => simp [intOf]; omega
    · obtain rfl : k = xs.length := by omega
      go_wp2_with fail
      go_ret
      exact ⟨by have := hall.out; rw [List.take_length] at this; rw [this]; rfl, rfl⟩

set_option maxHeartbeats 400000 in
theorem count_c (xs : List Int) (v : Value) (w : World) (lo : Nat) (hv : Ints w lo v xs) :
    Calls Try.prog 79 #[v] w fun e w' => e = .returned (.int .i64 (countL xs)) ∧ w = w' := by
  obtain ⟨a, cap, rfl, hlc, hcm, ⟨hlen, _⟩, hc⟩ := hv
  go_enter Try.func79, Try.ntmps79
  go_wp2
  go_loop [3, 4] (fun n i => ∃ k : Nat, k ≤ xs.length ∧ i = .int .i64 k ∧ n = .int .i64 (countL (xs.take k))) (fun _ i => xs.length - (intOf i).toNat)
  case atStart => exact ⟨0, Nat.zero_le _, rfl, rfl⟩
  case round =>
    obtain ⟨k, hk, rfl, rfl⟩ := hrel
    by_cases hlt : k < xs.length
    · obtain ⟨b, off, rfl, _, hcell, _⟩ := hc k hlt
      have hs := Lib.hid (countL_take xs k hlt)
      clear hc
      go_wp2
      go_round
      case rel => exact ⟨k+1, by omega, by go_num, by rw [hs.out]; simp [hlt]⟩
      case measure => simp [intOf]; omega
    · obtain rfl : k = xs.length := by omega
      go_wp2
      go_ret
      exact ⟨by simp, rfl⟩

set_option maxHeartbeats 400000 in
theorem unrank_c (xs : List Int) (v : Value) (k : Int) (w : World) (lo : Nat) (hv : Ints w lo v xs) (hk : 0 ≤ k) (hk2 : k ≤ 1000000) (hp : ∀ e ∈ xs, 1 ≤ e) :
    Calls Try.prog 120 #[v, .int .i64 k] w (PInts w (unrL xs k).1) := by
  obtain ⟨a, cap, rfl, hlc, hcm, ⟨hlen, _⟩, hc⟩ := hv
  obtain ⟨i0, hi, hz0, hz1, hz2⟩ := info_parts infoInt
  go_enter Try.func120, Try.ntmps120
  go_wp2_with (at_make; refine wpList_make_full _ rfl _ _ 29 rfl w.heap.size 3 i0 (.int .i64 0) 1 Try.underlying29 hi hz0 hz1 .i64 .i64 _ _ xs.length rfl rfl rfl rfl (by rw [hz2]; omega) (by unfold maxLen; omega) (Nat.le_refl _) ?_)
  intro w1 hown hgr
  have hx : Ext w w1 := (Ext.refl w).grown hgr (by simp)
  rw [made_ints] at hown
  clear hgr
  go_wp2
  go_loopw [1, 6] (fun kk i wr => ∃ j : Nat, j ≤ xs.length ∧ i = .int .i64 ((j : Int) - 1) ∧ kk = .int .i64 (unrL (xs.drop j) k).2 ∧
      wr.ownsRow w.heap.size 3 1 (.slice (some ⟨w.heap.size, 0, none⟩) xs.length xs.length) xs.length ((List.replicate j 0 ++ (unrL (xs.drop j) k).1).map (Value.int .i64)) ∧ Ext w wr)
    (fun _ i _ => (intOf i + 1).toNat)
  case atStart => exact ⟨xs.length, Nat.le_refl _, by go_num, by simp [unrL], by simpa [unrL] using hown, hx⟩
  case round =>
    obtain ⟨j, hj, rfl, rfl, ho, hxr⟩ := hrel
    cases j with
    | zero =>
      go_wp2
      go_ret
      refine PInts.mk (base := w.heap.size) ?_ (Nat.le_refl _) (by rw [unrL_len]; omega) hxr
      unfold OwnI; rw [unrL_len]; simpa using ho
    | succ m =>
      rw [show ((m + 1 : Nat) : Int) - 1 = (m : Int) by omega]
      obtain ⟨b, off, rfl, _, hcell, _⟩ := hc m (by omega)
      have hcell' := hxr.cell hcell
      have hbl := World.block_lt_of_cell? _ _ hcell
      obtain ⟨hoc, hof⟩ := own_cell ho m (by omega)
      have h1 : 1 ≤ xs[m]?.getD 0 := by
        rw [List.getElem?_eq_getElem (by omega)]; exact hp _ (List.getElem_mem ..)
      have h0 : 0 ≤ (unrL (xs.drop (m+1)) k).2 := unrL_pos _ _ hk (fun e he => hp e (List.mem_of_mem_drop he))
      have h0' : (unrL (xs.drop (m+1)) k).2 ≤ 1000000 := by
        have := unrL_le (xs.drop (m+1)) k hk (fun e he => hp e (List.mem_of_mem_drop he)); omega
      have hs := Lib.hid (unrL_drop xs k m (by omega))
      have hn := Lib.hid (own_set ho m ((unrL (xs.drop (m+1)) k).2 % xs.getD m 0) (by omega))
      clear hc ho
      go_wp2
      go_roundw
      case rel =>
        refine ⟨m, by omega, rfl, by rw [hs.out]; simp [unStep], ?_, hxr.setCell (Nat.le_refl _) _⟩
        have := hn.out
        rw [hs.out]
        rw [set_rep] at this
        simpa [unStep] using this
      case measure => simp [intOf]

set_option maxHeartbeats 400000 in
theorem offset_c (base : Int) (shv st ix : Value) (sts ixs : List Int) (w : World) (lo lo' : Nat) (hst : Ints w lo st sts) (hix : Ints w lo' ix ixs) (hl : ixs.length ≤ sts.length) :
    Calls Try.prog 119 #[.agg #[.int .i64 base, shv, st], ix] w fun e w' => e = .returned (.int .i64 (dotL base ixs sts)) ∧ Ext w w' := by
  obtain ⟨a, cap, rfl, hlc, hcm, ⟨hlen, _⟩, hc⟩ := hst
  obtain ⟨a2, cap2, rfl, hlc2, hcm2, ⟨hlen2, _⟩, hc2⟩ := hix
  go_enter Try.func119, Try.ntmps119
  go_wp2
  go_loopw [5, 6] (fun n i wr => ∃ k m : Nat, k ≤ ixs.length ∧ i = .int .i64 k ∧ n = .int .i64 (dotL base (ixs.take k) sts) ∧ wr = (w.alloc (.cells #[.int .i64 base, shv, .slice a sts.length cap] 37)).drewN m) (fun _ i _ => ixs.length - (intOf i).toNat)
  case atStart => exact ⟨0, 0, Nat.zero_le _, rfl, rfl, rfl⟩
  case round =>
    obtain ⟨k, m, hk, rfl, rfl, rfl⟩ := hrel
    by_cases hlt : k < ixs.length
    · obtain ⟨b, off, rfl, _, hcell, _⟩ := hc k (by omega)
      obtain ⟨b2, off2, rfl, _, hcell2, _⟩ := hc2 k hlt
      have hbl := World.block_lt_of_cell? _ _ hcell
      have hbl2 := World.block_lt_of_cell? _ _ hcell2
      have hs := Lib.hid (dotL_take base ixs sts k hlt (by omega))
      have hk2 : k < sts.length := by omega
      have hk3 : (k : Int) < sts.length := by omega
      have hk4 : (k : Int) < ixs.length := by omega
      clear hc hc2
      go_wp2_with fail
      go_quiet (fail)
      go_wp2_with fail
      go_roundw
      case rel => exact ⟨k+1, _, by omega, by go_num, by rw [hs.out]; simp [hlt, hk2], rfl⟩
      case measure => simp [intOf]; omega
    · obtain rfl : k = ixs.length := by omega
      go_wp2
      go_ret
      exact ⟨by simp, ((Ext.refl _).alloc _).drewN _⟩

set_option maxHeartbeats 400000 in
theorem offsets_c (base : Int) (sh st : Value) (shape strides : List Int) (w : World) (lo lo' : Nat) (hsh : Ints w lo sh shape) (hst : Ints w lo' st strides)
    (hl : shape.length ≤ strides.length) (hp : 0 < countL shape → ∀ e ∈ shape, 1 ≤ e) (hcnt : countL shape ≤ 1000000) :
    Calls Try.prog 82 #[.agg #[.int .i64 base, sh, st]] w (PInts w (offsL base shape strides)) := by
  obtain ⟨i0, hi, hz0, hz1, hz2⟩ := info_parts infoInt
  go_enter Try.func82, Try.ntmps82
  go_wp2_with fail
  go_loopw [3, 4] (fun v i wr => ∃ k : Nat, k ≤ (offsL base shape strides).length ∧ i = .int .i64 k ∧ OwnI wr (w.heap.size + 1) v ((offsL base shape strides).take k) ∧
      wr.cell? ⟨w.heap.size, 0, none⟩ = some (.int .i64 base) ∧ wr.cell? ⟨w.heap.size, 1, none⟩ = some sh ∧ wr.cell? ⟨w.heap.size, 2, none⟩ = some st ∧ Ext w wr ∧ w.heap.size < wr.heap.size)
    (fun _ i _ => (offsL base shape strides).length - (intOf i).toNat)
  case atStart =>
    refine ⟨0, Nat.zero_le _, rfl, ?_, by simp, by simp, by simp, (Ext.refl _).alloc _ |>.alloc _, by simp; omega⟩
    simpa using OwnI.lit0 (w.alloc (.cells #[.int .i64 base, sh, st] 37)) (w.heap.size + 1) (by simp)
  case round =>
    obtain ⟨k, hk, rfl, ho, c0, c1, c2, hx, hz⟩ := hrel
    have hlen : (offsL base shape strides).length = (countL shape).toNat := by simp [offsL]
    by_cases hlt : k < (offsL base shape strides).length
    · have hkc : (k : Int) < countL shape := by omega
      go_wp2_with (go_at_call 79; refine (count_c shape _ _ lo (hsh.ext hx)).mono ?_; rintro e w' ⟨rfl, rfl⟩)
      have hz2 : w.heap.size + 1 ≤ wr.heap.size := hz
      go_region_law (first
        | (go_simp; go_at_call 120; refine (unrank_c shape _ (k : Int) _ lo (hsh.ext (by exact hx.drew)) (by omega) (by omega) (hp (by omega))).mono ?_; rintro e w1 ⟨v1, rfl, hi1, _, hx1⟩; have hr1 : ∀ b o, b < wr.heap.size → w1.cell? ⟨b, o, none⟩ = wr.cell? ⟨b, o, none⟩ := hx1.rule)
        | (go_simp; go_at_call 119; refine (offset_c base _ _ _ strides _ _ lo' _ (hst.ext (by exact hx.trans (Ext.trans ((Ext.refl _).drew) hx1))) hi1 (by rw [unrL_len]; exact hl)).mono ?_; rintro e w2 ⟨rfl, hx2'⟩; have hs2 := hx2'.size; have hs1 := hx1.size; have hx2 : Ext wr w2 := (Ext.trans ((Ext.refl _).drew) hx1).trans hx2'; have hr2 : ∀ b o, b < wr.heap.size → w2.cell? ⟨b, o, none⟩ = wr.cell? ⟨b, o, none⟩ := hx2.rule)
        | (refine step_app rfl (.tmp 13) (.tmp 20) rfl rfl rfl ((ho.ext hx2).ext ((Ext.refl _).alloc _)) (Ints.one _ 0 _ (Nat.zero_le _)) (by simp; omega) (by simp at hs1; simp; omega) ?_; intro v' w3 ho3 hg3 hb3 _))
      all_goals
        have hxa := (hx.trans hx2).alloc (.cells #[.int .i64 (dotL base (unrL shape k).1 strides)] 3)
        have d0 := below_cell hb3 (b := w.heap.size) (by omega) (((Ext.alloc hx2 _).cell c0))
        have d1 := below_cell hb3 (b := w.heap.size) (by omega) (((Ext.alloc hx2 _).cell c1))
        have d2 := below_cell hb3 (b := w.heap.size) (by omega) (((Ext.alloc hx2 _).cell c2))
        have hz3 := hb3.size
        simp at hz3 hs1
        have ho4 : OwnI w3 (w.heap.size + 1) v' ((offsL base shape strides).take (k+1)) := by
          rw [List.take_succ_eq_append_getElem hlt]
          simpa [offsL] using ho3
        have hx3 := hxa.below hb3 (by omega)
        clear ho3 hg3 hb3 hxa hr1 hr2 hx2 hx2' hx1 ho
        go_wp2_with fail
        go_roundw
        case rel => exact ⟨k+1, by omega, by go_num, ho4, d0, d1, d2, hx3, by omega⟩
        case measure => simp [intOf]; omega
    · have hkk : k = (offsL base shape strides).length := by omega
      have hge : ¬ (k : Int) < countL shape := by omega
      rw [hkk, List.take_length] at ho
      have hI := Lib.hid ho
      clear ho hkk
      go_wp2_with (go_at_call 79; refine (count_c shape _ _ lo (hsh.ext hx)).mono ?_; rintro e w' ⟨rfl, rfl⟩)
      go_ret
      exact PInts.mk hI.out (Nat.le_succ _) (by omega) hx

set_option maxHeartbeats 400000 in
theorem validShape_c (xs : List Int) (v : Value) (w : World) (lo : Nat) (hv : Ints w lo v xs) :
    Calls Try.prog 110 #[v] w fun e w' => e = .returned (.bool (shapeB xs)) ∧ w = w' := by
  have hv0 := Lib.hid hv
  obtain ⟨a, cap, rfl, hlc, hcm, ⟨hlen, _⟩, hc⟩ := hv
  by_cases h4 : xs.length ≤ 4
  · have h4' : (xs.length : Int) ≤ 4 := by omega
    cases hall : xs.all (inB 0 60)
    all_goals
      go_enter Try.func110, Try.ntmps110
      go_wp2_with (first
        | (go_at_call 80; refine (allIn_c xs _ _ _ _ lo hv0.out).mono ?_; rintro e w' ⟨rfl, rfl⟩)
        | (go_at_call 79; refine (count_c xs _ _ lo hv0.out).mono ?_; rintro e w' ⟨rfl, rfl⟩))
      go_ret
      exact ⟨by simp [shapeB, h4, hall], rfl⟩
  · have h4' : ¬ (xs.length : Int) ≤ 4 := by omega
    go_enter Try.func110, Try.ntmps110
    go_wp2_with fail
    go_ret
    exact ⟨by simp [shapeB, h4], rfl⟩

end Go.Proofs.Ytjpngmdfnglabaa
