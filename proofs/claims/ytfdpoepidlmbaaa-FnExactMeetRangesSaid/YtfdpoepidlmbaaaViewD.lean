/- Walks: the cells of a view, told once; what two views have; places in a list; lists of different numbers. -/
import Derived.Test.YtfdpoepidlmbaaaSpB
import Derived.Test.YtfdpoepidlmbaaaLib
namespace Go.Proofs.Ytfdpoepidlmbaaa
open Go.RowKit
set_option linter.unusedVariables false
set_option maxRecDepth 100000

def cellsL (base : Int) (shape strides : List Int) : List Int := Lib.compact (sortL (offsL base shape strides))

set_option maxHeartbeats 400000 in
theorem cellsOf_c (base : Int) (sh st : Value) (shape strides : List Int) (w : World) (lo lo' : Nat) (hsh : Ints w lo sh shape) (hst : Ints w lo' st strides) (hvb : viewB base shape strides = true) :
    Calls Try.prog 164 #[.agg #[.int .i64 base, sh, st]] w (PInts w (cellsL base shape strides)) := by
  obtain ⟨h1, h2, _⟩ := viewB_in hvb
  have hin := Lib.hid (shapeB_in h1)
  clear hvb h1
  have h2 := Lib.hid h2
  have hlen : (offsL base shape strides).length ≤ 60 := by simp [offsL]; have := hin.out; omega
  go_enter Try.func164, Try.ntmps164
  go_wp2_with fail
  refine (offsetsOf_c base _ _ shape strides _ lo lo' (hsh.ext ((Ext.refl _).alloc _)) (hst.ext ((Ext.refl _).alloc _)) (by have := h2.out; omega) hin.out.2.2.2.2 (by have := hin.out; omega)).mono ?_
  rintro e w1 ⟨v1, rfl, _, ho1, hx1⟩
  go_wp2_with fail
  have hz1 := hx1.size
  simp at hz1
  have hX1 : Ext w w1 := Ext.trans ((Ext.refl _).alloc _) hx1
  refine (sort_c _ _ _ w.heap.size (ho1.lower (by simp)) (by omega) (by omega)).mono ?_
  rintro e w2 ⟨rfl, ho2, hb2⟩
  have hz2 := hb2.size
  go_wp2_with fail
  refine (compact_c _ _ _ w.heap.size ho2 (by rw [sortL_len]; omega) (by omega)).mono ?_
  rintro e w3 ⟨v3, rfl, ho3, he3, hb3⟩
  have hc := compact_len_le (sortL (offsL base shape strides))
  rw [sortL_len] at hc
  have hX3 := (hX1.below hb2 (Nat.le_refl _)).below hb3 (Nat.le_refl _)
  clear hx1 ho1 ho2 hb2 hb3 he3
  go_wp2_with fail
  go_ret
  exact PInts.mkz ho3 (Nat.le_refl _) (by unfold cellsL; omega) hX3

def placeL (xs : List Int) (n : Int) : Int := findI (fun x => x == n) xs

set_option maxHeartbeats 400000 in
theorem placeIn_c (xs : List Int) (v : Value) (n : Int) (w : World) (lo : Nat) (hv : Ints w lo v xs) :
    Calls Try.prog 163 #[v, .int .i64 n] w fun e w' => e = .returned (.int .i64 (placeL xs n)) ∧ w = w' := by
  obtain ⟨a, cap, rfl, hlc, hcm, ⟨hlen, _⟩, hc⟩ := hv
  go_enter Try.func163, Try.ntmps163
  go_wp2_with fail
  go_loop [5] (fun i => ∃ k : Nat, k ≤ xs.length ∧ i = .int .i64 k ∧ (xs.take k).any (fun x => x == n) = false) (fun i => xs.length - (intOf i).toNat)
  case atStart => exact ⟨0, Nat.zero_le _, rfl, rfl⟩
  case round =>
    obtain ⟨k, hk, rfl, hall0⟩ := hrel
    have hall := Lib.hid hall0
    clear hall0
    by_cases hlt : k < xs.length
    · obtain ⟨b, off, rfl, _, hcell, _⟩ := hc k hlt
      clear hc
      cases hp : (xs[k] == n)
      · go_wp2_with fail
        go_round
        case rel => exact ⟨k+1, by omega, by go_num, any_take _ xs k hlt hall.out hp⟩
        case measure => simp [intOf]; omega
      · have hs := Lib.hid (findI_yes (fun x => x == n) xs k hlt hall.out hp)
        go_wp2_with fail
        go_ret
        exact ⟨by unfold placeL; rw [hs.out]; rfl, rfl⟩
    · obtain rfl : k = xs.length := by omega
      go_wp2_with fail
      go_ret
      exact ⟨by unfold placeL; rw [findI_no _ xs (by simpa using hall.out)]; rfl, rfl⟩

theorem placeL_ge (xs : List Int) (n : Int) : decide (0 ≤ placeL xs n) = xs.contains n := by
  unfold placeL; rw [findI_ge, List.contains_eq_any_beq]
  congr 1; funext x; rw [Bool.eq_iff_iff]; simp; exact eq_comm

/-- the numbers 0, 1, .., less than n, that pass -/
def bothL (a b : List Int) : List Int := (upL 60).filter fun x => a.contains x && b.contains x

theorem filter_len_up (p : Int → Bool) (n : Nat) : ((upL n).filter p).length ≤ n := Nat.le_trans (List.length_filter_le _ _) (by simp [upL])

set_option maxHeartbeats 400000 in
theorem both_c (xs ys : List Int) (a b : Value) (w : World) (la lb : Nat) (ha : Ints w la a xs) (hb : Ints w lb b ys) :
    Calls Try.prog 131 #[a, b] w (PInts w (bothL xs ys)) := by
  go_enter Try.func131, Try.ntmps131
  go_wp2_with fail
  go_loopw [5, 6] (fun v i wr => ∃ k : Nat, k ≤ 60 ∧ i = .int .i64 k ∧ OwnI wr w.heap.size v ((upL k).filter fun x => xs.contains x && ys.contains x) ∧ Ext w wr) (fun _ i _ => 60 - (intOf i).toNat)
  case atStart => exact ⟨0, Nat.zero_le _, rfl, OwnI.lit0 w w.heap.size (Nat.le_refl _), (Ext.refl _).alloc _⟩
  case round =>
    obtain ⟨k, hk, rfl, ho, hx⟩ := hrel
    by_cases hlt : k < 60
    · have hl := filter_len_up (fun x => xs.contains x && ys.contains x) k
      have hk' : (k : Int) < 60 := by omega
      have ga := Lib.hid (placeL_ge xs k)
      have gb := Lib.hid (placeL_ge ys k)
      have hz := hx.size
      cases h1 : xs.contains (k : Int)
      · have hn : ¬ (0 ≤ placeL xs k) := by have := ga.out; rw [h1] at this; simpa using this
        have hs := Lib.hid (show (upL (k+1)).filter (fun x => xs.contains x && ys.contains x) = (upL k).filter (fun x => xs.contains x && ys.contains x) by rw [upL_succ, List.filter_append]; simp; intro h; exact absurd (List.contains_iff_mem.2 h) (by rw [h1]; simp))
        have hn' : placeL xs k < 0 := by omega
        clear h1
        go_wp2_with (go_at_call 163; refine (placeIn_c xs _ _ _ la (ha.ext hx)).mono ?_; rintro e w' ⟨rfl, rfl⟩)
        go_roundw
        case rel => exact ⟨k+1, by omega, by go_num, by rw [hs.out]; exact ho, hx⟩
        case measure => simp [intOf]; omega
      · have hn : 0 ≤ placeL xs k := by have := ga.out; rw [h1] at this; simpa using this
        cases h2 : ys.contains (k : Int)
        · have hn2 : ¬ (0 ≤ placeL ys k) := by have := gb.out; rw [h2] at this; simpa using this
          have hs := Lib.hid (show (upL (k+1)).filter (fun x => xs.contains x && ys.contains x) = (upL k).filter (fun x => xs.contains x && ys.contains x) by rw [upL_succ, List.filter_append]; simp; intro _; simpa using h2)
          have hn' : placeL ys k < 0 := by omega
          clear h1 h2
          go_wp2_with fail
          refine (placeIn_c xs _ _ _ la (ha.ext hx)).mono ?_; rintro e w' ⟨rfl, rfl⟩
          go_wp2_with fail
          refine (placeIn_c ys _ _ _ lb (hb.ext hx)).mono ?_; rintro e w' ⟨rfl, rfl⟩
          go_wp2_with fail
          go_roundw
          case rel => exact ⟨k+1, by omega, by go_num, by rw [hs.out]; exact ho, hx⟩
          case measure => simp [intOf]; omega
        · have hn2 : 0 ≤ placeL ys k := by have := gb.out; rw [h2] at this; simpa using this
          have hs := Lib.hid (show (upL (k+1)).filter (fun x => xs.contains x && ys.contains x) = (upL k).filter (fun x => xs.contains x && ys.contains x) ++ [(k : Int)] by rw [upL_succ, List.filter_append]; simp; exact ⟨by simpa using h1, by simpa using h2⟩)
          clear h1 h2
          go_wp2_with fail
          refine (placeIn_c xs _ _ _ la (ha.ext hx)).mono ?_; rintro e w' ⟨rfl, rfl⟩
          go_wp2_with fail
          refine (placeIn_c ys _ _ _ lb (hb.ext hx)).mono ?_; rintro e w' ⟨rfl, rfl⟩
          go_wp2_with (at_builtin; refine wpList_app rfl (.tmp 22) (.tmp 24) rfl rfl rfl (ho.ext ((Ext.refl _).alloc _)) (Ints.one _ 0 _ (Nat.zero_le _)) (by simp only [List.length_cons, List.length_nil]; omega) (by simp; omega) ?_)
          intro v' w3 ho3 _ hb3 _
          have hx3 := (hx.alloc (.cells #[.int .i64 k] 3)).below hb3 (Nat.le_refl _)
          clear hb3 ho
          have ho3 := Lib.hid ho3
          go_wp2_with fail
          go_roundw
          case rel => exact ⟨k+1, by omega, by go_num, by rw [hs.out]; simpa using ho3.out, hx3⟩
          case measure => simp [intOf]; omega
    · obtain rfl : k = 60 := by omega
      have ho := Lib.hid ho
      go_wp2_with fail
      go_ret
      exact PInts.mk ho.out (Nat.le_refl _) (Nat.le_trans (List.length_filter_le _ _) (by simp [upL])) hx

set_option maxHeartbeats 400000 in
theorem different_c (xs : List Int) (v : Value) (w : World) (lo : Nat) (hv : Ints w lo v xs) :
    Calls Try.prog 133 #[v] w fun e w' => e = .returned (.bool (decide xs.Nodup)) ∧ Ext w w' := by
  have hv0 := Lib.hid hv
  obtain ⟨a, cap, rfl, hlc, hcm, ⟨hlen, _⟩, hc⟩ := hv
  unfold maxLen at hcm
  go_enter Try.func133, Try.ntmps133
  go_wp2_with fail
  go_loopw [3] (fun i wr => ∃ k : Nat, k ≤ xs.length ∧ i = .int .i64 k ∧ (xs.take k).Nodup ∧ Ext w wr) (fun i _ => xs.length - (intOf i).toNat)
  case atStart => exact ⟨0, Nat.zero_le _, rfl, by simp, Ext.refl _⟩
  case round =>
    obtain ⟨k, hk, rfl, hnd0, hx⟩ := hrel
    have hnd := Lib.hid hnd0
    clear hnd0
    by_cases hlt : k < xs.length
    · obtain ⟨b, off, rfl, _, hcell0, _⟩ := hc k hlt
      have hcell := hx.cell hcell0
      have hk4 : (k : Int) < xs.length := by omega
      have hk5 : (k : Int) ≤ cap := by omega
      have hp := placeL_ge (xs.take k) xs[k]
      have hgd : xs.getD k 0 = xs[k] := by simp [hlt]
      have hvt := Lib.hid ((hv0.out.ext hx).take k (by omega))
      clear hc hcell0
      cases h1 : (xs.take k).contains xs[k]
      · have hn : placeL (xs.take k) xs[k] < 0 := by rw [h1] at hp; simpa using hp
        have hnd2 := Lib.hid (show (xs.take (k+1)).Nodup by
          rw [List.take_succ_eq_append_getElem hlt, List.nodup_append]
          refine ⟨hnd.out, by simp, ?_⟩
          intro y hy z hz; simp at hz; subst hz
          intro he; subst he
          rw [List.contains_iff_mem.2 hy] at h1; cases h1)
        clear h1 hp
        rw [hgd] at hcell
        clear hgd
        go_wp2_with fail
        go_quiet ((go_at_call 163; exact quiet_left (placeIn_c (xs.take k) _ _ _ lo (hvt.out.ext (by exact (Ext.refl _).drewN _)))))
        go_wp2_with fail
        go_roundw
        case rel => exact ⟨k+1, by omega, by go_num, hnd2.out, hx.drewN _⟩
        case measure => simp [intOf]; omega
      · have hn : 0 ≤ placeL (xs.take k) xs[k] := by rw [h1] at hp; simpa using hp
        have hnd2 := Lib.hid (show ¬ xs.Nodup by
          intro hN
          have h2 : xs[k] ∈ xs.take k := List.contains_iff_mem.1 h1
          have h3 := hN
          rw [← List.take_append_drop k xs, List.nodup_append] at h3
          exact h3.2.2 _ h2 _ (by rw [List.drop_eq_getElem_cons hlt]; exact List.mem_cons_self ..) rfl)
        clear h1 hp
        rw [hgd] at hcell
        clear hgd
        go_wp2_with fail
        go_quiet ((go_at_call 163; exact quiet_left (placeIn_c (xs.take k) _ _ _ lo (hvt.out.ext (by exact (Ext.refl _).drewN _)))))
        go_wp2_with fail
        go_ret
        exact ⟨by rw [decide_eq_false hnd2.out]; rfl, hx.drewN _⟩
    · obtain rfl : k = xs.length := by omega
      go_wp2_with fail
      go_ret
      exact ⟨by have := hnd.out; rw [List.take_length] at this; rw [decide_eq_true this]; rfl, hx⟩

end Go.Proofs.Ytfdpoepidlmbaaa
