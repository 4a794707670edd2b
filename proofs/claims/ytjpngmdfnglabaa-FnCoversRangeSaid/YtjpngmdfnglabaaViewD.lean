/- Walks: the cells of a view, told once; what two views have; places in a list; lists of different numbers. -/
import Derived.Test.YtjpngmdfnglabaaSpB
import Derived.Test.YtjpngmdfnglabaaLib
namespace Go.Proofs.Ytjpngmdfnglabaa
open Go.RowKit
set_option linter.unusedVariables false
set_option maxRecDepth 100000

def cellsL (base : Int) (shape strides : List Int) : List Int := Lib.compact (sortL (offsL base shape strides))

def placeL (xs : List Int) (n : Int) : Int := findI (fun x => x == n) xs

set_option maxHeartbeats 400000 in
theorem placeIn_c (xs : List Int) (v : Value) (n : Int) (w : World) (lo : Nat) (hv : Ints w lo v xs) :
    Calls Try.prog 101 #[v, .int .i64 n] w fun e w' => e = .returned (.int .i64 (placeL xs n)) ∧ w = w' := by
  obtain ⟨a, cap, rfl, hlc, hcm, ⟨hlen, _⟩, hc⟩ := hv
  go_enter Try.func101, Try.ntmps101
  go_wp2_with fail
  go_loop [5] (fun i => ∃ k : Nat, k ≤ xs.length ∧ i = .int .i64 k ∧ (xs.take k).any (fun x => x == n) = false) (fun i => xs.length - (intOf i).toNat)
  case atStart => exact ⟨0, Nat.zero_le _, rfl, rfl⟩
  case round =>
    obtain ⟨k, hk, rfl, hall0⟩ := hrel
    have hall := Lib.hid hall0
    clear hall0
    by_cases hlt : k < xs.length
    · obtain ⟨b, off, rfl, _, hcell, _⟩ := hc k hlt
      clear hc
      cases hp : (xs[k] == n)
      · go_wp2_with fail
        go_round
        case rel => exact ⟨k+1, by omega, by go_num, any_take _ xs k hlt hall.out hp⟩
        case measure => simp [intOf]; omega
      · have hs := Lib.hid (findI_yes (fun x => x == n) xs k hlt hall.out hp)
        go_wp2_with fail
        go_ret
        exact ⟨by unfold placeL; rw [hs.out]; rfl, rfl⟩
    · obtain rfl : k = xs.length := by omega
      go_wp2_with fail
      go_ret
      exact ⟨by unfold placeL; rw [findI_no _ xs (by simpa using hall.out)]; rfl, rfl⟩

theorem placeL_ge (xs : List Int) (n : Int) : decide (0 ≤ placeL xs n) = xs.contains n := by
  unfold placeL; rw [findI_ge, List.contains_eq_any_beq]
  congr 1; funext x; rw [Bool.eq_iff_iff]; simp; exact eq_comm

/-- the numbers 0, 1, .., less than n, that pass -/
def bothL (a b : List Int) : List Int := (upL 60).filter fun x => a.contains x && b.contains x

theorem filter_len_up (p : Int → Bool) (n : Nat) : ((upL n).filter p).length ≤ n := Nat.le_trans (List.length_filter_le _ _) (by simp [upL])

set_option maxHeartbeats 400000 in
theorem different_c (xs : List Int) (v : Value) (w : World) (lo : Nat) (hv : Ints w lo v xs) :
    Calls Try.prog 165 #[v] w fun e w' => e = .returned (.bool (decide xs.Nodup)) ∧ Ext w w' := by
  have hv0 := Lib.hid hv
  obtain ⟨a, cap, rfl, hlc, hcm, ⟨hlen, _⟩, hc⟩ := hv
  unfold maxLen at hcm
  go_enter Try.func165, Try.ntmps165
  go_wp2_with fail
  go_loopw [3] (fun i wr => ∃ k : Nat, k ≤ xs.length ∧ i = .int .i64 k ∧ (xs.take k).Nodup ∧ Ext w wr) (fun i _ => xs.length - (intOf i).toNat)
  case atStart => exact ⟨0, Nat.zero_le _, rfl, by simp, Ext.refl _⟩
  case round =>
    obtain ⟨k, hk, rfl, hnd0, hx⟩ := hrel
    have hnd := Lib.hid hnd0
    clear hnd0
    by_cases hlt : k < xs.length
    · obtain ⟨b, off, rfl, _, hcell0, _⟩ := hc k hlt
      have hcell := hx.cell hcell0
      have hk4 : (k : Int) < xs.length := by omega
      have hk5 : (k : Int) ≤ cap := by omega
      have hp := placeL_ge (xs.take k) xs[k]
      have hgd : xs.getD k 0 = xs[k] := by simp [hlt]
      have hvt := Lib.hid ((hv0.out.ext hx).take k (by omega))
      clear hc hcell0
      cases h1 : (xs.take k).contains xs[k]
      · have hn : placeL (xs.take k) xs[k] < 0 := by rw [h1] at hp; simpa using hp
        have hnd2 := Lib.hid (show (xs.take (k+1)).Nodup by
          rw [List.take_succ_eq_append_getElem hlt, List.nodup_append]
          refine ⟨hnd.out, by simp, ?_⟩
          intro y hy z hz; simp at hz; subst hz
          intro he; subst he
          rw [List.contains_iff_mem.2 hy] at h1; cases h1)
        clear h1 hp
        rw [hgd] at hcell
        clear hgd
        go_wp2_with fail
        go_quiet ((go_at_call 101; exact quiet_left (placeIn_c (xs.take k) _ _ _ lo (hvt.out.ext (by exact (Ext.refl _).drewN _)))))
        go_wp2_with fail
        go_roundw
        case rel => exact ⟨k+1, by omega, by go_num, hnd2.out, hx.drewN _⟩
        case measure => simp [intOf]; omega
      · have hn : 0 ≤ placeL (xs.take k) xs[k] := by rw [h1] at hp; simpa using hp
        have hnd2 := Lib.hid (show ¬ xs.Nodup by
          intro hN
          have h2 : xs[k] ∈ xs.take k := List.contains_iff_mem.1 h1
          have h3 := hN
          rw [← List.take_append_drop k xs, List.nodup_append] at h3
          exact h3.2.2 _ h2 _ (by rw [List.drop_eq_getElem_cons hlt]; exact List.mem_cons_self ..) rfl)
        clear h1 hp
        rw [hgd] at hcell
        clear hgd
        go_wp2_with fail
        go_quiet ((go_at_call 101; exact quiet_left (placeIn_c (xs.take k) _ _ _ lo (hvt.out.ext (by exact (Ext.refl _).drewN _)))))
        go_wp2_with fail
        go_ret
        exact ⟨by rw [decide_eq_false hnd2.out]; rfl, hx.drewN _⟩
    · obtain rfl : k = xs.length := by omega
      go_wp2_with fail
      go_ret
      exact ⟨by have := hnd.out; rw [List.take_length] at this; rw [decide_eq_true this]; rfl, hx⟩

end Go.Proofs.Ytjpngmdfnglabaa
