/- Walks of the laws' own helpers on lists of ints and on views. -/
import Derived.Test.YtfdpoepidlmbaaaMem
namespace Go.Proofs.Ytfdpoepidlmbaaa
open Go.RowKit
set_option linter.unusedVariables false
set_option maxRecDepth 100000

/-- a slice of ints that came in -/
def Raw (w : World) (v : Value) (xs : List Int) : Prop :=
  ∃ a cap, v = .slice a xs.length cap ∧ (a = none → cap = 0) ∧
    ∀ i, i < xs.length → ∃ b off, a = some ⟨b, off, none⟩ ∧ w.cell? ⟨b, off + i, none⟩ = some (.int .i64 (xs.getD i 0))

theorem Raw.ext {w w' : World} {v : Value} {xs : List Int} (h : Raw w v xs) (hx : Ext w w') : Raw w' v xs := by
  obtain ⟨a, cap, hv, h1, h2⟩ := h
  refine ⟨a, cap, hv, h1, fun i hi => ?_⟩
  obtain ⟨b, off, ha, hc⟩ := h2 i hi
  exact ⟨b, off, ha, hx.cell hc⟩

def szN (left : Int) (n : Nat) : Int := if left < n then -1 else left - n

set_option maxHeartbeats 400000 in
theorem szIntS_c (a : Option Addr) (n cap : Nat) (left : Int) (w : World) (h0 : 0 ≤ left) (h1 : left ≤ 1048576) (hn : n ≤ maxLen) :
    Calls Try.prog 97 #[.slice a n cap, .int .i64 left] w fun e w' => e = .returned (.int .i64 (szN left n)) ∧ w = w' := by
  unfold maxLen at hn
  by_cases h : left < n
  · have h' : left - n < 0 := by omega
    go_enter Try.func97, Try.ntmps97
    go_wp2_with fail
    go_ret
    exact ⟨by simp [szN, h], rfl⟩
  · have h' : ¬ left - n < 0 := by omega
    go_enter Try.func97, Try.ntmps97
    go_wp2_with fail
    go_ret
    exact ⟨by unfold szN; rw [if_neg (by omega)]; rfl, rfl⟩

def szV (left : Int) (n m : Nat) : Int := if szN left n < 0 then -1 else szN (szN left n) m
theorem szN_ge (left : Int) (n : Nat) : -1 ≤ szN left n ∧ (0 ≤ left → szN left n ≤ left) ∧ (0 ≤ szN left n → (n : Int) ≤ left ∧ szN left n = left - n) := by unfold szN; split <;> omega

set_option maxHeartbeats 400000 in
theorem szView_c (base : Int) (a a2 : Option Addr) (n cap n2 cap2 : Nat) (left : Int) (w : World) (h0 : 0 ≤ left) (h1 : left ≤ 1048576) (hn : n ≤ maxLen) (hn2 : n2 ≤ maxLen) :
    Calls Try.prog 26 #[.agg #[.int .i64 base, .slice a n cap, .slice a2 n2 cap2], .int .i64 left] w fun e w' => e = .returned (.int .i64 (szV left n n2)) ∧ Ext w w' := by
  have g := szN_ge left n
  by_cases h : szN left n < 0
  · go_enter Try.func26, Try.ntmps26
    go_wp2_with (go_at_call 97; refine (szIntS_c a n cap left _ h0 h1 hn).mono ?_; rintro e w' ⟨rfl, rfl⟩)
    go_ret
    exact ⟨by simp [szV, h], (Ext.refl _).alloc _⟩
  · have g2 := szN_ge (szN left n) n2
    by_cases h' : szN (szN left n) n2 < 0
    all_goals
      go_enter Try.func26, Try.ntmps26
      go_wp2_with fail
      refine (szIntS_c a n cap left _ h0 h1 hn).mono ?_; rintro e w' ⟨rfl, rfl⟩
      go_wp2_with fail
      refine (szIntS_c a2 n2 cap2 _ _ (by omega) (by omega) hn2).mono ?_; rintro e w' ⟨rfl, rfl⟩
      go_wp2_with fail
      go_ret
      refine ⟨?_, (Ext.refl _).alloc _⟩
      unfold szV; rw [if_neg (by omega)]
    · have : szN (szN left n) n2 = -1 := by omega
      rw [this]; rfl
    · rfl

set_option maxHeartbeats 400000 in
theorem toIntS_c (xs : List Int) (v : Value) (w : World) (hv : Raw w v xs) (hn : xs.length ≤ 4194304) :
    Calls Try.prog 46 #[v] w (PInts w xs) := by
  obtain ⟨a, cap, rfl, _, hc⟩ := hv
  obtain ⟨i0, hi, hz0, hz1, hz2⟩ := info_parts infoInt
  go_enter Try.func46, Try.ntmps46
  go_wp2_with (at_make; refine wpList_make_full _ rfl _ _ 22 rfl w.heap.size 3 i0 (.int .i64 0) 1 Try.underlying22 hi hz0 hz1 .i64 .i64 _ _ xs.length rfl rfl rfl rfl (by rw [hz2]; omega) (by unfold maxLen; omega) (Nat.le_refl _) ?_)
  intro w1 hown hgr
  have hx : Ext w w1 := (Ext.refl w).grown hgr (by simp)
  rw [made_ints] at hown
  clear hgr
  go_wp2
  go_loopw [4] (fun i wr => ∃ k : Nat, k ≤ xs.length ∧ i = .int .i64 k ∧
      wr.ownsRow w.heap.size 3 1 (.slice (some ⟨w.heap.size, 0, none⟩) xs.length xs.length) xs.length ((xs.take k ++ List.replicate (xs.length - k) 0).map (Value.int .i64)) ∧ Ext w wr)
    (fun i _ => xs.length - (intOf i).toNat)
  case atStart => exact ⟨0, Nat.zero_le _, rfl, by simpa using hown, hx⟩
  case round =>
    obtain ⟨k, hk, rfl, ho, hxr⟩ := hrel
    by_cases hlt : k < xs.length
    · obtain ⟨b, off, rfl, hcell⟩ := hc k hlt
      have hcell' := hxr.cell hcell
      have hbl := World.block_lt_of_cell? _ _ hcell
      obtain ⟨hoc, hof⟩ := own_cell ho k (by omega)
      have hn := Lib.hid (own_set ho k (xs.getD k 0) (by omega))
      clear hc ho
      go_wp2
      go_roundw
      case rel =>
        refine ⟨k+1, by omega, by go_num, ?_, hxr.setCell (Nat.le_refl _) _⟩
        have := hn.out
        have e : (xs.take k ++ List.replicate (xs.length - k) 0).set k (xs.getD k 0) = xs.take (k+1) ++ List.replicate (xs.length - (k+1)) 0 := by
          obtain ⟨m, hm⟩ : ∃ m, xs.length - k = m + 1 := ⟨xs.length - k - 1, by omega⟩
          have hm' : xs.length - (k + 1) = m := by omega
          rw [List.take_succ_eq_append_getElem hlt, hm, hm', List.set_append_right _ _ (by simp; omega), List.append_assoc]
          congr 1
          rw [show k - (xs.take k).length = 0 by simp; omega]
          simp [List.replicate_succ, hlt]
        rw [e] at this
        simpa [hlt] using this
      case measure => simp [intOf]; omega
    · obtain rfl : k = xs.length := by omega
      go_wp2
      go_ret
      exact PInts.mk (by unfold OwnI; simpa using ho) (Nat.le_refl _) hn hxr

set_option maxHeartbeats 400000 in
theorem eqIntS_c (xs : List Int) (a b : Value) (w : World) (la lb : Nat) (ha : Ints w la a xs) (hb : Ints w lb b xs) :
    Calls Try.prog 48 #[a, b] w fun e w' => e = .returned (.bool true) ∧ ∃ n, w' = w.drewN n := by
  obtain ⟨a1, cap1, rfl, _, _, ⟨hlen, _⟩, hc1⟩ := ha
  obtain ⟨a2, cap2, rfl, _, _, ⟨_, _⟩, hc2⟩ := hb
  go_enter Try.func48, Try.ntmps48
  go_wp2
  go_loopw [5] (fun i wr => ∃ k m : Nat, k ≤ xs.length ∧ i = .int .i64 k ∧ wr = w.drewN m) (fun i _ => xs.length - (intOf i).toNat)
  case atStart => exact ⟨0, 0, Nat.zero_le _, rfl, rfl⟩
  case round =>
    obtain ⟨k, m, hk, rfl, rfl⟩ := hrel
    by_cases hlt : k < xs.length
    · obtain ⟨b1, off1, rfl, _, hcell1, _⟩ := hc1 k hlt
      obtain ⟨b2, off2, rfl, _, hcell2, _⟩ := hc2 k hlt
      have hk4 : (k : Int) < xs.length := by omega
      clear hc1 hc2
      go_wp2_with fail
      go_quiet (fail)
      go_wp2_with fail
      go_roundw
      case rel => exact ⟨k+1, _, by omega, by go_num, rfl⟩
      case measure => simp [intOf]; omega
    · obtain rfl : k = xs.length := by omega
      go_wp2
      go_ret
      exact ⟨rfl, m, rfl⟩

/-- k, k + 1, .. -/
def ksL (k : Int) (n : Nat) : List Int := (List.range n).map fun i : Nat => k + i
theorem ksL_len (k : Int) (n : Nat) : (ksL k n).length = n := by simp [ksL]
theorem ksL_get (k : Int) (n i : Nat) (h : i < n) : (ksL k n).getD i 0 = k + i := by simp [ksL, h]

theorem ksL_succ (k : Int) (n : Nat) : ksL k (n+1) = ksL k n ++ [k + n] := by simp [ksL, List.range_succ]
set_option maxHeartbeats 400000 in
theorem markIntS_c (xs : List Int) (v : Value) (k : Int) (w : World) (lo : Nat) (hv : OwnI w lo v xs) (hn : xs.length ≤ 4194304) (hk : 0 ≤ k) (hk2 : k ≤ 100000000) :
    Calls Try.prog 49 #[v, .int .i64 k] w fun e w' => e = .returned (.int .i64 (k + xs.length)) ∧ OwnI w' lo v (ksL k xs.length) ∧ w.grownBy w' v.ownBlock := by
  rcases hv.2 with ⟨rfl, h0⟩ | ⟨g, cap, cur, rfl, hb, hg, hnc, hcm, hcs, ht⟩
  · obtain rfl : xs = [] := List.eq_nil_of_length_eq_zero h0
    go_enter Try.func49, Try.ntmps49
    go_wp2
    go_loop [1, 5] (fun kk i => i = .int .i64 0 ∧ kk = .int .i64 k) (fun _ _ => 0)
    case atStart => exact ⟨rfl, rfl⟩
    case round =>
      obtain ⟨rfl, rfl⟩ := hrel
      go_wp2
      go_ret
      exact ⟨by simp, World.ownsRow_nil _ _ _ _, World.grownBy.refl _ _⟩
  · clear ht hg
    go_enter Try.func49, Try.ntmps49
    go_wp2
    go_loopw [1, 5] (fun kk i wr => ∃ j : Nat, j ≤ xs.length ∧ i = .int .i64 j ∧ kk = .int .i64 (k + j) ∧
        wr.ownsRow lo 3 1 (.slice (some ⟨g, 0, none⟩) xs.length cap) xs.length ((ksL k j ++ xs.drop j).map (Value.int .i64)) ∧ w.grownBy wr (some g)) (fun _ i _ => xs.length - (intOf i).toNat)
    case atStart => exact ⟨0, Nat.zero_le _, rfl, by simp, by simpa [ksL, OwnI] using hv, World.grownBy.refl _ _⟩
    case round =>
      obtain ⟨j, hj, rfl, rfl, ho, hgr⟩ := hrel
      by_cases hlt : j < xs.length
      · obtain ⟨hoc, hof⟩ := own_cell ho j (by omega)
        have hn1 := Lib.hid (own_set ho j (k + j) (by omega))
        have hgs := Lib.hid (hgr)
        clear ho hgr
        go_wp2
        go_roundw
        case rel =>
          refine ⟨j+1, by omega, by go_num, by go_num, ?_, ?_⟩
          · have := hn1.out
            have e : (ksL k j ++ xs.drop j).set j (k + j) = ksL k (j+1) ++ xs.drop (j+1) := by
              rw [List.set_append_right _ _ (by simp [ksL_len]), ksL_len, List.drop_eq_getElem_cons hlt, Nat.sub_self, List.set_cons_zero, ksL_succ, List.append_assoc]
              rfl
            rw [e] at this
            exact this
          · have hgs := hgs.out
            refine ⟨hgs.os, hgs.tape, hgs.output, by simpa using hgs.size, fun b hb hne => ?_⟩
            rw [Below.heap_setCell _ _ _ _ (by intro h; subst h; exact hne rfl)]
            exact hgs.block b hb hne
        case measure => simp [intOf]; omega
      · obtain rfl : j = xs.length := by omega
        go_wp2
        go_ret
        refine ⟨rfl, ?_, hgr⟩
        unfold OwnI; rw [ksL_len]; simpa using ho

set_option maxHeartbeats 400000 in
theorem heldIntS_c (n : Nat) (v : Value) (k : Int) (w : World) (lo : Nat) (hv : Ints w lo v (ksL k n)) (hk : 0 ≤ k) (hk2 : k ≤ 100000000) :
    Calls Try.prog 50 #[v, .int .i64 k] w fun e w' => e = .returned (.int .i64 (k + n)) ∧ w = w' := by
  obtain ⟨a, cap, rfl, hlc, hcm, ⟨hlen, _⟩, hc⟩ := hv
  rw [ksL_len] at *
  go_enter Try.func50, Try.ntmps50
  go_wp2
  go_loop [1, 5] (fun kk i => ∃ j : Nat, j ≤ n ∧ i = .int .i64 j ∧ kk = .int .i64 (k + j)) (fun _ i => n - (intOf i).toNat)
  case atStart => exact ⟨0, Nat.zero_le _, rfl, by simp⟩
  case round =>
    obtain ⟨j, hj, rfl, rfl⟩ := hrel
    by_cases hlt : j < n
    · obtain ⟨b, off, rfl, _, hcell, _⟩ := hc j hlt
      rw [ksL_get k n j hlt] at hcell
      clear hc
      go_wp2
      go_round
      case rel => exact ⟨j+1, by omega, by go_num, by go_num⟩
      case measure => simp [intOf]; omega
    · obtain rfl : j = n := by omega
      go_wp2
      go_ret
      exact ⟨rfl, rfl⟩

end Go.Proofs.Ytfdpoepidlmbaaa
