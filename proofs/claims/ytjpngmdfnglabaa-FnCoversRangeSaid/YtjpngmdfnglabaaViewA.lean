/- Walks of the program's counting functions. -/
import Derived.Test.YtjpngmdfnglabaaMem
namespace Go.Proofs.Ytjpngmdfnglabaa
open Go.RowKit
set_option linter.unusedVariables false
set_option maxRecDepth 100000

def countL (xs : List Int) : Int := xs.foldl (fun n x => wrap64 (n * x)) 1
theorem countL_take (xs : List Int) (k : Nat) (hk : k < xs.length) :
    countL (xs.take (k+1)) = wrap64 (countL (xs.take k) * xs.getD k 0) := by
  unfold countL; rw [List.take_succ_eq_append_getElem hk, List.foldl_append]; simp [hk]

def dotL (base : Int) (ix st : List Int) : Int := (ix.zip st).foldl (fun a p => wrap64 (a + wrap64 (p.1 * p.2))) base
theorem dotL_take (base : Int) (ix st : List Int) (k : Nat) (hk : k < ix.length) (hs : k < st.length) :
    dotL base (ix.take (k+1)) st = wrap64 (dotL base (ix.take k) st + wrap64 (ix.getD k 0 * st.getD k 0)) := by
  unfold dotL
  have e : ∀ n : Nat, (ix.take n).zip st = (ix.zip st).take n := by
    intro n
    apply List.ext_getElem
    · simp <;> omega
    · intro i h1 h2; simp
  rw [e, e, List.take_succ_eq_append_getElem (by simp; omega), List.foldl_append]
  simp [hk, hs]

set_option maxHeartbeats 400000 in
theorem countOf_c (xs : List Int) (v : Value) (w : World) (lo : Nat) (hv : Ints w lo v xs) :
    Calls Try.prog 72 #[v] w fun e w' => e = .returned (.int .i64 (countL xs)) ∧ w = w' := by
  obtain ⟨a, cap, rfl, hlc, hcm, ⟨hlen, _⟩, hc⟩ := hv
  go_enter Try.func72, Try.ntmps72
  go_wp2
  go_loop [3, 8] (fun n i => ∃ k : Nat, k ≤ xs.length ∧ i = .int .i64 k ∧ n = .int .i64 (countL (xs.take k))) (fun _ i => xs.length - (intOf i).toNat)
  case atStart => exact ⟨0, Nat.zero_le _, rfl, rfl⟩
  case round =>
    obtain ⟨k, hk, rfl, rfl⟩ := hrel
    by_cases hlt : k < xs.length
    · obtain ⟨b, off, rfl, _, hcell, _⟩ := hc k hlt
      have hs := Lib.hid (countL_take xs k hlt)
      clear hc
      go_wp2
      go_round
      case rel => exact ⟨k+1, by omega, by go_num, by rw [hs.out]; simp [hlt]⟩
      case measure => simp [intOf]; omega
    · obtain rfl : k = xs.length := by omega
      go_wp2
      go_ret
      exact ⟨by simp, rfl⟩

set_option maxHeartbeats 400000 in
theorem offsetAt_c (base : Int) (shv st ix : Value) (sts ixs : List Int) (w : World) (lo lo' : Nat) (hst : Ints w lo st sts) (hix : Ints w lo' ix ixs) (hl : ixs.length ≤ sts.length) :
    Calls Try.prog 111 #[.agg #[.int .i64 base, shv, st], ix] w fun e w' => e = .returned (.int .i64 (dotL base ixs sts)) ∧ Ext w w' := by
  obtain ⟨a, cap, rfl, hlc, hcm, ⟨hlen, _⟩, hc⟩ := hst
  obtain ⟨a2, cap2, rfl, hlc2, hcm2, ⟨hlen2, _⟩, hc2⟩ := hix
  go_enter Try.func111, Try.ntmps111
  go_wp2
  go_loop [5, 12] (fun n i => ∃ k : Nat, k ≤ ixs.length ∧ i = .int .i64 k ∧ n = .int .i64 (dotL base (ixs.take k) sts)) (fun _ i => ixs.length - (intOf i).toNat)
  case atStart => exact ⟨0, Nat.zero_le _, rfl, rfl⟩
  case round =>
    obtain ⟨k, hk, rfl, rfl⟩ := hrel
    by_cases hlt : k < ixs.length
    · obtain ⟨b, off, rfl, _, hcell, _⟩ := hc k (by omega)
      obtain ⟨b2, off2, rfl, _, hcell2, _⟩ := hc2 k hlt
      have hbl := World.block_lt_of_cell? _ _ hcell
      have hbl2 := World.block_lt_of_cell? _ _ hcell2
      have hs := Lib.hid (dotL_take base ixs sts k hlt (by omega))
      have hk2 : k < sts.length := by omega
      clear hc hc2
      go_wp2
      go_round
      case rel => exact ⟨k+1, by omega, by go_num, by rw [hs.out]; simp [hlt, hk2]⟩
      case measure => simp [intOf]; omega
    · obtain rfl : k = ixs.length := by omega
      go_wp2
      go_ret
      exact ⟨by simp, (Ext.refl _).alloc _⟩

theorem set_rep (m : Nat) (x : Int) (l : List Int) : (List.replicate (m+1) 0 ++ l).set m x = List.replicate m 0 ++ x :: l := by
  rw [List.set_append_left _ _ (by simp), List.replicate_succ']
  rw [List.set_append_right _ _ (by simp)]; simp
def unStep (e : Int) (p : List Int × Int) : List Int × Int := (p.2 % e :: p.1, p.2 / e)
def unrL (shape : List Int) (k : Int) : List Int × Int := shape.foldr unStep ([], k)
theorem unrL_drop (shape : List Int) (k : Int) (j : Nat) (hj : j < shape.length) : unrL (shape.drop j) k = unStep (shape.getD j 0) (unrL (shape.drop (j+1)) k) := by
  unfold unrL; rw [List.drop_eq_getElem_cons hj, List.foldr_cons]; simp [hj]
theorem unrL_len (shape : List Int) (k : Int) : (unrL shape k).1.length = shape.length := by
  induction shape with
  | nil => rfl
  | cons e s ih => simp [unrL, unStep] at ih ⊢; exact ih
theorem unrL_pos (shape : List Int) (k : Int) (hk : 0 ≤ k) (hp : ∀ e ∈ shape, 1 ≤ e) : 0 ≤ (unrL shape k).2 := by
  induction shape with
  | nil => simpa [unrL]
  | cons e s ih =>
    have := ih (fun e he => hp e (List.mem_cons_of_mem _ he))
    simp only [unrL, List.foldr_cons, unStep] at this ⊢
    exact Int.ediv_nonneg this (by have := hp e (List.mem_cons_self ..); omega)

theorem unrL_le (shape : List Int) (k : Int) (hk : 0 ≤ k) (hp : ∀ e ∈ shape, 1 ≤ e) : (unrL shape k).2 ≤ k := by
  induction shape with
  | nil => simp [unrL]
  | cons e s ih =>
    have := ih (fun e he => hp e (List.mem_cons_of_mem _ he))
    have h0 := unrL_pos s k hk (fun e he => hp e (List.mem_cons_of_mem _ he))
    simp only [unrL, List.foldr_cons, unStep] at this h0 ⊢
    exact Int.le_trans (Int.ediv_le_self _ h0) this

set_option maxHeartbeats 400000 in
theorem indexAt_c (xs : List Int) (v : Value) (k : Int) (w : World) (lo : Nat) (hv : Ints w lo v xs) (hk : 0 ≤ k) (hk2 : k ≤ 1000000) (hp : ∀ e ∈ xs, 1 ≤ e) :
    Calls Try.prog 112 #[v, .int .i64 k] w (PInts w (unrL xs k).1) := by
  obtain ⟨a, cap, rfl, hlc, hcm, ⟨hlen, _⟩, hc⟩ := hv
  obtain ⟨i0, hi, hz0, hz1, hz2⟩ := info_parts infoInt
  go_enter Try.func112, Try.ntmps112
  go_wp2_with (at_make; refine wpList_make_full _ rfl _ _ 29 rfl w.heap.size 3 i0 (.int .i64 0) 1 Try.underlying29 hi hz0 hz1 .i64 .i64 _ _ xs.length rfl rfl rfl rfl (by rw [hz2]; omega) (by unfold maxLen; omega) (Nat.le_refl _) ?_)
  intro w1 hown hgr
  have hx : Ext w w1 := (Ext.refl w).grown hgr (by simp)
  rw [made_ints] at hown
  clear hgr
  go_wp2
  go_loopw [1, 6] (fun kk i wr => ∃ j : Nat, j ≤ xs.length ∧ i = .int .i64 ((j : Int) - 1) ∧ kk = .int .i64 (unrL (xs.drop j) k).2 ∧
      wr.ownsRow w.heap.size 3 1 (.slice (some ⟨w.heap.size, 0, none⟩) xs.length xs.length) xs.length ((List.replicate j 0 ++ (unrL (xs.drop j) k).1).map (Value.int .i64)) ∧ Ext w wr)
    (fun _ i _ => (intOf i + 1).toNat)
  case atStart => exact ⟨xs.length, Nat.le_refl _, by go_num, by simp [unrL], by simpa [unrL] using hown, hx⟩
  case round =>
    obtain ⟨j, hj, rfl, rfl, ho, hxr⟩ := hrel
    cases j with
    | zero =>
      go_wp2
      go_ret
      refine PInts.mk (base := w.heap.size) ?_ (Nat.le_refl _) (by rw [unrL_len]; omega) hxr
      unfold OwnI; rw [unrL_len]; simpa using ho
    | succ m =>
      rw [show ((m + 1 : Nat) : Int) - 1 = (m : Int) by omega]
      obtain ⟨b, off, rfl, _, hcell, _⟩ := hc m (by omega)
      have hcell' := hxr.cell hcell
      have hbl := World.block_lt_of_cell? _ _ hcell
      obtain ⟨hoc, hof⟩ := own_cell ho m (by omega)
      have h1 : 1 ≤ xs[m]?.getD 0 := by
        rw [List.getElem?_eq_getElem (by omega)]; exact hp _ (List.getElem_mem ..)
      have h0 : 0 ≤ (unrL (xs.drop (m+1)) k).2 := unrL_pos _ _ hk (fun e he => hp e (List.mem_of_mem_drop he))
      have h0' : (unrL (xs.drop (m+1)) k).2 ≤ 1000000 := by
        have := unrL_le (xs.drop (m+1)) k hk (fun e he => hp e (List.mem_of_mem_drop he)); omega
      have hs := Lib.hid (unrL_drop xs k m (by omega))
      have hn := Lib.hid (own_set ho m ((unrL (xs.drop (m+1)) k).2 % xs.getD m 0) (by omega))
      clear hc ho
      go_wp2
      go_roundw
      case rel =>
        refine ⟨m, by omega, rfl, by rw [hs.out]; simp [unStep], ?_, hxr.setCell (Nat.le_refl _) _⟩
        have := hn.out
        rw [hs.out]
        rw [set_rep] at this
        simpa [unStep] using this
      case measure => simp [intOf]

theorem all_take {α : Type} (p : α → Bool) (xs : List α) (k : Nat) (hk : k < xs.length) (h : (xs.take k).all p = true) (hx : p xs[k] = true) : (xs.take (k+1)).all p = true := by
  rw [List.take_succ_eq_append_getElem hk, List.all_append, h]; simp [hx]
theorem all_no {α : Type} (p : α → Bool) (xs : List α) (k : Nat) (hk : k < xs.length) (hx : p xs[k] = false) : xs.all p = false := by
  rw [Bool.eq_false_iff]; intro h
  rw [List.all_eq_true] at h
  have := h _ (List.getElem_mem hk); simp [hx] at this

def inB (lo hi : Int) (e : Int) : Bool := decide (lo ≤ e ∧ e ≤ hi)
def shapeB (xs : List Int) : Bool := decide (xs.length ≤ 4) && xs.all (inB 0 60) && decide (countL xs ≤ 60)

set_option maxHeartbeats 400000 in
theorem isShape_c (xs : List Int) (v : Value) (w : World) (lo : Nat) (hv : Ints w lo v xs) :
    Calls Try.prog 107 #[v] w fun e w' => e = .returned (.bool (shapeB xs)) ∧ w = w' := by
  have hv0 := Lib.hid hv
  obtain ⟨a, cap, rfl, hlc, hcm, ⟨hlen, _⟩, hc⟩ := hv
  by_cases h4 : xs.length ≤ 4
  · go_enter Try.func107, Try.ntmps107
    go_wp2_with fail
    go_loop [10] (fun i => ∃ k : Nat, k ≤ xs.length ∧ i = .int .i64 k ∧ (xs.take k).all (inB 0 60) = true) (fun i => xs.length - (intOf i).toNat)
    case atStart => exact ⟨0, Nat.zero_le _, rfl, rfl⟩
    case round =>
      obtain ⟨k, hk, rfl, hall0⟩ := hrel
      have hall := Lib.hid hall0
      clear hall0
      by_cases hlt : k < xs.length
      · obtain ⟨b, off, rfl, _, hcell, _⟩ := hc k hlt
        clear hc
        go_wp2_with fail
        all_goals first
          | (go_ret; exact ⟨by simp [shapeB, all_no (inB 0 60) xs k hlt (by unfold inB; simp; omega)], rfl⟩)
          | (go_round; (case rel => exact ⟨k+1, by omega, by go_num, all_take _ xs k hlt hall.out (by unfold inB; simp; omega)⟩); (case measure => simp [intOf]; omega))
      · obtain rfl : k = xs.length := by omega
        go_wp2_with (go_at_call 72; refine (countOf_c xs _ _ lo hv0.out).mono ?_; rintro e w' ⟨rfl, rfl⟩)
        go_ret
        exact ⟨by have := hall.out; simp only [List.take_length] at this; simp [shapeB, h4, this], rfl⟩
  · go_enter Try.func107, Try.ntmps107
    go_wp2_with fail
    go_ret
    exact ⟨by simp [shapeB, h4], rfl⟩

end Go.Proofs.Ytjpngmdfnglabaa
