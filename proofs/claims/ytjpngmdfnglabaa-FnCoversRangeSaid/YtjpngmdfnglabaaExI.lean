/- Walks: WayOf of the program and of the reference. -/
import Derived.Test.YtjpngmdfnglabaaViewG
import Derived.Test.YtjpngmdfnglabaaLp
namespace Go.Proofs.Ytjpngmdfnglabaa
open Go.RowKit
set_option linter.unusedVariables false
set_option maxRecDepth 100000

def wayA (b1 : Int) (s1 t1 : List Int) (b2 : Int) (s2 t2 : List Int) : Int := if viewB b1 s1 t1 && (viewB b2 s2 t2 && sameB s1 s2) then wayI (offsL b1 s1 t1) (offsL b2 s2 t2) else -1
theorem equal_x (xs ys : List Int) (a b : Value) (w : World) (la lb : Nat) (ha : Ints w la a xs) (hb : Ints w lb b ys) :
    Calls Try.prog 93 #[a, b] w fun e w' => e = .returned (.bool (sameB xs ys)) ∧ Ext w w' :=
  (equal_c xs ys a b w la lb ha hb).mono fun _ _ ⟨h, n, hn⟩ => ⟨h, by subst hn; exact (Ext.refl _).drewN _⟩
theorem offs_same {b1 b2 : Int} {s t1 t2 : List Int} : (offsL b1 s t1).length = (offsL b2 s t2).length := by simp [offsL]
theorem sameB_eq {xs ys : List Int} (h : sameB xs ys = true) : xs = ys := by simpa [sameB] using h
theorem way_lat {to fr : List Int} (h : fr.length = to.length) : wayI to fr = if latUp to fr to.length = false then 0 else if earUp to fr to.length = false ∧ to.Nodup then 1 else 2 := by
  unfold wayI; rw [clean_lat h, clean_ear h]
  cases latUp to fr to.length <;> cases earUp to fr to.length <;> by_cases hn : to.Nodup <;> simp [hn]
def cells_ok (to fr : List Int) (back : Bool) (i q : Nat) : Bool := (List.range q).all fun k => !badB to fr back i k
def rows_ok (to fr : List Int) (back : Bool) (j : Nat) : Bool := (List.range j).all fun i => cells_ok to fr back i to.length
theorem cells_ok_succ {to fr : List Int} {back : Bool} {i q : Nat} (h : cells_ok to fr back i q = true) (hb : badB to fr back i q = false) : cells_ok to fr back i (q+1) = true := by
  unfold cells_ok at h ⊢; rw [List.range_succ, List.all_append, h]; simp [hb]
theorem rows_ok_succ {to fr : List Int} {back : Bool} {j : Nat} (h : rows_ok to fr back j = true) (hb : cells_ok to fr back j to.length = true) : rows_ok to fr back (j+1) = true := by
  unfold rows_ok at h ⊢; rw [List.range_succ, List.all_append, h]; simp [hb]
theorem clean_bad {to fr : List Int} {back : Bool} {i k : Nat} (hi : i < to.length) (hk : k < to.length) (hb : badB to fr back i k = true) : cleanB to fr back = false := by
  rw [Bool.eq_false_iff]; intro h
  unfold cleanB at h
  rw [List.all_eq_true] at h
  have := h i (List.mem_range.2 hi)
  rw [List.all_eq_true] at this
  have := this k (List.mem_range.2 hk)
  rw [hb] at this; cases this

set_option maxHeartbeats 1600000 in
theorem sameInts_c (xs ys : List Int) (a b : Value) (w : World) (la lb : Nat) (ha : Ints w la a xs) (hb : Ints w lb b ys) :
    Calls Try.prog 150 #[a, b] w fun e w' => e = .returned (.bool (sameB xs ys)) ∧ Ext w w' := by
  obtain ⟨a1, cap1, rfl, _, _, ⟨hlen, _⟩, hc1⟩ := ha
  obtain ⟨a2, cap2, rfl, _, _, ⟨hlen2, _⟩, hc2⟩ := hb
  by_cases hl : xs.length = ys.length
  · have hlI : ((xs.length : Int) == (ys.length : Int)) = true := by simp; omega
    have hlN : ((xs.length : Int) != (ys.length : Int)) = false := by simp; omega
    replace hl := Lib.hid hl
    go_enter Try.func150, Try.ntmps150
    go_wp2_with fail
    go_loopw [5] (fun i wr => ∃ k m : Nat, k ≤ xs.length ∧ i = .int .i64 k ∧ wr = w.drewN m ∧ Hid (xs.take k = ys.take k)) (fun i _ => xs.length - (intOf i).toNat)
    case atStart => exact ⟨0, 0, Nat.zero_le _, rfl, rfl, Lib.hid (by simp)⟩
    case round =>
      obtain ⟨k, m, hk, rfl, rfl, ht⟩ := hrel
      by_cases hlt : k < xs.length
      · have hlt2 : k < ys.length := by have := hl.out; omega
        obtain ⟨b1, off1, rfl, _, hcell1, _⟩ := hc1 k hlt
        obtain ⟨b2, off2, rfl, _, hcell2, _⟩ := hc2 k hlt2
        have g1 : xs.getD k 0 = xs[k] := by simp [hlt]
        have g2 : ys.getD k 0 = ys[k] := by simp [hlt2]
        rw [g1] at hcell1
        rw [g2] at hcell2
        have hk4 : (k : Int) < xs.length := by omega
        have hk5 : (k : Int) < ys.length := by omega
        clear hc1 hc2 g1 g2
        cases hq : (xs[k] == ys[k])
        · have hq2 : (xs[k] != ys[k]) = true := by simpa [bne] using hq
          have hn := Lib.hid (show sameB xs ys = false by unfold sameB; rw [Bool.eq_false_iff]; intro h; have h := eq_of_beq h; subst h; simp at hq)
          go_wp2_with fail
          go_quiet (fail)
          go_wp2_with fail
          go_ret
          exact ⟨by rw [hn.out] <;> rfl, (by repeat (first | exact Ext.refl _ | assumption | apply Ext.drewN | apply Ext.drew | apply Ext.alloc))⟩
        · have hq2 : (xs[k] != ys[k]) = false := by simpa [bne] using hq
          have hn := Lib.hid (show xs.take (k+1) = ys.take (k+1) by rw [List.take_succ_eq_append_getElem hlt, List.take_succ_eq_append_getElem hlt2, ht.out, eq_of_beq hq])
          go_wp2_with fail
          go_quiet (fail)
          go_wp2_with fail
          go_roundw
          case rel => exact ⟨k+1, _, by omega, by go_num, rfl, hn⟩
          case measure => simp [intOf]; omega
      · obtain rfl : k = xs.length := by omega
        have hn := Lib.hid (show sameB xs ys = true by have := ht.out; rw [List.take_length, hl.out, List.take_length] at this; unfold sameB; rw [this]; simp)
        go_wp2_with fail
        go_ret
        exact ⟨by rw [hn.out] <;> rfl, (by repeat (first | exact Ext.refl _ | assumption | apply Ext.drewN | apply Ext.drew | apply Ext.alloc))⟩
  · have hn := Lib.hid (show sameB xs ys = false by unfold sameB; rw [Bool.eq_false_iff]; intro h; have h := eq_of_beq h; subst h; exact hl rfl)
    have hlI : ((xs.length : Int) == (ys.length : Int)) = false := by simp; omega
    have hlN : ((xs.length : Int) != (ys.length : Int)) = true := by simp; omega
    clear hl
    go_enter Try.func150, Try.ntmps150
    go_wp2_with fail
    go_ret
    exact ⟨by rw [hn.out] <;> rfl, (by repeat (first | exact Ext.refl _ | assumption | apply Ext.drewN | apply Ext.drew | apply Ext.alloc))⟩

end Go.Proofs.Ytjpngmdfnglabaa
