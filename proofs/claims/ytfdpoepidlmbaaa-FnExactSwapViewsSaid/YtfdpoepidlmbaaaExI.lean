/- Walks: WayOf of the program and of the reference. -/
import Derived.Test.YtfdpoepidlmbaaaViewG
import Derived.Test.YtfdpoepidlmbaaaLp
namespace Go.Proofs.Ytfdpoepidlmbaaa
open Go.RowKit
set_option linter.unusedVariables false
set_option maxRecDepth 100000

def wayA (b1 : Int) (s1 t1 : List Int) (b2 : Int) (s2 t2 : List Int) : Int := if viewB b1 s1 t1 && (viewB b2 s2 t2 && sameB s1 s2) then wayI (offsL b1 s1 t1) (offsL b2 s2 t2) else -1
theorem equal_x (xs ys : List Int) (a b : Value) (w : World) (la lb : Nat) (ha : Ints w la a xs) (hb : Ints w lb b ys) :
    Calls Try.prog 175 #[a, b] w fun e w' => e = .returned (.bool (sameB xs ys)) ∧ Ext w w' :=
  (equal_c xs ys a b w la lb ha hb).mono fun _ _ ⟨h, n, hn⟩ => ⟨h, by subst hn; exact (Ext.refl _).drewN _⟩
theorem offs_same {b1 b2 : Int} {s t1 t2 : List Int} : (offsL b1 s t1).length = (offsL b2 s t2).length := by simp [offsL]
theorem sameB_eq {xs ys : List Int} (h : sameB xs ys = true) : xs = ys := by simpa [sameB] using h
theorem way_lat {to fr : List Int} (h : fr.length = to.length) : wayI to fr = if latUp to fr to.length = false then 0 else if earUp to fr to.length = false ∧ to.Nodup then 1 else 2 := by
  unfold wayI; rw [clean_lat h, clean_ear h]
  cases latUp to fr to.length <;> cases earUp to fr to.length <;> by_cases hn : to.Nodup <;> simp [hn]
def cells_ok (to fr : List Int) (back : Bool) (i q : Nat) : Bool := (List.range q).all fun k => !badB to fr back i k
def rows_ok (to fr : List Int) (back : Bool) (j : Nat) : Bool := (List.range j).all fun i => cells_ok to fr back i to.length
theorem cells_ok_succ {to fr : List Int} {back : Bool} {i q : Nat} (h : cells_ok to fr back i q = true) (hb : badB to fr back i q = false) : cells_ok to fr back i (q+1) = true := by
  unfold cells_ok at h ⊢; rw [List.range_succ, List.all_append, h]; simp [hb]
theorem rows_ok_succ {to fr : List Int} {back : Bool} {j : Nat} (h : rows_ok to fr back j = true) (hb : cells_ok to fr back j to.length = true) : rows_ok to fr back (j+1) = true := by
  unfold rows_ok at h ⊢; rw [List.range_succ, List.all_append, h]; simp [hb]
theorem clean_bad {to fr : List Int} {back : Bool} {i k : Nat} (hi : i < to.length) (hk : k < to.length) (hb : badB to fr back i k = true) : cleanB to fr back = false := by
  rw [Bool.eq_false_iff]; intro h
  unfold cleanB at h
  rw [List.all_eq_true] at h
  have := h i (List.mem_range.2 hi)
  rw [List.all_eq_true] at this
  have := this k (List.mem_range.2 hk)
  rw [hb] at this; cases this

set_option maxHeartbeats 3200000 in
theorem clean_false_c (to fr : List Int) (a b : Value) (w : World) (la lb : Nat) (ha : Ints w la a to) (hb : Ints w lb b fr) (hl : fr.length = to.length) :
    Calls Try.prog 174 #[a, b, .bool false] w fun e w' => e = .returned (.bool (cleanB to fr false)) ∧ Ext w w' := by
  obtain ⟨a1, c1, rfl, _, _, ⟨hlen, _⟩, hc1⟩ := ha
  obtain ⟨a2, c2, rfl, _, _, _, hc2⟩ := hb
  rw [hl] at hc2 ⊢
  replace hl := Lib.hid hl
  go_enter Try.func174, Try.ntmps174
  go_wp2_with fail
  go_loopw [7] (fun i wr => ∃ j m : Nat, j ≤ to.length ∧ i = .int .i64 j ∧ wr = w.drewN m ∧ Hid (rows_ok to fr false j = true)) (fun i _ => to.length - (intOf i).toNat)
  case atStart => exact ⟨0, 0, Nat.zero_le _, rfl, rfl, Lib.hid rfl⟩
  case round =>
    obtain ⟨j, m, hj, rfl, rfl, hro⟩ := hrel
    by_cases hjl : j < to.length
    · obtain ⟨b1, off1, rfl, _, hcell1, _⟩ := hc1 j hjl
      have hjI : (j : Int) < to.length := by omega
      have g1 : to.getD j 0 = to[j] := by simp [hjl]
      rw [g1] at hcell1
      clear hc1 g1
      go_wp2_with fail
      go_loopw [8] (fun i wr => ∃ q m' : Nat, q ≤ to.length ∧ i = .int .i64 q ∧ wr = w.drewN m' ∧ Hid (cells_ok to fr false j q = true)) (fun i _ => to.length - (intOf i).toNat)
      case atStart => exact ⟨0, m, Nat.zero_le _, rfl, rfl, Lib.hid rfl⟩
      case round =>
        obtain ⟨q, m', hq, rfl, rfl, hce⟩ := hrel
        by_cases hql : q < to.length
        · obtain ⟨b2, off2, rfl, _, hcell2, _⟩ := hc2 q hql
          have hqI : (q : Int) < to.length := by omega
          have hqf : q < fr.length := by have := hl.out; omega
          have g2 : fr.getD q 0 = fr[q] := by simp [hqf]
          rw [g2] at hcell2
          clear hc2 g2
          have hbd : badB to fr false j q = ((to[j] == fr[q]) && decide (j < q)) := by unfold badB; rw [getD_get hjl, getD_get hqf]; rfl
          cases heq : (to[j] == fr[q])
          · have hn := Lib.hid (cells_ok_succ hce.out (by rw [hbd, heq]; rfl))
            clear hbd
            go_wp2_with fail
            go_quiet (fail)
            go_wp2_with fail
            go_roundw
            case rel => exact ⟨q+1, _, by omega, by go_num, rfl, hn⟩
            case measure => simp [intOf]; omega
          · rcases Nat.lt_trichotomy j q with h3 | h3 | h3
            · have hn := Lib.hid (clean_bad hjl hql (by rw [hbd, heq]; simp; omega))
              have d1 : decide ((j : Int) < q) = true := by simp; omega
              have d2 : decide ((q : Int) < j) = false := by simp; omega
              have d3 : (j : Int) < q := by omega
              have d4 : ¬ (q : Int) < j := by omega
              have d5 : decide (q < j) = false := by simp; omega
              have d6 : decide (j < q) = true := by simp; omega
              clear hbd
              go_wp2_with fail
              go_quiet (fail)
              go_wp2_with fail
              go_ret
              exact ⟨by rw [hn.out] <;> rfl, (by repeat (first | exact Ext.refl _ | assumption | apply Ext.drewN | apply Ext.drew | apply Ext.alloc))⟩
            · have hn := Lib.hid (cells_ok_succ hce.out (by rw [hbd, heq]; simp; omega))
              subst h3
              clear hbd
              go_wp2_with fail
              go_quiet (fail)
              go_wp2_with fail
              go_roundw
              case rel => exact ⟨j+1, _, by omega, by go_num, rfl, hn⟩
              case measure => simp [intOf]; omega
            · have hn := Lib.hid (cells_ok_succ hce.out (by rw [hbd, heq]; simp; omega))
              have d1 : decide ((j : Int) < q) = false := by simp; omega
              have d2 : decide ((q : Int) < j) = true := by simp; omega
              have d3 : ¬ (j : Int) < q := by omega
              have d4 : (q : Int) < j := by omega
              have d5 : decide (j < q) = false := by simp; omega
              have d6 : decide (q < j) = true := by simp; omega
              clear hbd
              go_wp2_with fail
              go_quiet (fail)
              go_wp2_with fail
              go_roundw
              case rel => exact ⟨q+1, _, by omega, by go_num, rfl, hn⟩
              case measure => simp [intOf]; omega
        · obtain rfl : q = to.length := by omega
          have hn := Lib.hid (rows_ok_succ hro.out hce.out)
          go_wp2_with fail
          go_roundw
          case rel => exact ⟨j+1, _, by omega, by go_num, rfl, hn⟩
          case measure => simp [intOf]; omega
    · obtain rfl : j = to.length := by omega
      go_wp2_with fail
      go_ret
      exact ⟨by rw [show cleanB to fr false = true from hro.out] <;> rfl, (by repeat (first | exact Ext.refl _ | assumption | apply Ext.drewN | apply Ext.drew | apply Ext.alloc))⟩

set_option maxHeartbeats 3200000 in
theorem clean_true_c (to fr : List Int) (a b : Value) (w : World) (la lb : Nat) (ha : Ints w la a to) (hb : Ints w lb b fr) (hl : fr.length = to.length) :
    Calls Try.prog 174 #[a, b, .bool true] w fun e w' => e = .returned (.bool (cleanB to fr true)) ∧ Ext w w' := by
  obtain ⟨a1, c1, rfl, _, _, ⟨hlen, _⟩, hc1⟩ := ha
  obtain ⟨a2, c2, rfl, _, _, _, hc2⟩ := hb
  rw [hl] at hc2 ⊢
  replace hl := Lib.hid hl
  go_enter Try.func174, Try.ntmps174
  go_wp2_with fail
  go_loopw [7] (fun i wr => ∃ j m : Nat, j ≤ to.length ∧ i = .int .i64 j ∧ wr = w.drewN m ∧ Hid (rows_ok to fr true j = true)) (fun i _ => to.length - (intOf i).toNat)
  case atStart => exact ⟨0, 0, Nat.zero_le _, rfl, rfl, Lib.hid rfl⟩
  case round =>
    obtain ⟨j, m, hj, rfl, rfl, hro⟩ := hrel
    by_cases hjl : j < to.length
    · obtain ⟨b1, off1, rfl, _, hcell1, _⟩ := hc1 j hjl
      have hjI : (j : Int) < to.length := by omega
      have g1 : to.getD j 0 = to[j] := by simp [hjl]
      rw [g1] at hcell1
      clear hc1 g1
      go_wp2_with fail
      go_loopw [8] (fun i wr => ∃ q m' : Nat, q ≤ to.length ∧ i = .int .i64 q ∧ wr = w.drewN m' ∧ Hid (cells_ok to fr true j q = true)) (fun i _ => to.length - (intOf i).toNat)
      case atStart => exact ⟨0, m, Nat.zero_le _, rfl, rfl, Lib.hid rfl⟩
      case round =>
        obtain ⟨q, m', hq, rfl, rfl, hce⟩ := hrel
        by_cases hql : q < to.length
        · obtain ⟨b2, off2, rfl, _, hcell2, _⟩ := hc2 q hql
          have hqI : (q : Int) < to.length := by omega
          have hqf : q < fr.length := by have := hl.out; omega
          have g2 : fr.getD q 0 = fr[q] := by simp [hqf]
          rw [g2] at hcell2
          clear hc2 g2
          have hbd : badB to fr true j q = ((to[j] == fr[q]) && decide (q < j)) := by unfold badB; rw [getD_get hjl, getD_get hqf]; rfl
          cases heq : (to[j] == fr[q])
          · have hn := Lib.hid (cells_ok_succ hce.out (by rw [hbd, heq]; rfl))
            clear hbd
            go_wp2_with fail
            go_quiet (fail)
            go_wp2_with fail
            go_roundw
            case rel => exact ⟨q+1, _, by omega, by go_num, rfl, hn⟩
            case measure => simp [intOf]; omega
          · rcases Nat.lt_trichotomy j q with h3 | h3 | h3
            · have hn := Lib.hid (cells_ok_succ hce.out (by rw [hbd, heq]; simp; omega))
              have d1 : decide ((j : Int) < q) = true := by simp; omega
              have d2 : decide ((q : Int) < j) = false := by simp; omega
              have d3 : (j : Int) < q := by omega
              have d4 : ¬ (q : Int) < j := by omega
              have d5 : decide (q < j) = false := by simp; omega
              have d6 : decide (j < q) = true := by simp; omega
              clear hbd
              go_wp2_with fail
              go_quiet (fail)
              go_wp2_with fail
              go_roundw
              case rel => exact ⟨q+1, _, by omega, by go_num, rfl, hn⟩
              case measure => simp [intOf]; omega
            · have hn := Lib.hid (cells_ok_succ hce.out (by rw [hbd, heq]; simp; omega))
              subst h3
              clear hbd
              go_wp2_with fail
              go_quiet (fail)
              go_wp2_with fail
              go_roundw
              case rel => exact ⟨j+1, _, by omega, by go_num, rfl, hn⟩
              case measure => simp [intOf]; omega
            · have hn := Lib.hid (clean_bad hjl hql (by rw [hbd, heq]; simp; omega))
              have d1 : decide ((j : Int) < q) = false := by simp; omega
              have d2 : decide ((q : Int) < j) = true := by simp; omega
              have d3 : ¬ (j : Int) < q := by omega
              have d4 : (q : Int) < j := by omega
              have d5 : decide (j < q) = false := by simp; omega
              have d6 : decide (q < j) = true := by simp; omega
              clear hbd
              go_wp2_with fail
              go_quiet (fail)
              go_wp2_with fail
              go_ret
              exact ⟨by rw [hn.out] <;> rfl, (by repeat (first | exact Ext.refl _ | assumption | apply Ext.drewN | apply Ext.drew | apply Ext.alloc))⟩
        · obtain rfl : q = to.length := by omega
          have hn := Lib.hid (rows_ok_succ hro.out hce.out)
          go_wp2_with fail
          go_roundw
          case rel => exact ⟨j+1, _, by omega, by go_num, rfl, hn⟩
          case measure => simp [intOf]; omega
    · obtain rfl : j = to.length := by omega
      go_wp2_with fail
      go_ret
      exact ⟨by rw [show cleanB to fr true = true from hro.out] <;> rfl, (by repeat (first | exact Ext.refl _ | assumption | apply Ext.drewN | apply Ext.drew | apply Ext.alloc))⟩

set_option maxHeartbeats 1600000 in
theorem sameInts_c (xs ys : List Int) (a b : Value) (w : World) (la lb : Nat) (ha : Ints w la a xs) (hb : Ints w lb b ys) :
    Calls Try.prog 173 #[a, b] w fun e w' => e = .returned (.bool (sameB xs ys)) ∧ Ext w w' := by
  obtain ⟨a1, cap1, rfl, _, _, ⟨hlen, _⟩, hc1⟩ := ha
  obtain ⟨a2, cap2, rfl, _, _, ⟨hlen2, _⟩, hc2⟩ := hb
  by_cases hl : xs.length = ys.length
  · have hlI : ((xs.length : Int) == (ys.length : Int)) = true := by simp; omega
    have hlN : ((xs.length : Int) != (ys.length : Int)) = false := by simp; omega
    replace hl := Lib.hid hl
    go_enter Try.func173, Try.ntmps173
    go_wp2_with fail
    go_loopw [5] (fun i wr => ∃ k m : Nat, k ≤ xs.length ∧ i = .int .i64 k ∧ wr = w.drewN m ∧ Hid (xs.take k = ys.take k)) (fun i _ => xs.length - (intOf i).toNat)
    case atStart => exact ⟨0, 0, Nat.zero_le _, rfl, rfl, Lib.hid (by simp)⟩
    case round =>
      obtain ⟨k, m, hk, rfl, rfl, ht⟩ := hrel
      by_cases hlt : k < xs.length
      · have hlt2 : k < ys.length := by have := hl.out; omega
        obtain ⟨b1, off1, rfl, _, hcell1, _⟩ := hc1 k hlt
        obtain ⟨b2, off2, rfl, _, hcell2, _⟩ := hc2 k hlt2
        have g1 : xs.getD k 0 = xs[k] := by simp [hlt]
        have g2 : ys.getD k 0 = ys[k] := by simp [hlt2]
        rw [g1] at hcell1
        rw [g2] at hcell2
        have hk4 : (k : Int) < xs.length := by omega
        have hk5 : (k : Int) < ys.length := by omega
        clear hc1 hc2 g1 g2
        cases hq : (xs[k] == ys[k])
        · have hq2 : (xs[k] != ys[k]) = true := by simpa [bne] using hq
          have hn := Lib.hid (show sameB xs ys = false by unfold sameB; rw [Bool.eq_false_iff]; intro h; have h := eq_of_beq h; subst h; simp at hq)
          go_wp2_with fail
          go_quiet (fail)
          go_wp2_with fail
          go_ret
          exact ⟨by rw [hn.out] <;> rfl, (by repeat (first | exact Ext.refl _ | assumption | apply Ext.drewN | apply Ext.drew | apply Ext.alloc))⟩
        · have hq2 : (xs[k] != ys[k]) = false := by simpa [bne] using hq
          have hn := Lib.hid (show xs.take (k+1) = ys.take (k+1) by rw [List.take_succ_eq_append_getElem hlt, List.take_succ_eq_append_getElem hlt2, ht.out, eq_of_beq hq])
          go_wp2_with fail
          go_quiet (fail)
          go_wp2_with fail
          go_roundw
          case rel => exact ⟨k+1, _, by omega, by go_num, rfl, hn⟩
          case measure => simp [intOf]; omega
      · obtain rfl : k = xs.length := by omega
        have hn := Lib.hid (show sameB xs ys = true by have := ht.out; rw [List.take_length, hl.out, List.take_length] at this; unfold sameB; rw [this]; simp)
        go_wp2_with fail
        go_ret
        exact ⟨by rw [hn.out] <;> rfl, (by repeat (first | exact Ext.refl _ | assumption | apply Ext.drewN | apply Ext.drew | apply Ext.alloc))⟩
  · have hn := Lib.hid (show sameB xs ys = false by unfold sameB; rw [Bool.eq_false_iff]; intro h; have h := eq_of_beq h; subst h; exact hl rfl)
    have hlI : ((xs.length : Int) == (ys.length : Int)) = false := by simp; omega
    have hlN : ((xs.length : Int) != (ys.length : Int)) = true := by simp; omega
    clear hl
    go_enter Try.func173, Try.ntmps173
    go_wp2_with fail
    go_ret
    exact ⟨by rw [hn.out] <;> rfl, (by repeat (first | exact Ext.refl _ | assumption | apply Ext.drewN | apply Ext.drew | apply Ext.alloc))⟩

set_option maxHeartbeats 6400000 in
theorem implWayOf_c (b1 : Int) (u1 v1 : Value) (s1 t1 : List Int) (b2 : Int) (u2 v2 : Value) (s2 t2 : List Int) (w : World) (l1 m1 l2 m2 : Nat) (h1 : Ints w l1 u1 s1) (k1 : Ints w m1 v1 t1) (h2 : Ints w l2 u2 s2) (k2 : Ints w m2 v2 t2) :
    Calls Try.prog 94 #[.agg #[.int .i64 b1, u1, v1], .agg #[.int .i64 b2, u2, v2]] w (fun e w' => e = .returned (.int .i64 (wayA b1 s1 t1 b2 s2 t2)) ∧ Ext w w') := by
  cases ha : viewB b1 s1 t1
  · have hr := Lib.hid (show wayA b1 s1 t1 b2 s2 t2 = -1 by unfold wayA; rw [ha]; rfl)
    go_enter Try.func94, Try.ntmps94
    go_wp2_with fail
    refine (isView_c b1 _ _ s1 t1 _ l1 m1 (h1.ext (by repeat (first | exact Ext.refl _ | assumption | apply Ext.drewN | apply Ext.drew | apply Ext.alloc))) (k1.ext (by repeat (first | exact Ext.refl _ | assumption | apply Ext.drewN | apply Ext.drew | apply Ext.alloc)))).mono ?_
    rintro e w1 ⟨rfl, xw1⟩
    have Lw1 : Ext w w1 := Ext.trans (by repeat (first | exact Ext.refl _ | assumption | apply Ext.drewN | apply Ext.drew | apply Ext.alloc)) xw1
    have Xw1 : Ext w w1 := Lw1
    have c10 : w1.cell? ⟨w.heap.size, 0, none⟩ = some (.int .i64 b1) := xw1.cell (by first | (simp; done) | (rw [World.cell?_alloc_lt _ _ _ (by simp)]; simp; done) | (go_simp; done))
    have c11 : w1.cell? ⟨w.heap.size, 1, none⟩ = some (u1) := xw1.cell (by first | (simp; done) | (rw [World.cell?_alloc_lt _ _ _ (by simp)]; simp; done) | (go_simp; done))
    have c12 : w1.cell? ⟨w.heap.size, 2, none⟩ = some (v1) := xw1.cell (by first | (simp; done) | (rw [World.cell?_alloc_lt _ _ _ (by simp)]; simp; done) | (go_simp; done))
    have c20 : w1.cell? ⟨w.heap.size + 1, 0, none⟩ = some (.int .i64 b2) := xw1.cell (by first | (simp; done) | (rw [World.cell?_alloc_lt _ _ _ (by simp)]; simp; done) | (go_simp; done))
    have c21 : w1.cell? ⟨w.heap.size + 1, 1, none⟩ = some (u2) := xw1.cell (by first | (simp; done) | (rw [World.cell?_alloc_lt _ _ _ (by simp)]; simp; done) | (go_simp; done))
    have c22 : w1.cell? ⟨w.heap.size + 1, 2, none⟩ = some (v2) := xw1.cell (by first | (simp; done) | (rw [World.cell?_alloc_lt _ _ _ (by simp)]; simp; done) | (go_simp; done))
    have z1 : w.heap.size < w1.heap.size := World.block_lt_of_cell? _ _ c10
    have z2 : w.heap.size + 1 < w1.heap.size := World.block_lt_of_cell? _ _ c20
    have sw1 : w.heap.size ≤ w1.heap.size := Lw1.size
    rw [ha]
    go_wp2_with fail
    go_ret
    exact ⟨by rw [hr.out] <;> rfl, Xw1⟩
  cases hb : viewB b2 s2 t2
  · have hr := Lib.hid (show wayA b1 s1 t1 b2 s2 t2 = -1 by unfold wayA; rw [ha, hb]; rfl)
    have ha' := Lib.hid ha
    have hb' := Lib.hid hb
    clear ha hb
    go_enter Try.func94, Try.ntmps94
    go_wp2_with fail
    refine (isView_c b1 _ _ s1 t1 _ l1 m1 (h1.ext (by repeat (first | exact Ext.refl _ | assumption | apply Ext.drewN | apply Ext.drew | apply Ext.alloc))) (k1.ext (by repeat (first | exact Ext.refl _ | assumption | apply Ext.drewN | apply Ext.drew | apply Ext.alloc)))).mono ?_
    rintro e w1 ⟨rfl, xw1⟩
    have Lw1 : Ext w w1 := Ext.trans (by repeat (first | exact Ext.refl _ | assumption | apply Ext.drewN | apply Ext.drew | apply Ext.alloc)) xw1
    have Xw1 : Ext w w1 := Lw1
    have c10 : w1.cell? ⟨w.heap.size, 0, none⟩ = some (.int .i64 b1) := xw1.cell (by first | (simp; done) | (rw [World.cell?_alloc_lt _ _ _ (by simp)]; simp; done) | (go_simp; done))
    have c11 : w1.cell? ⟨w.heap.size, 1, none⟩ = some (u1) := xw1.cell (by first | (simp; done) | (rw [World.cell?_alloc_lt _ _ _ (by simp)]; simp; done) | (go_simp; done))
    have c12 : w1.cell? ⟨w.heap.size, 2, none⟩ = some (v1) := xw1.cell (by first | (simp; done) | (rw [World.cell?_alloc_lt _ _ _ (by simp)]; simp; done) | (go_simp; done))
    have c20 : w1.cell? ⟨w.heap.size + 1, 0, none⟩ = some (.int .i64 b2) := xw1.cell (by first | (simp; done) | (rw [World.cell?_alloc_lt _ _ _ (by simp)]; simp; done) | (go_simp; done))
    have c21 : w1.cell? ⟨w.heap.size + 1, 1, none⟩ = some (u2) := xw1.cell (by first | (simp; done) | (rw [World.cell?_alloc_lt _ _ _ (by simp)]; simp; done) | (go_simp; done))
    have c22 : w1.cell? ⟨w.heap.size + 1, 2, none⟩ = some (v2) := xw1.cell (by first | (simp; done) | (rw [World.cell?_alloc_lt _ _ _ (by simp)]; simp; done) | (go_simp; done))
    have z1 : w.heap.size < w1.heap.size := World.block_lt_of_cell? _ _ c10
    have z2 : w.heap.size + 1 < w1.heap.size := World.block_lt_of_cell? _ _ c20
    have sw1 : w.heap.size ≤ w1.heap.size := Lw1.size
    rw [ha'.out]
    go_wp2_with fail
    refine (isView_c b2 _ _ s2 t2 _ l2 m2 (h2.ext (Xw1.trans (by repeat (first | exact Ext.refl _ | assumption | apply Ext.drewN | apply Ext.drew | apply Ext.alloc)))) (k2.ext (Xw1.trans (by repeat (first | exact Ext.refl _ | assumption | apply Ext.drewN | apply Ext.drew | apply Ext.alloc))))).mono ?_
    rintro e w2 ⟨rfl, xw2⟩
    have Lw2 : Ext w1 w2 := Ext.trans (by repeat (first | exact Ext.refl _ | assumption | apply Ext.drewN | apply Ext.drew | apply Ext.alloc)) xw2
    have Xw2 : Ext w w2 := Xw1.trans Lw2
    replace c10 := Lw2.cell c10
    replace c11 := Lw2.cell c11
    replace c12 := Lw2.cell c12
    replace c20 := Lw2.cell c20
    replace c21 := Lw2.cell c21
    replace c22 := Lw2.cell c22
    have z3 : w.heap.size < w2.heap.size := World.block_lt_of_cell? _ _ c10
    have z4 : w.heap.size + 1 < w2.heap.size := World.block_lt_of_cell? _ _ c20
    have sw2 : w1.heap.size ≤ w2.heap.size := Lw2.size
    rw [hb'.out]
    go_wp2_with fail
    go_ret
    exact ⟨by rw [hr.out] <;> rfl, Xw2⟩
  cases hq : sameB s1 s2
  · have hr := Lib.hid (show wayA b1 s1 t1 b2 s2 t2 = -1 by unfold wayA; rw [ha, hb, hq]; rfl)
    have ha' := Lib.hid ha
    have hb' := Lib.hid hb
    have hq' := Lib.hid hq
    clear ha hb hq
    go_enter Try.func94, Try.ntmps94
    go_wp2_with fail
    refine (isView_c b1 _ _ s1 t1 _ l1 m1 (h1.ext (by repeat (first | exact Ext.refl _ | assumption | apply Ext.drewN | apply Ext.drew | apply Ext.alloc))) (k1.ext (by repeat (first | exact Ext.refl _ | assumption | apply Ext.drewN | apply Ext.drew | apply Ext.alloc)))).mono ?_
    rintro e w1 ⟨rfl, xw1⟩
    have Lw1 : Ext w w1 := Ext.trans (by repeat (first | exact Ext.refl _ | assumption | apply Ext.drewN | apply Ext.drew | apply Ext.alloc)) xw1
    have Xw1 : Ext w w1 := Lw1
    have c10 : w1.cell? ⟨w.heap.size, 0, none⟩ = some (.int .i64 b1) := xw1.cell (by first | (simp; done) | (rw [World.cell?_alloc_lt _ _ _ (by simp)]; simp; done) | (go_simp; done))
    have c11 : w1.cell? ⟨w.heap.size, 1, none⟩ = some (u1) := xw1.cell (by first | (simp; done) | (rw [World.cell?_alloc_lt _ _ _ (by simp)]; simp; done) | (go_simp; done))
    have c12 : w1.cell? ⟨w.heap.size, 2, none⟩ = some (v1) := xw1.cell (by first | (simp; done) | (rw [World.cell?_alloc_lt _ _ _ (by simp)]; simp; done) | (go_simp; done))
    have c20 : w1.cell? ⟨w.heap.size + 1, 0, none⟩ = some (.int .i64 b2) := xw1.cell (by first | (simp; done) | (rw [World.cell?_alloc_lt _ _ _ (by simp)]; simp; done) | (go_simp; done))
    have c21 : w1.cell? ⟨w.heap.size + 1, 1, none⟩ = some (u2) := xw1.cell (by first | (simp; done) | (rw [World.cell?_alloc_lt _ _ _ (by simp)]; simp; done) | (go_simp; done))
    have c22 : w1.cell? ⟨w.heap.size + 1, 2, none⟩ = some (v2) := xw1.cell (by first | (simp; done) | (rw [World.cell?_alloc_lt _ _ _ (by simp)]; simp; done) | (go_simp; done))
    have z1 : w.heap.size < w1.heap.size := World.block_lt_of_cell? _ _ c10
    have z2 : w.heap.size + 1 < w1.heap.size := World.block_lt_of_cell? _ _ c20
    have sw1 : w.heap.size ≤ w1.heap.size := Lw1.size
    rw [ha'.out]
    go_wp2_with fail
    refine (isView_c b2 _ _ s2 t2 _ l2 m2 (h2.ext (Xw1.trans (by repeat (first | exact Ext.refl _ | assumption | apply Ext.drewN | apply Ext.drew | apply Ext.alloc)))) (k2.ext (Xw1.trans (by repeat (first | exact Ext.refl _ | assumption | apply Ext.drewN | apply Ext.drew | apply Ext.alloc))))).mono ?_
    rintro e w2 ⟨rfl, xw2⟩
    have Lw2 : Ext w1 w2 := Ext.trans (by repeat (first | exact Ext.refl _ | assumption | apply Ext.drewN | apply Ext.drew | apply Ext.alloc)) xw2
    have Xw2 : Ext w w2 := Xw1.trans Lw2
    replace c10 := Lw2.cell c10
    replace c11 := Lw2.cell c11
    replace c12 := Lw2.cell c12
    replace c20 := Lw2.cell c20
    replace c21 := Lw2.cell c21
    replace c22 := Lw2.cell c22
    have z3 : w.heap.size < w2.heap.size := World.block_lt_of_cell? _ _ c10
    have z4 : w.heap.size + 1 < w2.heap.size := World.block_lt_of_cell? _ _ c20
    have sw2 : w1.heap.size ≤ w2.heap.size := Lw2.size
    rw [hb'.out]
    go_wp2_with fail
    refine (equal_x s1 s2 _ _ _ _ _ (h1.ext (Xw2.trans (by repeat (first | exact Ext.refl _ | assumption | apply Ext.drewN | apply Ext.drew | apply Ext.alloc)))) (h2.ext (Xw2.trans (by repeat (first | exact Ext.refl _ | assumption | apply Ext.drewN | apply Ext.drew | apply Ext.alloc))))).mono ?_
    rintro e w3 ⟨rfl, xw3⟩
    have Lw3 : Ext w2 w3 := Ext.trans (by repeat (first | exact Ext.refl _ | assumption | apply Ext.drewN | apply Ext.drew | apply Ext.alloc)) xw3
    have Xw3 : Ext w w3 := Xw2.trans Lw3
    replace c10 := Lw3.cell c10
    replace c11 := Lw3.cell c11
    replace c12 := Lw3.cell c12
    replace c20 := Lw3.cell c20
    replace c21 := Lw3.cell c21
    replace c22 := Lw3.cell c22
    have z5 : w.heap.size < w3.heap.size := World.block_lt_of_cell? _ _ c10
    have z6 : w.heap.size + 1 < w3.heap.size := World.block_lt_of_cell? _ _ c20
    have sw3 : w2.heap.size ≤ w3.heap.size := Lw3.size
    rw [hq'.out]
    go_wp2_with fail
    go_ret
    exact ⟨by rw [hr.out] <;> rfl, Xw3⟩
  have hr := Lib.hid (show wayA b1 s1 t1 b2 s2 t2 = wayI (offsL b1 s1 t1) (offsL b2 s2 t2) by unfold wayA; rw [ha, hb, hq]; rfl)
  have hlen := offs_len ha
  have hod := Lib.hid (one_diff ha)
  have ha' := Lib.hid ha
  have hb' := Lib.hid hb
  have hq' := Lib.hid hq
  have hll : (offsL b2 s2 t2).length = (offsL b1 s1 t1).length := by rw [sameB_eq hq]; exact offs_same
  have hw := Lib.hid (way_lat hll)
  replace hll := Lib.hid hll
  obtain ⟨j1, j2, _⟩ := viewB_in ha
  have hin1 := Lib.hid (shapeB_in j1)
  have hg1 := Lib.hid j2
  clear j1 j2
  obtain ⟨j1, j2, _⟩ := viewB_in hb
  have hin2 := Lib.hid (shapeB_in j1)
  have hg2 := Lib.hid j2
  clear j1 j2
  clear ha hb hq
  go_enter Try.func94, Try.ntmps94
  go_wp2_with fail
  refine (isView_c b1 _ _ s1 t1 _ l1 m1 (h1.ext (by repeat (first | exact Ext.refl _ | assumption | apply Ext.drewN | apply Ext.drew | apply Ext.alloc))) (k1.ext (by repeat (first | exact Ext.refl _ | assumption | apply Ext.drewN | apply Ext.drew | apply Ext.alloc)))).mono ?_
  rintro e w1 ⟨rfl, xw1⟩
  have Lw1 : Ext w w1 := Ext.trans (by repeat (first | exact Ext.refl _ | assumption | apply Ext.drewN | apply Ext.drew | apply Ext.alloc)) xw1
  have Xw1 : Ext w w1 := Lw1
  have c10 : w1.cell? ⟨w.heap.size, 0, none⟩ = some (.int .i64 b1) := xw1.cell (by first | (simp; done) | (rw [World.cell?_alloc_lt _ _ _ (by simp)]; simp; done) | (go_simp; done))
  have c11 : w1.cell? ⟨w.heap.size, 1, none⟩ = some (u1) := xw1.cell (by first | (simp; done) | (rw [World.cell?_alloc_lt _ _ _ (by simp)]; simp; done) | (go_simp; done))
  have c12 : w1.cell? ⟨w.heap.size, 2, none⟩ = some (v1) := xw1.cell (by first | (simp; done) | (rw [World.cell?_alloc_lt _ _ _ (by simp)]; simp; done) | (go_simp; done))
  have c20 : w1.cell? ⟨w.heap.size + 1, 0, none⟩ = some (.int .i64 b2) := xw1.cell (by first | (simp; done) | (rw [World.cell?_alloc_lt _ _ _ (by simp)]; simp; done) | (go_simp; done))
  have c21 : w1.cell? ⟨w.heap.size + 1, 1, none⟩ = some (u2) := xw1.cell (by first | (simp; done) | (rw [World.cell?_alloc_lt _ _ _ (by simp)]; simp; done) | (go_simp; done))
  have c22 : w1.cell? ⟨w.heap.size + 1, 2, none⟩ = some (v2) := xw1.cell (by first | (simp; done) | (rw [World.cell?_alloc_lt _ _ _ (by simp)]; simp; done) | (go_simp; done))
  have z1 : w.heap.size < w1.heap.size := World.block_lt_of_cell? _ _ c10
  have z2 : w.heap.size + 1 < w1.heap.size := World.block_lt_of_cell? _ _ c20
  have sw1 : w.heap.size ≤ w1.heap.size := Lw1.size
  rw [ha'.out]
  go_wp2_with fail
  refine (isView_c b2 _ _ s2 t2 _ l2 m2 (h2.ext (Xw1.trans (by repeat (first | exact Ext.refl _ | assumption | apply Ext.drewN | apply Ext.drew | apply Ext.alloc)))) (k2.ext (Xw1.trans (by repeat (first | exact Ext.refl _ | assumption | apply Ext.drewN | apply Ext.drew | apply Ext.alloc))))).mono ?_
  rintro e w2 ⟨rfl, xw2⟩
  have Lw2 : Ext w1 w2 := Ext.trans (by repeat (first | exact Ext.refl _ | assumption | apply Ext.drewN | apply Ext.drew | apply Ext.alloc)) xw2
  have Xw2 : Ext w w2 := Xw1.trans Lw2
  replace c10 := Lw2.cell c10
  replace c11 := Lw2.cell c11
  replace c12 := Lw2.cell c12
  replace c20 := Lw2.cell c20
  replace c21 := Lw2.cell c21
  replace c22 := Lw2.cell c22
  have z3 : w.heap.size < w2.heap.size := World.block_lt_of_cell? _ _ c10
  have z4 : w.heap.size + 1 < w2.heap.size := World.block_lt_of_cell? _ _ c20
  have sw2 : w1.heap.size ≤ w2.heap.size := Lw2.size
  rw [hb'.out]
  go_wp2_with fail
  refine (equal_x s1 s2 _ _ _ _ _ (h1.ext (Xw2.trans (by repeat (first | exact Ext.refl _ | assumption | apply Ext.drewN | apply Ext.drew | apply Ext.alloc)))) (h2.ext (Xw2.trans (by repeat (first | exact Ext.refl _ | assumption | apply Ext.drewN | apply Ext.drew | apply Ext.alloc))))).mono ?_
  rintro e w3 ⟨rfl, xw3⟩
  have Lw3 : Ext w2 w3 := Ext.trans (by repeat (first | exact Ext.refl _ | assumption | apply Ext.drewN | apply Ext.drew | apply Ext.alloc)) xw3
  have Xw3 : Ext w w3 := Xw2.trans Lw3
  replace c10 := Lw3.cell c10
  replace c11 := Lw3.cell c11
  replace c12 := Lw3.cell c12
  replace c20 := Lw3.cell c20
  replace c21 := Lw3.cell c21
  replace c22 := Lw3.cell c22
  have z5 : w.heap.size < w3.heap.size := World.block_lt_of_cell? _ _ c10
  have z6 : w.heap.size + 1 < w3.heap.size := World.block_lt_of_cell? _ _ c20
  have sw3 : w2.heap.size ≤ w3.heap.size := Lw3.size
  rw [hq'.out]
  go_wp2_with fail
  refine (offsetsOf_c b2 _ _ s2 t2 _ l2 m2 (h2.ext (Xw3.trans (by repeat (first | exact Ext.refl _ | assumption | apply Ext.drewN | apply Ext.drew | apply Ext.alloc)))) (k2.ext (Xw3.trans (by repeat (first | exact Ext.refl _ | assumption | apply Ext.drewN | apply Ext.drew | apply Ext.alloc)))) (by have := hg2.out; omega) hin2.out.2.2.2.2 (by have := hin2.out; omega)).mono ?_
  rintro e w4 ⟨r4, rfl, i4, _, xw4⟩
  have Lw4 : Ext w3 w4 := Ext.trans (by repeat (first | exact Ext.refl _ | assumption | apply Ext.drewN | apply Ext.drew | apply Ext.alloc)) xw4
  have Xw4 : Ext w w4 := Xw3.trans Lw4
  replace c10 := Lw4.cell c10
  replace c11 := Lw4.cell c11
  replace c12 := Lw4.cell c12
  replace c20 := Lw4.cell c20
  replace c21 := Lw4.cell c21
  replace c22 := Lw4.cell c22
  have z7 : w.heap.size < w4.heap.size := World.block_lt_of_cell? _ _ c10
  have z8 : w.heap.size + 1 < w4.heap.size := World.block_lt_of_cell? _ _ c20
  have sw4 : w3.heap.size ≤ w4.heap.size := Lw4.size
  go_wp2_with fail
  refine (offsetsOf_c b1 _ _ s1 t1 _ l1 m1 (h1.ext (Xw4.trans (by repeat (first | exact Ext.refl _ | assumption | apply Ext.drewN | apply Ext.drew | apply Ext.alloc)))) (k1.ext (Xw4.trans (by repeat (first | exact Ext.refl _ | assumption | apply Ext.drewN | apply Ext.drew | apply Ext.alloc)))) (by have := hg1.out; omega) hin1.out.2.2.2.2 (by have := hin1.out; omega)).mono ?_
  rintro e w5 ⟨r5, rfl, i5, _, xw5⟩
  have Lw5 : Ext w4 w5 := Ext.trans (by repeat (first | exact Ext.refl _ | assumption | apply Ext.drewN | apply Ext.drew | apply Ext.alloc)) xw5
  have Xw5 : Ext w w5 := Xw4.trans Lw5
  replace c10 := Lw5.cell c10
  replace c11 := Lw5.cell c11
  replace c12 := Lw5.cell c12
  replace c20 := Lw5.cell c20
  replace c21 := Lw5.cell c21
  replace c22 := Lw5.cell c22
  replace i4 := i4.ext Lw5
  have z9 : w.heap.size < w5.heap.size := World.block_lt_of_cell? _ _ c10
  have z10 : w.heap.size + 1 < w5.heap.size := World.block_lt_of_cell? _ _ c20
  have sw5 : w4.heap.size ≤ w5.heap.size := Lw5.size
  have hone := Lib.hid (fun W (X : Ext w5 W) => isOneToOne_c b1 u1 v1 s1 t1 W l1 m1 (h1.ext (Xw5.trans X)) (k1.ext (Xw5.trans X)) ha'.out)
  rw [hod.out] at hone
  generalize offsL b2 s2 t2 = fr at *
  generalize offsL b1 s1 t1 = to at *
  clear h1 k1 h2 k2 hod
  have i4' := Lib.hid i4
  obtain ⟨a1, c1, rfl, _, _, ⟨_, _⟩, hc1⟩ := i5
  obtain ⟨a2, c2, rfl, hcap1, hcap2, _, hc2⟩ := i4
  unfold maxLen at hcap2
  go_wp2_with fail
  go_loop [5, 6, 31] (fun l e i => ∃ k : Nat, k ≤ to.length ∧ i = .int .i64 k ∧ l = .bool (latUp to fr k) ∧ e = .bool (earUp to fr k)) (fun _ _ i => to.length - (intOf i).toNat)
  case atStart => exact ⟨0, Nat.zero_le _, rfl, rfl, rfl⟩
  case round =>
    obtain ⟨k, hk, rfl, rfl, rfl⟩ := hrel
    by_cases hlt : k < to.length
    · obtain ⟨b, off, rfl, _, hcell, _⟩ := hc1 k hlt
      obtain ⟨b', off', rfl, _⟩ := hc2 k (by have := hll.out; omega)
      have hgd : to.getD k 0 = to[k] := by simp [hlt]
      rw [hgd] at hcell
      have hkf : k + 1 ≤ fr.length := by have := hll.out; omega
      have hs1 := latUp_succ to fr k
      have hs2 := earUp_succ to fr k
      rw [hgd] at hs1 hs2
      replace hs1 := Lib.hid hs1
      replace hs2 := Lib.hid hs2
      have hta := Lib.hid (i4'.out.take k (by omega))
      have hk3 : (k : Int) + 1 ≤ fr.length := by omega
      have hk4 : (k : Int) + 1 ≤ c2 := by omega
      have hk5 : (k : Int) ≤ c2 := by omega
      have hk6 : (k : Int) ≤ fr.length := by omega
      clear hc1 hc2 hgd
      by_cases hcj : c2 = k + 1
      · have hdr := Lib.hid (i4'.out.drop0 (k+1) hkf hcj)
        have hdn : fr.drop (k+1) = [] := by rw [List.drop_eq_nil_iff]; omega
        replace hdn := Lib.hid hdn
        subst hcj
        clear hcap1 hcap2
        cases hl : latUp to fr k <;> cases hee : earUp to fr k
        · replace hl := Lib.hid hl
          replace hee := Lib.hid hee
          go_wp2_with fail
          refine (contains_c (fr.drop (k+1)) _ _ _ _ hdr.out).mono ?_
          rintro e w' ⟨rfl, rfl⟩
          go_wp2_with fail
          refine (contains_c (fr.take k) _ _ _ _ hta.out).mono ?_
          rintro e w' ⟨rfl, rfl⟩
          go_wp2_with fail
          go_round
          case rel => exact ⟨k+1, by omega, by go_num, by rw [hs1.out, hl.out]; rfl, by rw [hs2.out, hee.out]; rfl⟩
          case measure => simp [intOf]; omega
        · replace hl := Lib.hid hl
          replace hee := Lib.hid hee
          go_wp2_with fail
          refine (contains_c (fr.drop (k+1)) _ _ _ _ hdr.out).mono ?_
          rintro e w' ⟨rfl, rfl⟩
          go_wp2_with fail
          go_round
          case rel => exact ⟨k+1, by omega, by go_num, by rw [hs1.out, hl.out]; rfl, by rw [hs2.out, hee.out]; rfl⟩
          case measure => simp [intOf]; omega
        · replace hl := Lib.hid hl
          replace hee := Lib.hid hee
          go_wp2_with fail
          refine (contains_c (fr.take k) _ _ _ _ hta.out).mono ?_
          rintro e w' ⟨rfl, rfl⟩
          go_wp2_with fail
          go_round
          case rel => exact ⟨k+1, by omega, by go_num, by rw [hs1.out, hl.out]; rfl, by rw [hs2.out, hee.out]; rfl⟩
          case measure => simp [intOf]; omega
        · replace hl := Lib.hid hl
          replace hee := Lib.hid hee
          go_wp2_with fail
          go_round
          case rel => exact ⟨k+1, by omega, by go_num, by rw [hs1.out, hl.out]; rfl, by rw [hs2.out, hee.out]; rfl⟩
          case measure => simp [intOf]; omega
      · have hdr := Lib.hid (i4'.out.drop1 (k+1) hkf hcj)
        cases hl : latUp to fr k <;> cases hee : earUp to fr k
        · replace hl := Lib.hid hl
          replace hee := Lib.hid hee
          go_wp2_with fail
          refine (contains_c (fr.drop (k+1)) _ _ _ _ hdr.out).mono ?_
          rintro e w' ⟨rfl, rfl⟩
          go_wp2_with fail
          refine (contains_c (fr.take k) _ _ _ _ hta.out).mono ?_
          rintro e w' ⟨rfl, rfl⟩
          go_wp2_with fail
          go_round
          case rel => exact ⟨k+1, by omega, by go_num, by rw [hs1.out, hl.out]; rfl, by rw [hs2.out, hee.out]; rfl⟩
          case measure => simp [intOf]; omega
        · replace hl := Lib.hid hl
          replace hee := Lib.hid hee
          go_wp2_with fail
          refine (contains_c (fr.drop (k+1)) _ _ _ _ hdr.out).mono ?_
          rintro e w' ⟨rfl, rfl⟩
          go_wp2_with fail
          go_round
          case rel => exact ⟨k+1, by omega, by go_num, by rw [hs1.out, hl.out]; rfl, by rw [hs2.out, hee.out]; rfl⟩
          case measure => simp [intOf]; omega
        · replace hl := Lib.hid hl
          replace hee := Lib.hid hee
          go_wp2_with fail
          refine (contains_c (fr.take k) _ _ _ _ hta.out).mono ?_
          rintro e w' ⟨rfl, rfl⟩
          go_wp2_with fail
          go_round
          case rel => exact ⟨k+1, by omega, by go_num, by rw [hs1.out, hl.out]; rfl, by rw [hs2.out, hee.out]; rfl⟩
          case measure => simp [intOf]; omega
        · replace hl := Lib.hid hl
          replace hee := Lib.hid hee
          go_wp2_with fail
          go_round
          case rel => exact ⟨k+1, by omega, by go_num, by rw [hs1.out, hl.out]; rfl, by rw [hs2.out, hee.out]; rfl⟩
          case measure => simp [intOf]; omega
    · obtain rfl : k = to.length := by omega
      clear hc1 hc2
      cases hl : latUp to fr to.length
      · replace hl := Lib.hid hl
        go_wp2_with fail
        go_ret
        exact ⟨by rw [hr.out, hw.out, if_pos hl.out] <;> rfl, Xw5⟩
      · replace hl := Lib.hid hl
        cases hee : earUp to fr to.length
        · replace hee := Lib.hid hee
          go_wp2_with fail
          refine (hone.out _ (by repeat (first | exact Ext.refl _ | assumption | apply Ext.drewN | apply Ext.drew | apply Ext.alloc))).mono ?_
          rintro e w6 ⟨rfl, xw6⟩
          have X6 : Ext w w6 := Xw5.trans (Ext.trans (by repeat (first | exact Ext.refl _ | assumption | apply Ext.drewN | apply Ext.drew | apply Ext.alloc)) xw6)
          by_cases hn : to.Nodup
          · have hn' : decide to.Nodup = true := decide_eq_true hn
            have hn2 := Lib.hid hn
            clear hn
            go_wp2_with fail
            go_ret
            exact ⟨by rw [hr.out, hw.out, if_neg (by rw [hl.out]; simp), if_pos ⟨hee.out, hn2.out⟩] <;> rfl, X6⟩
          · have hn' : decide to.Nodup = false := decide_eq_false hn
            have hn2 := Lib.hid hn
            clear hn
            go_wp2_with fail
            go_ret
            exact ⟨by rw [hr.out, hw.out, if_neg (by rw [hl.out]; simp), if_neg (fun h => hn2.out h.2)] <;> rfl, X6⟩
        · replace hee := Lib.hid hee
          go_wp2_with fail
          go_ret
          exact ⟨by rw [hr.out, hw.out, if_neg (by rw [hl.out]; simp), if_neg (fun h => by rw [hee.out] at h; cases h.1)] <;> rfl, Xw5⟩

set_option maxHeartbeats 6400000 in
theorem specWayOf_c (b1 : Int) (u1 v1 : Value) (s1 t1 : List Int) (b2 : Int) (u2 v2 : Value) (s2 t2 : List Int) (w : World) (l1 m1 l2 m2 : Nat) (h1 : Ints w l1 u1 s1) (k1 : Ints w m1 v1 t1) (h2 : Ints w l2 u2 s2) (k2 : Ints w m2 v2 t2) :
    Calls Try.prog 93 #[.agg #[.int .i64 b1, u1, v1], .agg #[.int .i64 b2, u2, v2]] w (fun e w' => e = .returned (.int .i64 (wayA b1 s1 t1 b2 s2 t2)) ∧ Ext w w') := by
  cases ha : viewB b1 s1 t1
  · have hr := Lib.hid (show wayA b1 s1 t1 b2 s2 t2 = -1 by unfold wayA; rw [ha]; rfl)
    go_enter Try.func93, Try.ntmps93
    go_wp2_with fail
    refine (validView_c b1 _ _ s1 t1 _ l1 m1 (h1.ext (by repeat (first | exact Ext.refl _ | assumption | apply Ext.drewN | apply Ext.drew | apply Ext.alloc))) (k1.ext (by repeat (first | exact Ext.refl _ | assumption | apply Ext.drewN | apply Ext.drew | apply Ext.alloc)))).mono ?_
    rintro e w1 ⟨rfl, xw1⟩
    have Lw1 : Ext w w1 := Ext.trans (by repeat (first | exact Ext.refl _ | assumption | apply Ext.drewN | apply Ext.drew | apply Ext.alloc)) xw1
    have Xw1 : Ext w w1 := Lw1
    have c10 : w1.cell? ⟨w.heap.size, 0, none⟩ = some (.int .i64 b1) := xw1.cell (by first | (simp; done) | (rw [World.cell?_alloc_lt _ _ _ (by simp)]; simp; done) | (go_simp; done))
    have c11 : w1.cell? ⟨w.heap.size, 1, none⟩ = some (u1) := xw1.cell (by first | (simp; done) | (rw [World.cell?_alloc_lt _ _ _ (by simp)]; simp; done) | (go_simp; done))
    have c12 : w1.cell? ⟨w.heap.size, 2, none⟩ = some (v1) := xw1.cell (by first | (simp; done) | (rw [World.cell?_alloc_lt _ _ _ (by simp)]; simp; done) | (go_simp; done))
    have c20 : w1.cell? ⟨w.heap.size + 1, 0, none⟩ = some (.int .i64 b2) := xw1.cell (by first | (simp; done) | (rw [World.cell?_alloc_lt _ _ _ (by simp)]; simp; done) | (go_simp; done))
    have c21 : w1.cell? ⟨w.heap.size + 1, 1, none⟩ = some (u2) := xw1.cell (by first | (simp; done) | (rw [World.cell?_alloc_lt _ _ _ (by simp)]; simp; done) | (go_simp; done))
    have c22 : w1.cell? ⟨w.heap.size + 1, 2, none⟩ = some (v2) := xw1.cell (by first | (simp; done) | (rw [World.cell?_alloc_lt _ _ _ (by simp)]; simp; done) | (go_simp; done))
    have z1 : w.heap.size < w1.heap.size := World.block_lt_of_cell? _ _ c10
    have z2 : w.heap.size + 1 < w1.heap.size := World.block_lt_of_cell? _ _ c20
    have sw1 : w.heap.size ≤ w1.heap.size := Lw1.size
    rw [ha]
    go_wp2_with fail
    go_ret
    exact ⟨by rw [hr.out] <;> rfl, Xw1⟩
  cases hb : viewB b2 s2 t2
  · have hr := Lib.hid (show wayA b1 s1 t1 b2 s2 t2 = -1 by unfold wayA; rw [ha, hb]; rfl)
    have ha' := Lib.hid ha
    have hb' := Lib.hid hb
    clear ha hb
    go_enter Try.func93, Try.ntmps93
    go_wp2_with fail
    refine (validView_c b1 _ _ s1 t1 _ l1 m1 (h1.ext (by repeat (first | exact Ext.refl _ | assumption | apply Ext.drewN | apply Ext.drew | apply Ext.alloc))) (k1.ext (by repeat (first | exact Ext.refl _ | assumption | apply Ext.drewN | apply Ext.drew | apply Ext.alloc)))).mono ?_
    rintro e w1 ⟨rfl, xw1⟩
    have Lw1 : Ext w w1 := Ext.trans (by repeat (first | exact Ext.refl _ | assumption | apply Ext.drewN | apply Ext.drew | apply Ext.alloc)) xw1
    have Xw1 : Ext w w1 := Lw1
    have c10 : w1.cell? ⟨w.heap.size, 0, none⟩ = some (.int .i64 b1) := xw1.cell (by first | (simp; done) | (rw [World.cell?_alloc_lt _ _ _ (by simp)]; simp; done) | (go_simp; done))
    have c11 : w1.cell? ⟨w.heap.size, 1, none⟩ = some (u1) := xw1.cell (by first | (simp; done) | (rw [World.cell?_alloc_lt _ _ _ (by simp)]; simp; done) | (go_simp; done))
    have c12 : w1.cell? ⟨w.heap.size, 2, none⟩ = some (v1) := xw1.cell (by first | (simp; done) | (rw [World.cell?_alloc_lt _ _ _ (by simp)]; simp; done) | (go_simp; done))
    have c20 : w1.cell? ⟨w.heap.size + 1, 0, none⟩ = some (.int .i64 b2) := xw1.cell (by first | (simp; done) | (rw [World.cell?_alloc_lt _ _ _ (by simp)]; simp; done) | (go_simp; done))
    have c21 : w1.cell? ⟨w.heap.size + 1, 1, none⟩ = some (u2) := xw1.cell (by first | (simp; done) | (rw [World.cell?_alloc_lt _ _ _ (by simp)]; simp; done) | (go_simp; done))
    have c22 : w1.cell? ⟨w.heap.size + 1, 2, none⟩ = some (v2) := xw1.cell (by first | (simp; done) | (rw [World.cell?_alloc_lt _ _ _ (by simp)]; simp; done) | (go_simp; done))
    have z1 : w.heap.size < w1.heap.size := World.block_lt_of_cell? _ _ c10
    have z2 : w.heap.size + 1 < w1.heap.size := World.block_lt_of_cell? _ _ c20
    have sw1 : w.heap.size ≤ w1.heap.size := Lw1.size
    rw [ha'.out]
    go_wp2_with fail
    refine (validView_c b2 _ _ s2 t2 _ l2 m2 (h2.ext (Xw1.trans (by repeat (first | exact Ext.refl _ | assumption | apply Ext.drewN | apply Ext.drew | apply Ext.alloc)))) (k2.ext (Xw1.trans (by repeat (first | exact Ext.refl _ | assumption | apply Ext.drewN | apply Ext.drew | apply Ext.alloc))))).mono ?_
    rintro e w2 ⟨rfl, xw2⟩
    have Lw2 : Ext w1 w2 := Ext.trans (by repeat (first | exact Ext.refl _ | assumption | apply Ext.drewN | apply Ext.drew | apply Ext.alloc)) xw2
    have Xw2 : Ext w w2 := Xw1.trans Lw2
    replace c10 := Lw2.cell c10
    replace c11 := Lw2.cell c11
    replace c12 := Lw2.cell c12
    replace c20 := Lw2.cell c20
    replace c21 := Lw2.cell c21
    replace c22 := Lw2.cell c22
    have z3 : w.heap.size < w2.heap.size := World.block_lt_of_cell? _ _ c10
    have z4 : w.heap.size + 1 < w2.heap.size := World.block_lt_of_cell? _ _ c20
    have sw2 : w1.heap.size ≤ w2.heap.size := Lw2.size
    rw [hb'.out]
    go_wp2_with fail
    go_ret
    exact ⟨by rw [hr.out] <;> rfl, Xw2⟩
  cases hq : sameB s1 s2
  · have hr := Lib.hid (show wayA b1 s1 t1 b2 s2 t2 = -1 by unfold wayA; rw [ha, hb, hq]; rfl)
    have ha' := Lib.hid ha
    have hb' := Lib.hid hb
    have hq' := Lib.hid hq
    clear ha hb hq
    go_enter Try.func93, Try.ntmps93
    go_wp2_with fail
    refine (validView_c b1 _ _ s1 t1 _ l1 m1 (h1.ext (by repeat (first | exact Ext.refl _ | assumption | apply Ext.drewN | apply Ext.drew | apply Ext.alloc))) (k1.ext (by repeat (first | exact Ext.refl _ | assumption | apply Ext.drewN | apply Ext.drew | apply Ext.alloc)))).mono ?_
    rintro e w1 ⟨rfl, xw1⟩
    have Lw1 : Ext w w1 := Ext.trans (by repeat (first | exact Ext.refl _ | assumption | apply Ext.drewN | apply Ext.drew | apply Ext.alloc)) xw1
    have Xw1 : Ext w w1 := Lw1
    have c10 : w1.cell? ⟨w.heap.size, 0, none⟩ = some (.int .i64 b1) := xw1.cell (by first | (simp; done) | (rw [World.cell?_alloc_lt _ _ _ (by simp)]; simp; done) | (go_simp; done))
    have c11 : w1.cell? ⟨w.heap.size, 1, none⟩ = some (u1) := xw1.cell (by first | (simp; done) | (rw [World.cell?_alloc_lt _ _ _ (by simp)]; simp; done) | (go_simp; done))
    have c12 : w1.cell? ⟨w.heap.size, 2, none⟩ = some (v1) := xw1.cell (by first | (simp; done) | (rw [World.cell?_alloc_lt _ _ _ (by simp)]; simp; done) | (go_simp; done))
    have c20 : w1.cell? ⟨w.heap.size + 1, 0, none⟩ = some (.int .i64 b2) := xw1.cell (by first | (simp; done) | (rw [World.cell?_alloc_lt _ _ _ (by simp)]; simp; done) | (go_simp; done))
    have c21 : w1.cell? ⟨w.heap.size + 1, 1, none⟩ = some (u2) := xw1.cell (by first | (simp; done) | (rw [World.cell?_alloc_lt _ _ _ (by simp)]; simp; done) | (go_simp; done))
    have c22 : w1.cell? ⟨w.heap.size + 1, 2, none⟩ = some (v2) := xw1.cell (by first | (simp; done) | (rw [World.cell?_alloc_lt _ _ _ (by simp)]; simp; done) | (go_simp; done))
    have z1 : w.heap.size < w1.heap.size := World.block_lt_of_cell? _ _ c10
    have z2 : w.heap.size + 1 < w1.heap.size := World.block_lt_of_cell? _ _ c20
    have sw1 : w.heap.size ≤ w1.heap.size := Lw1.size
    rw [ha'.out]
    go_wp2_with fail
    refine (validView_c b2 _ _ s2 t2 _ l2 m2 (h2.ext (Xw1.trans (by repeat (first | exact Ext.refl _ | assumption | apply Ext.drewN | apply Ext.drew | apply Ext.alloc)))) (k2.ext (Xw1.trans (by repeat (first | exact Ext.refl _ | assumption | apply Ext.drewN | apply Ext.drew | apply Ext.alloc))))).mono ?_
    rintro e w2 ⟨rfl, xw2⟩
    have Lw2 : Ext w1 w2 := Ext.trans (by repeat (first | exact Ext.refl _ | assumption | apply Ext.drewN | apply Ext.drew | apply Ext.alloc)) xw2
    have Xw2 : Ext w w2 := Xw1.trans Lw2
    replace c10 := Lw2.cell c10
    replace c11 := Lw2.cell c11
    replace c12 := Lw2.cell c12
    replace c20 := Lw2.cell c20
    replace c21 := Lw2.cell c21
    replace c22 := Lw2.cell c22
    have z3 : w.heap.size < w2.heap.size := World.block_lt_of_cell? _ _ c10
    have z4 : w.heap.size + 1 < w2.heap.size := World.block_lt_of_cell? _ _ c20
    have sw2 : w1.heap.size ≤ w2.heap.size := Lw2.size
    rw [hb'.out]
    go_wp2_with fail
    refine (sameInts_c s1 s2 _ _ _ _ _ (h1.ext (Xw2.trans (by repeat (first | exact Ext.refl _ | assumption | apply Ext.drewN | apply Ext.drew | apply Ext.alloc)))) (h2.ext (Xw2.trans (by repeat (first | exact Ext.refl _ | assumption | apply Ext.drewN | apply Ext.drew | apply Ext.alloc))))).mono ?_
    rintro e w3 ⟨rfl, xw3⟩
    have Lw3 : Ext w2 w3 := Ext.trans (by repeat (first | exact Ext.refl _ | assumption | apply Ext.drewN | apply Ext.drew | apply Ext.alloc)) xw3
    have Xw3 : Ext w w3 := Xw2.trans Lw3
    replace c10 := Lw3.cell c10
    replace c11 := Lw3.cell c11
    replace c12 := Lw3.cell c12
    replace c20 := Lw3.cell c20
    replace c21 := Lw3.cell c21
    replace c22 := Lw3.cell c22
    have z5 : w.heap.size < w3.heap.size := World.block_lt_of_cell? _ _ c10
    have z6 : w.heap.size + 1 < w3.heap.size := World.block_lt_of_cell? _ _ c20
    have sw3 : w2.heap.size ≤ w3.heap.size := Lw3.size
    rw [hq'.out]
    go_wp2_with fail
    go_ret
    exact ⟨by rw [hr.out] <;> rfl, Xw3⟩
  have hr := Lib.hid (show wayA b1 s1 t1 b2 s2 t2 = wayI (offsL b1 s1 t1) (offsL b2 s2 t2) by unfold wayA; rw [ha, hb, hq]; rfl)
  have hlen := offs_len ha
  have hod := Lib.hid (one_diff ha)
  have ha' := Lib.hid ha
  have hb' := Lib.hid hb
  have hq' := Lib.hid hq
  have hll : (offsL b2 s2 t2).length = (offsL b1 s1 t1).length := by rw [sameB_eq hq]; exact offs_same
  have hw := Lib.hid (way_lat hll)
  replace hll := Lib.hid hll
  obtain ⟨j1, j2, _⟩ := viewB_in ha
  have hin1 := Lib.hid (shapeB_in j1)
  have hg1 := Lib.hid j2
  clear j1 j2
  obtain ⟨j1, j2, _⟩ := viewB_in hb
  have hin2 := Lib.hid (shapeB_in j1)
  have hg2 := Lib.hid j2
  clear j1 j2
  clear ha hb hq
  go_enter Try.func93, Try.ntmps93
  go_wp2_with fail
  refine (validView_c b1 _ _ s1 t1 _ l1 m1 (h1.ext (by repeat (first | exact Ext.refl _ | assumption | apply Ext.drewN | apply Ext.drew | apply Ext.alloc))) (k1.ext (by repeat (first | exact Ext.refl _ | assumption | apply Ext.drewN | apply Ext.drew | apply Ext.alloc)))).mono ?_
  rintro e w1 ⟨rfl, xw1⟩
  have Lw1 : Ext w w1 := Ext.trans (by repeat (first | exact Ext.refl _ | assumption | apply Ext.drewN | apply Ext.drew | apply Ext.alloc)) xw1
  have Xw1 : Ext w w1 := Lw1
  have c10 : w1.cell? ⟨w.heap.size, 0, none⟩ = some (.int .i64 b1) := xw1.cell (by first | (simp; done) | (rw [World.cell?_alloc_lt _ _ _ (by simp)]; simp; done) | (go_simp; done))
  have c11 : w1.cell? ⟨w.heap.size, 1, none⟩ = some (u1) := xw1.cell (by first | (simp; done) | (rw [World.cell?_alloc_lt _ _ _ (by simp)]; simp; done) | (go_simp; done))
  have c12 : w1.cell? ⟨w.heap.size, 2, none⟩ = some (v1) := xw1.cell (by first | (simp; done) | (rw [World.cell?_alloc_lt _ _ _ (by simp)]; simp; done) | (go_simp; done))
  have c20 : w1.cell? ⟨w.heap.size + 1, 0, none⟩ = some (.int .i64 b2) := xw1.cell (by first | (simp; done) | (rw [World.cell?_alloc_lt _ _ _ (by simp)]; simp; done) | (go_simp; done))
  have c21 : w1.cell? ⟨w.heap.size + 1, 1, none⟩ = some (u2) := xw1.cell (by first | (simp; done) | (rw [World.cell?_alloc_lt _ _ _ (by simp)]; simp; done) | (go_simp; done))
  have c22 : w1.cell? ⟨w.heap.size + 1, 2, none⟩ = some (v2) := xw1.cell (by first | (simp; done) | (rw [World.cell?_alloc_lt _ _ _ (by simp)]; simp; done) | (go_simp; done))
  have z1 : w.heap.size < w1.heap.size := World.block_lt_of_cell? _ _ c10
  have z2 : w.heap.size + 1 < w1.heap.size := World.block_lt_of_cell? _ _ c20
  have sw1 : w.heap.size ≤ w1.heap.size := Lw1.size
  rw [ha'.out]
  go_wp2_with fail
  refine (validView_c b2 _ _ s2 t2 _ l2 m2 (h2.ext (Xw1.trans (by repeat (first | exact Ext.refl _ | assumption | apply Ext.drewN | apply Ext.drew | apply Ext.alloc)))) (k2.ext (Xw1.trans (by repeat (first | exact Ext.refl _ | assumption | apply Ext.drewN | apply Ext.drew | apply Ext.alloc))))).mono ?_
  rintro e w2 ⟨rfl, xw2⟩
  have Lw2 : Ext w1 w2 := Ext.trans (by repeat (first | exact Ext.refl _ | assumption | apply Ext.drewN | apply Ext.drew | apply Ext.alloc)) xw2
  have Xw2 : Ext w w2 := Xw1.trans Lw2
  replace c10 := Lw2.cell c10
  replace c11 := Lw2.cell c11
  replace c12 := Lw2.cell c12
  replace c20 := Lw2.cell c20
  replace c21 := Lw2.cell c21
  replace c22 := Lw2.cell c22
  have z3 : w.heap.size < w2.heap.size := World.block_lt_of_cell? _ _ c10
  have z4 : w.heap.size + 1 < w2.heap.size := World.block_lt_of_cell? _ _ c20
  have sw2 : w1.heap.size ≤ w2.heap.size := Lw2.size
  rw [hb'.out]
  go_wp2_with fail
  refine (sameInts_c s1 s2 _ _ _ _ _ (h1.ext (Xw2.trans (by repeat (first | exact Ext.refl _ | assumption | apply Ext.drewN | apply Ext.drew | apply Ext.alloc)))) (h2.ext (Xw2.trans (by repeat (first | exact Ext.refl _ | assumption | apply Ext.drewN | apply Ext.drew | apply Ext.alloc))))).mono ?_
  rintro e w3 ⟨rfl, xw3⟩
  have Lw3 : Ext w2 w3 := Ext.trans (by repeat (first | exact Ext.refl _ | assumption | apply Ext.drewN | apply Ext.drew | apply Ext.alloc)) xw3
  have Xw3 : Ext w w3 := Xw2.trans Lw3
  replace c10 := Lw3.cell c10
  replace c11 := Lw3.cell c11
  replace c12 := Lw3.cell c12
  replace c20 := Lw3.cell c20
  replace c21 := Lw3.cell c21
  replace c22 := Lw3.cell c22
  have z5 : w.heap.size < w3.heap.size := World.block_lt_of_cell? _ _ c10
  have z6 : w.heap.size + 1 < w3.heap.size := World.block_lt_of_cell? _ _ c20
  have sw3 : w2.heap.size ≤ w3.heap.size := Lw3.size
  rw [hq'.out]
  go_wp2_with fail
  refine (offsets_c b1 _ _ s1 t1 _ l1 m1 (h1.ext (Xw3.trans (by repeat (first | exact Ext.refl _ | assumption | apply Ext.drewN | apply Ext.drew | apply Ext.alloc)))) (k1.ext (Xw3.trans (by repeat (first | exact Ext.refl _ | assumption | apply Ext.drewN | apply Ext.drew | apply Ext.alloc)))) (by have := hg1.out; omega) hin1.out.2.2.2.2 (by have := hin1.out; omega)).mono ?_
  rintro e w4 ⟨r4, rfl, i4, _, xw4⟩
  have Lw4 : Ext w3 w4 := Ext.trans (by repeat (first | exact Ext.refl _ | assumption | apply Ext.drewN | apply Ext.drew | apply Ext.alloc)) xw4
  have Xw4 : Ext w w4 := Xw3.trans Lw4
  replace c10 := Lw4.cell c10
  replace c11 := Lw4.cell c11
  replace c12 := Lw4.cell c12
  replace c20 := Lw4.cell c20
  replace c21 := Lw4.cell c21
  replace c22 := Lw4.cell c22
  have z7 : w.heap.size < w4.heap.size := World.block_lt_of_cell? _ _ c10
  have z8 : w.heap.size + 1 < w4.heap.size := World.block_lt_of_cell? _ _ c20
  have sw4 : w3.heap.size ≤ w4.heap.size := Lw4.size
  go_wp2_with fail
  refine (offsets_c b2 _ _ s2 t2 _ l2 m2 (h2.ext (Xw4.trans (by repeat (first | exact Ext.refl _ | assumption | apply Ext.drewN | apply Ext.drew | apply Ext.alloc)))) (k2.ext (Xw4.trans (by repeat (first | exact Ext.refl _ | assumption | apply Ext.drewN | apply Ext.drew | apply Ext.alloc)))) (by have := hg2.out; omega) hin2.out.2.2.2.2 (by have := hin2.out; omega)).mono ?_
  rintro e w5 ⟨r5, rfl, i5, _, xw5⟩
  have Lw5 : Ext w4 w5 := Ext.trans (by repeat (first | exact Ext.refl _ | assumption | apply Ext.drewN | apply Ext.drew | apply Ext.alloc)) xw5
  have Xw5 : Ext w w5 := Xw4.trans Lw5
  replace c10 := Lw5.cell c10
  replace c11 := Lw5.cell c11
  replace c12 := Lw5.cell c12
  replace c20 := Lw5.cell c20
  replace c21 := Lw5.cell c21
  replace c22 := Lw5.cell c22
  replace i4 := i4.ext Lw5
  have z9 : w.heap.size < w5.heap.size := World.block_lt_of_cell? _ _ c10
  have z10 : w.heap.size + 1 < w5.heap.size := World.block_lt_of_cell? _ _ c20
  have sw5 : w4.heap.size ≤ w5.heap.size := Lw5.size
  clear c10 c11 c12 c20 c21 c22
  generalize offsL b2 s2 t2 = fr at *
  generalize offsL b1 s1 t1 = to at *
  go_wp2_with fail
  refine (clean_false_c to fr _ _ _ _ _ (i4.ext (by repeat (first | exact Ext.refl _ | assumption | apply Ext.drewN | apply Ext.drew | apply Ext.alloc))) (i5.ext (by repeat (first | exact Ext.refl _ | assumption | apply Ext.drewN | apply Ext.drew | apply Ext.alloc))) hll.out).mono ?_
  rintro e w6 ⟨rfl, xw6⟩
  have Lw6 : Ext w5 w6 := Ext.trans (by repeat (first | exact Ext.refl _ | assumption | apply Ext.drewN | apply Ext.drew | apply Ext.alloc)) xw6
  have Xw6 : Ext w w6 := Xw5.trans Lw6
  replace i4 := i4.ext Lw6
  replace i5 := i5.ext Lw6
  have sw6 : w5.heap.size ≤ w6.heap.size := Lw6.size
  cases hc1 : cleanB to fr false
  · replace hc1 := Lib.hid hc1
    go_wp2_with fail
    refine (clean_true_c to fr _ _ _ _ _ (i4.ext (by repeat (first | exact Ext.refl _ | assumption | apply Ext.drewN | apply Ext.drew | apply Ext.alloc))) (i5.ext (by repeat (first | exact Ext.refl _ | assumption | apply Ext.drewN | apply Ext.drew | apply Ext.alloc))) hll.out).mono ?_
    rintro e w7 ⟨rfl, xw7⟩
    have X7 : Ext w w7 := Xw6.trans (Ext.trans (by repeat (first | exact Ext.refl _ | assumption | apply Ext.drewN | apply Ext.drew | apply Ext.alloc)) xw7)
    have i7 := i4.ext (Ext.trans (by repeat (first | exact Ext.refl _ | assumption | apply Ext.drewN | apply Ext.drew | apply Ext.alloc)) xw7)
    cases hc2 : cleanB to fr true
    · replace hc2 := Lib.hid hc2
      go_wp2_with fail
      go_ret
      exact ⟨by rw [hr.out]; unfold wayI; rw [hc1.out, hc2.out]; rfl, X7⟩
    · replace hc2 := Lib.hid hc2
      go_wp2_with fail
      refine (different_c to _ _ _ (i7.ext (by repeat (first | exact Ext.refl _ | assumption | apply Ext.drewN | apply Ext.drew | apply Ext.alloc)))).mono ?_
      rintro e w8 ⟨rfl, xw8⟩
      have X8 : Ext w w8 := X7.trans (Ext.trans (by repeat (first | exact Ext.refl _ | assumption | apply Ext.drewN | apply Ext.drew | apply Ext.alloc)) xw8)
      by_cases hn : to.Nodup
      · have hn' : decide to.Nodup = true := decide_eq_true hn
        have hn2 := Lib.hid hn
        clear hn
        go_wp2_with fail
        go_ret
        exact ⟨by rw [hr.out]; unfold wayI; rw [hc1.out, hc2.out, decide_eq_true hn2.out]; rfl, X8⟩
      · have hn' : decide to.Nodup = false := decide_eq_false hn
        have hn2 := Lib.hid hn
        clear hn
        go_wp2_with fail
        go_ret
        exact ⟨by rw [hr.out]; unfold wayI; rw [hc1.out, hc2.out, decide_eq_false hn2.out]; rfl, X8⟩
  · replace hc1 := Lib.hid hc1
    go_wp2_with fail
    go_ret
    exact ⟨by rw [hr.out]; unfold wayI; rw [hc1.out]; rfl, Xw6⟩

end Go.Proofs.Ytfdpoepidlmbaaa
