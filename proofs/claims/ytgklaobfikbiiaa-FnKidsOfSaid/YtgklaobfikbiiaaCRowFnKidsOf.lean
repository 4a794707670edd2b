/- Texts of these proofs put together: LvU, PvA, RngD, LawFnKidsOf, RowFnKidsOf. No condition. -/
import Derived.Test.YtgklaobfikbiiaaM3
import Derived.Test.YtgklaobfikbiiaaM5
import Derived.Test.YtgklaobfikbiiaaM2
import Derived.Test.YtgklaobfikbiiaaM7
import Derived.Test.YtgklaobfikbiiaaM6
set_option linter.unusedVariables false
set_option linter.unusedSimpArgs false
/- Helpers of the laws: a list has all numbers of another one. -/
namespace Go.Proofs.Ytgklaobfikbiiaa
open Go.RowKit
set_option linter.unusedVariables false
set_option maxRecDepth 100000

set_option maxHeartbeats 1600000 in
theorem within_c (xs ys : List Int) (a b : Value) (w : World) (la lb : Nat) (ha : Ints w la a xs) (hb : Ints w lb b ys) (hs : Hid (∀ x ∈ xs, x ∈ ys)) :
    Calls Try.prog 30 #[a, b] w fun e w' => e = .returned (.bool true) ∧ Ext w w' := by
  obtain ⟨a2, cap2, rfl⟩ := hb.form
  obtain ⟨a1, cap1, rfl, _, _, ⟨hlen, _⟩, hc1⟩ := ha
  go_enter Try.func30, Try.ntmps30
  go_wp2_with fail
  go_loopw [5] (fun i wr => ∃ k : Nat, k ≤ xs.length ∧ i = .int .i64 k ∧ Ext w wr) (fun i _ => xs.length - (intOf i).toNat)
  case atStart => exact ⟨0, Nat.zero_le _, rfl, Ext.refl _⟩
  case round =>
    obtain ⟨k, hk, rfl, Xr⟩ := hrel
    by_cases hlt : k < xs.length
    · obtain ⟨b1, off1, rfl, _, hcell1, _⟩ := hc1 k hlt
      have hk4 : (k : Int) < xs.length := by omega
      have hg : xs.getD k 0 ∈ ys := hs.out _ (by simp [hlt])
      clear hc1
      generalize xs.getD k 0 = x at *
      replace hcell1 := Xr.cell hcell1
      replace hg := Lib.hid hg
      go_wp2_with fail
      refine (isIn_c ys x _ _ _ (hb.ext qXt)).mono ?_
      rintro e w2 ⟨rfl, x2⟩
      rw [show decide (x ∈ ys) = true from decide_eq_true hg.out]
      have X2 : Ext w w2 := Xr.trans (Ext.trans qXt x2)
      clear x2
      go_wp2_with fail
      go_roundw
      case rel => exact ⟨k+1, by omega, by go_num, qXt⟩
      case measure => simp [intOf]; omega
    · obtain rfl : k = xs.length := by omega
      go_wp2_with fail
      go_ret
      exact ⟨rfl, qXt⟩
end Go.Proofs.Ytgklaobfikbiiaa

/- Plain laws on buffers: open exports, kids, closed exports. No condition. -/
namespace Go.Proofs.Ytgklaobfikbiiaa
open Go.RowKit
set_option linter.unusedVariables false
set_option maxRecDepth 100000

theorem mem_selL {p : Exp → Bool} {es : List Exp} {n : Nat} {x : Int} : x ∈ selL p es n ↔ ∃ k : Nat, k < n ∧ p (expAt es k) = true ∧ x = k := by
  unfold selL
  simp only [List.mem_map, List.mem_filter, List.mem_range]
  constructor
  · rintro ⟨k, ⟨h1, h2⟩, rfl⟩; exact ⟨k, h1, h2, rfl⟩
  · rintro ⟨k, h1, h2, rfl⟩; exact ⟨k, ⟨h1, h2⟩, rfl⟩
theorem selL_asc (p : Exp → Bool) (es : List Exp) (n : Nat) : (selL p es n).Pairwise (· < ·) := by
  induction n with
  | zero => exact List.Pairwise.nil
  | succ n ih =>
    cases h : p (expAt es n)
    · rw [selL_no h]; exact ih
    · rw [selL_yes h, List.pairwise_append]
      refine ⟨ih, List.pairwise_singleton _ _, fun a ha b hb => ?_⟩
      obtain ⟨k, hk, -, rfl⟩ := mem_selL.1 ha
      rw [List.mem_singleton] at hb
      subst hb; omega
theorem selL_nil {p : Exp → Bool} {es : List Exp} {n : Nat} (h : ∀ k, k < n → p (expAt es k) = false) : selL p es n = [] := by
  rw [List.eq_nil_iff_forall_not_mem]
  intro x hx
  obtain ⟨k, hk, hp, -⟩ := mem_selL.1 hx
  rw [h k hk] at hp; cases hp
theorem openA_of {cells : List Int} {es : List Exp} (h : bufB cells es = true) : openA cells es = selL opP es es.length := by unfold openA; rw [h]; rfl
theorem kidsA_of {cells : List Int} {es : List Exp} {d : Int} (h : bufB cells es = true) (hd : -1 ≤ d ∧ d < es.length) : kidsA cells es d = selL (kidP d) es es.length := by
  unfold kidsA; rw [h, decide_eq_true hd.1, decide_eq_true hd.2]; rfl
theorem kidsA_asc (cells : List Int) (es : List Exp) (d : Int) : (kidsA cells es d).Pairwise (· < ·) := by
  unfold kidsA
  split
  · exact selL_asc _ _ _
  · exact List.Pairwise.nil
theorem kids_within (cells : List Int) (es : List Exp) (d : Int) : ∀ x ∈ kidsA cells es d, x ∈ openA cells es := by
  intro x hx
  unfold kidsA at hx
  split at hx
  · rename_i hc
    rw [Bool.and_eq_true] at hc
    rw [openA_of hc.1]
    obtain ⟨k, hk, hp, rfl⟩ := mem_selL.1 hx
    unfold kidP at hp
    rw [Bool.and_eq_true] at hp
    exact mem_selL.2 ⟨k, hk, hp.1, rfl⟩
  · cases hx
theorem kids_closed {cells : List Int} {es : List Exp} {k : Nat} (hk : k < es.length) (h : bufB cells es = true) (ho : (expAt es k).op = false) : kidsA cells es (k : Int) = [] := by
  rw [kidsA_of h ⟨by omega, by omega⟩]
  refine selL_nil fun i hi => ?_
  cases hp : kidP (k : Int) (expAt es i)
  · rfl
  · exfalso
    unfold kidP at hp
    rw [Bool.and_eq_true, decide_eq_true_eq] at hp
    have h4 := (expB_iff.1 ((bufB_iff.1 h).2.2 i hi)).2.2.2 hp.1
    rw [hp.2, Int.toNat_natCast, ho] at h4
    rcases h4.2 with h5 | h5
    · omega
    · cases h5
/-- the kids of nobody and of the first k exports, among the first n -/
def kidSum (es : List Exp) (n : Nat) : Nat → Nat
  | 0 => (selL (kidP (-1)) es n).length
  | k+1 => kidSum es n k + (selL (kidP (k : Int)) es n).length
theorem selL_lenS (p : Exp → Bool) (es : List Exp) (n : Nat) : (selL p es (n+1)).length = (selL p es n).length + (if p (expAt es n) = true then 1 else 0) := by
  cases h : p (expAt es n)
  · rw [selL_no h]; rfl
  · rw [selL_yes h]; simp
theorem kidSum_zero (es : List Exp) (k : Nat) : kidSum es 0 k = 0 := by
  induction k with
  | zero => rfl
  | succ k ih => unfold kidSum; rw [ih]; rfl
theorem kidSum_succ (es : List Exp) (n k : Nat) (h1 : -1 ≤ (expAt es n).par) : kidSum es (n+1) k = kidSum es n k + (if (expAt es n).op = true ∧ (expAt es n).par < k then 1 else 0) := by
  induction k with
  | zero =>
    unfold kidSum
    rw [selL_lenS]
    congr 1
    unfold kidP
    cases (expAt es n).op
    · rfl
    · by_cases hp : (expAt es n).par = -1
      · rw [if_pos (by simp [hp]), if_pos ⟨rfl, by omega⟩]
      · rw [if_neg (by simp [hp]), if_neg (by rintro ⟨-, h⟩; exact hp (by omega))]
  | succ k ih =>
    unfold kidSum
    rw [selL_lenS, ih]
    have e : (if (expAt es n).op = true ∧ (expAt es n).par < ((k+1 : Nat) : Int) then 1 else 0) = (if (expAt es n).op = true ∧ (expAt es n).par < (k : Int) then 1 else 0) + (if kidP (k : Int) (expAt es n) = true then 1 else 0 : Nat) := by
      unfold kidP
      cases (expAt es n).op
      · simp
      · simp only [true_and, Bool.true_and, decide_eq_true_eq]
        by_cases hp : (expAt es n).par = (k : Int)
        · rw [if_pos (by omega), if_neg (by omega), if_pos hp]
        · by_cases hq : (expAt es n).par < (k : Int)
          · rw [if_pos (by omega), if_pos hq, if_neg hp]
          · rw [if_neg (by omega), if_neg hq, if_neg hp]
    omega
theorem kidSum_open {es : List Exp} (n : Nat) (h : ∀ i, i < n → -1 ≤ (expAt es i).par ∧ (expAt es i).par < es.length) : kidSum es n es.length = (selL opP es n).length := by
  induction n with
  | zero => rw [kidSum_zero]; rfl
  | succ n ih =>
    rw [kidSum_succ es n _ (h n (by omega)).1, ih (fun i hi => h i (by omega)), selL_lenS]
    congr 1
    have h2 := (h n (by omega)).2
    unfold opP
    cases (expAt es n).op
    · simp
    · simp [h2]
theorem bufB_par {cells : List Int} {es : List Exp} (h : bufB cells es = true) (i : Nat) (hi : i < es.length) : -1 ≤ (expAt es i).par ∧ (expAt es i).par < i := by
  obtain ⟨h1, h2, -⟩ := expB_iff.1 ((bufB_iff.1 h).2.2 i hi)
  exact ⟨h1, h2⟩
theorem kids_total {cells : List Int} {es : List Exp} (h : bufB cells es = true) : kidSum es es.length es.length = (selL opP es es.length).length :=
  kidSum_open _ fun i hi => by have := bufB_par h i hi; omega
theorem kidSum_le (es : List Exp) (n k : Nat) : kidSum es n k ≤ (k + 1) * n := by
  induction k with
  | zero => unfold kidSum; have := selL_len (kidP (-1)) es n; omega
  | succ k ih =>
    unfold kidSum
    have := selL_len (kidP (k : Int)) es n
    have e : (k + 1 + 1) * n = (k + 1) * n + n := by rw [Nat.add_mul (k+1) 1 n]; omega
    omega
end Go.Proofs.Ytgklaobfikbiiaa

/- Walks: drawn pairs of ranges; ascending lists; plain laws on what two ranges have in common. -/
namespace Go.Proofs.Ytgklaobfikbiiaa
open Go.RowKit
set_option linter.unusedVariables false
set_option maxRecDepth 100000

set_option maxHeartbeats 800000 in
theorem ascends_c (xs : List Int) (v : Value) (w : World) (lo : Nat) (hv : Ints w lo v xs) (hp : xs.Pairwise (· < ·)) :
    Calls Try.prog 29 #[v] w fun e w' => e = .returned (.bool true) ∧ Ext w w' := by
  obtain ⟨a, cap, rfl, _, _, ⟨hlen, _⟩, hc⟩ := hv
  go_enter Try.func29, Try.ntmps29
  go_wp2_with fail
  go_loopw [3] (fun i wr => ∃ k m : Nat, 1 ≤ k ∧ i = .int .i64 k ∧ wr = w.drewN m) (fun i _ => xs.length - (intOf i).toNat)
  case atStart => exact ⟨1, 0, Nat.le_refl _, rfl, rfl⟩
  case round =>
    obtain ⟨k, m, hk, rfl, rfl⟩ := hrel
    by_cases hlt : k < xs.length
    · obtain ⟨q, rfl⟩ : ∃ q, k = q + 1 := ⟨k - 1, by omega⟩
      obtain ⟨b1, off1, rfl, _, hcell1, _⟩ := hc (q+1) hlt
      obtain ⟨b2, off2, hE, _, hcell2, _⟩ := hc q (by omega)
      cases hE
      have g1 : xs.getD (q+1) 0 = xs[q+1] := by simp [hlt]
      have g2 : xs.getD q 0 = xs[q] := by simp [show q < xs.length by omega]
      have hl := List.pairwise_iff_getElem.1 hp q (q+1) (by omega) hlt (by omega)
      rw [g1] at hcell1
      rw [g2] at hcell2
      have hI : ((q + 1 : Nat) : Int) < xs.length := by omega
      have hI2 : ((q + 1 : Nat) : Int) - 1 = (q : Int) := by omega
      have hI3 : (q : Int) < xs.length := by omega
      have hN : ¬ (xs[q+1] ≤ xs[q]) := by omega
      have hD : decide (xs[q+1] ≤ xs[q]) = false := by simpa using hN
      clear hc g1 g2 hl
      generalize xs[q+1] = y1 at *
      generalize xs[q] = y2 at *
      go_wp2_with fail
      go_quiet (fail)
      go_wp2_with fail
      go_roundw
      case rel => exact ⟨q+2, _, by omega, by go_num, rfl⟩
      case measure => simp [intOf]; omega
    · have hI : ¬ (k : Int) < xs.length := by omega
      go_wp2_with fail
      go_ret
      exact ⟨rfl, qXo⟩

end Go.Proofs.Ytgklaobfikbiiaa

/- FnKidsOf returns true for all bytes: no condition. -/
namespace Go.Proofs.Ytgklaobfikbiiaa
open Go.RowKit
set_option linter.unusedVariables false
set_option maxRecDepth 100000

set_option maxHeartbeats 6400000 in
theorem lawFnKidsOf_c (a : Option Addr) (n cap : Nat) (w : World) (hb : BysIn w a n cap) :
  Calls Try.prog 7 #[.slice a n cap] w fun e w' => e = .returned (.bool true) ∧ Ext w w' := by
 have hcm := hb.1
 have hcm2 := hb.2.1
 unfold maxLen at hcm2
 go_enter Try.func7, Try.ntmps7
 by_cases hc1 : (1048576 : Int) < (n : Int)
 ·
  go_wp2_with fail
  go_ret
  exact ⟨rfl, qXo⟩
 ·
  go_wp2_with fail
  refine (drawKidsOf_c a n cap _ hb).mono ?_
  rintro e w1 ⟨cells, es, p0, p1, c0, c1, x, rfl, i1, i2, hs, hx5, xw1⟩
  have Lw1 : Ext w w1 := Ext.trans qXt xw1
  have Xw1 : Ext w w1 := Lw1
  have s_w1 : w.heap.size ≤ w1.heap.size := Xw1.size
  clear xw1
  clear hb
  have hc61 := hs.out.1
  have he9 := hs.out.2.1
  rcases (show x = -1 ∨ (0 ≤ x ∧ x < (es.length : Int)) ∨ (es.length : Int) ≤ x by omega) with hx1 | hxk | hx3
  ·
   subst hx1
   go_wp2_with fail
   refine (implKidsOf_c cells es (.slice p0 cells.length c0) (.slice p1 es.length c1) (-1) _ _ _ (i1.ext qXt) (i2.ext qXt)).mono ?_
   rintro e w2 ⟨fv3, rfl, i4, -, xw2⟩
   have Lw2 : Ext w1 w2 := Ext.trans qXt xw2
   have Xw2 : Ext w w2 := Xw1.trans Lw2
   have b20 : w2.cell? ⟨w1.heap.size, 0, none⟩ = some (.slice p0 cells.length c0) := xw2.cell qCl
   have b21 : w2.cell? ⟨w1.heap.size, 1, none⟩ = some (.slice p1 es.length c1) := xw2.cell qCl
   have z_b2 : w1.heap.size < w2.heap.size := qB b20
   replace i1 := i1.ext Lw2
   replace i2 := i2.ext Lw2
   have s_w2 : w.heap.size ≤ w2.heap.size := Xw2.size
   clear xw2
   try simp only [World.size_alloc, World.size_drew] at i4
   obtain ⟨afv3, cfv3, rfl⟩ := i4.form
   go_wp2_with fail
   refine (specKidsOf_c cells es (.slice p0 cells.length c0) (.slice p1 es.length c1) (-1) _ _ _ (i1.ext qXt) (i2.ext qXt)).mono ?_
   rintro e w3 ⟨fv5, rfl, i6, -, xw3⟩
   have Lw3 : Ext w2 w3 := Ext.trans qXt xw3
   have Xw3 : Ext w w3 := Xw2.trans Lw3
   replace b20 := Lw3.cell b20
   replace b21 := Lw3.cell b21
   have z_b2 : w1.heap.size < w3.heap.size := qB b20
   replace i1 := i1.ext Lw3
   replace i2 := i2.ext Lw3
   replace i4 := i4.ext Lw3
   have s_w3 : w.heap.size ≤ w3.heap.size := Xw3.size
   clear xw3
   obtain ⟨afv5, cfv5, rfl⟩ := i6.form
   go_wp2_with fail
   refine (leqInts_c (kidsA cells es (-1)) (.slice afv3 ((kidsA cells es (-1)).length) cfv3) (.slice afv5 ((kidsA cells es (-1)).length) cfv5) _ _ _ (i4.ext qXt) (i6.ext qXt)).mono ?_
   rintro e w4 ⟨rfl, xw4⟩
   have Lw4 : Ext w3 w4 := Ext.trans qXt xw4
   have Xw4 : Ext w w4 := Xw3.trans Lw4
   replace b20 := Lw4.cell b20
   replace b21 := Lw4.cell b21
   have z_b2 : w1.heap.size < w4.heap.size := qB b20
   replace i1 := i1.ext Lw4
   replace i2 := i2.ext Lw4
   replace i4 := i4.ext Lw4
   replace i6 := i6.ext Lw4
   have s_w4 : w.heap.size ≤ w4.heap.size := Xw4.size
   clear xw4
   go_wp2_with fail
   refine (implValidBuffer_c cells es (.slice p0 cells.length c0) (.slice p1 es.length c1) _ _ _ (i1.ext qXt) (i2.ext qXt)).mono ?_
   rintro e w5 ⟨rfl, xw5⟩
   have Lw5 : Ext w4 w5 := Ext.trans qXt xw5
   have Xw5 : Ext w w5 := Xw4.trans Lw5
   replace b20 := Lw5.cell b20
   replace b21 := Lw5.cell b21
   have z_b2 : w1.heap.size < w5.heap.size := qB b20
   replace i1 := i1.ext Lw5
   replace i2 := i2.ext Lw5
   replace i4 := i4.ext Lw5
   replace i6 := i6.ext Lw5
   have s_w5 : w.heap.size ≤ w5.heap.size := Xw5.size
   clear xw5
   cases hB7 : bufB cells es
   ·
    replace hB7 := Lib.hid hB7
    go_wp2_with fail
    refine (specKidsOf_c cells es (.slice p0 cells.length c0) (.slice p1 es.length c1) (-1) _ _ _ (i1.ext qXt) (i2.ext qXt)).mono ?_
    rintro e w6 ⟨fv8, rfl, i9, -, xw6⟩
    have Lw6 : Ext w5 w6 := Ext.trans qXt xw6
    have Xw6 : Ext w w6 := Xw5.trans Lw6
    replace b20 := Lw6.cell b20
    replace b21 := Lw6.cell b21
    have z_b2 : w1.heap.size < w6.heap.size := qB b20
    replace i1 := i1.ext Lw6
    replace i2 := i2.ext Lw6
    replace i4 := i4.ext Lw6
    replace i6 := i6.ext Lw6
    have s_w6 : w.heap.size ≤ w6.heap.size := Xw6.size
    clear xw6
    obtain ⟨afv8, cfv8, rfl⟩ := i9.form
    go_wp2_with fail
    refine (leqInts_c (kidsA cells es (-1)) (.slice afv3 ((kidsA cells es (-1)).length) cfv3) (.slice afv8 ((kidsA cells es (-1)).length) cfv8) _ _ _ (i4.ext qXt) (i9.ext qXt)).mono ?_
    rintro e w7 ⟨rfl, xw7⟩
    have Lw7 : Ext w6 w7 := Ext.trans qXt xw7
    have Xw7 : Ext w w7 := Xw6.trans Lw7
    replace b20 := Lw7.cell b20
    replace b21 := Lw7.cell b21
    have z_b2 : w1.heap.size < w7.heap.size := qB b20
    replace i1 := i1.ext Lw7
    replace i2 := i2.ext Lw7
    replace i4 := i4.ext Lw7
    replace i6 := i6.ext Lw7
    replace i9 := i9.ext Lw7
    have s_w7 : w.heap.size ≤ w7.heap.size := Xw7.size
    clear xw7
    go_wp2_with fail
    go_ret
    exact ⟨rfl, (Xw7.trans qXt)⟩
   ·
    replace hB7 := Lib.hid hB7
    have hkam1 : Hid (kidsA cells es (-1) = selL (kidP (-1)) es es.length) := Lib.hid (kidsA_of hB7.out ⟨by omega, by omega⟩)
    have hktot : Hid (((kidSum es es.length es.length : Nat) : Int) = ((selL opP es es.length).length : Int)) := Lib.hid (by rw [kids_total hB7.out])
    have hopA : Hid (openA cells es = selL opP es es.length) := Lib.hid (openA_of hB7.out)
    have hq10 : ¬ ((es.length : Int) ≤ (-1 : Int)) := (by omega)
    go_wp2_with fail
    refine (pi_eq hkam1.out (implKidsOf_c cells es (.slice p0 cells.length c0) (.slice p1 es.length c1) (-1) _ _ _ (i1.ext qXt) (i2.ext qXt))).mono ?_
    rintro e w6 ⟨fv11, rfl, i12, -, xw6⟩
    have Lw6 : Ext w5 w6 := Ext.trans qXt xw6
    have Xw6 : Ext w w6 := Xw5.trans Lw6
    replace b20 := Lw6.cell b20
    replace b21 := Lw6.cell b21
    have z_b2 : w1.heap.size < w6.heap.size := qB b20
    replace i1 := i1.ext Lw6
    replace i2 := i2.ext Lw6
    replace i4 := i4.ext Lw6
    replace i6 := i6.ext Lw6
    have s_w6 : w.heap.size ≤ w6.heap.size := Xw6.size
    clear xw6
    obtain ⟨afv11, cfv11, rfl⟩ := i12.form
    go_wp2_with fail
    go_loopw [6, 7] (fun n v wr => ∃ (i : Nat), i ≤ es.length ∧ v = .int .i64 i ∧ n = .int .i64 (kidSum es es.length i : Int) ∧ Ext w6 wr) (fun _ v _ => es.length - (intOf v).toNat)
    case atStart => exact ⟨0, Nat.zero_le _, rfl, rfl, qXt⟩
    case round =>
     obtain ⟨i, hi, rfl, rfl, Lwr⟩ := hrel
     have Xwr : Ext w wr := Xw6.trans Lwr
     have s_wr : w.heap.size ≤ wr.heap.size := Xwr.size
     have t_wr : w6.heap.size ≤ wr.heap.size := Lwr.size
     replace b20 := Lwr.cell b20
     replace b21 := Lwr.cell b21
     have z_b2 : w1.heap.size < wr.heap.size := qB b20
     replace i1 := i1.ext Lwr
     replace i2 := i2.ext Lwr
     replace i4 := i4.ext Lwr
     replace i6 := i6.ext Lwr
     replace i12 := i12.ext Lwr
     have Bwr : Ext w6 wr := Lwr
     by_cases hil : i < es.length
     ·
      have hiI : (i : Int) < (es.length : Int) := by omega
      have hks : kidSum es es.length (i + 1) = kidSum es es.length i + (selL (kidP (i : Int)) es es.length).length := rfl
      have hkl := kidSum_le es es.length i
      have hkl2 := selL_len (kidP (i : Int)) es es.length
      have hkl3 : (i + 1) * es.length ≤ 100 := by (have : (i + 1) * es.length ≤ 10 * 9 := Nat.mul_le_mul (by omega) (by omega)); omega
      have hkai : Hid (kidsA cells es (i : Int) = selL (kidP (i : Int)) es es.length) := Lib.hid (kidsA_of hB7.out ⟨by omega, by omega⟩)
      go_wp2_with fail
      refine (pi_eq hkai.out (implKidsOf_c cells es (.slice p0 cells.length c0) (.slice p1 es.length c1) (i : Int) _ _ _ (i1.ext qXt) (i2.ext qXt))).mono ?_
      rintro e w7 ⟨fv13, rfl, i14, -, xw7⟩
      have Lw7 : Ext wr w7 := Ext.trans qXt xw7
      have Xw7 : Ext w w7 := Xwr.trans Lw7
      replace b20 := Lw7.cell b20
      replace b21 := Lw7.cell b21
      have z_b2 : w1.heap.size < w7.heap.size := qB b20
      replace i1 := i1.ext Lw7
      replace i2 := i2.ext Lw7
      replace i4 := i4.ext Lw7
      replace i6 := i6.ext Lw7
      replace i12 := i12.ext Lw7
      have s_w7 : w.heap.size ≤ w7.heap.size := Xw7.size
      have Bwr_w7 : Ext w6 w7 := Bwr.trans Lw7
      clear xw7
      obtain ⟨afv13, cfv13, rfl⟩ := i14.form
      go_wp2_with fail
      go_roundw
      case rel => exact ⟨i + 1, by omega, by go_num, by go_num, (Bwr_w7.trans qXt)⟩
      case measure => simp [intOf]; omega
     ·
      obtain rfl : i = es.length := by omega
      have hiI : ¬ (es.length : Int) < (es.length : Int) := by omega
      go_wp2_with fail
      refine (ascends_c (kidsA cells es (-1)) (.slice afv3 ((kidsA cells es (-1)).length) cfv3) _ _ (i4.ext qXt) (kidsA_asc _ _ _)).mono ?_
      rintro e w7 ⟨rfl, xw7⟩
      have Lw7 : Ext wr w7 := Ext.trans qXt xw7
      have Xw7 : Ext w w7 := Xwr.trans Lw7
      replace b20 := Lw7.cell b20
      replace b21 := Lw7.cell b21
      have z_b2 : w1.heap.size < w7.heap.size := qB b20
      replace i1 := i1.ext Lw7
      replace i2 := i2.ext Lw7
      replace i4 := i4.ext Lw7
      replace i6 := i6.ext Lw7
      replace i12 := i12.ext Lw7
      have s_w7 : w.heap.size ≤ w7.heap.size := Xw7.size
      have Bwr_w7 : Ext w6 w7 := Bwr.trans Lw7
      clear xw7
      go_wp2_with fail
      refine (pi_eq hopA.out (implOpenOf_c cells es (.slice p0 cells.length c0) (.slice p1 es.length c1) _ _ _ (i1.ext qXt) (i2.ext qXt))).mono ?_
      rintro e w8 ⟨fv15, rfl, i16, -, xw8⟩
      have Lw8 : Ext w7 w8 := Ext.trans qXt xw8
      have Xw8 : Ext w w8 := Xw7.trans Lw8
      replace b20 := Lw8.cell b20
      replace b21 := Lw8.cell b21
      have z_b2 : w1.heap.size < w8.heap.size := qB b20
      replace i1 := i1.ext Lw8
      replace i2 := i2.ext Lw8
      replace i4 := i4.ext Lw8
      replace i6 := i6.ext Lw8
      replace i12 := i12.ext Lw8
      have s_w8 : w.heap.size ≤ w8.heap.size := Xw8.size
      have Bwr_w8 : Ext w6 w8 := Bwr_w7.trans Lw8
      clear xw8
      obtain ⟨afv15, cfv15, rfl⟩ := i16.form
      go_wp2_with fail
      refine (within_c (kidsA cells es (-1)) (selL opP es es.length) (.slice afv3 ((kidsA cells es (-1)).length) cfv3) (.slice afv15 ((selL opP es es.length).length) cfv15) _ _ _ (i4.ext qXt) (i16.ext qXt) (Lib.hid (by rw [← hopA.out]; exact kids_within _ _ _))).mono ?_
      rintro e w9 ⟨rfl, xw9⟩
      have Lw9 : Ext w8 w9 := Ext.trans qXt xw9
      have Xw9 : Ext w w9 := Xw8.trans Lw9
      replace b20 := Lw9.cell b20
      replace b21 := Lw9.cell b21
      have z_b2 : w1.heap.size < w9.heap.size := qB b20
      replace i1 := i1.ext Lw9
      replace i2 := i2.ext Lw9
      replace i4 := i4.ext Lw9
      replace i6 := i6.ext Lw9
      replace i12 := i12.ext Lw9
      replace i16 := i16.ext Lw9
      have s_w9 : w.heap.size ≤ w9.heap.size := Xw9.size
      have Bwr_w9 : Ext w6 w9 := Bwr_w8.trans Lw9
      clear xw9
      go_wp2_with fail
      refine (pi_eq hopA.out (implOpenOf_c cells es (.slice p0 cells.length c0) (.slice p1 es.length c1) _ _ _ (i1.ext qXt) (i2.ext qXt))).mono ?_
      rintro e w10 ⟨fv17, rfl, i18, -, xw10⟩
      have Lw10 : Ext w9 w10 := Ext.trans qXt xw10
      have Xw10 : Ext w w10 := Xw9.trans Lw10
      replace b20 := Lw10.cell b20
      replace b21 := Lw10.cell b21
      have z_b2 : w1.heap.size < w10.heap.size := qB b20
      replace i1 := i1.ext Lw10
      replace i2 := i2.ext Lw10
      replace i4 := i4.ext Lw10
      replace i6 := i6.ext Lw10
      replace i12 := i12.ext Lw10
      replace i16 := i16.ext Lw10
      have s_w10 : w.heap.size ≤ w10.heap.size := Xw10.size
      have Bwr_w10 : Ext w6 w10 := Bwr_w9.trans Lw10
      clear xw10
      obtain ⟨afv17, cfv17, rfl⟩ := i18.form
      have hq19e : ((kidSum es es.length es.length : Int) == ((selL opP es es.length).length : Int)) = true := by have h7 : (kidSum es es.length es.length : Int) = ((selL opP es es.length).length : Int) := hktot.out; simpa using h7
      have hq19n : ((kidSum es es.length es.length : Int) != ((selL opP es es.length).length : Int)) = false := by have h7 : (kidSum es es.length es.length : Int) = ((selL opP es es.length).length : Int) := hktot.out; simpa using h7
      go_wp2_with fail
      go_ret
      exact ⟨rfl, (Xw10.trans qXt)⟩
  ·
   obtain ⟨k, rfl⟩ : ∃ k : Nat, x = k := ⟨x.toNat, by omega⟩
   have hlt : k < es.length := by omega
   go_wp2_with fail
   refine (implKidsOf_c cells es (.slice p0 cells.length c0) (.slice p1 es.length c1) (k : Int) _ _ _ (i1.ext qXt) (i2.ext qXt)).mono ?_
   rintro e w2 ⟨fv21, rfl, i22, -, xw2⟩
   have Lw2 : Ext w1 w2 := Ext.trans qXt xw2
   have Xw2 : Ext w w2 := Xw1.trans Lw2
   have b200 : w2.cell? ⟨w1.heap.size, 0, none⟩ = some (.slice p0 cells.length c0) := xw2.cell qCl
   have b201 : w2.cell? ⟨w1.heap.size, 1, none⟩ = some (.slice p1 es.length c1) := xw2.cell qCl
   have z_b20 : w1.heap.size < w2.heap.size := qB b200
   replace i1 := i1.ext Lw2
   replace i2 := i2.ext Lw2
   have s_w2 : w.heap.size ≤ w2.heap.size := Xw2.size
   clear xw2
   try simp only [World.size_alloc, World.size_drew] at i22
   obtain ⟨afv21, cfv21, rfl⟩ := i22.form
   go_wp2_with fail
   refine (specKidsOf_c cells es (.slice p0 cells.length c0) (.slice p1 es.length c1) (k : Int) _ _ _ (i1.ext qXt) (i2.ext qXt)).mono ?_
   rintro e w3 ⟨fv23, rfl, i24, -, xw3⟩
   have Lw3 : Ext w2 w3 := Ext.trans qXt xw3
   have Xw3 : Ext w w3 := Xw2.trans Lw3
   replace b200 := Lw3.cell b200
   replace b201 := Lw3.cell b201
   have z_b20 : w1.heap.size < w3.heap.size := qB b200
   replace i1 := i1.ext Lw3
   replace i2 := i2.ext Lw3
   replace i22 := i22.ext Lw3
   have s_w3 : w.heap.size ≤ w3.heap.size := Xw3.size
   clear xw3
   obtain ⟨afv23, cfv23, rfl⟩ := i24.form
   go_wp2_with fail
   refine (leqInts_c (kidsA cells es (k : Int)) (.slice afv21 ((kidsA cells es (k : Int)).length) cfv21) (.slice afv23 ((kidsA cells es (k : Int)).length) cfv23) _ _ _ (i22.ext qXt) (i24.ext qXt)).mono ?_
   rintro e w4 ⟨rfl, xw4⟩
   have Lw4 : Ext w3 w4 := Ext.trans qXt xw4
   have Xw4 : Ext w w4 := Xw3.trans Lw4
   replace b200 := Lw4.cell b200
   replace b201 := Lw4.cell b201
   have z_b20 : w1.heap.size < w4.heap.size := qB b200
   replace i1 := i1.ext Lw4
   replace i2 := i2.ext Lw4
   replace i22 := i22.ext Lw4
   replace i24 := i24.ext Lw4
   have s_w4 : w.heap.size ≤ w4.heap.size := Xw4.size
   clear xw4
   go_wp2_with fail
   refine (implValidBuffer_c cells es (.slice p0 cells.length c0) (.slice p1 es.length c1) _ _ _ (i1.ext qXt) (i2.ext qXt)).mono ?_
   rintro e w5 ⟨rfl, xw5⟩
   have Lw5 : Ext w4 w5 := Ext.trans qXt xw5
   have Xw5 : Ext w w5 := Xw4.trans Lw5
   replace b200 := Lw5.cell b200
   replace b201 := Lw5.cell b201
   have z_b20 : w1.heap.size < w5.heap.size := qB b200
   replace i1 := i1.ext Lw5
   replace i2 := i2.ext Lw5
   replace i22 := i22.ext Lw5
   replace i24 := i24.ext Lw5
   have s_w5 : w.heap.size ≤ w5.heap.size := Xw5.size
   clear xw5
   cases hB25 : bufB cells es
   ·
    replace hB25 := Lib.hid hB25
    go_wp2_with fail
    refine (specKidsOf_c cells es (.slice p0 cells.length c0) (.slice p1 es.length c1) (k : Int) _ _ _ (i1.ext qXt) (i2.ext qXt)).mono ?_
    rintro e w6 ⟨fv26, rfl, i27, -, xw6⟩
    have Lw6 : Ext w5 w6 := Ext.trans qXt xw6
    have Xw6 : Ext w w6 := Xw5.trans Lw6
    replace b200 := Lw6.cell b200
    replace b201 := Lw6.cell b201
    have z_b20 : w1.heap.size < w6.heap.size := qB b200
    replace i1 := i1.ext Lw6
    replace i2 := i2.ext Lw6
    replace i22 := i22.ext Lw6
    replace i24 := i24.ext Lw6
    have s_w6 : w.heap.size ≤ w6.heap.size := Xw6.size
    clear xw6
    obtain ⟨afv26, cfv26, rfl⟩ := i27.form
    go_wp2_with fail
    refine (leqInts_c (kidsA cells es (k : Int)) (.slice afv21 ((kidsA cells es (k : Int)).length) cfv21) (.slice afv26 ((kidsA cells es (k : Int)).length) cfv26) _ _ _ (i22.ext qXt) (i27.ext qXt)).mono ?_
    rintro e w7 ⟨rfl, xw7⟩
    have Lw7 : Ext w6 w7 := Ext.trans qXt xw7
    have Xw7 : Ext w w7 := Xw6.trans Lw7
    replace b200 := Lw7.cell b200
    replace b201 := Lw7.cell b201
    have z_b20 : w1.heap.size < w7.heap.size := qB b200
    replace i1 := i1.ext Lw7
    replace i2 := i2.ext Lw7
    replace i22 := i22.ext Lw7
    replace i24 := i24.ext Lw7
    replace i27 := i27.ext Lw7
    have s_w7 : w.heap.size ≤ w7.heap.size := Xw7.size
    clear xw7
    go_wp2_with fail
    go_ret
    exact ⟨rfl, (Xw7.trans qXt)⟩
   ·
    replace hB25 := Lib.hid hB25
    have hkam1 : Hid (kidsA cells es (-1) = selL (kidP (-1)) es es.length) := Lib.hid (kidsA_of hB25.out ⟨by omega, by omega⟩)
    have hktot : Hid (((kidSum es es.length es.length : Nat) : Int) = ((selL opP es es.length).length : Int)) := Lib.hid (by rw [kids_total hB25.out])
    have hopA : Hid (openA cells es = selL opP es es.length) := Lib.hid (openA_of hB25.out)
    have hq28 : ¬ ((k : Int) < (-1 : Int)) := (by omega)
    have hq29 : ¬ ((es.length : Int) ≤ (k : Int)) := (by omega)
    go_wp2_with fail
    refine (pi_eq hkam1.out (implKidsOf_c cells es (.slice p0 cells.length c0) (.slice p1 es.length c1) (-1) _ _ _ (i1.ext qXt) (i2.ext qXt))).mono ?_
    rintro e w6 ⟨fv30, rfl, i31, -, xw6⟩
    have Lw6 : Ext w5 w6 := Ext.trans qXt xw6
    have Xw6 : Ext w w6 := Xw5.trans Lw6
    replace b200 := Lw6.cell b200
    replace b201 := Lw6.cell b201
    have z_b20 : w1.heap.size < w6.heap.size := qB b200
    replace i1 := i1.ext Lw6
    replace i2 := i2.ext Lw6
    replace i22 := i22.ext Lw6
    replace i24 := i24.ext Lw6
    have s_w6 : w.heap.size ≤ w6.heap.size := Xw6.size
    clear xw6
    obtain ⟨afv30, cfv30, rfl⟩ := i31.form
    go_wp2_with fail
    go_loopw [6, 7] (fun n v wr => ∃ (i : Nat), i ≤ es.length ∧ v = .int .i64 i ∧ n = .int .i64 (kidSum es es.length i : Int) ∧ Ext w6 wr) (fun _ v _ => es.length - (intOf v).toNat)
    case atStart => exact ⟨0, Nat.zero_le _, rfl, rfl, qXt⟩
    case round =>
     obtain ⟨i, hi, rfl, rfl, Lwr⟩ := hrel
     have Xwr : Ext w wr := Xw6.trans Lwr
     have s_wr : w.heap.size ≤ wr.heap.size := Xwr.size
     have t_wr : w6.heap.size ≤ wr.heap.size := Lwr.size
     replace b200 := Lwr.cell b200
     replace b201 := Lwr.cell b201
     have z_b20 : w1.heap.size < wr.heap.size := qB b200
     replace i1 := i1.ext Lwr
     replace i2 := i2.ext Lwr
     replace i22 := i22.ext Lwr
     replace i24 := i24.ext Lwr
     replace i31 := i31.ext Lwr
     have Bwr : Ext w6 wr := Lwr
     by_cases hil : i < es.length
     ·
      have hiI : (i : Int) < (es.length : Int) := by omega
      have hks : kidSum es es.length (i + 1) = kidSum es es.length i + (selL (kidP (i : Int)) es es.length).length := rfl
      have hkl := kidSum_le es es.length i
      have hkl2 := selL_len (kidP (i : Int)) es es.length
      have hkl3 : (i + 1) * es.length ≤ 100 := by (have : (i + 1) * es.length ≤ 10 * 9 := Nat.mul_le_mul (by omega) (by omega)); omega
      have hkai : Hid (kidsA cells es (i : Int) = selL (kidP (i : Int)) es es.length) := Lib.hid (kidsA_of hB25.out ⟨by omega, by omega⟩)
      go_wp2_with fail
      refine (pi_eq hkai.out (implKidsOf_c cells es (.slice p0 cells.length c0) (.slice p1 es.length c1) (i : Int) _ _ _ (i1.ext qXt) (i2.ext qXt))).mono ?_
      rintro e w7 ⟨fv32, rfl, i33, -, xw7⟩
      have Lw7 : Ext wr w7 := Ext.trans qXt xw7
      have Xw7 : Ext w w7 := Xwr.trans Lw7
      replace b200 := Lw7.cell b200
      replace b201 := Lw7.cell b201
      have z_b20 : w1.heap.size < w7.heap.size := qB b200
      replace i1 := i1.ext Lw7
      replace i2 := i2.ext Lw7
      replace i22 := i22.ext Lw7
      replace i24 := i24.ext Lw7
      replace i31 := i31.ext Lw7
      have s_w7 : w.heap.size ≤ w7.heap.size := Xw7.size
      have Bwr_w7 : Ext w6 w7 := Bwr.trans Lw7
      clear xw7
      obtain ⟨afv32, cfv32, rfl⟩ := i33.form
      go_wp2_with fail
      go_roundw
      case rel => exact ⟨i + 1, by omega, by go_num, by go_num, (Bwr_w7.trans qXt)⟩
      case measure => simp [intOf]; omega
     ·
      obtain rfl : i = es.length := by omega
      have hiI : ¬ (es.length : Int) < (es.length : Int) := by omega
      go_wp2_with fail
      refine (ascends_c (kidsA cells es (k : Int)) (.slice afv21 ((kidsA cells es (k : Int)).length) cfv21) _ _ (i22.ext qXt) (kidsA_asc _ _ _)).mono ?_
      rintro e w7 ⟨rfl, xw7⟩
      have Lw7 : Ext wr w7 := Ext.trans qXt xw7
      have Xw7 : Ext w w7 := Xwr.trans Lw7
      replace b200 := Lw7.cell b200
      replace b201 := Lw7.cell b201
      have z_b20 : w1.heap.size < w7.heap.size := qB b200
      replace i1 := i1.ext Lw7
      replace i2 := i2.ext Lw7
      replace i22 := i22.ext Lw7
      replace i24 := i24.ext Lw7
      replace i31 := i31.ext Lw7
      have s_w7 : w.heap.size ≤ w7.heap.size := Xw7.size
      have Bwr_w7 : Ext w6 w7 := Bwr.trans Lw7
      clear xw7
      go_wp2_with fail
      refine (pi_eq hopA.out (implOpenOf_c cells es (.slice p0 cells.length c0) (.slice p1 es.length c1) _ _ _ (i1.ext qXt) (i2.ext qXt))).mono ?_
      rintro e w8 ⟨fv34, rfl, i35, -, xw8⟩
      have Lw8 : Ext w7 w8 := Ext.trans qXt xw8
      have Xw8 : Ext w w8 := Xw7.trans Lw8
      replace b200 := Lw8.cell b200
      replace b201 := Lw8.cell b201
      have z_b20 : w1.heap.size < w8.heap.size := qB b200
      replace i1 := i1.ext Lw8
      replace i2 := i2.ext Lw8
      replace i22 := i22.ext Lw8
      replace i24 := i24.ext Lw8
      replace i31 := i31.ext Lw8
      have s_w8 : w.heap.size ≤ w8.heap.size := Xw8.size
      have Bwr_w8 : Ext w6 w8 := Bwr_w7.trans Lw8
      clear xw8
      obtain ⟨afv34, cfv34, rfl⟩ := i35.form
      go_wp2_with fail
      refine (within_c (kidsA cells es (k : Int)) (selL opP es es.length) (.slice afv21 ((kidsA cells es (k : Int)).length) cfv21) (.slice afv34 ((selL opP es es.length).length) cfv34) _ _ _ (i22.ext qXt) (i35.ext qXt) (Lib.hid (by rw [← hopA.out]; exact kids_within _ _ _))).mono ?_
      rintro e w9 ⟨rfl, xw9⟩
      have Lw9 : Ext w8 w9 := Ext.trans qXt xw9
      have Xw9 : Ext w w9 := Xw8.trans Lw9
      replace b200 := Lw9.cell b200
      replace b201 := Lw9.cell b201
      have z_b20 : w1.heap.size < w9.heap.size := qB b200
      replace i1 := i1.ext Lw9
      replace i2 := i2.ext Lw9
      replace i22 := i22.ext Lw9
      replace i24 := i24.ext Lw9
      replace i31 := i31.ext Lw9
      replace i35 := i35.ext Lw9
      have s_w9 : w.heap.size ≤ w9.heap.size := Xw9.size
      have Bwr_w9 : Ext w6 w9 := Bwr_w8.trans Lw9
      clear xw9
      go_wp2_with fail
      refine (pi_eq hopA.out (implOpenOf_c cells es (.slice p0 cells.length c0) (.slice p1 es.length c1) _ _ _ (i1.ext qXt) (i2.ext qXt))).mono ?_
      rintro e w10 ⟨fv36, rfl, i37, -, xw10⟩
      have Lw10 : Ext w9 w10 := Ext.trans qXt xw10
      have Xw10 : Ext w w10 := Xw9.trans Lw10
      replace b200 := Lw10.cell b200
      replace b201 := Lw10.cell b201
      have z_b20 : w1.heap.size < w10.heap.size := qB b200
      replace i1 := i1.ext Lw10
      replace i2 := i2.ext Lw10
      replace i22 := i22.ext Lw10
      replace i24 := i24.ext Lw10
      replace i31 := i31.ext Lw10
      replace i35 := i35.ext Lw10
      have s_w10 : w.heap.size ≤ w10.heap.size := Xw10.size
      have Bwr_w10 : Ext w6 w10 := Bwr_w9.trans Lw10
      clear xw10
      obtain ⟨afv36, cfv36, rfl⟩ := i37.form
      have hq38e : ((kidSum es es.length es.length : Int) == ((selL opP es es.length).length : Int)) = true := by have h7 : (kidSum es es.length es.length : Int) = ((selL opP es es.length).length : Int) := hktot.out; simpa using h7
      have hq38n : ((kidSum es es.length es.length : Int) != ((selL opP es es.length).length : Int)) = false := by have h7 : (kidSum es es.length es.length : Int) = ((selL opP es es.length).length : Int) := hktot.out; simpa using h7
      have hq39 : ¬ ((k : Int) < (0 : Int)) := (by omega)
      have hN_x40 : k < es.length := hlt
      have hI_x40 : (k : Int) < (es.length : Int) := by omega
      obtain ⟨bl53, ol54, u47, c48, u49, c50, rfl, x400, x401, x402, x403, x404, i51, i52⟩ := i2.at k hN_x40
      obtain ⟨X46, hX46⟩ : ∃ x, expAt es k = x := ⟨_, rfl⟩
      rw [hX46] at x400 x401 x402 x403 x404 i51 i52
      obtain ⟨P41, B42, S43, T44, O45⟩ := X46
      dsimp only at x400 x401 x402 x403 x404 i51 i52
      replace hX46 := Lib.hid hX46
      have hLS43 := i51.len
      have hLT44 := i52.len
      have z_x40 : bl53 < w10.heap.size := qB x400
      cases O45
      ·
       have hq55e : (((kidsA cells es (k : Int)).length : Int) == (0 : Int)) = true := by have h7 : ((kidsA cells es (k : Int)).length : Int) = (0 : Int) := (by have h7 := kids_closed (cells := cells) hlt hB25.out (by rw [hX46.out]); rw [h7]; rfl); simpa using h7
       have hq55n : (((kidsA cells es (k : Int)).length : Int) != (0 : Int)) = false := by have h7 : ((kidsA cells es (k : Int)).length : Int) = (0 : Int) := (by have h7 := kids_closed (cells := cells) hlt hB25.out (by rw [hX46.out]); rw [h7]; rfl); simpa using h7
       go_wp2_with fail
       go_ret
       exact ⟨rfl, (Xw10.trans qXt)⟩
      ·
       go_wp2_with fail
       go_ret
       exact ⟨rfl, (Xw10.trans qXt)⟩
  ·
   go_wp2_with fail
   refine (implKidsOf_c cells es (.slice p0 cells.length c0) (.slice p1 es.length c1) x _ _ _ (i1.ext qXt) (i2.ext qXt)).mono ?_
   rintro e w2 ⟨fv57, rfl, i58, -, xw2⟩
   have Lw2 : Ext w1 w2 := Ext.trans qXt xw2
   have Xw2 : Ext w w2 := Xw1.trans Lw2
   have b560 : w2.cell? ⟨w1.heap.size, 0, none⟩ = some (.slice p0 cells.length c0) := xw2.cell qCl
   have b561 : w2.cell? ⟨w1.heap.size, 1, none⟩ = some (.slice p1 es.length c1) := xw2.cell qCl
   have z_b56 : w1.heap.size < w2.heap.size := qB b560
   replace i1 := i1.ext Lw2
   replace i2 := i2.ext Lw2
   have s_w2 : w.heap.size ≤ w2.heap.size := Xw2.size
   clear xw2
   try simp only [World.size_alloc, World.size_drew] at i58
   obtain ⟨afv57, cfv57, rfl⟩ := i58.form
   go_wp2_with fail
   refine (specKidsOf_c cells es (.slice p0 cells.length c0) (.slice p1 es.length c1) x _ _ _ (i1.ext qXt) (i2.ext qXt)).mono ?_
   rintro e w3 ⟨fv59, rfl, i60, -, xw3⟩
   have Lw3 : Ext w2 w3 := Ext.trans qXt xw3
   have Xw3 : Ext w w3 := Xw2.trans Lw3
   replace b560 := Lw3.cell b560
   replace b561 := Lw3.cell b561
   have z_b56 : w1.heap.size < w3.heap.size := qB b560
   replace i1 := i1.ext Lw3
   replace i2 := i2.ext Lw3
   replace i58 := i58.ext Lw3
   have s_w3 : w.heap.size ≤ w3.heap.size := Xw3.size
   clear xw3
   obtain ⟨afv59, cfv59, rfl⟩ := i60.form
   go_wp2_with fail
   refine (leqInts_c (kidsA cells es x) (.slice afv57 ((kidsA cells es x).length) cfv57) (.slice afv59 ((kidsA cells es x).length) cfv59) _ _ _ (i58.ext qXt) (i60.ext qXt)).mono ?_
   rintro e w4 ⟨rfl, xw4⟩
   have Lw4 : Ext w3 w4 := Ext.trans qXt xw4
   have Xw4 : Ext w w4 := Xw3.trans Lw4
   replace b560 := Lw4.cell b560
   replace b561 := Lw4.cell b561
   have z_b56 : w1.heap.size < w4.heap.size := qB b560
   replace i1 := i1.ext Lw4
   replace i2 := i2.ext Lw4
   replace i58 := i58.ext Lw4
   replace i60 := i60.ext Lw4
   have s_w4 : w.heap.size ≤ w4.heap.size := Xw4.size
   clear xw4
   go_wp2_with fail
   refine (implValidBuffer_c cells es (.slice p0 cells.length c0) (.slice p1 es.length c1) _ _ _ (i1.ext qXt) (i2.ext qXt)).mono ?_
   rintro e w5 ⟨rfl, xw5⟩
   have Lw5 : Ext w4 w5 := Ext.trans qXt xw5
   have Xw5 : Ext w w5 := Xw4.trans Lw5
   replace b560 := Lw5.cell b560
   replace b561 := Lw5.cell b561
   have z_b56 : w1.heap.size < w5.heap.size := qB b560
   replace i1 := i1.ext Lw5
   replace i2 := i2.ext Lw5
   replace i58 := i58.ext Lw5
   replace i60 := i60.ext Lw5
   have s_w5 : w.heap.size ≤ w5.heap.size := Xw5.size
   clear xw5
   cases hB61 : bufB cells es
   ·
    replace hB61 := Lib.hid hB61
    go_wp2_with fail
    refine (specKidsOf_c cells es (.slice p0 cells.length c0) (.slice p1 es.length c1) x _ _ _ (i1.ext qXt) (i2.ext qXt)).mono ?_
    rintro e w6 ⟨fv62, rfl, i63, -, xw6⟩
    have Lw6 : Ext w5 w6 := Ext.trans qXt xw6
    have Xw6 : Ext w w6 := Xw5.trans Lw6
    replace b560 := Lw6.cell b560
    replace b561 := Lw6.cell b561
    have z_b56 : w1.heap.size < w6.heap.size := qB b560
    replace i1 := i1.ext Lw6
    replace i2 := i2.ext Lw6
    replace i58 := i58.ext Lw6
    replace i60 := i60.ext Lw6
    have s_w6 : w.heap.size ≤ w6.heap.size := Xw6.size
    clear xw6
    obtain ⟨afv62, cfv62, rfl⟩ := i63.form
    go_wp2_with fail
    refine (leqInts_c (kidsA cells es x) (.slice afv57 ((kidsA cells es x).length) cfv57) (.slice afv62 ((kidsA cells es x).length) cfv62) _ _ _ (i58.ext qXt) (i63.ext qXt)).mono ?_
    rintro e w7 ⟨rfl, xw7⟩
    have Lw7 : Ext w6 w7 := Ext.trans qXt xw7
    have Xw7 : Ext w w7 := Xw6.trans Lw7
    replace b560 := Lw7.cell b560
    replace b561 := Lw7.cell b561
    have z_b56 : w1.heap.size < w7.heap.size := qB b560
    replace i1 := i1.ext Lw7
    replace i2 := i2.ext Lw7
    replace i58 := i58.ext Lw7
    replace i60 := i60.ext Lw7
    replace i63 := i63.ext Lw7
    have s_w7 : w.heap.size ≤ w7.heap.size := Xw7.size
    clear xw7
    go_wp2_with fail
    go_ret
    exact ⟨rfl, (Xw7.trans qXt)⟩
   ·
    replace hB61 := Lib.hid hB61
    have hq64 : ¬ ((x : Int) < (-1 : Int)) := (by omega)
    have hq65 : (es.length : Int) ≤ (x : Int) := (by omega)
    go_wp2_with fail
    refine (specKidsOf_c cells es (.slice p0 cells.length c0) (.slice p1 es.length c1) x _ _ _ (i1.ext qXt) (i2.ext qXt)).mono ?_
    rintro e w6 ⟨fv66, rfl, i67, -, xw6⟩
    have Lw6 : Ext w5 w6 := Ext.trans qXt xw6
    have Xw6 : Ext w w6 := Xw5.trans Lw6
    replace b560 := Lw6.cell b560
    replace b561 := Lw6.cell b561
    have z_b56 : w1.heap.size < w6.heap.size := qB b560
    replace i1 := i1.ext Lw6
    replace i2 := i2.ext Lw6
    replace i58 := i58.ext Lw6
    replace i60 := i60.ext Lw6
    have s_w6 : w.heap.size ≤ w6.heap.size := Xw6.size
    clear xw6
    obtain ⟨afv66, cfv66, rfl⟩ := i67.form
    go_wp2_with fail
    refine (leqInts_c (kidsA cells es x) (.slice afv57 ((kidsA cells es x).length) cfv57) (.slice afv66 ((kidsA cells es x).length) cfv66) _ _ _ (i58.ext qXt) (i67.ext qXt)).mono ?_
    rintro e w7 ⟨rfl, xw7⟩
    have Lw7 : Ext w6 w7 := Ext.trans qXt xw7
    have Xw7 : Ext w w7 := Xw6.trans Lw7
    replace b560 := Lw7.cell b560
    replace b561 := Lw7.cell b561
    have z_b56 : w1.heap.size < w7.heap.size := qB b560
    replace i1 := i1.ext Lw7
    replace i2 := i2.ext Lw7
    replace i58 := i58.ext Lw7
    replace i60 := i60.ext Lw7
    replace i67 := i67.ext Lw7
    have s_w7 : w.heap.size ≤ w7.heap.size := Xw7.size
    clear xw7
    go_wp2_with fail
    go_ret
    exact ⟨rfl, (Xw7.trans qXt)⟩


end Go.Proofs.Ytgklaobfikbiiaa

/- The law FnKidsOf holds for all bytes: the call returns true, and its argument reads as it did. No condition. -/
namespace Go.Proofs.Ytgklaobfikbiiaa.rowFnKidsOf
open Go.ChangeShapes Go.WideShapes Go.ChangeAt Go.RowKit
set_option linter.unusedVariables false

set_option maxHeartbeats 1000000 in
set_option maxRecDepth 100000 in
theorem lifted (os : Os) (started : os.Started) (H : Type) (enc : TypeId × Value → H) :
    ReturnsInHanded {} Try.checked os 7 .any (Rows.fnKidsOfSpec.pre6 enc Try.prog Try.f7 Rows.fnKidsOfRow.domain false) (Rows.fnKidsOfSpec.post enc Try.prog Try.f7 false true false false) := by
  refine returnsInHanded_of_change (C := Try.checked) own started qKr Try.func7
    (ChangeSpec.witness6 (enc := enc) (C := Try.checked) false ⟨#[], #[.slice none 0 0], []⟩ 8 qKr qKr qKr qKr) ?_
  intro W base args ds gs before hval0 hW hcnd _
  have hval : ∀ (j : Nat) t v, Try.f7.params[j]? = some t → args[j]? = some v → Value.okWide Try.prog W .any base t v := hval0
  have hW' := hW
  obtain ⟨p, q, hA0, hV, rfl, hfz, hnd⟩ := hW
  have hA : DataW.TrodAll enc Try.prog W 0 (fun _ => true) true Try.f7.params.toList args.toList ds p := hA0
  rw [Try.params7] at hA hval
  obtain ⟨v0, vs0, d0, ds0, p0, q0, hargs0, rfl, rfl, h0, r0⟩ := trodAll_cons hA
  obtain ⟨rfl, rfl, rfl⟩ := trodAll_nil r0
  obtain rfl : args = #[v0] := by cases args; simp_all
  obtain ⟨rfl, rfl⟩ := trodVars_none hV
  obtain ⟨a0, len0, cap0, rfl⟩ := okWide_slice Try.underlying22 (hval 0 22 v0 rfl rfl)
  have k0 := h0
  have lt0 : ∀ x ∈ p0, x.block < W.heap.size := by obtain ⟨m, hm⟩ := k0; exact DataW.trod_lt m _ _ _ hm
  have w0 : BysIn W a0 len0 cap0 := by
    obtain ⟨fuel, hf⟩ := h0
    rcases open_ints Try.underlying22 Try.underlying5 qKr hf with ⟨hcs, _⟩ | ⟨x, l, c, zs, hcs, _, hl, hm, hz, _, hcell, hwz⟩
    · simp [Value.cells] at hcs
      obtain ⟨rfl, rfl, rfl⟩ := hcs
      exact ⟨Nat.le_refl _, by simp, fun i hi => absurd hi (by simp)⟩
    · simp [Value.cells] at hcs
      obtain ⟨rfl, rfl, rfl⟩ := hcs
      have hzl : zs.length = cap0 := by simpa using hz
      exact bys_of_cells hl hm hzl hcell hwz
  clear hA0 hval0
  refine (lawFnKidsOf_c a0 len0 cap0 W w0).mono fun e W' ⟨he, bel⟩ => ?_
  subst he
  exact ⟨_, rfl, _, _, _, [], _, [], hW', trodAll_mk1 (shut_bool Try.underlying4 _), (trodAll_cons_mk (Below.trod laidOut qKr (of_decide_eq_true qKr) k0 bel lt0) trodAll_mk0), rfl, Below.frame bel _, fun h => by cases h⟩

set_option maxHeartbeats 2000000 in
theorem closed : joinedFacts Try.checked.prog 7 Try.f7 Rows.fnKidsOfSpec Rows.fnKidsOfRow = true :=
  facts.all qKr qKr qKr qKr qKr (by as_aux_lemma => kernel_rfl) (by as_aux_lemma => kernel_rfl) (by as_aux_lemma => kernel_rfl) (by as_aux_lemma => kernel_rfl)
    (by as_aux_lemma => kernel_rfl) (by as_aux_lemma => kernel_rfl) rfl rfl rfl rfl qKr qKr (by as_aux_lemma => kernel_rfl) (by as_aux_lemma => kernel_rfl)

theorem named : Try.pinned.checked.prog.funcNamed Rows.fnKidsOfRow.func = some 7 := by kernel_rfl

theorem over : Rows.fnKidsOfRow.holds Try.pinned (OpenSpec.ofChange Rows.fnKidsOfSpec) :=
  OpenClaim.holds_of_wide 7 Try.f7 rfl rfl rfl rfl rfl rfl rfl ⟨rfl, rfl, rfl, rfl, rfl⟩ rfl rfl rfl rfl rfl named Try.func7 closed
    (of_decide_eq_true qKr) (by unfold Func.isWrapper; exact ⟨rfl, rfl⟩)
    (fun os started H enc _ => lifted os started H enc)

theorem proved : Rows.FnKidsOfSaid := over

end Go.Proofs.Ytgklaobfikbiiaa.rowFnKidsOf
