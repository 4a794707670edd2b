/- Texts of these proofs put together: LvV, PvA, LawFnOpenOf, RowFnOpenOf. No condition. -/
import Derived.Test.YtgklaobfikbiiaaM3
import Derived.Test.YtgklaobfikbiiaaM5
import Derived.Test.YtgklaobfikbiiaaM7
import Derived.Test.YtgklaobfikbiiaaM4
import Derived.Test.YtgklaobfikbiiaaM6
set_option linter.unusedVariables false
set_option linter.unusedSimpArgs false
/- Helpers of the laws: equal buffers. -/
namespace Go.Proofs.Ytgklaobfikbiiaa
open Go.RowKit
set_option linter.unusedVariables false
set_option maxRecDepth 100000


end Go.Proofs.Ytgklaobfikbiiaa

/- Plain laws on buffers: open exports, kids, closed exports. No condition. -/
namespace Go.Proofs.Ytgklaobfikbiiaa
open Go.RowKit
set_option linter.unusedVariables false
set_option maxRecDepth 100000

theorem mem_selL {p : Exp → Bool} {es : List Exp} {n : Nat} {x : Int} : x ∈ selL p es n ↔ ∃ k : Nat, k < n ∧ p (expAt es k) = true ∧ x = k := by
  unfold selL
  simp only [List.mem_map, List.mem_filter, List.mem_range]
  constructor
  · rintro ⟨k, ⟨h1, h2⟩, rfl⟩; exact ⟨k, h1, h2, rfl⟩
  · rintro ⟨k, h1, h2, rfl⟩; exact ⟨k, ⟨h1, h2⟩, rfl⟩
theorem selL_asc (p : Exp → Bool) (es : List Exp) (n : Nat) : (selL p es n).Pairwise (· < ·) := by
  induction n with
  | zero => exact List.Pairwise.nil
  | succ n ih =>
    cases h : p (expAt es n)
    · rw [selL_no h]; exact ih
    · rw [selL_yes h, List.pairwise_append]
      refine ⟨ih, List.pairwise_singleton _ _, fun a ha b hb => ?_⟩
      obtain ⟨k, hk, -, rfl⟩ := mem_selL.1 ha
      rw [List.mem_singleton] at hb
      subst hb; omega
theorem selL_nil {p : Exp → Bool} {es : List Exp} {n : Nat} (h : ∀ k, k < n → p (expAt es k) = false) : selL p es n = [] := by
  rw [List.eq_nil_iff_forall_not_mem]
  intro x hx
  obtain ⟨k, hk, hp, -⟩ := mem_selL.1 hx
  rw [h k hk] at hp; cases hp
theorem openA_of {cells : List Int} {es : List Exp} (h : bufB cells es = true) : openA cells es = selL opP es es.length := by unfold openA; rw [h]; rfl
theorem bufB_par {cells : List Int} {es : List Exp} (h : bufB cells es = true) (i : Nat) (hi : i < es.length) : -1 ≤ (expAt es i).par ∧ (expAt es i).par < i := by
  obtain ⟨h1, h2, -⟩ := expB_iff.1 ((bufB_iff.1 h).2.2 i hi)
  exact ⟨h1, h2⟩
/-- the export, closed -/
def offE (e : Exp) : Exp := ⟨e.par, e.b, e.s, e.t, false⟩
/-- the exports, closed from the number m on -/
def shutE (es : List Exp) (m : Nat) : List Exp := (List.range es.length).map fun i => if m ≤ i then offE (expAt es i) else expAt es i
theorem shutE_len (es : List Exp) (m : Nat) : (shutE es m).length = es.length := by unfold shutE; simp
theorem shutE_at (es : List Exp) (m i : Nat) (hi : i < es.length) : expAt (shutE es m) i = if m ≤ i then offE (expAt es i) else expAt es i := by
  have h : i < (shutE es m).length := by rw [shutE_len]; exact hi
  rw [expAt_get h]
  simp [shutE]
theorem expAt_ext {a b : List Exp} (hl : a.length = b.length) (h : ∀ i, i < a.length → expAt a i = expAt b i) : a = b := by
  refine List.ext_getElem hl fun i h1 h2 => ?_
  rw [← expAt_get h1, ← expAt_get h2]; exact h i h1
theorem shutE_all (es : List Exp) (m : Nat) (h : es.length ≤ m) : shutE es m = es := by
  refine expAt_ext (shutE_len es m) fun i hi => ?_
  rw [shutE_len] at hi
  rw [shutE_at es m i hi, if_neg (by omega)]
theorem shutE_set (es : List Exp) (m : Nat) (hm : m < es.length) : (shutE es (m+1)).set m (offE (expAt (shutE es (m+1)) m)) = shutE es m := by
  refine expAt_ext (by rw [List.length_set, shutE_len, shutE_len]) fun i hi => ?_
  rw [List.length_set, shutE_len] at hi
  rw [expAt_set _ _ _ _ (by rw [shutE_len]; exact hm), shutE_at es m i hi, shutE_at es _ m hm, shutE_at es _ i hi, if_neg (show ¬ m + 1 ≤ m by omega)]
  by_cases hq : i = m
  · subst hq; rw [if_pos rfl, if_pos (Nat.le_refl _)]
  · rw [if_neg hq]
    by_cases h2 : m + 1 ≤ i
    · rw [if_pos h2, if_pos (by omega)]
    · rw [if_neg h2, if_neg (by omega)]
theorem shutE_skip (es : List Exp) (a b : Nat) (hab : a ≤ b) (h : ∀ k, a ≤ k → k < b → k < es.length → (expAt es k).op = false) : shutE es a = shutE es b := by
  refine expAt_ext (by rw [shutE_len, shutE_len]) fun i hi => ?_
  rw [shutE_len] at hi
  rw [shutE_at es a i hi, shutE_at es b i hi]
  by_cases h1 : b ≤ i
  · rw [if_pos h1, if_pos (by omega)]
  · rw [if_neg h1]
    by_cases h2 : a ≤ i
    · rw [if_pos h2]
      have := h i h2 (by omega) hi
      cases he : expAt es i with
      | mk p b s t o => rw [he] at this; dsimp only at this; subst this; rfl
    · rw [if_neg h2]
theorem shutE_valid {cells : List Int} {es : List Exp} (h : bufB cells es = true) (m : Nat) : bufB cells (shutE es m) = true := by
  obtain ⟨g1, g2, g3⟩ := bufB_iff.1 h
  refine bufB_iff.2 ⟨g1, by rw [shutE_len]; exact g2, fun i hi => ?_⟩
  rw [shutE_len] at hi
  obtain ⟨e1, e2, e3, e4⟩ := expB_iff.1 (g3 i hi)
  refine expB_iff.2 ?_
  rw [shutE_at es m i hi]
  by_cases hm : m ≤ i
  · rw [if_pos hm]; exact ⟨e1, e2, e3, fun ho => by cases ho⟩
  · rw [if_neg hm]
    refine ⟨e1, e2, e3, fun ho => ⟨(e4 ho).1, ?_⟩⟩
    rcases (e4 ho).2 with hp | hp
    · exact .inl hp
    · rcases Int.lt_or_le (expAt es i).par 0 with h0 | h0
      · exact .inl h0
      · right
        rw [shutE_at es m _ (by omega), if_neg (by omega)]; exact hp
theorem shut_none (es : List Exp) : selL opP (shutE es 0) (shutE es 0).length = [] := by
  refine selL_nil fun k hk => ?_
  rw [shutE_len] at hk
  rw [shutE_at es 0 k hk, if_pos (Nat.zero_le _)]; rfl
theorem shut_open {cells : List Int} {es : List Exp} (h : bufB cells es = true) : openA cells (shutE es 0) = [] := by
  rw [openA_of (shutE_valid h 0), shut_none]
/-- what is closed when j open exports are left -/
def cutOf (os : List Int) (j : Nat) : Nat := if j = 0 then 0 else (os.getD (j-1) 0).toNat + 1
/-- one open export more is released -/
theorem rel_step {cells : List Int} {es : List Exp} (h : bufB cells es = true) (j : Nat) (hj : j < (selL opP es es.length).length) :
    relA cells (shutE es (cutOf (selL opP es es.length) (j+1))) ((selL opP es es.length).getD j 0) = (cells, shutE es (cutOf (selL opP es es.length) j), true) := by
  obtain ⟨os, hos⟩ : ∃ os, selL opP es es.length = os := ⟨_, rfl⟩
  rw [hos] at hj ⊢
  have hmem : os.getD j 0 ∈ selL opP es es.length := by rw [hos]; exact getD_mem hj
  obtain ⟨k, hk, hp, hkk⟩ := mem_selL.1 hmem
  have hasc : os.Pairwise (· < ·) := by rw [← hos]; exact selL_asc _ _ _
  have hc1 : cutOf os (j+1) = k + 1 := by unfold cutOf; rw [if_neg (by omega), Nat.add_sub_cancel, hkk]; omega
  rw [hc1, hkk]
  have hv := shutE_valid h (k+1)
  have hat : expAt (shutE es (k+1)) k = expAt es k := by rw [shutE_at es _ k hk, if_neg (by omega)]
  have hop : opB (shutE es (k+1)) (k : Int) = true := by rw [opB_nat (by rw [shutE_len]; exact hk), hat]; exact hp
  have hkid : selL (kidP (k : Int)) (shutE es (k+1)) (shutE es (k+1)).length = [] := by
    refine selL_nil fun i hi => ?_
    rw [shutE_len] at hi
    rw [shutE_at es _ i hi]
    have := bufB_par h i hi
    unfold kidP
    by_cases h1 : k + 1 ≤ i
    · rw [if_pos h1]; rfl
    · rw [if_neg h1, decide_eq_false (show ¬ (expAt es i).par = (k : Int) by omega), Bool.and_false]
  have hsk : shutE es (cutOf os j) = shutE es k := by
    refine shutE_skip es _ _ ?_ fun q h1 h2 h3 => ?_
    · unfold cutOf
      split
      · omega
      · have h7 : os.getD (j-1) 0 < os.getD j 0 := by
          rw [List.pairwise_iff_getElem] at hasc
          have := hasc (j-1) j (by omega) hj (by omega)
          rw [List.getD_eq_getElem?_getD, List.getD_eq_getElem?_getD, List.getElem?_eq_getElem (by omega), List.getElem?_eq_getElem hj]
          simpa using this
        have h8 : 0 ≤ os.getD (j-1) 0 := by
          have : os.getD (j-1) 0 ∈ selL opP es es.length := by rw [hos]; exact getD_mem (by omega)
          obtain ⟨k', -, -, hk'⟩ := mem_selL.1 this
          omega
        omega
    · cases ho : (expAt es q).op
      · rfl
      · exfalso
        have hq : (q : Int) ∈ os := by rw [← hos]; exact mem_selL.2 ⟨q, h3, ho, rfl⟩
        obtain ⟨i, hi, hiq⟩ := List.mem_iff_getElem.1 hq
        rw [List.pairwise_iff_getElem] at hasc
        have hjk : os[j] = (k : Int) := by rw [← hkk, List.getD_eq_getElem?_getD, List.getElem?_eq_getElem hj]; rfl
        by_cases hij : i < j
        · unfold cutOf at h1
          rw [if_neg (by omega)] at h1
          have h9 : os[i] ≤ os.getD (j-1) 0 := by
            rw [List.getD_eq_getElem?_getD, List.getElem?_eq_getElem (show j - 1 < os.length by omega)]
            rcases Nat.lt_or_ge i (j-1) with h8 | h8
            · exact Int.le_of_lt (hasc i (j-1) hi (by omega) h8)
            · obtain rfl : i = j - 1 := by omega
              exact Int.le_refl _
          omega
        · rcases Nat.lt_or_ge j i with h8 | h8
          · have := hasc j i hj hi h8
            omega
          · obtain rfl : i = j := by omega
            omega
  unfold relA
  rw [hv, hop, hkid]
  simp only [List.length_nil, Bool.true_and, decide_true, if_true]
  rw [Int.toNat_natCast, hsk, ← shutE_set es k hk]
  rfl
theorem rel_start {es : List Exp} : shutE es (cutOf (selL opP es es.length) (selL opP es es.length).length) = es := by
  refine (shutE_skip es _ es.length ?_ fun q h1 h2 h3 => ?_).trans (shutE_all es _ (Nat.le_refl _))
  · unfold cutOf
    split
    · omega
    · rename_i h0
      have : (selL opP es es.length).getD ((selL opP es es.length).length - 1) 0 ∈ selL opP es es.length := getD_mem (by omega)
      obtain ⟨k, hk, -, hkk⟩ := mem_selL.1 this
      omega
  · cases ho : (expAt es q).op
    · rfl
    · exfalso
      have hq : (q : Int) ∈ selL opP es es.length := mem_selL.2 ⟨q, h3, ho, rfl⟩
      have hasc := selL_asc opP es es.length
      generalize selL opP es es.length = os at *
      obtain ⟨i, hi, hiq⟩ := List.mem_iff_getElem.1 hq
      rw [List.pairwise_iff_getElem] at hasc
      unfold cutOf at h1
      rw [if_neg (by omega), List.getD_eq_getElem?_getD, List.getElem?_eq_getElem (show os.length - 1 < os.length by omega)] at h1
      have h9 : os[i] ≤ os[os.length - 1] := by
        rcases Nat.lt_or_ge i (os.length-1) with h8 | h8
        · exact Int.le_of_lt (hasc i (os.length-1) hi (by omega) h8)
        · obtain rfl : i = os.length - 1 := by omega
          exact Int.le_refl _
      simp only [Option.getD_some] at h1
      omega
theorem openA_len (cells : List Int) (es : List Exp) : (openA cells es).length ≤ es.length := by
  unfold openA
  split
  · exact selL_len _ _ _
  · simp
/-- all exports are released -/
theorem open_end {cells : List Int} {es fs : List Exp} (h : bufB cells es = true) (hf : fs = shutE es 0) : openA cells fs = [] ∧ ∃ B E, resA cells fs 5 = (B, E, true) := by
  subst hf
  refine ⟨shut_open h, fitL cells (5 : Int).toNat, shutE es 0, ?_⟩
  unfold resA
  rw [shutE_valid h 0, shut_none]
  rfl
end Go.Proofs.Ytgklaobfikbiiaa

/- FnOpenOf returns true for all bytes: no condition. -/
namespace Go.Proofs.Ytgklaobfikbiiaa
open Go.RowKit
set_option linter.unusedVariables false
set_option maxRecDepth 100000

set_option maxHeartbeats 6400000 in
theorem lawFnOpenOf_c (a : Option Addr) (n cap : Nat) (w : World) (hb : BysIn w a n cap) :
  Calls Try.prog 5 #[.slice a n cap] w fun e w' => e = .returned (.bool true) ∧ Ext w w' := by
 have hcm := hb.1
 have hcm2 := hb.2.1
 unfold maxLen at hcm2
 go_enter Try.func5, Try.ntmps5
 by_cases hc1 : (1048576 : Int) < (n : Int)
 ·
  go_wp2_with fail
  go_ret
  exact ⟨rfl, qXo⟩
 ·
  go_wp2_with fail
  refine (drawOpenOf_c a n cap _ hb).mono ?_
  rintro e w1 ⟨cells, es, p0, p1, c0, c1, rfl, i1, i2, hs, xw1⟩
  have Lw1 : Ext w w1 := Ext.trans qXt xw1
  have Xw1 : Ext w w1 := Lw1
  have s_w1 : w.heap.size ≤ w1.heap.size := Xw1.size
  clear xw1
  clear hb
  have hc61 := hs.out.1
  have he9 := hs.out.2.1
  obtain ⟨os, hos⟩ : ∃ os, openA cells es = os := ⟨_, rfl⟩
  have hol : os.length ≤ 9 := by rw [← hos]; exact Nat.le_trans (openA_len _ _) (by omega)
  replace hos := Lib.hid hos
  go_wp2_with fail
  refine (pi_eq hos.out (implOpenOf_c cells es (.slice p0 cells.length c0) (.slice p1 es.length c1) _ _ _ (i1.ext qXt) (i2.ext qXt))).mono ?_
  rintro e w2 ⟨fv3, rfl, i4, -, xw2⟩
  have Lw2 : Ext w1 w2 := Ext.trans qXt xw2
  have Xw2 : Ext w w2 := Xw1.trans Lw2
  have b20 : w2.cell? ⟨w1.heap.size, 0, none⟩ = some (.slice p0 cells.length c0) := xw2.cell qCl
  have b21 : w2.cell? ⟨w1.heap.size, 1, none⟩ = some (.slice p1 es.length c1) := xw2.cell qCl
  have z_b2 : w1.heap.size < w2.heap.size := qB b20
  replace i1 := i1.ext Lw2
  replace i2 := i2.ext Lw2
  have s_w2 : w.heap.size ≤ w2.heap.size := Xw2.size
  clear xw2
  try simp only [World.size_alloc, World.size_drew] at i4
  obtain ⟨afv3, cfv3, rfl⟩ := i4.form
  go_wp2_with fail
  refine (pi_eq hos.out (specOpenOf_c cells es (.slice p0 cells.length c0) (.slice p1 es.length c1) _ _ _ (i1.ext qXt) (i2.ext qXt))).mono ?_
  rintro e w3 ⟨fv5, rfl, i6, -, xw3⟩
  have Lw3 : Ext w2 w3 := Ext.trans qXt xw3
  have Xw3 : Ext w w3 := Xw2.trans Lw3
  replace b20 := Lw3.cell b20
  replace b21 := Lw3.cell b21
  have z_b2 : w1.heap.size < w3.heap.size := qB b20
  replace i1 := i1.ext Lw3
  replace i2 := i2.ext Lw3
  replace i4 := i4.ext Lw3
  have s_w3 : w.heap.size ≤ w3.heap.size := Xw3.size
  clear xw3
  obtain ⟨afv5, cfv5, rfl⟩ := i6.form
  go_wp2_with fail
  refine (leqInts_c os (.slice afv3 os.length cfv3) (.slice afv5 os.length cfv5) _ _ _ (i4.ext qXt) (i6.ext qXt)).mono ?_
  rintro e w4 ⟨rfl, xw4⟩
  have Lw4 : Ext w3 w4 := Ext.trans qXt xw4
  have Xw4 : Ext w w4 := Xw3.trans Lw4
  replace b20 := Lw4.cell b20
  replace b21 := Lw4.cell b21
  have z_b2 : w1.heap.size < w4.heap.size := qB b20
  replace i1 := i1.ext Lw4
  replace i2 := i2.ext Lw4
  replace i4 := i4.ext Lw4
  replace i6 := i6.ext Lw4
  have s_w4 : w.heap.size ≤ w4.heap.size := Xw4.size
  clear xw4
  go_wp2_with fail
  refine (implValidBuffer_c cells es (.slice p0 cells.length c0) (.slice p1 es.length c1) _ _ _ (i1.ext qXt) (i2.ext qXt)).mono ?_
  rintro e w5 ⟨rfl, xw5⟩
  have Lw5 : Ext w4 w5 := Ext.trans qXt xw5
  have Xw5 : Ext w w5 := Xw4.trans Lw5
  replace b20 := Lw5.cell b20
  replace b21 := Lw5.cell b21
  have z_b2 : w1.heap.size < w5.heap.size := qB b20
  replace i1 := i1.ext Lw5
  replace i2 := i2.ext Lw5
  replace i4 := i4.ext Lw5
  replace i6 := i6.ext Lw5
  have s_w5 : w.heap.size ≤ w5.heap.size := Xw5.size
  clear xw5
  cases hB7 : bufB cells es
  ·
   replace hB7 := Lib.hid hB7
   go_wp2_with fail
   refine (pi_eq hos.out (specOpenOf_c cells es (.slice p0 cells.length c0) (.slice p1 es.length c1) _ _ _ (i1.ext qXt) (i2.ext qXt))).mono ?_
   rintro e w6 ⟨fv8, rfl, i9, -, xw6⟩
   have Lw6 : Ext w5 w6 := Ext.trans qXt xw6
   have Xw6 : Ext w w6 := Xw5.trans Lw6
   replace b20 := Lw6.cell b20
   replace b21 := Lw6.cell b21
   have z_b2 : w1.heap.size < w6.heap.size := qB b20
   replace i1 := i1.ext Lw6
   replace i2 := i2.ext Lw6
   replace i4 := i4.ext Lw6
   replace i6 := i6.ext Lw6
   have s_w6 : w.heap.size ≤ w6.heap.size := Xw6.size
   clear xw6
   obtain ⟨afv8, cfv8, rfl⟩ := i9.form
   go_wp2_with fail
   refine (leqInts_c os (.slice afv3 os.length cfv3) (.slice afv8 os.length cfv8) _ _ _ (i4.ext qXt) (i9.ext qXt)).mono ?_
   rintro e w7 ⟨rfl, xw7⟩
   have Lw7 : Ext w6 w7 := Ext.trans qXt xw7
   have Xw7 : Ext w w7 := Xw6.trans Lw7
   replace b20 := Lw7.cell b20
   replace b21 := Lw7.cell b21
   have z_b2 : w1.heap.size < w7.heap.size := qB b20
   replace i1 := i1.ext Lw7
   replace i2 := i2.ext Lw7
   replace i4 := i4.ext Lw7
   replace i6 := i6.ext Lw7
   replace i9 := i9.ext Lw7
   have s_w7 : w.heap.size ≤ w7.heap.size := Xw7.size
   clear xw7
   go_wp2_with fail
   go_ret
   exact ⟨rfl, (Xw7.trans qXt)⟩
  ·
   replace hB7 := Lib.hid hB7
   have Q10_b20 := Lib.hid b20
   have Q10_b21 := Lib.hid b21
   have Q10_zb2 := z_b2
   have Q10_i1 := Lib.hid i1
   have Q10_i2 := Lib.hid i2
   have Q10_i4 := Lib.hid i4
   have Q10_i6 := Lib.hid i6
   have BL11 : Ext w5 w5 := Ext.refl _
   go_wp2_with fail
   generalize hW1 : w5.alloc (.cells #[.slice p0 cells.length c0, .slice p1 es.length c1] 26) = w6 at *
   have Lw6 : Ext w5 w6 := by subst hW1; exact qXt
   have Xw6 : Ext w w6 := Xw5.trans Lw6
   replace b20 := Lw6.cell b20
   replace b21 := Lw6.cell b21
   have b120 : w6.cell? ⟨w5.heap.size, 0, none⟩ = some (.slice p0 cells.length c0) := by subst hW1; exact qCl
   have b121 : w6.cell? ⟨w5.heap.size, 1, none⟩ = some (.slice p1 es.length c1) := by subst hW1; exact qCl
   have f_b120 : w6.frozen? ⟨w5.heap.size, 0, none⟩ = false := by subst hW1; exact qFz
   have f_b121 : w6.frozen? ⟨w5.heap.size, 1, none⟩ = false := by subst hW1; exact qFz
   have z_b2 : w1.heap.size < w6.heap.size := qB b20
   have z_b12 : w5.heap.size < w6.heap.size := qB b120
   replace i1 := i1.ext Lw6
   replace i2 := i2.ext Lw6
   replace i4 := i4.ext Lw6
   replace i6 := i6.ext Lw6
   have s_w6 : w.heap.size ≤ w6.heap.size := Xw6.size
   have BL11_w6 : Ext w5 w6 := BL11.trans Lw6
   clear hW1
   have hos2 : Hid (selL opP es es.length = os) := Lib.hid (by rw [← openA_of hB7.out]; exact hos.out)
   go_loopw [6] (fun i wr => ∃ (j : Nat) (x : Int) (q0 q1 : Option Addr) (d0 d1 : Nat) (fs : List Exp), j ≤ os.length ∧ x = (j : Int) - 1 ∧ i = .int .i64 x ∧ Hid (fs = shutE es (cutOf os j)) ∧ wr.cell? ⟨w5.heap.size, 0, none⟩ = some (.slice q0 cells.length d0) ∧ wr.cell? ⟨w5.heap.size, 1, none⟩ = some (.slice q1 fs.length d1) ∧ wr.frozen? ⟨w5.heap.size, 0, none⟩ = false ∧ wr.frozen? ⟨w5.heap.size, 1, none⟩ = false ∧ Ints wr 0 (.slice q0 cells.length d0) cells ∧ Exps wr 0 (.slice q1 fs.length d1) fs ∧ Ext w5 wr) (fun i _ => (intOf i + 1).toNat)
   case atStart => exact ⟨os.length, _, _, _, _, _, es, Nat.le_refl _, rfl, rfl, Lib.hid (by rw [← hos2.out]; exact rel_start.symm), b120, b121, f_b120, f_b121, i1.lower (Nat.zero_le _), i2.lower (Nat.zero_le _), BL11_w6⟩
   case round =>
    obtain ⟨j, x, q0, q1, d0, d1, fs, hj, hjx, rfl, hfs, n0, n1, g0, g1, jA, jB, E7⟩ := hrel
    have Xwr : Ext w wr := Xw5.trans E7
    have s_wr := Xwr.size
    have t_wr := E7.size
    clear b120 b121 f_b120 f_b121
    have b120 := n0
    have b121 := n1
    have f_b120 := g0
    have f_b121 := g1
    clear n0 n1 g0 g1
    replace b20 := E7.cell Q10_b20.out
    replace b21 := E7.cell Q10_b21.out
    have z_b2 : w1.heap.size < wr.heap.size := qB b20
    have z_b12 : w5.heap.size < wr.heap.size := qB b120
    replace i1 := (Q10_i1.out).ext E7
    replace i2 := (Q10_i2.out).ext E7
    replace i4 := (Q10_i4.out).ext E7
    replace i6 := (Q10_i6.out).ext E7
    by_cases hj0 : 0 < j
    ·
     obtain ⟨nn, rfl⟩ : ∃ nn, j = nn + 1 := ⟨j - 1, by omega⟩
     obtain rfl : x = (nn : Int) := by omega
     clear hjx
     have hn0 : (0 : Int) ≤ (nn : Int) := by omega
     obtain ⟨gs, hgs⟩ : ∃ gs, shutE es (cutOf os nn) = gs := ⟨_, rfl⟩
     have hst : relA cells fs (os.getD nn 0) = (cells, gs, true) := by have h7 := rel_step hB7.out nn (by rw [hos2.out]; omega); rw [hos2.out] at h7; rw [hfs.out, ← hgs]; exact h7
     replace hgs := Lib.hid hgs
     replace hst := Lib.hid hst
     go_wp2_with fail
     have hN_e15 : nn < os.length := (show nn < os.length by omega)
     have hI_e15 : (nn : Int) < (os.length : Int) := by omega
     obtain ⟨bl13, ol14, rfl, e150⟩ := i4.at nn (show nn < os.length by omega)
     obtain ⟨v16, hv16⟩ : ∃ v, os.getD nn 0 = v := ⟨_, rfl⟩
     rw [hv16] at e150
     replace hv16 := Lib.hid hv16
     have y_e15 : bl13 < wr.heap.size := qB e150
     have z_e15 := y_e15
     have hst := hst.out
     rw [hv16.out] at hst
     replace hst := Lib.hid hst
     go_cut [7, 8] (fun s7 s8 wx => ∃ (g : Nat) (afb21 : Option Addr) (cfb21 : Nat) (efb21 : Option Addr) (dfb21 : Nat), s7 = .pointer (some ⟨g, 0, none⟩) ∧ s8 = .bool true ∧ Ext wr wx ∧ wr.heap.size ≤ g ∧ wx.cell? ⟨g, 0, none⟩ = some (.slice afb21 cells.length cfb21) ∧ wx.cell? ⟨g, 1, none⟩ = some (.slice efb21 gs.length dfb21) ∧ wx.frozen? ⟨g, 0, none⟩ = false ∧ wx.frozen? ⟨g, 1, none⟩ = false ∧ Ints wx wr.heap.size (.slice afb21 cells.length cfb21) cells ∧ Exps wx wr.heap.size (.slice efb21 gs.length dfb21) gs)
     case first =>
      have BD11 : Ext wr wr := Ext.refl _
      refine wp_region_held_drew (S := fun w' => w'.cell? ⟨w1.heap.size, 0, none⟩ = some (.slice p0 cells.length c0) ∧ w'.cell? ⟨w1.heap.size, 1, none⟩ = some (.slice p1 es.length c1) ∧ w'.cell? ⟨w5.heap.size, 0, none⟩ = some (.slice q0 cells.length d0) ∧ w'.cell? ⟨w5.heap.size, 1, none⟩ = some (.slice q1 fs.length d1) ∧ w'.cell? ⟨bl13, ol14 + nn, none⟩ = some (.int .i64 v16)) qKr ⟨b20, b21, b120, b121, e150⟩ (fun hHeld => ?_)
      refine qHk (v := ?_) 0 rfl (.inl ⟨by rfl, ?_⟩) ?_
      rotate_left
      ·
       (intro w hSw; (try dsimp only at hSw); go_simp; try with_reducible rfl)
      try simp only [Act.put, qa, qb, qc, qD, qE, qF]
      refine qHk (v := ?_) 1 rfl (.inl ⟨by rfl, ?_⟩) ?_
      rotate_left
      ·
       (intro w hSw; (try dsimp only at hSw); go_simp; try with_reducible rfl)
      try simp only [Act.put, qa, qb, qc, qD, qE, qF]
      refine qHk (v := ?_) 2 rfl (.inl ⟨by rfl, ?_⟩) ?_
      rotate_left
      ·
       (intro w hSw; (try dsimp only at hSw); go_simp; try with_reducible rfl)
      try simp only [Act.put, qa, qb, qc, qD, qE, qF]
      refine qHk (v := ?_) 3 rfl (.inl ⟨by rfl, ?_⟩) ?_
      rotate_left
      ·
       (intro w hSw; (try dsimp only at hSw); go_simp; try with_reducible rfl)
      try simp only [Act.put, qa, qb, qc, qD, qE, qF]
      refine qHk (v := ?_) 4 rfl (.inl ⟨by rfl, ?_⟩) ?_
      rotate_left
      ·
       (intro w hSw; (try dsimp only at hSw); go_simp; try with_reducible rfl)
      try simp only [Act.put, qa, qb, qc, qD, qE, qF]
      refine wpAnyH_ready (rs := [5, 9]) qKr (by simp) ?_
      refine AllReadyH.cons rfl (fun K hK => ?_) (AllReadyH.cons rfl (fun K hK => ?_) AllReadyH.nil)
      ·
       try simp only [Act.put, qa, qb, qc, qD, qE, qF]
       go_simp
       refine (pbx_eq hst.out (implReleaseExport_c cells fs (.slice q0 cells.length d0) (.slice q1 fs.length d1) v16 _ _ _ (jA.ext qXt) (jB.ext qXt))).mono ?_
       rintro e w7 ⟨cvfb21, evfb21, R22, rfl, bf20, xw7⟩
       have Lw7 : Ext wr w7 := Ext.trans qXt xw7
       have Xw7 : Ext w w7 := Xwr.trans Lw7
       replace b20 := Lw7.cell b20
       replace b21 := Lw7.cell b21
       replace b120 := Lw7.cell b120
       replace b121 := Lw7.cell b121
       replace f_b120 := Lw7.frz z_b12 f_b120
       replace f_b121 := Lw7.frz z_b12 f_b121
       replace e150 := Lw7.cell e150
       have z_b2 : w1.heap.size < w7.heap.size := qB b20
       have z_b12 : w5.heap.size < w7.heap.size := qB b120
       have z_e15 : bl13 < w7.heap.size := qB e150
       replace i1 := i1.ext Lw7
       replace i2 := i2.ext Lw7
       replace i4 := i4.ext Lw7
       replace i6 := i6.ext Lw7
       replace jA := jA.ext Lw7
       replace jB := jB.ext Lw7
       have s_w7 : w.heap.size ≤ w7.heap.size := Xw7.size
       have BL11_w7 : Ext w5 w7 := E7.trans Lw7
       have BD11_w7 : Ext wr w7 := BD11.trans Lw7
       clear xw7
       replace bf20 := bf20.lower (lo' := wr.heap.size) qSo
       obtain ⟨afb21, cfb21, rfl⟩ := bf20.ints.form
       obtain ⟨efb21, dfb21, rfl⟩ := bf20.exps.form
       have q_bf20 := Lib.hid bf20.at
       have zD_w7 := (BD11_w7).size
       refine hK.out _ _ ⟨b20, b21, b120, b121, e150⟩ (fun hHeld => ?_)
       clear hK K
       try simp only [Act.put, qa, qb, qc, qD, qE, qF]
       refine qHk (v := ?_) 6 rfl (.inl ⟨by rfl, ?_⟩) ?_
       rotate_left
       ·
        (intro w hSw; (try dsimp only at hSw); go_simp; try with_reducible rfl)
       try simp only [Act.put, qa, qb, qc, qD, qE, qF]
       refine qHk (v := ?_) 7 rfl (.inl ⟨by rfl, ?_⟩) ?_
       rotate_left
       ·
        (intro w hSw; (try dsimp only at hSw); go_simp; try with_reducible rfl)
       try simp only [Act.put, qa, qb, qc, qD, qE, qF]
       refine qHk (v := ?_) 8 rfl (.inl ⟨by rfl, ?_⟩) ?_
       rotate_left
       ·
        (intro w hSw; (try dsimp only at hSw); go_simp; try with_reducible rfl)
       try simp only [Act.put, qa, qb, qc, qD, qE, qF]
       refine qHr 9 rfl (fun K hK => ?_)
       try simp only [Act.put, qa, qb, qc, qD, qE, qF]
       go_simp
       have Q23_b20 := Lib.hid b20
       have Q23_b21 := Lib.hid b21
       have Q23_zb2 := z_b2
       have Q23_b120 := Lib.hid b120
       have Q23_f_b120 := Lib.hid f_b120
       have Q23_b121 := Lib.hid b121
       have Q23_f_b121 := Lib.hid f_b121
       have Q23_zb12 := z_b12
       have Q23_e150 := Lib.hid e150
       have Q23_ze15 := z_e15
       have Q23_i1 := Lib.hid i1
       have Q23_i2 := Lib.hid i2
       have Q23_i4 := Lib.hid i4
       have Q23_i6 := Lib.hid i6
       have Q23_jA := Lib.hid jA
       have Q23_jB := Lib.hid jB
       have Q23_bf20 := Lib.hid bf20
       have BL24 : Ext w7 w7 := Ext.refl _
       have Q25_b20 := Lib.hid b20
       have Q25_b21 := Lib.hid b21
       have Q25_zb2 := z_b2
       have Q25_b120 := Lib.hid b120
       have Q25_f_b120 := Lib.hid f_b120
       have Q25_b121 := Lib.hid b121
       have Q25_f_b121 := Lib.hid f_b121
       have Q25_zb12 := z_b12
       have Q25_e150 := Lib.hid e150
       have Q25_ze15 := z_e15
       have Q25_i1 := Lib.hid i1
       have Q25_i2 := Lib.hid i2
       have Q25_i4 := Lib.hid i4
       have Q25_i6 := Lib.hid i6
       have Q25_jA := Lib.hid jA
       have Q25_jB := Lib.hid jB
       have Q25_bf20 := Lib.hid bf20
       have BL26 : Ext w7 w7 := Ext.refl _
       refine hK.out _ _ ⟨(show Ext w7 _ from qXt).cell b20, (show Ext w7 _ from qXt).cell b21, (show Ext w7 _ from qXt).cell b120, (show Ext w7 _ from qXt).cell b121, (show Ext w7 _ from qXt).cell e150⟩ (fun hHeld => ?_)
       clear hK K
       try simp only [Act.put, qa, qb, qc, qD, qE, qF]
       refine qHr 10 rfl (fun K hK => ?_)
       try simp only [Act.put, qa, qb, qc, qD, qE, qF]
       go_simp
       generalize hW2 : w7.alloc (.cells #[.slice afb21 cells.length cfb21, .slice efb21 gs.length dfb21] 26) = w8 at *
       have Lw8 : Ext w7 w8 := by subst hW2; exact qXt
       have Xw8 : Ext w w8 := Xw7.trans Lw8
       replace b20 := Lw8.cell b20
       replace b21 := Lw8.cell b21
       replace b120 := Lw8.cell b120
       replace b121 := Lw8.cell b121
       replace f_b120 := Lw8.frz z_b12 f_b120
       replace f_b121 := Lw8.frz z_b12 f_b121
       replace e150 := Lw8.cell e150
       have b270 : w8.cell? ⟨w7.heap.size, 0, none⟩ = some (.slice afb21 cells.length cfb21) := by subst hW2; exact qCl
       have b271 : w8.cell? ⟨w7.heap.size, 1, none⟩ = some (.slice efb21 gs.length dfb21) := by subst hW2; exact qCl
       have f_b270 : w8.frozen? ⟨w7.heap.size, 0, none⟩ = false := by subst hW2; exact qFz
       have f_b271 : w8.frozen? ⟨w7.heap.size, 1, none⟩ = false := by subst hW2; exact qFz
       have z_b2 : w1.heap.size < w8.heap.size := qB b20
       have z_b12 : w5.heap.size < w8.heap.size := qB b120
       have z_e15 : bl13 < w8.heap.size := qB e150
       have z_b27 : w7.heap.size < w8.heap.size := qB b270
       replace i1 := i1.ext Lw8
       replace i2 := i2.ext Lw8
       replace i4 := i4.ext Lw8
       replace i6 := i6.ext Lw8
       replace jA := jA.ext Lw8
       replace jB := jB.ext Lw8
       replace bf20 := bf20.ext Lw8
       have s_w8 : w.heap.size ≤ w8.heap.size := Xw8.size
       have BL11_w8 : Ext w5 w8 := BL11_w7.trans Lw8
       have BD11_w8 : Ext wr w8 := BD11_w7.trans Lw8
       have BL24_w8 : Ext w7 w8 := BL24.trans Lw8
       have BL26_w8 : Ext w7 w8 := BL26.trans Lw8
       clear hW2
       refine hK.out _ _ ⟨b20, b21, b120, b121, e150⟩ (fun hHeld => ?_)
       clear hK K
       try simp only [Act.put, qa, qb, qc, qD, qE, qF]
       refine qHk (v := ?_) 11 rfl (.inl ⟨by rfl, ?_⟩) ?_
       rotate_left
       ·
        (intro w hSw; (try dsimp only at hSw); go_simp; try with_reducible rfl)
       try simp only [Act.put, qa, qb, qc, qD, qE, qF]
       refine wpAnyH_done qKr ?_ _
       clear hHeld
       go_step
       go_step
       go_meet
       case rel => exact ⟨_, _, _, _, _, rfl, rfl, BD11_w8, (by omega), b270, b271, f_b270, f_b271, bf20.ints.lower (by omega), bf20.exps.lower (by omega)⟩
      ·
       try simp only [Act.put, qa, qb, qc, qD, qE, qF]
       go_simp
       have Q28_b20 := Lib.hid b20
       have Q28_b21 := Lib.hid b21
       have Q28_zb2 := z_b2
       have Q28_b120 := Lib.hid b120
       have Q28_f_b120 := Lib.hid f_b120
       have Q28_b121 := Lib.hid b121
       have Q28_f_b121 := Lib.hid f_b121
       have Q28_zb12 := z_b12
       have Q28_e150 := Lib.hid e150
       have Q28_ze15 := z_e15
       have Q28_i1 := Lib.hid i1
       have Q28_i2 := Lib.hid i2
       have Q28_i4 := Lib.hid i4
       have Q28_i6 := Lib.hid i6
       have Q28_jA := Lib.hid jA
       have Q28_jB := Lib.hid jB
       have BL29 : Ext wr wr := Ext.refl _
       have Q30_b20 := Lib.hid b20
       have Q30_b21 := Lib.hid b21
       have Q30_zb2 := z_b2
       have Q30_b120 := Lib.hid b120
       have Q30_f_b120 := Lib.hid f_b120
       have Q30_b121 := Lib.hid b121
       have Q30_f_b121 := Lib.hid f_b121
       have Q30_zb12 := z_b12
       have Q30_e150 := Lib.hid e150
       have Q30_ze15 := z_e15
       have Q30_i1 := Lib.hid i1
       have Q30_i2 := Lib.hid i2
       have Q30_i4 := Lib.hid i4
       have Q30_i6 := Lib.hid i6
       have Q30_jA := Lib.hid jA
       have Q30_jB := Lib.hid jB
       have BL31 : Ext wr wr := Ext.refl _
       refine hK.out _ _ ⟨(show Ext wr _ from qXt).cell b20, (show Ext wr _ from qXt).cell b21, (show Ext wr _ from qXt).cell b120, (show Ext wr _ from qXt).cell b121, (show Ext wr _ from qXt).cell e150⟩ (fun hHeld => ?_)
       clear hK K
       try simp only [Act.put, qa, qb, qc, qD, qE, qF]
       refine qHr 5 rfl (fun K hK => ?_)
       try simp only [Act.put, qa, qb, qc, qD, qE, qF]
       go_simp
       refine (pbx_eq hst.out (implReleaseExport_c cells fs (.slice q0 cells.length d0) (.slice q1 fs.length d1) v16 _ _ _ (jA.ext qXt) (jB.ext qXt))).mono ?_
       rintro e w7 ⟨cvfb34, evfb34, R35, rfl, bf33, xw7⟩
       have Lw7 : Ext wr w7 := Ext.trans qXt xw7
       have Xw7 : Ext w w7 := Xwr.trans Lw7
       replace b20 := Lw7.cell b20
       replace b21 := Lw7.cell b21
       replace b120 := Lw7.cell b120
       replace b121 := Lw7.cell b121
       replace f_b120 := Lw7.frz z_b12 f_b120
       replace f_b121 := Lw7.frz z_b12 f_b121
       replace e150 := Lw7.cell e150
       have b320 : w7.cell? ⟨wr.heap.size, 0, none⟩ = some (.slice none 0 0) := xw7.cell qCl
       have b321 : w7.cell? ⟨wr.heap.size, 1, none⟩ = some (.slice none 0 0) := xw7.cell qCl
       have f_b320 : w7.frozen? ⟨wr.heap.size, 0, none⟩ = false := xw7.frz (by simp <;> omega) qFz
       have f_b321 : w7.frozen? ⟨wr.heap.size, 1, none⟩ = false := xw7.frz (by simp <;> omega) qFz
       have z_b2 : w1.heap.size < w7.heap.size := qB b20
       have z_b12 : w5.heap.size < w7.heap.size := qB b120
       have z_e15 : bl13 < w7.heap.size := qB e150
       have z_b32 : wr.heap.size < w7.heap.size := qB b320
       replace i1 := i1.ext Lw7
       replace i2 := i2.ext Lw7
       replace i4 := i4.ext Lw7
       replace i6 := i6.ext Lw7
       replace jA := jA.ext Lw7
       replace jB := jB.ext Lw7
       have s_w7 : w.heap.size ≤ w7.heap.size := Xw7.size
       have BL11_w7 : Ext w5 w7 := E7.trans Lw7
       have BD11_w7 : Ext wr w7 := BD11.trans Lw7
       have BL29_w7 : Ext wr w7 := BL29.trans Lw7
       have BL31_w7 : Ext wr w7 := BL31.trans Lw7
       clear xw7
       replace bf33 := bf33.lower (lo' := wr.heap.size + 1) qSo
       obtain ⟨afb34, cfb34, rfl⟩ := bf33.ints.form
       obtain ⟨efb34, dfb34, rfl⟩ := bf33.exps.form
       have q_bf33 := Lib.hid bf33.at
       have zD_w7 := (BD11_w7).size
       refine hK.out _ _ ⟨b20, b21, b120, b121, e150⟩ (fun hHeld => ?_)
       clear hK K
       try simp only [Act.put, qa, qb, qc, qD, qE, qF]
       refine qHk (v := ?_) 6 rfl (.inl ⟨by rfl, ?_⟩) ?_
       rotate_left
       ·
        (intro w hSw; (try dsimp only at hSw); go_simp; try with_reducible rfl)
       try simp only [Act.put, qa, qb, qc, qD, qE, qF]
       refine qHk (v := ?_) 7 rfl (.inl ⟨by rfl, ?_⟩) ?_
       rotate_left
       ·
        (intro w hSw; (try dsimp only at hSw); go_simp; try with_reducible rfl)
       try simp only [Act.put, qa, qb, qc, qD, qE, qF]
       refine qHk (v := ?_) 8 rfl (.inl ⟨by rfl, ?_⟩) ?_
       rotate_left
       ·
        (intro w hSw; (try dsimp only at hSw); go_simp; try with_reducible rfl)
       try simp only [Act.put, qa, qb, qc, qD, qE, qF]
       refine qHr 10 rfl (fun K hK => ?_)
       try simp only [Act.put, qa, qb, qc, qD, qE, qF]
       go_simp
       generalize hW3 : ((w7.setCell ⟨wr.heap.size, 0, none⟩ (.slice afb34 cells.length cfb34)).setCell ⟨wr.heap.size, 1, none⟩ (.slice efb34 gs.length dfb34)) = w8 at *
       have Kw8 : Chg (wr.heap.size) (wr.heap.size + 1) w7 w8 := by subst hW3; exact qCh
       have Xw8 : Ext w w8 := by subst hW3; exact qXt
       have BL11_w8 : Ext w5 w8 := by subst hW3; exact qXt
       have BD11_w8 : Ext wr w8 := by subst hW3; exact qXt
       have BL29_w8 : Ext wr w8 := by subst hW3; exact qXt
       replace b20 := BL29_w8.cell Q28_b20.out
       replace b21 := BL29_w8.cell Q28_b21.out
       replace b120 := BL29_w8.cell Q28_b120.out
       replace f_b120 := BL29_w8.frz Q28_zb12 Q28_f_b120.out
       replace b121 := BL29_w8.cell Q28_b121.out
       replace f_b121 := BL29_w8.frz Q28_zb12 Q28_f_b121.out
       replace e150 := BL29_w8.cell Q28_e150.out
       replace b320 : w8.cell? ⟨wr.heap.size, 0, none⟩ = some (.slice afb34 cells.length cfb34) := by subst hW3; go_simp
       replace f_b320 : w8.frozen? ⟨wr.heap.size, 0, none⟩ = false := by subst hW3; first | (simp only [World.frozen?_setCell]; with_reducible assumption) | go_simp
       replace b321 : w8.cell? ⟨wr.heap.size, 1, none⟩ = some (.slice efb34 gs.length dfb34) := by subst hW3; go_simp
       replace f_b321 : w8.frozen? ⟨wr.heap.size, 1, none⟩ = false := by subst hW3; first | (simp only [World.frozen?_setCell]; with_reducible assumption) | go_simp
       replace i1 := (Q28_i1.out).ext BL29_w8
       replace i2 := (Q28_i2.out).ext BL29_w8
       replace i4 := (Q28_i4.out).ext BL29_w8
       replace i6 := (Q28_i6.out).ext BL29_w8
       replace jA := (Q28_jA.out).ext BL29_w8
       replace jB := (Q28_jB.out).ext BL29_w8
       replace bf33 := bf33.chg Kw8 (by omega)
       clear Kw8
       have z_b2 : w1.heap.size < w8.heap.size := qB b20
       have z_b12 : w5.heap.size < w8.heap.size := qB b120
       have z_e15 : bl13 < w8.heap.size := qB e150
       have z_b32 : wr.heap.size < w8.heap.size := qB b320
       have s_w8 : w.heap.size ≤ w8.heap.size := Xw8.size
       clear hW3
       refine hK.out _ _ ⟨b20, b21, b120, b121, e150⟩ (fun hHeld => ?_)
       clear hK K
       try simp only [Act.put, qa, qb, qc, qD, qE, qF]
       refine qHk (v := ?_) 11 rfl (.inl ⟨by rfl, ?_⟩) ?_
       rotate_left
       ·
        (intro w hSw; (try dsimp only at hSw); go_simp; try with_reducible rfl)
       try simp only [Act.put, qa, qb, qc, qD, qE, qF]
       refine wpAnyH_done qKr ?_ _
       clear hHeld
       go_step
       go_step
       go_meet
       case rel => exact ⟨_, _, _, _, _, rfl, rfl, BD11_w8, (by omega), b320, b321, f_b320, f_b321, bf33.ints.lower (by omega), bf33.exps.lower (by omega)⟩
     case rest =>
      generalize wc = wc37 at hcut ⊢
      obtain ⟨g38, af42, cf43, ef44, df45, rfl, rfl, xx39, hg_b36, b360, b361, f_b360, f_b361, i40, i41⟩ := hcut
      have Lwc37 : Ext wr wc37 := Ext.trans qXt xx39
      have Xwc37 : Ext w wc37 := Xwr.trans Lwc37
      replace b20 := Lwc37.cell b20
      replace b21 := Lwc37.cell b21
      replace b120 := Lwc37.cell b120
      replace b121 := Lwc37.cell b121
      replace f_b120 := Lwc37.frz z_b12 f_b120
      replace f_b121 := Lwc37.frz z_b12 f_b121
      replace e150 := Lwc37.cell e150
      have z_b2 : w1.heap.size < wc37.heap.size := qB b20
      have z_b12 : w5.heap.size < wc37.heap.size := qB b120
      have z_e15 : bl13 < wc37.heap.size := qB e150
      replace i1 := i1.ext Lwc37
      replace i2 := i2.ext Lwc37
      replace i4 := i4.ext Lwc37
      replace i6 := i6.ext Lwc37
      replace jA := jA.ext Lwc37
      replace jB := jB.ext Lwc37
      have s_wc37 : w.heap.size ≤ wc37.heap.size := Xwc37.size
      have BL11_wc37 : Ext w5 wc37 := E7.trans Lwc37
      clear xx39
      have z_b36 : g38 < wc37.heap.size := qB b360
      clear jA jB
      go_wp2_with fail
      clear e150 z_e15
      generalize hW4 : ((wc37.setCell ⟨w5.heap.size, 0, none⟩ (.slice af42 cells.length cf43)).setCell ⟨w5.heap.size, 1, none⟩ (.slice ef44 gs.length df45)) = w7 at *
      have Kw7 : Chg (w5.heap.size) (w5.heap.size + 1) wc37 w7 := by subst hW4; exact qCh
      have Xw7 : Ext w w7 := by subst hW4; exact qXt
      have BL11_w7 : Ext w5 w7 := by subst hW4; exact qXt
      replace b20 := BL11_w7.cell Q10_b20.out
      replace b21 := BL11_w7.cell Q10_b21.out
      replace b120 : w7.cell? ⟨w5.heap.size, 0, none⟩ = some (.slice af42 cells.length cf43) := by subst hW4; go_simp
      replace f_b120 : w7.frozen? ⟨w5.heap.size, 0, none⟩ = false := by subst hW4; first | (simp only [World.frozen?_setCell]; with_reducible assumption) | go_simp
      replace b121 : w7.cell? ⟨w5.heap.size, 1, none⟩ = some (.slice ef44 gs.length df45) := by subst hW4; go_simp
      replace f_b121 : w7.frozen? ⟨w5.heap.size, 1, none⟩ = false := by subst hW4; first | (simp only [World.frozen?_setCell]; with_reducible assumption) | go_simp
      replace b360 := Kw7.cell (by omega) b360
      replace f_b360 := Kw7.frzO (by omega) z_b36 f_b360
      replace b361 := Kw7.cell (by omega) b361
      replace f_b361 := Kw7.frzO (by omega) z_b36 f_b361
      replace i1 := (Q10_i1.out).ext BL11_w7
      replace i2 := (Q10_i2.out).ext BL11_w7
      replace i4 := (Q10_i4.out).ext BL11_w7
      replace i6 := (Q10_i6.out).ext BL11_w7
      replace i40 := i40.chg Kw7 (by omega)
      replace i41 := i41.chg Kw7 (by omega)
      clear Kw7
      have z_b2 : w1.heap.size < w7.heap.size := qB b20
      have z_b12 : w5.heap.size < w7.heap.size := qB b120
      have z_b36 : g38 < w7.heap.size := qB b360
      have s_w7 : w.heap.size ≤ w7.heap.size := Xw7.size
      clear hW4
      go_roundw
      case rel => exact ⟨nn, _, _, _, _, _, gs, by omega, rfl, by go_num, Lib.hid hgs.out.symm, b120, b121, f_b120, f_b121, i40.lower (Nat.zero_le _), i41.lower (Nat.zero_le _), BL11_w7.trans qXt⟩
      case measure => first | (simp [intOf]; done) | (simp [intOf]; omega)
    ·
     obtain rfl : j = 0 := by omega
     obtain rfl : x = -1 := by omega
     clear hjx
     obtain ⟨hoe, RB, RE, hre⟩ := open_end hB7.out (show fs = shutE es 0 from hfs.out)
     replace hre := Lib.hid hre
     replace hoe := Lib.hid hoe
     go_wp2_with fail
     have Q49_b20 := Lib.hid b20
     have Q49_b21 := Lib.hid b21
     have Q49_zb2 := z_b2
     have Q49_b120 := Lib.hid b120
     have Q49_f_b120 := Lib.hid f_b120
     have Q49_b121 := Lib.hid b121
     have Q49_f_b121 := Lib.hid f_b121
     have Q49_zb12 := z_b12
     have Q49_i1 := Lib.hid i1
     have Q49_i2 := Lib.hid i2
     have Q49_i4 := Lib.hid i4
     have Q49_i6 := Lib.hid i6
     have Q49_jA := Lib.hid jA
     have Q49_jB := Lib.hid jB
     have BL50 : Ext wr wr := Ext.refl _
     refine (pbx_eq hre.out (implResizeBuffer_c cells fs (.slice q0 cells.length d0) (.slice q1 fs.length d1) 5 _ _ _ (jA.ext qXt) (jB.ext qXt))).mono ?_
     rintro e w7 ⟨cvfb47, evfb47, R48, rfl, bf46, xw7⟩
     have Lw7 : Ext wr w7 := Ext.trans qXt xw7
     have Xw7 : Ext w w7 := Xwr.trans Lw7
     replace b20 := Lw7.cell b20
     replace b21 := Lw7.cell b21
     replace b120 := Lw7.cell b120
     replace b121 := Lw7.cell b121
     replace f_b120 := Lw7.frz z_b12 f_b120
     replace f_b121 := Lw7.frz z_b12 f_b121
     have z_b2 : w1.heap.size < w7.heap.size := qB b20
     have z_b12 : w5.heap.size < w7.heap.size := qB b120
     replace i1 := i1.ext Lw7
     replace i2 := i2.ext Lw7
     replace i4 := i4.ext Lw7
     replace i6 := i6.ext Lw7
     replace jA := jA.ext Lw7
     replace jB := jB.ext Lw7
     have s_w7 : w.heap.size ≤ w7.heap.size := Xw7.size
     have BL11_w7 : Ext w5 w7 := E7.trans Lw7
     have BL50_w7 : Ext wr w7 := BL50.trans Lw7
     clear xw7
     replace bf46 := bf46.lower (lo' := wr.heap.size) qSo
     obtain ⟨afb47, cfb47, rfl⟩ := bf46.ints.form
     obtain ⟨efb47, dfb47, rfl⟩ := bf46.exps.form
     have q_bf46 := Lib.hid bf46.at
     go_wp2_with fail
     refine (implOpenOf_c cells fs (.slice q0 cells.length d0) (.slice q1 fs.length d1) _ _ _ (jA.ext qXt) (jB.ext qXt)).mono ?_
     rintro e w8 ⟨fv52, rfl, i53, -, xw8⟩
     have Lw8 : Ext w7 w8 := Ext.trans qXt xw8
     have Xw8 : Ext w w8 := Xw7.trans Lw8
     replace b20 := Lw8.cell b20
     replace b21 := Lw8.cell b21
     replace b120 := Lw8.cell b120
     replace b121 := Lw8.cell b121
     replace f_b120 := Lw8.frz z_b12 f_b120
     replace f_b121 := Lw8.frz z_b12 f_b121
     have b510 : w8.cell? ⟨w7.heap.size, 0, none⟩ = some (.slice afb47 RB.length cfb47) := xw8.cell qCl
     have b511 : w8.cell? ⟨w7.heap.size, 1, none⟩ = some (.slice efb47 RE.length dfb47) := xw8.cell qCl
     have z_b2 : w1.heap.size < w8.heap.size := qB b20
     have z_b12 : w5.heap.size < w8.heap.size := qB b120
     have z_b51 : w7.heap.size < w8.heap.size := qB b510
     replace i1 := i1.ext Lw8
     replace i2 := i2.ext Lw8
     replace i4 := i4.ext Lw8
     replace i6 := i6.ext Lw8
     replace jA := jA.ext Lw8
     replace jB := jB.ext Lw8
     replace bf46 := bf46.ext Lw8
     have s_w8 : w.heap.size ≤ w8.heap.size := Xw8.size
     have BL11_w8 : Ext w5 w8 := BL11_w7.trans Lw8
     have BL50_w8 : Ext wr w8 := BL50_w7.trans Lw8
     clear xw8
     try simp only [World.size_alloc, World.size_drew] at i53
     obtain ⟨afv52, cfv52, rfl⟩ := i53.form
     have hq54e : (((openA cells fs).length : Int) == (0 : Int)) = true := by have h7 : ((openA cells fs).length : Int) = (0 : Int) := (by rw [hoe.out]; rfl); simpa using h7
     have hq54n : (((openA cells fs).length : Int) != (0 : Int)) = false := by have h7 : ((openA cells fs).length : Int) = (0 : Int) := (by rw [hoe.out]; rfl); simpa using h7
     go_wp2_with fail
     refine (leqInts_c cells (.slice q0 cells.length d0) (.slice p0 cells.length c0) _ _ _ (jA.ext qXt) (i1.ext qXt)).mono ?_
     rintro e w9 ⟨rfl, xw9⟩
     have Lw9 : Ext w8 w9 := Ext.trans qXt xw9
     have Xw9 : Ext w w9 := Xw8.trans Lw9
     replace b20 := Lw9.cell b20
     replace b21 := Lw9.cell b21
     replace b120 := Lw9.cell b120
     replace b121 := Lw9.cell b121
     replace f_b120 := Lw9.frz z_b12 f_b120
     replace f_b121 := Lw9.frz z_b12 f_b121
     replace b510 := Lw9.cell b510
     replace b511 := Lw9.cell b511
     have z_b2 : w1.heap.size < w9.heap.size := qB b20
     have z_b12 : w5.heap.size < w9.heap.size := qB b120
     have z_b51 : w7.heap.size < w9.heap.size := qB b510
     replace i1 := i1.ext Lw9
     replace i2 := i2.ext Lw9
     replace i4 := i4.ext Lw9
     replace i6 := i6.ext Lw9
     replace jA := jA.ext Lw9
     replace jB := jB.ext Lw9
     replace bf46 := bf46.ext Lw9
     replace i53 := i53.ext Lw9
     have s_w9 : w.heap.size ≤ w9.heap.size := Xw9.size
     have BL11_w9 : Ext w5 w9 := BL11_w8.trans Lw9
     have BL50_w9 : Ext wr w9 := BL50_w8.trans Lw9
     clear xw9
     go_wp2_with fail
     go_ret
     exact ⟨rfl, (Xw9.trans qXt)⟩


end Go.Proofs.Ytgklaobfikbiiaa

/- The law FnOpenOf holds for all bytes: the call returns true, and its argument reads as it did. No condition. -/
namespace Go.Proofs.Ytgklaobfikbiiaa.rowFnOpenOf
open Go.ChangeShapes Go.WideShapes Go.ChangeAt Go.RowKit
set_option linter.unusedVariables false

set_option maxHeartbeats 1000000 in
set_option maxRecDepth 100000 in
theorem lifted (os : Os) (started : os.Started) (H : Type) (enc : TypeId × Value → H) :
    ReturnsInHanded {} Try.checked os 5 .any (Rows.fnOpenOfSpec.pre6 enc Try.prog Try.f5 Rows.fnOpenOfRow.domain false) (Rows.fnOpenOfSpec.post enc Try.prog Try.f5 false true false false) := by
  refine returnsInHanded_of_change (C := Try.checked) own started qKr Try.func5
    (ChangeSpec.witness6 (enc := enc) (C := Try.checked) false ⟨#[], #[.slice none 0 0], []⟩ 8 qKr qKr qKr qKr) ?_
  intro W base args ds gs before hval0 hW hcnd _
  have hval : ∀ (j : Nat) t v, Try.f5.params[j]? = some t → args[j]? = some v → Value.okWide Try.prog W .any base t v := hval0
  have hW' := hW
  obtain ⟨p, q, hA0, hV, rfl, hfz, hnd⟩ := hW
  have hA : DataW.TrodAll enc Try.prog W 0 (fun _ => true) true Try.f5.params.toList args.toList ds p := hA0
  rw [Try.params5] at hA hval
  obtain ⟨v0, vs0, d0, ds0, p0, q0, hargs0, rfl, rfl, h0, r0⟩ := trodAll_cons hA
  obtain ⟨rfl, rfl, rfl⟩ := trodAll_nil r0
  obtain rfl : args = #[v0] := by cases args; simp_all
  obtain ⟨rfl, rfl⟩ := trodVars_none hV
  obtain ⟨a0, len0, cap0, rfl⟩ := okWide_slice Try.underlying22 (hval 0 22 v0 rfl rfl)
  have k0 := h0
  have lt0 : ∀ x ∈ p0, x.block < W.heap.size := by obtain ⟨m, hm⟩ := k0; exact DataW.trod_lt m _ _ _ hm
  have w0 : BysIn W a0 len0 cap0 := by
    obtain ⟨fuel, hf⟩ := h0
    rcases open_ints Try.underlying22 Try.underlying5 qKr hf with ⟨hcs, _⟩ | ⟨x, l, c, zs, hcs, _, hl, hm, hz, _, hcell, hwz⟩
    · simp [Value.cells] at hcs
      obtain ⟨rfl, rfl, rfl⟩ := hcs
      exact ⟨Nat.le_refl _, by simp, fun i hi => absurd hi (by simp)⟩
    · simp [Value.cells] at hcs
      obtain ⟨rfl, rfl, rfl⟩ := hcs
      have hzl : zs.length = cap0 := by simpa using hz
      exact bys_of_cells hl hm hzl hcell hwz
  clear hA0 hval0
  refine (lawFnOpenOf_c a0 len0 cap0 W w0).mono fun e W' ⟨he, bel⟩ => ?_
  subst he
  exact ⟨_, rfl, _, _, _, [], _, [], hW', trodAll_mk1 (shut_bool Try.underlying4 _), (trodAll_cons_mk (Below.trod laidOut qKr (of_decide_eq_true qKr) k0 bel lt0) trodAll_mk0), rfl, Below.frame bel _, fun h => by cases h⟩

set_option maxHeartbeats 2000000 in
theorem closed : joinedFacts Try.checked.prog 5 Try.f5 Rows.fnOpenOfSpec Rows.fnOpenOfRow = true :=
  facts.all qKr qKr qKr qKr qKr (by as_aux_lemma => kernel_rfl) (by as_aux_lemma => kernel_rfl) (by as_aux_lemma => kernel_rfl) (by as_aux_lemma => kernel_rfl)
    (by as_aux_lemma => kernel_rfl) (by as_aux_lemma => kernel_rfl) rfl rfl rfl rfl qKr qKr (by as_aux_lemma => kernel_rfl) (by as_aux_lemma => kernel_rfl)

theorem named : Try.pinned.checked.prog.funcNamed Rows.fnOpenOfRow.func = some 5 := by kernel_rfl

theorem over : Rows.fnOpenOfRow.holds Try.pinned (OpenSpec.ofChange Rows.fnOpenOfSpec) :=
  OpenClaim.holds_of_wide 5 Try.f5 rfl rfl rfl rfl rfl rfl rfl ⟨rfl, rfl, rfl, rfl, rfl⟩ rfl rfl rfl rfl rfl named Try.func5 closed
    (of_decide_eq_true qKr) (by unfold Func.isWrapper; exact ⟨rfl, rfl⟩)
    (fun os started H enc _ => lifted os started H enc)

theorem proved : Rows.FnOpenOfSaid := over

end Go.Proofs.Ytgklaobfikbiiaa.rowFnOpenOf
