/- Texts of these proofs put together: KlP, CbP, KlA, CbA, KlB, CbC, KlC, CbB, CbD, KlD, KlE, RngD, LkA, PoD, LawFnCostBy, RowFnCostBy. No condition. -/
import Derived.Test.YtpgkhjmboiepcaaM5
import Derived.Test.YtpgkhjmboiepcaaM1
import Derived.Test.YtpgkhjmboiepcaaM4
import Derived.Test.YtpgkhjmboiepcaaM2
import Derived.Test.YtpgkhjmboiepcaaM3
set_option linter.unusedVariables false
set_option linter.unusedSimpArgs false
/- Plain laws: the labels that are kept. No condition. -/
namespace Go.Proofs.Ytpgkhjmboiepcaa
open Go.RowKit
set_option linter.unusedVariables false

/-- the labels of the lists ahead of the n-th, but of i and j -/
def othL (ls : List Lst) (i j : Nat) (n : Nat) : List Int := (List.range n).flatMap fun m => if m = i ∨ m = j then [] else (lstAt ls m).s
theorem othL_succ (ls : List Lst) (i j n : Nat) : othL ls i j (n+1) = othL ls i j n ++ (if n = i ∨ n = j then [] else (lstAt ls n).s) := by
  unfold othL; rw [List.range_succ, List.flatMap_append]; simp
def needL (ls : List Lst) (out : List Int) (i j n : Nat) : List Int := out ++ othL ls i j n
theorem needL_skip {ls : List Lst} {out : List Int} {i j n : Nat} (h : n = i ∨ n = j) : needL ls out i j (n+1) = needL ls out i j n := by
  unfold needL; rw [othL_succ, if_pos h, List.append_nil]
theorem needL_go {ls : List Lst} {out : List Int} {i j n : Nat} (h1 : ¬ n = i) (h2 : ¬ n = j) : needL ls out i j (n+1) = needL ls out i j n ++ (lstAt ls n).s := by
  unfold needL; rw [othL_succ, if_neg (by omega), List.append_assoc]
theorem needL_zero (ls : List Lst) (out : List Int) (i j : Nat) : needL ls out i j 0 = out := by unfold needL othL; simp
theorem needL_len {ls : List Lst} {out : List Int} {i j : Nat} (hb : labsB ls) (n : Nat) (hn : n ≤ ls.length) : (needL ls out i j n).length ≤ out.length + 60 * n := by
  induction n with
  | zero => rw [needL_zero]; omega
  | succ n ih =>
    have h := ih (by omega)
    by_cases hc : n = i ∨ n = j
    · rw [needL_skip hc]; omega
    · rw [needL_go (by omega) (by omega), List.length_append]
      have := (hb n (by omega)).2
      omega
/-- the number is needed: by the result or by one of the lists ahead of the n-th -/
def needB (ls : List Lst) (out : List Int) (i j : Nat) (x : Int) (n : Nat) : Bool := hasB (needL ls out i j n) x
theorem needB_zero (ls : List Lst) (out : List Int) (i j : Nat) (x : Int) : needB ls out i j x 0 = hasB out x := by unfold needB; rw [needL_zero]
theorem needB_skip {ls : List Lst} {out : List Int} {i j n : Nat} {x : Int} (h : n = i ∨ n = j) : needB ls out i j x (n+1) = needB ls out i j x n := by unfold needB; rw [needL_skip h]
theorem needB_go {ls : List Lst} {out : List Int} {i j n : Nat} {x : Int} (h1 : ¬ n = i) (h2 : ¬ n = j) : needB ls out i j x (n+1) = (needB ls out i j x n || hasB (lstAt ls n).s x) := by
  unfold needB hasB; rw [needL_go h1 h2]; simp
theorem needB_yes {ls : List Lst} {out : List Int} {i j n : Nat} {x : Int} (h : needB ls out i j x n = true) : needB ls out i j x (n+1) = true := by
  by_cases hc : n = i ∨ n = j
  · rw [needB_skip hc]; exact h
  · rw [needB_go (by omega) (by omega), h]; rfl
/-- the label k is kept -/
def kptP (ls : List Lst) (out : List Int) (i j : Nat) (k : Nat) : Bool := (hasB (lstAt ls i).s k || hasB (lstAt ls j).s k) && needB ls out i j k ls.length
def kptL (ls : List Lst) (out : List Int) (i j : Nat) : List Int := labN (kptP ls out i j) 5
theorem kpt_skip {ls : List Lst} {out : List Int} {i j k : Nat} (h : kptP ls out i j k = false) : labN (kptP ls out i j) (k+1) = labN (kptP ls out i j) k := by rw [labN_succ, h]; rfl
theorem kpt_go {ls : List Lst} {out : List Int} {i j k : Nat} (h : kptP ls out i j k = true) : labN (kptP ls out i j) (k+1) = labN (kptP ls out i j) k ++ [(k : Int)] := by rw [labN_succ, h]; rfl
/-- the labels of i and of j, each once -/
def twoL (ls : List Lst) (i j : Nat) : List Int := alL [⟨(lstAt ls i).s⟩, ⟨(lstAt ls j).s⟩]
theorem twoL_mem {ls : List Lst} {i j : Nat} {x : Int} : x ∈ twoL ls i j ↔ x ∈ (lstAt ls i).s ∨ x ∈ (lstAt ls j).s := by
  unfold twoL
  rw [(alL_spec _).2 x]
  constructor
  · rintro ⟨m, hm, hx⟩
    match m, hm, hx with
    | 0, _, hx => exact .inl hx
    | 1, _, hx => exact .inr hx
    | n + 2, hm, _ => exact absurd hm (by simp)
  · rintro (h | h)
    · exact ⟨0, by simp, h⟩
    · exact ⟨1, by simp, h⟩
def keptF (ls : List Lst) (out : List Int) (i j k : Nat) : List Int := ((twoL ls i j).take k).filter fun x => needB ls out i j x ls.length
theorem keptF_go {ls : List Lst} {out : List Int} {i j k : Nat} {x : Int} (hk : k < (twoL ls i j).length) (hx : (twoL ls i j).getD k 0 = x) (h : hasB (needL ls out i j ls.length) x = true) : keptF ls out i j (k+1) = keptF ls out i j k ++ [x] := by
  have h' : needB ls out i j x ls.length = true := h
  unfold keptF
  have e : (twoL ls i j)[k] = x := by rw [← hx]; simp [hk]
  rw [List.take_succ_eq_append_getElem hk, List.filter_append, e]
  simp [h']
theorem keptF_skip {ls : List Lst} {out : List Int} {i j k : Nat} {x : Int} (hk : k < (twoL ls i j).length) (hx : (twoL ls i j).getD k 0 = x) (h : hasB (needL ls out i j ls.length) x = false) : keptF ls out i j (k+1) = keptF ls out i j k := by
  have h' : ¬ needB ls out i j x ls.length = true := by unfold needB; rw [h]; simp
  unfold keptF
  have e : (twoL ls i j)[k] = x := by rw [← hx]; simp [hk]
  rw [List.take_succ_eq_append_getElem hk, List.filter_append, e]
  simp [h']
theorem keptF_len (ls : List Lst) (out : List Int) (i j k : Nat) : (keptF ls out i j k).length ≤ k := by
  unfold keptF
  refine Nat.le_trans (List.length_filter_le _ _) ?_
  rw [List.length_take]; omega
theorem hasB_mem {l : List Int} {x : Int} : hasB l x = true ↔ x ∈ l := by unfold hasB; simp
theorem kept_law {ls : List Lst} {out : List Int} {i j : Nat} (hb : labsB ls) (hi : i < ls.length) (hj : j < ls.length) : keptF ls out i j (twoL ls i j).length = kptL ls out i j := by
  unfold keptF
  rw [List.take_length]
  refine lab5_of (((alL_spec _).1).filter _) fun x => ?_
  rw [List.mem_filter, twoL_mem]
  constructor
  · rintro ⟨h1, h2⟩
    have hx : 0 ≤ x ∧ x ≤ 4 := by
      rcases h1 with h | h
      · exact labB_mem (hb i hi).1 h
      · exact labB_mem (hb j hj).1 h
    have e : ((x.toNat : Nat) : Int) = x := by omega
    refine ⟨x.toNat, by omega, ?_, e.symm⟩
    unfold kptP
    rw [e, h2, Bool.and_true, Bool.or_eq_true, hasB_mem, hasB_mem]
    exact h1
  · rintro ⟨k, hk, h, rfl⟩
    unfold kptP at h
    rw [Bool.and_eq_true, Bool.or_eq_true, hasB_mem, hasB_mem] at h
    exact h
theorem kptL_len (ls : List Lst) (out : List Int) (i j : Nat) : (kptL ls out i j).length ≤ 5 := labN_le _ _
theorem twoL_len {ls : List Lst} {i j : Nat} (hb : labsB ls) (hi : i < ls.length) (hj : j < ls.length) : (twoL ls i j).length ≤ 120 := by
  unfold twoL alL
  have h1 := compact_len_le (sortL (catL [⟨(lstAt ls i).s⟩, ⟨(lstAt ls j).s⟩] 2))
  rw [sortL_len] at h1
  have h2 := catL_len (ls := [⟨(lstAt ls i).s⟩, ⟨(lstAt ls j).s⟩]) (fun m hm => by
    match m, hm with
    | 0, _ => exact hb i hi
    | 1, _ => exact hb j hj
    | n + 2, hm => exact absurd hm (by simp)) 2 (Nat.le_refl _)
  exact Nat.le_trans h1 h2
theorem two_labs {ls : List Lst} {i j : Nat} (hb : labsB ls) (hi : i < ls.length) (hj : j < ls.length) : labsB [⟨(lstAt ls i).s⟩, ⟨(lstAt ls j).s⟩] := fun m hm => by
  match m, hm with
  | 0, _ => exact hb i hi
  | 1, _ => exact hb j hj
  | n + 2, hm => exact absurd hm (by simp)
/-- where a number stands, or -1: whether it is there -/
theorem place_has (xs : List Int) (x : Int) : hasB xs x = decide (0 ≤ placeL xs x) := (placeL_ge xs x).symm
theorem place_yes {xs : List Int} {x : Int} (h : ¬ placeL xs x < 0) : hasB xs x = true := by rw [place_has]; exact decide_eq_true (by omega)
theorem place_no {xs : List Int} {x : Int} (h : placeL xs x < 0) : hasB xs x = false := by rw [place_has]; exact decide_eq_false (by omega)
/-- two of n tensors -/
def pairP (n : Nat) (i j : Int) : Prop := 0 ≤ i ∧ i < n ∧ 0 ≤ j ∧ j < n ∧ ¬ i = j
end Go.Proofs.Ytpgkhjmboiepcaa

/- Plain laws: what a contraction by two tensors costs. No condition. -/
namespace Go.Proofs.Ytpgkhjmboiepcaa
open Go.RowKit
set_option linter.unusedVariables false

/-- is the label k one of the two tensors'? -/
def twoP (ls : List Lst) (i j k : Nat) : Bool := hasB (lstAt ls i).s k || hasB (lstAt ls j).s k
/-- is the label k one of the others', or kept? -/
def resP (ls : List Lst) (out : List Int) (i j k : Nat) : Bool := hasB (othL ls i j ls.length) k || hasB (kptL ls out i j) k
/-- the extents of some labels -/
def mskL (x : List Int) (p : Nat → Bool) (n : Nat) : List Int := (List.range n).map fun k => if p k then x.getD k 0 else -1
theorem mskL_len (x : List Int) (p : Nat → Bool) (n : Nat) : (mskL x p n).length = n := by simp [mskL]
theorem mskL_at {x : List Int} {p : Nat → Bool} {n k : Nat} (h : k < n) : (mskL x p n).getD k 0 = if p k then x.getD k 0 else -1 := by
 unfold mskL; simp [h]
theorem mskL_succ (x : List Int) (p : Nat → Bool) (n : Nat) : mskL x p (n+1) = mskL x p n ++ [if p n then x.getD n 0 else -1] := by
 unfold mskL; rw [List.range_succ, List.map_append]; rfl
theorem msk_cost {x : List Int} {p : Nat → Bool} {m : Nat} (h : ∀ k, k < m → p k = true → 0 ≤ x.getD k 0) (n : Nat) (hn : n ≤ m) : costL x (labN p n) = spK (mskL x p m) n := by
 induction n with
 | zero => rfl
 | succ n ih =>
  have ih := ih (by omega)
  rw [labN_succ]
  unfold spK
  rw [mskL_at (show n < m by omega)]
  cases hp : p n
  ·
   simp only [Bool.false_eq_true, if_false]
   rw [if_pos (by decide), Int.mul_one, ih]
  ·
   have := h n (by omega) hp
   simp only [if_true]
   rw [if_neg (by omega), costL_snoc, ih, Int.toNat_natCast]
/-- CostBy of two tensors -/
def costB (x : List Int) (ls : List Lst) (out : List Int) (i j : Nat) : Int := spK (mskL x (twoP ls i j) 5) 5 + spK (mskL x (resP ls out i j) 5) 5
def cbyA (ts : List Ten) (ls : List Lst) (out : List Int) (i j : Int) : Int := match extA ts ls with
 | none => -1
 | some x => if labB out = true ∧ (0 ≤ i ∧ i < ts.length ∧ 0 ≤ j ∧ j < ts.length ∧ ¬ i = j) then costB x ls out i.toNat j.toNat else -1
theorem cbyA_none {ts : List Ten} {ls : List Lst} {out : List Int} {i j : Int} (h : extA ts ls = none) : cbyA ts ls out i j = -1 := by unfold cbyA; rw [h]
theorem cbyA_pair {ts : List Ten} {ls : List Lst} {out : List Int} {i j : Int} (h : ¬ pairP ts.length i j) : cbyA ts ls out i j = -1 := by
 unfold cbyA; cases extA ts ls with
 | none => rfl
 | some x => exact if_neg fun h2 => h h2.2
theorem cbyA_lab {ts : List Ten} {ls : List Lst} {out : List Int} {i j : Int} (h : labB out = false) : cbyA ts ls out i j = -1 := by
 unfold cbyA; cases extA ts ls with
 | none => rfl
 | some x => exact if_neg fun h2 => by rw [h] at h2; cases h2.1
theorem cbyA_yes {ts : List Ten} {ls : List Lst} {out x : List Int} {i j : Int} (h : extA ts ls = some x) (h2 : labB out = true) (h3 : pairP ts.length i j) : cbyA ts ls out i j = costB x ls out i.toNat j.toNat := by
 unfold cbyA; rw [h]; exact if_pos ⟨h2, h3⟩
/-- the labels of the two are the labels of the law -/
theorem twoL_lab {ls : List Lst} {i j : Nat} (hb : labsB ls) (hi : i < ls.length) (hj : j < ls.length) : twoL ls i j = labN (twoP ls i j) 5 := by
 refine lab5_of (alL_spec _).1 fun x => ?_
 rw [twoL_mem]
 unfold twoP
 constructor
 ·
  intro h
  have hx : 0 ≤ x ∧ x ≤ 4 := by
   rcases h with h | h
   ·
    exact labB_mem (hb i hi).1 h
   ·
    exact labB_mem (hb j hj).1 h
  have e : ((x.toNat : Nat) : Int) = x := by omega
  refine ⟨x.toNat, by omega, ?_, e.symm⟩
  rw [e, Bool.or_eq_true, hasB_mem, hasB_mem]
  exact h
 ·
  rintro ⟨k, hk, h, rfl⟩
  rw [Bool.or_eq_true, hasB_mem, hasB_mem] at h
  exact h
/-- the kept labels, and the others' lists ahead of the n-th -/
def rstL (ls : List Lst) (out : List Int) (i j : Nat) (n : Nat) : List Lst := ⟨kptL ls out i j⟩ :: (((List.range n).filter fun m => decide (m ≠ i ∧ m ≠ j)).map fun m => lstAt ls m)
theorem rstL_zero (ls : List Lst) (out : List Int) (i j : Nat) : rstL ls out i j 0 = [⟨kptL ls out i j⟩] := rfl
theorem rstL_skip {ls : List Lst} {out : List Int} {i j n : Nat} (h : n = i ∨ n = j) : rstL ls out i j (n+1) = rstL ls out i j n := by
 unfold rstL; rw [List.range_succ, List.filter_append, List.filter_cons_of_neg (by simp; omega)]; simp
theorem rstL_go {ls : List Lst} {out : List Int} {i j n : Nat} (h1 : ¬ n = i) (h2 : ¬ n = j) : rstL ls out i j (n+1) = rstL ls out i j n ++ [lstAt ls n] := by
 unfold rstL; rw [List.range_succ, List.filter_append, List.filter_cons_of_pos (by simp; omega)]; simp
theorem rstL_len (ls : List Lst) (out : List Int) (i j n : Nat) : (rstL ls out i j n).length ≤ n + 1 := by
 unfold rstL; rw [List.length_cons, List.length_map]
 have := List.length_filter_le (fun m => decide (m ≠ i ∧ m ≠ j)) (List.range n)
 rw [List.length_range] at this
 omega
theorem rstL_mem {ls : List Lst} {out : List Int} {i j n : Nat} {l : Lst} : l ∈ rstL ls out i j n ↔ l = ⟨kptL ls out i j⟩ ∨ ∃ m, m < n ∧ m ≠ i ∧ m ≠ j ∧ l = lstAt ls m := by
 unfold rstL
 rw [List.mem_cons, List.mem_map]
 constructor
 ·
  rintro (h | ⟨m, h, rfl⟩)
  ·
   exact .inl h
  ·
   rw [List.mem_filter, List.mem_range, decide_eq_true_eq] at h
   exact .inr ⟨m, h.1, h.2.1, h.2.2, rfl⟩
 ·
  rintro (h | ⟨m, h1, h2, h3, rfl⟩)
  ·
   exact .inl h
  ·
   refine .inr ⟨m, ?_, rfl⟩
   rw [List.mem_filter, List.mem_range, decide_eq_true_eq]
   exact ⟨h1, h2, h3⟩
theorem lstAt_mem {rs : List Lst} {i : Nat} (h : i < rs.length) : lstAt rs i ∈ rs := by rw [lstAt_get h]; exact List.getElem_mem h
theorem mem_lstAt {rs : List Lst} {l : Lst} (h : l ∈ rs) : ∃ i, i < rs.length ∧ lstAt rs i = l := by
 obtain ⟨i, hi, e⟩ := List.getElem_of_mem h
 exact ⟨i, hi, by rw [lstAt_get hi]; exact e⟩
theorem othL_mem {ls : List Lst} {i j n : Nat} {x : Int} : x ∈ othL ls i j n ↔ ∃ m, m < n ∧ m ≠ i ∧ m ≠ j ∧ x ∈ (lstAt ls m).s := by
 unfold othL
 rw [List.mem_flatMap]
 constructor
 ·
  rintro ⟨m, hm, hx⟩
  by_cases hc : m = i ∨ m = j
  ·
   rw [if_pos hc] at hx; cases hx
  ·
   rw [if_neg hc] at hx
   exact ⟨m, List.mem_range.1 hm, fun h => hc (.inl h), fun h => hc (.inr h), hx⟩
 ·
  rintro ⟨m, hm, h1, h2, hx⟩
  refine ⟨m, List.mem_range.2 hm, ?_⟩
  rw [if_neg (by rintro (h | h); exact h1 h; exact h2 h)]
  exact hx
theorem kptL_labs (ls : List Lst) (out : List Int) (i j : Nat) : labB (kptL ls out i j) = true := by
 rw [List.all_eq_true]
 intro x hx
 obtain ⟨k, hk, hp, rfl⟩ := lab5_mem.1 hx
 unfold inB
 simp
 omega
theorem rstL_labs {ls : List Lst} {out : List Int} {i j : Nat} (hb : labsB ls) : labsB (rstL ls out i j ls.length) := by
 intro m hm
 have h := lstAt_mem hm
 rcases rstL_mem.1 h with h | ⟨q, h1, -, -, h4⟩
 ·
  rw [h]; exact ⟨kptL_labs _ _ _ _, by have := kptL_len ls out i j; show (kptL ls out i j).length ≤ _; omega⟩
 ·
  rw [h4]; exact hb q h1
theorem rst_lab {ls : List Lst} {out : List Int} {i j : Nat} (hb : labsB ls) : alL (rstL ls out i j ls.length) = labN (resP ls out i j) 5 := by
 refine lab5_of (alL_spec _).1 fun x => ?_
 rw [(alL_spec _).2 x]
 unfold resP
 constructor
 ·
  rintro ⟨m, hm, hx⟩
  have hx4 := labB_mem (rstL_labs (out := out) (i := i) (j := j) hb m hm).1 hx
  have e : ((x.toNat : Nat) : Int) = x := by omega
  refine ⟨x.toNat, by omega, ?_, e.symm⟩
  rw [e, Bool.or_eq_true, hasB_mem, hasB_mem]
  rcases rstL_mem.1 (lstAt_mem hm) with h | ⟨q, h1, h2, h3, h4⟩
  ·
   rw [h] at hx; exact .inr hx
  ·
   rw [h4] at hx; exact .inl (othL_mem.2 ⟨q, h1, h2, h3, hx⟩)
 ·
  rintro ⟨k, hk, h, rfl⟩
  rw [Bool.or_eq_true, hasB_mem, hasB_mem] at h
  rcases h with h | h
  ·
   obtain ⟨q, h1, h2, h3, h4⟩ := othL_mem.1 h
   obtain ⟨m, hm, e⟩ := mem_lstAt (rstL_mem.2 (.inr ⟨q, h1, h2, h3, rfl⟩) : lstAt ls q ∈ rstL ls out i j ls.length)
   exact ⟨m, hm, by rw [e]; exact h4⟩
  ·
   obtain ⟨m, hm, e⟩ := mem_lstAt (rstL_mem.2 (.inl rfl) : (⟨kptL ls out i j⟩ : Lst) ∈ rstL ls out i j ls.length)
   exact ⟨m, hm, by rw [e]; exact h⟩
section
variable {ts : List Ten} {ls : List Lst} {x out : List Int} {i j : Nat}
theorem twoP_used (h : extA ts ls = some x) (hi : i < ls.length) (hj : j < ls.length) (k : Nat) (hk : k < 5) (hp : twoP ls i j k = true) : 0 ≤ x.getD k 0 := by
 obtain ⟨h5, h1, h2, h3, h4, h6⟩ := extA_fact h
 rw [(h6 k hk).1]
 unfold twoP at hp
 rw [Bool.or_eq_true, hasB_mem, hasB_mem] at hp
 rcases hp with hp | hp
 ·
  exact ⟨i, hi, hp⟩
 ·
  exact ⟨j, hj, hp⟩
theorem resP_used (h : extA ts ls = some x) (hi : i < ls.length) (hj : j < ls.length) (k : Nat) (hk : k < 5) (hp : resP ls out i j k = true) : 0 ≤ x.getD k 0 := by
 obtain ⟨h5, h1, h2, h3, h4, h6⟩ := extA_fact h
 unfold resP at hp
 rw [Bool.or_eq_true, hasB_mem, hasB_mem] at hp
 rcases hp with hp | hp
 ·
  rw [(h6 k hk).1]
  obtain ⟨m, hm, -, -, hx⟩ := othL_mem.1 hp
  exact ⟨m, hm, hx⟩
 ·
  obtain ⟨q, hq, hkp, e⟩ := lab5_mem.1 hp
  have e' : k = q := by omega
  subst e'
  unfold kptP at hkp
  rw [Bool.and_eq_true] at hkp
  exact twoP_used h hi hj k hk hkp.1
/-- what the program reckons is what the law reckons -/
theorem cost_two (h : extA ts ls = some x) (hb : labsB ls) (hi : i < ls.length) (hj : j < ls.length) : costL x (twoL ls i j) = spK (mskL x (twoP ls i j) 5) 5 := by
 rw [twoL_lab hb hi hj, msk_cost (m := 5) (fun k hk hp => twoP_used h hi hj k hk hp) 5 (Nat.le_refl _)]
theorem cost_rst (h : extA ts ls = some x) (hb : labsB ls) (hi : i < ls.length) (hj : j < ls.length) : costL x (alL (rstL ls out i j ls.length)) = spK (mskL x (resP ls out i j) 5) 5 := by
 rw [rst_lab hb, msk_cost (m := 5) (fun k hk hp => resP_used h hi hj k hk hp) 5 (Nat.le_refl _)]
theorem two_ext (h : extA ts ls = some x) (hb : labsB ls) (hi : i < ls.length) (hj : j < ls.length) : ∀ y ∈ twoL ls i j, 0 ≤ y ∧ y < x.length ∧ (0 ≤ x.getD y.toNat 0 ∧ x.getD y.toNat 0 ≤ 60) := by
 obtain ⟨h5, h1, h2, h3, h4, h6⟩ := extA_fact h
 rw [twoL_lab hb hi hj]
 intro y hy
 obtain ⟨k, hk, hp, rfl⟩ := lab5_mem.1 hy
 rw [Int.toNat_natCast]
 exact ⟨by omega, by omega, twoP_used h hi hj k hk hp, (h6 k hk).2.1⟩
theorem rst_ext (h : extA ts ls = some x) (hb : labsB ls) (hi : i < ls.length) (hj : j < ls.length) : ∀ y ∈ alL (rstL ls out i j ls.length), 0 ≤ y ∧ y < x.length ∧ (0 ≤ x.getD y.toNat 0 ∧ x.getD y.toNat 0 ≤ 60) := by
 obtain ⟨h5, h1, h2, h3, h4, h6⟩ := extA_fact h
 rw [rst_lab hb]
 intro y hy
 obtain ⟨k, hk, hp, rfl⟩ := lab5_mem.1 hy
 rw [Int.toNat_natCast]
 exact ⟨by omega, by omega, resP_used h hi hj k hk hp, (h6 k hk).2.1⟩
theorem two_le (hb : labsB ls) (hi : i < ls.length) (hj : j < ls.length) : (twoL ls i j).length ≤ 5 := by rw [twoL_lab hb hi hj]; exact labN_le _ _
theorem rst_le (hb : labsB ls) : (alL (rstL ls out i j ls.length)).length ≤ 5 := by rw [rst_lab hb]; exact labN_le _ _
theorem msk_60 (h : extA ts ls = some x) (p : Nat → Bool) (k : Nat) (hk : k < 5) : (mskL x p 5).getD k 0 ≤ 60 := by
 obtain ⟨h5, h1, h2, h3, h4, h6⟩ := extA_fact h
 rw [mskL_at hk]
 split
 ·
  exact (h6 k hk).2.1
 ·
  omega
theorem msk_bd (h : extA ts ls = some x) (p : Nat → Bool) : 0 ≤ spK (mskL x p 5) 5 ∧ spK (mskL x p 5) 5 ≤ 777600000 := by
 have h1 := spK_bd (x := mskL x p 5) (fun k hk => msk_60 h p k hk) 5 (Nat.le_refl _)
 have h2 := pow60 5 (Nat.le_refl _)
 omega
theorem twoP_symm : twoP ls i j = twoP ls j i := by funext k; unfold twoP; rw [Bool.or_comm]
theorem othL_symmC (ls : List Lst) (i j n : Nat) : othL ls i j n = othL ls j i n := by
 unfold othL
 have : (fun m => if m = i ∨ m = j then [] else (lstAt ls m).s) = (fun m => if m = j ∨ m = i then [] else (lstAt ls m).s) := by
  funext m
  by_cases h : m = i ∨ m = j
  ·
   rw [if_pos h, if_pos h.symm]
  ·
   rw [if_neg h, if_neg fun h2 => h h2.symm]
 rw [this]
theorem kptL_symmC (ls : List Lst) (out : List Int) (i j : Nat) : kptL ls out i j = kptL ls out j i := by
 unfold kptL
 have : kptP ls out i j = kptP ls out j i := by
  funext k
  unfold kptP needB needL
  rw [Bool.or_comm, othL_symmC]
 rw [this]
theorem costB_symm (x : List Int) (ls : List Lst) (out : List Int) (i j : Nat) : costB x ls out i j = costB x ls out j i := by
 have : resP ls out i j = resP ls out j i := by funext k; unfold resP; rw [othL_symmC, kptL_symmC]
 unfold costB
 rw [twoP_symm, this]
theorem cbyA_symm (ts : List Ten) (ls : List Lst) (out : List Int) (i j : Int) : cbyA ts ls out i j = cbyA ts ls out j i := by
 unfold cbyA
 cases extA ts ls with
 | none => rfl
 | some x =>
  dsimp only
  by_cases h : labB out = true ∧ (0 ≤ i ∧ i < ts.length ∧ 0 ≤ j ∧ j < ts.length ∧ ¬ i = j)
  ·
   obtain ⟨h0, h1, h2, h3, h4, h5⟩ := h
   rw [if_pos ⟨h0, h1, h2, h3, h4, h5⟩, if_pos ⟨h0, h3, h4, h1, h2, fun e => h5 e.symm⟩, costB_symm]
  ·
   rw [if_neg h, if_neg]
   rintro ⟨h0, h1, h2, h3, h4, h5⟩
   exact h ⟨h0, h3, h4, h1, h2, fun e => h5 e.symm⟩
end
/-- a list with one number put -/
theorem getD_setC {y : List Int} {q k : Nat} {v : Int} (hq : q < y.length) : (y.set q v).getD k 0 = if k = q then v else y.getD k 0 := by
 by_cases h : k = q
 ·
  subst h; rw [if_pos rfl, List.getD_eq_getElem?_getD, List.getElem?_set_self hq]; rfl
 ·
  rw [if_neg h, List.getD_eq_getElem?_getD, List.getElem?_set_ne (fun e => h e.symm), ← List.getD_eq_getElem?_getD]
/-- extents that are known stay -/
theorem extIn_val {e s l x : List Int} {d : Nat} (he : e.length = 5) (hl : labB l = true) (hs : ∀ y ∈ s, 0 ≤ y) (hd : d ≤ l.length) (hd2 : d ≤ s.length) (h : extIn e s l d = some x) :
  (∀ k, k < 5 → 0 ≤ e.getD k 0 → x.getD k 0 = e.getD k 0) ∧ ∀ c, c < d → x.getD (l.getD c 0).toNat 0 = s.getD c 0 := by
 induction d generalizing x with
 | zero => unfold extIn at h; cases h; exact ⟨fun _ _ _ => rfl, fun c hc => absurd hc (by omega)⟩
 | succ d ih =>
  unfold extIn at h
  cases hp : extIn e s l d with
  | none => rw [hp] at h; cases h
  | some y =>
   rw [hp] at h
   simp only [Option.bind_some] at h
   have hy := extIn_len hp
   obtain ⟨i1, i2⟩ := ih (by omega) (by omega) hp
   split at h
   ·
    cases h
   ·
    rename_i hn
    cases h
    have hq := labB_mem hl (getD_mem (s := l) (d := d) (by omega))
    have hqk : (l.getD d 0).toNat < y.length := by omega
    refine ⟨fun k hk h0 => ?_, fun c hc => ?_⟩
    ·
     rw [getD_setC hqk]
     have := i1 k hk h0
     split
     ·
      rename_i hkq
      rw [← hkq] at hn
      by_cases h2 : y.getD k 0 = s.getD d 0
      ·
       omega
      ·
       exact absurd ⟨by omega, h2⟩ hn
     ·
      exact this
    ·
     rw [getD_setC hqk]
     by_cases hcd : c = d
     ·
      subst hcd; rw [if_pos rfl]
     ·
      have h7 := i2 c (by omega)
      split
      ·
       rename_i hcq
       rw [hcq] at h7
       have h8 := hs _ (getD_mem (s := s) (d := c) (by omega))
       by_cases h2 : y.getD (l.getD d 0).toNat 0 = s.getD d 0
       ·
        omega
       ·
        exact absurd ⟨by omega, h2⟩ hn
      ·
       exact h7
/-- extents that go together are all put -/
theorem extIn_put {e s l x : List Int} (he : e.length = 5) (hl : labB l = true) (hv : ∀ c, c < l.length → x.getD (l.getD c 0).toNat 0 = s.getD c 0) (hk : ∀ k, k < 5 → e.getD k 0 < 0 ∨ e.getD k 0 = x.getD k 0) (d : Nat) (hd : d ≤ l.length) :
  ∃ y, extIn e s l d = some y ∧ y.length = 5 ∧ ∀ k, k < 5 → y.getD k 0 = if ∃ c, c < d ∧ l.getD c 0 = (k : Int) then x.getD k 0 else e.getD k 0 := by
 induction d with
 | zero => exact ⟨e, rfl, he, fun k _ => by rw [if_neg]; rintro ⟨c, hc, _⟩; omega⟩
 | succ d ih =>
  obtain ⟨y, hy, hlen, hval⟩ := ih (by omega)
  have hq := labB_mem hl (getD_mem (s := l) (d := d) (by omega))
  have hq5 : (l.getD d 0).toNat < 5 := by omega
  have hvd := hv d (by omega)
  have hyq : ¬ (0 ≤ y.getD (l.getD d 0).toNat 0 ∧ y.getD (l.getD d 0).toNat 0 ≠ s.getD d 0) := by
   rintro ⟨h1, h2⟩
   have h3 := hval _ hq5
   have h4 := hk _ hq5
   split at h3 <;> omega
  refine ⟨_, extIn_some hy hyq, by rw [List.length_set]; exact hlen, fun k hk5 => ?_⟩
  rw [getD_setC (by omega)]
  by_cases hkq : k = (l.getD d 0).toNat
  ·
   rw [if_pos hkq, if_pos ⟨d, by omega, by omega⟩, hkq]; exact hvd.symm
  ·
   rw [if_neg hkq, hval k hk5]
   by_cases hc : ∃ c, c < d ∧ l.getD c 0 = (k : Int)
   ·
    obtain ⟨c, h1, h2⟩ := hc
    rw [if_pos ⟨c, h1, h2⟩, if_pos ⟨c, by omega, h2⟩]
   ·
    rw [if_neg hc, if_neg]
    rintro ⟨c, h1, h2⟩
    by_cases hcd : c = d
    ·
     subst hcd; omega
    ·
     exact hc ⟨c, by omega, h2⟩
theorem tenB_nn {s t : List Int} (h : tenB s t = true) : ∀ y ∈ s, 0 ≤ y := by
 obtain ⟨h1, -, -⟩ := tenB_in h
 exact fun y hy => ((shapeB_in h1).2.1 y hy).1
theorem list_extD {a b : List Int} (h : a.length = b.length) (hv : ∀ k, k < a.length → a.getD k 0 = b.getD k 0) : a = b := by
 refine List.ext_getElem h fun k h1 h2 => ?_
 have := hv k h1
 simpa [h1, h2] using this
/-- the extents of all tensors' dimensions are told by the labels' extents -/
theorem extT_val {ts : List Ten} {ls : List Lst} {n : Nat} {x : List Int} (hv : tnB ts n = true) (h : extT ts ls n = some x) (i : Nat) (hi : i < n) :
  rowOk (tenAt ts i).s (lstAt ls i).s = true ∧ ∀ c, c < (lstAt ls i).s.length → x.getD ((lstAt ls i).s.getD c 0).toNat 0 = (tenAt ts i).s.getD c 0 := by
 induction n generalizing x with
 | zero => omega
 | succ n ih =>
  rw [tnB_succ, Bool.and_eq_true] at hv
  unfold extT at h
  cases hp : extT ts ls n with
  | none => rw [hp] at h; cases h
  | some y =>
   rw [hp] at h
   simp only [Option.bind_some] at h
   split at h
   ·
    rename_i hr
    have hr' := hr
    unfold rowOk at hr'
    rw [Bool.and_eq_true, decide_eq_true_eq] at hr'
    have hsn := tenB_nn hv.2
    obtain ⟨v1, v2⟩ := extIn_val (extT_len hp) hr'.2 hsn (Nat.le_refl _) (by omega) h
    by_cases hin : i = n
    ·
     subst hin; exact ⟨hr, v2⟩
    ·
     obtain ⟨j1, j2⟩ := ih hv.1 hp (by omega)
     refine ⟨j1, fun c hc => ?_⟩
     have j3 := j2 c hc
     have j4 := j1
     unfold rowOk at j4
     rw [Bool.and_eq_true, decide_eq_true_eq] at j4
     have hq := labB_mem j4.2 (getD_mem (s := (lstAt ls i).s) (d := c) hc)
     have h8 := tenB_nn (tnB_at hv.1 i (by omega)) _ (getD_mem (s := (tenAt ts i).s) (d := c) (by omega))
     rw [v1 _ (by omega) (by omega)]
     exact j3
   ·
    cases h
theorem lab_c {l : List Int} {k : Nat} : (∃ c, c < l.length ∧ l.getD c 0 = (k : Int)) ↔ (k : Int) ∈ l := mem_getD.symm
/-- CostOf two of the tensors is the first part of CostBy -/
theorem cst_two {ts : List Ten} {ls : List Lst} {x : List Int} {i j : Nat} (h : extA ts ls = some x) (hi : i < ts.length) (hj : j < ts.length) :
  cstA [tenAt ts i, tenAt ts j] [⟨(lstAt ls i).s⟩, ⟨(lstAt ls j).s⟩] = spK (mskL x (twoP ls i j) 5) 5 := by
 obtain ⟨hv, ht⟩ := extA_in h
 obtain ⟨g1, g2, g3, g4⟩ := tensB_in hv
 obtain ⟨h5, -, -, -, h4, h6⟩ := extA_fact h
 obtain ⟨ri, vi⟩ := extT_val g1 ht i hi
 obtain ⟨rj, vj⟩ := extT_val g1 ht j hj
 have li := ri
 have lj := rj
 unfold rowOk at li lj
 rw [Bool.and_eq_true] at li lj
 have k0 : ∀ k, k < 5 → (List.replicate 5 (-1 : Int)).getD k 0 = -1 := fun k hk => by
  match k, hk with
  | 0, _ => rfl
  | 1, _ => rfl
  | 2, _ => rfl
  | 3, _ => rfl
  | 4, _ => rfl
  | n + 5, h => exact absurd h (by omega)
 obtain ⟨y1, e1, n1, p1⟩ := extIn_put (e := List.replicate 5 (-1)) (s := (tenAt ts i).s) (by simp) li.2 vi (fun k hk => .inl (by rw [k0 k hk]; decide)) (lstAt ls i).s.length (Nat.le_refl _)
 obtain ⟨y2, e2, n2, p2⟩ := extIn_put (e := y1) (s := (tenAt ts j).s) n1 lj.2 vj (fun k hk => by
  have := p1 k hk
  rw [k0 k hk] at this
  split at this
  ·
   exact .inr this
  ·
   exact .inl (by omega)) (lstAt ls j).s.length (Nat.le_refl _)
 have s1 : extT [tenAt ts i, tenAt ts j] [⟨(lstAt ls i).s⟩, ⟨(lstAt ls j).s⟩] 1 = some y1 := extT_some (k := 0) rfl ri e1
 have s2 : extT [tenAt ts i, tenAt ts j] [⟨(lstAt ls i).s⟩, ⟨(lstAt ls j).s⟩] 2 = some y2 := extT_some (k := 1) s1 rj e2
 have hB : tensB [tenAt ts i, tenAt ts j] [⟨(lstAt ls i).s⟩, ⟨(lstAt ls j).s⟩] = true := by
  have t1 := tnB_at g1 i hi
  have t2 := tnB_at g1 j hj
  have t3 : tnB [tenAt ts i, tenAt ts j] 2 = true := by
   rw [tnB_succ, tnB_succ]
   show ((tnB _ 0 && tenB (tenAt ts i).s (tenAt ts i).t) && tenB (tenAt ts j).s (tenAt ts j).t) = true
   rw [t1, t2]; rfl
  unfold tensB
  show (tnB _ 2 && _) = true
  rw [t3]; rfl
 have hA := extA_some hB s2
 rw [cstA_some hA]
 have hy : y2 = mskL x (twoP ls i j) 5 := by
  refine list_extD (by rw [n2, mskL_len]) fun k hk => ?_
  have hk5 : k < 5 := by omega
  rw [p2 k hk5, p1 k hk5, mskL_at hk5, k0 k hk5]
  simp only [lab_c]
  unfold twoP
  by_cases m2 : (k : Int) ∈ (lstAt ls j).s
  ·
   rw [if_pos m2, if_pos (by rw [Bool.or_eq_true, hasB_mem, hasB_mem]; exact .inr m2)]
  ·
   rw [if_neg m2]
   by_cases m1 : (k : Int) ∈ (lstAt ls i).s
   ·
    rw [if_pos m1, if_pos (by rw [Bool.or_eq_true, hasB_mem, hasB_mem]; exact .inl m1)]
   ·
    rw [if_neg m1, if_neg (by rw [Bool.or_eq_true, hasB_mem, hasB_mem]; rintro (h | h); exact m1 h; exact m2 h)]
 rw [hy]
end Go.Proofs.Ytpgkhjmboiepcaa

/- Walks: the labels that are kept (the program). No condition. -/
namespace Go.Proofs.Ytpgkhjmboiepcaa
open Go.RowKit
set_option linter.unusedVariables false
set_option maxRecDepth 100000

/-- a literal of two rows -/
theorem Lsts.lit2 {w : World} {l1 l2 : Nat} {u v : Value} {a b : List Int} (h1 : Ints w l1 u a) (h2 : Ints w l2 v b) :
    Lsts (w.alloc (.cells #[u, v] 23)) 0 (.slice (some ⟨w.heap.size, 0, none⟩) 2 2) [⟨a⟩, ⟨b⟩] := by
  have hO : OwnC (w.alloc (.cells #[u, v] 23)) 0 23 1 (.slice (some ⟨w.heap.size, 0, none⟩) 2 2) [[u], [v]] :=
    OwnC.made w #[u, v] 0 (Nat.zero_le _) (by unfold maxLen; simp) rfl (fun c hc => by
      simp only [List.mem_cons, List.not_mem_nil, or_false] at hc
      rcases hc with rfl | rfl <;> rfl)
  have k1 := h1.ext (show Ext w (w.alloc (.cells #[u, v] 23)) from qXt)
  have k2 := h2.ext (show Ext w (w.alloc (.cells #[u, v] 23)) from qXt)
  refine Lsts.ofRow (rs := [⟨a⟩, ⟨b⟩]) (R := fun p => if p = 0 then u else v) (lo2 := 0) hO (fun i hi => ?_) (by simp) 0 (Nat.le_refl _) (Nat.le_refl _)
  match i, hi with
  | 0, _ => exact k1.lower (Nat.zero_le _)
  | 1, _ => exact k2.lower (Nat.zero_le _)
  | n + 2, hi => exact absurd hi (by simp)

/-- the row that is kept as it grows: the literal at g8, or a row of its own -/
def KeptV (w : World) (B g8 : Nat) (v : Value) (xs : List Int) : Prop := (xs = [] ∧ v = .slice (some ⟨g8, 0, none⟩) 0 0) ∨ OwnI w B v xs
theorem KeptV.ext {w w' : World} {B g8 : Nat} {v : Value} {xs : List Int} (h : KeptV w B g8 v xs) (hx : Ext w w') : KeptV w' B g8 v xs := h.imp id fun h => h.ext hx
theorem KeptV.done {w0 w : World} {B g8 : Nat} {v : Value} {xs ys : List Int} (h : KeptV w B g8 v xs) (e : xs = ys) (hB : w0.heap.size ≤ B) (hl : ys.length ≤ 4194304) (hx : Ext w0 w) : PInts w0 ys (.returned v) w := by
  subst e
  rcases h with ⟨rfl, rfl⟩ | h
  · exact ⟨_, rfl, ⟨_, 0, rfl, by simp, by unfold maxLen; simp, ⟨by simp, fun h => by cases h⟩, fun i hi => absurd hi (by simp)⟩, .inl ⟨rfl, _, 0, rfl, by simp, fun h => by cases h⟩, hx⟩
  · exact PInts.mk h hB hl hx
theorem two_c (ls : List Lst) (i j : Nat) (v : Value) (w : World) (lo : Nat) (h : Lsts w lo v [⟨(lstAt ls i).s⟩, ⟨(lstAt ls j).s⟩]) (hb : Hid (labsB [⟨(lstAt ls i).s⟩, ⟨(lstAt ls j).s⟩])) :
    Calls Try.prog 66 #[v] w (PInts w (twoL ls i j)) := allLabels_c _ v w lo h hb (by simp)

set_option maxHeartbeats 6400000 in
theorem keptLabels_c (ls : List Lst) (out : List Int) (lv ov : Value) (i j : Nat) (w : World) (l1 l2 : Nat) (h1 : Lsts w l1 lv ls) (h2 : Ints w l2 ov out) (hi : i < ls.length) (hj : j < ls.length) (hb : Hid (labsB ls)) (h8 : ls.length ≤ 8) (ho : out.length ≤ 2000000) :
    Calls Try.prog 72 #[lv, ov, .int .i64 i, .int .i64 j] w (PInts w (kptL ls out i j)) := by
  obtain ⟨p1, c1, rfl⟩ := h1.form
  obtain ⟨p2, c2, rfl⟩ := h2.form
  have hlo := h2.len
  have h2' := Lib.hid h2
  clear h2
  go_enter Try.func72, Try.ntmps72
  go_wp2_with (at_builtin; refine wpList_app0C rfl (.tmp 15) (.tmp 16) rfl rfl rfl (OwnI.lit0 (w) w.heap.size (by simp)) (by simp) (h2'.out.ext qXt) ?_)
  intro g r w1 O1 x1 hg7 hg8 cz
  clear hg7 hg8 cz
  have X1 : Ext w w1 := Ext.trans qXt x1
  clear x1
  replace O1 := Lib.hid O1
  go_wp2_with fail
  go_loopw [9, 20] (fun gv t wr => ∃ (k : Nat), k ≤ ls.length ∧ t = .int .i64 k ∧ Hid (OwnI wr w.heap.size gv (needL ls out i j k)) ∧ Ext w wr) (fun _ t _ => ls.length - (intOf t).toNat)
  case atStart => exact ⟨0, Nat.zero_le _, rfl, Lib.hid (by rw [needL_zero]; exact O1.out.ext qXt), X1.trans qXt⟩
  case round =>
    clear O1 X1
    obtain ⟨k, hk, rfl, OG, Xr⟩ := hrel
    have hnl := needL_len (out := out) (i := i) (j := j) hb.out k hk
    have hsz := Xr.size
    obtain ⟨ga, gc, rfl⟩ := (OG.out.ints (by omega)).form
    by_cases hlt : k < ls.length
    · have hkI : (k : Int) < ls.length := by omega
      obtain ⟨bl, ol, u, cu, rfl, x0, i0⟩ := (h1.ext Xr).at k hlt
      clear h1
      replace i0 := Lib.hid i0
      by_cases hki : k = i
      · subst hki
        have hn : needL ls out k j (k+1) = needL ls out k j k := needL_skip (.inl rfl)
        replace hn := Lib.hid hn
        go_wp2_with fail
        go_roundw
        case rel => exact ⟨k + 1, by omega, by go_num, Lib.hid (by rw [hn.out]; exact OG.out.ext qXt), Xr.trans qXt⟩
        case measure => simp [intOf]; omega
      · have hc : ¬ (k : Int) = (i : Int) := by omega
        by_cases hkj : k = j
        · subst hkj
          have hn : needL ls out i k (k+1) = needL ls out i k k := needL_skip (.inr rfl)
          replace hn := Lib.hid hn
          go_wp2_with fail
          go_roundw
          case rel => exact ⟨k + 1, by omega, by go_num, Lib.hid (by rw [hn.out]; exact OG.out.ext qXt), Xr.trans qXt⟩
          case measure => simp [intOf]; omega
        · have hd : ¬ (k : Int) = (j : Int) := by omega
          have hn : needL ls out i j (k+1) = needL ls out i j k ++ (lstAt ls k).s := needL_go hki hkj
          have hr6 := (hb.out k hlt).2
          replace hn := Lib.hid hn
          generalize (lstAt ls k).s = S at *
          have EE : Ext wr wr := qXt
          have hx1 : ((k : Int) != (i : Int)) = true := bne_iff_ne.mpr hc
          have hx2 : ((k : Int) != (j : Int)) = true := bne_iff_ne.mpr hd
          go_wp2_with (
            at_builtin
            refine wpList_app rfl (.tmp 33) (.tmp 34) rfl rfl rfl (OG.out.ext qXt) (i0.out.ext qXt) (by omega) qSo ?_
            intro v2 w2 O2 hg7 hbl hv7
            clear hg7 hv7
            have X2 : Ext w w2 := Ext.below (Ext.trans Xr qXt) hbl (by omega)
            obtain ⟨ga2, gc2, rfl⟩ : ∃ a c, v2 = .slice a ((needL ls out i j k).length + S.length) c := by obtain ⟨a, c, h⟩ := (O2.ints (by rw [List.length_append]; omega)).form; exact ⟨a, c, by rw [h, List.length_append]⟩
            replace O2 := Lib.hid O2
            clear hbl EE x0 i0)
          go_wp2_with fail
          go_roundw
          case rel => exact ⟨k + 1, by omega, by go_num, Lib.hid (by rw [hn.out]; exact O2.out.ext qXt), X2.trans qXt⟩
          case measure => simp [intOf]; omega
    · obtain rfl : k = ls.length := by omega
      have hni : Ints wr 0 (.slice ga (needL ls out i j ls.length).length gc) (needL ls out i j ls.length) := (OG.out.ints (by omega)).lower (Nat.zero_le _)
      replace hni := Lib.hid hni
      clear OG
      go_wp2_with fail
      have hlaw := kept_law (out := out) hb.out hi hj
      have htl := twoL_len hb.out hi hj
      have htb := two_labs hb.out hi hj
      replace htb := Lib.hid htb
      replace hlaw := Lib.hid hlaw
      have XW : Ext w (wr.alloc (.cells #[] 3)) := qXt
      replace hni := Lib.hid (hni.out.ext (show Ext wr (wr.alloc (.cells #[] 3)) from qXt))
      obtain ⟨b1, q1, u1, d1, e1, y1, k1⟩ := (h1.ext XW).at i hi
      obtain ⟨b2, q2, u2, d2, e2, y2, k2⟩ := (h1.ext XW).at j hj
      subst e1
      cases e2
      generalize hWW : wr.alloc (.cells #[] 3) = W at *
      clear hWW
      generalize wr.heap.size = g8 at *
      clear h1
      replace k1 := Lib.hid k1
      replace k2 := Lib.hid k2
      clear hnl hsz Xr
      go_region_with (first
        | (go_at_call 66; refine (two_c ls i j _ _ 0 ?_ htb).mono ?_; exact (Lsts.lit2 k1.out k2.out).ext (Ext.drew (Ext.refl _)); rintro e w3 ⟨tv, rfl, i3, -, x3⟩; have X3 : Ext W w3 := Ext.trans qXt x3; obtain ⟨a3, c3, rfl⟩ := i3.form; replace i3 := i3.lower (Nat.zero_le _)))
      all_goals (
        try simp only [Act.put, qa, qb, qc, qD, qE, qF]
        replace i3 := Lib.hid i3
        replace hni := Lib.hid (hni.out.ext X3)
        replace x3 := Lib.hid x3
        have hsz3 := (XW.trans X3).size
        clear k1 k2 y1 y2
        go_wp2_with fail
        go_loopw [12, 49] (fun kv t wr => ∃ (k : Nat), k ≤ (twoL ls i j).length ∧ t = .int .i64 k ∧ Hid (KeptV wr w3.heap.size g8 kv (keptF ls out i j k)) ∧ Ext w3 wr) (fun _ t _ => (twoL ls i j).length - (intOf t).toNat)
        case atStart => exact ⟨0, Nat.zero_le _, rfl, Lib.hid (.inl ⟨rfl, rfl⟩), qXt⟩
        case round =>
          obtain ⟨k, hk, rfl, OG, Xr⟩ := hrel
          have hfl := keptF_len ls out i j k
          have hszr := Xr.size
          by_cases hlt : k < (twoL ls i j).length
          · have hkI : (k : Int) < (twoL ls i j).length := by omega
            obtain ⟨bl, ol, rfl, e0⟩ := (i3.out.ext Xr).at k hlt
            obtain ⟨x, hx⟩ : ∃ v, (twoL ls i j).getD k 0 = v := ⟨_, rfl⟩
            rw [hx] at e0
            replace hx := Lib.hid hx
            clear i3
            go_wp2_with fail
            refine (contains_c _ _ x _ _ (hni.out.ext (Xr.trans qXt))).mono ?_
            rintro e w4 ⟨rfl, rfl⟩
            by_cases hq : hasB (needL ls out i j ls.length) x = true
            · have hn := keptF_go hlt hx.out hq
              replace hn := Lib.hid hn
              have hkv := OG.out
              rcases hkv with ⟨he, rfl⟩ | ho1
              · replace he := Lib.hid he
                go_wp2_with (at_builtin; refine wpList_app0 rfl (.tmp 56) (.tmp 58) ⟨g8, 0, none⟩ rfl rfl rfl (by exact Ints.one _ 0 x (Nat.zero_le _)) ?_)
                intro v5 w5 O5 x5 hd5
                clear hd5
                have X5 : Ext w3 w5 := Xr.trans (Ext.trans qXt x5)
                have O5' : OwnI w5 w3.heap.size v5 (keptF ls out i j (k+1)) := by
                  rw [hn.out, he.out, List.nil_append]
                  exact (O5.ofNe (List.cons_ne_nil _ _)).lower (by first | omega | exact Nat.le_trans hszr (Ext.size (show Ext wr _ from qXt)) | (simp; omega))
                replace O5' := Lib.hid O5'
                obtain ⟨a5, n5, c5, rfl⟩ := O5'.out.any
                clear O5 x5
                go_wp2_with fail
                go_roundw
                case rel => exact ⟨k + 1, by omega, by go_num, Lib.hid (.inr (O5'.out.ext qXt)), X5.trans qXt⟩
                case measure => simp [intOf]; omega
              · obtain ⟨ga5, gn5, gc5, rfl⟩ := ho1.any
                replace ho1 := Lib.hid ho1
                clear OG
                go_wp2_with (
                  at_builtin
                  refine wpList_app rfl (.tmp 56) (.tmp 58) rfl rfl rfl (ho1.out.ext qXt) (by exact Ints.one _ 0 x (Nat.zero_le _)) (by simp only [List.length_cons, List.length_nil]; omega) qSo ?_
                  intro v5 w5 O5 hg7 hbl hv7
                  clear hg7 hv7
                  have X5 : Ext w3 w5 := Ext.below (Ext.trans Xr qXt) hbl (Nat.le_refl _)
                  obtain ⟨a5, n5, c5, rfl⟩ := O5.any
                  replace O5 := Lib.hid O5
                  clear hbl)
                go_wp2_with fail
                go_roundw
                case rel => exact ⟨k + 1, by omega, by go_num, Lib.hid (.inr (by rw [hn.out]; exact O5.out.ext qXt)), X5.trans qXt⟩
                case measure => simp [intOf]; omega
            · have hq2 : hasB (needL ls out i j ls.length) x = false := by simpa using hq
              have hn := keptF_skip hlt hx.out hq2
              replace hn := Lib.hid hn
              clear hq
              go_wp2_with fail
              go_roundw
              case rel => exact ⟨k + 1, by omega, by go_num, Lib.hid (by rw [hn.out]; exact OG.out.ext qXt), Xr.trans qXt⟩
              case measure => simp [intOf]; omega
          · obtain rfl : k = (twoL ls i j).length := by omega
            have X9 : Ext w wr := (XW.trans X3).trans Xr
            go_wp2_with fail
            go_ret
            exact KeptV.done OG.out hlaw.out hsz3 (by have := kptL_len ls out i j; omega) X9)
end Go.Proofs.Ytpgkhjmboiepcaa

/- Walks: costBy of the program. No condition. -/
namespace Go.Proofs.Ytpgkhjmboiepcaa
open Go.RowKit
set_option linter.unusedVariables false
set_option maxRecDepth 100000

/-- a row of lists that is there has a block -/
theorem OwnC.formL {w : World} {B : Nat} {v : Value} {rs : List Lst} {R : Nat → Value} (h : OwnC w B 23 1 v (rowCL rs R)) (hn : rs ≠ []) : ∃ g c, v = .slice (some ⟨g, 0, none⟩) rs.length c := by
  obtain ⟨g, c, e, -⟩ := h.lt (by intro h0; have := rowCL_len rs R; rw [h0] at this; exact hn (List.eq_nil_of_length_eq_zero this.symm))
  rw [rowCL_len] at e
  exact ⟨g, c, e⟩
theorem rows_snoc {w : World} {rs : List Lst} {R : Nat → Value} {x : Lst} {u : Value} (h : ∀ p, p < rs.length → Ints w 0 (R p) (lstAt rs p).s) (hu : Ints w 0 u x.s) : ∀ p, p < (rs ++ [x]).length → Ints w 0 ((fun p => if p = rs.length then u else R p) p) (lstAt (rs ++ [x]) p).s := by
  intro p hp
  rw [List.length_append] at hp
  by_cases hlt : p < rs.length
  · rw [lstAt_app1 hlt]; dsimp only; rw [if_neg (by omega)]; exact h p hlt
  · obtain rfl : p = rs.length := by simp at hp; omega
    rw [lstAt_app2]; dsimp only; rw [if_pos rfl]; exact hu
theorem lit2_drew {w w' : World} {l1 l2 : Nat} {u v : Value} {a b : List Int} (x : Ext (w.alloc (.cells #[u, v] 23)).drew w') (h1 : Ints w l1 u a) (h2 : Ints w l2 v b) : Lsts w' 0 (.slice (some ⟨w.heap.size, 0, none⟩) 2 2) [⟨a⟩, ⟨b⟩] := (Lsts.lit2 h1 h2).ext (Ext.trans (Ext.drew (Ext.refl _)) x)
theorem lit2_ext {w w' : World} {l1 l2 : Nat} {u v : Value} {a b : List Int} (x : Ext (w.alloc (.cells #[u, v] 23)) w') (h1 : Ints w l1 u a) (h2 : Ints w l2 v b) : Lsts w' 0 (.slice (some ⟨w.heap.size, 0, none⟩) 2 2) [⟨a⟩, ⟨b⟩] := (Lsts.lit2 h1 h2).ext x
theorem rstL_ne (ls : List Lst) (out : List Int) (i j n : Nat) : rstL ls out i j n ≠ [] := by unfold rstL; exact List.cons_ne_nil _ _
set_option maxHeartbeats 12800000 in
theorem implCostB_c (ts : List Ten) (x out : List Int) (ls : List Lst) (xv lv ov : Value) (i j : Nat) (w : World) (l0 l1 l2 : Nat) (h0 : Ints w l0 xv x) (h1 : Lsts w l1 lv ls) (h2 : Ints w l2 ov out) (hi : i < ls.length) (hj : j < ls.length) (he : Hid (extA ts ls = some x)) (hb : Hid (labsB ls)) (h3 : ls.length ≤ 3) (ho : out.length ≤ 2000000) :
    Calls Try.prog 75 #[xv, lv, ov, .int .i64 i, .int .i64 j] w (fun e w' => e = .returned (.int .i64 (costB x ls out i j)) ∧ Ext w w') := by
  obtain ⟨p0, c0, rfl⟩ := h0.form
  obtain ⟨p1, c1, rfl⟩ := h1.form
  obtain ⟨p2, c2, rfl⟩ := h2.form
  replace h0 := Lib.hid h0
  replace h2 := Lib.hid h2
  go_enter Try.func75, Try.ntmps75
  go_wp2_with fail
  refine (keptLabels_c ls out _ _ i j _ _ _ (h1.ext qXt) (h2.out.ext qXt) hi hj hb (by omega) ho).mono ?_
  rintro e w1 ⟨kv, rfl, iK, -, x1⟩
  have X1 : Ext w w1 := Ext.trans qXt x1
  clear x1
  obtain ⟨pk, ck, rfl⟩ := iK.form
  have hk5 := kptL_len ls out i j
  have OG0 : OwnC (w1.alloc (.cells #[.slice pk (kptL ls out i j).length ck] 23)) w1.heap.size 23 1 (.slice (some ⟨w1.heap.size, 0, none⟩) 1 1) [[.slice pk (kptL ls out i j).length ck]] :=
    OwnC.made w1 #[.slice pk (kptL ls out i j).length ck] 0 (Nat.le_refl _) (by unfold maxLen; simp) rfl (fun c hc => by
      simp only [List.mem_cons, List.not_mem_nil, or_false] at hc
      rcases hc with rfl; rfl)
  have hR0 : ∀ p, p < (rstL ls out i j 0).length → Ints w1 0 ((fun _ => .slice pk (kptL ls out i j).length ck) p) (lstAt (rstL ls out i j 0) p).s := by
    intro p hp
    obtain rfl : p = 0 := by rw [rstL_zero] at hp; simp at hp; omega
    exact iK.lower (Nat.zero_le _)
  replace OG0 := Lib.hid OG0
  replace hR0 := Lib.hid hR0
  clear iK
  go_wp2_with fail
  go_loopw [11, 22] (fun gv t wr => ∃ (k g c : Nat) (R : Nat → Value), k ≤ ls.length ∧ t = .int .i64 k ∧ gv = .slice (some ⟨g, 0, none⟩) (rstL ls out i j k).length c ∧ Hid (OwnC wr w1.heap.size 23 1 (.slice (some ⟨g, 0, none⟩) (rstL ls out i j k).length c) (rowCL (rstL ls out i j k) R)) ∧ Hid (∀ p, p < (rstL ls out i j k).length → Ints w1 0 (R p) (lstAt (rstL ls out i j k) p).s) ∧ Ext w1 wr) (fun _ t _ => ls.length - (intOf t).toNat)
  case atStart => exact ⟨0, w1.heap.size, 1, fun _ => .slice pk (kptL ls out i j).length ck, Nat.zero_le _, rfl, rfl, OG0, hR0, qXt⟩
  case round =>
    clear OG0 hR0
    obtain ⟨k, g, c, R, hk, rfl, rfl, OG, hR, Xr⟩ := hrel
    have hrl := rstL_len ls out i j k
    by_cases hlt : k < ls.length
    · have hkI : (k : Int) < ls.length := by omega
      obtain ⟨bl, ol, u, cu, rfl, x0, i0⟩ := (h1.ext X1).at k hlt
      replace x0 := Xr.cell x0
      replace i0 := Lib.hid i0
      by_cases hki : k = i
      · subst hki
        have hn : rstL ls out k j (k+1) = rstL ls out k j k := rstL_skip (.inl rfl)
        replace hn := Lib.hid hn
        go_wp2_with fail
        go_roundw
        case rel => exact ⟨k + 1, g, c, R, by omega, by go_num, by rw [hn.out], Lib.hid (by rw [hn.out]; exact OG.out.ext qXt), Lib.hid (by rw [hn.out]; exact hR.out), Xr.trans qXt⟩
        case measure => simp [intOf]; omega
      · have hc : ¬ (k : Int) = (i : Int) := by omega
        by_cases hkj : k = j
        · subst hkj
          have hn : rstL ls out i k (k+1) = rstL ls out i k k := rstL_skip (.inr rfl)
          replace hn := Lib.hid hn
          go_wp2_with fail
          go_roundw
          case rel => exact ⟨k + 1, g, c, R, by omega, by go_num, by rw [hn.out], Lib.hid (by rw [hn.out]; exact OG.out.ext qXt), Lib.hid (by rw [hn.out]; exact hR.out), Xr.trans qXt⟩
          case measure => simp [intOf]; omega
        · have hd : ¬ (k : Int) = (j : Int) := by omega
          have hn : rstL ls out i j (k+1) = rstL ls out i j k ++ [lstAt ls k] := rstL_go hki hkj
          replace hn := Lib.hid hn
          have hx1 : ((k : Int) != (i : Int)) = true := bne_iff_ne.mpr hc
          have hx2 : ((k : Int) != (j : Int)) = true := bne_iff_ne.mpr hd
          have hszr := Xr.size
          go_wp2_with (
            at_builtin
            have EE : Ext wr (wr.alloc (.cells #[.slice u (lstAt ls k).s.length cu] 23)) := qXt
            have SS : SrcR (wr.alloc (.cells #[.slice u (lstAt ls k).s.length cu] 23)) 1 (.slice (some ⟨wr.heap.size, 0, none⟩) 1 1) 1 [.slice u (lstAt ls k).s.length cu] := src_one wr _ rfl (by intro u hu; simp only [List.mem_cons, List.not_mem_nil, or_false] at hu; rcases hu with rfl; rfl)
            refine wpList_appC Try.underlying50 infoL rfl (by decide) rfl (.tmp 35) (.tmp 37) rfl rfl rfl (OG.out.ext EE) SS (by rw [rowCL_len]; omega) (by rw [rowCL_len]; omega) (by simp <;> omega) ?_
            intro v5 w5 ho5 hgr hbl hvb
            clear hgr hvb
            have X5 : Ext w1 w5 := Ext.below (Xr.trans EE) hbl (Nat.le_refl _)
            have OG5 : OwnC w5 w1.heap.size 23 1 v5 (rowCL (rstL ls out i j (k+1)) (fun p => if p = (rstL ls out i j k).length then .slice u (lstAt ls k).s.length cu else R p)) := by rw [hn.out, rowCL_snoc]; exact ho5
            obtain ⟨g5, c5, rfl⟩ := OG5.formL (rstL_ne _ _ _ _ _)
            have hR5 : Hid (∀ p, p < (rstL ls out i j (k+1)).length → Ints w1 0 ((fun p => if p = (rstL ls out i j k).length then .slice u (lstAt ls k).s.length cu else R p) p) (lstAt (rstL ls out i j (k+1)) p).s) := Lib.hid (by rw [hn.out]; exact rows_snoc hR.out (i0.out.lower (Nat.zero_le _)))
            replace OG5 := Lib.hid OG5
            clear hbl EE SS ho5 x0)
          go_wp2_with fail
          go_roundw
          case rel => exact ⟨k + 1, g5, c5, _, by omega, by go_num, rfl, Lib.hid (OG5.out.ext qXt), hR5, X5.trans qXt⟩
          case measure => simp [intOf]; omega
    · obtain rfl : k = ls.length := by omega
      have hLs : Lsts wr 0 (.slice (some ⟨g, 0, none⟩) (rstL ls out i j ls.length).length c) (rstL ls out i j ls.length) := Lsts.ofRow (lo2 := 0) OG.out (fun p hp => (hR.out p hp).ext Xr) (by omega) 0 (Nat.zero_le _) (Nat.le_refl _)
      replace hLs := Lib.hid hLs
      have H0 := Lib.hid (((h0.out.ext X1).ext Xr).lower (Nat.zero_le _))
      have htb := Lib.hid (two_labs hb.out hi hj)
      have hrb := Lib.hid (rstL_labs (out := out) (i := i) (j := j) hb.out)
      have hl2 := two_le hb.out hi hj
      have hl3 := rst_le (out := out) (i := i) (j := j) hb.out
      have he2 := Lib.hid (two_ext he.out hb.out hi hj)
      have he3 := Lib.hid (rst_ext (out := out) he.out hb.out hi hj)
      have hc2 := Lib.hid (cost_two he.out hb.out hi hj)
      have hc3 := Lib.hid (cost_rst (out := out) he.out hb.out hi hj)
      have hbd2 := msk_bd he.out (twoP ls i j)
      have hbd3 := msk_bd he.out (resP ls out i j)
      obtain ⟨b1, q1, u1, d1, e1, y1, k1⟩ := ((h1.ext X1).ext Xr).at i hi
      obtain ⟨b2, q2, u2, d2, e2, y2, k2⟩ := ((h1.ext X1).ext Xr).at j hj
      subst e1
      cases e2
      have X9 := X1.trans Xr
      clear h1 OG hR h0 h2 X1 Xr
      replace k1 := Lib.hid k1
      replace k2 := Lib.hid k2
      have XW : Ext wr wr := Ext.refl _
      obtain ⟨A, hA⟩ : ∃ A, spK (mskL x (twoP ls i j) 5) 5 = A := ⟨_, rfl⟩
      obtain ⟨C, hC⟩ : ∃ C, spK (mskL x (resP ls out i j) 5) 5 = C := ⟨_, rfl⟩
      rw [hA] at hc2 hbd2
      rw [hC] at hc3 hbd3
      have hcb : Hid (costB x ls out i j = A + C) := Lib.hid (by unfold costB; rw [hA, hC])
      clear hA hC
      have hw9 : IntKind.i64.wrap (A + C) = A + C := IntWalk.i64_in _ (by omega)
      go_wp2_with fail
      go_region_with (
        first
        | (
          go_at_call 66
          refine (two_c ls i j _ _ 0 (by first | (with_reducible refine Lsts.ext (Lsts.lit2 (Ints.ext k1.out ?_) (Ints.ext k2.out ?_)) (Ext.drew (Ext.refl _)) <;> exact XW.trans qXt) | (with_reducible refine Lsts.lit2 (Ints.ext k1.out ?_) (Ints.ext k2.out ?_) <;> exact XW.trans qXt) | (with_reducible refine Lsts.ext hlit.out ?_; exact qXt)) htb).mono ?_
          rintro e w9 ⟨tv, rfl, i3, -, x9⟩
          obtain ⟨a3, c3, rfl⟩ := i3.form
          replace i3 := Lib.hid (i3.lower (Nat.zero_le _))
          first | clear hlit | skip
          first | (replace i4 := Lib.hid (i4.out.ext (Ext.trans qXt x9))) | skip
          replace XW := XW.trans (Ext.trans qXt x9)
          clear x9
          )
        | (
          go_at_call 66
          refine (allLabels_c (rstL ls out i j ls.length) _ _ 0 (by with_reducible refine Lsts.ext hLs.out ?_; exact XW.trans qXt) hrb (by omega)).mono ?_
          rintro e w9 ⟨tv, rfl, i4, -, x9⟩
          obtain ⟨a4, c4, rfl⟩ := i4.form
          replace i4 := Lib.hid (i4.lower (Nat.zero_le _))
          first | (have hlit := Lib.hid (lit2_drew x9 (k1.out.ext (XW.trans qXt)) (k2.out.ext (XW.trans qXt)))) | (have hlit := Lib.hid (lit2_ext x9 (k1.out.ext (XW.trans qXt)) (k2.out.ext (XW.trans qXt)))) | skip
          first | (replace hlit := Lib.hid (hlit.out.ext (Ext.trans qXt x9))) | skip
          first | (replace i3 := Lib.hid (i3.out.ext (Ext.trans qXt x9))) | skip
          replace XW := XW.trans (Ext.trans qXt x9)
          clear x9
          )
        | (
          go_at_call 65
          refine (costOver_c x (twoL ls i j) _ _ _ 0 0 (H0.out.ext (XW.trans qXt)) (by with_reducible refine Ints.ext i3.out ?_; exact qXt) hl2 he2).mono ?_
          rintro e w9 ⟨rfl, x9⟩
          rw [hc2.out]
          clear i3
          first | (replace hlit := Lib.hid (hlit.out.ext (Ext.trans qXt x9))) | skip
          first | (replace i4 := Lib.hid (i4.out.ext (Ext.trans qXt x9))) | skip
          replace XW := XW.trans (Ext.trans qXt x9)
          clear x9
          )
        | (
          go_at_call 65
          refine (costOver_c x (alL (rstL ls out i j ls.length)) _ _ _ 0 0 (H0.out.ext (XW.trans qXt)) (by with_reducible refine Ints.ext i4.out ?_; exact qXt) hl3 he3).mono ?_
          rintro e w9 ⟨rfl, x9⟩
          rw [hc3.out]
          clear i4
          first | (have hlit := Lib.hid (lit2_drew x9 (k1.out.ext (XW.trans qXt)) (k2.out.ext (XW.trans qXt)))) | (have hlit := Lib.hid (lit2_ext x9 (k1.out.ext (XW.trans qXt)) (k2.out.ext (XW.trans qXt)))) | skip
          first | (replace hlit := Lib.hid (hlit.out.ext (Ext.trans qXt x9))) | skip
          first | (replace i3 := Lib.hid (i3.out.ext (Ext.trans qXt x9))) | skip
          replace XW := XW.trans (Ext.trans qXt x9)
          clear x9
          )
      )
      all_goals (
        try simp only [Act.put, qa, qb, qc, qD, qE, qF]
        go_wp2_with fail
        go_ret
        exact ⟨by rw [hcb.out] <;> first | rfl | (rw [Int.add_comm] <;> rfl), (X9.trans XW).trans qXt⟩)

end Go.Proofs.Ytpgkhjmboiepcaa

/- Walks: KeptLabels of both. No condition. -/
namespace Go.Proofs.Ytpgkhjmboiepcaa
open Go.RowKit
set_option linter.unusedVariables false
set_option maxRecDepth 100000

def prB (n : Nat) (i j : Int) : Bool := decide (0 ≤ i ∧ i < n ∧ 0 ≤ j ∧ j < n ∧ ¬ i = j)
set_option maxHeartbeats 3200000 in
theorem arePair_c (n : Nat) (a : Option Addr) (c : Nat) (i j : Int) (w : World) :
    Calls Try.prog 70 #[.slice a n c, .int .i64 i, .int .i64 j] w (fun e w' => e = .returned (.bool (prB n i j)) ∧ Ext w w') := by
  by_cases h0 : 0 ≤ i
  · skip
    by_cases h1 : i < n
    · skip
      by_cases h2 : 0 ≤ j
      · skip
        by_cases h3 : j < n
        · skip
          by_cases hq : i = j
          · subst hq
            go_enter Try.func70, Try.ntmps70
            go_wp2_with fail
            go_ret
            exact ⟨by rw [show prB n i i = false from by unfold prB; first | exact decide_eq_false (by omega) | exact decide_eq_true (by omega)] <;> rfl, qXt⟩
          · have hx : (i != j) = true := bne_iff_ne.mpr hq
            go_enter Try.func70, Try.ntmps70
            go_wp2_with fail
            go_ret
            exact ⟨by rw [show prB n i j = true from by unfold prB; first | exact decide_eq_false (by omega) | exact decide_eq_true (by omega)] <;> rfl, qXt⟩
        · skip
          go_enter Try.func70, Try.ntmps70
          go_wp2_with fail
          go_ret
          exact ⟨by rw [show prB n i j = false from by unfold prB; first | exact decide_eq_false (by omega) | exact decide_eq_true (by omega)] <;> rfl, qXt⟩
      · skip
        go_enter Try.func70, Try.ntmps70
        go_wp2_with fail
        go_ret
        exact ⟨by rw [show prB n i j = false from by unfold prB; first | exact decide_eq_false (by omega) | exact decide_eq_true (by omega)] <;> rfl, qXt⟩
    · skip
      go_enter Try.func70, Try.ntmps70
      go_wp2_with fail
      go_ret
      exact ⟨by rw [show prB n i j = false from by unfold prB; first | exact decide_eq_false (by omega) | exact decide_eq_true (by omega)] <;> rfl, qXt⟩
  · skip
    go_enter Try.func70, Try.ntmps70
    go_wp2_with fail
    go_ret
    exact ⟨by rw [show prB n i j = false from by unfold prB; first | exact decide_eq_false (by omega) | exact decide_eq_true (by omega)] <;> rfl, qXt⟩

end Go.Proofs.Ytpgkhjmboiepcaa

/- Walks: CostBy of the program. No condition. -/
namespace Go.Proofs.Ytpgkhjmboiepcaa
open Go.RowKit
set_option linter.unusedVariables false
set_option maxRecDepth 100000

set_option maxHeartbeats 3200000 in
theorem implCby_0 (ts : List Ten) (ls : List Lst) (out : List Int) (tv lv ov : Value) (i j : Int) (w : World) (l1 l2 l3 : Nat) (h1 : Tens w l1 tv ts) (h2 : Lsts w l2 lv ls) (h3 : Ints w l3 ov out) (ho : out.length ≤ 2000000) (he : Hid (extA ts ls = none)) :
    Calls Try.prog 35 #[tv, lv, ov, .int .i64 i, .int .i64 j] w (fun e w' => e = .returned (.int .i64 (cbyA ts ls out i j)) ∧ Ext w w') := by
  obtain ⟨p0, c0, rfl⟩ := h1.form
  obtain ⟨p1, c1, rfl⟩ := h2.form
  obtain ⟨p2, c2, rfl⟩ := h3.form
  have hlt1 := h1.len
  have hlt2 := h2.len
  go_enter Try.func35, Try.ntmps35
  go_wp2_with fail
  refine (pie_none he.out (extentsOf_c ts ls (.slice p0 ts.length c0) (.slice p1 ls.length c1) _ _ _ (h1.ext qXt) (h2.ext qXt))).mono ?_
  rintro e w1 ⟨fv1, rfl, i2, -, xw1⟩
  have X1 : Ext w w1 := Ext.trans qXt xw1
  clear xw1
  obtain ⟨afv1, cfv1, rfl⟩ := i2.form
  clear i2
  go_wp2_with fail
  go_ret
  exact ⟨by rw [cbyA_none he.out] <;> rfl, X1.trans qXt⟩
set_option maxHeartbeats 6400000 in
theorem implCby_1 (ts : List Ten) (ls : List Lst) (out : List Int) (tv lv ov : Value) (i j : Int) (w : World) (l1 l2 l3 : Nat) (h1 : Tens w l1 tv ts) (h2 : Lsts w l2 lv ls) (h3 : Ints w l3 ov out) (ho : out.length ≤ 2000000) (x : List Int) (he : Hid (extA ts ls = some x)) :
    Calls Try.prog 35 #[tv, lv, ov, .int .i64 i, .int .i64 j] w (fun e w' => e = .returned (.int .i64 (cbyA ts ls out i j)) ∧ Ext w w') := by
  obtain ⟨p0, c0, rfl⟩ := h1.form
  obtain ⟨p1, c1, rfl⟩ := h2.form
  obtain ⟨p2, c2, rfl⟩ := h3.form
  have hlt1 := h1.len
  have hlt2 := h2.len
  obtain ⟨f5, f1, f2, f3, f4, f6⟩ := extA_fact he.out
  have hlb : Hid (labsB ls) := Lib.hid (fun i hi => ⟨(f4 i hi).1, by have := (f4 i hi).2; omega⟩)
  have f7 : ls.length ≤ 3 := by omega
  have f8 : ts.length ≤ ls.length := by omega
  clear f4 f6 f5 f1
  go_enter Try.func35, Try.ntmps35
  go_wp2_with fail
  refine (pie_some he.out (extentsOf_c ts ls (.slice p0 ts.length c0) (.slice p1 ls.length c1) _ _ _ (h1.ext qXt) (h2.ext qXt))).mono ?_
  rintro e w1 ⟨fv1, rfl, i2, -, xw1⟩
  have X1 : Ext w w1 := Ext.trans qXt xw1
  clear xw1
  obtain ⟨afv1, cfv1, rfl⟩ := i2.form
  replace i2 := Lib.hid i2
  have Y1 : Ext w1 w1 := Ext.refl _
  go_wp2_with fail
  refine (arePair_c ts.length p0 c0 i j _).mono ?_
  rintro e w2 ⟨rfl, x2⟩
  replace X1 := X1.trans (Ext.trans qXt x2)
  replace Y1 := Y1.trans (Ext.trans qXt x2)
  clear x2
  by_cases hp : 0 ≤ i ∧ i < ts.length ∧ 0 ≤ j ∧ j < ts.length ∧ ¬ i = j
  · rw [show prB ts.length i j = true from decide_eq_true hp]
    obtain ⟨a, rfl⟩ : ∃ a : Nat, i = a := ⟨i.toNat, by omega⟩
    obtain ⟨b, rfl⟩ : ∃ b : Nat, j = b := ⟨j.toNat, by omega⟩
    have hi : a < ls.length := by omega
    have hj : b < ls.length := by omega
    replace hp := Lib.hid hp
    go_wp2_with fail
    refine (areLabels_c out _ _ _ (h3.ext (X1.trans qXt))).mono ?_
    rintro e w3 ⟨rfl, x3⟩
    replace X1 := X1.trans (Ext.trans qXt x3)
    replace Y1 := Y1.trans (Ext.trans qXt x3)
    clear x3
    replace hp := hp.out
    cases hb : labB out with
    | true =>
      have ha : Hid (cbyA ts ls out (a : Int) (b : Int) = costB x ls out a b) := Lib.hid (by rw [cbyA_yes he.out hb hp, Int.toNat_natCast, Int.toNat_natCast])
      replace hb := Lib.hid hb
      replace hp := Lib.hid hp
      go_wp2_with fail
      refine (implCostB_c ts x out ls _ _ _ a b _ _ _ _ (i2.out.ext (Y1.trans qXt)) (h2.ext (X1.trans qXt)) (h3.ext (X1.trans qXt)) hi hj he hlb (by omega) ho).mono ?_
      rintro e w5 ⟨rfl, x5⟩
      have X5 : Ext w w5 := X1.trans (Ext.trans qXt x5)
      go_wp2_with fail
      go_ret
      exact ⟨by rw [ha.out] <;> rfl, X5.trans qXt⟩
    | false =>
      replace hp := Lib.hid hp
      replace hb := Lib.hid hb
      go_wp2_with fail
      go_ret
      exact ⟨by rw [cbyA_lab hb.out] <;> rfl, X1.trans qXt⟩
  · rw [show prB ts.length i j = false from decide_eq_false hp]
    replace hp := Lib.hid hp
    go_wp2_with fail
    go_ret
    exact ⟨by rw [cbyA_pair hp.out] <;> rfl, X1.trans qXt⟩
theorem implCostBy_c (ts : List Ten) (ls : List Lst) (out : List Int) (tv lv ov : Value) (i j : Int) (w : World) (l1 l2 l3 : Nat) (h1 : Tens w l1 tv ts) (h2 : Lsts w l2 lv ls) (h3 : Ints w l3 ov out) (ho : out.length ≤ 2000000) :
    Calls Try.prog 35 #[tv, lv, ov, .int .i64 i, .int .i64 j] w (fun e w' => e = .returned (.int .i64 (cbyA ts ls out i j)) ∧ Ext w w') := by
  cases he : extA ts ls with
  | none => exact implCby_0 ts ls out tv lv ov i j w l1 l2 l3 h1 h2 h3 ho (Lib.hid he)
  | some x => exact implCby_1 ts ls out tv lv ov i j w l1 l2 l3 h1 h2 h3 ho x (Lib.hid he)


end Go.Proofs.Ytpgkhjmboiepcaa

/- Walks: KeptLabels of both. No condition. -/
namespace Go.Proofs.Ytpgkhjmboiepcaa
open Go.RowKit
set_option linter.unusedVariables false
set_option maxRecDepth 100000

set_option maxHeartbeats 6400000 in
theorem keepFor_c (ls : List Lst) (out : List Int) (lv ov : Value) (i j : Nat) (w : World) (l1 l2 : Nat) (h1 : Lsts w l1 lv ls) (h2 : Ints w l2 ov out) (hi : i < ls.length) (hj : j < ls.length) :
    Calls Try.prog 74 #[lv, ov, .int .i64 i, .int .i64 j] w (PInts w (kptL ls out i j)) := by
  obtain ⟨p1, c1, rfl⟩ := h1.form
  obtain ⟨p2, c2, rfl⟩ := h2.form
  have hll := h1.len
  have h2' := Lib.hid h2
  clear h2
  go_enter Try.func74, Try.ntmps74
  go_wp2_with fail
  go_loopw [9, 10] (fun gv t wr => ∃ (k : Nat), k ≤ 5 ∧ t = .int .i64 k ∧ Hid (OwnI wr w.heap.size gv (labN (kptP ls out i j) k)) ∧ Ext w wr) (fun _ t _ => 5 - (intOf t).toNat)
  case atStart => exact ⟨0, by omega, rfl, Lib.hid (OwnI.lit0 w w.heap.size (Nat.le_refl _)), qXt⟩
  case round =>
    obtain ⟨k, hk, rfl, OG, Xr⟩ := hrel
    have hfl := labN_le (kptP ls out i j) k
    have hszr := Xr.size
    obtain ⟨ga, gn, gc, rfl⟩ := OG.out.any
    by_cases hlt : k < 5
    · have hkI : (k : Int) ≤ 4 := by omega
      obtain ⟨bl, ol, u1, d1, rfl, x0, i0⟩ := (h1.ext Xr).at i hi
      obtain ⟨b2, o2, u2, d2, e2, y0, i2⟩ := (h1.ext Xr).at j hj
      cases e2
      replace i0 := Lib.hid i0
      replace i2 := Lib.hid i2
      go_wp2_with fail
      refine (placeIn_c (lstAt ls i).s _ (k : Int) _ _ (i0.out.ext qXt)).mono ?_
      rintro e w2 ⟨rfl, rfl⟩
      by_cases c1 : placeL (lstAt ls i).s k < 0
      · have g1 := place_no c1
        replace g1 := Lib.hid g1
        go_wp2_with fail
        refine (placeIn_c (lstAt ls j).s _ (k : Int) _ _ (i2.out.ext qXt)).mono ?_
        rintro e w3 ⟨rfl, rfl⟩
        by_cases c2 : placeL (lstAt ls j).s k < 0
        · have hn := kpt_skip (ls := ls) (out := out) (i := i) (j := j) (k := k) (by unfold kptP; rw [g1.out, place_no c2]; rfl)
          replace hn := Lib.hid hn
          go_wp2_with fail
          go_roundw
          case rel => exact ⟨k + 1, by omega, by go_num, Lib.hid (by rw [hn.out]; exact OG.out.ext qXt), Xr.trans qXt⟩
          case measure => simp [intOf]; omega
        · have g2 := place_yes c2
          replace g2 := Lib.hid g2
          go_wp2_with fail
          refine (placeIn_c out _ (k : Int) _ _ (h2'.out.ext (Xr.trans qXt))).mono ?_
          rintro e w6 ⟨rfl, rfl⟩
          go_wp2_with fail
          go_loopw [11, 12] (fun b t wi => ∃ (m : Nat), m ≤ ls.length ∧ t = .int .i64 m ∧ b = .bool (needB ls out i j k m) ∧ Ext wr wi) (fun _ t _ => ls.length - (intOf t).toNat)
          case atStart => exact ⟨0, Nat.zero_le _, rfl, by rw [needB_zero, place_has], qXt⟩
          case round =>
            obtain ⟨m, hm, rfl, rfl, X2⟩ := hrel
            by_cases hlm : m < ls.length
            · have hmI : (m : Int) < ls.length := by omega
              cases hnb : needB ls out i j k m with
              | true =>
                have hn2 := needB_yes hnb
                replace hn2 := Lib.hid hn2
                clear hnb
                go_wp2_with fail
                go_roundw
                case rel => exact ⟨m + 1, by omega, by go_num, by rw [hn2.out], X2.trans qXt⟩
                case measure => simp [intOf]; omega
              | false =>
                by_cases hmi : m = i
                · have hn2 : needB ls out i j k (m+1) = false := by rw [needB_skip (.inl hmi)]; exact hnb
                  subst hmi
                  replace hn2 := Lib.hid hn2
                  clear hnb
                  go_wp2_with fail
                  go_roundw
                  case rel => exact ⟨m + 1, by omega, by go_num, by rw [hn2.out], X2.trans qXt⟩
                  case measure => simp [intOf]; omega
                · have hc : ¬ (m : Int) = (i : Int) := by omega
                  have hx1 : ((m : Int) != (i : Int)) = true := bne_iff_ne.mpr hc
                  by_cases hmj : m = j
                  · have hn2 : needB ls out i j k (m+1) = false := by rw [needB_skip (.inr hmj)]; exact hnb
                    subst hmj
                    replace hn2 := Lib.hid hn2
                    clear hnb
                    go_wp2_with fail
                    go_roundw
                    case rel => exact ⟨m + 1, by omega, by go_num, by rw [hn2.out], X2.trans qXt⟩
                    case measure => simp [intOf]; omega
                  · have hd : ¬ (m : Int) = (j : Int) := by omega
                    have hx2 : ((m : Int) != (j : Int)) = true := bne_iff_ne.mpr hd
                    have hn2 : needB ls out i j k (m+1) = hasB (lstAt ls m).s k := by rw [needB_go hmi hmj, hnb, Bool.false_or]
                    replace hn2 := Lib.hid hn2
                    clear hnb
                    obtain ⟨bm, om, u3, d3, e3, z0, i3⟩ := (h1.ext (Xr.trans X2)).at m hlm
                    cases e3
                    replace i3 := Lib.hid i3
                    go_wp2_with fail
                    refine (placeIn_c (lstAt ls m).s _ (k : Int) _ _ (i3.out.ext qXt)).mono ?_
                    rintro e w7 ⟨rfl, rfl⟩
                    go_wp2_with fail
                    go_roundw
                    case rel => exact ⟨m + 1, by omega, by go_num, by rw [hn2.out, place_has], X2.trans qXt⟩
                    case measure => simp [intOf]; omega
            · obtain rfl : m = ls.length := by omega
              have X3 := Xr.trans X2
              cases hnb : needB ls out i j k ls.length with
              | true =>
                have hn := kpt_go (ls := ls) (out := out) (i := i) (j := j) (k := k) (by unfold kptP; rw [hnb, g1.out, g2.out]; rfl)
                replace hn := Lib.hid hn
                clear hnb
                go_wp2_with (
                  at_builtin
                  refine wpList_app rfl (.tmp 65) (.tmp 67) rfl rfl rfl (OG.out.ext (X2.trans qXt)) (by exact Ints.one _ 0 (k : Int) (Nat.zero_le _)) (by simp only [List.length_cons, List.length_nil]; omega) (by have := X2.size; first | (simp; done) | (simp; omega) | omega) ?_
                  intro v5 w5 O5 hg7 hbl hv7
                  clear hg7 hv7
                  have X5 : Ext w w5 := Ext.below (Ext.trans X3 qXt) hbl (Nat.le_refl _)
                  obtain ⟨a5, n5, c5, rfl⟩ := O5.any
                  replace O5 := Lib.hid O5
                  clear hbl)
                go_wp2_with fail
                go_roundw
                case rel => exact ⟨k + 1, by omega, by go_num, Lib.hid (by rw [hn.out]; exact O5.out.ext qXt), X5.trans qXt⟩
                case measure => simp [intOf]; omega
              | false =>
                have hn := kpt_skip (ls := ls) (out := out) (i := i) (j := j) (k := k) (by unfold kptP; rw [hnb, Bool.and_false])
                replace hn := Lib.hid hn
                clear hnb
                go_wp2_with fail
                go_roundw
                case rel => exact ⟨k + 1, by omega, by go_num, Lib.hid (by rw [hn.out]; exact OG.out.ext (X2.trans qXt)), X3.trans qXt⟩
                case measure => simp [intOf]; omega
      · have g1 := place_yes c1
        replace g1 := Lib.hid g1
        go_wp2_with fail
        refine (placeIn_c out _ (k : Int) _ _ (h2'.out.ext (Xr.trans qXt))).mono ?_
        rintro e w6 ⟨rfl, rfl⟩
        go_wp2_with fail
        go_loopw [11, 12] (fun b t wi => ∃ (m : Nat), m ≤ ls.length ∧ t = .int .i64 m ∧ b = .bool (needB ls out i j k m) ∧ Ext wr wi) (fun _ t _ => ls.length - (intOf t).toNat)
        case atStart => exact ⟨0, Nat.zero_le _, rfl, by rw [needB_zero, place_has], qXt⟩
        case round =>
          obtain ⟨m, hm, rfl, rfl, X2⟩ := hrel
          by_cases hlm : m < ls.length
          · have hmI : (m : Int) < ls.length := by omega
            cases hnb : needB ls out i j k m with
            | true =>
              have hn2 := needB_yes hnb
              replace hn2 := Lib.hid hn2
              clear hnb
              go_wp2_with fail
              go_roundw
              case rel => exact ⟨m + 1, by omega, by go_num, by rw [hn2.out], X2.trans qXt⟩
              case measure => simp [intOf]; omega
            | false =>
              by_cases hmi : m = i
              · have hn2 : needB ls out i j k (m+1) = false := by rw [needB_skip (.inl hmi)]; exact hnb
                subst hmi
                replace hn2 := Lib.hid hn2
                clear hnb
                go_wp2_with fail
                go_roundw
                case rel => exact ⟨m + 1, by omega, by go_num, by rw [hn2.out], X2.trans qXt⟩
                case measure => simp [intOf]; omega
              · have hc : ¬ (m : Int) = (i : Int) := by omega
                have hx1 : ((m : Int) != (i : Int)) = true := bne_iff_ne.mpr hc
                by_cases hmj : m = j
                · have hn2 : needB ls out i j k (m+1) = false := by rw [needB_skip (.inr hmj)]; exact hnb
                  subst hmj
                  replace hn2 := Lib.hid hn2
                  clear hnb
                  go_wp2_with fail
                  go_roundw
                  case rel => exact ⟨m + 1, by omega, by go_num, by rw [hn2.out], X2.trans qXt⟩
                  case measure => simp [intOf]; omega
                · have hd : ¬ (m : Int) = (j : Int) := by omega
                  have hx2 : ((m : Int) != (j : Int)) = true := bne_iff_ne.mpr hd
                  have hn2 : needB ls out i j k (m+1) = hasB (lstAt ls m).s k := by rw [needB_go hmi hmj, hnb, Bool.false_or]
                  replace hn2 := Lib.hid hn2
                  clear hnb
                  obtain ⟨bm, om, u3, d3, e3, z0, i3⟩ := (h1.ext (Xr.trans X2)).at m hlm
                  cases e3
                  replace i3 := Lib.hid i3
                  go_wp2_with fail
                  refine (placeIn_c (lstAt ls m).s _ (k : Int) _ _ (i3.out.ext qXt)).mono ?_
                  rintro e w7 ⟨rfl, rfl⟩
                  go_wp2_with fail
                  go_roundw
                  case rel => exact ⟨m + 1, by omega, by go_num, by rw [hn2.out, place_has], X2.trans qXt⟩
                  case measure => simp [intOf]; omega
          · obtain rfl : m = ls.length := by omega
            have X3 := Xr.trans X2
            cases hnb : needB ls out i j k ls.length with
            | true =>
              have hn := kpt_go (ls := ls) (out := out) (i := i) (j := j) (k := k) (by unfold kptP; rw [hnb, g1.out]; rfl)
              replace hn := Lib.hid hn
              clear hnb
              go_wp2_with (
                at_builtin
                refine wpList_app rfl (.tmp 65) (.tmp 67) rfl rfl rfl (OG.out.ext (X2.trans qXt)) (by exact Ints.one _ 0 (k : Int) (Nat.zero_le _)) (by simp only [List.length_cons, List.length_nil]; omega) (by have := X2.size; first | (simp; done) | (simp; omega) | omega) ?_
                intro v5 w5 O5 hg7 hbl hv7
                clear hg7 hv7
                have X5 : Ext w w5 := Ext.below (Ext.trans X3 qXt) hbl (Nat.le_refl _)
                obtain ⟨a5, n5, c5, rfl⟩ := O5.any
                replace O5 := Lib.hid O5
                clear hbl)
              go_wp2_with fail
              go_roundw
              case rel => exact ⟨k + 1, by omega, by go_num, Lib.hid (by rw [hn.out]; exact O5.out.ext qXt), X5.trans qXt⟩
              case measure => simp [intOf]; omega
            | false =>
              have hn := kpt_skip (ls := ls) (out := out) (i := i) (j := j) (k := k) (by unfold kptP; rw [hnb, Bool.and_false])
              replace hn := Lib.hid hn
              clear hnb
              go_wp2_with fail
              go_roundw
              case rel => exact ⟨k + 1, by omega, by go_num, Lib.hid (by rw [hn.out]; exact OG.out.ext (X2.trans qXt)), X3.trans qXt⟩
              case measure => simp [intOf]; omega
    · obtain rfl : k = 5 := by omega
      go_wp2_with fail
      go_ret
      exact PInts.mk (OG.out.ext qXt) (Nat.le_refl _) (by have := kptL_len ls out i j; omega) (Xr.trans qXt)
end Go.Proofs.Ytpgkhjmboiepcaa

/- Walks: costBy of the reference. No condition. -/
namespace Go.Proofs.Ytpgkhjmboiepcaa
open Go.RowKit
set_option linter.unusedVariables false
set_option maxRecDepth 100000

/-- has a tensor ahead of the m-th, but i and j, the label k, or is it kept? -/
def resM (ls : List Lst) (out : List Int) (i j k m : Nat) : Bool := hasB (othL ls i j m) k || (decide (0 < m) && hasB (kptL ls out i j) k)
theorem bool_of {a b : Bool} (h : a = true ↔ b = true) : a = b := by cases a <;> cases b <;> simp_all
theorem resM_iff {ls : List Lst} {out : List Int} {i j k m : Nat} : resM ls out i j k m = true ↔ (∃ q, q < m ∧ q ≠ i ∧ q ≠ j ∧ (k : Int) ∈ (lstAt ls q).s) ∨ (0 < m ∧ (k : Int) ∈ kptL ls out i j) := by
 unfold resM
 rw [Bool.or_eq_true, Bool.and_eq_true, decide_eq_true_eq, hasB_mem, hasB_mem, othL_mem]
theorem resM_zero (ls : List Lst) (out : List Int) (i j k : Nat) : resM ls out i j k 0 = false := by
 cases h : resM ls out i j k 0 with
 | false => rfl
 | true =>
  rcases resM_iff.1 h with ⟨q, hq, -⟩ | ⟨h0, -⟩ <;> omega
section
variable {ls : List Lst} {out : List Int} {i j k m : Nat}
theorem resM_kept (h : hasB (kptL ls out i j) k = true) : resM ls out i j k (m+1) = true := resM_iff.2 (.inr ⟨by omega, hasB_mem.1 h⟩)
theorem resM_oth (h1 : ¬ m = i) (h2 : ¬ m = j) (h : hasB (lstAt ls m).s k = true) : resM ls out i j k (m+1) = true := resM_iff.2 (.inl ⟨m, by omega, h1, h2, hasB_mem.1 h⟩)
theorem resM_stay (h : hasB (kptL ls out i j) k = false) (h2 : m = i ∨ m = j ∨ hasB (lstAt ls m).s k = false) : resM ls out i j k (m+1) = resM ls out i j k m := by
 have hk : ¬ (k : Int) ∈ kptL ls out i j := fun h9 => by rw [hasB_mem.2 h9] at h; cases h
 refine bool_of ?_
 rw [resM_iff, resM_iff]
 constructor
 ·
  rintro (⟨q, h3, h4, h5, h6⟩ | ⟨-, h9⟩)
  ·
   by_cases hq : q = m
   ·
    subst hq
    rcases h2 with h2 | h2 | h2
    ·
     exact absurd h2 h4
    ·
     exact absurd h2 h5
    ·
     rw [hasB_mem.2 h6] at h2; cases h2
   ·
    exact .inl ⟨q, by omega, h4, h5, h6⟩
  ·
   exact absurd h9 hk
 ·
  rintro (⟨q, h3, h4, h5, h6⟩ | ⟨-, h9⟩)
  ·
   exact .inl ⟨q, by omega, h4, h5, h6⟩
  ·
   exact absurd h9 hk
theorem resM_end (h : 0 < ls.length) : resM ls out i j k ls.length = resP ls out i j k := by unfold resM resP; rw [decide_eq_true h, Bool.true_and]
end
theorem own_formN {w : World} {B n : Nat} {v : Value} {xs : List Int} (h : OwnI w B v xs) (hn : xs.length = n + 1) : ∃ g c, v = .slice (some ⟨g, 0, none⟩) (n + 1) c := by
 rcases h.2 with ⟨_, h0⟩ | ⟨g, cap, cur, e, _⟩
 ·
  omega
 ·
  rw [hn] at e; exact ⟨g, cap, e⟩
set_option maxHeartbeats 12800000 in
theorem specCostB_c (ts : List Ten) (x out : List Int) (ls : List Lst) (xv lv ov : Value) (i j : Nat) (w : World) (l0 l1 l2 : Nat) (h0 : Ints w l0 xv x) (h1 : Lsts w l1 lv ls) (h2 : Ints w l2 ov out) (hi : i < ls.length) (hj : j < ls.length) (he : Hid (extA ts ls = some x)) (hb : Hid (labsB ls)) (h3 : ls.length ≤ 3) (ho : out.length ≤ 2000000) :
  Calls Try.prog 76 #[xv, lv, ov, .int .i64 i, .int .i64 j] w (fun e w' => e = .returned (.int .i64 (costB x ls out i j)) ∧ Ext w w') := by
 obtain ⟨f5, -, -, -, -, -⟩ := extA_fact he.out
 have h5 : 5 ≤ x.length ∧ x.length ≤ 5 := by omega
 clear f5
 obtain ⟨p0, c0, rfl⟩ := h0.form
 obtain ⟨p1, c1, rfl⟩ := h1.form
 obtain ⟨p2, c2, rfl⟩ := h2.form
 replace h2 := Lib.hid h2
 replace h0 := Lib.hid h0
 have O1 := OwnI.lit0 w w.heap.size (Nat.le_refl _)
 have O2 : OwnI ((w.alloc (.cells #[] 3)).alloc (.cells #[] 3)) w.heap.size (.slice (some ⟨w.heap.size + 1, 0, none⟩) 0 0) [] := by simpa using OwnI.lit0 (w.alloc (.cells #[] 3)) w.heap.size (by simp)
 replace O1 := Lib.hid (O1.ext ((Ext.refl _).alloc (.cells #[] 3)))
 replace O2 := Lib.hid O2
 have hz2 : ((w.alloc (.cells #[] 3)).alloc (.cells #[] 3)).heap.size = w.heap.size + 2 := by simp
 go_enter Try.func76, Try.ntmps76
 go_wp2_with fail
 refine (keepFor_c ls out _ _ i j _ _ _ (h1.ext qXt) (h2.out.ext qXt) hi hj).mono ?_
 rintro e w1 ⟨kv, rfl, iK, -, x1⟩
 have X1 : Ext w w1 := Ext.trans qXt x1
 replace O1 := Lib.hid (O1.out.ext x1)
 replace O2 := Lib.hid (O2.out.ext x1)
 have hz1 := x1.size
 rw [hz2] at hz1
 clear x1 h2
 obtain ⟨pk, ck, rfl⟩ := iK.form
 have hK : Hid (kptL ls out i j ≠ [] → ∀ b off, pk = some ⟨b, off, none⟩ → w.heap.size + 2 ≤ b ∧ b < w1.heap.size) := Lib.hid (fun hne b off e => by
  obtain ⟨b7, o7, e7, h7, h8⟩ := iK.blk hne
  rw [e] at e7; cases e7
  rw [hz2] at h7
  exact ⟨h7, h8⟩)
 replace iK := Lib.hid (iK.lower (Nat.zero_le _))
 clear hz2
 go_wp2_with fail
 go_loopw [11, 12, 14] (fun v1 v2 t wr => ∃ (k g1 g2 d1 d2 : Nat), k ≤ 5 ∧ t = .int .i64 (k : Int) ∧ v1 = .slice (some ⟨g1, 0, none⟩) k d1 ∧ v2 = .slice (some ⟨g2, 0, none⟩) k d2 ∧ (g1 ≠ g2 ∧ (g1 < w.heap.size + 2 ∨ w1.heap.size ≤ g1) ∧ (g2 < w.heap.size + 2 ∨ w1.heap.size ≤ g2) ∧ g1 < wr.heap.size ∧ g2 < wr.heap.size ∧ w1.heap.size ≤ wr.heap.size) ∧ Hid (OwnI wr w.heap.size (.slice (some ⟨g1, 0, none⟩) k d1) (mskL x (twoP ls i j) k)) ∧ Hid (OwnI wr w.heap.size (.slice (some ⟨g2, 0, none⟩) k d2) (mskL x (resP ls out i j) k)) ∧ Hid (Ints wr 0 (.slice pk (kptL ls out i j).length ck) (kptL ls out i j)) ∧ Ext w wr) (fun _ _ t _ => 5 - (intOf t).toNat)
 case atStart => exact ⟨0, w.heap.size, w.heap.size + 1, 0, 0, by omega, rfl, rfl, rfl, ⟨by omega, by omega, by omega, by have := (World.ownsRow.lt O1.out _ rfl).2; omega, by have := (World.ownsRow.lt O2.out _ rfl).2; omega, Nat.le_refl _⟩, Lib.hid O1.out, Lib.hid O2.out, iK, X1⟩
 case round =>
  clear O1 O2 iK X1
  obtain ⟨k, g1, g2, d1, d2, hk, rfl, rfl, rfl, hg, OG1, OG2, iK, Xr⟩ := hrel
  obtain ⟨hg12, hga, hgb, hg1, hg2, hw1⟩ := hg
  by_cases hlt : k < 5
  ·
   have hkI : (k : Int) ≤ 4 := by omega
   have hkx : (k : Int) < (x.length : Int) := by omega
   obtain ⟨bx, ox, rfl, ex⟩ := (h0.out.ext Xr).at k (by omega)
   obtain ⟨xk, hxk⟩ : ∃ v, x.getD k 0 = v := ⟨_, rfl⟩
   rw [hxk] at ex
   replace hxk := Lib.hid hxk
   obtain ⟨b1, q1, u1, e1, rfl, y1, k1⟩ := (h1.ext Xr).at i hi
   obtain ⟨b2, q2, u2, e2, e9, y2, k2⟩ := (h1.ext Xr).at j hj
   cases e9
   replace k1 := Lib.hid k1
   replace k2 := Lib.hid k2
   have hiI : (i : Int) < (ls.length : Int) := by omega
   have hjI : (j : Int) < (ls.length : Int) := by omega
   go_wp2_with fail
   refine (placeIn_c (lstAt ls i).s _ (k : Int) _ _ (k1.out.ext qXt)).mono ?_
   rintro e w2 ⟨rfl, rfl⟩
   by_cases c1 : placeL (lstAt ls i).s k < 0
   ·
    have g1' := place_no c1
    replace g1' := Lib.hid g1'
    go_wp2_with fail
    refine (placeIn_c (lstAt ls j).s _ (k : Int) _ _ (k2.out.ext qXt)).mono ?_
    rintro e w3 ⟨rfl, rfl⟩
    by_cases c2 : placeL (lstAt ls j).s k < 0
    ·
     have hn1 : mskL x (twoP ls i j) (k+1) = mskL x (twoP ls i j) k ++ [-1] := by rw [mskL_succ]; unfold twoP; rw [g1'.out, place_no c2]; rfl
     replace hn1 := Lib.hid hn1
     have hlen0 : 0 < ls.length := by omega
     go_wp2_with fail
     go_loopw [16, 17] (fun bv t wi => ∃ (m : Nat) (b : Int), m ≤ ls.length ∧ t = .int .i64 (m : Int) ∧ bv = .int .i64 b ∧ Hid (b = if resM ls out i j k m then xk else -1) ∧ Ext wr wi) (fun _ t _ => ls.length - (intOf t).toNat)
     case atStart => exact ⟨0, -1, Nat.zero_le _, rfl, rfl, Lib.hid (by rw [resM_zero]; rfl), qXt⟩
     case round =>
      obtain ⟨m, b, hm, rfl, rfl, hbv, X2⟩ := hrel
      by_cases hlm : m < ls.length
      ·
       have hmI : (m : Int) < ls.length := by omega
       have ex2 := X2.cell ex
       by_cases hmi : m = i
       ·
        have hq0 : ¬ (m : Int) ≠ (i : Int) := by omega
        have hx0 : ((m : Int) != (i : Int)) = false := by simp [hmi]
        go_wp2_with fail
        refine (placeIn_c (kptL ls out i j) _ (k : Int) _ _ (iK.out.ext (X2.trans qXt))).mono ?_
        rintro e w7 ⟨rfl, rfl⟩
        by_cases c7 : placeL (kptL ls out i j) k < 0
        ·
         have g7 := place_no c7
         have hn : resM ls out i j k (m+1) = resM ls out i j k m := resM_stay g7 (.inl hmi)
         replace hn := Lib.hid hn
         replace g7 := Lib.hid g7
         go_wp2_with fail
         go_roundw
         case rel => exact ⟨m + 1, b, by omega, by go_num, rfl, Lib.hid (by rw [hn.out]; exact hbv.out), X2.trans qXt⟩
         case measure => simp [intOf]; omega
        ·
         have g7 := place_yes c7
         have hn : resM ls out i j k (m+1) = true := resM_kept g7
         replace hn := Lib.hid hn
         replace g7 := Lib.hid g7
         go_wp2_with fail
         go_roundw
         case rel => exact ⟨m + 1, xk, by omega, by go_num, rfl, Lib.hid (by rw [hn.out]; rfl), X2.trans qXt⟩
         case measure => simp [intOf]; omega
       ·
        have hc : ¬ (m : Int) = (i : Int) := by omega
        have hx1 : ((m : Int) != (i : Int)) = true := bne_iff_ne.mpr hc
        by_cases hmj : m = j
        ·
         have hx0 : ((m : Int) != (j : Int)) = false := by simp [hmj]
         go_wp2_with fail
         refine (placeIn_c (kptL ls out i j) _ (k : Int) _ _ (iK.out.ext (X2.trans qXt))).mono ?_
         rintro e w7 ⟨rfl, rfl⟩
         by_cases c7 : placeL (kptL ls out i j) k < 0
         ·
          have g7 := place_no c7
          have hn : resM ls out i j k (m+1) = resM ls out i j k m := resM_stay g7 (.inr (.inl hmj))
          replace hn := Lib.hid hn
          replace g7 := Lib.hid g7
          go_wp2_with fail
          go_roundw
          case rel => exact ⟨m + 1, b, by omega, by go_num, rfl, Lib.hid (by rw [hn.out]; exact hbv.out), X2.trans qXt⟩
          case measure => simp [intOf]; omega
         ·
          have g7 := place_yes c7
          have hn : resM ls out i j k (m+1) = true := resM_kept g7
          replace hn := Lib.hid hn
          replace g7 := Lib.hid g7
          go_wp2_with fail
          go_roundw
          case rel => exact ⟨m + 1, xk, by omega, by go_num, rfl, Lib.hid (by rw [hn.out]; rfl), X2.trans qXt⟩
          case measure => simp [intOf]; omega
        ·
         have hd : ¬ (m : Int) = (j : Int) := by omega
         have hx2 : ((m : Int) != (j : Int)) = true := bne_iff_ne.mpr hd
         obtain ⟨bm, om, u3, d3, e3, z0, i3⟩ := (h1.ext (Xr.trans X2)).at m hlm
         cases e3
         replace i3 := Lib.hid i3
         go_wp2_with fail
         refine (placeIn_c (lstAt ls m).s _ (k : Int) _ _ (i3.out.ext qXt)).mono ?_
         rintro e w6 ⟨rfl, rfl⟩
         by_cases c6 : placeL (lstAt ls m).s k < 0
         ·
          have g6 := place_no c6
          replace g6 := Lib.hid g6
          go_wp2_with fail
          refine (placeIn_c (kptL ls out i j) _ (k : Int) _ _ (iK.out.ext (X2.trans qXt))).mono ?_
          rintro e w7 ⟨rfl, rfl⟩
          by_cases c7 : placeL (kptL ls out i j) k < 0
          ·
           have g7 := place_no c7
           have hn : resM ls out i j k (m+1) = resM ls out i j k m := resM_stay g7 (.inr (.inr g6.out))
           replace hn := Lib.hid hn
           replace g7 := Lib.hid g7
           go_wp2_with fail
           go_roundw
           case rel => exact ⟨m + 1, b, by omega, by go_num, rfl, Lib.hid (by rw [hn.out]; exact hbv.out), X2.trans qXt⟩
           case measure => simp [intOf]; omega
          ·
           have g7 := place_yes c7
           have hn : resM ls out i j k (m+1) = true := resM_kept g7
           replace hn := Lib.hid hn
           replace g7 := Lib.hid g7
           go_wp2_with fail
           go_roundw
           case rel => exact ⟨m + 1, xk, by omega, by go_num, rfl, Lib.hid (by rw [hn.out]; rfl), X2.trans qXt⟩
           case measure => simp [intOf]; omega
         ·
          have g6 := place_yes c6
          have hn : resM ls out i j k (m+1) = true := resM_oth hmi hmj g6
          replace hn := Lib.hid hn
          replace g6 := Lib.hid g6
          go_wp2_with fail
          go_roundw
          case rel => exact ⟨m + 1, xk, by omega, by go_num, rfl, Lib.hid (by rw [hn.out]; rfl), X2.trans qXt⟩
          case measure => simp [intOf]; omega
      ·
       obtain rfl : m = ls.length := by omega
       have hn2 : mskL x (resP ls out i j) (k+1) = mskL x (resP ls out i j) k ++ [b] := by rw [mskL_succ, hxk.out, hbv.out, resM_end hlen0]
       replace hn2 := Lib.hid hn2
       have X3 := Xr.trans X2
       have hz2 := X2.size
       go_wp2_with (
        first
        | (
         at_builtin
         refine wpList_app rfl (.tmp 86) (.tmp 88) rfl rfl rfl (OG1.out.ext (X2.trans qXt)) (Ints.one _ 0 (-1) (Nat.zero_le _)) (by rw [mskL_len]; simp; omega) (by have := X3.size; simp <;> omega) ?_
         intro v5 w5 ho hgr hbl hvb
         have OG5 : OwnI w5 w.heap.size v5 (mskL x (twoP ls i j) (k+1)) := by rw [hn1.out]; exact ho
         obtain ⟨g5, d5, rfl⟩ := own_formN (n := k) OG5 (mskL_len _ _ _)
         have hB5 := own_or hvb
         simp only [World.size_alloc] at hB5
         have hz5 := hgr.size
         simp only [World.size_alloc] at hz5
         have OG2' := (OG2.out.ext (X2.trans qXt)).kept hgr (.inr (by intro h; have h9 : g2 = g1 := Option.some.inj h; omega))
         have iK5 := Lib.hid ((iK.out.ext (X2.trans qXt)).keepG hgr (fun b off e hne h => by have h8 := hK.out hne b off e; have h9 : g1 = b := Option.some.inj h; omega))
         have X5 : Ext w w5 := Ext.below (X3.trans qXt) hbl (Nat.le_refl _)
         have hgw5 := (World.ownsRow.lt OG5 g5 rfl).2
         replace OG5 := Lib.hid OG5
         replace OG2' := Lib.hid OG2'
         clear ho hgr hbl hvb OG1
         )
        | (
         at_builtin
         refine wpList_app rfl (.tmp 90) (.tmp 92) rfl rfl rfl (OG2'.out.ext qXt) (Ints.one _ 0 b (Nat.zero_le _)) (by rw [mskL_len]; simp; omega) (by have := X5.size; simp <;> omega) ?_
         intro v6 w6 ho hgr hbl hvb
         have OG6 : OwnI w6 w.heap.size v6 (mskL x (resP ls out i j) (k+1)) := by rw [hn2.out]; exact ho
         obtain ⟨g6, d6, rfl⟩ := own_formN (n := k) OG6 (mskL_len _ _ _)
         have hB6 := own_or hvb
         simp only [World.size_alloc] at hB6
         have hz6 := hgr.size
         simp only [World.size_alloc] at hz6
         have OG7 := (OG5.out.ext qXt).kept hgr (.inr (by intro h; have h9 : g5 = g2 := Option.some.inj h; omega))
         have iK6 := Lib.hid ((iK5.out.ext qXt).keepG hgr (fun b off e hne h => by have h8 := hK.out hne b off e; have h9 : g2 = b := Option.some.inj h; omega))
         have X6 : Ext w w6 := Ext.below (X5.trans qXt) hbl (Nat.le_refl _)
         have hgw6 := (World.ownsRow.lt OG6 g6 rfl).2
         have hgw7 := (World.ownsRow.lt OG7 g5 rfl).2
         replace OG6 := Lib.hid OG6
         replace OG7 := Lib.hid OG7
         clear ho hgr hbl hvb
         ))
       go_roundw
       case rel => exact ⟨k + 1, g5, g6, d5, d6, by omega, by go_num, rfl, rfl, ⟨by omega, by omega, by omega, by omega, by omega, by omega⟩, OG7, OG6, iK6, X6⟩
       case measure => simp [intOf]; omega
    ·
     have hn1 : mskL x (twoP ls i j) (k+1) = mskL x (twoP ls i j) k ++ [xk] := by rw [mskL_succ]; unfold twoP; rw [g1'.out, place_yes c2, hxk.out]; rfl
     replace hn1 := Lib.hid hn1
     have hlen0 : 0 < ls.length := by omega
     go_wp2_with fail
     go_loopw [16, 17] (fun bv t wi => ∃ (m : Nat) (b : Int), m ≤ ls.length ∧ t = .int .i64 (m : Int) ∧ bv = .int .i64 b ∧ Hid (b = if resM ls out i j k m then xk else -1) ∧ Ext wr wi) (fun _ t _ => ls.length - (intOf t).toNat)
     case atStart => exact ⟨0, -1, Nat.zero_le _, rfl, rfl, Lib.hid (by rw [resM_zero]; rfl), qXt⟩
     case round =>
      obtain ⟨m, b, hm, rfl, rfl, hbv, X2⟩ := hrel
      by_cases hlm : m < ls.length
      ·
       have hmI : (m : Int) < ls.length := by omega
       have ex2 := X2.cell ex
       by_cases hmi : m = i
       ·
        have hq0 : ¬ (m : Int) ≠ (i : Int) := by omega
        have hx0 : ((m : Int) != (i : Int)) = false := by simp [hmi]
        go_wp2_with fail
        refine (placeIn_c (kptL ls out i j) _ (k : Int) _ _ (iK.out.ext (X2.trans qXt))).mono ?_
        rintro e w7 ⟨rfl, rfl⟩
        by_cases c7 : placeL (kptL ls out i j) k < 0
        ·
         have g7 := place_no c7
         have hn : resM ls out i j k (m+1) = resM ls out i j k m := resM_stay g7 (.inl hmi)
         replace hn := Lib.hid hn
         replace g7 := Lib.hid g7
         go_wp2_with fail
         go_roundw
         case rel => exact ⟨m + 1, b, by omega, by go_num, rfl, Lib.hid (by rw [hn.out]; exact hbv.out), X2.trans qXt⟩
         case measure => simp [intOf]; omega
        ·
         have g7 := place_yes c7
         have hn : resM ls out i j k (m+1) = true := resM_kept g7
         replace hn := Lib.hid hn
         replace g7 := Lib.hid g7
         go_wp2_with fail
         go_roundw
         case rel => exact ⟨m + 1, xk, by omega, by go_num, rfl, Lib.hid (by rw [hn.out]; rfl), X2.trans qXt⟩
         case measure => simp [intOf]; omega
       ·
        have hc : ¬ (m : Int) = (i : Int) := by omega
        have hx1 : ((m : Int) != (i : Int)) = true := bne_iff_ne.mpr hc
        by_cases hmj : m = j
        ·
         have hx0 : ((m : Int) != (j : Int)) = false := by simp [hmj]
         go_wp2_with fail
         refine (placeIn_c (kptL ls out i j) _ (k : Int) _ _ (iK.out.ext (X2.trans qXt))).mono ?_
         rintro e w7 ⟨rfl, rfl⟩
         by_cases c7 : placeL (kptL ls out i j) k < 0
         ·
          have g7 := place_no c7
          have hn : resM ls out i j k (m+1) = resM ls out i j k m := resM_stay g7 (.inr (.inl hmj))
          replace hn := Lib.hid hn
          replace g7 := Lib.hid g7
          go_wp2_with fail
          go_roundw
          case rel => exact ⟨m + 1, b, by omega, by go_num, rfl, Lib.hid (by rw [hn.out]; exact hbv.out), X2.trans qXt⟩
          case measure => simp [intOf]; omega
         ·
          have g7 := place_yes c7
          have hn : resM ls out i j k (m+1) = true := resM_kept g7
          replace hn := Lib.hid hn
          replace g7 := Lib.hid g7
          go_wp2_with fail
          go_roundw
          case rel => exact ⟨m + 1, xk, by omega, by go_num, rfl, Lib.hid (by rw [hn.out]; rfl), X2.trans qXt⟩
          case measure => simp [intOf]; omega
        ·
         have hd : ¬ (m : Int) = (j : Int) := by omega
         have hx2 : ((m : Int) != (j : Int)) = true := bne_iff_ne.mpr hd
         obtain ⟨bm, om, u3, d3, e3, z0, i3⟩ := (h1.ext (Xr.trans X2)).at m hlm
         cases e3
         replace i3 := Lib.hid i3
         go_wp2_with fail
         refine (placeIn_c (lstAt ls m).s _ (k : Int) _ _ (i3.out.ext qXt)).mono ?_
         rintro e w6 ⟨rfl, rfl⟩
         by_cases c6 : placeL (lstAt ls m).s k < 0
         ·
          have g6 := place_no c6
          replace g6 := Lib.hid g6
          go_wp2_with fail
          refine (placeIn_c (kptL ls out i j) _ (k : Int) _ _ (iK.out.ext (X2.trans qXt))).mono ?_
          rintro e w7 ⟨rfl, rfl⟩
          by_cases c7 : placeL (kptL ls out i j) k < 0
          ·
           have g7 := place_no c7
           have hn : resM ls out i j k (m+1) = resM ls out i j k m := resM_stay g7 (.inr (.inr g6.out))
           replace hn := Lib.hid hn
           replace g7 := Lib.hid g7
           go_wp2_with fail
           go_roundw
           case rel => exact ⟨m + 1, b, by omega, by go_num, rfl, Lib.hid (by rw [hn.out]; exact hbv.out), X2.trans qXt⟩
           case measure => simp [intOf]; omega
          ·
           have g7 := place_yes c7
           have hn : resM ls out i j k (m+1) = true := resM_kept g7
           replace hn := Lib.hid hn
           replace g7 := Lib.hid g7
           go_wp2_with fail
           go_roundw
           case rel => exact ⟨m + 1, xk, by omega, by go_num, rfl, Lib.hid (by rw [hn.out]; rfl), X2.trans qXt⟩
           case measure => simp [intOf]; omega
         ·
          have g6 := place_yes c6
          have hn : resM ls out i j k (m+1) = true := resM_oth hmi hmj g6
          replace hn := Lib.hid hn
          replace g6 := Lib.hid g6
          go_wp2_with fail
          go_roundw
          case rel => exact ⟨m + 1, xk, by omega, by go_num, rfl, Lib.hid (by rw [hn.out]; rfl), X2.trans qXt⟩
          case measure => simp [intOf]; omega
      ·
       obtain rfl : m = ls.length := by omega
       have hn2 : mskL x (resP ls out i j) (k+1) = mskL x (resP ls out i j) k ++ [b] := by rw [mskL_succ, hxk.out, hbv.out, resM_end hlen0]
       replace hn2 := Lib.hid hn2
       have X3 := Xr.trans X2
       have hz2 := X2.size
       go_wp2_with (
        first
        | (
         at_builtin
         refine wpList_app rfl (.tmp 86) (.tmp 88) rfl rfl rfl (OG1.out.ext (X2.trans qXt)) (Ints.one _ 0 (xk) (Nat.zero_le _)) (by rw [mskL_len]; simp; omega) (by have := X3.size; simp <;> omega) ?_
         intro v5 w5 ho hgr hbl hvb
         have OG5 : OwnI w5 w.heap.size v5 (mskL x (twoP ls i j) (k+1)) := by rw [hn1.out]; exact ho
         obtain ⟨g5, d5, rfl⟩ := own_formN (n := k) OG5 (mskL_len _ _ _)
         have hB5 := own_or hvb
         simp only [World.size_alloc] at hB5
         have hz5 := hgr.size
         simp only [World.size_alloc] at hz5
         have OG2' := (OG2.out.ext (X2.trans qXt)).kept hgr (.inr (by intro h; have h9 : g2 = g1 := Option.some.inj h; omega))
         have iK5 := Lib.hid ((iK.out.ext (X2.trans qXt)).keepG hgr (fun b off e hne h => by have h8 := hK.out hne b off e; have h9 : g1 = b := Option.some.inj h; omega))
         have X5 : Ext w w5 := Ext.below (X3.trans qXt) hbl (Nat.le_refl _)
         have hgw5 := (World.ownsRow.lt OG5 g5 rfl).2
         replace OG5 := Lib.hid OG5
         replace OG2' := Lib.hid OG2'
         clear ho hgr hbl hvb OG1
         )
        | (
         at_builtin
         refine wpList_app rfl (.tmp 90) (.tmp 92) rfl rfl rfl (OG2'.out.ext qXt) (Ints.one _ 0 b (Nat.zero_le _)) (by rw [mskL_len]; simp; omega) (by have := X5.size; simp <;> omega) ?_
         intro v6 w6 ho hgr hbl hvb
         have OG6 : OwnI w6 w.heap.size v6 (mskL x (resP ls out i j) (k+1)) := by rw [hn2.out]; exact ho
         obtain ⟨g6, d6, rfl⟩ := own_formN (n := k) OG6 (mskL_len _ _ _)
         have hB6 := own_or hvb
         simp only [World.size_alloc] at hB6
         have hz6 := hgr.size
         simp only [World.size_alloc] at hz6
         have OG7 := (OG5.out.ext qXt).kept hgr (.inr (by intro h; have h9 : g5 = g2 := Option.some.inj h; omega))
         have iK6 := Lib.hid ((iK5.out.ext qXt).keepG hgr (fun b off e hne h => by have h8 := hK.out hne b off e; have h9 : g2 = b := Option.some.inj h; omega))
         have X6 : Ext w w6 := Ext.below (X5.trans qXt) hbl (Nat.le_refl _)
         have hgw6 := (World.ownsRow.lt OG6 g6 rfl).2
         have hgw7 := (World.ownsRow.lt OG7 g5 rfl).2
         replace OG6 := Lib.hid OG6
         replace OG7 := Lib.hid OG7
         clear ho hgr hbl hvb
         ))
       go_roundw
       case rel => exact ⟨k + 1, g5, g6, d5, d6, by omega, by go_num, rfl, rfl, ⟨by omega, by omega, by omega, by omega, by omega, by omega⟩, OG7, OG6, iK6, X6⟩
       case measure => simp [intOf]; omega
   ·
    have hn1 : mskL x (twoP ls i j) (k+1) = mskL x (twoP ls i j) k ++ [xk] := by rw [mskL_succ]; unfold twoP; rw [place_yes c1, hxk.out]; rfl
    replace hn1 := Lib.hid hn1
    have hlen0 : 0 < ls.length := by omega
    go_wp2_with fail
    go_loopw [16, 17] (fun bv t wi => ∃ (m : Nat) (b : Int), m ≤ ls.length ∧ t = .int .i64 (m : Int) ∧ bv = .int .i64 b ∧ Hid (b = if resM ls out i j k m then xk else -1) ∧ Ext wr wi) (fun _ t _ => ls.length - (intOf t).toNat)
    case atStart => exact ⟨0, -1, Nat.zero_le _, rfl, rfl, Lib.hid (by rw [resM_zero]; rfl), qXt⟩
    case round =>
     obtain ⟨m, b, hm, rfl, rfl, hbv, X2⟩ := hrel
     by_cases hlm : m < ls.length
     ·
      have hmI : (m : Int) < ls.length := by omega
      have ex2 := X2.cell ex
      by_cases hmi : m = i
      ·
       have hq0 : ¬ (m : Int) ≠ (i : Int) := by omega
       have hx0 : ((m : Int) != (i : Int)) = false := by simp [hmi]
       go_wp2_with fail
       refine (placeIn_c (kptL ls out i j) _ (k : Int) _ _ (iK.out.ext (X2.trans qXt))).mono ?_
       rintro e w7 ⟨rfl, rfl⟩
       by_cases c7 : placeL (kptL ls out i j) k < 0
       ·
        have g7 := place_no c7
        have hn : resM ls out i j k (m+1) = resM ls out i j k m := resM_stay g7 (.inl hmi)
        replace hn := Lib.hid hn
        replace g7 := Lib.hid g7
        go_wp2_with fail
        go_roundw
        case rel => exact ⟨m + 1, b, by omega, by go_num, rfl, Lib.hid (by rw [hn.out]; exact hbv.out), X2.trans qXt⟩
        case measure => simp [intOf]; omega
       ·
        have g7 := place_yes c7
        have hn : resM ls out i j k (m+1) = true := resM_kept g7
        replace hn := Lib.hid hn
        replace g7 := Lib.hid g7
        go_wp2_with fail
        go_roundw
        case rel => exact ⟨m + 1, xk, by omega, by go_num, rfl, Lib.hid (by rw [hn.out]; rfl), X2.trans qXt⟩
        case measure => simp [intOf]; omega
      ·
       have hc : ¬ (m : Int) = (i : Int) := by omega
       have hx1 : ((m : Int) != (i : Int)) = true := bne_iff_ne.mpr hc
       by_cases hmj : m = j
       ·
        have hx0 : ((m : Int) != (j : Int)) = false := by simp [hmj]
        go_wp2_with fail
        refine (placeIn_c (kptL ls out i j) _ (k : Int) _ _ (iK.out.ext (X2.trans qXt))).mono ?_
        rintro e w7 ⟨rfl, rfl⟩
        by_cases c7 : placeL (kptL ls out i j) k < 0
        ·
         have g7 := place_no c7
         have hn : resM ls out i j k (m+1) = resM ls out i j k m := resM_stay g7 (.inr (.inl hmj))
         replace hn := Lib.hid hn
         replace g7 := Lib.hid g7
         go_wp2_with fail
         go_roundw
         case rel => exact ⟨m + 1, b, by omega, by go_num, rfl, Lib.hid (by rw [hn.out]; exact hbv.out), X2.trans qXt⟩
         case measure => simp [intOf]; omega
        ·
         have g7 := place_yes c7
         have hn : resM ls out i j k (m+1) = true := resM_kept g7
         replace hn := Lib.hid hn
         replace g7 := Lib.hid g7
         go_wp2_with fail
         go_roundw
         case rel => exact ⟨m + 1, xk, by omega, by go_num, rfl, Lib.hid (by rw [hn.out]; rfl), X2.trans qXt⟩
         case measure => simp [intOf]; omega
       ·
        have hd : ¬ (m : Int) = (j : Int) := by omega
        have hx2 : ((m : Int) != (j : Int)) = true := bne_iff_ne.mpr hd
        obtain ⟨bm, om, u3, d3, e3, z0, i3⟩ := (h1.ext (Xr.trans X2)).at m hlm
        cases e3
        replace i3 := Lib.hid i3
        go_wp2_with fail
        refine (placeIn_c (lstAt ls m).s _ (k : Int) _ _ (i3.out.ext qXt)).mono ?_
        rintro e w6 ⟨rfl, rfl⟩
        by_cases c6 : placeL (lstAt ls m).s k < 0
        ·
         have g6 := place_no c6
         replace g6 := Lib.hid g6
         go_wp2_with fail
         refine (placeIn_c (kptL ls out i j) _ (k : Int) _ _ (iK.out.ext (X2.trans qXt))).mono ?_
         rintro e w7 ⟨rfl, rfl⟩
         by_cases c7 : placeL (kptL ls out i j) k < 0
         ·
          have g7 := place_no c7
          have hn : resM ls out i j k (m+1) = resM ls out i j k m := resM_stay g7 (.inr (.inr g6.out))
          replace hn := Lib.hid hn
          replace g7 := Lib.hid g7
          go_wp2_with fail
          go_roundw
          case rel => exact ⟨m + 1, b, by omega, by go_num, rfl, Lib.hid (by rw [hn.out]; exact hbv.out), X2.trans qXt⟩
          case measure => simp [intOf]; omega
         ·
          have g7 := place_yes c7
          have hn : resM ls out i j k (m+1) = true := resM_kept g7
          replace hn := Lib.hid hn
          replace g7 := Lib.hid g7
          go_wp2_with fail
          go_roundw
          case rel => exact ⟨m + 1, xk, by omega, by go_num, rfl, Lib.hid (by rw [hn.out]; rfl), X2.trans qXt⟩
          case measure => simp [intOf]; omega
        ·
         have g6 := place_yes c6
         have hn : resM ls out i j k (m+1) = true := resM_oth hmi hmj g6
         replace hn := Lib.hid hn
         replace g6 := Lib.hid g6
         go_wp2_with fail
         go_roundw
         case rel => exact ⟨m + 1, xk, by omega, by go_num, rfl, Lib.hid (by rw [hn.out]; rfl), X2.trans qXt⟩
         case measure => simp [intOf]; omega
     ·
      obtain rfl : m = ls.length := by omega
      have hn2 : mskL x (resP ls out i j) (k+1) = mskL x (resP ls out i j) k ++ [b] := by rw [mskL_succ, hxk.out, hbv.out, resM_end hlen0]
      replace hn2 := Lib.hid hn2
      have X3 := Xr.trans X2
      have hz2 := X2.size
      go_wp2_with (
       first
       | (
        at_builtin
        refine wpList_app rfl (.tmp 86) (.tmp 88) rfl rfl rfl (OG1.out.ext (X2.trans qXt)) (Ints.one _ 0 (xk) (Nat.zero_le _)) (by rw [mskL_len]; simp; omega) (by have := X3.size; simp <;> omega) ?_
        intro v5 w5 ho hgr hbl hvb
        have OG5 : OwnI w5 w.heap.size v5 (mskL x (twoP ls i j) (k+1)) := by rw [hn1.out]; exact ho
        obtain ⟨g5, d5, rfl⟩ := own_formN (n := k) OG5 (mskL_len _ _ _)
        have hB5 := own_or hvb
        simp only [World.size_alloc] at hB5
        have hz5 := hgr.size
        simp only [World.size_alloc] at hz5
        have OG2' := (OG2.out.ext (X2.trans qXt)).kept hgr (.inr (by intro h; have h9 : g2 = g1 := Option.some.inj h; omega))
        have iK5 := Lib.hid ((iK.out.ext (X2.trans qXt)).keepG hgr (fun b off e hne h => by have h8 := hK.out hne b off e; have h9 : g1 = b := Option.some.inj h; omega))
        have X5 : Ext w w5 := Ext.below (X3.trans qXt) hbl (Nat.le_refl _)
        have hgw5 := (World.ownsRow.lt OG5 g5 rfl).2
        replace OG5 := Lib.hid OG5
        replace OG2' := Lib.hid OG2'
        clear ho hgr hbl hvb OG1
        )
       | (
        at_builtin
        refine wpList_app rfl (.tmp 90) (.tmp 92) rfl rfl rfl (OG2'.out.ext qXt) (Ints.one _ 0 b (Nat.zero_le _)) (by rw [mskL_len]; simp; omega) (by have := X5.size; simp <;> omega) ?_
        intro v6 w6 ho hgr hbl hvb
        have OG6 : OwnI w6 w.heap.size v6 (mskL x (resP ls out i j) (k+1)) := by rw [hn2.out]; exact ho
        obtain ⟨g6, d6, rfl⟩ := own_formN (n := k) OG6 (mskL_len _ _ _)
        have hB6 := own_or hvb
        simp only [World.size_alloc] at hB6
        have hz6 := hgr.size
        simp only [World.size_alloc] at hz6
        have OG7 := (OG5.out.ext qXt).kept hgr (.inr (by intro h; have h9 : g5 = g2 := Option.some.inj h; omega))
        have iK6 := Lib.hid ((iK5.out.ext qXt).keepG hgr (fun b off e hne h => by have h8 := hK.out hne b off e; have h9 : g2 = b := Option.some.inj h; omega))
        have X6 : Ext w w6 := Ext.below (X5.trans qXt) hbl (Nat.le_refl _)
        have hgw6 := (World.ownsRow.lt OG6 g6 rfl).2
        have hgw7 := (World.ownsRow.lt OG7 g5 rfl).2
        replace OG6 := Lib.hid OG6
        replace OG7 := Lib.hid OG7
        clear ho hgr hbl hvb
        ))
      go_roundw
      case rel => exact ⟨k + 1, g5, g6, d5, d6, by omega, by go_num, rfl, rfl, ⟨by omega, by omega, by omega, by omega, by omega, by omega⟩, OG7, OG6, iK6, X6⟩
      case measure => simp [intOf]; omega
  ·
   obtain rfl : k = 5 := by omega
   have hbd2 := msk_bd he.out (twoP ls i j)
   have hbd3 := msk_bd he.out (resP ls out i j)
   have hm2 := Lib.hid (fun k hk => msk_60 he.out (twoP ls i j) k hk)
   have hm3 := Lib.hid (fun k hk => msk_60 he.out (resP ls out i j) k hk)
   have hcb : Hid (costB x ls out i j = spK (mskL x (twoP ls i j) 5) 5 + spK (mskL x (resP ls out i j) 5) 5) := Lib.hid rfl
   have hl2 := mskL_len x (twoP ls i j) 5
   have hl3 := mskL_len x (resP ls out i j) 5
   have i1 := OG1.out.ints (by omega)
   have i2 := OG2.out.ints (by omega)
   have ha2 : 5 ≤ (mskL x (twoP ls i j) 5).length ∧ (mskL x (twoP ls i j) 5).length ≤ 5 := by omega
   have ha3 : 5 ≤ (mskL x (resP ls out i j) 5).length ∧ (mskL x (resP ls out i j) 5).length ≤ 5 := by omega
   clear hl2 hl3 OG1 OG2 iK
   generalize mskL x (twoP ls i j) 5 = A at *
   generalize mskL x (resP ls out i j) 5 = C at *
   replace i1 := Lib.hid i1
   replace i2 := Lib.hid i2
   have hw9 : IntKind.i64.wrap (spK A 5 + spK C 5) = spK A 5 + spK C 5 := IntWalk.i64_in _ (by omega)
   go_wp2_with fail
   refine (space_c A _ _ _ (i1.out.ext qXt) ha2.1 ha2.2 hm2).mono ?_
   rintro e w8 ⟨v8, rfl, x8⟩
   have X8 : Ext wr w8 := Ext.trans qXt x8
   clear x8
   go_wp2_with fail
   refine (space_c C _ _ _ (i2.out.ext (X8.trans qXt)) ha3.1 ha3.2 hm3).mono ?_
   rintro e w9 ⟨v9, rfl, x9⟩
   have X9 : Ext wr w9 := X8.trans (Ext.trans qXt x9)
   clear x9
   go_wp2_with fail
   go_ret
   exact ⟨by rw [hcb.out] <;> rfl, (Xr.trans X9).trans qXt⟩

end Go.Proofs.Ytpgkhjmboiepcaa

/- Walks: CostBy of the reference. No condition. -/
namespace Go.Proofs.Ytpgkhjmboiepcaa
open Go.RowKit
set_option linter.unusedVariables false
set_option maxRecDepth 100000

set_option maxHeartbeats 3200000 in
theorem specCby_0 (ts : List Ten) (ls : List Lst) (out : List Int) (tv lv ov : Value) (i j : Int) (w : World) (l1 l2 l3 : Nat) (h1 : Tens w l1 tv ts) (h2 : Lsts w l2 lv ls) (h3 : Ints w l3 ov out) (ho : out.length ≤ 2000000) (he : Hid (extA ts ls = none)) :
    Calls Try.prog 36 #[tv, lv, ov, .int .i64 i, .int .i64 j] w (fun e w' => e = .returned (.int .i64 (cbyA ts ls out i j)) ∧ Ext w w') := by
  obtain ⟨p0, c0, rfl⟩ := h1.form
  obtain ⟨p1, c1, rfl⟩ := h2.form
  obtain ⟨p2, c2, rfl⟩ := h3.form
  have hlt1 := h1.len
  have hlt2 := h2.len
  go_enter Try.func36, Try.ntmps36
  go_wp2_with fail
  refine (pie_none he.out (specExtentsOf_c ts ls (.slice p0 ts.length c0) (.slice p1 ls.length c1) _ _ _ (h1.ext qXt) (h2.ext qXt))).mono ?_
  rintro e w1 ⟨fv1, rfl, i2, -, xw1⟩
  have X1 : Ext w w1 := Ext.trans qXt xw1
  clear xw1
  obtain ⟨afv1, cfv1, rfl⟩ := i2.form
  clear i2
  go_wp2_with fail
  go_ret
  exact ⟨by rw [cbyA_none he.out] <;> rfl, X1.trans qXt⟩
set_option maxHeartbeats 6400000 in
theorem specCby_1 (ts : List Ten) (ls : List Lst) (out : List Int) (tv lv ov : Value) (i j : Int) (w : World) (l1 l2 l3 : Nat) (h1 : Tens w l1 tv ts) (h2 : Lsts w l2 lv ls) (h3 : Ints w l3 ov out) (ho : out.length ≤ 2000000) (x : List Int) (he : Hid (extA ts ls = some x)) :
    Calls Try.prog 36 #[tv, lv, ov, .int .i64 i, .int .i64 j] w (fun e w' => e = .returned (.int .i64 (cbyA ts ls out i j)) ∧ Ext w w') := by
  obtain ⟨p0, c0, rfl⟩ := h1.form
  obtain ⟨p1, c1, rfl⟩ := h2.form
  obtain ⟨p2, c2, rfl⟩ := h3.form
  have hlt1 := h1.len
  have hlt2 := h2.len
  obtain ⟨f5, f1, f2, f3, f4, f6⟩ := extA_fact he.out
  have hlb : Hid (labsB ls) := Lib.hid (fun i hi => ⟨(f4 i hi).1, by have := (f4 i hi).2; omega⟩)
  have f7 : ls.length ≤ 3 := by omega
  have f8 : ts.length ≤ ls.length := by omega
  clear f4 f6 f5 f1
  go_enter Try.func36, Try.ntmps36
  go_wp2_with fail
  refine (pie_some he.out (specExtentsOf_c ts ls (.slice p0 ts.length c0) (.slice p1 ls.length c1) _ _ _ (h1.ext qXt) (h2.ext qXt))).mono ?_
  rintro e w1 ⟨fv1, rfl, i2, -, xw1⟩
  have X1 : Ext w w1 := Ext.trans qXt xw1
  clear xw1
  obtain ⟨afv1, cfv1, rfl⟩ := i2.form
  replace i2 := Lib.hid i2
  have Y1 : Ext w1 w1 := Ext.refl _
  have hwl : IntKind.i64.wrap ((ts.length : Int) - 1) = (ts.length : Int) - 1 := IntWalk.i64_in _ (by omega)
  go_wp2_with fail
  refine (allIn_c out _ 0 4 _ _ (h3.ext (X1.trans qXt))).mono ?_
  rintro e w2 ⟨rfl, rfl⟩
  cases hb : out.all (inB 0 4) with
  | false =>
    have hb' : labB out = false := hb
    replace hb' := Lib.hid hb'
    clear hb
    go_wp2_with fail
    go_ret
    exact ⟨by rw [cbyA_lab hb'.out] <;> rfl, X1.trans qXt⟩
  | true =>
    have hb' : labB out = true := hb
    replace hb' := Lib.hid hb'
    clear hb
    go_wp2_with fail
    refine (inRange_c i 0 ((ts.length : Int) - 1) _).mono ?_
    rintro e w2 ⟨rfl, rfl⟩
    by_cases hp1 : 0 ≤ i ∧ i < ts.length
    · rw [show inB 0 ((ts.length : Int) - 1) i = true from by unfold inB; simp; omega]
      replace hp1 := Lib.hid hp1
      go_wp2_with fail
      refine (inRange_c j 0 ((ts.length : Int) - 1) _).mono ?_
      rintro e w2 ⟨rfl, rfl⟩
      by_cases hp2 : 0 ≤ j ∧ j < ts.length
      · rw [show inB 0 ((ts.length : Int) - 1) j = true from by unfold inB; simp; omega]
        replace hp2 := Lib.hid hp2
        by_cases hq : i = j
        · subst hq
          have hk : Hid (cbyA ts ls out i i = -1) := Lib.hid (cbyA_pair (fun h => h.2.2.2.2 rfl))
          go_wp2_with fail
          go_ret
          exact ⟨by rw [hk.out] <;> rfl, X1.trans qXt⟩
        · have hp : 0 ≤ i ∧ i < ts.length ∧ 0 ≤ j ∧ j < ts.length ∧ ¬ i = j := ⟨hp1.out.1, hp1.out.2, hp2.out.1, hp2.out.2, hq⟩
          have hx : (i == j) = false := by simpa using hq
          have hb := hb'.out
          obtain ⟨a, rfl⟩ : ∃ a : Nat, i = a := ⟨i.toNat, by omega⟩
          obtain ⟨b, rfl⟩ : ∃ b : Nat, j = b := ⟨j.toNat, by omega⟩
          have hi : a < ls.length := by omega
          have hj : b < ls.length := by omega
          clear hp1 hp2 hb'
          have ha : Hid (cbyA ts ls out (a : Int) (b : Int) = costB x ls out a b) := Lib.hid (by rw [cbyA_yes he.out hb hp, Int.toNat_natCast, Int.toNat_natCast])
          replace hb := Lib.hid hb
          replace hp := Lib.hid hp
          go_wp2_with fail
          refine (specCostB_c ts x out ls _ _ _ a b _ _ _ _ (i2.out.ext (Y1.trans qXt)) (h2.ext (X1.trans qXt)) (h3.ext (X1.trans qXt)) hi hj he hlb (by omega) ho).mono ?_
          rintro e w5 ⟨rfl, x5⟩
          have X5 : Ext w w5 := X1.trans (Ext.trans qXt x5)
          go_wp2_with fail
          go_ret
          exact ⟨by rw [ha.out] <;> rfl, X5.trans qXt⟩
      · rw [show inB 0 ((ts.length : Int) - 1) j = false from by unfold inB; simp; omega]
        have hk : Hid (cbyA ts ls out i j = -1) := Lib.hid (cbyA_pair (by intro h; exact hp2 ⟨h.2.2.1, h.2.2.2.1⟩))
        clear hp2
        go_wp2_with fail
        go_ret
        exact ⟨by rw [hk.out] <;> rfl, X1.trans qXt⟩
    · rw [show inB 0 ((ts.length : Int) - 1) i = false from by unfold inB; simp; omega]
      have hk : Hid (cbyA ts ls out i j = -1) := Lib.hid (cbyA_pair (by intro h; exact hp1 ⟨h.1, h.2.1⟩))
      clear hp1
      go_wp2_with fail
      go_ret
      exact ⟨by rw [hk.out] <;> rfl, X1.trans qXt⟩
theorem specCostBy_c (ts : List Ten) (ls : List Lst) (out : List Int) (tv lv ov : Value) (i j : Int) (w : World) (l1 l2 l3 : Nat) (h1 : Tens w l1 tv ts) (h2 : Lsts w l2 lv ls) (h3 : Ints w l3 ov out) (ho : out.length ≤ 2000000) :
    Calls Try.prog 36 #[tv, lv, ov, .int .i64 i, .int .i64 j] w (fun e w' => e = .returned (.int .i64 (cbyA ts ls out i j)) ∧ Ext w w') := by
  cases he : extA ts ls with
  | none => exact specCby_0 ts ls out tv lv ov i j w l1 l2 l3 h1 h2 h3 ho (Lib.hid he)
  | some x => exact specCby_1 ts ls out tv lv ov i j w l1 l2 l3 h1 h2 h3 ho x (Lib.hid he)


end Go.Proofs.Ytpgkhjmboiepcaa

/- Walks: KeptLabels of both. No condition. -/
namespace Go.Proofs.Ytpgkhjmboiepcaa
open Go.RowKit
set_option linter.unusedVariables false
set_option maxRecDepth 100000

end Go.Proofs.Ytpgkhjmboiepcaa

/- Walks: KeptLabels of both. No condition. -/
namespace Go.Proofs.Ytpgkhjmboiepcaa
open Go.RowKit
set_option linter.unusedVariables false
set_option maxRecDepth 100000

end Go.Proofs.Ytpgkhjmboiepcaa

/- Walks: drawn pairs of ranges; ascending lists; plain laws on what two ranges have in common. -/
namespace Go.Proofs.Ytpgkhjmboiepcaa
open Go.RowKit
set_option linter.unusedVariables false
set_option maxRecDepth 100000

end Go.Proofs.Ytpgkhjmboiepcaa

/- FnKeptLabels returns true, once DrawKeptLabels hands back tensors, labels and two numbers: the law without its draw. -/
namespace Go.Proofs.Ytpgkhjmboiepcaa
open Go.RowKit
set_option linter.unusedVariables false
set_option maxRecDepth 100000

/-- tensors, labels, labels of a result, two numbers are drawn -/
def PDK (w : World) (e : Ending) (w' : World) : Prop := ∃ (ts : List Ten) (ls : List Lst) (out : List Int) (p0 p1 p2 : Option Addr) (c0 c1 c2 : Nat) (i j : Int), e = .returned (.tuple #[.slice p0 ts.length c0, .slice p1 ls.length c1, .slice p2 out.length c2, .int .i64 i, .int .i64 j]) ∧
  Tens w' 0 (.slice p0 ts.length c0) ts ∧ Lsts w' 0 (.slice p1 ls.length c1) ls ∧ Ints w' 0 (.slice p2 out.length c2) out ∧ out.length ≤ 2000000 ∧ Ext w w'
end Go.Proofs.Ytpgkhjmboiepcaa

/- Walks: draws of tensors, labels and two numbers. -/
namespace Go.Proofs.Ytpgkhjmboiepcaa
open Go.RowKit
set_option linter.unusedVariables false
set_option maxRecDepth 100000

/-- tensors, labels and two numbers are drawn -/
def PPair (rb q : Nat) (w : World) (e : Ending) (w' : World) : Prop := ∃ (ts : List Ten) (ls : List Lst) (out : List Int) (p0 p1 p2 : Option Addr) (c0 c1 c2 : Nat) (i j : Int), e = .returned (.tuple #[.slice p0 ts.length c0, .slice p1 ls.length c1, .slice p2 out.length c2, .int .i64 i, .int .i64 j]) ∧
  Tens w' w.heap.size (.slice p0 ts.length c0) ts ∧ Lsts w' w.heap.size (.slice p1 ls.length c1) ls ∧ Ints w' w.heap.size (.slice p2 out.length c2) out ∧ out.length ≤ 1000 ∧ Rd w' rb q ∧ Chg rb (rb + 1) w w'
set_option maxHeartbeats 3200000 in
theorem pairOf_c (rb k : Nat) (w : World) (hr : Rd w rb k) (hk : k ≤ 300000) :
    Calls Try.prog 69 #[.pointer (some ⟨rb, 0, none⟩)] w (PPair rb (k + 500) w) := by
  have hlt := hr.lt
  go_enter Try.func69, Try.ntmps69
  go_wp2_with fail
  refine (oneLit_c #[.int .i64 3, .int .i64 3, .int .i64 2] 3 _ _ _ _ hr (by omega) (by rfl) (by rfl) (by constructor <;> simp) (by first | rfl | omega | simp)).mono ?_
  rintro e w1 ⟨m, rfl, hm, Rw1, Cw1⟩
  have Ew1 : Ext w (w.alloc (.cells #[.int .i64 3, .int .i64 3, .int .i64 2] 3)) := qXt
  have e_w1 := Ew1.size
  have zc_w1 := Cw1.size
  have Xw1 : Rch rb w w1 := Rch.step (Rch.ext (Rch.refl rb w) Ew1) Cw1
  have s_w1 : w.heap.size ≤ w1.heap.size := Xw1.size
  clear hr Cw1 Ew1
  replace hm : 1 ≤ m ∧ m ≤ 3 := by simp [litL] at hm; omega
  obtain ⟨many, rfl⟩ : ∃ q : Nat, m = q := ⟨m.toNat, by omega⟩
  go_wp2_with fail
  refine (productOf_c _ _ many _ Rw1 (by omega) (by omega) (by omega)).mono ?_
  rintro e w2 ⟨ts, ls, out, p0, p1, p2, c0, c1, c2, rfl, iT, iL, iO, ho, Rw2, Cw2⟩
  have zc_w2 := Cw2.size
  have Xw2 : Rch rb w w2 := Rch.step (Xw1) Cw2
  have s_w2 : w.heap.size ≤ w2.heap.size := Xw2.size
  clear Rw1 Cw2
  replace iT := iT.lower (lo' := w.heap.size) (by omega)
  replace iL := iL.lower (lo' := w.heap.size) (by omega)
  replace iO := iO.lower (lo' := w.heap.size) (by omega)
  go_wp2_with fail
  refine (oneLit_c #[.int .i64 0, .int .i64 1, .int .i64 2, .int .i64 0, .int .i64 (-1)] 5 _ _ _ _ Rw2 (by omega) (by rfl) (by rfl) (by constructor <;> simp) (by first | rfl | omega | simp)).mono ?_
  rintro e w3 ⟨i, rfl, hi, Rw3, Cw3⟩
  have Ew3 : Ext w2 (w2.alloc (.cells #[.int .i64 0, .int .i64 1, .int .i64 2, .int .i64 0, .int .i64 (-1)] 3)) := qXt
  have e_w3 := Ew3.size
  have zc_w3 := Cw3.size
  have Xw3 : Rch rb w w3 := Rch.step (Rch.ext Xw2 Ew3) Cw3
  replace iT := (iT.ext Ew3).chg Cw3 (by omega)
  replace iL := (iL.ext Ew3).chg Cw3 (by omega)
  replace iO := (iO.ext Ew3).chg Cw3 (by omega)
  have s_w3 : w.heap.size ≤ w3.heap.size := Xw3.size
  clear Rw2 Cw3 Ew3
  clear hi
  go_wp2_with fail
  refine (oneLit_c #[.int .i64 1, .int .i64 2, .int .i64 0, .int .i64 1, .int .i64 3] 5 _ _ _ _ Rw3 (by omega) (by rfl) (by rfl) (by constructor <;> simp) (by first | rfl | omega | simp)).mono ?_
  rintro e w4 ⟨j, rfl, hj, Rw4, Cw4⟩
  have Ew4 : Ext w3 (w3.alloc (.cells #[.int .i64 1, .int .i64 2, .int .i64 0, .int .i64 1, .int .i64 3] 3)) := qXt
  have e_w4 := Ew4.size
  have zc_w4 := Cw4.size
  have Xw4 : Rch rb w w4 := Rch.step (Rch.ext Xw3 Ew4) Cw4
  replace iT := (iT.ext Ew4).chg Cw4 (by omega)
  replace iL := (iL.ext Ew4).chg Cw4 (by omega)
  replace iO := (iO.ext Ew4).chg Cw4 (by omega)
  have s_w4 : w.heap.size ≤ w4.heap.size := Xw4.size
  clear Rw3 Cw4 Ew4
  clear hj
  go_wp2_with fail
  refine bodyPost_ret (v := .tuple #[.slice p0 ts.length c0, .slice p1 ls.length c1, .slice p2 out.length c2, .int .i64 i, .int .i64 j]) (by simp only [results, Try.results69]; go_simp) rfl ?_
  exact ⟨ts, ls, out, _, _, _, _, _, _, i, j, rfl, iT, iL, iO, ho, Rw4.mono (by omega), Xw4⟩
set_option maxHeartbeats 3200000 in
theorem drawCostBy_c (a : Option Addr) (n cap : Nat) (w : World) (hb : BysIn w a n cap) :
    Calls Try.prog 34 #[.slice a n cap] w (PDK w) := by
  go_enter Try.func34, Try.ntmps34
  go_wp2_with fail
  refine (newReader_c a n cap _ (hb.ext qXt)).mono ?_
  rintro e w1 ⟨rfl, hr, xw1⟩
  have Lw1 : Ext w w1 := Ext.trans qXt xw1
  have Xw1 : Ext w w1 := Lw1
  have s_w1 : w.heap.size ≤ w1.heap.size := Xw1.size
  clear xw1
  have z1 := hr.lt
  clear hb
  go_wp2_with fail
  refine (pairOf_c _ _ _ hr (by omega)).mono ?_
  rintro e w2 ⟨ts, ls, out, p0, p1, p2, c0, c1, c2, i, j, rfl, iT, iL, iO, ho, Rw2, Cw2⟩
  have zc_w2 := Cw2.size
  have Xw2 : Ext w w2 := Rch.toExt' Cw2 (by omega) (Xw1)
  have s_w2 : w.heap.size ≤ w2.heap.size := Xw2.size
  clear hr Cw2
  go_wp2_with fail
  refine bodyPost_ret (v := .tuple #[.slice p0 ts.length c0, .slice p1 ls.length c1, .slice p2 out.length c2, .int .i64 i, .int .i64 j]) (by simp only [results, Try.results34]; go_simp) rfl ?_
  exact ⟨ts, ls, out, _, _, _, _, _, _, i, j, rfl, iT.lower (Nat.zero_le _), iL.lower (Nat.zero_le _), iO.lower (Nat.zero_le _), by omega, Xw2⟩

end Go.Proofs.Ytpgkhjmboiepcaa

/- FnCostBy returns true. No condition. -/
namespace Go.Proofs.Ytpgkhjmboiepcaa
open Go.RowKit
set_option linter.unusedVariables false
set_option maxRecDepth 100000

/-- a literal of two tensors -/
theorem Tens.lit2 {w : World} {l1 l2 l3 l4 g : Nat} {u1 v1 u2 v2 : Value} {a b : Ten} (hg : g = w.heap.size) (h1 : Ints w l1 u1 a.s) (h2 : Ints w l2 v1 a.t) (h3 : Ints w l3 u2 b.s) (h4 : Ints w l4 v2 b.t) :
  Tens (w.alloc (.cells #[u1, v1, u2, v2] 29)) 0 (.slice (some ⟨g, 0, none⟩) 2 2) [a, b] := by
 subst hg
 have hO : OwnC (w.alloc (.cells #[u1, v1, u2, v2] 29)) 0 29 2 (.slice (some ⟨w.heap.size, 0, none⟩) 2 2) [[u1, v1], [u2, v2]] :=
  OwnC.made w #[u1, v1, u2, v2] 0 (Nat.zero_le _) (by unfold maxLen; simp) rfl (fun c hc => by
   simp only [List.mem_cons, List.not_mem_nil, or_false] at hc
   rcases hc with rfl | rfl <;> rfl)
 have xx : Ext w (w.alloc (.cells #[u1, v1, u2, v2] 29)) := qXt
 refine Tens.ofRow (rs := [a, b]) (R := fun p => if p = 0 then u1 else if p = 1 then v1 else if p = 2 then u2 else v2) (lo2 := 0) hO (fun i hi => ?_) (by simp) 0 (Nat.le_refl _) (Nat.le_refl _)
 match i, hi with
 | 0, _ => exact ⟨(h1.ext xx).lower (Nat.zero_le _), (h2.ext xx).lower (Nat.zero_le _)⟩
 | 1, _ => exact ⟨(h3.ext xx).lower (Nat.zero_le _), (h4.ext xx).lower (Nat.zero_le _)⟩
 | n + 2, hi => exact absurd hi (by simp)
theorem Lsts.lit2g {w : World} {l1 l2 g : Nat} {u v : Value} {a b : List Int} (hg : g = w.heap.size) (h1 : Ints w l1 u a) (h2 : Ints w l2 v b) : Lsts (w.alloc (.cells #[u, v] 23)) 0 (.slice (some ⟨g, 0, none⟩) 2 2) [⟨a⟩, ⟨b⟩] := by subst hg; exact Lsts.lit2 h1 h2
theorem cby_facts {ts : List Ten} {ls : List Lst} {out : List Int} {i j D : Int} (h : cbyA ts ls out i j = D) (hD : ¬ D < 0) : ∃ x, extA ts ls = some x ∧ (0 ≤ i ∧ i < ts.length ∧ 0 ≤ j ∧ j < ts.length ∧ ¬ i = j) ∧ cbyA ts ls out i j = costB x ls out i.toNat j.toNat := by
 cases he : extA ts ls with
 | none => rw [cbyA_none he] at h; omega
 | some x =>
  by_cases hp : pairP ts.length i j
  ·
   cases hl : labB out with
   | false => rw [cbyA_lab hl] at h; omega
   | true => exact ⟨x, rfl, hp, cbyA_yes he hl hp⟩
  ·
   rw [cbyA_pair hp] at h; omega
set_option maxHeartbeats 12800000 in
theorem lawFnCostBy_c (a : Option Addr) (n cap : Nat) (w : World) (hb : BysIn w a n cap) :
  Calls Try.prog 7 #[.slice a n cap] w fun e w' => e = .returned (.bool true) ∧ Ext w w' := by
 have hcm := hb.1
 have hcm2 := hb.2.1
 unfold maxLen at hcm2
 go_enter Try.func7, Try.ntmps7
 by_cases hc1 : (1048576 : Int) < (n : Int)
 ·
  go_wp2_with fail
  go_ret
  exact ⟨rfl, qXo⟩
 ·
  go_wp2_with fail
  refine (drawCostBy_c a n cap _ hb).mono ?_
  rintro e w1 ⟨ts, ls, out, p0, p1, p2, c0, c1, c2, i, j, rfl, h1, h2, h3, ho, xw1⟩
  have X1 : Ext w w1 := Ext.trans qXt xw1
  clear xw1 hb hcm hcm2
  have R1 : Ext w1 w1 := Ext.refl _
  have hll := h2.len
  replace h1 := Lib.hid h1
  replace h2 := Lib.hid h2
  replace h3 := Lib.hid h3
  obtain ⟨D, hD⟩ : ∃ D, cbyA ts ls out i j = D := ⟨_, rfl⟩
  replace hD := Lib.hid hD
  have hDD : (D != D) = false := by simp
  go_wp2_with fail
  refine (implCostBy_c ts ls out _ _ _ i j _ 0 0 0 (h1.out.ext (R1.trans qXt)) (h2.out.ext (R1.trans qXt)) (h3.out.ext (R1.trans qXt)) ho).mono ?_
  rintro e w2 ⟨rfl, x2⟩
  rw [hD.out]
  have X2 : Ext w1 w2 := Ext.trans qXt x2
  clear x2
  go_wp2_with fail
  refine (specCostBy_c ts ls out _ _ _ i j _ 0 0 0 (h1.out.ext (X2.trans qXt)) (h2.out.ext (X2.trans qXt)) (h3.out.ext (X2.trans qXt)) ho).mono ?_
  rintro e w3 ⟨rfl, x3⟩
  rw [hD.out]
  have X3 : Ext w1 w3 := X2.trans (Ext.trans qXt x3)
  clear x3 X2
  by_cases hneg : D < 0
  ·
   go_wp2_with fail
   refine (specCostBy_c ts ls out _ _ _ i j _ 0 0 0 (h1.out.ext (X3.trans qXt)) (h2.out.ext (X3.trans qXt)) (h3.out.ext (X3.trans qXt)) ho).mono ?_
   rintro e w4 ⟨rfl, x4⟩
   rw [hD.out]
   have X4 : Ext w1 w4 := X3.trans (Ext.trans qXt x4)
   go_wp2_with fail
   go_ret
   exact ⟨by simp, (X1.trans X4).trans qXt⟩
  ·
   obtain ⟨x, he, hp, hcb⟩ := cby_facts hD.out hneg
   obtain ⟨f5, f1, f2, f3, f4, f6⟩ := extA_fact he
   obtain ⟨i, rfl⟩ : ∃ q : Nat, i = q := ⟨i.toNat, by omega⟩
   obtain ⟨j, rfl⟩ : ∃ q : Nat, j = q := ⟨j.toNat, by omega⟩
   rw [Int.toNat_natCast, Int.toNat_natCast, hD.out] at hcb
   have hi : i < ts.length := by omega
   have hj : j < ts.length := by omega
   have hi2 : i < ls.length := by omega
   have hj2 : j < ls.length := by omega
   have hiT : (i : Int) < (ts.length : Int) := by omega
   have hjT : (j : Int) < (ts.length : Int) := by omega
   have hiL : (i : Int) < (ls.length : Int) := by omega
   have hjL : (j : Int) < (ls.length : Int) := by omega
   obtain ⟨T, hT⟩ : ∃ T, cstA [tenAt ts i, tenAt ts j] [⟨(lstAt ls i).s⟩, ⟨(lstAt ls j).s⟩] = T := ⟨_, rfl⟩
   have hT2 := cst_two he hi hj
   rw [hT] at hT2
   have hb1 := msk_bd he (twoP ls i j)
   have hb2 := msk_bd he (resP ls out i j)
   have hTD : 0 ≤ T ∧ T ≤ D := by rw [hcb, hT2]; unfold costB; omega
   have hD' : Hid (cbyA ts ls out (j : Int) (i : Int) = D) := Lib.hid (by rw [← cbyA_symm]; exact hD.out)
   replace hT := Lib.hid hT
   clear he hp hcb hT2 hb1 hb2 f1 f2 f3 f4 f5 f6 hD
   obtain ⟨bt, ot, u1, e1, u2, e2, ea, ta0, ta1, i1, i2⟩ := (h1.out.ext X3).at i hi
   obtain ⟨bt', ot', u3, e3, u4, e4, eb, tb0, tb1, i3, i4⟩ := (h1.out.ext X3).at j hj
   obtain ⟨bl, ol, u5, e5, ec, la0, i5⟩ := (h2.out.ext X3).at i hi2
   obtain ⟨bl', ol', u6, e6, ed, lb0, i6⟩ := (h2.out.ext X3).at j hj2
   subst ea
   cases eb
   subst ec
   cases ed
   replace i1 := Lib.hid i1
   replace i2 := Lib.hid i2
   replace i3 := Lib.hid i3
   replace i4 := Lib.hid i4
   replace i5 := Lib.hid i5
   replace i6 := Lib.hid i6
   go_wp2_with fail
   refine wp_region_held_drew (S := fun w' => w'.cell? ⟨bt, ot + i * 2, none⟩ = some (.slice u1 (tenAt ts i).s.length e1) ∧ w'.cell? ⟨bt, ot + i * 2 + 1, none⟩ = some (.slice u2 (tenAt ts i).t.length e2) ∧ w'.cell? ⟨bt, ot + j * 2, none⟩ = some (.slice u3 (tenAt ts j).s.length e3) ∧ w'.cell? ⟨bt, ot + j * 2 + 1, none⟩ = some (.slice u4 (tenAt ts j).t.length e4) ∧ w'.cell? ⟨bl, ol + i, none⟩ = some (.slice u5 (lstAt ls i).s.length e5) ∧ w'.cell? ⟨bl, ol + j, none⟩ = some (.slice u6 (lstAt ls j).s.length e6)) qKr ⟨ta0, ta1, tb0, tb1, la0, lb0⟩ (fun hHeld => ?_)
   refine qHk (v := ?_) 0 rfl (.inl ⟨by rfl, ?_⟩) ?_
   rotate_left
   ·
    (intro w hSw; (try dsimp only at hSw); go_simp; try with_reducible rfl)
   try simp only [Act.put, qa, qb, qc, qD, qE, qF]
   refine qHk (v := ?_) 1 rfl (.inl ⟨by rfl, ?_⟩) ?_
   rotate_left
   ·
    (intro w hSw; (try dsimp only at hSw); go_simp; try with_reducible rfl)
   try simp only [Act.put, qa, qb, qc, qD, qE, qF]
   refine qHk (v := ?_) 2 rfl (.inl ⟨by rfl, ?_⟩) ?_
   rotate_left
   ·
    (intro w hSw; (try dsimp only at hSw); go_simp; try with_reducible rfl)
   try simp only [Act.put, qa, qb, qc, qD, qE, qF]
   refine qHk (v := ?_) 3 rfl (.inl ⟨by rfl, ?_⟩) ?_
   rotate_left
   ·
    (intro w hSw; (try dsimp only at hSw); go_simp; try with_reducible rfl)
   try simp only [Act.put, qa, qb, qc, qD, qE, qF]
   refine qHk (v := ?_) 4 rfl (.inl ⟨by rfl, ?_⟩) ?_
   rotate_left
   ·
    (intro w hSw; (try dsimp only at hSw); go_simp; try with_reducible rfl)
   try simp only [Act.put, qa, qb, qc, qD, qE, qF]
   refine qHk (v := ?_) 5 rfl (.inl ⟨by rfl, ?_⟩) ?_
   rotate_left
   ·
    (intro w hSw; (try dsimp only at hSw); go_simp; try with_reducible rfl)
   try simp only [Act.put, qa, qb, qc, qD, qE, qF]
   refine qHk (v := ?_) 6 rfl (.inl ⟨by rfl, ?_⟩) ?_
   rotate_left
   ·
    (intro w hSw; (try dsimp only at hSw); go_simp; try with_reducible rfl)
   try simp only [Act.put, qa, qb, qc, qD, qE, qF]
   refine qHk (v := ?_) 7 rfl (.inl ⟨by rfl, ?_⟩) ?_
   rotate_left
   ·
    (intro w hSw; (try dsimp only at hSw); go_simp; try with_reducible rfl)
   try simp only [Act.put, qa, qb, qc, qD, qE, qF]
   refine qHk (v := ?_) 9 rfl (.inl ⟨by rfl, ?_⟩) ?_
   rotate_left
   ·
    (intro w hSw; (try dsimp only at hSw); go_simp; try with_reducible rfl)
   try simp only [Act.put, qa, qb, qc, qD, qE, qF]
   refine qHk (v := ?_) 10 rfl (.inl ⟨by rfl, ?_⟩) ?_
   rotate_left
   ·
    (intro w hSw; (try dsimp only at hSw); go_simp; try with_reducible rfl)
   try simp only [Act.put, qa, qb, qc, qD, qE, qF]
   refine qHk (v := ?_) 11 rfl (.inl ⟨by rfl, ?_⟩) ?_
   rotate_left
   ·
    (intro w hSw; (try dsimp only at hSw); go_simp; try with_reducible rfl)
   try simp only [Act.put, qa, qb, qc, qD, qE, qF]
   refine qHk (v := ?_) 12 rfl (.inl ⟨by rfl, ?_⟩) ?_
   rotate_left
   ·
    (intro w hSw; (try dsimp only at hSw); go_simp; try with_reducible rfl)
   try simp only [Act.put, qa, qb, qc, qD, qE, qF]
   refine qHk (v := ?_) 13 rfl (.inl ⟨by rfl, ?_⟩) ?_
   rotate_left
   ·
    (intro w hSw; (try dsimp only at hSw); go_simp; try with_reducible rfl)
   try simp only [Act.put, qa, qb, qc, qD, qE, qF]
   refine qHk (v := ?_) 14 rfl (.inl ⟨by rfl, ?_⟩) ?_
   rotate_left
   ·
    (intro w hSw; (try dsimp only at hSw); go_simp; try with_reducible rfl)
   try simp only [Act.put, qa, qb, qc, qD, qE, qF]
   refine qHk (v := ?_) 15 rfl (.inl ⟨by rfl, ?_⟩) ?_
   rotate_left
   ·
    (intro w hSw; (try dsimp only at hSw); go_simp; try with_reducible rfl)
   try simp only [Act.put, qa, qb, qc, qD, qE, qF]
   refine qHk (v := ?_) 16 rfl (.inl ⟨by rfl, ?_⟩) ?_
   rotate_left
   ·
    (intro w hSw; (try dsimp only at hSw); go_simp; try with_reducible rfl)
   try simp only [Act.put, qa, qb, qc, qD, qE, qF]
   refine wpAnyH_ready (rs := [8, 17]) qKr (by simp) ?_
   refine AllReadyH.cons rfl (fun K hK => ?_) (AllReadyH.cons rfl (fun K hK => ?_) AllReadyH.nil)
   ·
    skip
    try simp only [Act.put, qa, qb, qc, qD, qE, qF]
    go_simp
    have EA : Ext w3 (w3.alloc (.cells #[.slice u1 (tenAt ts i).s.length e1, .slice u2 (tenAt ts i).t.length e2, .slice u3 (tenAt ts j).s.length e3, .slice u4 (tenAt ts j).t.length e4] 29)) := qXt
    refine hK.out _ _ ⟨(EA).cell ta0, (EA).cell ta1, (EA).cell tb0, (EA).cell tb1, (EA).cell la0, (EA).cell lb0⟩ (fun hHeld => ?_)
    clear hK K
    try simp only [Act.put, qa, qb, qc, qD, qE, qF]
    refine qHr 17 rfl (fun K hK => ?_)
    try simp only [Act.put, qa, qb, qc, qD, qE, qF]
    go_simp
    have EB : Ext w3 ((w3.alloc (.cells #[.slice u1 (tenAt ts i).s.length e1, .slice u2 (tenAt ts i).t.length e2, .slice u3 (tenAt ts j).s.length e3, .slice u4 (tenAt ts j).t.length e4] 29)).alloc (.cells #[.slice u5 (lstAt ls i).s.length e5, .slice u6 (lstAt ls j).s.length e6] 23)) := qXt
    refine hK.out _ _ ⟨(EB).cell ta0, (EB).cell ta1, (EB).cell tb0, (EB).cell tb1, (EB).cell la0, (EB).cell lb0⟩ (fun hHeld => ?_)
    clear hK K
    try simp only [Act.put, qa, qb, qc, qD, qE, qF]
    refine qHr 18 rfl (fun K hK => ?_)
    try simp only [Act.put, qa, qb, qc, qD, qE, qF]
    go_simp
    refine (implCostOf_c [tenAt ts i, tenAt ts j] [⟨(lstAt ls i).s⟩, ⟨(lstAt ls j).s⟩] _ _ _ 0 0 (by with_reducible exact (Tens.ext (Tens.lit2 (g := w3.heap.size) (by first | rfl | simp) (Ints.ext i1.out (Ext.refl w3)) (Ints.ext i2.out (Ext.refl w3)) (Ints.ext i3.out (Ext.refl w3)) (Ints.ext i4.out (Ext.refl w3))) (Ext.drew (Ext.alloc (Ext.refl _) _)))) (by with_reducible exact (Lsts.ext (Lsts.lit2g (g := w3.heap.size + 1) (by simp) (Ints.ext i5.out EA) (Ints.ext i6.out EA)) (Ext.drew (Ext.refl _))))).mono ?_
    rintro e w4 ⟨rfl, x4⟩
    rw [hT.out]
    have XW : Ext w3 w4 := (Ext.drew EB).trans x4
    clear x4 EA EB
    refine hK.out _ _ ⟨(XW).cell ta0, (XW).cell ta1, (XW).cell tb0, (XW).cell tb1, (XW).cell la0, (XW).cell lb0⟩ (fun hHeld => ?_)
    clear hK K
    try simp only [Act.put, qa, qb, qc, qD, qE, qF]
    refine qHk (v := ?_) 19 rfl (.inl ⟨by rfl, ?_⟩) ?_
    rotate_left
    ·
     (intro w hSw; (try dsimp only at hSw); go_simp; try with_reducible rfl)
    try simp only [Act.put, qa, qb, qc, qD, qE, qF]
    refine wpAnyH_done qKr ?_ _
    clear hHeld
    try simp only [Act.put, qa, qb, qc, qD, qE, qF]
    have X5 := X3.trans XW
    go_wp2_with fail
    refine (implCostBy_c ts ls out _ _ _ (j : Int) (i : Int) _ 0 0 0 (h1.out.ext (X5.trans qXt)) (h2.out.ext (X5.trans qXt)) (h3.out.ext (X5.trans qXt)) ho).mono ?_
    rintro e w6 ⟨rfl, x6⟩
    rw [hD'.out]
    have X6 : Ext w1 w6 := X5.trans (Ext.trans qXt x6)
    have hz1 : 0 ≤ T := hTD.1
    have hz2 : T ≤ D := hTD.2
    have hz3 : ¬ T < 0 := by omega
    have hz4 : ¬ D < T := by omega
    go_wp2_with fail
    go_ret
    exact ⟨by simp [hz1, hz2], (X1.trans X6).trans qXt⟩
   ·
    skip
    try simp only [Act.put, qa, qb, qc, qD, qE, qF]
    go_simp
    have EA : Ext w3 (w3.alloc (.cells #[.slice u5 (lstAt ls i).s.length e5, .slice u6 (lstAt ls j).s.length e6] 23)) := qXt
    refine hK.out _ _ ⟨(EA).cell ta0, (EA).cell ta1, (EA).cell tb0, (EA).cell tb1, (EA).cell la0, (EA).cell lb0⟩ (fun hHeld => ?_)
    clear hK K
    try simp only [Act.put, qa, qb, qc, qD, qE, qF]
    refine qHr 8 rfl (fun K hK => ?_)
    try simp only [Act.put, qa, qb, qc, qD, qE, qF]
    go_simp
    have EB : Ext w3 ((w3.alloc (.cells #[.slice u5 (lstAt ls i).s.length e5, .slice u6 (lstAt ls j).s.length e6] 23)).alloc (.cells #[.slice u1 (tenAt ts i).s.length e1, .slice u2 (tenAt ts i).t.length e2, .slice u3 (tenAt ts j).s.length e3, .slice u4 (tenAt ts j).t.length e4] 29)) := qXt
    refine hK.out _ _ ⟨(EB).cell ta0, (EB).cell ta1, (EB).cell tb0, (EB).cell tb1, (EB).cell la0, (EB).cell lb0⟩ (fun hHeld => ?_)
    clear hK K
    try simp only [Act.put, qa, qb, qc, qD, qE, qF]
    refine qHr 18 rfl (fun K hK => ?_)
    try simp only [Act.put, qa, qb, qc, qD, qE, qF]
    go_simp
    refine (implCostOf_c [tenAt ts i, tenAt ts j] [⟨(lstAt ls i).s⟩, ⟨(lstAt ls j).s⟩] _ _ _ 0 0 (by with_reducible exact (Tens.ext (Tens.lit2 (g := w3.heap.size + 1) (by simp) (Ints.ext i1.out EA) (Ints.ext i2.out EA) (Ints.ext i3.out EA) (Ints.ext i4.out EA)) (Ext.drew (Ext.refl _)))) (by with_reducible exact (Lsts.ext (Lsts.lit2g (g := w3.heap.size) (by first | rfl | simp) (Ints.ext i5.out (Ext.refl w3)) (Ints.ext i6.out (Ext.refl w3))) (Ext.drew (Ext.alloc (Ext.refl _) _))))).mono ?_
    rintro e w4 ⟨rfl, x4⟩
    rw [hT.out]
    have XW : Ext w3 w4 := (Ext.drew EB).trans x4
    clear x4 EA EB
    refine hK.out _ _ ⟨(XW).cell ta0, (XW).cell ta1, (XW).cell tb0, (XW).cell tb1, (XW).cell la0, (XW).cell lb0⟩ (fun hHeld => ?_)
    clear hK K
    try simp only [Act.put, qa, qb, qc, qD, qE, qF]
    refine qHk (v := ?_) 19 rfl (.inl ⟨by rfl, ?_⟩) ?_
    rotate_left
    ·
     (intro w hSw; (try dsimp only at hSw); go_simp; try with_reducible rfl)
    try simp only [Act.put, qa, qb, qc, qD, qE, qF]
    refine wpAnyH_done qKr ?_ _
    clear hHeld
    try simp only [Act.put, qa, qb, qc, qD, qE, qF]
    have X5 := X3.trans XW
    go_wp2_with fail
    refine (implCostBy_c ts ls out _ _ _ (j : Int) (i : Int) _ 0 0 0 (h1.out.ext (X5.trans qXt)) (h2.out.ext (X5.trans qXt)) (h3.out.ext (X5.trans qXt)) ho).mono ?_
    rintro e w6 ⟨rfl, x6⟩
    rw [hD'.out]
    have X6 : Ext w1 w6 := X5.trans (Ext.trans qXt x6)
    have hz1 : 0 ≤ T := hTD.1
    have hz2 : T ≤ D := hTD.2
    have hz3 : ¬ T < 0 := by omega
    have hz4 : ¬ D < T := by omega
    go_wp2_with fail
    go_ret
    exact ⟨by simp [hz1, hz2], (X1.trans X6).trans qXt⟩

end Go.Proofs.Ytpgkhjmboiepcaa

/- The law FnCostBy holds for all bytes: the call returns true, and its argument reads as it did. No condition. -/
namespace Go.Proofs.Ytpgkhjmboiepcaa.rowFnCostBy
open Go.ChangeShapes Go.WideShapes Go.ChangeAt Go.RowKit
set_option linter.unusedVariables false

set_option maxHeartbeats 1000000 in
set_option maxRecDepth 100000 in
theorem lifted (os : Os) (started : os.Started) (H : Type) (enc : TypeId × Value → H) :
    ReturnsInHanded {} Try.checked os 7 .any (Rows.fnCostBySpec.pre6 enc Try.prog Try.f7 Rows.fnCostByRow.domain false) (Rows.fnCostBySpec.post enc Try.prog Try.f7 false true false false) := by
  refine returnsInHanded_of_change (C := Try.checked) own started qKr Try.func7
    (ChangeSpec.witness6 (enc := enc) (C := Try.checked) false ⟨#[], #[.slice none 0 0], []⟩ 8 qKr qKr qKr qKr) ?_
  intro W base args ds gs before hval0 hW hcnd _
  have hval : ∀ (j : Nat) t v, Try.f7.params[j]? = some t → args[j]? = some v → Value.okWide Try.prog W .any base t v := hval0
  have hW' := hW
  obtain ⟨p, q, hA0, hV, rfl, hfz, hnd⟩ := hW
  have hA : DataW.TrodAll enc Try.prog W 0 (fun _ => true) true Try.f7.params.toList args.toList ds p := hA0
  rw [Try.params7] at hA hval
  obtain ⟨v0, vs0, d0, ds0, p0, q0, hargs0, rfl, rfl, h0, r0⟩ := trodAll_cons hA
  obtain ⟨rfl, rfl, rfl⟩ := trodAll_nil r0
  obtain rfl : args = #[v0] := by cases args; simp_all
  obtain ⟨rfl, rfl⟩ := trodVars_none hV
  obtain ⟨a0, len0, cap0, rfl⟩ := okWide_slice Try.underlying22 (hval 0 22 v0 rfl rfl)
  have k0 := h0
  have lt0 : ∀ x ∈ p0, x.block < W.heap.size := by obtain ⟨m, hm⟩ := k0; exact DataW.trod_lt m _ _ _ hm
  have w0 : BysIn W a0 len0 cap0 := by
    obtain ⟨fuel, hf⟩ := h0
    rcases open_ints Try.underlying22 Try.underlying5 qKr hf with ⟨hcs, _⟩ | ⟨x, l, c, zs, hcs, _, hl, hm, hz, _, hcell, hwz⟩
    · simp [Value.cells] at hcs
      obtain ⟨rfl, rfl, rfl⟩ := hcs
      exact ⟨Nat.le_refl _, by simp, fun i hi => absurd hi (by simp)⟩
    · simp [Value.cells] at hcs
      obtain ⟨rfl, rfl, rfl⟩ := hcs
      have hzl : zs.length = cap0 := by simpa using hz
      exact bys_of_cells hl hm hzl hcell hwz
  clear hA0 hval0
  refine (lawFnCostBy_c a0 len0 cap0 W w0).mono fun e W' ⟨he, bel⟩ => ?_
  subst he
  exact ⟨_, rfl, _, _, _, [], _, [], hW', trodAll_mk1 (shut_bool Try.underlying4 _), (trodAll_cons_mk (Below.trod laidOut qKr (of_decide_eq_true qKr) k0 bel lt0) trodAll_mk0), rfl, Below.frame bel _, fun h => by cases h⟩

set_option maxHeartbeats 2000000 in
theorem closed : joinedFacts Try.checked.prog 7 Try.f7 Rows.fnCostBySpec Rows.fnCostByRow = true :=
  facts.all qKr qKr qKr qKr qKr (by as_aux_lemma => kernel_rfl) (by as_aux_lemma => kernel_rfl) (by as_aux_lemma => kernel_rfl) (by as_aux_lemma => kernel_rfl)
    (by as_aux_lemma => kernel_rfl) (by as_aux_lemma => kernel_rfl) rfl rfl rfl rfl qKr qKr (by as_aux_lemma => kernel_rfl) (by as_aux_lemma => kernel_rfl)

theorem named : Try.pinned.checked.prog.funcNamed Rows.fnCostByRow.func = some 7 := by kernel_rfl

theorem over : Rows.fnCostByRow.holds Try.pinned (OpenSpec.ofChange Rows.fnCostBySpec) :=
  OpenClaim.holds_of_wide 7 Try.f7 rfl rfl rfl rfl rfl rfl rfl ⟨rfl, rfl, rfl, rfl, rfl⟩ rfl rfl rfl rfl rfl named Try.func7 closed
    (of_decide_eq_true qKr) (by unfold Func.isWrapper; exact ⟨rfl, rfl⟩)
    (fun os started H enc _ => lifted os started H enc)

theorem proved : Rows.FnCostBySaid := over

end Go.Proofs.Ytpgkhjmboiepcaa.rowFnCostBy
