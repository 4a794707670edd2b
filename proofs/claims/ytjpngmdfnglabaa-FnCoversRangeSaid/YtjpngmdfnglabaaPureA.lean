/- Plain laws on lists of ints: ascending lists, sorted and compacted lists, lists of different numbers. -/
import Derived.Lib.SlicesCompact
namespace Go.Proofs.Ytjpngmdfnglabaa

theorem asc_ext : ∀ (a b : List Int), a.Pairwise (· < ·) → b.Pairwise (· < ·) → (∀ x, x ∈ a ↔ x ∈ b) → a = b := by
  intro a
  induction a with
  | nil =>
    intro b _ _ h
    cases b with
    | nil => rfl
    | cons y b => exact absurd ((h y).2 (List.mem_cons_self ..)) (by simp)
  | cons x a ih =>
    intro b ha hb h
    cases b with
    | nil => exact absurd ((h x).1 (List.mem_cons_self ..)) (by simp)
    | cons y b =>
      rw [List.pairwise_cons] at ha hb
      have hxy : x = y := by
        have h1 := (h x).1 (List.mem_cons_self ..)
        have h2 := (h y).2 (List.mem_cons_self ..)
        rcases List.mem_cons.1 h1 with h1 | h1
        · exact h1
        · rcases List.mem_cons.1 h2 with h2 | h2
          · exact h2.symm
          · have := hb.1 x h1; have := ha.1 y h2; omega
      subst hxy
      rw [ih b ha.2 hb.2]
      intro z
      constructor
      · intro hz
        rcases List.mem_cons.1 ((h z).1 (List.mem_cons_of_mem _ hz)) with h1 | h1
        · subst h1; have := ha.1 z hz; omega
        · exact h1
      · intro hz
        rcases List.mem_cons.1 ((h z).2 (List.mem_cons_of_mem _ hz)) with h1 | h1
        · subst h1; have := hb.1 z hz; omega
        · exact h1

theorem asc_nodup {a : List Int} (h : a.Pairwise (· < ·)) : a.Nodup := h.imp (fun h => by omega)

theorem asc_len {a xs : List Int} (h : a.Pairwise (· < ·)) (hm : ∀ x, x ∈ a ↔ x ∈ xs) : a.length = xs.length ↔ xs.Nodup := by
  constructor
  · intro hl
    rw [List.nodup_iff_count]
    intro x
    rcases Nat.lt_or_ge 1 (List.count x xs) with hc | hc
    · exfalso
      have hx : x ∈ xs := List.count_pos_iff.1 (by omega)
      have hsub : a ⊆ xs.erase x := by
        intro y hy
        have hyx := (hm y).1 hy
        by_cases e : y = x
        · subst e
          exact List.count_pos_iff.1 (by rw [List.count_erase_self]; omega)
        · exact (List.mem_erase_of_ne e).2 hyx
      have h1 := List.Nodup.length_le_of_subset (asc_nodup h) hsub
      have h2 := List.length_erase_of_mem hx
      have h3 : 0 < xs.length := List.length_pos_of_mem hx
      omega
    · exact hc
  · intro hn
    exact ((List.perm_ext_iff_of_nodup (asc_nodup h) hn).2 hm).length_eq

theorem compact_asc (zs : List Int) (hs : zs.Pairwise (· ≤ ·)) : (Lib.compact zs).Pairwise (· < ·) ∧ ∀ x, x ∈ Lib.compact zs ↔ x ∈ zs := by
  have key : ∀ m, m ≤ zs.length → (Lib.compactUpTo zs.toArray m).Pairwise (· < ·) ∧ (∀ x, x ∈ Lib.compactUpTo zs.toArray m ↔ x ∈ zs.take m) := by
    intro m
    induction m with
    | zero => intro _; simp [Lib.compactUpTo]
    | succ m ih =>
      intro hm
      obtain ⟨h1, h2⟩ := ih (by omega)
      have hlt : m < zs.length := by omega
      have hd : zs.toArray[m]! = zs[m] := by simp [hlt]
      rw [Lib.compactUpTo_succ, List.take_succ_eq_append_getElem hlt, hd]
      have hle : ∀ x, x ∈ zs.take m → x ≤ zs[m] := by
        intro x hx
        rw [← List.take_append_drop m zs, List.pairwise_append] at hs
        exact hs.2.2 x hx _ (by rw [List.drop_eq_getElem_cons hlt]; exact List.mem_cons_self ..)
      by_cases hk : Lib.keeps zs.toArray m = true
      · rw [if_pos hk]
        constructor
        · rw [List.pairwise_append]
          refine ⟨h1, by simp, ?_⟩
          intro x hx y hy
          simp at hy; subst hy
          have hx' := (h2 x).1 hx
          have h3 := hle x hx'
          rcases Int.lt_or_le x zs[m] with h | h
          · exact h
          · exfalso
            have hxe : x = zs[m] := by omega
            simp only [Lib.keeps, decide_eq_true_eq] at hk
            rcases hk with hk | hk
            · subst hk; simp at hx'
            · have hm1 : m - 1 < zs.length := by omega
              have hmpos : 0 < m := by
                rcases Nat.eq_zero_or_pos m with h0 | h0
                · subst h0; simp at hx'
                · exact h0
              have e1 : zs.toArray[m-1]! = zs[m-1] := by simp [hm1]
              rw [hd, e1] at hk
              apply hk
              have hle2 : zs[m-1] ≤ zs[m] := List.pairwise_iff_getElem.1 hs (m-1) m hm1 hlt (by omega)
              obtain ⟨i, hi, rfl⟩ := List.mem_take_iff_getElem.1 hx'
              have : zs[i] ≤ zs[m-1] := by
                rcases Nat.lt_or_ge i (m-1) with h' | h'
                · exact List.pairwise_iff_getElem.1 hs i (m-1) (by omega) hm1 h'
                · have : i = m - 1 := by omega
                  subst this; exact Int.le_refl _
              omega
        · intro x
          rw [List.mem_append, List.mem_append, h2]
      · rw [if_neg hk, List.append_nil]
        refine ⟨h1, fun x => ?_⟩
        rw [h2, List.mem_append]
        constructor
        · exact fun h => .inl h
        · rintro (h | h)
          · exact h
          · simp at h; subst h
            simp only [Lib.keeps, decide_eq_true_eq, not_or, Classical.not_not] at hk
            have hm1 : m - 1 < zs.length := by omega
            have e1 : zs.toArray[m-1]! = zs[m-1] := by simp [hm1]
            rw [hd, e1] at hk
            rw [hk.2]
            exact List.mem_take_iff_getElem.2 ⟨m-1, by omega, rfl⟩
  have := key zs.length (Nat.le_refl _)
  rw [List.take_length] at this
  exact this

def sortL (xs : List Int) : List Int := xs.mergeSort fun x y => decide (x ≤ y)
theorem sortL_len (xs : List Int) : (sortL xs).length = xs.length := List.length_mergeSort _
theorem sortL_mem (xs : List Int) (x : Int) : x ∈ sortL xs ↔ x ∈ xs := (List.mergeSort_perm _ _).mem_iff
theorem sortL_asc (xs : List Int) : (sortL xs).Pairwise (· ≤ ·) := by
  have := List.pairwise_mergeSort (le := fun x y : Int => decide (x ≤ y)) (by intro a b c; simp; omega) (by intro a b; simp; omega) xs
  exact this.imp (by simp)

theorem dedup_spec (xs : List Int) : (Lib.compact (sortL xs)).Pairwise (· < ·) ∧ ∀ x, x ∈ Lib.compact (sortL xs) ↔ x ∈ xs := by
  obtain ⟨h1, h2⟩ := compact_asc (sortL xs) (sortL_asc xs)
  exact ⟨h1, fun x => (h2 x).trans (sortL_mem xs x)⟩

/-- 0, 1, .. -/
def upL (n : Nat) : List Int := (List.range n).map fun i : Nat => (i : Int)
theorem upL_succ (n : Nat) : upL (n+1) = upL n ++ [(n : Int)] := by simp [upL, List.range_succ]
theorem upL_mem (n : Nat) (x : Int) : x ∈ upL n ↔ 0 ≤ x ∧ x < n := by
  simp only [upL, List.mem_map, List.mem_range]
  constructor
  · rintro ⟨i, hi, rfl⟩; omega
  · rintro ⟨h0, h1⟩; exact ⟨x.toNat, by omega, by omega⟩
theorem upL_asc (n : Nat) : (upL n).Pairwise (· < ·) := by
  rw [upL, List.pairwise_map]
  exact List.pairwise_lt_range.imp (by intros; omega)

end Go.Proofs.Ytjpngmdfnglabaa
