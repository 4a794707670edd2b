/- The library's sort, compact, contains, index and equal on lists of ints, in the words of these proofs. -/
import Derived.Test.YtjpngmdfnglabaaMem
import Derived.Test.YtjpngmdfnglabaaShelf
import Derived.Test.YtjpngmdfnglabaaPureA
import Derived.Sort.OwnSortedInts
namespace Go.Proofs.Ytjpngmdfnglabaa
open Go.RowKit Go.Sort
set_option linter.unusedVariables false
set_option maxRecDepth 100000


theorem sort_c (xs : List Int) (v : Value) (w : World) (base : Nat) (h : OwnZ w base v xs) (hn : xs.length ≤ 4194304) (hbz : base ≤ w.heap.size) :
    Calls Try.prog 51 #[v] w fun e w' => e = .returned (.tuple #[]) ∧ OwnZ w' base v (sortL xs) ∧ Below base w w' := by
  rcases h with ⟨rfl, a, cap, rfl, hc, ha⟩ | h
  · refine (Try.slices_Sort_int_none a cap w).mono ?_
    rintro e w' ⟨rfl, rfl⟩
    exact ⟨rfl, .inl ⟨by simp [sortL], a, cap, rfl, hc, ha⟩, Below.refl _ _⟩
  · rcases h.2 with ⟨rfl, h0⟩ | ⟨g, cap, cur, rfl, hb, hg, hnc, hcm, hcs, ht⟩
    · obtain rfl : xs = [] := List.eq_nil_of_length_eq_zero h0
      refine (Try.slices_Sort_int_none none 0 w).mono ?_
      rintro e w' ⟨rfl, rfl⟩
      exact ⟨rfl, .inl ⟨by simp [sortL], none, 0, rfl, by simp, fun _ => rfl⟩, Below.refl _ _⟩
    · refine (Try.slices_Sort_int g 0 cap xs w (holds_of_blockI hg (by simpa using ht)) (Array.getElem?_eq_some_iff.1 hg).1 (by omega)).mono ?_
      rintro e w' ⟨rfl, n, os, rfl⟩
      refine ⟨rfl, .inr ?_, (Below.refl base w).grown (grownBy_sortedI _) hbz (fun k hk => by cases hk; exact hb)⟩
      unfold OwnI
      rw [sortL_len]
      exact ownsRow_sortedI (ts := sortL xs) (sortL_len xs) hb hg hnc hcm hcs

def hasB (xs : List Int) (x : Int) : Bool := xs.contains x
theorem contains_c (xs : List Int) (v : Value) (x : Int) (w : World) (lo : Nat) (h : Ints w lo v xs) :
    Calls Try.prog 50 #[v, .int .i64 x] w fun e w' => e = .returned (.bool (hasB xs x)) ∧ w = w' := by
  obtain ⟨a, cap, rfl, h1, h2, ⟨h3, h3'⟩, h4⟩ := h
  by_cases he : xs = []
  · subst he
    refine (Try.slices_Contains_int_empty a cap x w).mono ?_
    rintro e w' ⟨rfl, rfl⟩
    exact ⟨rfl, rfl⟩
  · have hpos : 0 < xs.length := by cases xs <;> simp_all
    obtain ⟨b, off, rfl, _⟩ := h4 0 hpos
    refine (Try.slices_Contains_int b off xs.length cap xs x w (Nat.le_refl _) (by omega) (fun j hj => by obtain ⟨b', off', he, _, hc, _⟩ := h4 j hj; cases he; exact hc)).mono ?_
    rintro e w' ⟨rfl, rfl⟩
    exact ⟨by rw [List.take_length]; rfl, rfl⟩

theorem index_c (xs : List Int) (v : Value) (x : Int) (w : World) (lo : Nat) (h : Ints w lo v xs) :
    Calls Try.prog 58 #[v, .int .i64 x] w fun e w' => e = .returned (.int .i64 (Lib.idxOf xs x)) ∧ w = w' := by
  obtain ⟨a, cap, rfl, h1, h2, ⟨h3, h3'⟩, h4⟩ := h
  by_cases he : xs = []
  · subst he
    refine (Try.slices_Index_int_empty a cap x w).mono ?_
    rintro e w' ⟨rfl, rfl⟩
    exact ⟨rfl, rfl⟩
  · have hpos : 0 < xs.length := by cases xs <;> simp_all
    obtain ⟨b, off, rfl, _⟩ := h4 0 hpos
    refine (Try.slices_Index_int b off xs.length cap xs x w (Nat.le_refl _) (by omega) (fun j hj => by obtain ⟨b', off', he, _, hc, _⟩ := h4 j hj; cases he; exact hc)).mono ?_
    rintro e w' ⟨rfl, rfl⟩
    exact ⟨by rw [List.take_length], rfl⟩

def sameB (xs ys : List Int) : Bool := xs == ys
theorem equal_c (xs ys : List Int) (a b : Value) (w : World) (la lb : Nat) (ha : Ints w la a xs) (hb : Ints w lb b ys) :
    Calls Try.prog 93 #[a, b] w fun e w' => e = .returned (.bool (sameB xs ys)) ∧ ∃ q, w' = w.drewN q := by
  obtain ⟨a1, cap1, rfl, _, _, ⟨hl1, _⟩, hc1⟩ := ha
  obtain ⟨a2, cap2, rfl, _, _, ⟨hl2, _⟩, hc2⟩ := hb
  by_cases hx : xs = []
  · subst hx
    refine (Try.slices_Equal_int_empty a1 a2 cap1 ys.length cap2 w (by omega)).mono ?_
    rintro e w' ⟨rfl, rfl⟩
    refine ⟨?_, 0, rfl⟩
    cases ys <;> rfl
  · by_cases hy : ys = []
    · subst hy
      refine (Try.slices_Equal_int_lens a1 a2 xs.length cap1 0 cap2 w (by cases xs <;> simp_all)).mono ?_
      rintro e w' ⟨rfl, rfl⟩
      refine ⟨?_, 0, rfl⟩
      cases xs <;> simp_all [sameB]
    · obtain ⟨b1, o1, rfl, _⟩ := hc1 0 (by cases xs <;> simp_all)
      obtain ⟨b2, o2, rfl, _⟩ := hc2 0 (by cases ys <;> simp_all)
      refine (Try.slices_Equal_int b1 o1 xs.length cap1 b2 o2 ys.length cap2 xs ys w (Nat.le_refl _) (Nat.le_refl _) (by omega) (by omega) (fun j hj => by obtain ⟨b', off', he, _, hc, _⟩ := hc1 j hj; cases he; exact hc) (fun j hj => by obtain ⟨b', off', he, _, hc, _⟩ := hc2 j hj; cases he; exact hc)).mono ?_
      rintro e w' ⟨rfl, q, rfl⟩
      exact ⟨by rw [List.take_length, List.take_length]; rfl, q, rfl⟩

theorem compact_len_le (xs : List Int) : (Lib.compact xs).length ≤ xs.length := by
  unfold Lib.compact Lib.compactUpTo
  rw [List.length_map]
  exact Nat.le_trans (List.length_filter_le _ _) (by simp)

end Go.Proofs.Ytjpngmdfnglabaa
