/- Plain laws: products of extents, ranks of indices, other shapes of the same cells. -/
import Derived.Test.YtjpngmdfnglabaaViewG
namespace Go.Proofs.Ytjpngmdfnglabaa
open Go.RowKit
set_option linter.unusedVariables false

/-- the product of extents, unbounded -/
def prodL (xs : List Int) : Int := xs.foldr (· * ·) 1
theorem prodL_cons (x : Int) (xs : List Int) : prodL (x :: xs) = x * prodL xs := rfl
theorem prodL_append (xs ys : List Int) : prodL (xs ++ ys) = prodL xs * prodL ys := by
  induction xs with
  | nil => simp [prodL]
  | cons x xs ih => rw [List.cons_append, prodL_cons, ih, prodL_cons, Int.mul_assoc]
theorem prodL_pos {xs : List Int} (h : ∀ e ∈ xs, 1 ≤ e) : 1 ≤ prodL xs := by
  induction xs with
  | nil => simp [prodL]
  | cons x xs ih =>
    have h1 := h x (List.mem_cons_self ..)
    have h2 := ih (fun e he => h e (List.mem_cons_of_mem _ he))
    rw [prodL_cons]
    have := Int.mul_le_mul h1 h2 (by omega) (by omega)
    simpa using this
theorem prodL_nonneg {xs : List Int} (h : ∀ e ∈ xs, 0 ≤ e) : 0 ≤ prodL xs := by
  induction xs with
  | nil => simp [prodL]
  | cons x xs ih => rw [prodL_cons]; exact Int.mul_nonneg (h x (List.mem_cons_self ..)) (ih (fun e he => h e (List.mem_cons_of_mem _ he)))

/-- a few extents, none of them great -/
def Small (xs : List Int) : Prop := xs.length ≤ 4 ∧ ∀ e ∈ xs, 0 ≤ e ∧ e ≤ 60
theorem Small.of {xs : List Int} (h : shapeB xs = true) : Small xs := ⟨(shapeB_in h).1, (shapeB_in h).2.1⟩
theorem Small.drop {xs : List Int} (h : Small xs) (k : Nat) : Small (xs.drop k) := ⟨by have := h.1; simp; omega, fun e he => h.2 e (List.mem_of_mem_drop he)⟩
theorem Small.take {xs : List Int} (h : Small xs) (k : Nat) : Small (xs.take k) := ⟨by have := h.1; simp; omega, fun e he => h.2 e (List.mem_of_mem_take he)⟩
theorem Small.count {xs : List Int} (h : Small xs) : countL xs = prodL xs ∧ 0 ≤ countL xs ∧ countL xs ≤ 12960000 ∧ (0 < countL xs → ∀ e ∈ xs, 1 ≤ e) := by
  have := countL_zero_or h.1 h.2
  exact ⟨this.2.2.2, this.1, this.2.1, this.2.2.1⟩
theorem prodL_split (xs : List Int) (i : Nat) (h : i < xs.length) : prodL xs = prodL (xs.take i) * (xs[i] * prodL (xs.drop (i+1))) := by
  conv => lhs; rw [← List.take_append_drop i xs, prodL_append, List.drop_eq_getElem_cons h, prodL_cons]
/-- the stride of a dimension of which a view has more than one is less than the number of its indices -/
theorem stride_lt {xs : List Int} (h : Small xs) (hc : 0 < countL xs) (i : Nat) (hi : i < xs.length) (h1 : 1 < xs[i]) : 1 ≤ countL (xs.drop (i+1)) ∧ countL (xs.drop (i+1)) < countL xs := by
  obtain ⟨e1, _, _, hp⟩ := h.count
  have hp := hp hc
  obtain ⟨e2, _, _, _⟩ := (h.drop (i+1)).count
  have p1 : 1 ≤ prodL (xs.take i) := prodL_pos fun e he => hp e (List.mem_of_mem_take he)
  have p2 : 1 ≤ prodL (xs.drop (i+1)) := prodL_pos fun e he => hp e (List.mem_of_mem_drop he)
  rw [e1, e2, prodL_split xs i hi]
  refine ⟨p2, ?_⟩
  have h2 : 2 * prodL (xs.drop (i+1)) ≤ xs[i] * prodL (xs.drop (i+1)) := Int.mul_le_mul_of_nonneg_right (by omega) (by omega)
  have h3 : 1 * (xs[i] * prodL (xs.drop (i+1))) ≤ prodL (xs.take i) * (xs[i] * prodL (xs.drop (i+1))) := Int.mul_le_mul_of_nonneg_right p1 (by omega)
  omega

/-- the rank of an index -/
def rankL (shape ix : List Int) : Int := (shape.zip ix).foldl (fun n p => wrap64 (wrap64 (n * p.1) + p.2)) 0
theorem rankL_take (shape ix : List Int) (k : Nat) (hk : k < shape.length) (hs : k < ix.length) :
    rankL (shape.take (k+1)) ix = wrap64 (wrap64 (rankL (shape.take k) ix * shape.getD k 0) + ix.getD k 0) := by
  unfold rankL
  have e : ∀ n : Nat, (shape.take n).zip ix = (shape.zip ix).take n := by
    intro n
    apply List.ext_getElem
    · simp <;> omega
    · intro i h1 h2; simp
  rw [e, e, List.take_succ_eq_append_getElem (by simp; omega), List.foldl_append]
  simp [hk, hs]
/-- the rank of an index, unbounded, from the last dimension on -/
def rankC : List Int → List Int → Int
  | e :: s, x :: r => x * prodL s + rankC s r
  | _, _ => 0
theorem rank_eq : ∀ (shape ix : List Int) (n : Int), shape.length = ix.length → 0 ≤ n → (∀ e ∈ shape, 0 ≤ e ∧ e ≤ 60) → (∀ x ∈ ix, 0 ≤ x ∧ x ≤ 60) → (n + 1) * 61 ^ shape.length ≤ 1000000000 →
    (shape.zip ix).foldl (fun n p => wrap64 (wrap64 (n * p.1) + p.2)) n = n * prodL shape + rankC shape ix
  | [], [], n, _, _, _, _, _ => by simp [prodL, rankC]
  | e :: s, x :: r, n, hl, h0, hs, hx, hb => by
    obtain ⟨e1, e2⟩ := hs e (List.mem_cons_self ..)
    obtain ⟨x1, x2⟩ := hx x (List.mem_cons_self ..)
    have p1 : (1 : Int) ≤ 61 ^ s.length := Int.pow_pos (by decide)
    have hb' : (n + 1) * 61 * 61 ^ s.length ≤ 1000000000 := by
      rw [List.length_cons, Int.pow_succ] at hb; rw [Int.mul_assoc, Int.mul_comm 61]; exact hb
    have m1 : n * e ≤ n * 60 := Int.mul_le_mul_of_nonneg_left e2 h0
    have m0 : 0 ≤ n * e := Int.mul_nonneg h0 e1
    have hn : (n + 1) * 61 ≤ 1000000000 := Int.le_trans (by
      have := Int.mul_le_mul_of_nonneg_left p1 (show 0 ≤ (n + 1) * 61 by omega)
      simpa using this) hb'
    have w1 : wrap64 (n * e) = n * e := IntWalk.wrap64_in _ ⟨by omega, by omega⟩
    have w2 : wrap64 (n * e + x) = n * e + x := IntWalk.wrap64_in _ ⟨by omega, by omega⟩
    rw [List.zip_cons_cons, List.foldl_cons]
    simp only [w1, w2]
    rw [rank_eq s r (n * e + x) (by simpa using hl) (by omega) (fun q hq => hs q (List.mem_cons_of_mem _ hq)) (fun q hq => hx q (List.mem_cons_of_mem _ hq)) ?_]
    · rw [prodL_cons, rankC, Int.add_mul, ← Int.mul_assoc, Int.add_assoc]
    · refine Int.le_trans (Int.mul_le_mul_of_nonneg_right (show n * e + x + 1 ≤ (n + 1) * 61 by omega) (by omega)) hb'
theorem rankL_eq {shape ix : List Int} (hl : shape.length = ix.length) (hs : Small shape) (hx : ∀ x ∈ ix, 0 ≤ x ∧ x ≤ 60) : rankL shape ix = rankC shape ix := by
  unfold rankL
  rw [rank_eq shape ix 0 hl (by omega) hs.2 hx ?_]
  · simp
  · have h4 : shape.length = 0 ∨ shape.length = 1 ∨ shape.length = 2 ∨ shape.length = 3 ∨ shape.length = 4 := by have := hs.1; omega
    rcases h4 with h | h | h | h | h <;> rw [h] <;> decide
theorem rankC_zero : ∀ (shape : List Int) (n : Nat), rankC shape (List.replicate n 0) = 0
  | [], n => by cases n <;> rfl
  | e :: s, 0 => rfl
  | e :: s, n+1 => by rw [List.replicate_succ, rankC, rankC_zero s n]; simp
/-- the index with 1 in one dimension -/
theorem rankC_unit : ∀ (shape : List Int) (d : Nat), d < shape.length → rankC shape ((List.replicate shape.length 0).set d 1) = prodL (shape.drop (d+1))
  | [], d, h => absurd h (by simp)
  | e :: s, 0, _ => by
    rw [List.length_cons, List.replicate_succ, List.set_cons_zero, rankC, rankC_zero]; simp
  | e :: s, d+1, h => by
    rw [List.length_cons, List.replicate_succ, List.set_cons_succ, rankC, rankC_unit s d (by simpa using h)]; simp
theorem rank_unit {shape : List Int} (hs : Small shape) (d : Nat) (hd : d < shape.length) : rankL shape ((List.replicate shape.length 0).set d 1) = countL (shape.drop (d+1)) := by
  rw [rankL_eq (by simp) hs (fun x hx => ?_), rankC_unit shape d hd, (hs.drop (d+1)).count.1]
  rcases List.mem_or_eq_of_mem_set hx with h | h
  · rw [List.mem_replicate] at h; omega
  · omega

/-- the strides of another shape of the same cells -/
def reshS (cells s2 : List Int) (m : Nat) : List Int := (List.range m).map fun i => if 1 < s2.getD i 0 then cells.getD (countL (s2.drop (i+1))).toNat 0 - cells.getD 0 0 else 0
theorem reshS_len (cells s2 : List Int) (m : Nat) : (reshS cells s2 m).length = m := by simp [reshS]
theorem reshS_succ (cells s2 : List Int) (m : Nat) : reshS cells s2 (m+1) = reshS cells s2 m ++ [if 1 < s2.getD m 0 then cells.getD (countL (s2.drop (m+1))).toNat 0 - cells.getD 0 0 else 0] := by
  simp [reshS, List.range_succ]
/-- is there a view with another shape and the same cells, and which? -/
def reshB (b : Int) (s t s2 : List Int) : Bool :=
  (countL s2 == countL s) && ((countL s2 == 0) || (viewB b s2 (reshS (offsL b s t) s2 s2.length) && sameB (offsL b s2 (reshS (offsL b s t) s2 s2.length)) (offsL b s t)))
def reshV (b : Int) (s t s2 : List Int) : Int × List Int × List Int :=
  if reshB b s t s2 then (if countL s2 = 0 then (0, s2, List.replicate s2.length 0) else (b, s2, reshS (offsL b s t) s2 s2.length)) else (0, [], [])

end Go.Proofs.Ytjpngmdfnglabaa
