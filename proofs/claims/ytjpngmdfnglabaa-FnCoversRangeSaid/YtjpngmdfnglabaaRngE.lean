/- Plain laws on what two ranges have in common. -/
import Derived.Test.YtjpngmdfnglabaaRngD
namespace Go.Proofs.Ytjpngmdfnglabaa
open Go.RowKit

theorem num_dvd {a b s x : Int} (h : x ∈ numL a b s) : s ∣ x - a := by
  simp only [numL, List.mem_map] at h
  obtain ⟨k, _, rfl⟩ := h
  have : a + (k : Int) * s - a = (k : Int) * s := by omega
  rw [this]; exact Int.dvd_mul_left ..
theorem num_dvd2 {a b s x y : Int} (h : x ∈ numL a b s) (k : y ∈ numL a b s) : s ∣ y - x := by
  have h1 := Int.dvd_sub (num_dvd k) (num_dvd h)
  have : y - a - (x - a) = y - x := by omega
  rwa [this] at h1
theorem num_in {a b s x : Int} (h : rangeB a b s = true) (hx : x ∈ numL a b s) : -100 ≤ x ∧ x ≤ 100 := by
  obtain ⟨h1, h2, h3, h4⟩ := rangeB_in h
  have := numL_in h4 hx
  omega
theorem norm_range {l : List Int} (hp : l.Pairwise (· < ·)) (hb : ∀ x ∈ l, -100 ≤ x ∧ x ≤ 100) : rangeB (normL l).1 (normL l).2.1 (normL l).2.2 = true := by
  match l, hp, hb with
  | [], _, _ => decide
  | [x], _, hb =>
    have := hb x (List.mem_cons_self ..)
    show rangeB x (x + 1) 1 = true
    simp only [rangeB, inB, Bool.and_eq_true, decide_eq_true_eq, Bool.not_eq_true', beq_eq_false_iff_ne]
    omega
  | x :: y :: r, hp, hb =>
    have h1 := hb x (List.mem_cons_self ..)
    have h2 := hb y (List.mem_cons_of_mem _ (List.mem_cons_self ..))
    have h3 := hb ((y :: r).getLast (by simp)) (List.mem_cons_of_mem _ (List.getLast_mem _))
    have h4 : x < y := by rw [List.pairwise_cons] at hp; exact hp.1 y (List.mem_cons_self ..)
    have h5 : ¬ (y - x < 0) := by omega
    simp only [normL, if_neg h5]
    generalize (y :: r).getLast (by simp) = q at *
    simp only [rangeB, inB, Bool.and_eq_true, decide_eq_true_eq, Bool.not_eq_true', beq_eq_false_iff_ne]
    omega
/-- what two valid ranges have in common -/
theorem meet_all {a1 e1 d1 a2 e2 d2 : Int} (h1 : rangeB a1 e1 d1 = true) (h2 : rangeB a2 e2 d2 = true) :
    rangeB (meetT a1 e1 d1 a2 e2 d2).1 (meetT a1 e1 d1 a2 e2 d2).2.1 (meetT a1 e1 d1 a2 e2 d2).2.2 = true ∧
    numL (meetT a1 e1 d1 a2 e2 d2).1 (meetT a1 e1 d1 a2 e2 d2).2.1 (meetT a1 e1 d1 a2 e2 d2).2.2 = meetR a1 e1 d1 a2 e2 d2 ∧
    (meetR a1 e1 d1 a2 e2 d2).Pairwise (· < ·) ∧ (∀ x, x ∈ meetR a1 e1 d1 a2 e2 d2 ↔ x ∈ numL a1 e1 d1 ∧ x ∈ numL a2 e2 d2) := by
  obtain ⟨p1, p2, p3⟩ := meet_ap (a := a1) (b := e1) (s := d1) (rangeB_in h1).2.2.2 (a2 := a2) (b2 := e2) (s2 := d2) (rangeB_in h2).2.2.2
  have e : meetT a1 e1 d1 a2 e2 d2 = normL (meetR a1 e1 d1 a2 e2 d2) := by unfold meetT; rw [h1, h2]; rfl
  rw [e]
  exact ⟨norm_range p1 fun x hx => num_in h1 ((p3 x).1 hx).1, norm_num p1 p2, p1, p3⟩
theorem meet_step {a1 e1 d1 a2 e2 d2 : Int} (h1 : rangeB a1 e1 d1 = true) (h2 : rangeB a2 e2 d2 = true) :
    rlenA (meetT a1 e1 d1 a2 e2 d2).1 (meetT a1 e1 d1 a2 e2 d2).2.1 (meetT a1 e1 d1 a2 e2 d2).2.2 < 2 ∨
    ((meetT a1 e1 d1 a2 e2 d2).2.2.tmod d1 = 0 ∧ (meetT a1 e1 d1 a2 e2 d2).2.2.tmod d2 = 0) := by
  obtain ⟨g1, g2, g3, g4⟩ := meet_all h1 h2
  have hl : rlenA (meetT a1 e1 d1 a2 e2 d2).1 (meetT a1 e1 d1 a2 e2 d2).2.1 (meetT a1 e1 d1 a2 e2 d2).2.2 = ((meetR a1 e1 d1 a2 e2 d2).length : Int) := by
    unfold rlenA; rw [g1, if_pos rfl, ← numL_len, g2]
  rw [hl]
  have e : meetT a1 e1 d1 a2 e2 d2 = normL (meetR a1 e1 d1 a2 e2 d2) := by unfold meetT; rw [h1, h2]; rfl
  rw [e]
  match hm : meetR a1 e1 d1 a2 e2 d2 with
  | [] => left; simp
  | [x] => left; simp
  | x :: y :: r =>
    right
    have hx := (g4 x).1 (by rw [hm]; exact List.mem_cons_self ..)
    have hy := (g4 y).1 (by rw [hm]; exact List.mem_cons_of_mem _ (List.mem_cons_self ..))
    exact ⟨Int.tmod_eq_zero_of_dvd (num_dvd2 hx.1 hy.1), Int.tmod_eq_zero_of_dvd (num_dvd2 hx.2 hy.2)⟩
theorem meet_step0 {a1 e1 d1 a2 e2 d2 : Int} (h1 : rangeB a1 e1 d1 = true) (h2 : rangeB a2 e2 d2 = true) : (meetT a1 e1 d1 a2 e2 d2).2.2 ≠ 0 :=
  (rangeB_in (meet_all h1 h2).1).2.2.2
theorem meet_none {a1 e1 d1 a2 e2 d2 : Int} (h : ¬ (rangeB a1 e1 d1 = true ∧ rangeB a2 e2 d2 = true)) : meetT a1 e1 d1 a2 e2 d2 = (0, 0, 0) := by
  unfold meetT
  cases h1 : rangeB a1 e1 d1 <;> cases h2 : rangeB a2 e2 d2 <;> simp_all
end Go.Proofs.Ytjpngmdfnglabaa
