/- Plain laws on ranges of ints: the numbers of a range, normal forms, progressions. -/
import Derived.Test.YtjpngmdfnglabaaPureA
namespace Go.Proofs.Ytjpngmdfnglabaa
set_option linter.unusedVariables false

def cntL (a b s : Int) : Nat := if 0 < s then ((b - a + s - 1) / s).toNat else ((a - b + (-s) - 1) / (-s)).toNat
/-- the numbers of a range -/
def numL (a b s : Int) : List Int := (List.range (cntL a b s)).map fun k : Nat => a + k * s
theorem numL_len (a b s : Int) : (numL a b s).length = cntL a b s := by simp [numL]
theorem numL_get (a b s : Int) (k : Nat) (h : k < (numL a b s).length) : (numL a b s)[k] = a + k * s := by simp [numL]

theorem num_step {a b s : Int} (hs : s ≠ 0) (k : Nat) : (0 < s ∧ a + k * s < b ∨ s < 0 ∧ b < a + k * s) ↔ k < cntL a b s := by
  unfold cntL
  rcases Int.lt_or_le 0 s with h | h
  · rw [if_pos h]
    have h1 := Int.le_ediv_iff_mul_le (a := (k : Int) + 1) (b := b - a + s - 1) h
    have e : ((k : Int) + 1) * s = k * s + s := by rw [Int.add_mul, Int.one_mul]
    rw [e] at h1
    omega
  · have h' : 0 < -s := by omega
    rw [if_neg (by omega)]
    have h1 := Int.le_ediv_iff_mul_le (a := (k : Int) + 1) (b := a - b + (-s) - 1) h'
    have e : ((k : Int) + 1) * (-s) = -(k * s) + -s := by rw [Int.add_mul, Int.one_mul, Int.mul_neg]
    rw [e] at h1
    omega

theorem mem_numL_pos {a b s : Int} (hs : 0 < s) (x : Int) : x ∈ numL a b s ↔ a ≤ x ∧ x < b ∧ s ∣ (x - a) := by
  simp only [numL, List.mem_map, List.mem_range]
  constructor
  · rintro ⟨k, hk, rfl⟩
    have h := (num_step (a := a) (b := b) (s := s) (by omega) k).2 hk
    have h0 : 0 ≤ (k : Int) * s := Int.mul_nonneg (by omega) (by omega)
    refine ⟨by omega, by omega, ⟨k, ?_⟩⟩
    rw [Int.mul_comm s]; omega
  · rintro ⟨h1, h2, ⟨q, hq⟩⟩
    have hq0 : 0 ≤ q := by
      rcases Int.lt_or_le q 0 with h | h
      · have := Int.mul_neg_of_pos_of_neg hs h; omega
      · exact h
    have e : ((q.toNat : Nat) : Int) = q := by omega
    have e2 : q * s = s * q := Int.mul_comm _ _
    refine ⟨q.toNat, (num_step (by omega) _).1 (.inl ⟨hs, ?_⟩), ?_⟩ <;> rw [e, e2] <;> omega

theorem mem_numL_neg {a b s : Int} (hs : s < 0) (x : Int) : x ∈ numL a b s ↔ x ≤ a ∧ b < x ∧ s ∣ (x - a) := by
  simp only [numL, List.mem_map, List.mem_range]
  constructor
  · rintro ⟨k, hk, rfl⟩
    have h := (num_step (a := a) (b := b) (s := s) (by omega) k).2 hk
    have h0 : 0 ≤ (k : Int) * (-s) := Int.mul_nonneg (by omega) (by omega)
    rw [Int.mul_neg] at h0
    refine ⟨by omega, by omega, ⟨k, ?_⟩⟩
    rw [Int.mul_comm s]; omega
  · rintro ⟨h1, h2, ⟨q, hq⟩⟩
    have hq0 : 0 ≤ q := by
      rcases Int.lt_or_le q 0 with h | h
      · have := Int.mul_pos_of_neg_of_neg hs h; omega
      · exact h
    have e : ((q.toNat : Nat) : Int) = q := by omega
    have e2 : q * s = s * q := Int.mul_comm _ _
    refine ⟨q.toNat, (num_step (by omega) _).1 (.inr ⟨hs, ?_⟩), ?_⟩ <;> rw [e, e2] <;> omega

theorem numL_up {a b s : Int} (hs : 0 < s) : (numL a b s).Pairwise (· < ·) := by
  rw [numL, List.pairwise_map]
  refine List.pairwise_lt_range.imp ?_
  intro i j hij
  have := Int.mul_lt_mul_of_pos_right (show (i : Int) < j by omega) hs
  omega
theorem numL_down {a b s : Int} (hs : s < 0) : (numL a b s).Pairwise (fun x y => y < x) := by
  rw [numL, List.pairwise_map]
  refine List.pairwise_lt_range.imp ?_
  intro i j hij
  have := Int.mul_lt_mul_of_neg_right (show (i : Int) < j by omega) hs
  omega
theorem numL_nodup {a b s : Int} (hs : s ≠ 0) : (numL a b s).Nodup := by
  rcases Int.lt_or_le 0 s with h | h
  · exact (numL_up h).imp (fun h => by omega)
  · exact (numL_down (a := a) (b := b) (show s < 0 by omega)).imp (fun h => by omega)

theorem numL_in {a b s : Int} (hs : s ≠ 0) {x : Int} (h : x ∈ numL a b s) : (0 < s → a ≤ x ∧ x < b) ∧ (s < 0 → x ≤ a ∧ b < x) := by
  constructor
  · intro h1; have := (mem_numL_pos h1 x).1 h; exact ⟨this.1, this.2.1⟩
  · intro h1; have := (mem_numL_neg h1 x).1 h; exact ⟨this.1, this.2.1⟩

/-- the numbers from the least to the greatest -/
def ascL : List Int → List Int
  | x :: y :: r => if y < x then (x :: y :: r).reverse else x :: y :: r
  | l => l

theorem ascL_num {a b s : Int} (hs : s ≠ 0) : (ascL (numL a b s)).Pairwise (· < ·) ∧ ∀ x, x ∈ ascL (numL a b s) ↔ x ∈ numL a b s := by
  rcases Int.lt_or_le 0 s with h | h
  · have hu := numL_up (a := a) (b := b) h
    match hl : numL a b s, hu with
    | [], _ => simp [ascL]
    | [x], _ => simp [ascL]
    | x :: y :: r, hu =>
      have : ¬ y < x := by rw [List.pairwise_cons] at hu; have := hu.1 y (List.mem_cons_self ..); omega
      have e : ascL (x :: y :: r) = x :: y :: r := by show (if y < x then _ else _) = _; rw [if_neg this]
      rw [e]
      exact ⟨hu, fun x => Iff.rfl⟩
  · have hd := numL_down (a := a) (b := b) (show s < 0 by omega)
    match hl : numL a b s, hd with
    | [], _ => simp [ascL]
    | [x], _ => simp [ascL]
    | x :: y :: r, hd =>
      have : y < x := by rw [List.pairwise_cons] at hd; exact hd.1 y (List.mem_cons_self ..)
      have e : ascL (x :: y :: r) = (x :: y :: r).reverse := by show (if y < x then _ else _) = _; rw [if_pos this]
      rw [e]
      exact ⟨List.pairwise_reverse.2 hd, fun x => List.mem_reverse⟩

/-- a range in normal form -/
def normL : List Int → Int × Int × Int
  | [] => (0, 0, 1)
  | [x] => (x, x + 1, 1)
  | x :: y :: r => (x, if y - x < 0 then (y :: r).getLast (by simp) - 1 else (y :: r).getLast (by simp) + 1, y - x)

/-- sets of numbers that go on by their own differences -/
def ApS (S : Int → Prop) : Prop := ∀ x y z u v, S x → S y → S z → S u → S v → x ≤ z + (v - u) → z + (v - u) ≤ y → S (z + (v - u))
theorem ApS.and {S T : Int → Prop} (h : ApS S) (k : ApS T) : ApS fun x => S x ∧ T x :=
  fun x y z u v hx hy hz hu hv h1 h2 => ⟨h x y z u v hx.1 hy.1 hz.1 hu.1 hv.1 h1 h2, k x y z u v hx.2 hy.2 hz.2 hu.2 hv.2 h1 h2⟩
theorem ApS.congr {S T : Int → Prop} (h : ApS S) (k : ∀ x, S x ↔ T x) : ApS T :=
  fun x y z u v hx hy hz hu hv h1 h2 => (k _).1 (h x y z u v ((k _).2 hx) ((k _).2 hy) ((k _).2 hz) ((k _).2 hu) ((k _).2 hv) h1 h2)
theorem dvd3 {s a z u v : Int} (h1 : s ∣ z - a) (h2 : s ∣ u - a) (h3 : s ∣ v - a) : s ∣ z + (v - u) - a := by
  have : z + (v - u) - a = (z - a) + ((v - a) - (u - a)) := by omega
  rw [this]; exact Int.dvd_add h1 (Int.dvd_sub h3 h2)
theorem ApS.num (a b s : Int) (hs : s ≠ 0) : ApS (· ∈ numL a b s) := by
  intro x y z u v hx hy hz hu hv h1 h2
  rcases Int.lt_or_le 0 s with h | h
  · simp only [mem_numL_pos h] at *
    exact ⟨by omega, by omega, dvd3 hz.2.2 hu.2.2 hv.2.2⟩
  · have h : s < 0 := by omega
    simp only [mem_numL_neg h] at *
    exact ⟨by omega, by omega, dvd3 hz.2.2 hu.2.2 hv.2.2⟩

theorem asc_last {l : List Int} (h : l.Pairwise (· < ·)) (hn : l ≠ []) : ∀ x ∈ l, x ≤ l.getLast hn := by
  intro x hx
  obtain ⟨i, hi, rfl⟩ := List.mem_iff_getElem.1 hx
  rw [List.getLast_eq_getElem]
  rcases Nat.lt_or_ge i (l.length - 1) with h' | h'
  · exact Int.le_of_lt (List.pairwise_iff_getElem.1 h i (l.length - 1) hi (by omega) h')
  · have e : l.length - 1 = i := by omega
    simp only [e]; exact Int.le_refl _

theorem ap_list (c0 c1 : Int) (r : List Int) (hp : (c0 :: c1 :: r).Pairwise (· < ·)) (hS : ApS (· ∈ c0 :: c1 :: r)) :
    numL c0 ((c1 :: r).getLast (by simp) + 1) (c1 - c0) = c0 :: c1 :: r := by
  have hlast := asc_last hp (by simp)
  have hge : (c0 :: c1 :: r).getLast (by simp) = (c1 :: r).getLast (by simp) := List.getLast_cons (by simp)
  rw [hge] at hlast
  have hlm : (c1 :: r).getLast (by simp) ∈ c0 :: c1 :: r := List.mem_cons_of_mem _ (List.getLast_mem _)
  generalize (c1 :: r).getLast (by simp) = z at *
  have h01 : c0 < c1 := by rw [List.pairwise_cons] at hp; exact hp.1 c1 (List.mem_cons_self ..)
  have hmin : ∀ x ∈ c0 :: c1 :: r, x = c0 ∨ c1 ≤ x := by
    intro x hx
    rcases List.mem_cons.1 hx with h | h
    · exact .inl h
    · rcases List.mem_cons.1 h with h | h
      · exact .inr (by omega)
      · rw [List.pairwise_cons, List.pairwise_cons] at hp
        have := hp.2.1 x h; exact .inr (by omega)
  have m0 : c0 ∈ c0 :: c1 :: r := List.mem_cons_self ..
  have m1 : c1 ∈ c0 :: c1 :: r := List.mem_cons_of_mem _ (List.mem_cons_self ..)
  refine asc_ext _ _ (numL_up (by omega)) hp fun x => ?_
  rw [mem_numL_pos (by omega)]
  constructor
  · rintro ⟨h1, h2, ⟨q, hq⟩⟩
    have hL : 0 < c1 - c0 := by omega
    have hq0 : 0 ≤ q := by
      rcases Int.lt_or_le q 0 with h | h
      · have := Int.mul_neg_of_pos_of_neg hL h; omega
      · exact h
    have key : ∀ k : Nat, c0 + (c1 - c0) * k ≤ z → c0 + (c1 - c0) * k ∈ c0 :: c1 :: r := by
      intro k
      induction k with
      | zero => intro _; simp
      | succ k ih =>
        intro hk
        have e : (c1 - c0) * ((k + 1 : Nat) : Int) = (c1 - c0) * k + (c1 - c0) := by
          rw [Int.natCast_add, Int.mul_add]; simp
        have h0 : 0 ≤ (c1 - c0) * (k : Int) := Int.mul_nonneg (by omega) (by omega)
        rw [e] at hk ⊢
        have := hS c0 z (c0 + (c1 - c0) * k) c0 c1 m0 hlm (ih (by omega)) m0 m1 (by omega) (by omega)
        rw [← Int.add_assoc]; exact this
    have e : ((q.toNat : Nat) : Int) = q := by omega
    have := key q.toNat (by rw [e]; omega)
    rw [e] at this
    have ex : c0 + (c1 - c0) * q = x := by omega
    rwa [ex] at this
  · intro hx
    have hx1 := hlast x hx
    have key : ∀ n : Nat, ∀ x, x ∈ c0 :: c1 :: r → (x - c0).toNat ≤ n → (c1 - c0) ∣ (x - c0) := by
      intro n
      induction n with
      | zero =>
        intro x hx hn
        rcases hmin x hx with h | h
        · subst h; simp
        · omega
      | succ n ih =>
        intro x hx hn
        rcases hmin x hx with h | h
        · subst h; simp
        · have h1 := hlast x hx
          have hm := hS c0 z x c1 c0 m0 hlm hx m1 m0 (by omega) (by omega)
          have := ih _ hm (by omega)
          have e : x - c0 = (x + (c0 - c1) - c0) + (c1 - c0) := by omega
          rw [e]; exact Int.dvd_add this (Int.dvd_refl _)
    refine ⟨?_, by omega, key _ x hx (Nat.le_refl _)⟩
    rcases hmin x hx with h | h <;> omega

theorem norm_num {l : List Int} (hp : l.Pairwise (· < ·)) (hS : ApS (· ∈ l)) : numL (normL l).1 (normL l).2.1 (normL l).2.2 = l := by
  match l, hp, hS with
  | [], _, _ => simp [normL, numL, cntL]
  | [x], _, _ =>
    have : x + 1 - x + 1 - 1 = (1 : Int) := by omega
    simp [normL, numL, cntL, this]
  | c0 :: c1 :: r, hp, hS =>
    have h01 : c0 < c1 := by rw [List.pairwise_cons] at hp; exact hp.1 c1 (List.mem_cons_self ..)
    have : ¬ (c1 - c0 < 0) := by omega
    simp only [normL, if_neg this]
    exact ap_list c0 c1 r hp hS

/-- the numbers of the first list that the second has, sorted -/
def meetL (xs ys : List Int) : List Int := xs.filter fun x => ys.contains x
theorem meet_sort {a b s : Int} (hs : s ≠ 0) (ys : List Int) : sortL (meetL (numL a b s) ys) = meetL (ascL (numL a b s)) ys := by
  obtain ⟨h1, h2⟩ := ascL_num (a := a) (b := b) hs
  refine asc_ext _ _ ?_ (h1.filter _) fun x => ?_
  · have hle := sortL_asc (meetL (numL a b s) ys)
    have hnd : (sortL (meetL (numL a b s) ys)).Nodup := (List.mergeSort_perm _ _).nodup_iff.2 ((numL_nodup hs).filter _)
    exact (hle.and hnd).imp fun ⟨h, k⟩ => by omega
  · rw [sortL_mem]
    simp only [meetL, List.mem_filter, h2]

theorem meet_ap {a b s : Int} (hs : s ≠ 0) {a2 b2 s2 : Int} (hs2 : s2 ≠ 0) :
    (meetL (ascL (numL a b s)) (numL a2 b2 s2)).Pairwise (· < ·) ∧ ApS (· ∈ meetL (ascL (numL a b s)) (numL a2 b2 s2)) ∧ ∀ x, x ∈ meetL (ascL (numL a b s)) (numL a2 b2 s2) ↔ x ∈ numL a b s ∧ x ∈ numL a2 b2 s2 := by
  obtain ⟨h1, h2⟩ := ascL_num (a := a) (b := b) hs
  have hm : ∀ x, x ∈ meetL (ascL (numL a b s)) (numL a2 b2 s2) ↔ x ∈ numL a b s ∧ x ∈ numL a2 b2 s2 := by
    intro x; simp only [meetL, List.mem_filter, h2, List.contains_iff_mem]
  exact ⟨h1.filter _, ((ApS.num a b s hs).and (ApS.num a2 b2 s2 hs2)).congr fun x => (hm x).symm, hm⟩

end Go.Proofs.Ytjpngmdfnglabaa
