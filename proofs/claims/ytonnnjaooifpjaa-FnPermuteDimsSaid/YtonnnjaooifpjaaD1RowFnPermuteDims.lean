/- Texts of these proofs put together: DrB, LvA, LvE, LvH, KitC, DrC, DrD, DrF, LvB, LvF, LvG, LvI, LvJ, LvK, PureP, LvM, LvR, PureR. No condition. -/
import Derived.Test.YtonnnjaooifpjaaM5
import Derived.Test.YtonnnjaooifpjaaM2
import Derived.Test.YtonnnjaooifpjaaM1
import Derived.Test.YtonnnjaooifpjaaM3
import Derived.Test.YtonnnjaooifpjaaM4
set_option linter.unusedVariables false
set_option linter.unusedSimpArgs false
/- Walks: drawn memories, views of memories, values. -/
namespace Go.Proofs.Ytonnnjaooifpjaa
open Go.RowKit
set_option linter.unusedVariables false
set_option maxRecDepth 100000

theorem Ints.len_eq {w : World} {lo : Nat} {p : Option Addr} {n r : Nat} {s : List Int} (h : Ints w lo (.slice p n r) s) : n = s.length := by
  obtain ⟨a, c, e⟩ := h.form; simp at e; exact e.2.1
def PMem (rb k : Nat) (w : World) (e : Ending) (w' : World) : Prop := ∃ v xs, e = .returned v ∧ OwnI w' w.heap.size v xs ∧ xs.length ≤ 60 ∧ Rd w' rb k ∧ Chg rb (rb + 1) w w'
set_option maxHeartbeats 3200000 in
theorem someMemory_c (rb k : Nat) (w : World) (hr : Rd w rb k) (hk : k ≤ 700000) :
    Calls Try.prog 132 #[.pointer (some ⟨rb, 0, none⟩)] w (PMem rb (k + 70) w) := by
  have hlt := hr.lt
  go_enter Try.func132, Try.ntmps132
  go_wp2_with fail
  refine (oneLit_c _ _ _ rb _ _ (by repeat (first | (with_reducible exact hr) | (with_reducible apply Rd.drewN) | (with_reducible apply Rd.drew) | (with_reducible apply Rd.alloc) | ((with_reducible apply Rd.set2); (· first | assumption | (simp; omega) | (simp; done) | omega)))) (by omega) (by rfl) (by rfl) (by constructor <;> simp) (by first | rfl | simp)).mono ?_
  rintro e w1 ⟨n, rfl, hn, hr1, hC1⟩
  have hn' : 5 ≤ n ∧ n ≤ 60 := by simp [litL] at hn; omega
  clear hn
  obtain ⟨m, rfl⟩ : ∃ m : Nat, n = m := ⟨n.toNat, by omega⟩
  have ho1 : OwnI w1 w.heap.size (.slice (some ⟨w.heap.size, 0, none⟩) 0 0) [] := ((OwnI.lit0 w w.heap.size (Nat.le_refl _)).ext (by repeat (first | exact Ext.refl _ | assumption | apply Ext.drewN | apply Ext.drew | apply Ext.alloc))).chg hC1 hlt
  have hX1 : Chg rb (rb + 1) w w1 := Chg.trans (Chg.of_ext (by repeat (first | exact Ext.refl _ | assumption | apply Ext.drewN | apply Ext.drew | apply Ext.alloc))) hC1
  clear hC1
  go_wp2_with fail
  go_loopw [3, 4] (fun v i wr => ∃ (q m : Nat) (xs : List Int), i = .int .i64 m ∧ (xs.length + m ≤ 60 ∧ 1 ≤ xs.length + m) ∧ OwnI wr w.heap.size v xs ∧ Rd wr rb q ∧ q + m ≤ k + 62 ∧ Chg rb (rb + 1) w wr) (fun _ i _ => (intOf i).toNat)
  case atStart => exact ⟨k + 1, m, [], rfl, by simp; omega, ho1, hr1, by omega, hX1⟩
  case round =>
    obtain ⟨q, m, xs, rfl, hl, ho, hr, hq, hX⟩ := hrel
    have hz : w.heap.size ≤ wr.heap.size := hX.size
    cases m with
    | succ m =>
      have hI : (0 : Int) < ((m + 1 : Nat) : Int) := by omega
      have hI2 : ((m + 1 : Nat) : Int) - 1 = (m : Int) := by omega
      go_wp2_with fail
      refine (pick1_c _ rb _ _ hr (by omega) (by omega)).mono ?_
      rintro e w2 ⟨x, rfl, hx, hr2, hC2⟩
      have ho2 := ho.chg hC2 hlt
      have hX2 : Chg rb (rb + 1) w w2 := hX.trans hC2
      have hz2 : w.heap.size ≤ w2.heap.size := hX2.size
      clear hC2 hX ho hr hx
      replace ho2 := Lib.hid ho2
      replace hX2 := Lib.hid hX2
      replace hr2 := Lib.hid hr2
      go_wp2_with (at_builtin; refine wpList_app rfl (.tmp 13) (.tmp 16) rfl rfl rfl (ho2.out.ext ((Ext.refl _).alloc _)) (Ints.one _ 0 _ (Nat.zero_le _)) (by simp only [List.length_cons, List.length_nil]; omega) (by simp; omega) ?_; intro v' w3 ho3 _ hb3 _; replace ho3 := Lib.hid ho3)
      go_roundw
      case rel => exact ⟨q + 1, m, xs ++ [x], by first | rfl | go_num, by simp; omega, ho3.out, (hr2.out.alloc _).below hb3 hlt, by omega, Rch.below (hX2.out.ext (by repeat (first | exact Ext.refl _ | assumption | apply Ext.drewN | apply Ext.drew | apply Ext.alloc))) hb3⟩
      case measure => simp [intOf]
    | zero =>
      have hne : xs ≠ [] := by intro h; subst h; simp at hl
      obtain ⟨g, n2, c, rfl, hn2, G, G'⟩ := ho.row2 hne
      have hlx : 0 < xs.length := by omega
      have hnI : Hid ((0 : Int) < (n2 : Int)) := Lib.hid (by have := hn2.out; omega)
      replace hne := Lib.hid hne
      go_wp2_with fail
      refine (pick1_c _ rb _ _ hr (by omega) (by omega)).mono ?_
      rintro e w2 ⟨x, rfl, hx, hr2, hC2⟩
      have ho2 := ho.chg hC2 hlt
      have hX2 : Chg rb (rb + 1) w w2 := hX.trans hC2
      clear hC2 hX ho hr hx
      by_cases hx0 : x = 0
      · subst hx0
        go_wp2_with fail
        refine (oneLit_c _ _ _ rb _ _ (by exact hr2) (by omega) (by rfl) (by rfl) (by constructor <;> simp) (by first | rfl | simp)).mono ?_
        rintro e w3 ⟨y, rfl, hy, hr3, hC3⟩
        have ho3 := (ho2.ext (by repeat (first | exact Ext.refl _ | assumption | apply Ext.drewN | apply Ext.drew | apply Ext.alloc))).chg hC3 hlt
        have hX3 : Chg rb (rb + 1) w w3 := (hX2.ext (by repeat (first | exact Ext.refl _ | assumption | apply Ext.drewN | apply Ext.drew | apply Ext.alloc))).trans hC3
        have hz3 := hX3.size
        clear hC3 hX2 ho2 hr2 hy
        obtain ⟨A1, A2⟩ := ho3.cell 0 hlx
        have hnI' := hnI.out
        replace ho3 := Lib.hid ho3
        go_wp2_with fail
        go_ret
        exact ⟨_, xs.set 0 y, rfl, ho3.out.set 0 y hlx, by simp; omega, (Rd.set2 (by simp; omega) hr3).mono (by omega), Rch.set hX3 (by simp; omega) _⟩
      · have hxe : (x == 0) = false := by simpa using hx0
        replace hx0 := Lib.hid hx0
        replace ho2 := Lib.hid ho2
        go_wp2_with fail
        go_ret
        exact ⟨_, xs, rfl, ho2.out, by omega, hr2.mono (by omega), hX2⟩

/-- a memory and a view are drawn -/
def PMV (lo : Nat) (e : Ending) (w' : World) : Prop := ∃ (mem : List Int) (p0 : Option Addr) (n0 r0 : Nat) (b : Int) (s t : List Int) (p1 p2 : Option Addr) (n1 r1 n2 r2 : Nat), e = .returned (.tuple #[.slice p0 n0 r0, .agg #[.int .i64 b, .slice p1 n1 r1, .slice p2 n2 r2]]) ∧ mem.length ≤ 60 ∧
  Ints w' lo (.slice p0 n0 r0) mem ∧ Ints w' lo (.slice p1 n1 r1) s ∧ Ints w' lo (.slice p2 n2 r2) t ∧ s.length ≤ 4 ∧ t.length ≤ 5
set_option maxHeartbeats 3200000 in
theorem memView_c (rb k : Nat) (w : World) (hr : Rd w rb k) (hk : k ≤ 600000) :
    Calls Try.prog 78 #[.pointer (some ⟨rb, 0, none⟩)] w (fun e w' => PMV w.heap.size e w' ∧ Rd w' rb (k + 280) ∧ Chg rb (rb + 1) w w') := by
  have hlt := hr.lt
  go_enter Try.func78, Try.ntmps78
  go_wp2_with fail
  refine (someMemory_c rb k _ (hr.alloc _) (by omega)).mono ?_
  rintro e w1 ⟨v, mem, rfl, o0, hml, hr1, C1⟩
  have i0 := (o0.ints (by omega)).lower (show w.heap.size + 1 ≤ _ by simp)
  clear o0
  obtain ⟨p0, n0, r0, rfl⟩ := i0.any
  have E0 : Ext w (w.alloc (.cells #[.int .i64 0, .slice none 0 0, .slice none 0 0] 25)) := (by repeat (first | (with_reducible assumption) | (with_reducible refine Ext.setCell ?_ (by first | (simp; done) | (simp; omega) | omega) _) | (with_reducible apply Ext.alloc) | (with_reducible apply Ext.drew) | (with_reducible apply Ext.drewN) | (with_reducible exact Ext.refl _)))
  have X1 : Chg rb (rb + 1) w w1 := (Chg.of_ext E0).trans C1
  have q0 : w1.cell? ⟨w.heap.size, 0, none⟩ = some (.int .i64 0) := C1.cell (.inr (by omega)) (by simp)
  have q1 : w1.cell? ⟨w.heap.size, 1, none⟩ = some (.slice none 0 0) := C1.cell (.inr (by omega)) (by simp)
  have q2 : w1.cell? ⟨w.heap.size, 2, none⟩ = some (.slice none 0 0) := C1.cell (.inr (by omega)) (by simp)
  have f0 : w1.frozen? ⟨w.heap.size, 0, none⟩ = false := C1.frzO (.inr (by omega)) (by simp) (by simp)
  have f1 : w1.frozen? ⟨w.heap.size, 1, none⟩ = false := C1.frzO (.inr (by omega)) (by simp) (by simp)
  have f2 : w1.frozen? ⟨w.heap.size, 2, none⟩ = false := C1.frzO (.inr (by omega)) (by simp) (by simp)
  have z1 : w.heap.size < w1.heap.size := World.block_lt_of_cell? _ _ q0
  clear C1 E0 hr
  go_wp2_with fail
  refine (someView_c _ _ _ hr1 (by omega)).mono ?_
  rintro e w2 ⟨b, s, t, p1, p2, n1, r1, n2, r2, rfl, i1, i2, l1, l2, hr2, C⟩
  have X2 : Chg rb (rb + 1) w w2 := X1.trans C
  replace i0 := i0.chg C (by omega)
  replace q0 := C.cell (.inr (by omega)) q0
  replace q1 := C.cell (.inr (by omega)) q1
  replace q2 := C.cell (.inr (by omega)) q2
  replace f0 := C.frzO (.inr (by omega)) (by omega) f0
  replace f1 := C.frzO (.inr (by omega)) (by omega) f1
  replace f2 := C.frzO (.inr (by omega)) (by omega) f2
  have z2 : w.heap.size < w2.heap.size := World.block_lt_of_cell? _ _ q0
  have z12 := C.size
  clear C X1 hr1
  go_wp2_with fail
  refine bodyPost_ret (v := .tuple #[.slice p0 n0 r0, .agg #[.int .i64 b, .slice p1 n1 r1, .slice p2 n2 r2]]) (by simp only [results, Try.results78]; go_simp) rfl ?_
  have K := Chg.three (lo := w.heap.size) w2 (.int .i64 b) (.slice p1 n1 r1) (.slice p2 n2 r2)
  replace i1 := i1.chg K (by omega)
  replace i2 := i2.chg K (by omega)
  exact ⟨⟨mem, p0, n0, r0, b, s, t, p1, p2, n1, r1, n2, r2, rfl, hml, (i0.chg K (by omega)).lower (by omega), i1.lower (by omega), i2.lower (by omega), l1, l2⟩, (Rd.set2 (by simp; omega) (Rd.set2 (by simp; omega) (Rd.set2 (by simp; omega) hr2))).mono (by omega), Rch.set (Rch.set (Rch.set X2 (by simp) _) (by simp) _) (by simp) _⟩
def PMemView (w : World) (e : Ending) (w' : World) : Prop := PMV w.heap.size e w' ∧ Ext w w'

end Go.Proofs.Ytonnnjaooifpjaa

/- Walks: ValidView, FitsIn, BoundsOf. -/
namespace Go.Proofs.Ytonnnjaooifpjaa
open Go.RowKit
set_option linter.unusedVariables false
set_option maxRecDepth 100000


theorem areCells_c (x : Int) (w : World) : Calls Try.prog 109 #[.int .i64 x] w fun e w' => e = .returned (.bool (inB 0 60 x)) ∧ w = w' := by
  by_cases h : 0 ≤ x
  · go_enter Try.func109, Try.ntmps109
    go_wp2_with fail
    go_ret
    exact ⟨by simp [inB, h], rfl⟩
  · have h' : x < 0 := by omega
    go_enter Try.func109, Try.ntmps109
    go_wp2_with fail
    go_ret
    exact ⟨by simp [inB]; intro; omega, rfl⟩
theorem min_lib (l : List Int) : Lib.minOf l = minL l := by cases l <;> rfl
theorem max_lib (l : List Int) : Lib.maxOf l = maxL l := by cases l <;> rfl
def fitA (b : Int) (s t : List Int) (x : Int) : Bool := viewB b s t && (inB 0 60 x && fitB b s t x)
set_option maxHeartbeats 1600000 in
theorem implValidView_c (b1 : Int) (u1 v1 : Value) (s1 t1 : List Int) (w : World) (l1 m1 : Nat) (h1 : Ints w l1 u1 s1) (k1 : Ints w m1 v1 t1) :
    Calls Try.prog 18 #[.agg #[.int .i64 b1, u1, v1]] w (fun e w' => e = .returned (.bool (viewB b1 s1 t1)) ∧ Ext w w') := by
  obtain ⟨a1, cp1, rfl⟩ := h1.form
  obtain ⟨a2, cp2, rfl⟩ := k1.form
  go_enter Try.func18, Try.ntmps18
  go_wp2_with fail
  refine (isView_c b1 _ _ s1 t1 _ l1 m1 (h1.ext (by repeat (first | (with_reducible assumption) | (with_reducible refine Ext.setCell ?_ (by first | (simp; done) | (simp; omega) | omega) _) | (with_reducible apply Ext.alloc) | (with_reducible apply Ext.drew) | (with_reducible apply Ext.drewN) | (with_reducible exact Ext.refl _)))) (k1.ext (by repeat (first | (with_reducible assumption) | (with_reducible refine Ext.setCell ?_ (by first | (simp; done) | (simp; omega) | omega) _) | (with_reducible apply Ext.alloc) | (with_reducible apply Ext.drew) | (with_reducible apply Ext.drewN) | (with_reducible exact Ext.refl _))))).mono ?_
  rintro e w1 ⟨rfl, xw1⟩
  have Lw1 : Ext w w1 := Ext.trans (by repeat (first | (with_reducible assumption) | (with_reducible refine Ext.setCell ?_ (by first | (simp; done) | (simp; omega) | omega) _) | (with_reducible apply Ext.alloc) | (with_reducible apply Ext.drew) | (with_reducible apply Ext.drewN) | (with_reducible exact Ext.refl _))) xw1
  have Xw1 : Ext w w1 := Lw1
  have va0 : w1.cell? ⟨w.heap.size, 0, none⟩ = some (.int .i64 b1) := xw1.cell (by first | (simp; done) | ((repeat rw [World.cell?_alloc_lt _ _ _ (by simp <;> omega)]); simp; done) | (go_simp; done))
  have va1 : w1.cell? ⟨w.heap.size, 1, none⟩ = some (.slice a1 s1.length cp1) := xw1.cell (by first | (simp; done) | ((repeat rw [World.cell?_alloc_lt _ _ _ (by simp <;> omega)]); simp; done) | (go_simp; done))
  have va2 : w1.cell? ⟨w.heap.size, 2, none⟩ = some (.slice a2 t1.length cp2) := xw1.cell (by first | (simp; done) | ((repeat rw [World.cell?_alloc_lt _ _ _ (by simp <;> omega)]); simp; done) | (go_simp; done))
  have z_va : w.heap.size < w1.heap.size := World.block_lt_of_cell? _ _ va0
  have s_w1 : w.heap.size ≤ w1.heap.size := Xw1.size
  clear xw1
  go_wp2_with fail
  go_ret
  exact ⟨rfl, Xw1.trans (by repeat (first | (with_reducible assumption) | (with_reducible refine Ext.setCell ?_ (by first | (simp; done) | (simp; omega) | omega) _) | (with_reducible apply Ext.alloc) | (with_reducible apply Ext.drew) | (with_reducible apply Ext.drewN) | (with_reducible exact Ext.refl _)))⟩

def bndT (b : Int) (s t : List Int) : Int × Int := if viewB b s t && !(countL s == 0) then (minL (offsL b s t), maxL (offsL b s t)) else (-1, -1)
end Go.Proofs.Ytonnnjaooifpjaa

/- Helpers of the laws: equal lists, equal views, a number in a list. -/
namespace Go.Proofs.Ytonnnjaooifpjaa
open Go.RowKit
set_option linter.unusedVariables false
set_option maxRecDepth 100000



set_option maxHeartbeats 1600000 in
theorem leqInts_c (xs : List Int) (a b : Value) (w : World) (la lb : Nat) (ha : Ints w la a xs) (hb : Ints w lb b xs) :
    Calls Try.prog 27 #[a, b] w fun e w' => e = .returned (.bool true) ∧ Ext w w' := by
  obtain ⟨a1, cap1, rfl, _, _, ⟨hlen, _⟩, hc1⟩ := ha
  obtain ⟨a2, cap2, rfl, _, _, ⟨hlen2, _⟩, hc2⟩ := hb
  go_enter Try.func27, Try.ntmps27
  go_wp2_with fail
  go_loopw [5] (fun i wr => ∃ k m : Nat, k ≤ xs.length ∧ i = .int .i64 k ∧ wr = w.drewN m) (fun i _ => xs.length - (intOf i).toNat)
  case atStart => exact ⟨0, 0, Nat.zero_le _, rfl, rfl⟩
  case round =>
    obtain ⟨k, m, hk, rfl, rfl⟩ := hrel
    by_cases hlt : k < xs.length
    · obtain ⟨b1, off1, rfl, _, hcell1, _⟩ := hc1 k hlt
      obtain ⟨b2, off2, rfl, _, hcell2, _⟩ := hc2 k hlt
      have hk4 : (k : Int) < xs.length := by omega
      clear hc1 hc2
      generalize xs.getD k 0 = x at *
      go_wp2_with fail
      go_quiet (fail)
      go_wp2_with fail
      go_roundw
      case rel => exact ⟨k+1, _, by omega, by go_num, rfl⟩
      case measure => simp [intOf]; omega
    · obtain rfl : k = xs.length := by omega
      go_wp2_with fail
      go_ret
      exact ⟨rfl, (by repeat (first | exact Ext.refl _ | assumption | apply Ext.drewN | apply Ext.drew | apply Ext.alloc))⟩

set_option maxHeartbeats 1600000 in
theorem isIn_c (xs : List Int) (n : Int) (a : Value) (w : World) (la : Nat) (ha : Ints w la a xs) :
    Calls Try.prog 124 #[a, .int .i64 n] w fun e w' => e = .returned (.bool (decide (n ∈ xs))) ∧ Ext w w' := by
  obtain ⟨a1, cap1, rfl, _, _, ⟨hlen, _⟩, hc1⟩ := ha
  go_enter Try.func124, Try.ntmps124
  go_wp2_with fail
  go_loopw [5] (fun i wr => ∃ k m : Nat, k ≤ xs.length ∧ i = .int .i64 k ∧ wr = w.drewN m ∧ Hid (n ∉ xs.take k)) (fun i _ => xs.length - (intOf i).toNat)
  case atStart => exact ⟨0, 0, Nat.zero_le _, rfl, rfl, Lib.hid (by simp)⟩
  case round =>
    obtain ⟨k, m, hk, rfl, rfl, ht⟩ := hrel
    by_cases hlt : k < xs.length
    · obtain ⟨b1, off1, rfl, _, hcell1, _⟩ := hc1 k hlt
      have hk4 : (k : Int) < xs.length := by omega
      have hg := Lib.hid (show xs.getD k 0 ∈ xs by simp [hlt])
      have hs := Lib.hid (show xs.take (k+1) = xs.take k ++ [xs.getD k 0] by rw [List.take_succ_eq_append_getElem hlt]; simp [hlt])
      clear hc1
      generalize xs.getD k 0 = x at *
      by_cases hx : x = n
      · have hq : (x == n) = true := by simpa using hx
        have hn := Lib.hid (show decide (n ∈ xs) = true by rw [← hx]; simpa using hg.out)
        replace hx := Lib.hid hx
        go_wp2_with fail
        go_ret
        exact ⟨by rw [hn.out] <;> rfl, (by repeat (first | exact Ext.refl _ | assumption | apply Ext.drewN | apply Ext.drew | apply Ext.alloc))⟩
      · have hq : (x == n) = false := by simpa using hx
        have hn := Lib.hid (show n ∉ xs.take (k+1) by rw [hs.out]; simp only [List.mem_append, List.mem_singleton, not_or]; exact ⟨ht.out, fun h => hx h.symm⟩)
        replace hx := Lib.hid hx
        go_wp2_with fail
        go_roundw
        case rel => exact ⟨k+1, _, by omega, by go_num, rfl, hn⟩
        case measure => simp [intOf]; omega
    · obtain rfl : k = xs.length := by omega
      have hn := Lib.hid (show decide (n ∈ xs) = false by have := ht.out; rw [List.take_length] at this; simpa using this)
      go_wp2_with fail
      go_ret
      exact ⟨by rw [hn.out] <;> rfl, (by repeat (first | exact Ext.refl _ | assumption | apply Ext.drewN | apply Ext.drew | apply Ext.alloc))⟩

set_option maxHeartbeats 1600000 in
theorem leqView_c (b1 : Int) (u1 v1 u2 v2 : Value) (s1 t1 : List Int) (w : World) (l1 m1 l2 m2 : Nat) (h1 : Ints w l1 u1 s1) (k1 : Ints w m1 v1 t1) (h2 : Ints w l2 u2 s1) (k2 : Ints w m2 v2 t1) :
    Calls Try.prog 33 #[.agg #[.int .i64 b1, u1, v1], .agg #[.int .i64 b1, u2, v2]] w fun e w' => e = .returned (.bool true) ∧ Ext w w' := by
  obtain ⟨a1, cp1, rfl⟩ := h1.form
  obtain ⟨a2, cp2, rfl⟩ := k1.form
  obtain ⟨a3, cp3, rfl⟩ := h2.form
  obtain ⟨a4, cp4, rfl⟩ := k2.form
  go_enter Try.func33, Try.ntmps33
  go_wp2_with fail
  refine (leqInts_c s1 _ _ _ l1 l2 (h1.ext (by repeat (first | (with_reducible assumption) | (with_reducible refine Ext.setCell ?_ (by first | (simp; done) | (simp; omega) | omega) _) | (with_reducible apply Ext.alloc) | (with_reducible apply Ext.drew) | (with_reducible apply Ext.drewN) | (with_reducible exact Ext.refl _)))) (h2.ext (by repeat (first | (with_reducible assumption) | (with_reducible refine Ext.setCell ?_ (by first | (simp; done) | (simp; omega) | omega) _) | (with_reducible apply Ext.alloc) | (with_reducible apply Ext.drew) | (with_reducible apply Ext.drewN) | (with_reducible exact Ext.refl _))))).mono ?_
  rintro e w1 ⟨rfl, xw1⟩
  have Lw1 : Ext w w1 := Ext.trans (by repeat (first | (with_reducible assumption) | (with_reducible refine Ext.setCell ?_ (by first | (simp; done) | (simp; omega) | omega) _) | (with_reducible apply Ext.alloc) | (with_reducible apply Ext.drew) | (with_reducible apply Ext.drewN) | (with_reducible exact Ext.refl _))) xw1
  have Xw1 : Ext w w1 := Lw1
  have va0 : w1.cell? ⟨w.heap.size, 0, none⟩ = some (.int .i64 b1) := xw1.cell (by first | (simp; done) | ((repeat rw [World.cell?_alloc_lt _ _ _ (by simp <;> omega)]); simp; done) | (go_simp; done))
  have va1 : w1.cell? ⟨w.heap.size, 1, none⟩ = some (.slice a1 s1.length cp1) := xw1.cell (by first | (simp; done) | ((repeat rw [World.cell?_alloc_lt _ _ _ (by simp <;> omega)]); simp; done) | (go_simp; done))
  have va2 : w1.cell? ⟨w.heap.size, 2, none⟩ = some (.slice a2 t1.length cp2) := xw1.cell (by first | (simp; done) | ((repeat rw [World.cell?_alloc_lt _ _ _ (by simp <;> omega)]); simp; done) | (go_simp; done))
  have vb0 : w1.cell? ⟨w.heap.size + 1, 0, none⟩ = some (.int .i64 b1) := xw1.cell (by first | (simp; done) | ((repeat rw [World.cell?_alloc_lt _ _ _ (by simp <;> omega)]); simp; done) | (go_simp; done))
  have vb1 : w1.cell? ⟨w.heap.size + 1, 1, none⟩ = some (.slice a3 s1.length cp3) := xw1.cell (by first | (simp; done) | ((repeat rw [World.cell?_alloc_lt _ _ _ (by simp <;> omega)]); simp; done) | (go_simp; done))
  have vb2 : w1.cell? ⟨w.heap.size + 1, 2, none⟩ = some (.slice a4 t1.length cp4) := xw1.cell (by first | (simp; done) | ((repeat rw [World.cell?_alloc_lt _ _ _ (by simp <;> omega)]); simp; done) | (go_simp; done))
  have z_va : w.heap.size < w1.heap.size := World.block_lt_of_cell? _ _ va0
  have z_vb : w.heap.size + 1 < w1.heap.size := World.block_lt_of_cell? _ _ vb0
  have s_w1 : w.heap.size ≤ w1.heap.size := Xw1.size
  clear xw1
  go_wp2_with fail
  refine (leqInts_c t1 _ _ _ m1 m2 (k1.ext (Xw1.trans (by repeat (first | (with_reducible assumption) | (with_reducible refine Ext.setCell ?_ (by first | (simp; done) | (simp; omega) | omega) _) | (with_reducible apply Ext.alloc) | (with_reducible apply Ext.drew) | (with_reducible apply Ext.drewN) | (with_reducible exact Ext.refl _))))) (k2.ext (Xw1.trans (by repeat (first | (with_reducible assumption) | (with_reducible refine Ext.setCell ?_ (by first | (simp; done) | (simp; omega) | omega) _) | (with_reducible apply Ext.alloc) | (with_reducible apply Ext.drew) | (with_reducible apply Ext.drewN) | (with_reducible exact Ext.refl _)))))).mono ?_
  rintro e w2 ⟨rfl, xw2⟩
  have Lw2 : Ext w1 w2 := Ext.trans (by repeat (first | (with_reducible assumption) | (with_reducible refine Ext.setCell ?_ (by first | (simp; done) | (simp; omega) | omega) _) | (with_reducible apply Ext.alloc) | (with_reducible apply Ext.drew) | (with_reducible apply Ext.drewN) | (with_reducible exact Ext.refl _))) xw2
  have Xw2 : Ext w w2 := Xw1.trans Lw2
  replace va0 := Lw2.cell va0
  replace va1 := Lw2.cell va1
  replace va2 := Lw2.cell va2
  replace vb0 := Lw2.cell vb0
  replace vb1 := Lw2.cell vb1
  replace vb2 := Lw2.cell vb2
  have z_va : w.heap.size < w2.heap.size := World.block_lt_of_cell? _ _ va0
  have z_vb : w.heap.size + 1 < w2.heap.size := World.block_lt_of_cell? _ _ vb0
  have s_w2 : w.heap.size ≤ w2.heap.size := Xw2.size
  clear xw2
  go_wp2_with fail
  go_ret
  exact ⟨rfl, Xw2.trans (by repeat (first | (with_reducible assumption) | (with_reducible refine Ext.setCell ?_ (by first | (simp; done) | (simp; omega) | omega) _) | (with_reducible apply Ext.alloc) | (with_reducible apply Ext.drew) | (with_reducible apply Ext.drewN) | (with_reducible exact Ext.refl _)))⟩

end Go.Proofs.Ytonnnjaooifpjaa

/- Walks: helpers of the laws. -/
namespace Go.Proofs.Ytonnnjaooifpjaa
open Go.RowKit
set_option linter.unusedVariables false
set_option maxRecDepth 100000

set_option maxHeartbeats 1600000 in
theorem takes_c (xs ix : List Int) (a b : Value) (w : World) (la lb : Nat) (ha : Ints w la a xs) (hb : Ints w lb b ix) (hin : ∀ i ∈ ix, 0 ≤ i ∧ i < xs.length) :
    Calls Try.prog 62 #[a, b] w (PInts w (takL xs ix)) := by
  obtain ⟨a1, c1, rfl⟩ := ha.form
  obtain ⟨a2, c2, rfl⟩ := hb.form
  have hlen := hb.len
  replace hin := Lib.hid hin
  go_enter Try.func62, Try.ntmps62
  go_wp2_with fail
  go_loopw [5, 6] (fun v i wr => ∃ k : Nat, k ≤ ix.length ∧ i = .int .i64 k ∧ OwnI wr w.heap.size v (takL xs (ix.take k)) ∧ Ext w wr) (fun _ i _ => ix.length - (intOf i).toNat)
  case atStart => exact ⟨0, Nat.zero_le _, rfl, OwnI.lit0 w w.heap.size (Nat.le_refl _), (by repeat (first | exact Ext.refl _ | assumption | apply Ext.drewN | apply Ext.drew | apply Ext.alloc))⟩
  case round =>
    obtain ⟨k, hk, rfl, ho, hx⟩ := hrel
    have hz := hx.size
    have hl := Lib.hid (takL_len xs (ix.take k))
    by_cases hlt : k < ix.length
    · obtain ⟨_, _, hv, _, _, _, hc⟩ := hb.ext hx
      cases hv
      obtain ⟨b1, off1, rfl, _, hcell, _⟩ := hc k hlt
      have g : ix.getD k 0 = ix[k] := by simp [hlt]
      have hs := takL_take xs ix k hlt
      obtain ⟨i1, i2⟩ := hin.out _ (List.getElem_mem hlt)
      obtain ⟨j, hj⟩ : ∃ j : Nat, ix[k] = j := ⟨_, (Int.toNat_of_nonneg i1).symm⟩
      rw [g, hj] at hcell
      rw [hj] at hs i2
      have hjl : j < xs.length := by omega
      obtain ⟨_, _, hv, _, _, _, hc'⟩ := ha.ext hx
      cases hv
      obtain ⟨b2, off2, rfl, _, hcell2, _⟩ := hc' j hjl
      have g2 : xs.getD j 0 = xs[j] := by simp [hjl]
      rw [g2] at hcell2
      have hs' := Lib.hid (show takL xs (ix.take (k+1)) = takL xs (ix.take k) ++ [xs[j]] by rw [hs]; simp [hjl])
      clear hc hc' g g2 hj hs i1
      go_wp2_with (at_builtin; refine wpList_app rfl (.tmp 14) (.tmp 22) rfl rfl rfl (ho.ext ((Ext.refl _).alloc _)) (Ints.one _ 0 _ (Nat.zero_le _)) (by have := hl.out; simp only [List.length_cons, List.length_nil, List.length_take] at this ⊢; omega) (by simp; omega) ?_)
      intro v' w3 ho3 _ hb3 _
      have hx3 := (hx.alloc (.cells #[.int .i64 xs[j]] 3)).below hb3 (by omega)
      clear hb3 ho
      replace ho3 := Lib.hid ho3
      go_wp2_with fail
      go_roundw
      case rel => exact ⟨k+1, by omega, by go_num, by rw [hs'.out]; exact ho3.out, hx3⟩
      case measure => simp [intOf]; omega
    · obtain rfl : k = ix.length := by omega
      replace ho := Lib.hid ho
      go_wp2_with fail
      go_ret
      exact PInts.mk (by have := ho.out; rw [List.take_length] at this; exact this) (Nat.le_refl _) (by rw [takL_len]; omega) hx


set_option maxHeartbeats 1600000 in
theorem lupTo_c (n : Nat) (w : World) (hn : n ≤ 1000) :
    Calls Try.prog 21 #[.int .i64 (n : Int)] w (PInts w (upL n)) := by
  go_enter Try.func21, Try.ntmps21
  go_wp2_with fail
  go_loopw [3, 4] (fun v i wr => ∃ k : Nat, k ≤ n ∧ i = .int .i64 k ∧ OwnI wr w.heap.size v (upL k) ∧ Ext w wr) (fun _ i _ => n - (intOf i).toNat)
  case atStart => exact ⟨0, Nat.zero_le _, rfl, OwnI.lit0 w w.heap.size (Nat.le_refl _), (by repeat (first | exact Ext.refl _ | assumption | apply Ext.drewN | apply Ext.drew | apply Ext.alloc))⟩
  case round =>
    obtain ⟨k, hk, rfl, ho, hx⟩ := hrel
    have hz := hx.size
    have hl : (upL k).length = k := by simp [upL]
    by_cases hlt : k < n
    · have hI : (k : Int) < n := by omega
      have hs := Lib.hid (upL_succ k)
      go_wp2_with (at_builtin; refine wpList_app rfl (.tmp 11) (.tmp 13) rfl rfl rfl (ho.ext ((Ext.refl _).alloc _)) (Ints.one _ 0 _ (Nat.zero_le _)) (by simp only [List.length_cons, List.length_nil]; omega) (by simp; omega) ?_)
      intro v' w3 ho3 _ hb3 _
      have hx3 := (hx.alloc (.cells #[.int .i64 (k : Int)] 3)).below hb3 (by omega)
      clear hb3 ho
      replace ho3 := Lib.hid ho3
      go_wp2_with fail
      go_roundw
      case rel => exact ⟨k+1, by omega, by go_num, by rw [hs.out]; exact ho3.out, hx3⟩
      case measure => simp [intOf]; omega
    · obtain rfl : k = n := by omega
      replace ho := Lib.hid ho
      go_wp2_with fail
      go_ret
      exact PInts.mk ho.out (Nat.le_refl _) (by omega) hx


theorem back_take (xs : List Int) (k : Nat) (h : k < xs.length) : (xs.drop k).reverse = (xs.drop (k+1)).reverse ++ [xs.getD k 0] := by
  rw [List.drop_eq_getElem_cons h, List.reverse_cons]; simp [h]
set_option maxHeartbeats 1600000 in
theorem back_c (xs : List Int) (v : Value) (w : World) (lo : Nat) (hv : Ints w lo v xs) :
    Calls Try.prog 20 #[v] w (PInts w xs.reverse) := by
  have hl4 := hv.len
  have hrl : xs.reverse.length = xs.length := by simp
  replace hrl := Lib.hid hrl
  obtain ⟨a1, c1, rfl⟩ := hv.form
  go_enter Try.func20, Try.ntmps20
  go_wp2_with fail
  go_loopw [3, 4] (fun v i wr => ∃ k : Nat, k ≤ xs.length ∧ i = .int .i64 ((k : Int) - 1) ∧ OwnI wr w.heap.size v (xs.drop k).reverse ∧ Ext w wr) (fun _ i _ => (intOf i + 1).toNat)
  case atStart => exact ⟨xs.length, Nat.le_refl _, rfl, by rw [List.drop_length]; exact OwnI.lit0 w w.heap.size (Nat.le_refl _), (by repeat (first | exact Ext.refl _ | assumption | apply Ext.drewN | apply Ext.drew | apply Ext.alloc))⟩
  case round =>
    obtain ⟨k, hk, rfl, ho, hx⟩ := hrel
    have hz := hx.size
    have hl := Lib.hid (show (xs.drop k).reverse.length = xs.length - k by simp)
    by_cases hlt : 0 < k
    · obtain ⟨j, rfl⟩ : ∃ j, k = j + 1 := ⟨k - 1, by omega⟩
      have hI : (0 : Int) ≤ ((j + 1 : Nat) : Int) - 1 := by omega
      have hs := Lib.hid (back_take xs j (by omega))
      obtain ⟨b2, off2, rfl, hcell2⟩ := (hv.ext hx).at j (by omega)
      have hj : (((j + 1 : Nat) : Int) - 1) = (j : Int) := by omega
      rw [hj]
      generalize xs.getD j 0 = x at *
      have hI2 : (j : Int) < xs.length := by omega
      clear hI hj
      go_wp2_with (at_builtin; refine wpList_app rfl (.tmp 13) (.tmp 18) rfl rfl rfl (ho.ext ((Ext.refl _).alloc _)) (Ints.one _ 0 _ (Nat.zero_le _)) (by have := hl.out; simp only [List.length_cons, List.length_nil]; omega) (by simp; omega) ?_)
      intro v' w3 ho3 _ hb3 _
      have hx3 := (hx.alloc (.cells #[.int .i64 x] 3)).below hb3 (by omega)
      clear hb3 ho hcell2
      replace ho3 := Lib.hid ho3
      go_wp2_with fail
      go_roundw
      case rel => exact ⟨j, by omega, rfl, by rw [hs.out]; exact ho3.out, hx3⟩
      case measure => simp [intOf]
    · obtain rfl : k = 0 := by omega
      replace ho := Lib.hid ho
      go_wp2_with fail
      go_ret
      exact PInts.mk (by have := ho.out; rw [List.drop_zero] at this; exact this) (Nat.le_refl _) (by rw [hrl.out]; omega) hx

/-- the sum of numbers -/
def sumL (xs : List Int) : Int := xs.foldl (· + ·) 0
theorem sumL_take (xs : List Int) (k : Nat) (h : k < xs.length) : sumL (xs.take (k+1)) = sumL (xs.take k) + xs.getD k 0 := by
  unfold sumL; rw [List.take_succ_eq_append_getElem h, List.foldl_append]; simp [h]
theorem sumL_bd (xs : List Int) (h : ∀ x ∈ xs, -1000000 ≤ x ∧ x ≤ 1000000) : -(1000000 * (xs.length : Int)) ≤ sumL xs ∧ sumL xs ≤ 1000000 * (xs.length : Int) := by
  have key : ∀ (ys : List Int) (a : Int), (∀ x ∈ ys, -1000000 ≤ x ∧ x ≤ 1000000) → a - 1000000 * (ys.length : Int) ≤ ys.foldl (· + ·) a ∧ ys.foldl (· + ·) a ≤ a + 1000000 * (ys.length : Int) := by
    intro ys
    induction ys with
    | nil => intro a _; simp
    | cons y r ih =>
      intro a hy
      have h1 := hy y (by simp)
      have h2 := ih (a + y) (fun x hx => hy x (by simp [hx]))
      simp only [List.foldl_cons, List.length_cons]
      omega
  have := key xs 0 h
  unfold sumL; omega
theorem leqInts_e (xs ys : List Int) (a b : Value) (w : World) (la lb : Nat) (ha : Ints w la a xs) (hb : Ints w lb b ys) (he : xs = ys) :
    Calls Try.prog 27 #[a, b] w fun e w' => e = .returned (.bool true) ∧ Ext w w' := by
  subst he; exact leqInts_c xs a b w la lb ha hb
theorem leqView_e (b1 b2 : Int) (u1 v1 u2 v2 : Value) (s1 t1 s2 t2 : List Int) (w : World) (l1 m1 l2 m2 : Nat) (h1 : Ints w l1 u1 s1) (k1 : Ints w m1 v1 t1) (h2 : Ints w l2 u2 s2) (k2 : Ints w m2 v2 t2) (he : b1 = b2 ∧ s1 = s2 ∧ t1 = t2) :
    Calls Try.prog 33 #[.agg #[.int .i64 b1, u1, v1], .agg #[.int .i64 b2, u2, v2]] w fun e w' => e = .returned (.bool true) ∧ Ext w w' := by
  obtain ⟨rfl, rfl, rfl⟩ := he; exact leqView_c b1 u1 v1 u2 v2 s1 t1 w l1 m1 l2 m2 h1 k1 h2 k2

end Go.Proofs.Ytonnnjaooifpjaa

/- Helpers of walks: capacities, two rows that grow. -/
namespace Go.Proofs.Ytonnnjaooifpjaa
open Go.RowKit
set_option linter.unusedVariables false

theorem Ints.capLe {w : World} {lo : Nat} {a : Option Addr} {n c : Nat} {xs : List Int} (h : Ints w lo (.slice a n c) xs) : n ≤ c ∧ c ≤ maxLen := by
  obtain ⟨a', c', e, h1, h2, _⟩ := h
  cases e
  exact ⟨h1, h2⟩
theorem PViewB.two {w w' : World} {B : Nat} {b : Int} {s t : List Int} {v1 v2 : Value} (T : Two B w' v1 v2 s t) (hB : w.heap.size ≤ B) (hs : s.length ≤ 1000) (ht : t.length ≤ 1000) (hx : Ext w w') :
    PViewB w b s t true (.returned (.tuple #[.agg #[.int .i64 b, v1, v2], .bool true])) w' :=
  ⟨_, _, rfl, (T.o1.ints (by omega)).lower hB, (T.o2.ints (by omega)).lower hB, (T.o1.lower hB).z, (T.o2.lower hB).z,
    (fun n1 n2 h => by obtain ⟨g, _, h1, _⟩ := (T.o1).row n1; rw [h1] at h; exact T.sep g (by rw [h1]; rfl) (h ▸ rfl)), hx⟩
theorem pi_eq {w w0 : World} {xs ys : List Int} {f : Nat} {args : Array Value} (he : xs = ys) (h : Calls Try.prog f args w (PInts w0 xs)) : Calls Try.prog f args w (PInts w0 ys) := he ▸ h
theorem pv_eq {w w0 : World} {x : VBool} {B : Int} {S T : List Int} {o : Bool} {f : Nat} {args : Array Value} (he : x = (B, S, T, o)) (h : Calls Try.prog f args w (PVB w0 x)) : Calls Try.prog f args w (PViewB w0 B S T o) := by subst he; exact h
end Go.Proofs.Ytonnnjaooifpjaa

/- Walks: drawn values for a view of a memory. -/
namespace Go.Proofs.Ytonnnjaooifpjaa
open Go.RowKit
set_option linter.unusedVariables false
set_option maxRecDepth 100000

def PVals (rb k : Nat) (w : World) (e : Ending) (w' : World) : Prop := ∃ (p : Option Addr) (n c : Nat) (xs : List Int), e = .returned (.slice p n c) ∧ Ints w' w.heap.size (.slice p n c) xs ∧ xs.length ≤ 60 ∧ Rd w' rb k ∧ Chg rb (rb + 1) w w'
theorem cnt60 {s : List Int} (h : shapeB s = true) : 0 ≤ countL s ∧ countL s ≤ 60 := by have := shapeB_in h; omega
/-- a memory, a view and values are drawn -/
def PMVV (lo : Nat) (e : Ending) (w' : World) : Prop := ∃ (mem : List Int) (p0 : Option Addr) (n0 r0 : Nat) (b : Int) (s t : List Int) (p1 p2 : Option Addr) (n1 r1 n2 r2 : Nat) (vs : List Int) (p3 : Option Addr) (n3 r3 : Nat), e = .returned (.tuple #[.slice p0 n0 r0, .agg #[.int .i64 b, .slice p1 n1 r1, .slice p2 n2 r2], .slice p3 n3 r3]) ∧ mem.length ≤ 60 ∧
  Ints w' lo (.slice p0 n0 r0) mem ∧ Ints w' lo (.slice p1 n1 r1) s ∧ Ints w' lo (.slice p2 n2 r2) t ∧ s.length ≤ 4 ∧ t.length ≤ 5 ∧ Ints w' lo (.slice p3 n3 r3) vs ∧ vs.length ≤ 60
end Go.Proofs.Ytonnnjaooifpjaa

/- Walks: a view and an index are drawn. -/
namespace Go.Proofs.Ytonnnjaooifpjaa
open Go.RowKit
set_option linter.unusedVariables false
set_option maxRecDepth 100000

/-- a view and a list are drawn -/
def PVL (lo : Nat) (e : Ending) (w' : World) : Prop := ∃ (b : Int) (s t : List Int) (p1 p2 : Option Addr) (r1 r2 : Nat) (xs : List Int) (p3 : Option Addr) (r3 : Nat), e = .returned (.tuple #[.agg #[.int .i64 b, .slice p1 s.length r1, .slice p2 t.length r2], .slice p3 xs.length r3]) ∧
  Ints w' lo (.slice p1 s.length r1) s ∧ Ints w' lo (.slice p2 t.length r2) t ∧ s.length ≤ 4 ∧ t.length ≤ 5 ∧ Ints w' lo (.slice p3 xs.length r3) xs ∧ xs.length ≤ 8
end Go.Proofs.Ytonnnjaooifpjaa

/- Walks: a view and an order are drawn. -/
namespace Go.Proofs.Ytonnnjaooifpjaa
open Go.RowKit
set_option linter.unusedVariables false
set_option maxRecDepth 100000

set_option maxHeartbeats 3200000 in
theorem drawPermuteDims_c (a : Option Addr) (n cap : Nat) (w : World) (hb : BysIn w a n cap) :
    Calls Try.prog 58 #[.slice a n cap] w (fun e w' => PVL w.heap.size e w' ∧ Ext w w') := by
  go_enter Try.func58, Try.ntmps58
  go_wp2_with fail
  refine (newReader_c a n cap _ (hb.ext (by repeat (first | (with_reducible assumption) | (with_reducible refine Ext.setCell ?_ (by first | (simp; done) | (simp; omega) | omega) _) | (with_reducible apply Ext.alloc) | (with_reducible apply Ext.drew) | (with_reducible apply Ext.drewN) | (with_reducible exact Ext.refl _))))).mono ?_
  rintro e w1 ⟨rfl, hr, xw1⟩
  have Lw1 : Ext w w1 := Ext.trans (by repeat (first | (with_reducible assumption) | (with_reducible refine Ext.setCell ?_ (by first | (simp; done) | (simp; omega) | omega) _) | (with_reducible apply Ext.alloc) | (with_reducible apply Ext.drew) | (with_reducible apply Ext.drewN) | (with_reducible exact Ext.refl _))) xw1
  have Xw1 : Ext w w1 := Lw1
  have q0 : w1.cell? ⟨w.heap.size, 0, none⟩ = some (.int .i64 0) := xw1.cell (by first | (simp; done) | ((repeat rw [World.cell?_alloc_lt _ _ _ (by simp <;> omega)]); simp; done) | (go_simp; done))
  have q1 : w1.cell? ⟨w.heap.size, 1, none⟩ = some (.slice none 0 0) := xw1.cell (by first | (simp; done) | ((repeat rw [World.cell?_alloc_lt _ _ _ (by simp <;> omega)]); simp; done) | (go_simp; done))
  have q2 : w1.cell? ⟨w.heap.size, 2, none⟩ = some (.slice none 0 0) := xw1.cell (by first | (simp; done) | ((repeat rw [World.cell?_alloc_lt _ _ _ (by simp <;> omega)]); simp; done) | (go_simp; done))
  have f_q0 : w1.frozen? ⟨w.heap.size, 0, none⟩ = false := xw1.frz (by simp <;> omega) (by first | (simp; done) | (go_simp; done))
  have f_q1 : w1.frozen? ⟨w.heap.size, 1, none⟩ = false := xw1.frz (by simp <;> omega) (by first | (simp; done) | (go_simp; done))
  have f_q2 : w1.frozen? ⟨w.heap.size, 2, none⟩ = false := xw1.frz (by simp <;> omega) (by first | (simp; done) | (go_simp; done))
  have z_q : w.heap.size < w1.heap.size := World.block_lt_of_cell? _ _ q0
  have s_w1 : w.heap.size ≤ w1.heap.size := Xw1.size
  clear xw1
  simp only [World.size_alloc] at hr
  have z1 := hr.lt
  clear hb
  go_wp2_with fail
  refine (someView_c _ 0 _ hr (by omega)).mono ?_
  rintro e w2 ⟨b, s, t, p1, p2, n1, r1, n2, r2, rfl, i1, i2, l1, l2, Rw2, Cw2⟩
  have zc_w2 := Cw2.size
  have Xw2 : Ext w w2 := Rch.toExt' Cw2 (by omega) (Xw1)
  replace q0 := Cw2.cell (by omega) q0
  replace f_q0 := Cw2.frzO (by omega) (by omega) f_q0
  replace q1 := Cw2.cell (by omega) q1
  replace f_q1 := Cw2.frzO (by omega) (by omega) f_q1
  replace q2 := Cw2.cell (by omega) q2
  replace f_q2 := Cw2.frzO (by omega) (by omega) f_q2
  have z_q : w.heap.size < w2.heap.size := World.block_lt_of_cell? _ _ q0
  have s_w2 : w.heap.size ≤ w2.heap.size := Xw2.size
  clear hr Cw2
  obtain rfl := i1.len_eq
  obtain rfl := i2.len_eq
  have hx3 : Ext w2 ((w2.alloc (.cells #[.int .i64 b, .slice p1 s.length r1, .slice p2 t.length r2] 25)).alloc (.cells #[] 3)) := (by repeat (first | (with_reducible assumption) | (with_reducible refine Ext.setCell ?_ (by first | (simp; done) | (simp; omega) | omega) _) | (with_reducible apply Ext.alloc) | (with_reducible apply Ext.drew) | (with_reducible apply Ext.drewN) | (with_reducible exact Ext.refl _)))
  have ho3 : OwnZ ((w2.alloc (.cells #[.int .i64 b, .slice p1 s.length r1, .slice p2 t.length r2] 25)).alloc (.cells #[] 3)) (w2.heap.size + 1) (.slice (some ⟨w2.heap.size + 1, 0, none⟩) 0 0) [] := by
    have := OwnI.lit0 (w2.alloc (.cells #[.int .i64 b, .slice p1 s.length r1, .slice p2 t.length r2] 25)) (w2.heap.size + 1) (by simp)
    exact (by simpa using this : OwnI _ _ _ _).z
  have v0 : ((w2.alloc (.cells #[.int .i64 b, .slice p1 s.length r1, .slice p2 t.length r2] 25)).alloc (.cells #[] 3)).cell? ⟨w2.heap.size, 0, none⟩ = some (.int .i64 b) := (by first | (simp; done) | ((repeat rw [World.cell?_alloc_lt _ _ _ (by simp <;> omega)]); simp; done) | (go_simp; done))
  have v1 : ((w2.alloc (.cells #[.int .i64 b, .slice p1 s.length r1, .slice p2 t.length r2] 25)).alloc (.cells #[] 3)).cell? ⟨w2.heap.size, 1, none⟩ = some (.slice p1 s.length r1) := (by first | (simp; done) | ((repeat rw [World.cell?_alloc_lt _ _ _ (by simp <;> omega)]); simp; done) | (go_simp; done))
  have v2 : ((w2.alloc (.cells #[.int .i64 b, .slice p1 s.length r1, .slice p2 t.length r2] 25)).alloc (.cells #[] 3)).cell? ⟨w2.heap.size, 2, none⟩ = some (.slice p2 t.length r2) := (by first | (simp; done) | ((repeat rw [World.cell?_alloc_lt _ _ _ (by simp <;> omega)]); simp; done) | (go_simp; done))
  have hr3 : Rd ((w2.alloc (.cells #[.int .i64 b, .slice p1 s.length r1, .slice p2 t.length r2] 25)).alloc (.cells #[] 3)) (w.heap.size + 1) (0 + 210) := Rw2.ext hx3
  go_wp2_with fail
  go_loopw [6, 7] (fun v i wr => ∃ (k q : Nat) (xs : List Int), k ≤ s.length ∧ i = .int .i64 k ∧ Hid (xs.length = k) ∧ q ≤ 300 + 3 * k ∧ OwnZ wr (w2.heap.size + 1) v xs ∧ Rd wr (w.heap.size + 1) q ∧ Chg (w.heap.size + 1) (w.heap.size + 1 + 1) w2 wr ∧ wr.cell? ⟨w2.heap.size, 0, none⟩ = some (.int .i64 b) ∧ wr.cell? ⟨w2.heap.size, 1, none⟩ = some (.slice p1 s.length r1) ∧ wr.cell? ⟨w2.heap.size, 2, none⟩ = some (.slice p2 t.length r2)) (fun _ i _ => s.length - (intOf i).toNat)
  case atStart => exact ⟨0, 210, [], Nat.zero_le _, rfl, Lib.hid rfl, by omega, ho3, hr3, Chg.of_ext hx3, v0, v1, v2⟩
  case round =>
    clear hr3 ho3 hx3 v0 v1 v2
    obtain ⟨k, q, xs, hk, rfl, hxl, hq, ho, hr, hX, v0, v1, v2⟩ := hrel
    have hz : w2.heap.size ≤ wr.heap.size := hX.size
    have hzc : w2.heap.size < wr.heap.size := World.block_lt_of_cell? _ _ v0
    have hl4 : Hid (xs.length ≤ 4) := Lib.hid (by have := hxl.out; omega)
    have I := ho.ints (by have := hl4.out; omega)
    obtain ⟨a5, c5, rfl⟩ := I.form
    by_cases hlt : k < s.length
    · have hkI : (k : Int) < s.length := by omega
      have hxI : (xs.length : Int) ≤ 4 := by have := hl4.out; omega
      go_wp2_with fail
      refine (pick1_c _ _ _ _ hr (by omega) (by omega)).mono ?_
      rintro e w4 ⟨x, rfl, hx, hr4, C4⟩
      replace ho := ho.chg C4 (by omega)
      replace I := I.chg C4 (by omega)
      have hX4 := hX.trans C4
      replace v0 := C4.cell (.inr (by omega)) v0
      replace v1 := C4.cell (.inr (by omega)) v1
      replace v2 := C4.cell (.inr (by omega)) v2
      have z4 : w2.heap.size < w4.heap.size := World.block_lt_of_cell? _ _ v0
      clear C4 hr hX
      obtain ⟨m, rfl⟩ : ∃ m : Nat, x = m := ⟨x.toNat, by omega⟩
      replace ho := Lib.hid ho
      go_wp2_with fail
      refine (insert_c xs _ m _ _ _ (I.ext (by repeat (first | (with_reducible assumption) | (with_reducible refine Ext.setCell ?_ (by first | (simp; done) | (simp; omega) | omega) _) | (with_reducible apply Ext.alloc) | (with_reducible apply Ext.drew) | (with_reducible apply Ext.drewN) | (with_reducible exact Ext.refl _)))) (by omega) (by have := hl4.out; omega)).mono ?_
      rintro e w5 ⟨v5, rfl, I5, Z5, x5⟩
      have hX5 := Chg.ext hX4 (Ext.trans (by repeat (first | (with_reducible assumption) | (with_reducible refine Ext.setCell ?_ (by first | (simp; done) | (simp; omega) | omega) _) | (with_reducible apply Ext.alloc) | (with_reducible apply Ext.drew) | (with_reducible apply Ext.drewN) | (with_reducible exact Ext.refl _))) x5)
      have hr5 := hr4.ext (Ext.trans (by repeat (first | (with_reducible assumption) | (with_reducible refine Ext.setCell ?_ (by first | (simp; done) | (simp; omega) | omega) _) | (with_reducible apply Ext.alloc) | (with_reducible apply Ext.drew) | (with_reducible apply Ext.drewN) | (with_reducible exact Ext.refl _))) x5)
      replace v0 := Ext.cell (Ext.trans (by repeat (first | (with_reducible assumption) | (with_reducible refine Ext.setCell ?_ (by first | (simp; done) | (simp; omega) | omega) _) | (with_reducible apply Ext.alloc) | (with_reducible apply Ext.drew) | (with_reducible apply Ext.drewN) | (with_reducible exact Ext.refl _))) x5) v0
      replace v1 := Ext.cell (Ext.trans (by repeat (first | (with_reducible assumption) | (with_reducible refine Ext.setCell ?_ (by first | (simp; done) | (simp; omega) | omega) _) | (with_reducible apply Ext.alloc) | (with_reducible apply Ext.drew) | (with_reducible apply Ext.drewN) | (with_reducible exact Ext.refl _))) x5) v1
      replace v2 := Ext.cell (Ext.trans (by repeat (first | (with_reducible assumption) | (with_reducible refine Ext.setCell ?_ (by first | (simp; done) | (simp; omega) | omega) _) | (with_reducible apply Ext.alloc) | (with_reducible apply Ext.drew) | (with_reducible apply Ext.drewN) | (with_reducible exact Ext.refl _))) x5) v2
      have Z6 := Lib.hid (Z5.lower (show w2.heap.size + 1 ≤ _ by first | omega | (simp; omega)))
      clear x5 hX4 hr4 Z5 I5
      go_wp2_with fail
      go_roundw
      case rel => exact ⟨k + 1, q + 1, xs.take m ++ [(k : Int)] ++ xs.drop m, by omega, by go_num, Lib.hid (by have := hxl.out; simp; omega), by omega, Z6.out.ext (by repeat (first | (with_reducible assumption) | (with_reducible refine Ext.setCell ?_ (by first | (simp; done) | (simp; omega) | omega) _) | (with_reducible apply Ext.alloc) | (with_reducible apply Ext.drew) | (with_reducible apply Ext.drewN) | (with_reducible exact Ext.refl _))), hr5, hX5, v0, v1, v2⟩
      case measure => simp [intOf]; omega
    · have hkI : ¬ (k : Int) < s.length := by omega
      have key : ∀ (wx : World) (ys : List Int) (a6 : Option Addr) (c6 : Nat), Ints wx (w2.heap.size + 1) (.slice a6 ys.length c6) ys → ys.length ≤ 8 → Chg (w.heap.size + 1) (w.heap.size + 1 + 1) w2 wx → wx.cell? ⟨w2.heap.size, 0, none⟩ = some (.int .i64 b) ∧ wx.cell? ⟨w2.heap.size, 1, none⟩ = some (.slice p1 s.length r1) ∧ wx.cell? ⟨w2.heap.size, 2, none⟩ = some (.slice p2 t.length r2) →
          PVL w.heap.size (.returned (.tuple #[.agg #[.int .i64 b, .slice p1 s.length r1, .slice p2 t.length r2], .slice a6 ys.length c6])) (((wx.setCell ⟨w.heap.size, 0, none⟩ (.int .i64 b)).setCell ⟨w.heap.size, 1, none⟩ (.slice p1 s.length r1)).setCell ⟨w.heap.size, 2, none⟩ (.slice p2 t.length r2)) ∧ Ext w (((wx.setCell ⟨w.heap.size, 0, none⟩ (.int .i64 b)).setCell ⟨w.heap.size, 1, none⟩ (.slice p1 s.length r1)).setCell ⟨w.heap.size, 2, none⟩ (.slice p2 t.length r2)) := by
        intro wx ys a6 c6 J hy hXx _
        have K := Chg.three (lo := w.heap.size) wx (.int .i64 b) (.slice p1 s.length r1) (.slice p2 t.length r2)
        have j1 := (i1.chg hXx (by omega)).chg K (by omega)
        have j2 := (i2.chg hXx (by omega)).chg K (by omega)
        have j3 := J.chg K (by omega)
        exact ⟨⟨b, s, t, p1, p2, r1, r2, ys, a6, c6, rfl, j1.lower (by omega), j2.lower (by omega), l1, l2, j3.lower (by omega), hy⟩, Ext.chg (lo := w.heap.size) (hi := w.heap.size + 1) (Rch.toExt' hXx (by omega) Xw2) K (Nat.le_refl _)⟩
      have qcell : ∀ (wx : World), Chg (w.heap.size + 1) (w.heap.size + 1 + 1) w2 wx → (wx.cell? ⟨w.heap.size, 0, none⟩ = some (.int .i64 0) ∧ wx.cell? ⟨w.heap.size, 1, none⟩ = some (.slice none 0 0) ∧ wx.cell? ⟨w.heap.size, 2, none⟩ = some (.slice none 0 0)) ∧ (wx.frozen? ⟨w.heap.size, 0, none⟩ = false ∧ wx.frozen? ⟨w.heap.size, 1, none⟩ = false ∧ wx.frozen? ⟨w.heap.size, 2, none⟩ = false) := fun wx hXx =>
        ⟨⟨hXx.cell (.inl (by omega)) q0, hXx.cell (.inl (by omega)) q1, hXx.cell (.inl (by omega)) q2⟩, hXx.frzO (.inl (by omega)) (by omega) f_q0, hXx.frzO (.inl (by omega)) (by omega) f_q1, hXx.frzO (.inl (by omega)) (by omega) f_q2⟩
      replace key := Lib.hid key
      replace qcell := Lib.hid qcell
      clear q0 q1 q2 f_q0 f_q1 f_q2 i1 i2
      by_cases hxe : xs = []
      · obtain ⟨⟨q0, q1, q2⟩, f_q0, f_q1, f_q2⟩ := qcell.out wr hX
        have hfin := key.out wr xs a5 c5 I (by have := hl4.out; omega) hX ⟨v0, v1, v2⟩
        have h0 : ¬ ((0 : Int) < (xs.length : Int)) := by rw [hxe]; simp
        replace hfin := Lib.hid hfin
        replace hxe := Lib.hid hxe
        replace ho := Lib.hid ho
        replace I := Lib.hid I
        go_wp2_with fail
        refine bodyPost_ret (v := .tuple #[.agg #[.int .i64 b, .slice p1 s.length r1, .slice p2 t.length r2], .slice a5 xs.length c5]) (by simp only [results, Try.results58]; go_simp) rfl ?_
        exact hfin.out
      · have O := ho.ofNe hxe
        have hlx : 0 < xs.length := List.length_pos_iff.2 hxe
        have hxI : (0 : Int) < (xs.length : Int) := by omega
        obtain ⟨g, cg, hg, G, G'⟩ := O.row hxe
        cases hg
        replace hxe := Lib.hid hxe
        clear ho I
        go_wp2_with fail
        refine (pick1_c _ _ _ _ hr (by omega) (by omega)).mono ?_
        rintro e w4 ⟨x, rfl, hx, hr4, C4⟩
        replace O := O.chg C4 (by omega)
        have hX4 := hX.trans C4
        replace v0 := C4.cell (.inr (by omega)) v0
        replace v1 := C4.cell (.inr (by omega)) v1
        replace v2 := C4.cell (.inr (by omega)) v2
        have z4 : w2.heap.size < w4.heap.size := World.block_lt_of_cell? _ _ v0
        clear C4 hr hX hx
        by_cases hx0 : x = 0
        · subst hx0
          obtain ⟨m, hm⟩ : ∃ m : Nat, xs.length = m + 1 := ⟨xs.length - 1, by omega⟩
          have hm4 : Hid (m + 1 ≤ 4) := Lib.hid (by have := hl4.out; omega)
          have O2 := O
          rw [hm] at O2 ⊢
          obtain ⟨A1, A2⟩ := O2.cell m (by omega)
          obtain ⟨y, hy⟩ : ∃ y, xs.getD m 0 = y := ⟨_, rfl⟩
          rw [hy] at A1
          clear hy
          have hmI2 : ((m + 1 : Nat) : Int) - 1 = (m : Int) := by omega
          have hmI3 : (m : Int) < ((m + 1 : Nat) : Int) := by omega
          have hmI4 : (0 : Int) < ((m + 1 : Nat) : Int) := by omega
          have hm60 : m ≤ 4 := by have := hm4.out; omega
          clear hxI hlx
          replace hm := Lib.hid hm
          clear O
          replace O2 := Lib.hid O2
          go_wp2_with fail
          refine (oneLit_c _ _ _ _ _ _ hr4 (by omega) (by rfl) (by rfl) (by constructor <;> simp) (by first | rfl | simp)).mono ?_
          rintro e w5 ⟨z, rfl, hz, hr5, C5⟩
          have O5 := (O2.out.ext (by repeat (first | exact Ext.refl _ | assumption | apply Ext.drewN | apply Ext.drew | apply Ext.alloc))).chg C5 (by omega)
          have X5 := (hX4.ext (by repeat (first | exact Ext.refl _ | assumption | apply Ext.drewN | apply Ext.drew | apply Ext.alloc))).trans C5
          have V0 := C5.cell (.inr (by omega)) (Ext.cell (w := w4) (by repeat (first | exact Ext.refl _ | assumption | apply Ext.drewN | apply Ext.drew | apply Ext.alloc)) v0)
          have V1 := C5.cell (.inr (by omega)) (Ext.cell (w := w4) (by repeat (first | exact Ext.refl _ | assumption | apply Ext.drewN | apply Ext.drew | apply Ext.alloc)) v1)
          have V2 := C5.cell (.inr (by omega)) (Ext.cell (w := w4) (by repeat (first | exact Ext.refl _ | assumption | apply Ext.drewN | apply Ext.drew | apply Ext.alloc)) v2)
          clear C5 hr4 hr5 hz v0 v1 v2 A1 A2
          have hlz : 0 < xs.length := by have := hm.out; omega
          obtain ⟨B1, B2⟩ := O5.cell 0 hlz
          have O6 := O5.set 0 z hlz
          have X6 := Rch.set X5 (a := ⟨g, 0, none⟩) (by simp; omega) (.int .i64 z)
          have K6 : Chg g (g + 1) w5 (w5.setCell ⟨g, 0, none⟩ (.int .i64 z)) := Chg.setCell (p := ⟨g, 0, none⟩) (Chg.refl g (g + 1) _) (Nat.le_refl _) (Nat.lt_succ_self _) _
          have hfin := key.out _ (xs.set 0 z) (some ⟨g, 0, none⟩) c5 (by have J := O6.ints (by have := hl4.out; rw [List.length_set]; omega); have e9 : (xs.set 0 z).length = m + 1 := (by rw [List.length_set]; exact hm.out); rw [e9]; exact J) (by have := hl4.out; rw [List.length_set]; omega) X6 ⟨K6.cell (.inl (by omega)) V0, K6.cell (.inl (by omega)) V1, K6.cell (.inl (by omega)) V2⟩
          rw [show (xs.set 0 z).length = m + 1 by rw [List.length_set]; exact hm.out] at hfin
          obtain ⟨⟨q0, q1, q2⟩, f_q0, f_q1, f_q2⟩ := qcell.out w5 X5
          have hn1 : g ≠ w2.heap.size := by omega
          have hn2 : w2.heap.size ≠ g := by omega
          have hn3 : g ≠ w.heap.size := by omega
          have hn4 : w.heap.size ≠ g := by omega
          clear K6 X6 X5 hX4 hlz
          replace O5 := Lib.hid O5
          replace O6 := Lib.hid O6
          replace hfin := Lib.hid hfin
          go_wp2_with fail
          refine bodyPost_ret (v := .tuple #[.agg #[.int .i64 b, .slice p1 s.length r1, .slice p2 t.length r2], .slice (some ⟨g, 0, none⟩) (m + 1) c5]) (by simp only [results, Try.results58]; go_simp) rfl ?_
          exact hfin.out
        · have hxe0 : (x == 0) = false := by simpa using hx0
          obtain ⟨⟨q0, q1, q2⟩, f_q0, f_q1, f_q2⟩ := qcell.out w4 hX4
          have hfin := key.out w4 xs _ _ (O.ints (by have := hl4.out; omega)) (by have := hl4.out; omega) hX4 ⟨v0, v1, v2⟩
          replace hfin := Lib.hid hfin
          replace hx0 := Lib.hid hx0
          replace O := Lib.hid O
          go_wp2_with fail
          refine bodyPost_ret (v := .tuple #[.agg #[.int .i64 b, .slice p1 s.length r1, .slice p2 t.length r2], .slice (some ⟨g, 0, none⟩) xs.length c5]) (by simp only [results, Try.results58]; go_simp) rfl ?_
          exact hfin.out

end Go.Proofs.Ytonnnjaooifpjaa

/- Walks: OffsetsOf and IsRow of the program and of the reference. -/
namespace Go.Proofs.Ytonnnjaooifpjaa
open Go.RowKit
set_option linter.unusedVariables false
set_option maxRecDepth 100000


def offA (b : Int) (s t : List Int) : List Int := if viewB b s t then offsL b s t else []
set_option maxHeartbeats 1600000 in
theorem implOffsetsOf_c (b1 : Int) (u1 v1 : Value) (s1 t1 : List Int) (w : World) (l1 m1 : Nat) (h1 : Ints w l1 u1 s1) (k1 : Ints w m1 v1 t1) :
    Calls Try.prog 39 #[.agg #[.int .i64 b1, u1, v1]] w (PInts w (offA b1 s1 t1)) := by
  obtain ⟨a1, cp1, rfl⟩ := h1.form
  obtain ⟨a2, cp2, rfl⟩ := k1.form
  cases ha : viewB b1 s1 t1
  · have hr : Hid (offA b1 s1 t1 = []) := Lib.hid (by unfold offA; rw [ha]; rfl)
    replace ha := Lib.hid ha
    go_enter Try.func39, Try.ntmps39
    go_wp2_with fail
    refine (isView_c b1 _ _ s1 t1 _ l1 m1 (h1.ext (by repeat (first | (with_reducible assumption) | (with_reducible refine Ext.setCell ?_ (by first | (simp; done) | (simp; omega) | omega) _) | (with_reducible apply Ext.alloc) | (with_reducible apply Ext.drew) | (with_reducible apply Ext.drewN) | (with_reducible exact Ext.refl _)))) (k1.ext (by repeat (first | (with_reducible assumption) | (with_reducible refine Ext.setCell ?_ (by first | (simp; done) | (simp; omega) | omega) _) | (with_reducible apply Ext.alloc) | (with_reducible apply Ext.drew) | (with_reducible apply Ext.drewN) | (with_reducible exact Ext.refl _))))).mono ?_
    rintro e w1 ⟨rfl, xw1⟩
    have Lw1 : Ext w w1 := Ext.trans (by repeat (first | (with_reducible assumption) | (with_reducible refine Ext.setCell ?_ (by first | (simp; done) | (simp; omega) | omega) _) | (with_reducible apply Ext.alloc) | (with_reducible apply Ext.drew) | (with_reducible apply Ext.drewN) | (with_reducible exact Ext.refl _))) xw1
    have Xw1 : Ext w w1 := Lw1
    have va0 : w1.cell? ⟨w.heap.size, 0, none⟩ = some (.int .i64 b1) := xw1.cell (by first | (simp; done) | ((repeat rw [World.cell?_alloc_lt _ _ _ (by simp <;> omega)]); simp; done) | (go_simp; done))
    have va1 : w1.cell? ⟨w.heap.size, 1, none⟩ = some (.slice a1 s1.length cp1) := xw1.cell (by first | (simp; done) | ((repeat rw [World.cell?_alloc_lt _ _ _ (by simp <;> omega)]); simp; done) | (go_simp; done))
    have va2 : w1.cell? ⟨w.heap.size, 2, none⟩ = some (.slice a2 t1.length cp2) := xw1.cell (by first | (simp; done) | ((repeat rw [World.cell?_alloc_lt _ _ _ (by simp <;> omega)]); simp; done) | (go_simp; done))
    have z_va : w.heap.size < w1.heap.size := World.block_lt_of_cell? _ _ va0
    have s_w1 : w.heap.size ≤ w1.heap.size := Xw1.size
    clear xw1
    rw [ha.out]
    go_wp2_with fail
    go_ret
    rw [hr.out]
    exact PInts.nilv (Xw1.trans (by repeat (first | (with_reducible assumption) | (with_reducible refine Ext.setCell ?_ (by first | (simp; done) | (simp; omega) | omega) _) | (with_reducible apply Ext.alloc) | (with_reducible apply Ext.drew) | (with_reducible apply Ext.drewN) | (with_reducible exact Ext.refl _))))
  · have hr : Hid (offA b1 s1 t1 = offsL b1 s1 t1) := Lib.hid (by unfold offA; rw [ha]; rfl)
    obtain ⟨j1, j2, -⟩ := viewB_in ha
    have hin := Lib.hid (shapeB_in j1)
    have hj2 := Lib.hid j2
    clear j1 j2
    replace ha := Lib.hid ha
    go_enter Try.func39, Try.ntmps39
    go_wp2_with fail
    refine (isView_c b1 _ _ s1 t1 _ l1 m1 (h1.ext (by repeat (first | (with_reducible assumption) | (with_reducible refine Ext.setCell ?_ (by first | (simp; done) | (simp; omega) | omega) _) | (with_reducible apply Ext.alloc) | (with_reducible apply Ext.drew) | (with_reducible apply Ext.drewN) | (with_reducible exact Ext.refl _)))) (k1.ext (by repeat (first | (with_reducible assumption) | (with_reducible refine Ext.setCell ?_ (by first | (simp; done) | (simp; omega) | omega) _) | (with_reducible apply Ext.alloc) | (with_reducible apply Ext.drew) | (with_reducible apply Ext.drewN) | (with_reducible exact Ext.refl _))))).mono ?_
    rintro e w1 ⟨rfl, xw1⟩
    have Lw1 : Ext w w1 := Ext.trans (by repeat (first | (with_reducible assumption) | (with_reducible refine Ext.setCell ?_ (by first | (simp; done) | (simp; omega) | omega) _) | (with_reducible apply Ext.alloc) | (with_reducible apply Ext.drew) | (with_reducible apply Ext.drewN) | (with_reducible exact Ext.refl _))) xw1
    have Xw1 : Ext w w1 := Lw1
    have va0 : w1.cell? ⟨w.heap.size, 0, none⟩ = some (.int .i64 b1) := xw1.cell (by first | (simp; done) | ((repeat rw [World.cell?_alloc_lt _ _ _ (by simp <;> omega)]); simp; done) | (go_simp; done))
    have va1 : w1.cell? ⟨w.heap.size, 1, none⟩ = some (.slice a1 s1.length cp1) := xw1.cell (by first | (simp; done) | ((repeat rw [World.cell?_alloc_lt _ _ _ (by simp <;> omega)]); simp; done) | (go_simp; done))
    have va2 : w1.cell? ⟨w.heap.size, 2, none⟩ = some (.slice a2 t1.length cp2) := xw1.cell (by first | (simp; done) | ((repeat rw [World.cell?_alloc_lt _ _ _ (by simp <;> omega)]); simp; done) | (go_simp; done))
    have z_va : w.heap.size < w1.heap.size := World.block_lt_of_cell? _ _ va0
    have s_w1 : w.heap.size ≤ w1.heap.size := Xw1.size
    clear xw1
    rw [ha.out]
    go_wp2_with fail
    refine (offsetsOf_c b1 _ _ s1 t1 _ l1 m1 (h1.ext (Xw1.trans (by repeat (first | (with_reducible assumption) | (with_reducible refine Ext.setCell ?_ (by first | (simp; done) | (simp; omega) | omega) _) | (with_reducible apply Ext.alloc) | (with_reducible apply Ext.drew) | (with_reducible apply Ext.drewN) | (with_reducible exact Ext.refl _))))) (k1.ext (Xw1.trans (by repeat (first | (with_reducible assumption) | (with_reducible refine Ext.setCell ?_ (by first | (simp; done) | (simp; omega) | omega) _) | (with_reducible apply Ext.alloc) | (with_reducible apply Ext.drew) | (with_reducible apply Ext.drewN) | (with_reducible exact Ext.refl _))))) (by have := hj2.out; omega) hin.out.2.2.2.2 (by have := hin.out; omega)).mono ?_
    rintro e w2 ⟨r, rfl, i, o, xw2⟩
    have Lw2 : Ext w1 w2 := Ext.trans (by repeat (first | (with_reducible assumption) | (with_reducible refine Ext.setCell ?_ (by first | (simp; done) | (simp; omega) | omega) _) | (with_reducible apply Ext.alloc) | (with_reducible apply Ext.drew) | (with_reducible apply Ext.drewN) | (with_reducible exact Ext.refl _))) xw2
    have Xw2 : Ext w w2 := Xw1.trans Lw2
    replace va0 := Lw2.cell va0
    replace va1 := Lw2.cell va1
    replace va2 := Lw2.cell va2
    have z_va : w.heap.size < w2.heap.size := World.block_lt_of_cell? _ _ va0
    have s_w2 : w.heap.size ≤ w2.heap.size := Xw2.size
    clear xw2
    go_wp2_with fail
    go_ret
    rw [hr.out]
    exact PInts.of o i (by first | omega | (simp; omega)) (Xw2.trans (by repeat (first | (with_reducible assumption) | (with_reducible refine Ext.setCell ?_ (by first | (simp; done) | (simp; omega) | omega) _) | (with_reducible apply Ext.alloc) | (with_reducible apply Ext.drew) | (with_reducible apply Ext.drewN) | (with_reducible exact Ext.refl _))))

end Go.Proofs.Ytonnnjaooifpjaa

/- Walks: rowStrides of the program. -/
namespace Go.Proofs.Ytonnnjaooifpjaa
open Go.RowKit
set_option linter.unusedVariables false
set_option maxRecDepth 100000

theorem rowS_at (xs : List Int) (j : Nat) (h : j < xs.length) : ((rowS xs).take j ++ List.replicate (xs.length - j) 0).set j (prodL (xs.drop (j+1))) = (rowS xs).take (j+1) ++ List.replicate (xs.length - (j+1)) 0 := by
  have hl := rowS_len xs
  have hg : (rowS xs)[j]'(by omega) = prodL (xs.drop (j+1)) := by
    induction xs generalizing j with
    | nil => simp at h
    | cons x xs ih =>
      cases j with
      | zero => rfl
      | succ j => simpa [rowS] using ih j (by simpa using h) (rowS_len xs)
  have e : xs.length - j = (xs.length - (j+1)) + 1 := by omega
  have ht : ((rowS xs).take j).length = j := by simp; omega
  rw [e, List.replicate_succ, List.set_append_right _ _ (by omega), ht, Nat.sub_self, List.set_cons_zero, List.take_succ_eq_append_getElem (by omega), hg]
  simp

set_option maxHeartbeats 800000 in
theorem implRowStrides_c (xs : List Int) (v : Value) (w : World) (lo : Nat) (hv : Ints w lo v xs) (hs : Small xs) :
    Calls Try.prog 77 #[v] w (PInts w (rowS xs)) := by
  have hv0 := hv
  obtain ⟨a, cap, rfl, hlc, hcm, ⟨hlen, _⟩, hc⟩ := hv
  obtain ⟨i0, hi, hz0, hz1, hz2⟩ := info_parts infoInt
  have hsb := Lib.hid (fun j : Nat => (hs.drop j).count)
  clear hs
  go_enter Try.func77, Try.ntmps77
  go_wp2_with (at_make; refine wpList_make_full _ rfl _ _ 23 rfl w.heap.size 3 i0 (.int .i64 0) 1 Try.underlying23 hi hz0 hz1 .i64 .i64 _ _ xs.length rfl rfl rfl rfl (by rw [hz2]; omega) (by unfold maxLen; omega) (Nat.le_refl _) ?_)
  intro w1 hown hgr
  have hx : Ext w w1 := (Ext.refl w).grown hgr (by simp)
  rw [made_ints] at hown
  clear hgr
  go_wp2_with fail
  go_loopw [4, 10, 11, 12] (fun _ i _ _ wr => ∃ j : Nat, j ≤ xs.length ∧ i = .int .i64 (j : Int) ∧
      wr.ownsRow w.heap.size 3 1 (.slice (some ⟨w.heap.size, 0, none⟩) xs.length xs.length) xs.length (((rowS xs).take j ++ List.replicate (xs.length - j) 0).map (Value.int .i64)) ∧ Ext w wr)
    (fun _ i _ _ _ => xs.length - (intOf i).toNat)
  case atStart => exact ⟨0, Nat.zero_le _, rfl, by simpa using hown, hx⟩
  case round =>
    obtain ⟨j, hj, rfl, ho, hxr⟩ := hrel
    by_cases hlt : j < xs.length
    · have hI : (j : Int) < xs.length := by omega
      obtain ⟨b, off, rfl, _, hcell, _⟩ := hc j hlt
      obtain ⟨hoc, hof⟩ := own_cell ho j (by omega)
      have hst := Lib.hid (own_set ho j (prodL (xs.drop (j+1))) (by omega))
      have hset := Lib.hid (rowS_at xs j hlt)
      have hcn := Lib.hid (hsb.out (j+1)).1
      have hwr : IntKind.i64.wrap ((j : Int) + 1) = (j : Int) + 1 := IntWalk.i64_in _ (by omega)
      clear hc ho hcell
      by_cases hcp : cap = j + 1
      · subst hcp
        have hdr := (hv0.ext hxr).drop0 (j+1) (by omega) rfl
        rw [show xs.length - (j+1) = 0 by omega] at hdr
        go_wp2_with fail
        refine (countOf_c _ _ _ _ hdr).mono ?_
        rintro e w' ⟨rfl, rfl⟩
        rw [hcn.out]
        go_wp2_with fail
        go_roundw
        case rel => exact ⟨j + 1, by omega, by go_num, by have := hst.out; rw [hset.out] at this; exact this, hxr.setCell (Nat.le_refl _) _⟩
        case measure => simp [intOf]; omega
      · have hdr := (hv0.ext hxr).drop1 (j+1) (by omega) hcp
        go_wp2_with fail
        refine (countOf_c _ _ _ _ hdr).mono ?_
        rintro e w' ⟨rfl, rfl⟩
        rw [hcn.out]
        go_wp2_with fail
        go_roundw
        case rel => exact ⟨j + 1, by omega, by go_num, by have := hst.out; rw [hset.out] at this; exact this, hxr.setCell (Nat.le_refl _) _⟩
        case measure => simp [intOf]; omega
    · obtain rfl : j = xs.length := by omega
      have hIn : ¬ ((xs.length : Int) < xs.length) := by omega
      go_wp2_with fail
      go_ret
      refine PInts.mk (base := w.heap.size) ?_ (Nat.le_refl _) (by rw [rowS_len]; omega) hxr
      unfold OwnI; rw [rowS_len]
      rw [List.take_of_length_le (by rw [rowS_len]; exact Nat.le_refl _)] at ho
      simpa using ho
end Go.Proofs.Ytonnnjaooifpjaa

/- Walks: LoadView of the program and of the reference. -/
namespace Go.Proofs.Ytonnnjaooifpjaa
open Go.RowKit
set_option linter.unusedVariables false
set_option maxRecDepth 100000


def loadA (mem : List Int) (b : Int) (s t : List Int) : List Int := if holdB mem b s t then loadL mem b s t else []
theorem PInts.no {w w' : World} (h : Ext w w') : PInts w [] (.returned (.slice none 0 0)) w' :=
  ⟨_, rfl, Ints.nil _ _ _ _ (by simp) (fun _ => rfl), .inl ⟨rfl, none, 0, rfl, by simp, fun _ => rfl⟩, h⟩

set_option maxHeartbeats 1600000 in
theorem implLoadView_c (mem : List Int) (a0 : Value) (b1 : Int) (u1 v1 : Value) (s1 t1 : List Int) (w : World) (l0 l1 m1 : Nat) (h0 : Ints w l0 a0 mem) (h1 : Ints w l1 u1 s1) (k1 : Ints w m1 v1 t1) :
    Calls Try.prog 28 #[a0, .agg #[.int .i64 b1, u1, v1]] w (PInts w (loadA mem b1 s1 t1)) := by
  obtain ⟨p0, c0, rfl⟩ := h0.form
  obtain ⟨p1, c1, rfl⟩ := h1.form
  obtain ⟨p2, c2, rfl⟩ := k1.form
  go_enter Try.func28, Try.ntmps28
  go_wp2_with fail
  refine (canHold_c mem (.slice p0 mem.length c0) b1 (.slice p1 s1.length c1) (.slice p2 t1.length c2) s1 t1 _ _ _ _ (h0.ext (by repeat (first | (with_reducible assumption) | (with_reducible refine Ext.setCell ?_ (by first | (simp; done) | (simp; omega) | omega) _) | (with_reducible apply Ext.alloc) | (with_reducible apply Ext.drew) | (with_reducible apply Ext.drewN) | (with_reducible exact Ext.refl _)))) (h1.ext (by repeat (first | (with_reducible assumption) | (with_reducible refine Ext.setCell ?_ (by first | (simp; done) | (simp; omega) | omega) _) | (with_reducible apply Ext.alloc) | (with_reducible apply Ext.drew) | (with_reducible apply Ext.drewN) | (with_reducible exact Ext.refl _)))) (k1.ext (by repeat (first | (with_reducible assumption) | (with_reducible refine Ext.setCell ?_ (by first | (simp; done) | (simp; omega) | omega) _) | (with_reducible apply Ext.alloc) | (with_reducible apply Ext.drew) | (with_reducible apply Ext.drewN) | (with_reducible exact Ext.refl _))))).mono ?_
  rintro e w1 ⟨rfl, xw1⟩
  have Lw1 : Ext w w1 := Ext.trans (by repeat (first | (with_reducible assumption) | (with_reducible refine Ext.setCell ?_ (by first | (simp; done) | (simp; omega) | omega) _) | (with_reducible apply Ext.alloc) | (with_reducible apply Ext.drew) | (with_reducible apply Ext.drewN) | (with_reducible exact Ext.refl _))) xw1
  have Xw1 : Ext w w1 := Lw1
  have b10 : w1.cell? ⟨w.heap.size, 0, none⟩ = some (.int .i64 b1) := xw1.cell (by first | (simp; done) | ((repeat rw [World.cell?_alloc_lt _ _ _ (by simp <;> omega)]); simp; done) | (go_simp; done))
  have b11 : w1.cell? ⟨w.heap.size, 1, none⟩ = some (.slice p1 s1.length c1) := xw1.cell (by first | (simp; done) | ((repeat rw [World.cell?_alloc_lt _ _ _ (by simp <;> omega)]); simp; done) | (go_simp; done))
  have b12 : w1.cell? ⟨w.heap.size, 2, none⟩ = some (.slice p2 t1.length c2) := xw1.cell (by first | (simp; done) | ((repeat rw [World.cell?_alloc_lt _ _ _ (by simp <;> omega)]); simp; done) | (go_simp; done))
  have z_b1 : w.heap.size < w1.heap.size := World.block_lt_of_cell? _ _ b10
  have s_w1 : w.heap.size ≤ w1.heap.size := Xw1.size
  clear xw1
  cases hB2 : holdB mem b1 s1 t1
  · replace hB2 := Lib.hid hB2
    go_wp2_with fail
    go_ret
    rw [show loadA mem b1 s1 t1 = [] by unfold loadA; rw [hB2.out]; rfl]
    exact PInts.no (Xw1.trans (by repeat (first | (with_reducible assumption) | (with_reducible refine Ext.setCell ?_ (by first | (simp; done) | (simp; omega) | omega) _) | (with_reducible apply Ext.alloc) | (with_reducible apply Ext.drew) | (with_reducible apply Ext.drewN) | (with_reducible exact Ext.refl _))))
  · replace hB2 := Lib.hid hB2
    go_wp2_with fail
    refine (loadView_c mem (.slice p0 mem.length c0) b1 (.slice p1 s1.length c1) (.slice p2 t1.length c2) s1 t1 _ _ _ _ (h0.ext (Xw1.trans (by repeat (first | (with_reducible assumption) | (with_reducible refine Ext.setCell ?_ (by first | (simp; done) | (simp; omega) | omega) _) | (with_reducible apply Ext.alloc) | (with_reducible apply Ext.drew) | (with_reducible apply Ext.drewN) | (with_reducible exact Ext.refl _))))) (h1.ext (Xw1.trans (by repeat (first | (with_reducible assumption) | (with_reducible refine Ext.setCell ?_ (by first | (simp; done) | (simp; omega) | omega) _) | (with_reducible apply Ext.alloc) | (with_reducible apply Ext.drew) | (with_reducible apply Ext.drewN) | (with_reducible exact Ext.refl _))))) (k1.ext (Xw1.trans (by repeat (first | (with_reducible assumption) | (with_reducible refine Ext.setCell ?_ (by first | (simp; done) | (simp; omega) | omega) _) | (with_reducible apply Ext.alloc) | (with_reducible apply Ext.drew) | (with_reducible apply Ext.drewN) | (with_reducible exact Ext.refl _))))) hB2.out).mono ?_
    rintro e w2 ⟨fv3, rfl, i4, i4z, xw2⟩
    have Lw2 : Ext w1 w2 := Ext.trans (by repeat (first | (with_reducible assumption) | (with_reducible refine Ext.setCell ?_ (by first | (simp; done) | (simp; omega) | omega) _) | (with_reducible apply Ext.alloc) | (with_reducible apply Ext.drew) | (with_reducible apply Ext.drewN) | (with_reducible exact Ext.refl _))) xw2
    have Xw2 : Ext w w2 := Xw1.trans Lw2
    replace b10 := Lw2.cell b10
    replace b11 := Lw2.cell b11
    replace b12 := Lw2.cell b12
    have z_b1 : w.heap.size < w2.heap.size := World.block_lt_of_cell? _ _ b10
    have s_w2 : w.heap.size ≤ w2.heap.size := Xw2.size
    clear xw2
    obtain ⟨afv3, cfv3, rfl⟩ := i4.form
    go_wp2_with fail
    go_ret
    rw [show loadA mem b1 s1 t1 = loadL mem b1 s1 t1 by unfold loadA; rw [hB2.out]; rfl]
    exact ⟨_, rfl, i4.lower (by omega), i4z.lower (by omega), Xw2⟩

end Go.Proofs.Ytonnnjaooifpjaa

/- Walks: indices, ranks, rows, sums. -/
namespace Go.Proofs.Ytonnnjaooifpjaa
open Go.RowKit
set_option linter.unusedVariables false
set_option maxRecDepth 100000


theorem vw {b : Int} {s t : List Int} (h : viewB b s t = true) : s.length ≤ t.length ∧ (0 < countL s → ∀ e ∈ s, 1 ≤ e) ∧ countL s ≤ 1000000 ∧ Small s := by
  obtain ⟨h1, h2, h3, h4, h5⟩ := viewB_in h
  have h6 := shapeB_in h1
  exact ⟨by omega, h6.2.2.2.2, by omega, Small.of h1⟩
theorem sh {s : List Int} (h : shapeB s = true) : Small s ∧ (0 < countL s → ∀ e ∈ s, 1 ≤ e) ∧ countL s ≤ 1000000 := by
  have h6 := shapeB_in h
  exact ⟨Small.of h, h6.2.2.2.2, by omega⟩
/-- the first k numbers are within the extents -/
def OkTo (s r : List Int) (k : Nat) : Prop := ∀ j, j < k → 0 ≤ r.getD j 0 ∧ r.getD j 0 < s.getD j 0
theorem OkTo.zero (s r : List Int) : OkTo s r 0 := fun j h => absurd h (by omega)
theorem OkTo.succ {s r : List Int} {k : Nat} (h : OkTo s r k) {x e : Int} (hx : r.getD k 0 = x) (he : s.getD k 0 = e) (h1 : 0 ≤ x) (h2 : x < e) : OkTo s r (k+1) := fun j hj => by
  by_cases hjk : j = k
  · subst hjk; rw [hx, he]; exact ⟨h1, h2⟩
  · exact h j (by omega)
theorem ixOf_ok : ∀ (s r : List Int), r.length = s.length → (IxOf s r ↔ OkTo s r r.length)
  | [], [], _ => ⟨fun _ => OkTo.zero _ _, fun _ => trivial⟩
  | [], x :: r, h => by simp at h
  | e :: s, [], h => by simp at h
  | e :: s, x :: r, h => by
    have ih := ixOf_ok s r (by simpa using h)
    constructor
    · rintro ⟨h1, h2⟩ j hj
      cases j with
      | zero => simpa using h1
      | succ j => have := (ih.1 h2) j (by simpa using hj); simpa using this
    · intro hk
      refine ⟨by simpa using hk 0 (by simp), ih.2 fun j hj => by have := hk (j+1) (by simpa using hj); simpa using this⟩
theorem ixB_ok {s r : List Int} (hl : r.length = s.length) (h : OkTo s r r.length) : ixB s r = true := (ixB_iff s r).2 ((ixOf_ok s r hl).2 h)
theorem ixB_no {s r : List Int} {k : Nat} (hk : k < r.length) {x e : Int} (hx : r.getD k 0 = x) (he : s.getD k 0 = e) (h : x < 0 ∨ e ≤ x) : ixB s r = false := by
  cases hb : ixB s r with
  | false => rfl
  | true =>
    have h1 := (ixB_iff s r).1 hb
    have h2 := (ixOf_ok s r h1.len).1 h1 k hk
    rw [hx, he] at h2; omega
theorem ixB_len {s r : List Int} (h : r.length ≠ s.length) : ixB s r = false := by unfold ixB; simp [h]

set_option maxHeartbeats 1600000 in
theorem isIndex_c (s r : List Int) (v1 v2 : Value) (w : World) (l1 l2 : Nat) (h1 : Ints w l1 v1 s) (h2 : Ints w l2 v2 r) :
    Calls Try.prog 121 #[v1, v2] w (fun e w' => e = .returned (.bool (ixB s r)) ∧ w = w') := by
  have n1 := h1.len
  have n2 := h2.len
  obtain ⟨p1, c1, rfl⟩ := h1.form
  obtain ⟨p2, c2, rfl⟩ := h2.form
  go_enter Try.func121, Try.ntmps121
  by_cases hc1 : (r.length : Int) = (s.length : Int)
  · have hc1e : ((r.length : Int) == (s.length : Int)) = true := by simpa using hc1
    have hc1n : ((r.length : Int) != (s.length : Int)) = false := by simpa using hc1
    replace hc1 := Lib.hid hc1
    go_wp2_with fail
    go_loop [14] (fun i => ∃ (k : Nat), k ≤ r.length ∧ i = .int .i64 k ∧ Hid (OkTo s r k)) (fun i => r.length - (intOf i).toNat)
    case atStart => exact ⟨0, Nat.zero_le _, rfl, Lib.hid (OkTo.zero _ _)⟩
    case round =>
      obtain ⟨k, hk, rfl, hok⟩ := hrel
      by_cases hlt : k < r.length
      · have hkI : (k : Int) < r.length := by omega
        have hks : k < s.length := by have := hc1.out; omega
        obtain ⟨bl2, ol3, rfl, e40⟩ := h2.at k (by omega)
        obtain ⟨v5, hv5⟩ : ∃ v, r.getD k 0 = v := ⟨_, rfl⟩
        rw [hv5] at e40
        replace hv5 := Lib.hid hv5
        have y_e4 : bl2 < w.heap.size := World.block_lt_of_cell? _ _ e40
        have z_e4 := y_e4
        by_cases hc6 : (v5 : Int) < (0 : Int)
        · go_wp2_with fail
          go_ret
          exact ⟨by rw [show ixB s r = false from ixB_no (by omega) hv5.out rfl (by omega)] <;> rfl, rfl⟩
        · obtain ⟨bl7, ol8, rfl, e90⟩ := h1.at k (by omega)
          obtain ⟨v10, hv10⟩ : ∃ v, s.getD k 0 = v := ⟨_, rfl⟩
          rw [hv10] at e90
          replace hv10 := Lib.hid hv10
          have y_e9 : bl7 < w.heap.size := World.block_lt_of_cell? _ _ e90
          have z_e9 := y_e9
          by_cases hc11 : (v10 : Int) ≤ (v5 : Int)
          · go_wp2_with fail
            go_ret
            exact ⟨by rw [show ixB s r = false from ixB_no (by omega) hv5.out hv10.out (by omega)] <;> rfl, rfl⟩
          · go_wp2_with fail
            go_round
            case rel => exact ⟨k + 1, by omega, by go_num, Lib.hid (hok.out.succ hv5.out hv10.out (by omega) (by omega))⟩
            case measure => simp [intOf]; omega
      · have hkI : ¬ (k : Int) < r.length := by omega
        go_wp2_with fail
        go_ret
        exact ⟨by rw [show ixB s r = true from ixB_ok (by have := hc1.out; omega) (by have := hok.out; rwa [show k = r.length by omega] at this)] <;> rfl, rfl⟩
  · have hc1e : ((r.length : Int) == (s.length : Int)) = false := by simpa using hc1
    have hc1n : ((r.length : Int) != (s.length : Int)) = true := by simpa using hc1
    replace hc1 := Lib.hid hc1
    go_wp2_with fail
    go_ret
    exact ⟨by rw [show ixB s r = false from ixB_len (by have := hc1.out; omega)] <;> rfl, rfl⟩

end Go.Proofs.Ytonnnjaooifpjaa

/- Walks: ranks, indices, rows, sums. -/
namespace Go.Proofs.Ytonnnjaooifpjaa
open Go.RowKit
set_option linter.unusedVariables false
set_option maxRecDepth 100000


def rankA (s r : List Int) : Int := if shapeB s && ixB s r then rankC s r else -1
def idxA (s : List Int) (k : Int) : List Int := if shapeB s && (decide (0 ≤ k) && decide (k < countL s)) then (unrL s k).1 else []
def okA (b : Int) (s t r : List Int) : Bool := viewB b s t && ixB s r
def atA (b : Int) (s t r : List Int) : Int := if okA b s t r then dotL b r t else 0
def rowB (b : Int) (s t : List Int) : Bool := viewB b s t && sameB (offsL b s t) (offsL b s (rowS s))
def sumA (mem : List Int) (b : Int) (s t : List Int) : Int := if holdB mem b s t then sumL (loadL mem b s t) else -1
theorem ix_len {s r : List Int} (h : ixB s r = true) : r.length = s.length := ((ixB_iff s r).1 h).len
theorem loadL_bd {mem : List Int} {b : Int} {s t : List Int} (h : holdB mem b s t = true) : ∀ x ∈ loadL mem b s t, 0 ≤ x ∧ x ≤ 255 := by
  intro x hx
  obtain ⟨h1, h2, h3⟩ := hold_in h
  unfold loadL takL at hx
  obtain ⟨i, hi, rfl⟩ := List.mem_map.1 hx
  obtain ⟨g1, g2⟩ := h3 i hi
  have hm : mem.getD i.toNat 0 ∈ mem := getD_mem (by omega)
  unfold memB at h1
  simp only [Bool.and_eq_true, List.all_eq_true, decide_eq_true_eq, inB] at h1
  exact h1.2 _ hm
theorem loadL_len {mem : List Int} {b : Int} {s t : List Int} (h : holdB mem b s t = true) : (loadL mem b s t).length ≤ 60 := by
  unfold loadL; rw [takL_len, offs_count]
  have h1 := (viewB_in (hold_in h).2.1).1
  have := shapeB_in h1
  omega

set_option maxHeartbeats 1600000 in
theorem implRankOf_c (s r : List Int) (v1 v2 : Value) (w : World) (l1 l2 : Nat) (h1 : Ints w l1 v1 s) (h2 : Ints w l2 v2 r) :
    Calls Try.prog 87 #[v1, v2] w (fun e w' => e = .returned (.int .i64 (rankA s r)) ∧ w = w') := by
  have n1 := h1.len
  have n2 := h2.len
  obtain ⟨p0, c0, rfl⟩ := h1.form
  obtain ⟨p1, c1, rfl⟩ := h2.form
  go_enter Try.func87, Try.ntmps87
  go_wp2_with fail
  refine (isShape_c s (.slice p0 s.length c0) _ _ (h1.ext (by repeat (first | (with_reducible assumption) | (with_reducible refine Ext.setCell ?_ (by first | (simp; done) | (simp; omega) | omega) _) | (with_reducible apply Ext.alloc) | (with_reducible apply Ext.drew) | (with_reducible apply Ext.drewN) | (with_reducible exact Ext.refl _))))).mono ?_
  rintro e w' ⟨rfl, rfl⟩
  cases hB1 : shapeB s
  · replace hB1 := Lib.hid hB1
    go_wp2_with fail
    go_ret
    exact ⟨by rw [show rankA s r = -1 by unfold rankA; rw [hB1.out]; rfl] <;> rfl, rfl⟩
  · replace hB1 := Lib.hid hB1
    go_wp2_with fail
    refine (isIndex_c s r (.slice p0 s.length c0) (.slice p1 r.length c1) _ _ _ (h1.ext (by repeat (first | (with_reducible assumption) | (with_reducible refine Ext.setCell ?_ (by first | (simp; done) | (simp; omega) | omega) _) | (with_reducible apply Ext.alloc) | (with_reducible apply Ext.drew) | (with_reducible apply Ext.drewN) | (with_reducible exact Ext.refl _)))) (h2.ext (by repeat (first | (with_reducible assumption) | (with_reducible refine Ext.setCell ?_ (by first | (simp; done) | (simp; omega) | omega) _) | (with_reducible apply Ext.alloc) | (with_reducible apply Ext.drew) | (with_reducible apply Ext.drewN) | (with_reducible exact Ext.refl _))))).mono ?_
    rintro e w' ⟨rfl, rfl⟩
    cases hB2 : ixB s r
    · replace hB2 := Lib.hid hB2
      go_wp2_with fail
      go_ret
      exact ⟨by rw [show rankA s r = -1 by unfold rankA; rw [hB1.out, hB2.out]; rfl] <;> rfl, rfl⟩
    · replace hB2 := Lib.hid hB2
      go_wp2_with fail
      go_loop [5, 19] (fun n i => ∃ (k : Nat), k ≤ r.length ∧ i = .int .i64 k ∧ n = .int .i64 (rankL (s.take k) r)) (fun _ i => r.length - (intOf i).toNat)
      case atStart => exact ⟨0, Nat.zero_le _, rfl, rfl⟩
      case round =>
        obtain ⟨k, hk, rfl, rfl⟩ := hrel
        by_cases hlt : k < r.length
        · have hkI : (k : Int) < r.length := by omega
          have hks : k < s.length := by have := ix_len hB2.out; omega
          have hs := rankL_take s r k hks hlt
          obtain ⟨bl3, ol4, rfl, e50⟩ := h2.at k (by omega)
          obtain ⟨v6, hv6⟩ : ∃ v, r.getD k 0 = v := ⟨_, rfl⟩
          rw [hv6] at e50
          replace hv6 := Lib.hid hv6
          have y_e5 : bl3 < w.heap.size := World.block_lt_of_cell? _ _ e50
          have z_e5 := y_e5
          rw [hv6.out] at hs
          obtain ⟨bl7, ol8, rfl, e90⟩ := h1.at k (by omega)
          obtain ⟨v10, hv10⟩ : ∃ v, s.getD k 0 = v := ⟨_, rfl⟩
          rw [hv10] at e90
          replace hv10 := Lib.hid hv10
          have y_e9 : bl7 < w.heap.size := World.block_lt_of_cell? _ _ e90
          have z_e9 := y_e9
          rw [hv10.out] at hs
          replace hs := Lib.hid hs
          go_wp2_with fail
          go_round
          case rel => exact ⟨k + 1, by omega, by go_num, by rw [hs.out]⟩
          case measure => simp [intOf]; omega
        · have hkI : ¬ (k : Int) < r.length := by omega
          go_wp2_with fail
          go_ret
          exact ⟨by rw [show rankA s r = rankL (s.take k) r by (unfold rankA; rw [hB1.out, hB2.out, List.take_of_length_le (by have := ix_len hB2.out; omega)]; exact (rankL_eq (ix_len hB2.out).symm (Small.of hB1.out) (ixB_small hB2.out (Small.of hB1.out))).symm)] <;> rfl, rfl⟩

set_option maxHeartbeats 1600000 in
theorem implIndexAt_c (s : List Int) (v1 : Value) (k : Int) (w : World) (l1 : Nat) (h1 : Ints w l1 v1 s) :
    Calls Try.prog 60 #[v1, .int .i64 k] w (PInts w (idxA s k)) := by
  obtain ⟨p0, c0, rfl⟩ := h1.form
  go_enter Try.func60, Try.ntmps60
  go_wp2_with fail
  refine (isShape_c s (.slice p0 s.length c0) _ _ (h1.ext (by repeat (first | (with_reducible assumption) | (with_reducible refine Ext.setCell ?_ (by first | (simp; done) | (simp; omega) | omega) _) | (with_reducible apply Ext.alloc) | (with_reducible apply Ext.drew) | (with_reducible apply Ext.drewN) | (with_reducible exact Ext.refl _))))).mono ?_
  rintro e w' ⟨rfl, rfl⟩
  cases hB1 : shapeB s
  · replace hB1 := Lib.hid hB1
    go_wp2_with fail
    go_ret
    rw [show idxA s k = [] by unfold idxA; rw [hB1.out]; rfl]
    exact PInts.no (by repeat (first | (with_reducible assumption) | (with_reducible refine Ext.setCell ?_ (by first | (simp; done) | (simp; omega) | omega) _) | (with_reducible apply Ext.alloc) | (with_reducible apply Ext.drew) | (with_reducible apply Ext.drewN) | (with_reducible exact Ext.refl _)))
  · replace hB1 := Lib.hid hB1
    by_cases hc2 : (k : Int) < (0 : Int)
    · go_wp2_with fail
      go_ret
      rw [show idxA s k = [] by unfold idxA; rw [hB1.out]; rw [if_neg (by simp only [Bool.true_and, Bool.and_eq_true, decide_eq_true_eq]; omega)]]
      exact PInts.no (by repeat (first | (with_reducible assumption) | (with_reducible refine Ext.setCell ?_ (by first | (simp; done) | (simp; omega) | omega) _) | (with_reducible apply Ext.alloc) | (with_reducible apply Ext.drew) | (with_reducible apply Ext.drewN) | (with_reducible exact Ext.refl _)))
    · go_wp2_with fail
      refine (countOf_c s (.slice p0 s.length c0) _ _ (h1.ext (by repeat (first | (with_reducible assumption) | (with_reducible refine Ext.setCell ?_ (by first | (simp; done) | (simp; omega) | omega) _) | (with_reducible apply Ext.alloc) | (with_reducible apply Ext.drew) | (with_reducible apply Ext.drewN) | (with_reducible exact Ext.refl _))))).mono ?_
      rintro e w' ⟨rfl, rfl⟩
      by_cases hc3 : (countL s : Int) ≤ (k : Int)
      · go_wp2_with fail
        go_ret
        rw [show idxA s k = [] by unfold idxA; rw [hB1.out]; rw [if_neg (by simp only [Bool.true_and, Bool.and_eq_true, decide_eq_true_eq]; omega)]]
        exact PInts.no (by repeat (first | (with_reducible assumption) | (with_reducible refine Ext.setCell ?_ (by first | (simp; done) | (simp; omega) | omega) _) | (with_reducible apply Ext.alloc) | (with_reducible apply Ext.drew) | (with_reducible apply Ext.drewN) | (with_reducible exact Ext.refl _)))
      · go_wp2_with fail
        refine (indexAt_c s (.slice p0 s.length c0) k _ _ (h1.ext (by repeat (first | (with_reducible assumption) | (with_reducible refine Ext.setCell ?_ (by first | (simp; done) | (simp; omega) | omega) _) | (with_reducible apply Ext.alloc) | (with_reducible apply Ext.drew) | (with_reducible apply Ext.drewN) | (with_reducible exact Ext.refl _)))) (by omega) (by have := (sh hB1.out).2.2; omega) ((sh hB1.out).2.1 (by omega))).mono ?_
        rintro e w1 ⟨fv4, rfl, i5, i5z, xw1⟩
        have Lw1 : Ext w w1 := Ext.trans (by repeat (first | (with_reducible assumption) | (with_reducible refine Ext.setCell ?_ (by first | (simp; done) | (simp; omega) | omega) _) | (with_reducible apply Ext.alloc) | (with_reducible apply Ext.drew) | (with_reducible apply Ext.drewN) | (with_reducible exact Ext.refl _))) xw1
        have Xw1 : Ext w w1 := Lw1
        have s_w1 : w.heap.size ≤ w1.heap.size := Xw1.size
        clear xw1
        obtain ⟨afv4, cfv4, rfl⟩ := i5.form
        go_wp2_with fail
        go_ret
        rw [show idxA s k = (unrL s k).1 by unfold idxA; rw [hB1.out]; rw [if_pos (by simp only [Bool.true_and, Bool.and_eq_true, decide_eq_true_eq]; omega)]]
        exact ⟨_, rfl, i5.lower (by omega), i5z.lower (by omega), (Xw1.trans (by repeat (first | (with_reducible assumption) | (with_reducible refine Ext.setCell ?_ (by first | (simp; done) | (simp; omega) | omega) _) | (with_reducible apply Ext.alloc) | (with_reducible apply Ext.drew) | (with_reducible apply Ext.drewN) | (with_reducible exact Ext.refl _))))⟩

set_option maxHeartbeats 1600000 in
theorem implOffsetAt_c (b1 : Int) (u1 v1 : Value) (s1 t1 : List Int) (v3 : Value) (r : List Int) (w : World) (l1 m1 : Nat) (h1 : Ints w l1 u1 s1) (k1 : Ints w m1 v1 t1) (l3 : Nat) (h3 : Ints w l3 v3 r) :
    Calls Try.prog 61 #[.agg #[.int .i64 b1, u1, v1], v3] w (fun e w' => e = .returned (.tuple #[.int .i64 (atA b1 s1 t1 r), .bool (okA b1 s1 t1 r)]) ∧ Ext w w') := by
  obtain ⟨p0, c0, rfl⟩ := h1.form
  obtain ⟨p1, c1, rfl⟩ := k1.form
  obtain ⟨p2, c2, rfl⟩ := h3.form
  go_enter Try.func61, Try.ntmps61
  go_wp2_with fail
  refine (isView_c b1 (.slice p0 s1.length c0) (.slice p1 t1.length c1) s1 t1 _ _ _ (h1.ext (by repeat (first | (with_reducible assumption) | (with_reducible refine Ext.setCell ?_ (by first | (simp; done) | (simp; omega) | omega) _) | (with_reducible apply Ext.alloc) | (with_reducible apply Ext.drew) | (with_reducible apply Ext.drewN) | (with_reducible exact Ext.refl _)))) (k1.ext (by repeat (first | (with_reducible assumption) | (with_reducible refine Ext.setCell ?_ (by first | (simp; done) | (simp; omega) | omega) _) | (with_reducible apply Ext.alloc) | (with_reducible apply Ext.drew) | (with_reducible apply Ext.drewN) | (with_reducible exact Ext.refl _))))).mono ?_
  rintro e w1 ⟨rfl, xw1⟩
  have Lw1 : Ext w w1 := Ext.trans (by repeat (first | (with_reducible assumption) | (with_reducible refine Ext.setCell ?_ (by first | (simp; done) | (simp; omega) | omega) _) | (with_reducible apply Ext.alloc) | (with_reducible apply Ext.drew) | (with_reducible apply Ext.drewN) | (with_reducible exact Ext.refl _))) xw1
  have Xw1 : Ext w w1 := Lw1
  have b10 : w1.cell? ⟨w.heap.size, 0, none⟩ = some (.int .i64 b1) := xw1.cell (by first | (simp; done) | ((repeat rw [World.cell?_alloc_lt _ _ _ (by simp <;> omega)]); simp; done) | (go_simp; done))
  have b11 : w1.cell? ⟨w.heap.size, 1, none⟩ = some (.slice p0 s1.length c0) := xw1.cell (by first | (simp; done) | ((repeat rw [World.cell?_alloc_lt _ _ _ (by simp <;> omega)]); simp; done) | (go_simp; done))
  have b12 : w1.cell? ⟨w.heap.size, 2, none⟩ = some (.slice p1 t1.length c1) := xw1.cell (by first | (simp; done) | ((repeat rw [World.cell?_alloc_lt _ _ _ (by simp <;> omega)]); simp; done) | (go_simp; done))
  have z_b1 : w.heap.size < w1.heap.size := World.block_lt_of_cell? _ _ b10
  have s_w1 : w.heap.size ≤ w1.heap.size := Xw1.size
  clear xw1
  cases hB2 : viewB b1 s1 t1
  · replace hB2 := Lib.hid hB2
    go_wp2_with fail
    go_ret2
    exact ⟨by rw [show okA b1 s1 t1 r = false by unfold okA; rw [hB2.out] <;> rfl, show atA b1 s1 t1 r = 0 by unfold atA okA; rw [hB2.out] <;> rfl] <;> rfl, (Xw1.trans (by repeat (first | (with_reducible assumption) | (with_reducible refine Ext.setCell ?_ (by first | (simp; done) | (simp; omega) | omega) _) | (with_reducible apply Ext.alloc) | (with_reducible apply Ext.drew) | (with_reducible apply Ext.drewN) | (with_reducible exact Ext.refl _))))⟩
  · replace hB2 := Lib.hid hB2
    go_wp2_with fail
    refine (isIndex_c s1 r (.slice p0 s1.length c0) (.slice p2 r.length c2) _ _ _ (h1.ext (Xw1.trans (by repeat (first | (with_reducible assumption) | (with_reducible refine Ext.setCell ?_ (by first | (simp; done) | (simp; omega) | omega) _) | (with_reducible apply Ext.alloc) | (with_reducible apply Ext.drew) | (with_reducible apply Ext.drewN) | (with_reducible exact Ext.refl _))))) (h3.ext (Xw1.trans (by repeat (first | (with_reducible assumption) | (with_reducible refine Ext.setCell ?_ (by first | (simp; done) | (simp; omega) | omega) _) | (with_reducible apply Ext.alloc) | (with_reducible apply Ext.drew) | (with_reducible apply Ext.drewN) | (with_reducible exact Ext.refl _)))))).mono ?_
    rintro e w' ⟨rfl, rfl⟩
    cases hB3 : ixB s1 r
    · replace hB3 := Lib.hid hB3
      go_wp2_with fail
      go_ret2
      exact ⟨by rw [show okA b1 s1 t1 r = false by unfold okA; rw [hB2.out, hB3.out] <;> rfl, show atA b1 s1 t1 r = 0 by unfold atA okA; rw [hB2.out, hB3.out] <;> rfl] <;> rfl, (Xw1.trans (by repeat (first | (with_reducible assumption) | (with_reducible refine Ext.setCell ?_ (by first | (simp; done) | (simp; omega) | omega) _) | (with_reducible apply Ext.alloc) | (with_reducible apply Ext.drew) | (with_reducible apply Ext.drewN) | (with_reducible exact Ext.refl _))))⟩
    · replace hB3 := Lib.hid hB3
      go_wp2_with fail
      refine (offsetAt_c b1 (.slice p0 s1.length c0) (.slice p1 t1.length c1) (.slice p2 r.length c2) t1 r _ _ _ (k1.ext (Xw1.trans (by repeat (first | (with_reducible assumption) | (with_reducible refine Ext.setCell ?_ (by first | (simp; done) | (simp; omega) | omega) _) | (with_reducible apply Ext.alloc) | (with_reducible apply Ext.drew) | (with_reducible apply Ext.drewN) | (with_reducible exact Ext.refl _))))) (h3.ext (Xw1.trans (by repeat (first | (with_reducible assumption) | (with_reducible refine Ext.setCell ?_ (by first | (simp; done) | (simp; omega) | omega) _) | (with_reducible apply Ext.alloc) | (with_reducible apply Ext.drew) | (with_reducible apply Ext.drewN) | (with_reducible exact Ext.refl _))))) (by have h7 := ix_len hB3.out; have h8 := (vw hB2.out).1; omega)).mono ?_
      rintro e w2 ⟨rfl, xw2⟩
      have Lw2 : Ext w1 w2 := Ext.trans (by repeat (first | (with_reducible assumption) | (with_reducible refine Ext.setCell ?_ (by first | (simp; done) | (simp; omega) | omega) _) | (with_reducible apply Ext.alloc) | (with_reducible apply Ext.drew) | (with_reducible apply Ext.drewN) | (with_reducible exact Ext.refl _))) xw2
      have Xw2 : Ext w w2 := Xw1.trans Lw2
      replace b10 := Lw2.cell b10
      replace b11 := Lw2.cell b11
      replace b12 := Lw2.cell b12
      have z_b1 : w.heap.size < w2.heap.size := World.block_lt_of_cell? _ _ b10
      have s_w2 : w.heap.size ≤ w2.heap.size := Xw2.size
      clear xw2
      go_wp2_with fail
      go_ret2
      exact ⟨by rw [show okA b1 s1 t1 r = true by unfold okA; rw [hB2.out, hB3.out] <;> rfl, show atA b1 s1 t1 r = dotL b1 r t1 by unfold atA okA; rw [hB2.out, hB3.out] <;> rfl] <;> rfl, (Xw2.trans (by repeat (first | (with_reducible assumption) | (with_reducible refine Ext.setCell ?_ (by first | (simp; done) | (simp; omega) | omega) _) | (with_reducible apply Ext.alloc) | (with_reducible apply Ext.drew) | (with_reducible apply Ext.drewN) | (with_reducible exact Ext.refl _))))⟩

set_option maxHeartbeats 1600000 in
theorem implIsRow_c (b1 : Int) (u1 v1 : Value) (s1 t1 : List Int) (w : World) (l1 m1 : Nat) (h1 : Ints w l1 u1 s1) (k1 : Ints w m1 v1 t1) :
    Calls Try.prog 22 #[.agg #[.int .i64 b1, u1, v1]] w (fun e w' => e = .returned (.bool (rowB b1 s1 t1)) ∧ Ext w w') := by
  obtain ⟨p0, c0, rfl⟩ := h1.form
  obtain ⟨p1, c1, rfl⟩ := k1.form
  go_enter Try.func22, Try.ntmps22
  go_wp2_with fail
  refine (isView_c b1 (.slice p0 s1.length c0) (.slice p1 t1.length c1) s1 t1 _ _ _ (h1.ext (by repeat (first | (with_reducible assumption) | (with_reducible refine Ext.setCell ?_ (by first | (simp; done) | (simp; omega) | omega) _) | (with_reducible apply Ext.alloc) | (with_reducible apply Ext.drew) | (with_reducible apply Ext.drewN) | (with_reducible exact Ext.refl _)))) (k1.ext (by repeat (first | (with_reducible assumption) | (with_reducible refine Ext.setCell ?_ (by first | (simp; done) | (simp; omega) | omega) _) | (with_reducible apply Ext.alloc) | (with_reducible apply Ext.drew) | (with_reducible apply Ext.drewN) | (with_reducible exact Ext.refl _))))).mono ?_
  rintro e w1 ⟨rfl, xw1⟩
  have Lw1 : Ext w w1 := Ext.trans (by repeat (first | (with_reducible assumption) | (with_reducible refine Ext.setCell ?_ (by first | (simp; done) | (simp; omega) | omega) _) | (with_reducible apply Ext.alloc) | (with_reducible apply Ext.drew) | (with_reducible apply Ext.drewN) | (with_reducible exact Ext.refl _))) xw1
  have Xw1 : Ext w w1 := Lw1
  have b10 : w1.cell? ⟨w.heap.size, 0, none⟩ = some (.int .i64 b1) := xw1.cell (by first | (simp; done) | ((repeat rw [World.cell?_alloc_lt _ _ _ (by simp <;> omega)]); simp; done) | (go_simp; done))
  have b11 : w1.cell? ⟨w.heap.size, 1, none⟩ = some (.slice p0 s1.length c0) := xw1.cell (by first | (simp; done) | ((repeat rw [World.cell?_alloc_lt _ _ _ (by simp <;> omega)]); simp; done) | (go_simp; done))
  have b12 : w1.cell? ⟨w.heap.size, 2, none⟩ = some (.slice p1 t1.length c1) := xw1.cell (by first | (simp; done) | ((repeat rw [World.cell?_alloc_lt _ _ _ (by simp <;> omega)]); simp; done) | (go_simp; done))
  have z_b1 : w.heap.size < w1.heap.size := World.block_lt_of_cell? _ _ b10
  have s_w1 : w.heap.size ≤ w1.heap.size := Xw1.size
  clear xw1
  cases hB2 : viewB b1 s1 t1
  · replace hB2 := Lib.hid hB2
    go_wp2_with fail
    go_ret
    exact ⟨by rw [show rowB b1 s1 t1 = false by unfold rowB; rw [hB2.out] <;> rfl] <;> rfl, (Xw1.trans (by repeat (first | (with_reducible assumption) | (with_reducible refine Ext.setCell ?_ (by first | (simp; done) | (simp; omega) | omega) _) | (with_reducible apply Ext.alloc) | (with_reducible apply Ext.drew) | (with_reducible apply Ext.drewN) | (with_reducible exact Ext.refl _))))⟩
  · replace hB2 := Lib.hid hB2
    go_wp2_with fail
    refine wp_region_tail (S := fun w' => w'.cell? ⟨w.heap.size, 0, none⟩ = some (.int .i64 b1) ∧ w'.cell? ⟨w.heap.size, 1, none⟩ = some (.slice p0 s1.length c0) ∧ w'.cell? ⟨w.heap.size, 2, none⟩ = some (.slice p1 t1.length c1)) (fun i => decide (13 ≤ i)) (by kernel_rfl) ⟨b10, b11, b12⟩ (fun hHeld => ?_)
    refine wpTail_take (i := 0) (v := ?_) rfl (by kernel_rfl) (by kernel_rfl) (by kernel_rfl) rfl (by kernel_rfl) (fun _ _ _ h => h) (Or.inl ⟨by rfl, ?_⟩) (by assumption) ?_
    rotate_left
    · (intro w hSw; (try dsimp only at hSw); go_simp; try with_reducible rfl)
    try simp only [Act.put, List.setIfInBounds_toArray, List.set_cons_zero, List.set_cons_succ, List.getElem_toArray, List.getElem_cons_succ, List.getElem_cons_zero]
    refine wpTail_take (i := 2) (v := ?_) rfl (by kernel_rfl) (by kernel_rfl) (by kernel_rfl) rfl (by kernel_rfl) (fun _ _ _ h => h) (Or.inl ⟨by rfl, ?_⟩) (by assumption) ?_
    rotate_left
    · (intro w hSw; (try dsimp only at hSw); go_simp; try with_reducible rfl)
    try simp only [Act.put, List.setIfInBounds_toArray, List.set_cons_zero, List.set_cons_succ, List.getElem_toArray, List.getElem_cons_succ, List.getElem_cons_zero]
    refine wpTail_take (i := 3) (v := ?_) rfl (by kernel_rfl) (by kernel_rfl) (by kernel_rfl) rfl (by kernel_rfl) (fun _ _ _ h => h) (Or.inl ⟨by rfl, ?_⟩) (by assumption) ?_
    rotate_left
    · (intro w hSw; (try dsimp only at hSw); go_simp; try with_reducible rfl)
    try simp only [Act.put, List.setIfInBounds_toArray, List.set_cons_zero, List.set_cons_succ, List.getElem_toArray, List.getElem_cons_succ, List.getElem_cons_zero]
    refine wpTail_take (i := 4) (v := ?_) rfl (by kernel_rfl) (by kernel_rfl) (by kernel_rfl) rfl (by kernel_rfl) (fun _ _ _ h => h) (Or.inl ⟨by rfl, ?_⟩) (by assumption) ?_
    rotate_left
    · (intro w hSw; (try dsimp only at hSw); go_simp; try with_reducible rfl)
    try simp only [Act.put, List.setIfInBounds_toArray, List.set_cons_zero, List.set_cons_succ, List.getElem_toArray, List.getElem_cons_succ, List.getElem_cons_zero]
    refine wpTail_take (i := 5) (v := ?_) rfl (by kernel_rfl) (by kernel_rfl) (by kernel_rfl) rfl (by kernel_rfl) (fun _ _ _ h => h) (Or.inl ⟨by rfl, ?_⟩) (by assumption) ?_
    rotate_left
    · (intro w hSw; (try dsimp only at hSw); go_simp; try with_reducible rfl)
    try simp only [Act.put, List.setIfInBounds_toArray, List.set_cons_zero, List.set_cons_succ, List.getElem_toArray, List.getElem_cons_succ, List.getElem_cons_zero]
    refine wpTail_take (i := 6) (v := ?_) rfl (by kernel_rfl) (by kernel_rfl) (by kernel_rfl) rfl (by kernel_rfl) (fun _ _ _ h => h) (Or.inl ⟨by rfl, ?_⟩) (by assumption) ?_
    rotate_left
    · (intro w hSw; (try dsimp only at hSw); go_simp; try with_reducible rfl)
    try simp only [Act.put, List.setIfInBounds_toArray, List.set_cons_zero, List.set_cons_succ, List.getElem_toArray, List.getElem_cons_succ, List.getElem_cons_zero]
    refine wpTail_take (i := 7) (v := ?_) rfl (by kernel_rfl) (by kernel_rfl) (by kernel_rfl) rfl (by kernel_rfl) (fun _ _ _ h => h) (Or.inl ⟨by rfl, ?_⟩) (by assumption) ?_
    rotate_left
    · (intro w hSw; (try dsimp only at hSw); go_simp; try with_reducible rfl)
    try simp only [Act.put, List.setIfInBounds_toArray, List.set_cons_zero, List.set_cons_succ, List.getElem_toArray, List.getElem_cons_succ, List.getElem_cons_zero]
    refine wpTail_one (i := 1) (by kernel_rfl) rfl rfl (fun K hK => ?_)
    try simp only [Act.put, List.setIfInBounds_toArray, List.set_cons_zero, List.set_cons_succ, List.getElem_toArray, List.getElem_cons_succ, List.getElem_cons_zero]
    go_simp
    refine (offsetsOf_c b1 (.slice p0 s1.length c0) (.slice p1 t1.length c1) s1 t1 _ _ _ (h1.ext (Xw1.trans (by repeat (first | (with_reducible assumption) | (with_reducible refine Ext.setCell ?_ (by first | (simp; done) | (simp; omega) | omega) _) | (with_reducible apply Ext.alloc) | (with_reducible apply Ext.drew) | (with_reducible apply Ext.drewN) | (with_reducible exact Ext.refl _))))) (k1.ext (Xw1.trans (by repeat (first | (with_reducible assumption) | (with_reducible refine Ext.setCell ?_ (by first | (simp; done) | (simp; omega) | omega) _) | (with_reducible apply Ext.alloc) | (with_reducible apply Ext.drew) | (with_reducible apply Ext.drewN) | (with_reducible exact Ext.refl _))))) (by first | omega | exact (vw hB2.out).1 | exact (vw hB2.out).2.1 | exact (vw hB2.out).2.2.1 | exact (vw hB2.out).2.2.2) (by first | omega | exact (vw hB2.out).1 | exact (vw hB2.out).2.1 | exact (vw hB2.out).2.2.1 | exact (vw hB2.out).2.2.2) (by first | omega | exact (vw hB2.out).1 | exact (vw hB2.out).2.1 | exact (vw hB2.out).2.2.1 | exact (vw hB2.out).2.2.2)).mono ?_
    rintro e w2 ⟨fv3, rfl, i4, -, xw2⟩
    have Lw2 : Ext w1 w2 := Ext.trans (by repeat (first | (with_reducible assumption) | (with_reducible refine Ext.setCell ?_ (by first | (simp; done) | (simp; omega) | omega) _) | (with_reducible apply Ext.alloc) | (with_reducible apply Ext.drew) | (with_reducible apply Ext.drewN) | (with_reducible exact Ext.refl _))) xw2
    have Xw2 : Ext w w2 := Xw1.trans Lw2
    replace b10 := Lw2.cell b10
    replace b11 := Lw2.cell b11
    replace b12 := Lw2.cell b12
    have z_b1 : w.heap.size < w2.heap.size := World.block_lt_of_cell? _ _ b10
    have s_w2 : w.heap.size ≤ w2.heap.size := Xw2.size
    clear xw2
    obtain ⟨afv3, cfv3, rfl⟩ := i4.form
    refine hK.out _ _ ⟨b10, b11, b12⟩ (fun hHeld => ?_)
    clear hK K
    try simp only [Act.put, List.setIfInBounds_toArray, List.set_cons_zero, List.set_cons_succ, List.getElem_toArray, List.getElem_cons_succ, List.getElem_cons_zero]
    refine wpTail_one (i := 8) (by kernel_rfl) rfl rfl (fun K hK => ?_)
    try simp only [Act.put, List.setIfInBounds_toArray, List.set_cons_zero, List.set_cons_succ, List.getElem_toArray, List.getElem_cons_succ, List.getElem_cons_zero]
    go_simp
    refine (implRowStrides_c s1 (.slice p0 s1.length c0) _ _ (h1.ext (Xw2.trans (by repeat (first | (with_reducible assumption) | (with_reducible refine Ext.setCell ?_ (by first | (simp; done) | (simp; omega) | omega) _) | (with_reducible apply Ext.alloc) | (with_reducible apply Ext.drew) | (with_reducible apply Ext.drewN) | (with_reducible exact Ext.refl _))))) (by first | omega | exact (vw hB2.out).1 | exact (vw hB2.out).2.1 | exact (vw hB2.out).2.2.1 | exact (vw hB2.out).2.2.2)).mono ?_
    rintro e w3 ⟨fv5, rfl, i6, -, xw3⟩
    have Lw3 : Ext w2 w3 := Ext.trans (by repeat (first | (with_reducible assumption) | (with_reducible refine Ext.setCell ?_ (by first | (simp; done) | (simp; omega) | omega) _) | (with_reducible apply Ext.alloc) | (with_reducible apply Ext.drew) | (with_reducible apply Ext.drewN) | (with_reducible exact Ext.refl _))) xw3
    have Xw3 : Ext w w3 := Xw2.trans Lw3
    replace b10 := Lw3.cell b10
    replace b11 := Lw3.cell b11
    replace b12 := Lw3.cell b12
    have z_b1 : w.heap.size < w3.heap.size := World.block_lt_of_cell? _ _ b10
    replace i4 := i4.ext Lw3
    have s_w3 : w.heap.size ≤ w3.heap.size := Xw3.size
    clear xw3
    obtain ⟨afv5, cfv5, rfl⟩ := i6.form
    refine hK.out _ _ ⟨b10, b11, b12⟩ (fun hHeld => ?_)
    clear hK K
    try simp only [Act.put, List.setIfInBounds_toArray, List.set_cons_zero, List.set_cons_succ, List.getElem_toArray, List.getElem_cons_succ, List.getElem_cons_zero]
    refine wpTail_take (i := 9) (v := ?_) rfl (by kernel_rfl) (by kernel_rfl) (by kernel_rfl) rfl (by kernel_rfl) (fun _ _ _ h => h) (Or.inl ⟨by rfl, ?_⟩) (by assumption) ?_
    rotate_left
    · (intro w hSw; (try dsimp only at hSw); go_simp; try with_reducible rfl)
    try simp only [Act.put, List.setIfInBounds_toArray, List.set_cons_zero, List.set_cons_succ, List.getElem_toArray, List.getElem_cons_succ, List.getElem_cons_zero]
    refine wpTail_one (i := 10) (by kernel_rfl) rfl rfl (fun K hK => ?_)
    try simp only [Act.put, List.setIfInBounds_toArray, List.set_cons_zero, List.set_cons_succ, List.getElem_toArray, List.getElem_cons_succ, List.getElem_cons_zero]
    go_simp
    refine (offsetsOf_c b1 (.slice p0 s1.length c0) (.slice afv5 ((rowS s1).length) cfv5) s1 (rowS s1) _ _ _ (h1.ext (Xw3.trans (by repeat (first | (with_reducible assumption) | (with_reducible refine Ext.setCell ?_ (by first | (simp; done) | (simp; omega) | omega) _) | (with_reducible apply Ext.alloc) | (with_reducible apply Ext.drew) | (with_reducible apply Ext.drewN) | (with_reducible exact Ext.refl _))))) (i6.ext (by repeat (first | (with_reducible assumption) | (with_reducible refine Ext.setCell ?_ (by first | (simp; done) | (simp; omega) | omega) _) | (with_reducible apply Ext.alloc) | (with_reducible apply Ext.drew) | (with_reducible apply Ext.drewN) | (with_reducible exact Ext.refl _)))) (by first | omega | exact (vw hB2.out).1 | exact (vw hB2.out).2.1 | exact (vw hB2.out).2.2.1 | exact (vw hB2.out).2.2.2 | (rw [rowS_len]; omega) | exact Nat.le_of_eq (rowS_len _).symm) (by first | omega | exact (vw hB2.out).1 | exact (vw hB2.out).2.1 | exact (vw hB2.out).2.2.1 | exact (vw hB2.out).2.2.2) (by first | omega | exact (vw hB2.out).1 | exact (vw hB2.out).2.1 | exact (vw hB2.out).2.2.1 | exact (vw hB2.out).2.2.2)).mono ?_
    rintro e w4 ⟨fv7, rfl, i8, -, xw4⟩
    have Lw4 : Ext w3 w4 := Ext.trans (by repeat (first | (with_reducible assumption) | (with_reducible refine Ext.setCell ?_ (by first | (simp; done) | (simp; omega) | omega) _) | (with_reducible apply Ext.alloc) | (with_reducible apply Ext.drew) | (with_reducible apply Ext.drewN) | (with_reducible exact Ext.refl _))) xw4
    have Xw4 : Ext w w4 := Xw3.trans Lw4
    replace b10 := Lw4.cell b10
    replace b11 := Lw4.cell b11
    replace b12 := Lw4.cell b12
    have z_b1 : w.heap.size < w4.heap.size := World.block_lt_of_cell? _ _ b10
    replace i4 := i4.ext Lw4
    replace i6 := i6.ext Lw4
    have s_w4 : w.heap.size ≤ w4.heap.size := Xw4.size
    clear xw4
    obtain ⟨afv7, cfv7, rfl⟩ := i8.form
    refine hK.out _ _ ⟨b10, b11, b12⟩ (fun hHeld => ?_)
    clear hK K
    try simp only [Act.put, List.setIfInBounds_toArray, List.set_cons_zero, List.set_cons_succ, List.getElem_toArray, List.getElem_cons_succ, List.getElem_cons_zero]
    refine wpTail_one (i := 11) (by kernel_rfl) rfl rfl (fun K hK => ?_)
    try simp only [Act.put, List.setIfInBounds_toArray, List.set_cons_zero, List.set_cons_succ, List.getElem_toArray, List.getElem_cons_succ, List.getElem_cons_zero]
    go_simp
    refine (equal_x (offsL b1 s1 t1) (offsL b1 s1 (rowS s1)) (.slice afv3 ((offsL b1 s1 t1).length) cfv3) (.slice afv7 ((offsL b1 s1 (rowS s1)).length) cfv7) _ _ _ (i4.ext (by repeat (first | (with_reducible assumption) | (with_reducible refine Ext.setCell ?_ (by first | (simp; done) | (simp; omega) | omega) _) | (with_reducible apply Ext.alloc) | (with_reducible apply Ext.drew) | (with_reducible apply Ext.drewN) | (with_reducible exact Ext.refl _)))) (i8.ext (by repeat (first | (with_reducible assumption) | (with_reducible refine Ext.setCell ?_ (by first | (simp; done) | (simp; omega) | omega) _) | (with_reducible apply Ext.alloc) | (with_reducible apply Ext.drew) | (with_reducible apply Ext.drewN) | (with_reducible exact Ext.refl _))))).mono ?_
    rintro e w5 ⟨rfl, xw5⟩
    have Lw5 : Ext w4 w5 := Ext.trans (by repeat (first | (with_reducible assumption) | (with_reducible refine Ext.setCell ?_ (by first | (simp; done) | (simp; omega) | omega) _) | (with_reducible apply Ext.alloc) | (with_reducible apply Ext.drew) | (with_reducible apply Ext.drewN) | (with_reducible exact Ext.refl _))) xw5
    have Xw5 : Ext w w5 := Xw4.trans Lw5
    replace b10 := Lw5.cell b10
    replace b11 := Lw5.cell b11
    replace b12 := Lw5.cell b12
    have z_b1 : w.heap.size < w5.heap.size := World.block_lt_of_cell? _ _ b10
    replace i4 := i4.ext Lw5
    replace i6 := i6.ext Lw5
    replace i8 := i8.ext Lw5
    have s_w5 : w.heap.size ≤ w5.heap.size := Xw5.size
    clear xw5
    cases hB9 : sameB (offsL b1 s1 t1) (offsL b1 s1 (rowS s1))
    · replace hB9 := Lib.hid hB9
      refine hK.out _ _ ⟨b10, b11, b12⟩ (fun hHeld => ?_)
      clear hK K
      try simp only [Act.put, List.setIfInBounds_toArray, List.set_cons_zero, List.set_cons_succ, List.getElem_toArray, List.getElem_cons_succ, List.getElem_cons_zero]
      refine wpTail_take (i := 12) (v := ?_) rfl (by kernel_rfl) (by kernel_rfl) (by kernel_rfl) rfl (by kernel_rfl) (fun _ _ _ h => h) (Or.inl ⟨by rfl, ?_⟩) (by assumption) ?_
      rotate_left
      · (intro w hSw; (try dsimp only at hSw); go_simp; try with_reducible rfl)
      try simp only [Act.put, List.setIfInBounds_toArray, List.set_cons_zero, List.set_cons_succ, List.getElem_toArray, List.getElem_cons_succ, List.getElem_cons_zero]
      refine wpTail_done (by kernel_rfl) ?_ _
      clear hHeld 
      go_wp2_with fail
      go_ret
      exact ⟨by rw [show rowB b1 s1 t1 = false by unfold rowB; rw [hB2.out, hB9.out] <;> rfl] <;> rfl, (Xw5.trans (by repeat (first | (with_reducible assumption) | (with_reducible refine Ext.setCell ?_ (by first | (simp; done) | (simp; omega) | omega) _) | (with_reducible apply Ext.alloc) | (with_reducible apply Ext.drew) | (with_reducible apply Ext.drewN) | (with_reducible exact Ext.refl _))))⟩
    · replace hB9 := Lib.hid hB9
      refine hK.out _ _ ⟨b10, b11, b12⟩ (fun hHeld => ?_)
      clear hK K
      try simp only [Act.put, List.setIfInBounds_toArray, List.set_cons_zero, List.set_cons_succ, List.getElem_toArray, List.getElem_cons_succ, List.getElem_cons_zero]
      refine wpTail_take (i := 12) (v := ?_) rfl (by kernel_rfl) (by kernel_rfl) (by kernel_rfl) rfl (by kernel_rfl) (fun _ _ _ h => h) (Or.inl ⟨by rfl, ?_⟩) (by assumption) ?_
      rotate_left
      · (intro w hSw; (try dsimp only at hSw); go_simp; try with_reducible rfl)
      try simp only [Act.put, List.setIfInBounds_toArray, List.set_cons_zero, List.set_cons_succ, List.getElem_toArray, List.getElem_cons_succ, List.getElem_cons_zero]
      refine wpTail_done (by kernel_rfl) ?_ _
      clear hHeld 
      go_wp2_with fail
      go_ret
      exact ⟨by rw [show rowB b1 s1 t1 = true by unfold rowB; rw [hB2.out, hB9.out] <;> rfl] <;> rfl, (Xw5.trans (by repeat (first | (with_reducible assumption) | (with_reducible refine Ext.setCell ?_ (by first | (simp; done) | (simp; omega) | omega) _) | (with_reducible apply Ext.alloc) | (with_reducible apply Ext.drew) | (with_reducible apply Ext.drewN) | (with_reducible exact Ext.refl _))))⟩

set_option maxHeartbeats 1600000 in
theorem dense_c (b1 : Int) (u1 v1 : Value) (s1 t1 : List Int) (v3 : Value) (r : List Int) (w : World) (l1 m1 : Nat) (h1 : Ints w l1 u1 s1) (k1 : Ints w m1 v1 t1) (l3 : Nat) (h3 : Ints w l3 v3 r) (ha : viewB b1 s1 t1 = true) (hl : s1.length ≤ r.length) :
    Calls Try.prog 74 #[.agg #[.int .i64 b1, u1, v1], v3] w (fun e w' => e = .returned (.bool (sameB (offsL b1 s1 t1) (offsL b1 s1 r))) ∧ Ext w w') := by
  obtain ⟨p0, c0, rfl⟩ := h1.form
  obtain ⟨p1, c1, rfl⟩ := k1.form
  obtain ⟨p2, c2, rfl⟩ := h3.form
  replace ha := Lib.hid ha
  go_enter Try.func74, Try.ntmps74
  go_wp2_with fail
  have Lw1 : Ext w (w.alloc (.cells #[.int .i64 b1, .slice p0 s1.length c0, .slice p1 t1.length c1] 25)) := (by repeat (first | (with_reducible assumption) | (with_reducible refine Ext.setCell ?_ (by first | (simp; done) | (simp; omega) | omega) _) | (with_reducible apply Ext.alloc) | (with_reducible apply Ext.drew) | (with_reducible apply Ext.drewN) | (with_reducible exact Ext.refl _)))
  have Xw1 : Ext w (w.alloc (.cells #[.int .i64 b1, .slice p0 s1.length c0, .slice p1 t1.length c1] 25)) := Lw1
  have b10 : (w.alloc (.cells #[.int .i64 b1, .slice p0 s1.length c0, .slice p1 t1.length c1] 25)).cell? ⟨w.heap.size, 0, none⟩ = some (.int .i64 b1) := (by first | (simp; done) | ((repeat rw [World.cell?_alloc_lt _ _ _ (by simp <;> omega)]); simp; done) | (go_simp; done))
  have b11 : (w.alloc (.cells #[.int .i64 b1, .slice p0 s1.length c0, .slice p1 t1.length c1] 25)).cell? ⟨w.heap.size, 1, none⟩ = some (.slice p0 s1.length c0) := (by first | (simp; done) | ((repeat rw [World.cell?_alloc_lt _ _ _ (by simp <;> omega)]); simp; done) | (go_simp; done))
  have b12 : (w.alloc (.cells #[.int .i64 b1, .slice p0 s1.length c0, .slice p1 t1.length c1] 25)).cell? ⟨w.heap.size, 2, none⟩ = some (.slice p1 t1.length c1) := (by first | (simp; done) | ((repeat rw [World.cell?_alloc_lt _ _ _ (by simp <;> omega)]); simp; done) | (go_simp; done))
  have z_b1 : w.heap.size < (w.alloc (.cells #[.int .i64 b1, .slice p0 s1.length c0, .slice p1 t1.length c1] 25)).heap.size := World.block_lt_of_cell? _ _ b10
  have s_w1 : w.heap.size ≤ (w.alloc (.cells #[.int .i64 b1, .slice p0 s1.length c0, .slice p1 t1.length c1] 25)).heap.size := Xw1.size
  generalize w.alloc (.cells #[.int .i64 b1, .slice p0 s1.length c0, .slice p1 t1.length c1] 25) = w1 at *
  refine wp_region_tail (S := fun w' => w'.cell? ⟨w.heap.size, 0, none⟩ = some (.int .i64 b1) ∧ w'.cell? ⟨w.heap.size, 1, none⟩ = some (.slice p0 s1.length c0) ∧ w'.cell? ⟨w.heap.size, 2, none⟩ = some (.slice p1 t1.length c1)) (fun i => decide (11 ≤ i)) (by kernel_rfl) ⟨b10, b11, b12⟩ (fun hHeld => ?_)
  refine wpTail_take (i := 0) (v := ?_) rfl (by kernel_rfl) (by kernel_rfl) (by kernel_rfl) rfl (by kernel_rfl) (fun _ _ _ h => h) (Or.inl ⟨by rfl, ?_⟩) (by assumption) ?_
  rotate_left
  · (intro w hSw; (try dsimp only at hSw); go_simp; try with_reducible rfl)
  try simp only [Act.put, List.setIfInBounds_toArray, List.set_cons_zero, List.set_cons_succ, List.getElem_toArray, List.getElem_cons_succ, List.getElem_cons_zero]
  refine wpTail_take (i := 2) (v := ?_) rfl (by kernel_rfl) (by kernel_rfl) (by kernel_rfl) rfl (by kernel_rfl) (fun _ _ _ h => h) (Or.inl ⟨by rfl, ?_⟩) (by assumption) ?_
  rotate_left
  · (intro w hSw; (try dsimp only at hSw); go_simp; try with_reducible rfl)
  try simp only [Act.put, List.setIfInBounds_toArray, List.set_cons_zero, List.set_cons_succ, List.getElem_toArray, List.getElem_cons_succ, List.getElem_cons_zero]
  refine wpTail_take (i := 3) (v := ?_) rfl (by kernel_rfl) (by kernel_rfl) (by kernel_rfl) rfl (by kernel_rfl) (fun _ _ _ h => h) (Or.inl ⟨by rfl, ?_⟩) (by assumption) ?_
  rotate_left
  · (intro w hSw; (try dsimp only at hSw); go_simp; try with_reducible rfl)
  try simp only [Act.put, List.setIfInBounds_toArray, List.set_cons_zero, List.set_cons_succ, List.getElem_toArray, List.getElem_cons_succ, List.getElem_cons_zero]
  refine wpTail_take (i := 4) (v := ?_) rfl (by kernel_rfl) (by kernel_rfl) (by kernel_rfl) rfl (by kernel_rfl) (fun _ _ _ h => h) (Or.inl ⟨by rfl, ?_⟩) (by assumption) ?_
  rotate_left
  · (intro w hSw; (try dsimp only at hSw); go_simp; try with_reducible rfl)
  try simp only [Act.put, List.setIfInBounds_toArray, List.set_cons_zero, List.set_cons_succ, List.getElem_toArray, List.getElem_cons_succ, List.getElem_cons_zero]
  refine wpTail_take (i := 5) (v := ?_) rfl (by kernel_rfl) (by kernel_rfl) (by kernel_rfl) rfl (by kernel_rfl) (fun _ _ _ h => h) (Or.inl ⟨by rfl, ?_⟩) (by assumption) ?_
  rotate_left
  · (intro w hSw; (try dsimp only at hSw); go_simp; try with_reducible rfl)
  try simp only [Act.put, List.setIfInBounds_toArray, List.set_cons_zero, List.set_cons_succ, List.getElem_toArray, List.getElem_cons_succ, List.getElem_cons_zero]
  refine wpTail_take (i := 6) (v := ?_) rfl (by kernel_rfl) (by kernel_rfl) (by kernel_rfl) rfl (by kernel_rfl) (fun _ _ _ h => h) (Or.inl ⟨by rfl, ?_⟩) (by assumption) ?_
  rotate_left
  · (intro w hSw; (try dsimp only at hSw); go_simp; try with_reducible rfl)
  try simp only [Act.put, List.setIfInBounds_toArray, List.set_cons_zero, List.set_cons_succ, List.getElem_toArray, List.getElem_cons_succ, List.getElem_cons_zero]
  refine wpTail_take (i := 7) (v := ?_) rfl (by kernel_rfl) (by kernel_rfl) (by kernel_rfl) rfl (by kernel_rfl) (fun _ _ _ h => h) (Or.inl ⟨by rfl, ?_⟩) (by assumption) ?_
  rotate_left
  · (intro w hSw; (try dsimp only at hSw); go_simp; try with_reducible rfl)
  try simp only [Act.put, List.setIfInBounds_toArray, List.set_cons_zero, List.set_cons_succ, List.getElem_toArray, List.getElem_cons_succ, List.getElem_cons_zero]
  refine wpTail_one (i := 1) (by kernel_rfl) rfl rfl (fun K hK => ?_)
  try simp only [Act.put, List.setIfInBounds_toArray, List.set_cons_zero, List.set_cons_succ, List.getElem_toArray, List.getElem_cons_succ, List.getElem_cons_zero]
  go_simp
  refine (offsets_c b1 (.slice p0 s1.length c0) (.slice p1 t1.length c1) s1 t1 _ _ _ (h1.ext (Xw1.trans (by repeat (first | (with_reducible assumption) | (with_reducible refine Ext.setCell ?_ (by first | (simp; done) | (simp; omega) | omega) _) | (with_reducible apply Ext.alloc) | (with_reducible apply Ext.drew) | (with_reducible apply Ext.drewN) | (with_reducible exact Ext.refl _))))) (k1.ext (Xw1.trans (by repeat (first | (with_reducible assumption) | (with_reducible refine Ext.setCell ?_ (by first | (simp; done) | (simp; omega) | omega) _) | (with_reducible apply Ext.alloc) | (with_reducible apply Ext.drew) | (with_reducible apply Ext.drewN) | (with_reducible exact Ext.refl _))))) (by first | omega | exact (vw ha.out).1 | exact (vw ha.out).2.1 | exact (vw ha.out).2.2.1 | exact (vw ha.out).2.2.2) (by first | omega | exact (vw ha.out).1 | exact (vw ha.out).2.1 | exact (vw ha.out).2.2.1 | exact (vw ha.out).2.2.2) (by first | omega | exact (vw ha.out).1 | exact (vw ha.out).2.1 | exact (vw ha.out).2.2.1 | exact (vw ha.out).2.2.2)).mono ?_
  rintro e w2 ⟨fv2, rfl, i3, -, xw2⟩
  have Lw2 : Ext w1 w2 := Ext.trans (by repeat (first | (with_reducible assumption) | (with_reducible refine Ext.setCell ?_ (by first | (simp; done) | (simp; omega) | omega) _) | (with_reducible apply Ext.alloc) | (with_reducible apply Ext.drew) | (with_reducible apply Ext.drewN) | (with_reducible exact Ext.refl _))) xw2
  have Xw2 : Ext w w2 := Xw1.trans Lw2
  replace b10 := Lw2.cell b10
  replace b11 := Lw2.cell b11
  replace b12 := Lw2.cell b12
  have z_b1 : w.heap.size < w2.heap.size := World.block_lt_of_cell? _ _ b10
  have s_w2 : w.heap.size ≤ w2.heap.size := Xw2.size
  clear xw2
  obtain ⟨afv2, cfv2, rfl⟩ := i3.form
  refine hK.out _ _ ⟨b10, b11, b12⟩ (fun hHeld => ?_)
  clear hK K
  try simp only [Act.put, List.setIfInBounds_toArray, List.set_cons_zero, List.set_cons_succ, List.getElem_toArray, List.getElem_cons_succ, List.getElem_cons_zero]
  refine wpTail_one (i := 8) (by kernel_rfl) rfl rfl (fun K hK => ?_)
  try simp only [Act.put, List.setIfInBounds_toArray, List.set_cons_zero, List.set_cons_succ, List.getElem_toArray, List.getElem_cons_succ, List.getElem_cons_zero]
  go_simp
  refine (offsets_c b1 (.slice p0 s1.length c0) (.slice p2 r.length c2) s1 r _ _ _ (h1.ext (Xw2.trans (by repeat (first | (with_reducible assumption) | (with_reducible refine Ext.setCell ?_ (by first | (simp; done) | (simp; omega) | omega) _) | (with_reducible apply Ext.alloc) | (with_reducible apply Ext.drew) | (with_reducible apply Ext.drewN) | (with_reducible exact Ext.refl _))))) (h3.ext (Xw2.trans (by repeat (first | (with_reducible assumption) | (with_reducible refine Ext.setCell ?_ (by first | (simp; done) | (simp; omega) | omega) _) | (with_reducible apply Ext.alloc) | (with_reducible apply Ext.drew) | (with_reducible apply Ext.drewN) | (with_reducible exact Ext.refl _))))) (by omega) (by first | omega | exact (vw ha.out).1 | exact (vw ha.out).2.1 | exact (vw ha.out).2.2.1 | exact (vw ha.out).2.2.2) (by first | omega | exact (vw ha.out).1 | exact (vw ha.out).2.1 | exact (vw ha.out).2.2.1 | exact (vw ha.out).2.2.2)).mono ?_
  rintro e w3 ⟨fv4, rfl, i5, -, xw3⟩
  have Lw3 : Ext w2 w3 := Ext.trans (by repeat (first | (with_reducible assumption) | (with_reducible refine Ext.setCell ?_ (by first | (simp; done) | (simp; omega) | omega) _) | (with_reducible apply Ext.alloc) | (with_reducible apply Ext.drew) | (with_reducible apply Ext.drewN) | (with_reducible exact Ext.refl _))) xw3
  have Xw3 : Ext w w3 := Xw2.trans Lw3
  replace b10 := Lw3.cell b10
  replace b11 := Lw3.cell b11
  replace b12 := Lw3.cell b12
  have z_b1 : w.heap.size < w3.heap.size := World.block_lt_of_cell? _ _ b10
  replace i3 := i3.ext Lw3
  have s_w3 : w.heap.size ≤ w3.heap.size := Xw3.size
  clear xw3
  obtain ⟨afv4, cfv4, rfl⟩ := i5.form
  refine hK.out _ _ ⟨b10, b11, b12⟩ (fun hHeld => ?_)
  clear hK K
  try simp only [Act.put, List.setIfInBounds_toArray, List.set_cons_zero, List.set_cons_succ, List.getElem_toArray, List.getElem_cons_succ, List.getElem_cons_zero]
  refine wpTail_one (i := 9) (by kernel_rfl) rfl rfl (fun K hK => ?_)
  try simp only [Act.put, List.setIfInBounds_toArray, List.set_cons_zero, List.set_cons_succ, List.getElem_toArray, List.getElem_cons_succ, List.getElem_cons_zero]
  go_simp
  refine (sameInts_c (offsL b1 s1 t1) (offsL b1 s1 r) (.slice afv2 ((offsL b1 s1 t1).length) cfv2) (.slice afv4 ((offsL b1 s1 r).length) cfv4) _ _ _ (i3.ext (by repeat (first | (with_reducible assumption) | (with_reducible refine Ext.setCell ?_ (by first | (simp; done) | (simp; omega) | omega) _) | (with_reducible apply Ext.alloc) | (with_reducible apply Ext.drew) | (with_reducible apply Ext.drewN) | (with_reducible exact Ext.refl _)))) (i5.ext (by repeat (first | (with_reducible assumption) | (with_reducible refine Ext.setCell ?_ (by first | (simp; done) | (simp; omega) | omega) _) | (with_reducible apply Ext.alloc) | (with_reducible apply Ext.drew) | (with_reducible apply Ext.drewN) | (with_reducible exact Ext.refl _))))).mono ?_
  rintro e w4 ⟨rfl, xw4⟩
  have Lw4 : Ext w3 w4 := Ext.trans (by repeat (first | (with_reducible assumption) | (with_reducible refine Ext.setCell ?_ (by first | (simp; done) | (simp; omega) | omega) _) | (with_reducible apply Ext.alloc) | (with_reducible apply Ext.drew) | (with_reducible apply Ext.drewN) | (with_reducible exact Ext.refl _))) xw4
  have Xw4 : Ext w w4 := Xw3.trans Lw4
  replace b10 := Lw4.cell b10
  replace b11 := Lw4.cell b11
  replace b12 := Lw4.cell b12
  have z_b1 : w.heap.size < w4.heap.size := World.block_lt_of_cell? _ _ b10
  replace i3 := i3.ext Lw4
  replace i5 := i5.ext Lw4
  have s_w4 : w.heap.size ≤ w4.heap.size := Xw4.size
  clear xw4
  cases hB6 : sameB (offsL b1 s1 t1) (offsL b1 s1 r)
  · replace hB6 := Lib.hid hB6
    refine hK.out _ _ ⟨b10, b11, b12⟩ (fun hHeld => ?_)
    clear hK K
    try simp only [Act.put, List.setIfInBounds_toArray, List.set_cons_zero, List.set_cons_succ, List.getElem_toArray, List.getElem_cons_succ, List.getElem_cons_zero]
    refine wpTail_take (i := 10) (v := ?_) rfl (by kernel_rfl) (by kernel_rfl) (by kernel_rfl) rfl (by kernel_rfl) (fun _ _ _ h => h) (Or.inl ⟨by rfl, ?_⟩) (by assumption) ?_
    rotate_left
    · (intro w hSw; (try dsimp only at hSw); go_simp; try with_reducible rfl)
    try simp only [Act.put, List.setIfInBounds_toArray, List.set_cons_zero, List.set_cons_succ, List.getElem_toArray, List.getElem_cons_succ, List.getElem_cons_zero]
    refine wpTail_done (by kernel_rfl) ?_ _
    clear hHeld 
    go_wp2_with fail
    go_ret
    exact ⟨by rw [hB6.out] <;> rfl, (Xw4.trans (by repeat (first | (with_reducible assumption) | (with_reducible refine Ext.setCell ?_ (by first | (simp; done) | (simp; omega) | omega) _) | (with_reducible apply Ext.alloc) | (with_reducible apply Ext.drew) | (with_reducible apply Ext.drewN) | (with_reducible exact Ext.refl _))))⟩
  · replace hB6 := Lib.hid hB6
    refine hK.out _ _ ⟨b10, b11, b12⟩ (fun hHeld => ?_)
    clear hK K
    try simp only [Act.put, List.setIfInBounds_toArray, List.set_cons_zero, List.set_cons_succ, List.getElem_toArray, List.getElem_cons_succ, List.getElem_cons_zero]
    refine wpTail_take (i := 10) (v := ?_) rfl (by kernel_rfl) (by kernel_rfl) (by kernel_rfl) rfl (by kernel_rfl) (fun _ _ _ h => h) (Or.inl ⟨by rfl, ?_⟩) (by assumption) ?_
    rotate_left
    · (intro w hSw; (try dsimp only at hSw); go_simp; try with_reducible rfl)
    try simp only [Act.put, List.setIfInBounds_toArray, List.set_cons_zero, List.set_cons_succ, List.getElem_toArray, List.getElem_cons_succ, List.getElem_cons_zero]
    refine wpTail_done (by kernel_rfl) ?_ _
    clear hHeld 
    go_wp2_with fail
    go_ret
    exact ⟨by rw [hB6.out] <;> rfl, (Xw4.trans (by repeat (first | (with_reducible assumption) | (with_reducible refine Ext.setCell ?_ (by first | (simp; done) | (simp; omega) | omega) _) | (with_reducible apply Ext.alloc) | (with_reducible apply Ext.drew) | (with_reducible apply Ext.drewN) | (with_reducible exact Ext.refl _))))⟩


end Go.Proofs.Ytonnnjaooifpjaa

/- Walks: rows, sums. -/
namespace Go.Proofs.Ytonnnjaooifpjaa
open Go.RowKit
set_option linter.unusedVariables false
set_option maxRecDepth 100000

end Go.Proofs.Ytonnnjaooifpjaa

/- Plain laws: views with their dimensions in another order. -/
namespace Go.Proofs.Ytonnnjaooifpjaa
open Go.RowKit
set_option linter.unusedVariables false
set_option maxRecDepth 100000

theorem perm_of_sub {α : Type} [BEq α] [LawfulBEq α] : ∀ (l m : List α), l.Nodup → m.Nodup → (∀ x ∈ l, x ∈ m) → l.length = m.length → l.Perm m
  | [], m, _, _, _, h => by cases m <;> simp_all
  | a :: l, m, hl, hm, hs, h => by
    have ha : a ∈ m := hs a (by simp)
    have p := List.perm_cons_erase ha
    refine List.Perm.trans ?_ p.symm
    refine List.Perm.cons a (perm_of_sub l (m.erase a) (List.nodup_cons.1 hl).2 (hm.erase a) ?_ ?_)
    · intro x hx
      rw [hm.mem_erase_iff]
      exact ⟨fun e => (List.nodup_cons.1 hl).1 (e ▸ hx), hs x (by simp [hx])⟩
    · have := p.length_eq; simp at this h ⊢; omega
theorem orderB_in {ord : List Int} {n : Nat} (h : orderB ord n = true) : ord.length = n ∧ (∀ x ∈ ord, 0 ≤ x ∧ x < n) ∧ ord.Nodup := by
  unfold orderB at h
  simp only [Bool.and_eq_true, decide_eq_true_eq, List.all_eq_true, inB] at h
  obtain ⟨h1, h2, h3⟩ := h
  exact ⟨by omega, fun x hx => by have := h2 x hx; omega, h3⟩
theorem upL_nodup (n : Nat) : (upL n).Nodup := by
  unfold upL
  rw [List.nodup_iff_pairwise_ne, List.pairwise_map]
  exact (List.nodup_range (n := n)).imp fun h e => h (by omega)
theorem upL_len (n : Nat) : (upL n).length = n := by simp [upL]
theorem order_perm {ord : List Int} {n : Nat} (h : orderB ord n = true) : ord.Perm (upL n) := by
  obtain ⟨h1, h2, h3⟩ := orderB_in h
  exact perm_of_sub _ _ h3 (upL_nodup n) (fun x hx => (upL_mem n x).2 (h2 x hx)) (by rw [h1, upL_len])
theorem order_of {ord : List Int} {n : Nat} (h : ord.Perm (upL n)) : orderB ord n = true := by
  unfold orderB
  simp only [Bool.and_eq_true, decide_eq_true_eq, List.all_eq_true, inB]
  refine ⟨by have := h.length_eq; rw [upL_len] at this; omega, fun x hx => by have := (upL_mem n x).1 (h.mem_iff.1 hx); omega, (h.nodup_iff).2 (upL_nodup n)⟩
theorem order_back (n : Nat) : orderB (upL n).reverse n = true := order_of (List.reverse_perm _)
theorem zip_take (s t ord : List Int) : (takL s ord).zip (takL t ord) = ord.map fun i => (s.getD i.toNat 0, t.getD i.toNat 0) := by
  unfold takL; induction ord with
  | nil => rfl
  | cons a o ih => simp only [List.map_cons, List.zip_cons_cons, ih]
theorem zip_up (s t : List Int) (h : t.length = s.length) : ((upL s.length).map fun i => (s.getD i.toNat 0, t.getD i.toNat 0)) = s.zip t := by
  apply List.ext_getElem
  · simp [upL, h]
  · intro i h1 h2
    simp [upL] at h1 ⊢
    simp [h1, h]
theorem take_up (s : List Int) : takL s (upL s.length) = s := by
  apply List.ext_getElem
  · simp [takL, upL]
  · intro i h1 h2
    simp [takL, upL] at h1 ⊢
    simp [h1]
theorem zip_perm {s t ord : List Int} (h : t.length = s.length) (ho : orderB ord s.length = true) : ((takL s ord).zip (takL t ord)).Perm (s.zip t) := by
  rw [zip_take, ← zip_up s t h]
  exact (order_perm ho).map _
theorem take_perm {s ord : List Int} (ho : orderB ord s.length = true) : (takL s ord).Perm s := by
  have := (order_perm ho).map fun i : Int => s.getD i.toNat 0
  exact this.trans (by have := take_up s; unfold takL at this; rw [this])
theorem prodL_perm {a b : List Int} (h : a.Perm b) : prodL a = prodL b := by
  induction h with
  | nil => rfl
  | cons x _ ih => rw [prodL_cons, prodL_cons, ih]
  | swap x y l => simp only [prodL_cons]; rw [← Int.mul_assoc, ← Int.mul_assoc, Int.mul_comm y x]
  | trans _ _ ih1 ih2 => rw [ih1, ih2]
theorem perm_small {s ord : List Int} (hs : Small s) (ho : orderB ord s.length = true) : Small (takL s ord) :=
  ⟨by rw [takL_len, (orderB_in ho).1]; exact hs.1, fun e he => hs.2 e ((take_perm ho).mem_iff.1 he)⟩
theorem perm_count {s ord : List Int} (hs : Small s) (ho : orderB ord s.length = true) : countL (takL s ord) = countL s := by
  rw [hs.count.1, (perm_small hs ho).count.1, prodL_perm (take_perm ho)]
theorem perm_view {b : Int} {s t ord : List Int} (h : viewB b s t = true) (ho : orderB ord s.length = true) :
    viewB b (takL s ord) (takL t ord) = true ∧ (offsL b (takL s ord) (takL t ord)).Perm (offsL b s t) := by
  have hs := view_small h
  obtain ⟨h1, h2, h3, h4, h5⟩ := viewB_in h
  have hc := shapeB_in h1
  have hl : (takL t ord).length = (takL s ord).length := by rw [takL_len, takL_len]
  have ht : (takL t ord).Perm t := take_perm (by rw [h2]; exact ho)
  have ho' : orderB ord t.length = true := by rw [h2]; exact ho
  have hs' := perm_small hs ho
  have hm := view_mild h
  have hm' : Mild b (takL t ord) := ⟨hm.1, fun x hx => hm.2 x (ht.mem_iff.1 hx)⟩
  have hp : (offsL b (takL s ord) (takL t ord)).Perm (offsL b s t) := by
    rw [offs_C hs' hm', offs_C hs hm, offC_P _ _ _ hl, offC_P _ _ _ h2]
    exact offP_perm b (zip_perm h2 ho)
  refine ⟨viewB_mk (shapeB_mk hs' (by rw [perm_count hs ho]; omega)) hl h3 (fun x hx => h4 x (ht.mem_iff.1 hx)) (fun x hx => h5 x (hp.mem_iff.1 hx)), hp⟩

end Go.Proofs.Ytonnnjaooifpjaa

/- Walks: PermuteDims of the program. -/
namespace Go.Proofs.Ytonnnjaooifpjaa
open Go.RowKit
set_option linter.unusedVariables false
set_option maxRecDepth 100000


def OrdTo (ord : List Int) (n k : Nat) : Prop := (∀ x ∈ ord.take k, 0 ≤ x ∧ x < n) ∧ (ord.take k).Nodup
theorem take_snoc (l : List Int) (k : Nat) (h : k < l.length) : l.take (k+1) = l.take k ++ [l.getD k 0] := by
  rw [List.take_succ_eq_append_getElem h]; simp [h]
theorem OrdTo.zero (ord : List Int) (n : Nat) : OrdTo ord n 0 := ⟨by simp, by simp⟩
theorem OrdTo.succ {ord : List Int} {n k : Nat} (h : OrdTo ord n k) (hk : k < ord.length) {x : Int} (hx : ord.getD k 0 = x) (h1 : 0 ≤ x ∧ x < n) (h2 : hasB (ord.take k) x = false) : OrdTo ord n (k+1) := by
  unfold OrdTo
  rw [take_snoc ord k hk, hx]
  refine ⟨fun y hy => ?_, ?_⟩
  · rcases List.mem_append.1 hy with hy | hy
    · exact h.1 y hy
    · simp at hy; subst hy; exact h1
  · rw [List.nodup_append]
    refine ⟨h.2, by simp, fun y hy z hz e => ?_⟩
    simp at hz; subst hz; subst e
    unfold hasB at h2
    have := List.contains_iff_mem.2 hy
    rw [h2] at this; cases this
theorem ord_yes {ord : List Int} {n : Nat} (hl : ord.length = n) (h : OrdTo ord n ord.length) : orderB ord n = true := by
  unfold OrdTo at h
  rw [List.take_length] at h
  unfold orderB
  simp only [Bool.and_eq_true, decide_eq_true_eq, List.all_eq_true, inB]
  exact ⟨by omega, fun x hx => by have := h.1 x hx; omega, h.2⟩
theorem ord_no {ord : List Int} {n k : Nat} (hk : k < ord.length) {x : Int} (hx : ord.getD k 0 = x) (h : x < 0 ∨ (n : Int) ≤ x ∨ hasB (ord.take k) x = true) : orderB ord n = false := by
  cases hb : orderB ord n with
  | false => rfl
  | true =>
    obtain ⟨h1, h2, h3⟩ := orderB_in hb
    have hm : x ∈ ord := hx ▸ getD_mem hk
    have := h2 x hm
    rcases h with h | h | h
    · omega
    · omega
    · unfold hasB at h
      have h4 := List.contains_iff_mem.1 h
      have h5 : (ord.take (k+1)).Nodup := h3.sublist (List.take_sublist _ _)
      rw [take_snoc ord k hk, hx, List.nodup_append] at h5
      exact absurd rfl (h5.2.2 x h4 x (by simp))
theorem ord_len {ord : List Int} {n : Nat} (h : ¬ (ord.length : Int) = n) : orderB ord n = false := by
  unfold orderB; simp [h]

set_option maxHeartbeats 3200000 in
theorem implPermuteDims_c (b1 : Int) (u1 v1 : Value) (s1 t1 : List Int) (v3 : Value) (ord : List Int) (w : World) (l1 m1 : Nat) (h1 : Ints w l1 u1 s1) (k1 : Ints w m1 v1 t1) (l3 : Nat) (h3 : Ints w l3 v3 ord) :
    Calls Try.prog 19 #[.agg #[.int .i64 b1, u1, v1], v3] w (PVB w (permV b1 s1 t1 ord)) := by
  obtain ⟨p0, c0, rfl⟩ := h1.form
  obtain ⟨p1, c1, rfl⟩ := k1.form
  obtain ⟨p2, c2, rfl⟩ := h3.form
  go_enter Try.func19, Try.ntmps19
  go_wp2_with fail
  refine (isView_c b1 (.slice p0 s1.length c0) (.slice p1 t1.length c1) s1 t1 _ _ _ (h1.ext (by repeat (first | (with_reducible assumption) | (with_reducible refine Ext.setCell ?_ (by first | (simp; done) | (simp; omega) | omega) _) | (with_reducible apply Ext.alloc) | (with_reducible apply Ext.drew) | (with_reducible apply Ext.drewN) | (with_reducible exact Ext.refl _)))) (k1.ext (by repeat (first | (with_reducible assumption) | (with_reducible refine Ext.setCell ?_ (by first | (simp; done) | (simp; omega) | omega) _) | (with_reducible apply Ext.alloc) | (with_reducible apply Ext.drew) | (with_reducible apply Ext.drewN) | (with_reducible exact Ext.refl _))))).mono ?_
  rintro e w1 ⟨rfl, xw1⟩
  have Lw1 : Ext w w1 := Ext.trans (by repeat (first | (with_reducible assumption) | (with_reducible refine Ext.setCell ?_ (by first | (simp; done) | (simp; omega) | omega) _) | (with_reducible apply Ext.alloc) | (with_reducible apply Ext.drew) | (with_reducible apply Ext.drewN) | (with_reducible exact Ext.refl _))) xw1
  have Xw1 : Ext w w1 := Lw1
  have b10 : w1.cell? ⟨w.heap.size, 0, none⟩ = some (.int .i64 b1) := xw1.cell (by first | (simp; done) | ((repeat rw [World.cell?_alloc_lt _ _ _ (by simp <;> omega)]); simp; done) | (go_simp; done))
  have b11 : w1.cell? ⟨w.heap.size, 1, none⟩ = some (.slice p0 s1.length c0) := xw1.cell (by first | (simp; done) | ((repeat rw [World.cell?_alloc_lt _ _ _ (by simp <;> omega)]); simp; done) | (go_simp; done))
  have b12 : w1.cell? ⟨w.heap.size, 2, none⟩ = some (.slice p1 t1.length c1) := xw1.cell (by first | (simp; done) | ((repeat rw [World.cell?_alloc_lt _ _ _ (by simp <;> omega)]); simp; done) | (go_simp; done))
  have b20 : w1.cell? ⟨w.heap.size + 1, 0, none⟩ = some (.int .i64 0) := xw1.cell (by first | (simp; done) | ((repeat rw [World.cell?_alloc_lt _ _ _ (by simp <;> omega)]); simp; done) | (go_simp; done))
  have b21 : w1.cell? ⟨w.heap.size + 1, 1, none⟩ = some (.slice none 0 0) := xw1.cell (by first | (simp; done) | ((repeat rw [World.cell?_alloc_lt _ _ _ (by simp <;> omega)]); simp; done) | (go_simp; done))
  have b22 : w1.cell? ⟨w.heap.size + 1, 2, none⟩ = some (.slice none 0 0) := xw1.cell (by first | (simp; done) | ((repeat rw [World.cell?_alloc_lt _ _ _ (by simp <;> omega)]); simp; done) | (go_simp; done))
  have f_b20 : w1.frozen? ⟨w.heap.size + 1, 0, none⟩ = false := xw1.frz (by simp <;> omega) (by first | (simp; done) | (go_simp; done))
  have f_b21 : w1.frozen? ⟨w.heap.size + 1, 1, none⟩ = false := xw1.frz (by simp <;> omega) (by first | (simp; done) | (go_simp; done))
  have f_b22 : w1.frozen? ⟨w.heap.size + 1, 2, none⟩ = false := xw1.frz (by simp <;> omega) (by first | (simp; done) | (go_simp; done))
  have z_b1 : w.heap.size < w1.heap.size := World.block_lt_of_cell? _ _ b10
  have z_b2 : w.heap.size + 1 < w1.heap.size := World.block_lt_of_cell? _ _ b20
  have s_w1 : w.heap.size ≤ w1.heap.size := Xw1.size
  clear xw1
  cases hB3 : viewB b1 s1 t1
  · replace hB3 := Lib.hid hB3
    go_wp2_with fail
    have Kw2 : Chg (w.heap.size + 1) (w.heap.size + 1 + 1) w1 (((w1.setCell ⟨w.heap.size + 1, 0, none⟩ (.int .i64 0)).setCell ⟨w.heap.size + 1, 1, none⟩ (.slice none 0 0)).setCell ⟨w.heap.size + 1, 2, none⟩ (.slice none 0 0)) := (Chg.setCell (p := ⟨w.heap.size + 1, 2, none⟩) (Chg.setCell (p := ⟨w.heap.size + 1, 1, none⟩) (Chg.setCell (p := ⟨w.heap.size + 1, 0, none⟩) (Chg.refl (w.heap.size + 1) (w.heap.size + 1 + 1) _) (Nat.le_refl _) (Nat.lt_succ_self _) (.int .i64 0)) (Nat.le_refl _) (Nat.lt_succ_self _) (.slice none 0 0)) (Nat.le_refl _) (Nat.lt_succ_self _) (.slice none 0 0))
    have Xw2 : Ext w (((w1.setCell ⟨w.heap.size + 1, 0, none⟩ (.int .i64 0)).setCell ⟨w.heap.size + 1, 1, none⟩ (.slice none 0 0)).setCell ⟨w.heap.size + 1, 2, none⟩ (.slice none 0 0)) := (Ext.setCell (p := ⟨w.heap.size + 1, 2, none⟩) (Ext.setCell (p := ⟨w.heap.size + 1, 1, none⟩) (Ext.setCell (p := ⟨w.heap.size + 1, 0, none⟩) Xw1 (by first | (simp; done) | (simp; omega) | omega) (.int .i64 0)) (by first | (simp; done) | (simp; omega) | omega) (.slice none 0 0)) (by first | (simp; done) | (simp; omega) | omega) (.slice none 0 0))
    replace b10 := Kw2.cell (by omega) b10
    replace b11 := Kw2.cell (by omega) b11
    replace b12 := Kw2.cell (by omega) b12
    have n_b20 : (((w1.setCell ⟨w.heap.size + 1, 0, none⟩ (.int .i64 0)).setCell ⟨w.heap.size + 1, 1, none⟩ (.slice none 0 0)).setCell ⟨w.heap.size + 1, 2, none⟩ (.slice none 0 0)).cell? ⟨w.heap.size + 1, 0, none⟩ = some (.int .i64 0) := by go_simp
    have n_f_b20 : (((w1.setCell ⟨w.heap.size + 1, 0, none⟩ (.int .i64 0)).setCell ⟨w.heap.size + 1, 1, none⟩ (.slice none 0 0)).setCell ⟨w.heap.size + 1, 2, none⟩ (.slice none 0 0)).frozen? ⟨w.heap.size + 1, 0, none⟩ = false := by go_simp
    have n_b21 : (((w1.setCell ⟨w.heap.size + 1, 0, none⟩ (.int .i64 0)).setCell ⟨w.heap.size + 1, 1, none⟩ (.slice none 0 0)).setCell ⟨w.heap.size + 1, 2, none⟩ (.slice none 0 0)).cell? ⟨w.heap.size + 1, 1, none⟩ = some (.slice none 0 0) := by go_simp
    have n_f_b21 : (((w1.setCell ⟨w.heap.size + 1, 0, none⟩ (.int .i64 0)).setCell ⟨w.heap.size + 1, 1, none⟩ (.slice none 0 0)).setCell ⟨w.heap.size + 1, 2, none⟩ (.slice none 0 0)).frozen? ⟨w.heap.size + 1, 1, none⟩ = false := by go_simp
    have n_b22 : (((w1.setCell ⟨w.heap.size + 1, 0, none⟩ (.int .i64 0)).setCell ⟨w.heap.size + 1, 1, none⟩ (.slice none 0 0)).setCell ⟨w.heap.size + 1, 2, none⟩ (.slice none 0 0)).cell? ⟨w.heap.size + 1, 2, none⟩ = some (.slice none 0 0) := by go_simp
    have n_f_b22 : (((w1.setCell ⟨w.heap.size + 1, 0, none⟩ (.int .i64 0)).setCell ⟨w.heap.size + 1, 1, none⟩ (.slice none 0 0)).setCell ⟨w.heap.size + 1, 2, none⟩ (.slice none 0 0)).frozen? ⟨w.heap.size + 1, 2, none⟩ = false := by go_simp
    replace b20 := n_b20
    clear n_b20
    replace f_b20 := n_f_b20
    clear n_f_b20
    replace b21 := n_b21
    clear n_b21
    replace f_b21 := n_f_b21
    clear n_f_b21
    replace b22 := n_b22
    clear n_b22
    replace f_b22 := n_f_b22
    clear n_f_b22
    clear Kw2
    have z_b1 : w.heap.size < (((w1.setCell ⟨w.heap.size + 1, 0, none⟩ (.int .i64 0)).setCell ⟨w.heap.size + 1, 1, none⟩ (.slice none 0 0)).setCell ⟨w.heap.size + 1, 2, none⟩ (.slice none 0 0)).heap.size := World.block_lt_of_cell? _ _ b10
    have z_b2 : w.heap.size + 1 < (((w1.setCell ⟨w.heap.size + 1, 0, none⟩ (.int .i64 0)).setCell ⟨w.heap.size + 1, 1, none⟩ (.slice none 0 0)).setCell ⟨w.heap.size + 1, 2, none⟩ (.slice none 0 0)).heap.size := World.block_lt_of_cell? _ _ b20
    have s_w2 : w.heap.size ≤ (((w1.setCell ⟨w.heap.size + 1, 0, none⟩ (.int .i64 0)).setCell ⟨w.heap.size + 1, 1, none⟩ (.slice none 0 0)).setCell ⟨w.heap.size + 1, 2, none⟩ (.slice none 0 0)).heap.size := Xw2.size
    generalize (((w1.setCell ⟨w.heap.size + 1, 0, none⟩ (.int .i64 0)).setCell ⟨w.heap.size + 1, 1, none⟩ (.slice none 0 0)).setCell ⟨w.heap.size + 1, 2, none⟩ (.slice none 0 0)) = w2 at *
    refine bodyPost_ret (v := .tuple #[.agg #[.int .i64 0, .slice none 0 0, .slice none 0 0], .bool false]) (by simp only [results, Try.results19]; go_simp) rfl ?_
    rw [show permV b1 s1 t1 ord = noV by unfold permV; rw [hB3.out, Bool.false_and] <;> rfl]
    exact PViewB.no (Xw2.trans (by repeat (first | (with_reducible assumption) | (with_reducible refine Ext.setCell ?_ (by first | (simp; done) | (simp; omega) | omega) _) | (with_reducible apply Ext.alloc) | (with_reducible apply Ext.drew) | (with_reducible apply Ext.drewN) | (with_reducible exact Ext.refl _))))
  · replace hB3 := Lib.hid hB3
    by_cases hc4 : (ord.length : Int) = (s1.length : Int)
    · have hc4e : ((ord.length : Int) == (s1.length : Int)) = true := by simpa using hc4
      have hc4n : ((ord.length : Int) != (s1.length : Int)) = false := by simpa using hc4
      replace hc4 := Lib.hid hc4
      go_wp2_with fail
      have Lw2 : Ext w1 (w1.alloc (.cells #[.int .i64 b1, .slice none 0 0, .slice none 0 0] 25)) := (by repeat (first | (with_reducible assumption) | (with_reducible refine Ext.setCell ?_ (by first | (simp; done) | (simp; omega) | omega) _) | (with_reducible apply Ext.alloc) | (with_reducible apply Ext.drew) | (with_reducible apply Ext.drewN) | (with_reducible exact Ext.refl _)))
      have Xw2 : Ext w (w1.alloc (.cells #[.int .i64 b1, .slice none 0 0, .slice none 0 0] 25)) := Xw1.trans Lw2
      replace b10 := Lw2.cell b10
      replace b11 := Lw2.cell b11
      replace b12 := Lw2.cell b12
      replace b20 := Lw2.cell b20
      replace b21 := Lw2.cell b21
      replace b22 := Lw2.cell b22
      replace f_b20 := Lw2.frz z_b2 f_b20
      replace f_b21 := Lw2.frz z_b2 f_b21
      replace f_b22 := Lw2.frz z_b2 f_b22
      have b50 : (w1.alloc (.cells #[.int .i64 b1, .slice none 0 0, .slice none 0 0] 25)).cell? ⟨w1.heap.size, 0, none⟩ = some (.int .i64 b1) := (by first | (simp; done) | ((repeat rw [World.cell?_alloc_lt _ _ _ (by simp <;> omega)]); simp; done) | (go_simp; done))
      have b51 : (w1.alloc (.cells #[.int .i64 b1, .slice none 0 0, .slice none 0 0] 25)).cell? ⟨w1.heap.size, 1, none⟩ = some (.slice none 0 0) := (by first | (simp; done) | ((repeat rw [World.cell?_alloc_lt _ _ _ (by simp <;> omega)]); simp; done) | (go_simp; done))
      have b52 : (w1.alloc (.cells #[.int .i64 b1, .slice none 0 0, .slice none 0 0] 25)).cell? ⟨w1.heap.size, 2, none⟩ = some (.slice none 0 0) := (by first | (simp; done) | ((repeat rw [World.cell?_alloc_lt _ _ _ (by simp <;> omega)]); simp; done) | (go_simp; done))
      have f_b50 : (w1.alloc (.cells #[.int .i64 b1, .slice none 0 0, .slice none 0 0] 25)).frozen? ⟨w1.heap.size, 0, none⟩ = false := (by first | (simp; done) | (go_simp; done))
      have f_b51 : (w1.alloc (.cells #[.int .i64 b1, .slice none 0 0, .slice none 0 0] 25)).frozen? ⟨w1.heap.size, 1, none⟩ = false := (by first | (simp; done) | (go_simp; done))
      have f_b52 : (w1.alloc (.cells #[.int .i64 b1, .slice none 0 0, .slice none 0 0] 25)).frozen? ⟨w1.heap.size, 2, none⟩ = false := (by first | (simp; done) | (go_simp; done))
      have z_b1 : w.heap.size < (w1.alloc (.cells #[.int .i64 b1, .slice none 0 0, .slice none 0 0] 25)).heap.size := World.block_lt_of_cell? _ _ b10
      have z_b2 : w.heap.size + 1 < (w1.alloc (.cells #[.int .i64 b1, .slice none 0 0, .slice none 0 0] 25)).heap.size := World.block_lt_of_cell? _ _ b20
      have z_b5 : w1.heap.size < (w1.alloc (.cells #[.int .i64 b1, .slice none 0 0, .slice none 0 0] 25)).heap.size := World.block_lt_of_cell? _ _ b50
      have s_w2 : w.heap.size ≤ (w1.alloc (.cells #[.int .i64 b1, .slice none 0 0, .slice none 0 0] 25)).heap.size := Xw2.size
      generalize w1.alloc (.cells #[.int .i64 b1, .slice none 0 0, .slice none 0 0] 25) = w2 at *
      have hol : ord.length ≤ 4 := by have := (vw hB3.out).2.2.2.1; have := hc4.out; omega
      have hst : s1.length ≤ t1.length := (vw hB3.out).1
      have hos : ord.length = s1.length := by have := hc4.out; omega
      replace hos := Lib.hid hos
      have yE_b1 := z_b1
      have yE_b2 := z_b2
      have yE_b5 := z_b5
      go_loopw [7, 8, 26] (fun x y i wr => ∃ (k : Nat) (pr1 pr2 : Value), k ≤ ord.length ∧ i = .int .i64 k ∧ Hid (OrdTo ord s1.length k) ∧ Two (w2.heap.size) wr pr1 pr2 (takL s1 (ord.take k)) (takL t1 (ord.take k)) ∧ Ext w wr ∧ wr.cell? ⟨w.heap.size, 0, none⟩ = some (.int .i64 b1) ∧ wr.cell? ⟨w.heap.size, 1, none⟩ = some (.slice p0 s1.length c0) ∧ wr.cell? ⟨w.heap.size, 2, none⟩ = some (.slice p1 t1.length c1) ∧ wr.cell? ⟨w.heap.size + 1, 0, none⟩ = some (.int .i64 0) ∧ wr.cell? ⟨w.heap.size + 1, 1, none⟩ = some (.slice none 0 0) ∧ wr.cell? ⟨w.heap.size + 1, 2, none⟩ = some (.slice none 0 0) ∧ wr.frozen? ⟨w.heap.size + 1, 0, none⟩ = false ∧ wr.frozen? ⟨w.heap.size + 1, 1, none⟩ = false ∧ wr.frozen? ⟨w.heap.size + 1, 2, none⟩ = false ∧ wr.cell? ⟨w1.heap.size, 0, none⟩ = some (.int .i64 b1) ∧ wr.cell? ⟨w1.heap.size, 1, none⟩ = some (pr1) ∧ wr.cell? ⟨w1.heap.size, 2, none⟩ = some (pr2) ∧ wr.frozen? ⟨w1.heap.size, 0, none⟩ = false ∧ wr.frozen? ⟨w1.heap.size, 1, none⟩ = false ∧ wr.frozen? ⟨w1.heap.size, 2, none⟩ = false) (fun x y i _ => ord.length - (intOf i).toNat)
      case atStart => exact ⟨0, _, _, Nat.zero_le _, rfl, Lib.hid (OrdTo.zero _ _), by simpa [takL] using Two.nil (by omega), (Xw2.trans (by repeat (first | (with_reducible assumption) | (with_reducible refine Ext.setCell ?_ (by first | (simp; done) | (simp; omega) | omega) _) | (with_reducible apply Ext.alloc) | (with_reducible apply Ext.drew) | (with_reducible apply Ext.drewN) | (with_reducible exact Ext.refl _)))), b10, b11, b12, b20, b21, b22, f_b20, f_b21, f_b22, b50, b51, b52, f_b50, f_b51, f_b52⟩
      case round =>
        obtain ⟨k, pr1, pr2, hk, rfl, hok, T, Xr, b10, b11, b12, b20, b21, b22, f_b20, f_b21, f_b22, b50, b51, b52, f_b50, f_b51, f_b52⟩ := hrel
        have hTs := T.size
        have z_b1 : w.heap.size < wr.heap.size := World.block_lt_of_cell? _ _ b10
        have z_b2 : w.heap.size + 1 < wr.heap.size := World.block_lt_of_cell? _ _ b20
        have z_b5 : w1.heap.size < wr.heap.size := World.block_lt_of_cell? _ _ b50
        by_cases hlt : k < ord.length
        · have hkI : (k : Int) < ord.length := by omega
          have hs1 := takL_take s1 ord k hlt
          have hs2 := takL_take t1 ord k hlt
          rw [← getD_get hlt] at hs1 hs2
          have tl1 : (takL s1 (ord.take k)).length = k := by rw [takL_len, List.length_take]; omega
          have tl2 : (takL t1 (ord.take k)).length = k := by rw [takL_len, List.length_take]; omega
          replace tl1 := Lib.hid tl1
          replace tl2 := Lib.hid tl2
          have hN_e8 : k < ord.length := (by omega)
          have hI_e8 : (k : Int) < (ord.length : Int) := by omega
          obtain ⟨bl6, ol7, rfl, e80⟩ := h3.at k (by omega)
          have y_e8 : bl6 < w.heap.size := World.block_lt_of_cell? _ _ e80
          replace e80 := Xr.cell e80
          obtain ⟨v9, hv9⟩ : ∃ v, ord.getD k 0 = v := ⟨_, rfl⟩
          rw [hv9] at e80
          replace hv9 := Lib.hid hv9
          have z_e8 : bl6 < wr.heap.size := World.block_lt_of_cell? _ _ e80
          by_cases hc10 : (v9 : Int) < (0 : Int)
          · go_wp2_with fail
            have Kw3 : Chg (w.heap.size + 1) (w.heap.size + 1 + 1) wr (((wr.setCell ⟨w.heap.size + 1, 0, none⟩ (.int .i64 0)).setCell ⟨w.heap.size + 1, 1, none⟩ (.slice none 0 0)).setCell ⟨w.heap.size + 1, 2, none⟩ (.slice none 0 0)) := (Chg.setCell (p := ⟨w.heap.size + 1, 2, none⟩) (Chg.setCell (p := ⟨w.heap.size + 1, 1, none⟩) (Chg.setCell (p := ⟨w.heap.size + 1, 0, none⟩) (Chg.refl (w.heap.size + 1) (w.heap.size + 1 + 1) _) (Nat.le_refl _) (Nat.lt_succ_self _) (.int .i64 0)) (Nat.le_refl _) (Nat.lt_succ_self _) (.slice none 0 0)) (Nat.le_refl _) (Nat.lt_succ_self _) (.slice none 0 0))
            have Xw3 : Ext w (((wr.setCell ⟨w.heap.size + 1, 0, none⟩ (.int .i64 0)).setCell ⟨w.heap.size + 1, 1, none⟩ (.slice none 0 0)).setCell ⟨w.heap.size + 1, 2, none⟩ (.slice none 0 0)) := (Ext.setCell (p := ⟨w.heap.size + 1, 2, none⟩) (Ext.setCell (p := ⟨w.heap.size + 1, 1, none⟩) (Ext.setCell (p := ⟨w.heap.size + 1, 0, none⟩) Xr (by first | (simp; done) | (simp; omega) | omega) (.int .i64 0)) (by first | (simp; done) | (simp; omega) | omega) (.slice none 0 0)) (by first | (simp; done) | (simp; omega) | omega) (.slice none 0 0))
            replace b10 := Kw3.cell (by omega) b10
            replace b11 := Kw3.cell (by omega) b11
            replace b12 := Kw3.cell (by omega) b12
            have n_b20 : (((wr.setCell ⟨w.heap.size + 1, 0, none⟩ (.int .i64 0)).setCell ⟨w.heap.size + 1, 1, none⟩ (.slice none 0 0)).setCell ⟨w.heap.size + 1, 2, none⟩ (.slice none 0 0)).cell? ⟨w.heap.size + 1, 0, none⟩ = some (.int .i64 0) := by go_simp
            have n_f_b20 : (((wr.setCell ⟨w.heap.size + 1, 0, none⟩ (.int .i64 0)).setCell ⟨w.heap.size + 1, 1, none⟩ (.slice none 0 0)).setCell ⟨w.heap.size + 1, 2, none⟩ (.slice none 0 0)).frozen? ⟨w.heap.size + 1, 0, none⟩ = false := by go_simp
            have n_b21 : (((wr.setCell ⟨w.heap.size + 1, 0, none⟩ (.int .i64 0)).setCell ⟨w.heap.size + 1, 1, none⟩ (.slice none 0 0)).setCell ⟨w.heap.size + 1, 2, none⟩ (.slice none 0 0)).cell? ⟨w.heap.size + 1, 1, none⟩ = some (.slice none 0 0) := by go_simp
            have n_f_b21 : (((wr.setCell ⟨w.heap.size + 1, 0, none⟩ (.int .i64 0)).setCell ⟨w.heap.size + 1, 1, none⟩ (.slice none 0 0)).setCell ⟨w.heap.size + 1, 2, none⟩ (.slice none 0 0)).frozen? ⟨w.heap.size + 1, 1, none⟩ = false := by go_simp
            have n_b22 : (((wr.setCell ⟨w.heap.size + 1, 0, none⟩ (.int .i64 0)).setCell ⟨w.heap.size + 1, 1, none⟩ (.slice none 0 0)).setCell ⟨w.heap.size + 1, 2, none⟩ (.slice none 0 0)).cell? ⟨w.heap.size + 1, 2, none⟩ = some (.slice none 0 0) := by go_simp
            have n_f_b22 : (((wr.setCell ⟨w.heap.size + 1, 0, none⟩ (.int .i64 0)).setCell ⟨w.heap.size + 1, 1, none⟩ (.slice none 0 0)).setCell ⟨w.heap.size + 1, 2, none⟩ (.slice none 0 0)).frozen? ⟨w.heap.size + 1, 2, none⟩ = false := by go_simp
            replace b20 := n_b20
            clear n_b20
            replace f_b20 := n_f_b20
            clear n_f_b20
            replace b21 := n_b21
            clear n_b21
            replace f_b21 := n_f_b21
            clear n_f_b21
            replace b22 := n_b22
            clear n_b22
            replace f_b22 := n_f_b22
            clear n_f_b22
            replace b50 := Kw3.cell (by omega) b50
            replace f_b50 := Kw3.frzO (by omega) z_b5 f_b50
            replace b51 := Kw3.cell (by omega) b51
            replace f_b51 := Kw3.frzO (by omega) z_b5 f_b51
            replace b52 := Kw3.cell (by omega) b52
            replace f_b52 := Kw3.frzO (by omega) z_b5 f_b52
            replace e80 := Kw3.cell (by omega) e80
            replace T := T.chg Kw3 (by omega)
            clear Kw3
            have z_b1 : w.heap.size < (((wr.setCell ⟨w.heap.size + 1, 0, none⟩ (.int .i64 0)).setCell ⟨w.heap.size + 1, 1, none⟩ (.slice none 0 0)).setCell ⟨w.heap.size + 1, 2, none⟩ (.slice none 0 0)).heap.size := World.block_lt_of_cell? _ _ b10
            have z_b2 : w.heap.size + 1 < (((wr.setCell ⟨w.heap.size + 1, 0, none⟩ (.int .i64 0)).setCell ⟨w.heap.size + 1, 1, none⟩ (.slice none 0 0)).setCell ⟨w.heap.size + 1, 2, none⟩ (.slice none 0 0)).heap.size := World.block_lt_of_cell? _ _ b20
            have z_b5 : w1.heap.size < (((wr.setCell ⟨w.heap.size + 1, 0, none⟩ (.int .i64 0)).setCell ⟨w.heap.size + 1, 1, none⟩ (.slice none 0 0)).setCell ⟨w.heap.size + 1, 2, none⟩ (.slice none 0 0)).heap.size := World.block_lt_of_cell? _ _ b50
            have z_e8 : bl6 < (((wr.setCell ⟨w.heap.size + 1, 0, none⟩ (.int .i64 0)).setCell ⟨w.heap.size + 1, 1, none⟩ (.slice none 0 0)).setCell ⟨w.heap.size + 1, 2, none⟩ (.slice none 0 0)).heap.size := World.block_lt_of_cell? _ _ e80
            have s_w3 : w.heap.size ≤ (((wr.setCell ⟨w.heap.size + 1, 0, none⟩ (.int .i64 0)).setCell ⟨w.heap.size + 1, 1, none⟩ (.slice none 0 0)).setCell ⟨w.heap.size + 1, 2, none⟩ (.slice none 0 0)).heap.size := Xw3.size
            generalize (((wr.setCell ⟨w.heap.size + 1, 0, none⟩ (.int .i64 0)).setCell ⟨w.heap.size + 1, 1, none⟩ (.slice none 0 0)).setCell ⟨w.heap.size + 1, 2, none⟩ (.slice none 0 0)) = w3 at *
            refine bodyPost_ret (v := .tuple #[.agg #[.int .i64 0, .slice none 0 0, .slice none 0 0], .bool false]) (by simp only [results, Try.results19]; go_simp) rfl ?_
            rw [show permV b1 s1 t1 ord = noV by unfold permV; rw [hB3.out, ord_no hlt hv9.out (by have := hc4.out; omega), Bool.and_false] <;> rfl]
            exact PViewB.no (Xw3.trans (by repeat (first | (with_reducible assumption) | (with_reducible refine Ext.setCell ?_ (by first | (simp; done) | (simp; omega) | omega) _) | (with_reducible apply Ext.alloc) | (with_reducible apply Ext.drew) | (with_reducible apply Ext.drewN) | (with_reducible exact Ext.refl _))))
          · by_cases hc11 : (ord.length : Int) ≤ (v9 : Int)
            · go_wp2_with fail
              have Kw3 : Chg (w.heap.size + 1) (w.heap.size + 1 + 1) wr (((wr.setCell ⟨w.heap.size + 1, 0, none⟩ (.int .i64 0)).setCell ⟨w.heap.size + 1, 1, none⟩ (.slice none 0 0)).setCell ⟨w.heap.size + 1, 2, none⟩ (.slice none 0 0)) := (Chg.setCell (p := ⟨w.heap.size + 1, 2, none⟩) (Chg.setCell (p := ⟨w.heap.size + 1, 1, none⟩) (Chg.setCell (p := ⟨w.heap.size + 1, 0, none⟩) (Chg.refl (w.heap.size + 1) (w.heap.size + 1 + 1) _) (Nat.le_refl _) (Nat.lt_succ_self _) (.int .i64 0)) (Nat.le_refl _) (Nat.lt_succ_self _) (.slice none 0 0)) (Nat.le_refl _) (Nat.lt_succ_self _) (.slice none 0 0))
              have Xw3 : Ext w (((wr.setCell ⟨w.heap.size + 1, 0, none⟩ (.int .i64 0)).setCell ⟨w.heap.size + 1, 1, none⟩ (.slice none 0 0)).setCell ⟨w.heap.size + 1, 2, none⟩ (.slice none 0 0)) := (Ext.setCell (p := ⟨w.heap.size + 1, 2, none⟩) (Ext.setCell (p := ⟨w.heap.size + 1, 1, none⟩) (Ext.setCell (p := ⟨w.heap.size + 1, 0, none⟩) Xr (by first | (simp; done) | (simp; omega) | omega) (.int .i64 0)) (by first | (simp; done) | (simp; omega) | omega) (.slice none 0 0)) (by first | (simp; done) | (simp; omega) | omega) (.slice none 0 0))
              replace b10 := Kw3.cell (by omega) b10
              replace b11 := Kw3.cell (by omega) b11
              replace b12 := Kw3.cell (by omega) b12
              have n_b20 : (((wr.setCell ⟨w.heap.size + 1, 0, none⟩ (.int .i64 0)).setCell ⟨w.heap.size + 1, 1, none⟩ (.slice none 0 0)).setCell ⟨w.heap.size + 1, 2, none⟩ (.slice none 0 0)).cell? ⟨w.heap.size + 1, 0, none⟩ = some (.int .i64 0) := by go_simp
              have n_f_b20 : (((wr.setCell ⟨w.heap.size + 1, 0, none⟩ (.int .i64 0)).setCell ⟨w.heap.size + 1, 1, none⟩ (.slice none 0 0)).setCell ⟨w.heap.size + 1, 2, none⟩ (.slice none 0 0)).frozen? ⟨w.heap.size + 1, 0, none⟩ = false := by go_simp
              have n_b21 : (((wr.setCell ⟨w.heap.size + 1, 0, none⟩ (.int .i64 0)).setCell ⟨w.heap.size + 1, 1, none⟩ (.slice none 0 0)).setCell ⟨w.heap.size + 1, 2, none⟩ (.slice none 0 0)).cell? ⟨w.heap.size + 1, 1, none⟩ = some (.slice none 0 0) := by go_simp
              have n_f_b21 : (((wr.setCell ⟨w.heap.size + 1, 0, none⟩ (.int .i64 0)).setCell ⟨w.heap.size + 1, 1, none⟩ (.slice none 0 0)).setCell ⟨w.heap.size + 1, 2, none⟩ (.slice none 0 0)).frozen? ⟨w.heap.size + 1, 1, none⟩ = false := by go_simp
              have n_b22 : (((wr.setCell ⟨w.heap.size + 1, 0, none⟩ (.int .i64 0)).setCell ⟨w.heap.size + 1, 1, none⟩ (.slice none 0 0)).setCell ⟨w.heap.size + 1, 2, none⟩ (.slice none 0 0)).cell? ⟨w.heap.size + 1, 2, none⟩ = some (.slice none 0 0) := by go_simp
              have n_f_b22 : (((wr.setCell ⟨w.heap.size + 1, 0, none⟩ (.int .i64 0)).setCell ⟨w.heap.size + 1, 1, none⟩ (.slice none 0 0)).setCell ⟨w.heap.size + 1, 2, none⟩ (.slice none 0 0)).frozen? ⟨w.heap.size + 1, 2, none⟩ = false := by go_simp
              replace b20 := n_b20
              clear n_b20
              replace f_b20 := n_f_b20
              clear n_f_b20
              replace b21 := n_b21
              clear n_b21
              replace f_b21 := n_f_b21
              clear n_f_b21
              replace b22 := n_b22
              clear n_b22
              replace f_b22 := n_f_b22
              clear n_f_b22
              replace b50 := Kw3.cell (by omega) b50
              replace f_b50 := Kw3.frzO (by omega) z_b5 f_b50
              replace b51 := Kw3.cell (by omega) b51
              replace f_b51 := Kw3.frzO (by omega) z_b5 f_b51
              replace b52 := Kw3.cell (by omega) b52
              replace f_b52 := Kw3.frzO (by omega) z_b5 f_b52
              replace e80 := Kw3.cell (by omega) e80
              replace T := T.chg Kw3 (by omega)
              clear Kw3
              have z_b1 : w.heap.size < (((wr.setCell ⟨w.heap.size + 1, 0, none⟩ (.int .i64 0)).setCell ⟨w.heap.size + 1, 1, none⟩ (.slice none 0 0)).setCell ⟨w.heap.size + 1, 2, none⟩ (.slice none 0 0)).heap.size := World.block_lt_of_cell? _ _ b10
              have z_b2 : w.heap.size + 1 < (((wr.setCell ⟨w.heap.size + 1, 0, none⟩ (.int .i64 0)).setCell ⟨w.heap.size + 1, 1, none⟩ (.slice none 0 0)).setCell ⟨w.heap.size + 1, 2, none⟩ (.slice none 0 0)).heap.size := World.block_lt_of_cell? _ _ b20
              have z_b5 : w1.heap.size < (((wr.setCell ⟨w.heap.size + 1, 0, none⟩ (.int .i64 0)).setCell ⟨w.heap.size + 1, 1, none⟩ (.slice none 0 0)).setCell ⟨w.heap.size + 1, 2, none⟩ (.slice none 0 0)).heap.size := World.block_lt_of_cell? _ _ b50
              have z_e8 : bl6 < (((wr.setCell ⟨w.heap.size + 1, 0, none⟩ (.int .i64 0)).setCell ⟨w.heap.size + 1, 1, none⟩ (.slice none 0 0)).setCell ⟨w.heap.size + 1, 2, none⟩ (.slice none 0 0)).heap.size := World.block_lt_of_cell? _ _ e80
              have s_w3 : w.heap.size ≤ (((wr.setCell ⟨w.heap.size + 1, 0, none⟩ (.int .i64 0)).setCell ⟨w.heap.size + 1, 1, none⟩ (.slice none 0 0)).setCell ⟨w.heap.size + 1, 2, none⟩ (.slice none 0 0)).heap.size := Xw3.size
              generalize (((wr.setCell ⟨w.heap.size + 1, 0, none⟩ (.int .i64 0)).setCell ⟨w.heap.size + 1, 1, none⟩ (.slice none 0 0)).setCell ⟨w.heap.size + 1, 2, none⟩ (.slice none 0 0)) = w3 at *
              refine bodyPost_ret (v := .tuple #[.agg #[.int .i64 0, .slice none 0 0, .slice none 0 0], .bool false]) (by simp only [results, Try.results19]; go_simp) rfl ?_
              rw [show permV b1 s1 t1 ord = noV by unfold permV; rw [hB3.out, ord_no hlt hv9.out (by have := hc4.out; omega), Bool.and_false] <;> rfl]
              exact PViewB.no (Xw3.trans (by repeat (first | (with_reducible assumption) | (with_reducible refine Ext.setCell ?_ (by first | (simp; done) | (simp; omega) | omega) _) | (with_reducible apply Ext.alloc) | (with_reducible apply Ext.drew) | (with_reducible apply Ext.drewN) | (with_reducible exact Ext.refl _))))
            · have hsl12 : (k : Int) ≤ c2 := by have := ((h3.ext Xr)).capLe; omega
              go_wp2_with fail
              refine (contains_c (ord.take k) (.slice (some ⟨bl6, ol7, none⟩) k c2) v9 _ _ ((h3.take k (by omega)).ext (Xr.trans (by repeat (first | (with_reducible assumption) | (with_reducible refine Ext.setCell ?_ (by first | (simp; done) | (simp; omega) | omega) _) | (with_reducible apply Ext.alloc) | (with_reducible apply Ext.drew) | (with_reducible apply Ext.drewN) | (with_reducible exact Ext.refl _)))))).mono ?_
              rintro e w' ⟨rfl, rfl⟩
              cases hB13 : hasB (ord.take k) v9
              · replace hB13 := Lib.hid hB13
                obtain ⟨mv9, rfl⟩ : ∃ m : Nat, v9 = m := ⟨v9.toNat, by omega⟩
                rw [hv9.out, Int.toNat_natCast] at hs1 hs2
                go_wp2_with fail
                skip
                have hN_e16 : mv9 < s1.length := (by have := hos.out; omega)
                have hI_e16 : (mv9 : Int) < (s1.length : Int) := by omega
                obtain ⟨bl14, ol15, rfl, e160⟩ := h1.at mv9 (by have := hos.out; omega)
                have y_e16 : bl14 < w.heap.size := World.block_lt_of_cell? _ _ e160
                replace e160 := Xr.cell e160
                obtain ⟨v17, hv17⟩ : ∃ v, s1.getD mv9 0 = v := ⟨_, rfl⟩
                rw [hv17] at e160
                replace hv17 := Lib.hid hv17
                have z_e16 : bl14 < wr.heap.size := World.block_lt_of_cell? _ _ e160
                rw [hv17.out] at hs1
                replace hs1 := Lib.hid hs1
                refine wp_region_tail (S := fun w' => w'.cell? ⟨w.heap.size, 0, none⟩ = some (.int .i64 b1) ∧ w'.cell? ⟨w.heap.size, 1, none⟩ = some (.slice (some ⟨bl14, ol15, none⟩) s1.length c0) ∧ w'.cell? ⟨w.heap.size, 2, none⟩ = some (.slice p1 t1.length c1) ∧ w'.cell? ⟨w.heap.size + 1, 0, none⟩ = some (.int .i64 0) ∧ w'.cell? ⟨w.heap.size + 1, 1, none⟩ = some (.slice none 0 0) ∧ w'.cell? ⟨w.heap.size + 1, 2, none⟩ = some (.slice none 0 0) ∧ w'.cell? ⟨w1.heap.size, 0, none⟩ = some (.int .i64 b1) ∧ w'.cell? ⟨w1.heap.size, 1, none⟩ = some (pr1) ∧ w'.cell? ⟨w1.heap.size, 2, none⟩ = some (pr2) ∧ w'.cell? ⟨bl6, ol7 + k, none⟩ = some (.int .i64 (mv9 : Int)) ∧ w'.cell? ⟨bl14, ol15 + mv9, none⟩ = some (.int .i64 v17)) (fun i => decide (10 ≤ i)) (by kernel_rfl) ⟨b10, b11, b12, b20, b21, b22, b50, b51, b52, e80, e160⟩ (fun hHeld => ?_)
                refine wpTail_take (i := 0) (v := ?_) rfl (by kernel_rfl) (by kernel_rfl) (by kernel_rfl) rfl (by kernel_rfl) (fun _ _ _ h => h) (Or.inl ⟨by rfl, ?_⟩) (by assumption) ?_
                rotate_left
                · (intro w hSw; (try dsimp only at hSw); go_simp; try with_reducible rfl)
                try simp only [Act.put, List.setIfInBounds_toArray, List.set_cons_zero, List.set_cons_succ, List.getElem_toArray, List.getElem_cons_succ, List.getElem_cons_zero]
                refine wpTail_take (i := 1) (v := ?_) rfl (by kernel_rfl) (by kernel_rfl) (by kernel_rfl) rfl (by kernel_rfl) (fun _ _ _ h => h) (Or.inl ⟨by rfl, ?_⟩) (by assumption) ?_
                rotate_left
                · (intro w hSw; (try dsimp only at hSw); go_simp; try with_reducible rfl)
                try simp only [Act.put, List.setIfInBounds_toArray, List.set_cons_zero, List.set_cons_succ, List.getElem_toArray, List.getElem_cons_succ, List.getElem_cons_zero]
                refine wpTail_take (i := 2) (v := ?_) rfl (by kernel_rfl) (by kernel_rfl) (by kernel_rfl) rfl (by kernel_rfl) (fun _ _ _ h => h) (Or.inl ⟨by rfl, ?_⟩) (by assumption) ?_
                rotate_left
                · (intro w hSw; (try dsimp only at hSw); go_simp; try with_reducible rfl)
                try simp only [Act.put, List.setIfInBounds_toArray, List.set_cons_zero, List.set_cons_succ, List.getElem_toArray, List.getElem_cons_succ, List.getElem_cons_zero]
                refine wpTail_take (i := 3) (v := ?_) rfl (by kernel_rfl) (by kernel_rfl) (by kernel_rfl) rfl (by kernel_rfl) (fun _ _ _ h => h) (Or.inl ⟨by rfl, ?_⟩) (by assumption) ?_
                rotate_left
                · (intro w hSw; (try dsimp only at hSw); go_simp; try with_reducible rfl)
                try simp only [Act.put, List.setIfInBounds_toArray, List.set_cons_zero, List.set_cons_succ, List.getElem_toArray, List.getElem_cons_succ, List.getElem_cons_zero]
                refine wpTail_take (i := 4) (v := ?_) rfl (by kernel_rfl) (by kernel_rfl) (by kernel_rfl) rfl (by kernel_rfl) (fun _ _ _ h => h) (Or.inl ⟨by rfl, ?_⟩) (by assumption) ?_
                rotate_left
                · (intro w hSw; (try dsimp only at hSw); go_simp; try with_reducible rfl)
                try simp only [Act.put, List.setIfInBounds_toArray, List.set_cons_zero, List.set_cons_succ, List.getElem_toArray, List.getElem_cons_succ, List.getElem_cons_zero]
                refine wpTail_take (i := 5) (v := ?_) rfl (by kernel_rfl) (by kernel_rfl) (by kernel_rfl) rfl (by kernel_rfl) (fun _ _ _ h => h) (Or.inl ⟨by rfl, ?_⟩) (by assumption) ?_
                rotate_left
                · (intro w hSw; (try dsimp only at hSw); go_simp; try with_reducible rfl)
                try simp only [Act.put, List.setIfInBounds_toArray, List.set_cons_zero, List.set_cons_succ, List.getElem_toArray, List.getElem_cons_succ, List.getElem_cons_zero]
                refine wpTail_take (i := 6) (v := ?_) rfl (by kernel_rfl) (by kernel_rfl) (by kernel_rfl) rfl (by kernel_rfl) (fun _ _ _ h => h) (Or.inl ⟨by rfl, ?_⟩) (by assumption) ?_
                rotate_left
                · (intro w hSw; (try dsimp only at hSw); go_simp; try with_reducible rfl)
                try simp only [Act.put, List.setIfInBounds_toArray, List.set_cons_zero, List.set_cons_succ, List.getElem_toArray, List.getElem_cons_succ, List.getElem_cons_zero]
                refine wpTail_one (i := 7) (by kernel_rfl) rfl rfl (fun K hK => ?_)
                try simp only [Act.put, List.setIfInBounds_toArray, List.set_cons_zero, List.set_cons_succ, List.getElem_toArray, List.getElem_cons_succ, List.getElem_cons_zero]
                go_simp
                refine hK.out _ _ ⟨Ext.cell (w := wr) (by repeat (first | (with_reducible assumption) | (with_reducible refine Ext.setCell ?_ (by first | (simp; done) | (simp; omega) | omega) _) | (with_reducible apply Ext.alloc) | (with_reducible apply Ext.drew) | (with_reducible apply Ext.drewN) | (with_reducible exact Ext.refl _))) b10, Ext.cell (w := wr) (by repeat (first | (with_reducible assumption) | (with_reducible refine Ext.setCell ?_ (by first | (simp; done) | (simp; omega) | omega) _) | (with_reducible apply Ext.alloc) | (with_reducible apply Ext.drew) | (with_reducible apply Ext.drewN) | (with_reducible exact Ext.refl _))) b11, Ext.cell (w := wr) (by repeat (first | (with_reducible assumption) | (with_reducible refine Ext.setCell ?_ (by first | (simp; done) | (simp; omega) | omega) _) | (with_reducible apply Ext.alloc) | (with_reducible apply Ext.drew) | (with_reducible apply Ext.drewN) | (with_reducible exact Ext.refl _))) b12, Ext.cell (w := wr) (by repeat (first | (with_reducible assumption) | (with_reducible refine Ext.setCell ?_ (by first | (simp; done) | (simp; omega) | omega) _) | (with_reducible apply Ext.alloc) | (with_reducible apply Ext.drew) | (with_reducible apply Ext.drewN) | (with_reducible exact Ext.refl _))) b20, Ext.cell (w := wr) (by repeat (first | (with_reducible assumption) | (with_reducible refine Ext.setCell ?_ (by first | (simp; done) | (simp; omega) | omega) _) | (with_reducible apply Ext.alloc) | (with_reducible apply Ext.drew) | (with_reducible apply Ext.drewN) | (with_reducible exact Ext.refl _))) b21, Ext.cell (w := wr) (by repeat (first | (with_reducible assumption) | (with_reducible refine Ext.setCell ?_ (by first | (simp; done) | (simp; omega) | omega) _) | (with_reducible apply Ext.alloc) | (with_reducible apply Ext.drew) | (with_reducible apply Ext.drewN) | (with_reducible exact Ext.refl _))) b22, Ext.cell (w := wr) (by repeat (first | (with_reducible assumption) | (with_reducible refine Ext.setCell ?_ (by first | (simp; done) | (simp; omega) | omega) _) | (with_reducible apply Ext.alloc) | (with_reducible apply Ext.drew) | (with_reducible apply Ext.drewN) | (with_reducible exact Ext.refl _))) b50, Ext.cell (w := wr) (by repeat (first | (with_reducible assumption) | (with_reducible refine Ext.setCell ?_ (by first | (simp; done) | (simp; omega) | omega) _) | (with_reducible apply Ext.alloc) | (with_reducible apply Ext.drew) | (with_reducible apply Ext.drewN) | (with_reducible exact Ext.refl _))) b51, Ext.cell (w := wr) (by repeat (first | (with_reducible assumption) | (with_reducible refine Ext.setCell ?_ (by first | (simp; done) | (simp; omega) | omega) _) | (with_reducible apply Ext.alloc) | (with_reducible apply Ext.drew) | (with_reducible apply Ext.drewN) | (with_reducible exact Ext.refl _))) b52, Ext.cell (w := wr) (by repeat (first | (with_reducible assumption) | (with_reducible refine Ext.setCell ?_ (by first | (simp; done) | (simp; omega) | omega) _) | (with_reducible apply Ext.alloc) | (with_reducible apply Ext.drew) | (with_reducible apply Ext.drewN) | (with_reducible exact Ext.refl _))) e80, Ext.cell (w := wr) (by repeat (first | (with_reducible assumption) | (with_reducible refine Ext.setCell ?_ (by first | (simp; done) | (simp; omega) | omega) _) | (with_reducible apply Ext.alloc) | (with_reducible apply Ext.drew) | (with_reducible apply Ext.drewN) | (with_reducible exact Ext.refl _))) e160⟩ (fun hHeld => ?_)
                clear hK K
                try simp only [Act.put, List.setIfInBounds_toArray, List.set_cons_zero, List.set_cons_succ, List.getElem_toArray, List.getElem_cons_succ, List.getElem_cons_zero]
                refine wpTail_one (i := 8) (by kernel_rfl) rfl rfl (fun K hK => ?_)
                have Ew3 : Ext wr ((wr.drew).alloc (.cells #[.int .i64 (v17)] 3)) := (by repeat (first | (with_reducible assumption) | (with_reducible refine Ext.setCell ?_ (by first | (simp; done) | (simp; omega) | omega) _) | (with_reducible apply Ext.alloc) | (with_reducible apply Ext.drew) | (with_reducible apply Ext.drewN) | (with_reducible exact Ext.refl _)))
                have Sw3 : Ints ((wr.drew).alloc (.cells #[.int .i64 (v17)] 3)) 0 (.slice (some ⟨wr.heap.size, 0, none⟩) 1 1) [v17] := by simpa using Ints.one wr.drew 0 (v17) (Nat.zero_le _)
                refine step_app rfl (.tmp 48) (.tmp 54) rfl rfl rfl (by exact T.o1.ext Ew3) (by exact Sw3) (by have := tl1.out; simp only [List.length_cons, List.length_nil]; omega) (by simp <;> omega) ?_
                intro vw3 w3 ho hgr hbl hvb
                obtain ⟨pa_w3, pn_w3, pc_w3, rfl⟩ := ho.any
                have Xw3 : Ext w w3 := Ext.below (Xr.trans Ew3) hbl (by omega)
                replace b10 := below_cell hbl (by omega) (Ew3.cell b10)
                replace b11 := below_cell hbl (by omega) (Ew3.cell b11)
                replace b12 := below_cell hbl (by omega) (Ew3.cell b12)
                replace b20 := below_cell hbl (by omega) (Ew3.cell b20)
                replace f_b20 := below_frz hbl (by omega) (Ew3.frz z_b2 f_b20)
                replace b21 := below_cell hbl (by omega) (Ew3.cell b21)
                replace f_b21 := below_frz hbl (by omega) (Ew3.frz z_b2 f_b21)
                replace b22 := below_cell hbl (by omega) (Ew3.cell b22)
                replace f_b22 := below_frz hbl (by omega) (Ew3.frz z_b2 f_b22)
                replace b50 := below_cell hbl (by omega) (Ew3.cell b50)
                replace f_b50 := below_frz hbl (by omega) (Ew3.frz z_b5 f_b50)
                replace b51 := below_cell hbl (by omega) (Ew3.cell b51)
                replace f_b51 := below_frz hbl (by omega) (Ew3.frz z_b5 f_b51)
                replace b52 := below_cell hbl (by omega) (Ew3.cell b52)
                replace f_b52 := below_frz hbl (by omega) (Ew3.frz z_b5 f_b52)
                replace e80 := below_cell hbl (by omega) (Ew3.cell e80)
                replace e160 := below_cell hbl (by omega) (Ew3.cell e160)
                have z_b1 : w.heap.size < w3.heap.size := World.block_lt_of_cell? _ _ b10
                have z_b2 : w.heap.size + 1 < w3.heap.size := World.block_lt_of_cell? _ _ b20
                have z_b5 : w1.heap.size < w3.heap.size := World.block_lt_of_cell? _ _ b50
                have z_e8 : bl6 < w3.heap.size := World.block_lt_of_cell? _ _ e80
                have z_e16 : bl14 < w3.heap.size := World.block_lt_of_cell? _ _ e160
                replace T := (T.ext Ew3).app1 ho hgr hvb
                have s_w3 : w.heap.size ≤ w3.heap.size := Xw3.size
                clear ho hgr hbl hvb Ew3 Sw3
                refine hK.out _ _ ⟨b10, b11, b12, b20, b21, b22, b50, b51, b52, e80, e160⟩ (fun hHeld => ?_)
                clear hK K
                try simp only [Act.put, List.setIfInBounds_toArray, List.set_cons_zero, List.set_cons_succ, List.getElem_toArray, List.getElem_cons_succ, List.getElem_cons_zero]
                refine wpTail_take (i := 9) (v := ?_) rfl (by kernel_rfl) (by kernel_rfl) (by kernel_rfl) rfl (by kernel_rfl) (fun _ _ _ h => h) (Or.inl ⟨by rfl, ?_⟩) (by assumption) ?_
                rotate_left
                · (intro w hSw; (try dsimp only at hSw); go_simp; try with_reducible rfl)
                try simp only [Act.put, List.setIfInBounds_toArray, List.set_cons_zero, List.set_cons_succ, List.getElem_toArray, List.getElem_cons_succ, List.getElem_cons_zero]
                refine wpTail_last (i := 10) (by kernel_rfl) rfl rfl (fun K hK => ?_)
                try simp only [Act.put, List.setIfInBounds_toArray, List.set_cons_zero, List.set_cons_succ, List.getElem_toArray, List.getElem_cons_succ, List.getElem_cons_zero]
                go_simp
                refine hK.out _ _ ?_
                clear hK K
                try simp only [Act.put, List.setIfInBounds_toArray, List.set_cons_zero, List.set_cons_succ, List.getElem_toArray, List.getElem_cons_succ, List.getElem_cons_zero]
                refine wpTail_done (by kernel_rfl) ?_ _
                clear hHeld
                have Kw4 : Chg (w1.heap.size) (w1.heap.size + 1) w3 (w3.setCell ⟨w1.heap.size, 1, none⟩ (.slice pa_w3 pn_w3 pc_w3)) := (Chg.setCell (p := ⟨w1.heap.size, 1, none⟩) (Chg.refl (w1.heap.size) (w1.heap.size + 1) _) (Nat.le_refl _) (Nat.lt_succ_self _) (.slice pa_w3 pn_w3 pc_w3))
                have Xw4 : Ext w (w3.setCell ⟨w1.heap.size, 1, none⟩ (.slice pa_w3 pn_w3 pc_w3)) := (Ext.setCell (p := ⟨w1.heap.size, 1, none⟩) Xw3 (by first | (simp; done) | (simp; omega) | omega) (.slice pa_w3 pn_w3 pc_w3))
                replace b10 := Kw4.cell (by omega) b10
                replace b11 := Kw4.cell (by omega) b11
                replace b12 := Kw4.cell (by omega) b12
                replace b20 := Kw4.cell (by omega) b20
                replace f_b20 := Kw4.frzO (by omega) z_b2 f_b20
                replace b21 := Kw4.cell (by omega) b21
                replace f_b21 := Kw4.frzO (by omega) z_b2 f_b21
                replace b22 := Kw4.cell (by omega) b22
                replace f_b22 := Kw4.frzO (by omega) z_b2 f_b22
                have n_b50 : (w3.setCell ⟨w1.heap.size, 1, none⟩ (.slice pa_w3 pn_w3 pc_w3)).cell? ⟨w1.heap.size, 0, none⟩ = some (.int .i64 b1) := by go_simp
                have n_f_b50 : (w3.setCell ⟨w1.heap.size, 1, none⟩ (.slice pa_w3 pn_w3 pc_w3)).frozen? ⟨w1.heap.size, 0, none⟩ = false := by go_simp
                have n_b51 : (w3.setCell ⟨w1.heap.size, 1, none⟩ (.slice pa_w3 pn_w3 pc_w3)).cell? ⟨w1.heap.size, 1, none⟩ = some (.slice pa_w3 pn_w3 pc_w3) := by go_simp
                have n_f_b51 : (w3.setCell ⟨w1.heap.size, 1, none⟩ (.slice pa_w3 pn_w3 pc_w3)).frozen? ⟨w1.heap.size, 1, none⟩ = false := by go_simp
                have n_b52 : (w3.setCell ⟨w1.heap.size, 1, none⟩ (.slice pa_w3 pn_w3 pc_w3)).cell? ⟨w1.heap.size, 2, none⟩ = some (pr2) := by go_simp
                have n_f_b52 : (w3.setCell ⟨w1.heap.size, 1, none⟩ (.slice pa_w3 pn_w3 pc_w3)).frozen? ⟨w1.heap.size, 2, none⟩ = false := by go_simp
                replace b50 := n_b50
                clear n_b50
                replace f_b50 := n_f_b50
                clear n_f_b50
                replace b51 := n_b51
                clear n_b51
                replace f_b51 := n_f_b51
                clear n_f_b51
                replace b52 := n_b52
                clear n_b52
                replace f_b52 := n_f_b52
                clear n_f_b52
                replace e80 := Kw4.cell (by omega) e80
                replace e160 := Kw4.cell (by omega) e160
                replace T := T.chg Kw4 (by omega)
                clear Kw4
                have z_b1 : w.heap.size < (w3.setCell ⟨w1.heap.size, 1, none⟩ (.slice pa_w3 pn_w3 pc_w3)).heap.size := World.block_lt_of_cell? _ _ b10
                have z_b2 : w.heap.size + 1 < (w3.setCell ⟨w1.heap.size, 1, none⟩ (.slice pa_w3 pn_w3 pc_w3)).heap.size := World.block_lt_of_cell? _ _ b20
                have z_b5 : w1.heap.size < (w3.setCell ⟨w1.heap.size, 1, none⟩ (.slice pa_w3 pn_w3 pc_w3)).heap.size := World.block_lt_of_cell? _ _ b50
                have z_e8 : bl6 < (w3.setCell ⟨w1.heap.size, 1, none⟩ (.slice pa_w3 pn_w3 pc_w3)).heap.size := World.block_lt_of_cell? _ _ e80
                have z_e16 : bl14 < (w3.setCell ⟨w1.heap.size, 1, none⟩ (.slice pa_w3 pn_w3 pc_w3)).heap.size := World.block_lt_of_cell? _ _ e160
                have s_w4 : w.heap.size ≤ (w3.setCell ⟨w1.heap.size, 1, none⟩ (.slice pa_w3 pn_w3 pc_w3)).heap.size := Xw4.size
                generalize (w3.setCell ⟨w1.heap.size, 1, none⟩ (.slice pa_w3 pn_w3 pc_w3)) = w4 at *
                have hTs := T.size
                go_wp2_with fail
                skip
                have hN_e23 : mv9 < t1.length := (by have := hos.out; omega)
                have hI_e23 : (mv9 : Int) < (t1.length : Int) := by omega
                obtain ⟨bl21, ol22, rfl, e230⟩ := k1.at mv9 (by have := hos.out; omega)
                have y_e23 : bl21 < w.heap.size := World.block_lt_of_cell? _ _ e230
                replace e230 := Xw4.cell e230
                obtain ⟨v24, hv24⟩ : ∃ v, t1.getD mv9 0 = v := ⟨_, rfl⟩
                rw [hv24] at e230
                replace hv24 := Lib.hid hv24
                have z_e23 : bl21 < w4.heap.size := World.block_lt_of_cell? _ _ e230
                rw [hv24.out] at hs2
                replace hs2 := Lib.hid hs2
                refine wp_region_tail (S := fun w' => w'.cell? ⟨w.heap.size, 0, none⟩ = some (.int .i64 b1) ∧ w'.cell? ⟨w.heap.size, 1, none⟩ = some (.slice (some ⟨bl14, ol15, none⟩) s1.length c0) ∧ w'.cell? ⟨w.heap.size, 2, none⟩ = some (.slice (some ⟨bl21, ol22, none⟩) t1.length c1) ∧ w'.cell? ⟨w.heap.size + 1, 0, none⟩ = some (.int .i64 0) ∧ w'.cell? ⟨w.heap.size + 1, 1, none⟩ = some (.slice none 0 0) ∧ w'.cell? ⟨w.heap.size + 1, 2, none⟩ = some (.slice none 0 0) ∧ w'.cell? ⟨w1.heap.size, 0, none⟩ = some (.int .i64 b1) ∧ w'.cell? ⟨w1.heap.size, 1, none⟩ = some (.slice pa_w3 pn_w3 pc_w3) ∧ w'.cell? ⟨w1.heap.size, 2, none⟩ = some (pr2) ∧ w'.cell? ⟨bl6, ol7 + k, none⟩ = some (.int .i64 (mv9 : Int)) ∧ w'.cell? ⟨bl14, ol15 + mv9, none⟩ = some (.int .i64 v17) ∧ w'.cell? ⟨bl21, ol22 + mv9, none⟩ = some (.int .i64 v24)) (fun i => decide (10 ≤ i)) (by kernel_rfl) ⟨b10, b11, b12, b20, b21, b22, b50, b51, b52, e80, e160, e230⟩ (fun hHeld => ?_)
                refine wpTail_take (i := 0) (v := ?_) rfl (by kernel_rfl) (by kernel_rfl) (by kernel_rfl) rfl (by kernel_rfl) (fun _ _ _ h => h) (Or.inl ⟨by rfl, ?_⟩) (by assumption) ?_
                rotate_left
                · (intro w hSw; (try dsimp only at hSw); go_simp; try with_reducible rfl)
                try simp only [Act.put, List.setIfInBounds_toArray, List.set_cons_zero, List.set_cons_succ, List.getElem_toArray, List.getElem_cons_succ, List.getElem_cons_zero]
                refine wpTail_take (i := 1) (v := ?_) rfl (by kernel_rfl) (by kernel_rfl) (by kernel_rfl) rfl (by kernel_rfl) (fun _ _ _ h => h) (Or.inl ⟨by rfl, ?_⟩) (by assumption) ?_
                rotate_left
                · (intro w hSw; (try dsimp only at hSw); go_simp; try with_reducible rfl)
                try simp only [Act.put, List.setIfInBounds_toArray, List.set_cons_zero, List.set_cons_succ, List.getElem_toArray, List.getElem_cons_succ, List.getElem_cons_zero]
                refine wpTail_take (i := 2) (v := ?_) rfl (by kernel_rfl) (by kernel_rfl) (by kernel_rfl) rfl (by kernel_rfl) (fun _ _ _ h => h) (Or.inl ⟨by rfl, ?_⟩) (by assumption) ?_
                rotate_left
                · (intro w hSw; (try dsimp only at hSw); go_simp; try with_reducible rfl)
                try simp only [Act.put, List.setIfInBounds_toArray, List.set_cons_zero, List.set_cons_succ, List.getElem_toArray, List.getElem_cons_succ, List.getElem_cons_zero]
                refine wpTail_take (i := 3) (v := ?_) rfl (by kernel_rfl) (by kernel_rfl) (by kernel_rfl) rfl (by kernel_rfl) (fun _ _ _ h => h) (Or.inl ⟨by rfl, ?_⟩) (by assumption) ?_
                rotate_left
                · (intro w hSw; (try dsimp only at hSw); go_simp; try with_reducible rfl)
                try simp only [Act.put, List.setIfInBounds_toArray, List.set_cons_zero, List.set_cons_succ, List.getElem_toArray, List.getElem_cons_succ, List.getElem_cons_zero]
                refine wpTail_take (i := 4) (v := ?_) rfl (by kernel_rfl) (by kernel_rfl) (by kernel_rfl) rfl (by kernel_rfl) (fun _ _ _ h => h) (Or.inl ⟨by rfl, ?_⟩) (by assumption) ?_
                rotate_left
                · (intro w hSw; (try dsimp only at hSw); go_simp; try with_reducible rfl)
                try simp only [Act.put, List.setIfInBounds_toArray, List.set_cons_zero, List.set_cons_succ, List.getElem_toArray, List.getElem_cons_succ, List.getElem_cons_zero]
                refine wpTail_take (i := 5) (v := ?_) rfl (by kernel_rfl) (by kernel_rfl) (by kernel_rfl) rfl (by kernel_rfl) (fun _ _ _ h => h) (Or.inl ⟨by rfl, ?_⟩) (by assumption) ?_
                rotate_left
                · (intro w hSw; (try dsimp only at hSw); go_simp; try with_reducible rfl)
                try simp only [Act.put, List.setIfInBounds_toArray, List.set_cons_zero, List.set_cons_succ, List.getElem_toArray, List.getElem_cons_succ, List.getElem_cons_zero]
                refine wpTail_take (i := 6) (v := ?_) rfl (by kernel_rfl) (by kernel_rfl) (by kernel_rfl) rfl (by kernel_rfl) (fun _ _ _ h => h) (Or.inl ⟨by rfl, ?_⟩) (by assumption) ?_
                rotate_left
                · (intro w hSw; (try dsimp only at hSw); go_simp; try with_reducible rfl)
                try simp only [Act.put, List.setIfInBounds_toArray, List.set_cons_zero, List.set_cons_succ, List.getElem_toArray, List.getElem_cons_succ, List.getElem_cons_zero]
                refine wpTail_one (i := 7) (by kernel_rfl) rfl rfl (fun K hK => ?_)
                try simp only [Act.put, List.setIfInBounds_toArray, List.set_cons_zero, List.set_cons_succ, List.getElem_toArray, List.getElem_cons_succ, List.getElem_cons_zero]
                go_simp
                refine hK.out _ _ ⟨Ext.cell (w := w4) (by repeat (first | (with_reducible assumption) | (with_reducible refine Ext.setCell ?_ (by first | (simp; done) | (simp; omega) | omega) _) | (with_reducible apply Ext.alloc) | (with_reducible apply Ext.drew) | (with_reducible apply Ext.drewN) | (with_reducible exact Ext.refl _))) b10, Ext.cell (w := w4) (by repeat (first | (with_reducible assumption) | (with_reducible refine Ext.setCell ?_ (by first | (simp; done) | (simp; omega) | omega) _) | (with_reducible apply Ext.alloc) | (with_reducible apply Ext.drew) | (with_reducible apply Ext.drewN) | (with_reducible exact Ext.refl _))) b11, Ext.cell (w := w4) (by repeat (first | (with_reducible assumption) | (with_reducible refine Ext.setCell ?_ (by first | (simp; done) | (simp; omega) | omega) _) | (with_reducible apply Ext.alloc) | (with_reducible apply Ext.drew) | (with_reducible apply Ext.drewN) | (with_reducible exact Ext.refl _))) b12, Ext.cell (w := w4) (by repeat (first | (with_reducible assumption) | (with_reducible refine Ext.setCell ?_ (by first | (simp; done) | (simp; omega) | omega) _) | (with_reducible apply Ext.alloc) | (with_reducible apply Ext.drew) | (with_reducible apply Ext.drewN) | (with_reducible exact Ext.refl _))) b20, Ext.cell (w := w4) (by repeat (first | (with_reducible assumption) | (with_reducible refine Ext.setCell ?_ (by first | (simp; done) | (simp; omega) | omega) _) | (with_reducible apply Ext.alloc) | (with_reducible apply Ext.drew) | (with_reducible apply Ext.drewN) | (with_reducible exact Ext.refl _))) b21, Ext.cell (w := w4) (by repeat (first | (with_reducible assumption) | (with_reducible refine Ext.setCell ?_ (by first | (simp; done) | (simp; omega) | omega) _) | (with_reducible apply Ext.alloc) | (with_reducible apply Ext.drew) | (with_reducible apply Ext.drewN) | (with_reducible exact Ext.refl _))) b22, Ext.cell (w := w4) (by repeat (first | (with_reducible assumption) | (with_reducible refine Ext.setCell ?_ (by first | (simp; done) | (simp; omega) | omega) _) | (with_reducible apply Ext.alloc) | (with_reducible apply Ext.drew) | (with_reducible apply Ext.drewN) | (with_reducible exact Ext.refl _))) b50, Ext.cell (w := w4) (by repeat (first | (with_reducible assumption) | (with_reducible refine Ext.setCell ?_ (by first | (simp; done) | (simp; omega) | omega) _) | (with_reducible apply Ext.alloc) | (with_reducible apply Ext.drew) | (with_reducible apply Ext.drewN) | (with_reducible exact Ext.refl _))) b51, Ext.cell (w := w4) (by repeat (first | (with_reducible assumption) | (with_reducible refine Ext.setCell ?_ (by first | (simp; done) | (simp; omega) | omega) _) | (with_reducible apply Ext.alloc) | (with_reducible apply Ext.drew) | (with_reducible apply Ext.drewN) | (with_reducible exact Ext.refl _))) b52, Ext.cell (w := w4) (by repeat (first | (with_reducible assumption) | (with_reducible refine Ext.setCell ?_ (by first | (simp; done) | (simp; omega) | omega) _) | (with_reducible apply Ext.alloc) | (with_reducible apply Ext.drew) | (with_reducible apply Ext.drewN) | (with_reducible exact Ext.refl _))) e80, Ext.cell (w := w4) (by repeat (first | (with_reducible assumption) | (with_reducible refine Ext.setCell ?_ (by first | (simp; done) | (simp; omega) | omega) _) | (with_reducible apply Ext.alloc) | (with_reducible apply Ext.drew) | (with_reducible apply Ext.drewN) | (with_reducible exact Ext.refl _))) e160, Ext.cell (w := w4) (by repeat (first | (with_reducible assumption) | (with_reducible refine Ext.setCell ?_ (by first | (simp; done) | (simp; omega) | omega) _) | (with_reducible apply Ext.alloc) | (with_reducible apply Ext.drew) | (with_reducible apply Ext.drewN) | (with_reducible exact Ext.refl _))) e230⟩ (fun hHeld => ?_)
                clear hK K
                try simp only [Act.put, List.setIfInBounds_toArray, List.set_cons_zero, List.set_cons_succ, List.getElem_toArray, List.getElem_cons_succ, List.getElem_cons_zero]
                refine wpTail_one (i := 8) (by kernel_rfl) rfl rfl (fun K hK => ?_)
                have Ew5 : Ext w4 ((w4.drew).alloc (.cells #[.int .i64 (v24)] 3)) := (by repeat (first | (with_reducible assumption) | (with_reducible refine Ext.setCell ?_ (by first | (simp; done) | (simp; omega) | omega) _) | (with_reducible apply Ext.alloc) | (with_reducible apply Ext.drew) | (with_reducible apply Ext.drewN) | (with_reducible exact Ext.refl _)))
                have Sw5 : Ints ((w4.drew).alloc (.cells #[.int .i64 (v24)] 3)) 0 (.slice (some ⟨w4.heap.size, 0, none⟩) 1 1) [v24] := by simpa using Ints.one w4.drew 0 (v24) (Nat.zero_le _)
                refine step_app rfl (.tmp 58) (.tmp 64) rfl rfl rfl (by exact T.o2.ext Ew5) (by exact Sw5) (by have := tl2.out; simp only [List.length_cons, List.length_nil]; omega) (by simp <;> omega) ?_
                intro vw5 w5 ho hgr hbl hvb
                obtain ⟨pa_w5, pn_w5, pc_w5, rfl⟩ := ho.any
                have Xw5 : Ext w w5 := Ext.below (Xw4.trans Ew5) hbl (by omega)
                replace b10 := below_cell hbl (by omega) (Ew5.cell b10)
                replace b11 := below_cell hbl (by omega) (Ew5.cell b11)
                replace b12 := below_cell hbl (by omega) (Ew5.cell b12)
                replace b20 := below_cell hbl (by omega) (Ew5.cell b20)
                replace f_b20 := below_frz hbl (by omega) (Ew5.frz z_b2 f_b20)
                replace b21 := below_cell hbl (by omega) (Ew5.cell b21)
                replace f_b21 := below_frz hbl (by omega) (Ew5.frz z_b2 f_b21)
                replace b22 := below_cell hbl (by omega) (Ew5.cell b22)
                replace f_b22 := below_frz hbl (by omega) (Ew5.frz z_b2 f_b22)
                replace b50 := below_cell hbl (by omega) (Ew5.cell b50)
                replace f_b50 := below_frz hbl (by omega) (Ew5.frz z_b5 f_b50)
                replace b51 := below_cell hbl (by omega) (Ew5.cell b51)
                replace f_b51 := below_frz hbl (by omega) (Ew5.frz z_b5 f_b51)
                replace b52 := below_cell hbl (by omega) (Ew5.cell b52)
                replace f_b52 := below_frz hbl (by omega) (Ew5.frz z_b5 f_b52)
                replace e80 := below_cell hbl (by omega) (Ew5.cell e80)
                replace e160 := below_cell hbl (by omega) (Ew5.cell e160)
                replace e230 := below_cell hbl (by omega) (Ew5.cell e230)
                have z_b1 : w.heap.size < w5.heap.size := World.block_lt_of_cell? _ _ b10
                have z_b2 : w.heap.size + 1 < w5.heap.size := World.block_lt_of_cell? _ _ b20
                have z_b5 : w1.heap.size < w5.heap.size := World.block_lt_of_cell? _ _ b50
                have z_e8 : bl6 < w5.heap.size := World.block_lt_of_cell? _ _ e80
                have z_e16 : bl14 < w5.heap.size := World.block_lt_of_cell? _ _ e160
                have z_e23 : bl21 < w5.heap.size := World.block_lt_of_cell? _ _ e230
                replace T := (T.ext Ew5).app2 ho hgr hvb
                have s_w5 : w.heap.size ≤ w5.heap.size := Xw5.size
                clear ho hgr hbl hvb Ew5 Sw5
                refine hK.out _ _ ⟨b10, b11, b12, b20, b21, b22, b50, b51, b52, e80, e160, e230⟩ (fun hHeld => ?_)
                clear hK K
                try simp only [Act.put, List.setIfInBounds_toArray, List.set_cons_zero, List.set_cons_succ, List.getElem_toArray, List.getElem_cons_succ, List.getElem_cons_zero]
                refine wpTail_take (i := 9) (v := ?_) rfl (by kernel_rfl) (by kernel_rfl) (by kernel_rfl) rfl (by kernel_rfl) (fun _ _ _ h => h) (Or.inl ⟨by rfl, ?_⟩) (by assumption) ?_
                rotate_left
                · (intro w hSw; (try dsimp only at hSw); go_simp; try with_reducible rfl)
                try simp only [Act.put, List.setIfInBounds_toArray, List.set_cons_zero, List.set_cons_succ, List.getElem_toArray, List.getElem_cons_succ, List.getElem_cons_zero]
                refine wpTail_last (i := 10) (by kernel_rfl) rfl rfl (fun K hK => ?_)
                try simp only [Act.put, List.setIfInBounds_toArray, List.set_cons_zero, List.set_cons_succ, List.getElem_toArray, List.getElem_cons_succ, List.getElem_cons_zero]
                go_simp
                refine hK.out _ _ ?_
                clear hK K
                try simp only [Act.put, List.setIfInBounds_toArray, List.set_cons_zero, List.set_cons_succ, List.getElem_toArray, List.getElem_cons_succ, List.getElem_cons_zero]
                refine wpTail_done (by kernel_rfl) ?_ _
                clear hHeld
                have Kw6 : Chg (w1.heap.size) (w1.heap.size + 1) w5 (w5.setCell ⟨w1.heap.size, 2, none⟩ (.slice pa_w5 pn_w5 pc_w5)) := (Chg.setCell (p := ⟨w1.heap.size, 2, none⟩) (Chg.refl (w1.heap.size) (w1.heap.size + 1) _) (Nat.le_refl _) (Nat.lt_succ_self _) (.slice pa_w5 pn_w5 pc_w5))
                have Xw6 : Ext w (w5.setCell ⟨w1.heap.size, 2, none⟩ (.slice pa_w5 pn_w5 pc_w5)) := (Ext.setCell (p := ⟨w1.heap.size, 2, none⟩) Xw5 (by first | (simp; done) | (simp; omega) | omega) (.slice pa_w5 pn_w5 pc_w5))
                replace b10 := Kw6.cell (by omega) b10
                replace b11 := Kw6.cell (by omega) b11
                replace b12 := Kw6.cell (by omega) b12
                replace b20 := Kw6.cell (by omega) b20
                replace f_b20 := Kw6.frzO (by omega) z_b2 f_b20
                replace b21 := Kw6.cell (by omega) b21
                replace f_b21 := Kw6.frzO (by omega) z_b2 f_b21
                replace b22 := Kw6.cell (by omega) b22
                replace f_b22 := Kw6.frzO (by omega) z_b2 f_b22
                have n_b50 : (w5.setCell ⟨w1.heap.size, 2, none⟩ (.slice pa_w5 pn_w5 pc_w5)).cell? ⟨w1.heap.size, 0, none⟩ = some (.int .i64 b1) := by go_simp
                have n_f_b50 : (w5.setCell ⟨w1.heap.size, 2, none⟩ (.slice pa_w5 pn_w5 pc_w5)).frozen? ⟨w1.heap.size, 0, none⟩ = false := by go_simp
                have n_b51 : (w5.setCell ⟨w1.heap.size, 2, none⟩ (.slice pa_w5 pn_w5 pc_w5)).cell? ⟨w1.heap.size, 1, none⟩ = some (.slice pa_w3 pn_w3 pc_w3) := by go_simp
                have n_f_b51 : (w5.setCell ⟨w1.heap.size, 2, none⟩ (.slice pa_w5 pn_w5 pc_w5)).frozen? ⟨w1.heap.size, 1, none⟩ = false := by go_simp
                have n_b52 : (w5.setCell ⟨w1.heap.size, 2, none⟩ (.slice pa_w5 pn_w5 pc_w5)).cell? ⟨w1.heap.size, 2, none⟩ = some (.slice pa_w5 pn_w5 pc_w5) := by go_simp
                have n_f_b52 : (w5.setCell ⟨w1.heap.size, 2, none⟩ (.slice pa_w5 pn_w5 pc_w5)).frozen? ⟨w1.heap.size, 2, none⟩ = false := by go_simp
                replace b50 := n_b50
                clear n_b50
                replace f_b50 := n_f_b50
                clear n_f_b50
                replace b51 := n_b51
                clear n_b51
                replace f_b51 := n_f_b51
                clear n_f_b51
                replace b52 := n_b52
                clear n_b52
                replace f_b52 := n_f_b52
                clear n_f_b52
                replace e80 := Kw6.cell (by omega) e80
                replace e160 := Kw6.cell (by omega) e160
                replace e230 := Kw6.cell (by omega) e230
                replace T := T.chg Kw6 (by omega)
                clear Kw6
                have z_b1 : w.heap.size < (w5.setCell ⟨w1.heap.size, 2, none⟩ (.slice pa_w5 pn_w5 pc_w5)).heap.size := World.block_lt_of_cell? _ _ b10
                have z_b2 : w.heap.size + 1 < (w5.setCell ⟨w1.heap.size, 2, none⟩ (.slice pa_w5 pn_w5 pc_w5)).heap.size := World.block_lt_of_cell? _ _ b20
                have z_b5 : w1.heap.size < (w5.setCell ⟨w1.heap.size, 2, none⟩ (.slice pa_w5 pn_w5 pc_w5)).heap.size := World.block_lt_of_cell? _ _ b50
                have z_e8 : bl6 < (w5.setCell ⟨w1.heap.size, 2, none⟩ (.slice pa_w5 pn_w5 pc_w5)).heap.size := World.block_lt_of_cell? _ _ e80
                have z_e16 : bl14 < (w5.setCell ⟨w1.heap.size, 2, none⟩ (.slice pa_w5 pn_w5 pc_w5)).heap.size := World.block_lt_of_cell? _ _ e160
                have z_e23 : bl21 < (w5.setCell ⟨w1.heap.size, 2, none⟩ (.slice pa_w5 pn_w5 pc_w5)).heap.size := World.block_lt_of_cell? _ _ e230
                have s_w6 : w.heap.size ≤ (w5.setCell ⟨w1.heap.size, 2, none⟩ (.slice pa_w5 pn_w5 pc_w5)).heap.size := Xw6.size
                generalize (w5.setCell ⟨w1.heap.size, 2, none⟩ (.slice pa_w5 pn_w5 pc_w5)) = w6 at *
                have hTs := T.size
                go_wp2_with fail
                go_roundw
                case rel => exact ⟨k + 1, _, _, by omega, by go_num, Lib.hid (hok.out.succ hlt hv9.out (by have := hos.out; omega) hB13.out), by rw [hs1.out, hs2.out]; exact T, Xw6, b10, b11, b12, b20, b21, b22, f_b20, f_b21, f_b22, b50, b51, b52, f_b50, f_b51, f_b52⟩
                case measure => simp [intOf]; omega
              · replace hB13 := Lib.hid hB13
                go_wp2_with fail
                have Kw3 : Chg (w.heap.size + 1) (w.heap.size + 1 + 1) wr (((wr.setCell ⟨w.heap.size + 1, 0, none⟩ (.int .i64 0)).setCell ⟨w.heap.size + 1, 1, none⟩ (.slice none 0 0)).setCell ⟨w.heap.size + 1, 2, none⟩ (.slice none 0 0)) := (Chg.setCell (p := ⟨w.heap.size + 1, 2, none⟩) (Chg.setCell (p := ⟨w.heap.size + 1, 1, none⟩) (Chg.setCell (p := ⟨w.heap.size + 1, 0, none⟩) (Chg.refl (w.heap.size + 1) (w.heap.size + 1 + 1) _) (Nat.le_refl _) (Nat.lt_succ_self _) (.int .i64 0)) (Nat.le_refl _) (Nat.lt_succ_self _) (.slice none 0 0)) (Nat.le_refl _) (Nat.lt_succ_self _) (.slice none 0 0))
                have Xw3 : Ext w (((wr.setCell ⟨w.heap.size + 1, 0, none⟩ (.int .i64 0)).setCell ⟨w.heap.size + 1, 1, none⟩ (.slice none 0 0)).setCell ⟨w.heap.size + 1, 2, none⟩ (.slice none 0 0)) := (Ext.setCell (p := ⟨w.heap.size + 1, 2, none⟩) (Ext.setCell (p := ⟨w.heap.size + 1, 1, none⟩) (Ext.setCell (p := ⟨w.heap.size + 1, 0, none⟩) Xr (by first | (simp; done) | (simp; omega) | omega) (.int .i64 0)) (by first | (simp; done) | (simp; omega) | omega) (.slice none 0 0)) (by first | (simp; done) | (simp; omega) | omega) (.slice none 0 0))
                replace b10 := Kw3.cell (by omega) b10
                replace b11 := Kw3.cell (by omega) b11
                replace b12 := Kw3.cell (by omega) b12
                have n_b20 : (((wr.setCell ⟨w.heap.size + 1, 0, none⟩ (.int .i64 0)).setCell ⟨w.heap.size + 1, 1, none⟩ (.slice none 0 0)).setCell ⟨w.heap.size + 1, 2, none⟩ (.slice none 0 0)).cell? ⟨w.heap.size + 1, 0, none⟩ = some (.int .i64 0) := by go_simp
                have n_f_b20 : (((wr.setCell ⟨w.heap.size + 1, 0, none⟩ (.int .i64 0)).setCell ⟨w.heap.size + 1, 1, none⟩ (.slice none 0 0)).setCell ⟨w.heap.size + 1, 2, none⟩ (.slice none 0 0)).frozen? ⟨w.heap.size + 1, 0, none⟩ = false := by go_simp
                have n_b21 : (((wr.setCell ⟨w.heap.size + 1, 0, none⟩ (.int .i64 0)).setCell ⟨w.heap.size + 1, 1, none⟩ (.slice none 0 0)).setCell ⟨w.heap.size + 1, 2, none⟩ (.slice none 0 0)).cell? ⟨w.heap.size + 1, 1, none⟩ = some (.slice none 0 0) := by go_simp
                have n_f_b21 : (((wr.setCell ⟨w.heap.size + 1, 0, none⟩ (.int .i64 0)).setCell ⟨w.heap.size + 1, 1, none⟩ (.slice none 0 0)).setCell ⟨w.heap.size + 1, 2, none⟩ (.slice none 0 0)).frozen? ⟨w.heap.size + 1, 1, none⟩ = false := by go_simp
                have n_b22 : (((wr.setCell ⟨w.heap.size + 1, 0, none⟩ (.int .i64 0)).setCell ⟨w.heap.size + 1, 1, none⟩ (.slice none 0 0)).setCell ⟨w.heap.size + 1, 2, none⟩ (.slice none 0 0)).cell? ⟨w.heap.size + 1, 2, none⟩ = some (.slice none 0 0) := by go_simp
                have n_f_b22 : (((wr.setCell ⟨w.heap.size + 1, 0, none⟩ (.int .i64 0)).setCell ⟨w.heap.size + 1, 1, none⟩ (.slice none 0 0)).setCell ⟨w.heap.size + 1, 2, none⟩ (.slice none 0 0)).frozen? ⟨w.heap.size + 1, 2, none⟩ = false := by go_simp
                replace b20 := n_b20
                clear n_b20
                replace f_b20 := n_f_b20
                clear n_f_b20
                replace b21 := n_b21
                clear n_b21
                replace f_b21 := n_f_b21
                clear n_f_b21
                replace b22 := n_b22
                clear n_b22
                replace f_b22 := n_f_b22
                clear n_f_b22
                replace b50 := Kw3.cell (by omega) b50
                replace f_b50 := Kw3.frzO (by omega) z_b5 f_b50
                replace b51 := Kw3.cell (by omega) b51
                replace f_b51 := Kw3.frzO (by omega) z_b5 f_b51
                replace b52 := Kw3.cell (by omega) b52
                replace f_b52 := Kw3.frzO (by omega) z_b5 f_b52
                replace e80 := Kw3.cell (by omega) e80
                replace T := T.chg Kw3 (by omega)
                clear Kw3
                have z_b1 : w.heap.size < (((wr.setCell ⟨w.heap.size + 1, 0, none⟩ (.int .i64 0)).setCell ⟨w.heap.size + 1, 1, none⟩ (.slice none 0 0)).setCell ⟨w.heap.size + 1, 2, none⟩ (.slice none 0 0)).heap.size := World.block_lt_of_cell? _ _ b10
                have z_b2 : w.heap.size + 1 < (((wr.setCell ⟨w.heap.size + 1, 0, none⟩ (.int .i64 0)).setCell ⟨w.heap.size + 1, 1, none⟩ (.slice none 0 0)).setCell ⟨w.heap.size + 1, 2, none⟩ (.slice none 0 0)).heap.size := World.block_lt_of_cell? _ _ b20
                have z_b5 : w1.heap.size < (((wr.setCell ⟨w.heap.size + 1, 0, none⟩ (.int .i64 0)).setCell ⟨w.heap.size + 1, 1, none⟩ (.slice none 0 0)).setCell ⟨w.heap.size + 1, 2, none⟩ (.slice none 0 0)).heap.size := World.block_lt_of_cell? _ _ b50
                have z_e8 : bl6 < (((wr.setCell ⟨w.heap.size + 1, 0, none⟩ (.int .i64 0)).setCell ⟨w.heap.size + 1, 1, none⟩ (.slice none 0 0)).setCell ⟨w.heap.size + 1, 2, none⟩ (.slice none 0 0)).heap.size := World.block_lt_of_cell? _ _ e80
                have s_w3 : w.heap.size ≤ (((wr.setCell ⟨w.heap.size + 1, 0, none⟩ (.int .i64 0)).setCell ⟨w.heap.size + 1, 1, none⟩ (.slice none 0 0)).setCell ⟨w.heap.size + 1, 2, none⟩ (.slice none 0 0)).heap.size := Xw3.size
                generalize (((wr.setCell ⟨w.heap.size + 1, 0, none⟩ (.int .i64 0)).setCell ⟨w.heap.size + 1, 1, none⟩ (.slice none 0 0)).setCell ⟨w.heap.size + 1, 2, none⟩ (.slice none 0 0)) = w3 at *
                refine bodyPost_ret (v := .tuple #[.agg #[.int .i64 0, .slice none 0 0, .slice none 0 0], .bool false]) (by simp only [results, Try.results19]; go_simp) rfl ?_
                rw [show permV b1 s1 t1 ord = noV by unfold permV; rw [hB3.out, ord_no hlt hv9.out (.inr (.inr hB13.out)), Bool.and_false] <;> rfl]
                exact PViewB.no (Xw3.trans (by repeat (first | (with_reducible assumption) | (with_reducible refine Ext.setCell ?_ (by first | (simp; done) | (simp; omega) | omega) _) | (with_reducible apply Ext.alloc) | (with_reducible apply Ext.drew) | (with_reducible apply Ext.drewN) | (with_reducible exact Ext.refl _))))
        · have hkI : ¬ (k : Int) < ord.length := by omega
          obtain rfl : k = ord.length := by omega
          rw [List.take_length] at T
          obtain ⟨a5, c5, rfl⟩ := (T.o1.ints (by rw [takL_len]; omega)).form
          obtain ⟨a6, c6, rfl⟩ := (T.o2.ints (by rw [takL_len]; omega)).form
          simp only [takL_len] at b51 b52 T
          go_wp2_with fail
          have Kw3 : Chg (w.heap.size + 1) (w.heap.size + 1 + 1) wr (((wr.setCell ⟨w.heap.size + 1, 0, none⟩ (.int .i64 b1)).setCell ⟨w.heap.size + 1, 1, none⟩ (.slice a5 ord.length c5)).setCell ⟨w.heap.size + 1, 2, none⟩ (.slice a6 ord.length c6)) := (Chg.setCell (p := ⟨w.heap.size + 1, 2, none⟩) (Chg.setCell (p := ⟨w.heap.size + 1, 1, none⟩) (Chg.setCell (p := ⟨w.heap.size + 1, 0, none⟩) (Chg.refl (w.heap.size + 1) (w.heap.size + 1 + 1) _) (Nat.le_refl _) (Nat.lt_succ_self _) (.int .i64 b1)) (Nat.le_refl _) (Nat.lt_succ_self _) (.slice a5 ord.length c5)) (Nat.le_refl _) (Nat.lt_succ_self _) (.slice a6 ord.length c6))
          have Xw3 : Ext w (((wr.setCell ⟨w.heap.size + 1, 0, none⟩ (.int .i64 b1)).setCell ⟨w.heap.size + 1, 1, none⟩ (.slice a5 ord.length c5)).setCell ⟨w.heap.size + 1, 2, none⟩ (.slice a6 ord.length c6)) := (Ext.setCell (p := ⟨w.heap.size + 1, 2, none⟩) (Ext.setCell (p := ⟨w.heap.size + 1, 1, none⟩) (Ext.setCell (p := ⟨w.heap.size + 1, 0, none⟩) Xr (by first | (simp; done) | (simp; omega) | omega) (.int .i64 b1)) (by first | (simp; done) | (simp; omega) | omega) (.slice a5 ord.length c5)) (by first | (simp; done) | (simp; omega) | omega) (.slice a6 ord.length c6))
          replace b10 := Kw3.cell (by omega) b10
          replace b11 := Kw3.cell (by omega) b11
          replace b12 := Kw3.cell (by omega) b12
          have n_b20 : (((wr.setCell ⟨w.heap.size + 1, 0, none⟩ (.int .i64 b1)).setCell ⟨w.heap.size + 1, 1, none⟩ (.slice a5 ord.length c5)).setCell ⟨w.heap.size + 1, 2, none⟩ (.slice a6 ord.length c6)).cell? ⟨w.heap.size + 1, 0, none⟩ = some (.int .i64 b1) := by go_simp
          have n_f_b20 : (((wr.setCell ⟨w.heap.size + 1, 0, none⟩ (.int .i64 b1)).setCell ⟨w.heap.size + 1, 1, none⟩ (.slice a5 ord.length c5)).setCell ⟨w.heap.size + 1, 2, none⟩ (.slice a6 ord.length c6)).frozen? ⟨w.heap.size + 1, 0, none⟩ = false := by go_simp
          have n_b21 : (((wr.setCell ⟨w.heap.size + 1, 0, none⟩ (.int .i64 b1)).setCell ⟨w.heap.size + 1, 1, none⟩ (.slice a5 ord.length c5)).setCell ⟨w.heap.size + 1, 2, none⟩ (.slice a6 ord.length c6)).cell? ⟨w.heap.size + 1, 1, none⟩ = some (.slice a5 ord.length c5) := by go_simp
          have n_f_b21 : (((wr.setCell ⟨w.heap.size + 1, 0, none⟩ (.int .i64 b1)).setCell ⟨w.heap.size + 1, 1, none⟩ (.slice a5 ord.length c5)).setCell ⟨w.heap.size + 1, 2, none⟩ (.slice a6 ord.length c6)).frozen? ⟨w.heap.size + 1, 1, none⟩ = false := by go_simp
          have n_b22 : (((wr.setCell ⟨w.heap.size + 1, 0, none⟩ (.int .i64 b1)).setCell ⟨w.heap.size + 1, 1, none⟩ (.slice a5 ord.length c5)).setCell ⟨w.heap.size + 1, 2, none⟩ (.slice a6 ord.length c6)).cell? ⟨w.heap.size + 1, 2, none⟩ = some (.slice a6 ord.length c6) := by go_simp
          have n_f_b22 : (((wr.setCell ⟨w.heap.size + 1, 0, none⟩ (.int .i64 b1)).setCell ⟨w.heap.size + 1, 1, none⟩ (.slice a5 ord.length c5)).setCell ⟨w.heap.size + 1, 2, none⟩ (.slice a6 ord.length c6)).frozen? ⟨w.heap.size + 1, 2, none⟩ = false := by go_simp
          replace b20 := n_b20
          clear n_b20
          replace f_b20 := n_f_b20
          clear n_f_b20
          replace b21 := n_b21
          clear n_b21
          replace f_b21 := n_f_b21
          clear n_f_b21
          replace b22 := n_b22
          clear n_b22
          replace f_b22 := n_f_b22
          clear n_f_b22
          replace b50 := Kw3.cell (by omega) b50
          replace f_b50 := Kw3.frzO (by omega) z_b5 f_b50
          replace b51 := Kw3.cell (by omega) b51
          replace f_b51 := Kw3.frzO (by omega) z_b5 f_b51
          replace b52 := Kw3.cell (by omega) b52
          replace f_b52 := Kw3.frzO (by omega) z_b5 f_b52
          replace T := T.chg Kw3 (by omega)
          clear Kw3
          have z_b1 : w.heap.size < (((wr.setCell ⟨w.heap.size + 1, 0, none⟩ (.int .i64 b1)).setCell ⟨w.heap.size + 1, 1, none⟩ (.slice a5 ord.length c5)).setCell ⟨w.heap.size + 1, 2, none⟩ (.slice a6 ord.length c6)).heap.size := World.block_lt_of_cell? _ _ b10
          have z_b2 : w.heap.size + 1 < (((wr.setCell ⟨w.heap.size + 1, 0, none⟩ (.int .i64 b1)).setCell ⟨w.heap.size + 1, 1, none⟩ (.slice a5 ord.length c5)).setCell ⟨w.heap.size + 1, 2, none⟩ (.slice a6 ord.length c6)).heap.size := World.block_lt_of_cell? _ _ b20
          have z_b5 : w1.heap.size < (((wr.setCell ⟨w.heap.size + 1, 0, none⟩ (.int .i64 b1)).setCell ⟨w.heap.size + 1, 1, none⟩ (.slice a5 ord.length c5)).setCell ⟨w.heap.size + 1, 2, none⟩ (.slice a6 ord.length c6)).heap.size := World.block_lt_of_cell? _ _ b50
          have s_w3 : w.heap.size ≤ (((wr.setCell ⟨w.heap.size + 1, 0, none⟩ (.int .i64 b1)).setCell ⟨w.heap.size + 1, 1, none⟩ (.slice a5 ord.length c5)).setCell ⟨w.heap.size + 1, 2, none⟩ (.slice a6 ord.length c6)).heap.size := Xw3.size
          generalize (((wr.setCell ⟨w.heap.size + 1, 0, none⟩ (.int .i64 b1)).setCell ⟨w.heap.size + 1, 1, none⟩ (.slice a5 ord.length c5)).setCell ⟨w.heap.size + 1, 2, none⟩ (.slice a6 ord.length c6)) = w3 at *
          refine bodyPost_ret (v := .tuple #[.agg #[.int .i64 b1, .slice a5 ord.length c5, .slice a6 ord.length c6], .bool true]) (by simp only [results, Try.results19]; go_simp) rfl ?_
          rw [show permV b1 s1 t1 ord = (b1, takL s1 ord, takL t1 ord, true) by unfold permV madeV; rw [hB3.out, ord_yes (by have := hos.out; omega) hok.out, (perm_view hB3.out (ord_yes (by have := hos.out; omega) hok.out)).1] <;> rfl]
          exact PViewB.two T (by omega) (by rw [takL_len]; omega) (by rw [takL_len]; omega) Xw3
    · have hc4e : ((ord.length : Int) == (s1.length : Int)) = false := by simpa using hc4
      have hc4n : ((ord.length : Int) != (s1.length : Int)) = true := by simpa using hc4
      replace hc4 := Lib.hid hc4
      go_wp2_with fail
      have Kw2 : Chg (w.heap.size + 1) (w.heap.size + 1 + 1) w1 (((w1.setCell ⟨w.heap.size + 1, 0, none⟩ (.int .i64 0)).setCell ⟨w.heap.size + 1, 1, none⟩ (.slice none 0 0)).setCell ⟨w.heap.size + 1, 2, none⟩ (.slice none 0 0)) := (Chg.setCell (p := ⟨w.heap.size + 1, 2, none⟩) (Chg.setCell (p := ⟨w.heap.size + 1, 1, none⟩) (Chg.setCell (p := ⟨w.heap.size + 1, 0, none⟩) (Chg.refl (w.heap.size + 1) (w.heap.size + 1 + 1) _) (Nat.le_refl _) (Nat.lt_succ_self _) (.int .i64 0)) (Nat.le_refl _) (Nat.lt_succ_self _) (.slice none 0 0)) (Nat.le_refl _) (Nat.lt_succ_self _) (.slice none 0 0))
      have Xw2 : Ext w (((w1.setCell ⟨w.heap.size + 1, 0, none⟩ (.int .i64 0)).setCell ⟨w.heap.size + 1, 1, none⟩ (.slice none 0 0)).setCell ⟨w.heap.size + 1, 2, none⟩ (.slice none 0 0)) := (Ext.setCell (p := ⟨w.heap.size + 1, 2, none⟩) (Ext.setCell (p := ⟨w.heap.size + 1, 1, none⟩) (Ext.setCell (p := ⟨w.heap.size + 1, 0, none⟩) Xw1 (by first | (simp; done) | (simp; omega) | omega) (.int .i64 0)) (by first | (simp; done) | (simp; omega) | omega) (.slice none 0 0)) (by first | (simp; done) | (simp; omega) | omega) (.slice none 0 0))
      replace b10 := Kw2.cell (by omega) b10
      replace b11 := Kw2.cell (by omega) b11
      replace b12 := Kw2.cell (by omega) b12
      have n_b20 : (((w1.setCell ⟨w.heap.size + 1, 0, none⟩ (.int .i64 0)).setCell ⟨w.heap.size + 1, 1, none⟩ (.slice none 0 0)).setCell ⟨w.heap.size + 1, 2, none⟩ (.slice none 0 0)).cell? ⟨w.heap.size + 1, 0, none⟩ = some (.int .i64 0) := by go_simp
      have n_f_b20 : (((w1.setCell ⟨w.heap.size + 1, 0, none⟩ (.int .i64 0)).setCell ⟨w.heap.size + 1, 1, none⟩ (.slice none 0 0)).setCell ⟨w.heap.size + 1, 2, none⟩ (.slice none 0 0)).frozen? ⟨w.heap.size + 1, 0, none⟩ = false := by go_simp
      have n_b21 : (((w1.setCell ⟨w.heap.size + 1, 0, none⟩ (.int .i64 0)).setCell ⟨w.heap.size + 1, 1, none⟩ (.slice none 0 0)).setCell ⟨w.heap.size + 1, 2, none⟩ (.slice none 0 0)).cell? ⟨w.heap.size + 1, 1, none⟩ = some (.slice none 0 0) := by go_simp
      have n_f_b21 : (((w1.setCell ⟨w.heap.size + 1, 0, none⟩ (.int .i64 0)).setCell ⟨w.heap.size + 1, 1, none⟩ (.slice none 0 0)).setCell ⟨w.heap.size + 1, 2, none⟩ (.slice none 0 0)).frozen? ⟨w.heap.size + 1, 1, none⟩ = false := by go_simp
      have n_b22 : (((w1.setCell ⟨w.heap.size + 1, 0, none⟩ (.int .i64 0)).setCell ⟨w.heap.size + 1, 1, none⟩ (.slice none 0 0)).setCell ⟨w.heap.size + 1, 2, none⟩ (.slice none 0 0)).cell? ⟨w.heap.size + 1, 2, none⟩ = some (.slice none 0 0) := by go_simp
      have n_f_b22 : (((w1.setCell ⟨w.heap.size + 1, 0, none⟩ (.int .i64 0)).setCell ⟨w.heap.size + 1, 1, none⟩ (.slice none 0 0)).setCell ⟨w.heap.size + 1, 2, none⟩ (.slice none 0 0)).frozen? ⟨w.heap.size + 1, 2, none⟩ = false := by go_simp
      replace b20 := n_b20
      clear n_b20
      replace f_b20 := n_f_b20
      clear n_f_b20
      replace b21 := n_b21
      clear n_b21
      replace f_b21 := n_f_b21
      clear n_f_b21
      replace b22 := n_b22
      clear n_b22
      replace f_b22 := n_f_b22
      clear n_f_b22
      clear Kw2
      have z_b1 : w.heap.size < (((w1.setCell ⟨w.heap.size + 1, 0, none⟩ (.int .i64 0)).setCell ⟨w.heap.size + 1, 1, none⟩ (.slice none 0 0)).setCell ⟨w.heap.size + 1, 2, none⟩ (.slice none 0 0)).heap.size := World.block_lt_of_cell? _ _ b10
      have z_b2 : w.heap.size + 1 < (((w1.setCell ⟨w.heap.size + 1, 0, none⟩ (.int .i64 0)).setCell ⟨w.heap.size + 1, 1, none⟩ (.slice none 0 0)).setCell ⟨w.heap.size + 1, 2, none⟩ (.slice none 0 0)).heap.size := World.block_lt_of_cell? _ _ b20
      have s_w2 : w.heap.size ≤ (((w1.setCell ⟨w.heap.size + 1, 0, none⟩ (.int .i64 0)).setCell ⟨w.heap.size + 1, 1, none⟩ (.slice none 0 0)).setCell ⟨w.heap.size + 1, 2, none⟩ (.slice none 0 0)).heap.size := Xw2.size
      generalize (((w1.setCell ⟨w.heap.size + 1, 0, none⟩ (.int .i64 0)).setCell ⟨w.heap.size + 1, 1, none⟩ (.slice none 0 0)).setCell ⟨w.heap.size + 1, 2, none⟩ (.slice none 0 0)) = w2 at *
      refine bodyPost_ret (v := .tuple #[.agg #[.int .i64 0, .slice none 0 0, .slice none 0 0], .bool false]) (by simp only [results, Try.results19]; go_simp) rfl ?_
      rw [show permV b1 s1 t1 ord = noV by unfold permV; rw [hB3.out, ord_len hc4.out, Bool.and_false] <;> rfl]
      exact PViewB.no (Xw2.trans (by repeat (first | (with_reducible assumption) | (with_reducible refine Ext.setCell ?_ (by first | (simp; done) | (simp; omega) | omega) _) | (with_reducible apply Ext.alloc) | (with_reducible apply Ext.drew) | (with_reducible apply Ext.drewN) | (with_reducible exact Ext.refl _))))


end Go.Proofs.Ytonnnjaooifpjaa

/- Walks: CountOf of the program. -/
namespace Go.Proofs.Ytonnnjaooifpjaa
open Go.RowKit
set_option linter.unusedVariables false
set_option maxRecDepth 100000


def cntA (s : List Int) : Int := if shapeB s then countL s else -1

set_option maxHeartbeats 1600000 in
theorem implCountOf_c (s : List Int) (v1 : Value) (w : World) (l1 : Nat) (h1 : Ints w l1 v1 s) :
    Calls Try.prog 34 #[v1] w (fun e w' => e = .returned (.int .i64 (cntA s)) ∧ w = w') := by
  obtain ⟨p0, c0, rfl⟩ := h1.form
  go_enter Try.func34, Try.ntmps34
  go_wp2_with fail
  refine (isShape_c s (.slice p0 s.length c0) _ _ (h1.ext (by repeat (first | (with_reducible assumption) | (with_reducible refine Ext.setCell ?_ (by first | (simp; done) | (simp; omega) | omega) _) | (with_reducible apply Ext.alloc) | (with_reducible apply Ext.drew) | (with_reducible apply Ext.drewN) | (with_reducible exact Ext.refl _))))).mono ?_
  rintro e w' ⟨rfl, rfl⟩
  cases hB1 : shapeB s
  · replace hB1 := Lib.hid hB1
    go_wp2_with fail
    go_ret
    exact ⟨by rw [show cntA s = -1 by unfold cntA; rw [hB1.out]; rfl] <;> rfl, rfl⟩
  · replace hB1 := Lib.hid hB1
    go_wp2_with fail
    refine (countOf_c s (.slice p0 s.length c0) _ _ (h1.ext (by repeat (first | (with_reducible assumption) | (with_reducible refine Ext.setCell ?_ (by first | (simp; done) | (simp; omega) | omega) _) | (with_reducible apply Ext.alloc) | (with_reducible apply Ext.drew) | (with_reducible apply Ext.drewN) | (with_reducible exact Ext.refl _))))).mono ?_
    rintro e w' ⟨rfl, rfl⟩
    go_wp2_with fail
    go_ret
    exact ⟨by rw [show cntA s = countL s by unfold cntA; rw [hB1.out]; rfl] <;> rfl, rfl⟩


end Go.Proofs.Ytonnnjaooifpjaa

/- Plain laws: orders and their inverses, cells of views with their dimensions in another order. -/
namespace Go.Proofs.Ytonnnjaooifpjaa
open Go.RowKit
set_option linter.unusedVariables false
set_option maxRecDepth 100000

theorem permV_in {b : Int} {s t ord : List Int} (h : (permV b s t ord).2.2.2 = true) : viewB b s t = true ∧ orderB ord s.length = true ∧ permV b s t ord = (b, takL s ord, takL t ord, true) ∧ viewB b (takL s ord) (takL t ord) = true := by
  cases hv : viewB b s t with
  | false => exact absurd h (by unfold permV; rw [hv]; simp [noV])
  | true =>
    cases ho : orderB ord s.length with
    | false => exact absurd h (by unfold permV; rw [hv, ho]; simp [noV])
    | true =>
      have h2 := (perm_view hv ho).1
      exact ⟨rfl, rfl, by unfold permV madeV; rw [hv, ho, h2]; rfl, h2⟩
theorem takL_get (L ord : List Int) (i : Nat) (hi : i < ord.length) : (takL L ord).getD i 0 = L.getD (ord.getD i 0).toNat 0 := by
  unfold takL; simp [hi]
/-- the inverse of an order -/
def invO (ord : List Int) : List Int := putL (List.replicate ord.length 0) ord (upL ord.length)
theorem inv_len (ord : List Int) : (invO ord).length = ord.length := by unfold invO putL; rw [putUp_len]; simp
theorem upL_get (n i : Nat) (h : i < n) : (upL n).getD i 0 = (i : Int) := by simp [upL, h]
theorem inv_at {ord : List Int} {n : Nat} (ho : orderB ord n = true) (i : Nat) (hi : i < n) : (invO ord).getD (ord.getD i 0).toNat 0 = (i : Int) := by
  obtain ⟨h1, h2, h3⟩ := orderB_in ho
  unfold invO
  rw [put_last _ _ _ (fun x hx => by have := h2 x hx; simp; omega) i (by omega) ?_, upL_get _ _ (by omega)]
  cases hc : (ord.drop (i + 1)).contains (ord.getD i 0) with
  | false => rfl
  | true =>
    have hm := List.contains_iff_mem.1 hc
    have hd : ord.drop i = ord.getD i 0 :: ord.drop (i+1) := by rw [List.drop_eq_getElem_cons (by omega)]; simp [show i < ord.length by omega]
    have hn : (ord.drop i).Nodup := h3.sublist (List.drop_sublist _ _)
    rw [hd, List.nodup_cons] at hn
    exact absurd hm hn.1
theorem ord_idx {ord : List Int} {n : Nat} (ho : orderB ord n = true) (j : Nat) (hj : j < n) : ∃ i, i < n ∧ ord.getD i 0 = (j : Int) := by
  have hm : (j : Int) ∈ ord := (order_perm ho).mem_iff.2 ((upL_mem n j).2 (by omega))
  obtain ⟨i, hi, he⟩ := List.mem_iff_getElem.1 hm
  have := (orderB_in ho).1
  exact ⟨i, by omega, by simp [hi, he]⟩
theorem inv_take {ord L : List Int} {n : Nat} (ho : orderB ord n = true) (hL : L.length = n) : takL (takL L ord) (invO ord) = L := by
  have h1 := (orderB_in ho).1
  apply List.ext_getElem
  · rw [takL_len, inv_len]; omega
  · intro j h2 h3
    have hj : j < n := by omega
    obtain ⟨i, hi, he⟩ := ord_idx ho j hj
    have e1 : (takL (takL L ord) (invO ord))[j] = (takL (takL L ord) (invO ord)).getD j 0 := by simp [h2]
    have e2 := inv_at ho i hi
    rw [he, Int.toNat_natCast] at e2
    rw [e1, takL_get _ _ _ (by rw [inv_len]; omega), e2, Int.toNat_natCast, takL_get _ _ _ (by omega), he, Int.toNat_natCast]
    simp [h3]
theorem inv_order {ord : List Int} {n : Nat} (ho : orderB ord n = true) : orderB (invO ord) n = true := by
  have h1 := (orderB_in ho).1
  have hv : ∀ j, j < n → ∃ i, i < n ∧ (invO ord).getD j 0 = (i : Int) ∧ ord.getD i 0 = (j : Int) := by
    intro j hj
    obtain ⟨i, hi, he⟩ := ord_idx ho j hj
    have e2 := inv_at ho i hi
    rw [he, Int.toNat_natCast] at e2
    exact ⟨i, hi, e2, he⟩
  have hl := inv_len ord
  have hg : ∀ j (h : j < (invO ord).length), (invO ord)[j] = (invO ord).getD j 0 := fun j h => by simp [h]
  refine order_of (perm_of_sub _ _ ?_ (upL_nodup n) ?_ (by rw [hl, h1, upL_len]))
  · rw [List.nodup_iff_pairwise_ne, List.pairwise_iff_getElem]
    intro i j hi hj hij he
    rw [hg i hi, hg j hj] at he
    obtain ⟨a, ha, a1, a2⟩ := hv i (by omega)
    obtain ⟨c, hc, c1, c2⟩ := hv j (by omega)
    rw [a1, c1] at he
    have : a = c := by omega
    subst this
    rw [a2] at c2; omega
  · intro x hx
    obtain ⟨j, hj, he⟩ := List.mem_iff_getElem.1 hx
    obtain ⟨i, hi, e1, _⟩ := hv j (by omega)
    rw [← he, hg j hj, e1, upL_mem]; omega
theorem dotC_sum : ∀ (r t : List Int) (b : Int), dotC b r t = b + ((r.zip t).map fun p => p.1 * p.2).sum
  | [], t, b => by cases t <;> simp [dotC]
  | x :: r, [], b => by simp [dotC]
  | x :: r, y :: t, b => by simp only [dotC, List.zip_cons_cons, List.map_cons, List.sum_cons]; rw [dotC_sum r t b]; omega
theorem dot_perm {b : Int} {r t ord : List Int} (hl : t.length = r.length) (ho : orderB ord r.length = true) : dotC b (takL r ord) (takL t ord) = dotC b r t := by
  rw [dotC_sum, dotC_sum, perm_sum ((zip_perm hl ho).map _)]
theorem ix_perm {s r ord : List Int} (h : IxOf s r) (ho : orderB ord s.length = true) : IxOf (takL s ord) (takL r ord) := by
  have hl := h.len
  rw [ixOf_ok _ _ (by rw [takL_len, takL_len])]
  rw [ixOf_ok _ _ hl] at h
  intro j hj
  rw [takL_len] at hj
  rw [takL_get _ _ _ hj, takL_get _ _ _ hj]
  have := (orderB_in ho).2.1 _ (getD_mem hj)
  exact h _ (by omega)
theorem perm_law {b : Int} {s t ord : List Int} (h : (permV b s t ord).2.2.2 = true) :
    permV b s t ord = (b, takL s ord, takL t ord, true) ∧ ord.length = s.length ∧ s.length ≤ 4 ∧ (∀ x ∈ ord, 0 ≤ x ∧ x < s.length) ∧ t.length = s.length ∧
    permV b (takL s ord) (takL t ord) (invO ord) = (b, s, t, true) ∧ shapeB s = true ∧ (0 ≤ countL s ∧ countL s ≤ 60) ∧
    (∀ k : Nat, (k : Int) < countL s → (idxA s k).length = s.length ∧ okA b (takL s ord) (takL t ord) (takL (idxA s k) ord) = true ∧ okA b s t (idxA s k) = true ∧ atA b (takL s ord) (takL t ord) (takL (idxA s k) ord) = atA b s t (idxA s k)) := by
  obtain ⟨hv, ho, he, hv2⟩ := permV_in h
  obtain ⟨h1, h2, h3⟩ := orderB_in ho
  have hs := view_small hv
  obtain ⟨g1, g2, -⟩ := viewB_in hv
  have hc := shapeB_in g1
  have hlt : t.length = s.length := g2
  have hp2 : permV b (takL s ord) (takL t ord) (invO ord) = (b, s, t, true) := by
    unfold permV madeV
    rw [hv2, takL_len, h1, inv_order ho, inv_take ho rfl, inv_take ho hlt, hv]; rfl
  refine ⟨he, h1, hs.1, h2, hlt, hp2, g1, by omega, fun k hk => ?_⟩
  have hix : IxOf s (unrL s k).1 := ix_unr s (hs.count.2.2.2 (by omega)) k
  have ei : idxA s (k : Int) = (unrL s k).1 := by unfold idxA; rw [g1, if_pos (by simp only [Bool.true_and, Bool.and_eq_true, decide_eq_true_eq]; omega)]
  rw [ei]
  have hix2 := ix_perm hix ho
  have o1 : okA b s t (unrL s k).1 = true := by unfold okA; rw [hv, (ixB_iff _ _).2 hix]; rfl
  have o2 : okA b (takL s ord) (takL t ord) (takL (unrL s k).1 ord) = true := by unfold okA; rw [hv2, (ixB_iff _ _).2 hix2]; rfl
  have hil := hix.len
  refine ⟨hil, o2, o1, ?_⟩
  unfold atA
  rw [if_pos o1, if_pos o2, dot_ix hv hix, dot_ix hv2 hix2]
  exact dot_perm (by omega) (by rw [hil]; exact ho)

end Go.Proofs.Ytonnnjaooifpjaa
